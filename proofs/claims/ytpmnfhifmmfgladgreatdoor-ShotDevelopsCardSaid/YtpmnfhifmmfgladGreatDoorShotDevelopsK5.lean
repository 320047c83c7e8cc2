/- Parts of the proof. -/
import Derived.Test.YtpmnfhifmmfgladGreatDoorShotDevelopsK3
import Derived.Test.YtpmnfhifmmfgladGreatDoorShotDevelopsK4
set_option linter.unusedVariables false
set_option linter.unusedSimpArgs false
set_option linter.unusedSectionVars false
set_option maxRecDepth 100000
set_option maxHeartbeats 8000000
open Go.IntKind renaming i64→aC,u8→iH
open Int renaming tdiv→gI,tmod→mN
namespace Go.Proofs.YtpmnfhifmmfgladGreatDoor
section
def lG (N:Nat) (YI:aR) (n:Int):Option (Option FR):=
 cond (decide (n<0)) (
 some none) (
 cond (decide ((YI.length:Int)<n)) (
 some none) (
 (Fs YI 0 n).bind fun s=>
 (Fs YI n (YI.length:Int)).bind fun s2=>
 some (some (s,s2))))
def lU (N:Nat) (r2:FR) (kk:aN→Option (Option HD)):Nat→aN→Option (Option HD)
 | 0,_=>none
 | aA+1,(n,i)=>
  cond (decide (i<(((rT r2.1).length:Int)))) (
  (idx (rT r2.1) i).bind fun e2=>
  (some (Ir .i64 (qF .i64 n 8) (aC.wrap e2))).bind fun n3=>
  lU N r2 kk aA (n3,aC.wrap (i+1))) (
  kk (n,i))
def aS (N:Nat) (YI:aR):Option (Option HD):=
 (lG N YI 4).bind fun q=>Gc q (
 some none) fun r2=>
 lU N r2 (fun (n4,i2)=>
 some (some (aC.wrap (IntKind.i32.wrap n4),r2.2))) N (0,0)
def u4 (N:Nat) (lens:List Int) (kk:aN→Option Int):Nat→aN→Option Int
 | 0,_=>none
 | aA+1,(room,i)=>
  cond (decide (i<(lens.length:Int))) (
  (idx lens i).bind fun e2=>
  cond (decide (e2<0)) (
  some 3) (
  cond (decide (15<e2)) (
  some 3) (
  cond (decide (0<e2)) (
  (nn (aC.wrap (15-e2))).bind fun _=>
  (some (aC.wrap (room-(qF .i64 1 (aC.wrap (15-e2)))))).bind fun aDC=>
  u4 N lens kk aA (aDC,aC.wrap (i+1))) (
  u4 N lens kk aA (room,aC.wrap (i+1)))))) (
  kk (room,i))
def zU (N:Nat) (lens:List Int):Option Int:=
 cond (decide ((lens.length:Int)<1)) (
 some 2) (
 cond (decide (17<(lens.length:Int))) (
 some 2) (
 u4 N lens (fun (Tz,i2)=>
 cond (decide (Tz<0)) (
 some 1) (
 cond (decide (Tz=32768)) (
 some 1) (
 some 0))) N (32768,0)))
def EQ (N:Nat) (sV cU:Int) (Gj:Bool→Option Int):Option Int:=
  cond (decide (cU<1)) (
  Gj (decide (cU<1))) (
  Gj (decide (sV<cU)))
def ES (N:Nat) (sV cP cU:Int) (Gk:Bool→Option Int):Option Int:=
  cond (decide (16<cP)) (
  Gk (decide (16<cP))) (
  EQ N sV cU (fun Yo=>
  Gk Yo))
def ET (N:Nat) (sV cP cU:Int) (Gl:Bool→Option Int):Option Int:=
  cond (decide (cP<1)) (
  Gl (decide (cP<1))) (
  ES N sV cP cU (fun i12=>
  Gl i12))
def EU (N:Nat) (sV cP cU:Int) (Gm:Bool→Option Int):Option Int:=
  cond (decide (64<sV)) (
  Gm (decide (64<sV))) (
  ET N sV cP cU (fun EV=>
  Gm EV))
def EW (N:Nat) (sV cP cU:Int) (Gn:Bool→Option Int):Option Int:=
  cond (decide (sV<1)) (
  Gn (decide (sV<1))) (
  EU N sV cP cU (fun i8=>
  Gn i8))
def EX (N:Nat) (v8 sV cP cU:Int) (Gp:Bool→Option Int):Option Int:=
  cond (decide (64<v8)) (
  Gp (decide (64<v8))) (
  EW N sV cP cU (fun i6=>
  Gp i6))
def EY (N:Nat) (d7:Int) (Gq:Bool→Option Int):Option Int:=
  cond (decide (d7<0)) (
  Gq (decide (d7<0))) (
  Gq (decide (7<d7)))
def EZ (N:Nat) (v8 sV cP cU:Int) (Gr:Bool→Option Int):Option Int:=
  cond (decide (v8<1)) (
  Gr (decide (v8<1))) (
  EX N v8 sV cP cU (fun i4=>
  Gr i4))
def Ek (N:Nat) (v8 sV cP d7 cU:Int) (dE:List Int) (bX:List aR) (bN bE bF bG bH bO:Int) (aO:List aN) (bI bJ bK aV aW aX aY aZ bA bB bC bD:Int) (aP:List aN) (bL:Int):Option Int:=
 EZ N v8 sV cP cU (fun i2=>
 cond (i2) (
 some 3) (
 EY N d7 (fun i16=>
 cond (i16) (
 some 6) (
 cond (decide (0<d7)) (
 (zU N dE).bind fun r2=>
 some r2) (
 cond (decide (0<(dE.length:Int))) (
 some 1) (
 some 0))))))
def xA (N:Nat) (sV cU:Int) (kk:Km→Option (List aN)):Nat→Km→Option (List aN)
 | 0,_=>none
 | aA+1,(l3,y2)=>
  cond (decide (y2<sV)) (
  (app 16 l3 (([(y2,min cU (aC.wrap (sV-y2)))]:List aN))).bind fun l5=>
  (some (aC.wrap (y2+cU))).bind fun y4=>
  xA N sV cU kk aA (l5,y4)) (
  kk (l3,y2))
def DC (N:Nat) (v8 sV cP d7 cU:Int) (dE:List Int) (bX:List aR) (bN bE bF bG bH bO:Int) (aO:List aN) (bI bJ bK aV aW aX aY aZ bA bB bC bD:Int) (aP:List aN) (bL:Int):Option (List aN):=
 xA N sV cU (fun (l6,y5)=>
 some l6) N (([]:List aN),0)
def HI (N:Nat) (n v0 v1:Int):Option Bool:=
 cond (decide (n<v0)) (
 some true) (
 some (decide (v1<n)))
def eS (N:Nat) (s:List Int) (Gs Gt:Int) (kk:Int→Option Int):Nat→Int→Option Int
 | 0,_=>none
 | aA+1,i=>
  cond (decide (i<(s.length:Int))) (
  (idx s i).bind fun e2=>
  (HI N e2 Gs Gt).bind fun r3=>
  cond (r3) (
  some i) (
  eS N s Gs Gt kk aA (aC.wrap (i+1)))) (
  kk i)
def lH (N:Nat) (s:List Int) (Gs Gt:Int):Option Int:=
 eS N s Gs Gt (fun i2=>
 some ((-1))) N 0
def kE (N:Nat) (s:List Int) (Gs Gt:Int):Option Bool:=
 (lH N s Gs Gt).bind fun r2=>
 some (decide (0≤r2))
def rX (N:Nat) (low high:Int) (l2:List Int):Option Bool:=
 (kE N l2 low high).bind fun r2=>
 some (!(r2))
def AZ (N:Nat) (s_X s_Y v0 v1:Int):Option Bool:=
 (rX N 0 (aC.wrap (v0-1)) ([s_X]:List Int)).bind fun r2=>
 cond (!(r2)) (
 some true) (
 (rX N 0 (aC.wrap (v1-1)) ([s_Y]:List Int)).bind fun r3=>
 some (!(r3)))
def cO (N:Nat) (s:List aN) (yR yS:Int) (kk:Int→Option Int):Nat→Int→Option Int
 | 0,_=>none
 | aA+1,i=>
  cond (decide (i<(s.length:Int))) (
  (idx s i).bind fun e2=>
  (AZ N e2.1 e2.2 yR yS).bind fun r3=>
  cond (r3) (
  some i) (
  cO N s yR yS kk aA (aC.wrap (i+1)))) (
  kk i)
def f7 (N:Nat) (s:List aN) (yR yS:Int):Option Int:=
 cO N s yR yS (fun i2=>
 some ((-1))) N 0
def fJ (N:Nat) (s:List aN) (yR yS:Int):Option Bool:=
 (f7 N s yR yS).bind fun r2=>
 some (decide (0≤r2))
def BM (N:Nat) (l2:List aN) (w2 h2:Int):Option Bool:=
 (fJ N l2 w2 h2).bind fun r2=>
 some (!(r2))
def xB (N:Nat) (d l2:List aN) (kk:Int→Option Bool):Nat→Int→Option Bool
 | 0,_=>none
 | aA+1,i=>
  cond (decide (i<(l2.length:Int))) (
  (idx d i).bind fun e9=>
  (idx d (aC.wrap (i+1))).bind fun e10=>
  cond (decide (e10.1≤e9.1)) (
  some false) (
  (idx d i).bind fun e11=>
  (idx d (aC.wrap (i+1))).bind fun e12=>
  cond (decide (e12.2<e11.2)) (
  some false) (
  xB N d l2 kk aA (aC.wrap (i+1))))) (
  kk i)
def jP (N:Nat) (d:List aN):Option Bool:=
 cond (decide ((d.length:Int)<2)) (
 some false) (
 cond (decide (16<(d.length:Int))) (
 some false) (
 (idx d 0).bind fun e=>
 cond (!decide (e.1=0)) (
 some false) (
 (idx d (aC.wrap ((d.length:Int)-1))).bind fun e2=>
 cond (!decide (e2.1=65535)) (
 some false) (
 (idx d 0).bind fun e3=>
 cond (decide (e3.2<0)) (
 some false) (
 (idx d (aC.wrap ((d.length:Int)-1))).bind fun e4=>
 cond (decide (65535<e4.2)) (
 some false) (
 (Fs d 1 (d.length:Int)).bind fun l2=>
 xB N d l2 (fun i2=>
 some true) N 0))))))
def HJ (N:Nat) (i:Int) (v0:List aN) (v1:Int):Option Bool:=
 (idx v0 i).bind fun e=>
 some (decide (v1<e.1))
def fT (N:Nat) (H4:List aN) (Ku:Int) (kk:aN→Option Int):Nat→aN→Option Int
 | 0,_=>none
 | aA+1,(i,j)=>
  cond (decide (i<j)) (
  (some (aC.wrap (jN .u64 (IntKind.u64.wrap (aC.wrap (i+j))) 1))).bind fun h3=>
  (HJ N h3 H4 Ku).bind fun r3=>
  cond (!(r3)) (
  (some (aC.wrap (h3+1))).bind fun i3=>
  fT N H4 Ku kk aA (i3,j)) (
  fT N H4 Ku kk aA (i,h3))) (
  kk (i,j))
def tP (N:Nat) (n:Int) (H4:List aN) (Ku:Int):Option Int:=
 fT N H4 Ku (fun (i4,j2)=>
 some i4) N (0,n)
def yT (N:Nat) (l2:List aN) (x2:Int):Option Int:=
 (tP N (l2.length:Int) l2 x2).bind fun r2=>
 cond (decide (r2=(l2.length:Int))) (
 (idx l2 (aC.wrap (r2-1))).bind fun e=>
 some e.2) (
 (idx l2 (aC.wrap (r2-1))).bind fun e2=>
 (idx l2 r2).bind fun e3=>
 (nz (aC.wrap (e3.1-e2.1))).bind fun _=>
 (some (aC.wrap (e2.2+(aC.wrap (gI (aC.wrap ((aC.wrap (e3.2-e2.2))*(aC.wrap (x2-e2.1)))) (aC.wrap (e3.1-e2.1))))))).bind fun x3=>
 some x3)
def DD (N:Nat) (l2:List aN) (x2:Int):Option aN:=
 (jP N l2).bind fun r2=>
 cond (!(r2)) (
 some (0,1)) (
 cond (decide (x2<0)) (
 some (0,3)) (
 cond (decide (65535<x2)) (
 some (0,3)) (
 (yT N l2 x2).bind fun r3=>
 some (r3,0))))
def xI (N:Nat) (na nb0 DZ D0 D1 nc:Int) (nd:List aN) (D5 ne1 El Em En Eo Ep Er Es Et Eu nf8:Int) (ng:List aN) (nh:Int):Option Int:=
 (rX N 0 3 ([na]:List Int)).bind fun r2=>
 cond (!(r2)) (
 some 3) (
 (rX N 1 65535 ([nc]:List Int)).bind fun r3=>
 cond (!(r3)) (
 some 3) (
 (rX N 0 (aC.wrap (nc-1)) ([nb0,DZ,D0,D1])).bind fun r4=>
 cond (!(r4)) (
 some 3) (
 cond (decide (64<(nd.length:Int))) (
 some 3) (
 (BM N nd 64 64).bind fun r5=>
 cond (!(r5)) (
 some 3) (
 (rX N 0 65535 ([D5,ne1,El])).bind fun r6=>
 cond (!(r6)) (
 some 3) (
 (rX N (-32768) 32768 ([Em,En,Eo,Ep,Er,Es,Et,Eu,nf8])).bind fun r7=>
 cond (!(r7)) (
 some 3) (
 (rX N 0 1024 ([nh]:List Int)).bind fun r8=>
 cond (!(r8)) (
 some 3) (
 (DD N ng 0).bind fun r9=>
 some r9.2))))))))
def FW (N:Nat) (s_X s_Y Dt Fc QM UN UO:Int) (M9:List Int) (Iv:List aR) (H5 Gu Gv Gw Gx H6:Int) (Cj:List aN) (Gy Gz GA Ft Fu Fv Fw Fx Fy Fz FA FB:Int) (Ck:List aN) (GB:Int):Option Bool:=
 cond (decide (Dt≤s_X)) (
 some true) (
 some (decide (Fc≤s_Y)))
def cQ (N:Nat) (s:List aN) (v9 wA pC qQ qR:Int) (lM:List Int) (jF:List aR) (jJ iR iS iT iU jK:Int) (eT:List aN) (iV iW iX gY gZ g7 g8 g9 hF hG hU hZ:Int) (eU:List aN) (iY:Int) (kk:Int→Option Int):Nat→Int→Option Int
 | 0,_=>none
 | aA+1,i=>
  cond (decide (i<(s.length:Int))) (
  (idx s i).bind fun e2=>
  (FW N e2.1 e2.2 v9 wA pC qQ qR lM jF jJ iR iS iT iU jK eT iV iW iX gY gZ g7 g8 g9 hF hG hU hZ eU iY).bind fun r3=>
  cond (r3) (
  some i) (
  cQ N s v9 wA pC qQ qR lM jF jJ iR iS iT iU jK eT iV iW iX gY gZ g7 g8 g9 hF hG hU hZ eU iY kk aA (aC.wrap (i+1)))) (
  kk i)
def gJ (N:Nat) (s:List aN) (v9 wA pC qQ qR:Int) (lM:List Int) (jF:List aR) (jJ iR iS iT iU jK:Int) (eT:List aN) (iV iW iX gY gZ g7 g8 g9 hF hG hU hZ:Int) (eU:List aN) (iY:Int):Option Int:=
 cQ N s v9 wA pC qQ qR lM jF jJ iR iS iT iU jK eT iV iW iX gY gZ g7 g8 g9 hF hG hU hZ eU iY (fun i2=>
 some ((-1))) N 0
def dN (N:Nat) (s:List aN) (v9 wA pC qQ qR:Int) (lM:List Int) (jF:List aR) (jJ iR iS iT iU jK:Int) (eT:List aN) (iV iW iX gY gZ g7 g8 g9 hF hG hU hZ:Int) (eU:List aN) (iY:Int):Option Bool:=
 (gJ N s v9 wA pC qQ qR lM jF jJ iR iS iT iU jK eT iV iW iX gY gZ g7 g8 g9 hF hG hU hZ eU iY).bind fun r2=>
 some (decide (0≤r2))
def Ev (N:Nat) (v8 sV cP d7 cU:Int) (dE:List Int) (bX:List aR) (bN bE bF bG bH bO:Int) (aO:List aN) (bI bJ bK aV aW aX aY aZ bA bB bC bD:Int) (aP:List aN) (bL:Int):Option Int:=
 (xI N bN bE bF bG bH bO aO bI bJ bK aV aW aX aY aZ bA bB bC bD aP bL).bind fun r2=>
 cond (!decide (r2=0)) (
 some r2) (
 (dN N aO v8 sV cP d7 cU dE bX bN bE bF bG bH bO aO bI bJ bK aV aW aX aY aZ bA bB bC bD aP bL).bind fun r3=>
 cond (r3) (
 some 3) (
 some 0))
def Ax (N:Nat) (n:Int):Option Bool:=
 cond (decide (1≤n)) (
 some (decide (n≤16))) (
 some false)
def vT (N:Nat) (o p2:Int) (kk:JI→Option gL):Nat→JI→Option gL
 | 0,_=>none
 | aA+1,(l8,i8,i9)=>
  cond (decide (o≤i9)) (
  cond (decide ((l8.length:Int)<p2)) (
  (some (aC.wrap (i9-o))).bind fun Oh=>
  (nn Oh).bind fun _=>
  (app 8 l8 ([jN .i64 i8 Oh]:List Int)).bind fun l10=>
  (nn Oh).bind fun _=>
  (some (BJ .i64 i8 (aC.wrap ((qF .i64 1 Oh)-1)))).bind fun YJ=>
  vT N o p2 kk aA (l10,YJ,Oh)) (
  kk (l8,i8,i9))) (
  kk (l8,i8,i9))
def vU (N:Nat) (d:aR) (o p2:Int) (kk:Qx→Option gL):Nat→Qx→Option gL
 | 0,_=>none
 | aA+1,(l5,i3,i4,i5)=>
  cond (decide (i5<(d.length:Int))) (
  (idx d i5).bind fun b3=>
  (some (Ir .i64 (qF .i64 i3 8) (aC.wrap (b3.toNat:Int)))).bind fun FX=>
  (some (aC.wrap (i4+8))).bind fun Sv=>
  vT N o p2 (fun (Qa,EV,i11)=>
  vU N d o p2 kk aA (Qa,EV,i11,aC.wrap (i5+1))) N (l5,FX,Sv)) (
  kk (l5,i3,i4,i5))
def Cl (N:Nat) (d:aR) (o p2:Int):Option gL:=
 (Ax N o).bind fun r2=>
 cond (!(r2)) (
 some (([]:List Int),3)) (
 cond (decide (p2<0)) (
 some (([]:List Int),3)) (
 cond (decide (4096<p2)) (
 some (([]:List Int),2)) (
 cond (!decide ((d.length:Int)=(aC.wrap (gI (aC.wrap ((aC.wrap (p2*o))+7)) 8)))) (
 some (([]:List Int),1)) (
 vU N d o p2 (fun (l12,i12,Na,Yo)=>
 cond (!decide (i12=0)) (
 some (([]:List Int),1)) (
 some (l12,0))) N (([]:List Int),0,0,0)))))
def Aj (N:Nat) (x2:Int):Option Bool:=
 some (!decide (x2=x2))
def AH (N:Nat) (x2 y:Int):Option Int:=
 (Aj N x2).bind fun r2=>
 (Aj N y).bind fun r3=>
 cond (r2) (
 cond (r3) (
 some 0) (
 some ((-1)))) (
 cond (r3) (
 some 1) (
 cond (decide (x2<y)) (
 some ((-1))) (
 cond (decide (y<x2)) (
 some 1) (
 some 0))))
def Ba (N:Nat) (a2 b:Int) (v0:List Int):Option Int:=
 (idx v0 a2).bind fun e=>
 (idx v0 b).bind fun e2=>
 (AH N e e2).bind fun r2=>
 some r2
def vV (N:Nat) (n size:Int) (kk:JI→Option aR):Nat→JI→Option aR
 | 0,_=>none
 | aA+1,(l3,i,i2)=>
  cond (decide (i2<i)) (
  (nn (aC.wrap ((aC.wrap (size-1))-i2))).bind fun _=>
  (idx ([48,49]:aR) (BJ .i64 (jN .i64 n (aC.wrap ((aC.wrap (size-1))-i2))) 1)).bind fun b2=>
  (idx l3 i2).bind fun e2=>
  (yO l3 i2 (b2.toNat:Int)).bind fun l5=>
  vV N n size kk aA (l5,i,aC.wrap (i2+1))) (
  kk (l3,i,i2))
def xU (N:Nat) (n size:Int):Option aR:=
 (mk 1 size (0:Int)).bind fun l2=>
 vV N n size (fun (l6,i3,i4)=>
 some (toB l6)) N (l2,(l2.length:Int),0)
def tQ (N:Nat) (n size:Int):Option lC:=
 cond (decide (size<0)) (
 some (([]:aR),3)) (
 cond (decide (16<size)) (
 some (([]:aR),3)) (
 cond (decide (n<0)) (
 some (([]:aR),3)) (
 (nn size).bind fun _=>
 cond (decide ((qF .i64 1 size)≤n)) (
 some (([]:aR),3)) (
 (xU N n size).bind fun r2=>
 some (r2,0)))))
def xC (N:Nat) (d:List Int) (kk:gL→Option D9):Nat→gL→Option D9
 | 0,_=>none
 | aA+1,(YK,j4)=>
  cond (decide (0<j4)) (
  (idx YK j4).bind fun e20=>
  (idx YK (aC.wrap (j4-1))).bind fun e21=>
  (Ba N e20 e21 d).bind fun r5=>
  cond (decide (r5<0)) (
  (idx YK (aC.wrap (j4-1))).bind fun e22=>
  (idx YK j4).bind fun e23=>
  (idx YK j4).bind fun e24=>
  (yO YK j4 e22).bind fun l18=>
  (idx l18 (aC.wrap (j4-1))).bind fun e25=>
  (yO l18 (aC.wrap (j4-1)) e23).bind fun l19=>
  (some (aC.wrap (j4-1))).bind fun j7=>
  xC N d kk aA (l19,j7)) (
  kk (YK,j4))) (
  kk (YK,j4))
def sX (N:Nat) (d Sw:List Int) (kk:aDl→Option D9):Nat→aDl→Option D9
 | 0,_=>none
 | aA+1,(l25,i8,i9)=>
  cond (decide (i9<(Sw.length:Int))) (
  (idx Sw i9).bind fun e33=>
  (idx d e33).bind fun e34=>
  (nn (aC.wrap (15-e34))).bind fun _=>
  (idx d e33).bind fun e35=>
  (tQ N (jN .i64 i8 (aC.wrap (15-e34))) e35).bind fun r7=>
  (idx l25 e33).bind fun e36=>
  (yO l25 e33 r7.1).bind fun l27=>
  (idx d e33).bind fun e37=>
  (nn (aC.wrap (15-e37))).bind fun _=>
  (some (aC.wrap (i8+(qF .i64 1 (aC.wrap (15-e37)))))).bind fun x4=>
  sX N d Sw kk aA (l27,x4,aC.wrap (i9+1))) (
  kk (l25,i8,i9))
def rL (N:Nat) (d:List Int) (kk:JI→Option D9):Nat→JI→Option D9
 | 0,_=>none
 | aA+1,(l7,b,i4)=>
  cond (decide (i4<b)) (
  xC N d (fun (l22,j9)=>
  (some (aC.wrap (i4+1))).bind fun i6=>
  rL N d kk aA (l22,b,i6)) N (l7,i4)) (
  kk (l7,b,i4))
def u5 (N:Nat) (d:List Int) (kk:gL→Option D9):Nat→gL→Option D9
 | 0,_=>none
 | aA+1,(l3,i)=>
  cond (decide (i<(d.length:Int))) (
  (idx d i).bind fun e3=>
  cond (decide (0<e3)) (
  (app 8 l3 ([i]:List Int)).bind fun l5=>
  u5 N d kk aA (l5,aC.wrap (i+1))) (
  u5 N d kk aA (l3,aC.wrap (i+1)))) (
  kk (l3,i))
def xJ (N:Nat) (d:List Int):Option D9:=
 (zU N d).bind fun r2=>
 cond (!decide (r2=0)) (
 some (([]:List aR),r2)) (
 u5 N d (fun (l6,i2)=>
 cond (decide (20≤(l6.length:Int))) none (
 (some (aC.wrap (0+1))).bind fun i3=>
 rL N d (fun (Sw,b2,i7)=>
 (Is l6 Sw).bind fun _=>
 cond (decide (20<(Sw.length:Int))) none (
 (Is l6 Sw).bind fun _=>
 (Is l6 Sw).bind fun _=>
 (some ((d.length:Int))).bind fun x2=>
 (mk 16 x2 (([]:aR):aR)).bind fun l24=>
 sX N d Sw (fun (l28,EV,i11)=>
 some (l28,0)) N (l24,0,0))) N (l6,(l6.length:Int),i3))) N (([]:List Int),0))
def Ew (N:Nat) (b:aR):Option Bool:=
 (AY N b ([48,49]:aR)).bind fun r2=>
 cond (decide (r2=([]:aR))) (
 (w9 N b ([48]:aR)).bind fun r3=>
 (w9 N b ([49]:aR)).bind fun r4=>
 some (decide ((aC.wrap (r3+r4))=(b.length:Int)))) (
 some false)
def xD (N:Nat) (b:aR) (kk:gL→Option lC):Nat→gL→Option lC
 | 0,_=>none
 | aA+1,(l3,i)=>
  cond (decide (i<(b.length:Int))) (
  (some (aC.wrap (gI i 8))).bind fun x4=>
  (idx l3 x4).bind fun e3=>
  (idx b i).bind fun b3=>
  (nn (aC.wrap (7-(mN i 8)))).bind fun _=>
  (idx l3 x4).bind fun e4=>
  (yO l3 x4 (Ir .u8 e3 (qF .u8 (iH.wrap ((b3.toNat:Int)-48)) (aC.wrap (7-(mN i 8)))))).bind fun l5=>
  xD N b kk aA (l5,aC.wrap (i+1))) (
  kk (l3,i))
def BN (N:Nat) (b:aR):Option lC:=
 (Ew N b).bind fun r2=>
 cond (!(r2)) (
 some (([]:aR),1)) (
 (some (aC.wrap (gI (aC.wrap ((b.length:Int)+7)) 8))).bind fun x2=>
 (mk 1 x2 (0:Int)).bind fun l2=>
 xD N b (fun (l6,i2)=>
 some (toB l6,0)) N (l2,0))
def wB (N:Nat) (e2:aR) (kk:Pg→Option Cf):Nat→Pg→Option Cf
 | 0,_=>none
 | aA+1,(m5,i3)=>
  cond (decide (i3<(e2.length:Int))) (
  (Fs e2 0 i3).bind fun s5=>
  (QB m5 s5).bind fun q3=>
  cond (!(q3.2)) (
  (Fs e2 0 i3).bind fun s6=>
  (YA m5 s6 (-1)).bind fun m7=>
  wB N e2 kk aA (m7,aC.wrap (i3+1))) (
  wB N e2 kk aA (m5,aC.wrap (i3+1)))) (
  kk (m5,i3))
def nO (N:Nat) (m10:List lC) (o2:aR) (kk:aN→Option Cf):Nat→aN→Option Cf
 | 0,_=>none
 | aA+1,(EV,i11)=>
  cond (decide (i11<0)) (
  (Fs o2 0 EV).bind fun s12=>
  (QB m10 s12).bind fun q7=>
  cond (!(q7.2)) (
  some (([]:List Int),([]:aR),4)) (
  cond (decide (0≤q7.1)) (
  nO N m10 o2 kk aA (EV,q7.1)) (
  cond (decide (EV=(o2.length:Int))) (
  some (([]:List Int),([]:aR),5)) (
  (some (aC.wrap (EV+1))).bind fun x5=>
  nO N m10 o2 kk aA (x5,i11))))) (
  kk (EV,i11))
def uF (N:Nat) (p2:Int) (m10:List lC) (kk:aAi→Option Cf):Nat→aAi→Option Cf
 | 0,_=>none
 | aA+1,(l3,o2)=>
  cond (decide ((l3.length:Int)<p2)) (
  nO N m10 o2 (fun (i12,Na)=>
  (app 8 l3 ([Na]:List Int)).bind fun l5=>
  (Fs o2 i12 (o2.length:Int)).bind fun s13=>
  uF N p2 m10 kk aA (l5,s13)) N (0,(-1))) (
  kk (l3,o2))
def wC (N:Nat) (r2:D9) (kk:Pg→Option Cf):Nat→Pg→Option Cf
 | 0,_=>none
 | aA+1,(m,i)=>
  cond (decide (i<(r2.1.length:Int))) (
  (idx r2.1 i).bind fun e2=>
  wB N e2 (fun (m8,i4)=>
  cond (!decide (e2=([]:aR))) (
  (YA m8 e2 i).bind fun m9=>
  wC N r2 kk aA (m9,aC.wrap (i+1))) (
  wC N r2 kk aA (m8,aC.wrap (i+1)))) N (m,0)) (
  kk (m,i))
def Bb (N:Nat) (d:List Int) (o:aR) (p2:Int):Option Cf:=
 (xJ N d).bind fun r2=>
 cond (!decide (r2.2=0)) (
 some (([]:List Int),([]:aR),r2.2)) (
 cond (decide (p2<0)) (
 some (([]:List Int),([]:aR),3)) (
 cond (decide (4096<p2)) (
 some (([]:List Int),([]:aR),3)) (
 (BN N o).bind fun r3=>
 cond (!decide (r3.2=0)) (
 some (([]:List Int),([]:aR),1)) (
 wC N r2 (fun (m10,i5)=>
 uF N p2 m10 (fun (l6,o3)=>
 some (l6,o3,0)) N (([]:List Int),o)) N (([]:List lC),0)))))
def yU (N:Nat) (s:aR) (kk:lC→Option aR):Nat→lC→Option aR
 | 0,_=>none
 | aA+1,(l2,i)=>
  cond (decide (i<(s.length:Int))) (
  (idx s i).bind fun b3=>
  (xU N (aC.wrap (b3.toNat:Int)) 8).bind fun r3=>
  (V5 l2 r3).bind fun b4=>
  (some (aC.wrap (i+1))).bind fun i3=>
  yU N s kk aA (b4,i3)) (
  kk (l2,i))
def Bc (N:Nat) (s:aR):Option aR:=
 yU N s (fun (l3,i4)=>
 some l3) N (([]:aR),0)
def tR (N:Nat) (eA fY:Int) (fZ:List Int) (o p2:Int):Option Int:=
 (nz eA).bind fun _=>
 (nz eA).bind fun _=>
 cond (decide (p2=0)) (
 some 32768) (
 cond (decide ((aC.wrap (gI p2 eA))=0)) (
 (idx fZ (aC.wrap (p2-1))).bind fun e=>
 some e) (
 cond (decide ((mN p2 eA)=0)) (
 (idx fZ (aC.wrap (p2-eA))).bind fun e2=>
 some e2) (
 (idx fZ (aC.wrap (p2-1))).bind fun e3=>
 (idx fZ (aC.wrap (p2-eA))).bind fun e4=>
 (idx fZ (aC.wrap ((aC.wrap (p2-eA))-1))).bind fun e5=>
 (idx [0,e3,e4,e5,aC.wrap ((aC.wrap (e3+e4))-e5),aC.wrap (e3+(jN .i64 (aC.wrap (e4-e5)) 1)),aC.wrap (e4+(jN .i64 (aC.wrap (e3-e5)) 1)),jN .i64 (aC.wrap (e3+e4)) 1] o).bind fun e6=>
 some e6)))
def xE (N:Nat) (b:aR) (kk:aN→Option aN):Nat→aN→Option aN
 | 0,_=>none
 | aA+1,(n,i)=>
  cond (decide (i<(b.length:Int))) (
  (idx b i).bind fun b3=>
  (some (aC.wrap ((qF .i64 n 1)+(aC.wrap (BJ .u8 (b3.toNat:Int) 1))))).bind fun n3=>
  xE N b kk aA (n3,aC.wrap (i+1))) (
  kk (n,i))
def DE (N:Nat) (b:aR):Option aN:=
 (Ew N b).bind fun r2=>
 cond (!(r2)) (
 some (0,1)) (
 cond (decide (16<(b.length:Int))) (
 some (0,3)) (
 xE N b (fun (n4,i2)=>
 some (n4,0)) N (0,0)))
def Bd (N:Nat)  (kk:FR→Option pW):Nat→FR→Option pW
 | 0,_=>none
 | aA+1,(Oh,YJ)=>
  cond (decide ((Oh.length:Int)<1)) (
  cond (!decide (YJ=([]:aR))) (
  (Fs YJ 0 1).bind fun s21=>
  (Bc N s21).bind fun J5=>
  (Ai Oh J5).bind fun s22=>
  (Fs YJ 1 (YJ.length:Int)).bind fun s23=>
  Bd N  kk aA (s22,s23)) (
  kk (Oh,YJ))) (
  kk (Oh,YJ))
def nP (N:Nat) (i6:Int) (kk:FR→Option pW):Nat→FR→Option pW
 | 0,_=>none
 | aA+1,(JJ,x23)=>
  cond (decide ((JJ.length:Int)<i6)) (
  cond (!decide (x23=([]:aR))) (
  (Fs x23 0 1).bind fun s30=>
  (Bc N s30).bind fun Mr=>
  (Ai JJ Mr).bind fun s31=>
  (Fs x23 1 (x23.length:Int)).bind fun s32=>
  nP N i6 kk aA (s31,s32)) (
  kk (JJ,x23))) (
  kk (JJ,x23))
def lY (N:Nat) (p4:List Int) (kk:aDd→Option pW):Nat→aDd→Option pW
 | 0,_=>none
 | aA+1,(FX,Sv,i4,i5,w3)=>
  (Bb N p4 w3 1).bind fun B1=>
  cond (decide (B1.2.2=0)) (
  (idx B1.1 0).bind fun e7=>
  kk (FX,Sv,e7,B1.2.2,w3)) (
  Bd N  (fun (x18,x19)=>
  cond (decide ((x18.length:Int)<1)) (
  cond (!decide (B1.2.2=5)) (
  kk (x18,x19,0,1,w3)) (
  kk (x18,x19,0,1,w3))) (
  (Fs x18 0 1).bind fun s24=>
  (Fs x18 1 (x18.length:Int)).bind fun s25=>
  cond (!decide (B1.2.2=5)) (
  kk (s25,x19,0,1,w3)) (
  (Ai w3 s24).bind fun s26=>
  lY N p4 kk aA (s25,x19,i4,i5,s26)))) N (FX,Sv))
def fS (N:Nat) (o p2 p3:Int) (p4:List Int) (kk:aDi→Option pW):Nat→aDi→Option pW
 | 0,_=>none
 | aA+1,(tE,x3,x4,i)=>
  cond (decide (i<(aC.wrap (o*p2)))) (
  (app 8 tE ([0]:List Int)).bind fun Ak=>
  lY N p4 (fun (x20,x21,i6,i7,w4)=>
  cond (!decide (i7=0)) (
  some (0,0,([]:List Int),1)) (
  cond (decide (i6=16)) (
  (tR N o p2 Ak p3 i).bind fun r16=>
  (idx Ak i).bind fun e8=>
  (yO Ak i (aC.wrap (IntKind.u16.wrap (aC.wrap (r16+32768))))).bind fun l6=>
  fS N o p2 p3 p4 kk aA (l6,x20,x21,aC.wrap (i+1))) (
  cond (decide (0<i6)) (
  nP N i6 (fun (x24,x25)=>
  cond (decide ((x24.length:Int)<i6)) (
  some (0,0,([]:List Int),1)) (
  (Fs x24 0 i6).bind fun s33=>
  (Fs x24 i6 (x24.length:Int)).bind fun s34=>
  (DE N s33).bind fun TA=>
  (idx s33 0).bind fun b2=>
  cond (decide ((b2.toNat:Int)=48)) (
  (nn i6).bind fun _=>
  (some (aC.wrap (TA.1-(aC.wrap ((qF .i64 1 i6)-1))))).bind fun x26=>
  (tR N o p2 Ak p3 i).bind fun Ow=>
  (idx Ak i).bind fun e9=>
  (yO Ak i (aC.wrap (IntKind.u16.wrap (aC.wrap (Ow+x26))))).bind fun l7=>
  fS N o p2 p3 p4 kk aA (l7,s34,x25,aC.wrap (i+1))) (
  (tR N o p2 Ak p3 i).bind fun YL=>
  (idx Ak i).bind fun e10=>
  (yO Ak i (aC.wrap (IntKind.u16.wrap (aC.wrap (YL+TA.1))))).bind fun l8=>
  fS N o p2 p3 p4 kk aA (l8,s34,x25,aC.wrap (i+1))))) N (x20,x21)) (
  (tR N o p2 Ak p3 i).bind fun r22=>
  (idx Ak i).bind fun e11=>
  (yO Ak i (aC.wrap (IntKind.u16.wrap (aC.wrap (r22+0))))).bind fun l9=>
  fS N o p2 p3 p4 kk aA (l9,x20,x21,aC.wrap (i+1)))))) N (x3,x4,0,0,([]:aR))) (
  kk (tE,x3,x4,i))
def Fd (N:Nat) (d:aR) (o p2 p3:Int) (p4:List Int):Option pW:=
 cond (decide (o<1)) (
 some (0,0,([]:List Int),3)) (
 cond (decide (64<o)) (
 some (0,0,([]:List Int),3)) (
 cond (decide (p2<1)) (
 some (0,0,([]:List Int),3)) (
 cond (decide (64<p2)) (
 some (0,0,([]:List Int),3)) (
 cond (decide (p3<1)) (
 some (0,0,([]:List Int),6)) (
 cond (decide (7<p3)) (
 some (0,0,([]:List Int),6)) (
 (zU N p4).bind fun r2=>
 cond (!decide (r2=0)) (
 some (0,0,([]:List Int),r2)) (
 fS N o p2 p3 p4 (fun (sZ,x27,x28,i8)=>
 cond (!decide (x28=([]:aR))) (
 some (0,0,([]:List Int),1)) (
 (v7 N x27 ([49]:aR)).bind fun I6=>
 cond (I6) (
 some (0,0,([]:List Int),1)) (
 some (o,p2,sZ,0)))) N (([]:List Int),([]:aR),d,0))))))))
def nT (N:Nat) (x2:List Int) (kk:aN→Option Int):Nat→aN→Option Int
 | 0,_=>none
 | aA+1,(m,i)=>
  cond (decide (i<(x2.length:Int))) (
  (idx x2 i).bind fun e3=>
  (some (max m e3)).bind fun m3=>
  (some (aC.wrap (i+1))).bind fun i3=>
  nT N x2 kk aA (m3,i3)) (
  kk (m,i))
def qI (N:Nat) (x2:List Int):Option Int:=
 cond (decide ((x2.length:Int)<1)) (
 none) (
 (idx x2 0).bind fun e=>
 nT N x2 (fun (m4,i4)=>
 some m4) N (e,1))
def Cm (N:Nat) (v8 sV cP d7 cU:Int) (dE:List Int) (bX:List aR) (bN bE bF bG bH bO:Int) (aO:List aN) (bI bJ bK aV aW aX aY aZ bA bB bC bD:Int) (aP:List aN) (bL:Int) (s:aR) (rows:Int):Option gL:=
 cond (decide (d7=0)) (
 (Cl N s cP (aC.wrap (v8*rows))).bind fun r2=>
 some (r2.1,r2.2)) (
 (Fd N s v8 rows d7 dE).bind fun r3=>
 cond (decide (r3.2.2.2=0)) (
 (qI N r3.2.2.1).bind fun r4=>
 (nn cP).bind fun _=>
 cond (decide (0<(jN .i64 r4 cP))) (
 some (r3.2.2.1,1)) (
 some (r3.2.2.1,r3.2.2.2))) (
 some (r3.2.2.1,r3.2.2.2)))
def yV (N:Nat) (eA fY lV qS uG:Int) (oD:List Int) (gM:List aR) (eW eI eJ eK eL eX:Int) (dA:List aN) (eM eN eO dO dP dQ dR dS dU dV dW dX:Int) (dB:List aN) (dZ:Int) (r3:List aN) (kk:gL→Option pW):Nat→gL→Option pW
 | 0,_=>none
 | aA+1,(tE,i)=>
  cond (decide (i<(gM.length:Int))) (
  (idx gM i).bind fun e3=>
  (idx r3 i).bind fun e4=>
  (Cm N eA fY lV qS uG oD gM eW eI eJ eK eL eX dA eM eN eO dO dP dQ dR dS dU dV dW dX dB dZ e3 e4.2).bind fun r6=>
  cond (!decide (r6.2=0)) (
  some (0,0,([]:List Int),1)) (
  (app 8 tE r6.1).bind fun Ak=>
  yV N eA fY lV qS uG oD gM eW eI eJ eK eL eX dA eM eN eO dO dP dQ dR dS dU dV dW dX dB dZ r3 kk aA (Ak,aC.wrap (i+1)))) (
  kk (tE,i))
def Dl (N:Nat) (eA fY lV qS uG:Int) (oD:List Int) (gM:List aR) (eW eI eJ eK eL eX:Int) (dA:List aN) (eM eN eO dO dP dQ dR dS dU dV dW dX:Int) (dB:List aN) (dZ:Int):Option pW:=
 (Ek N eA fY lV qS uG oD gM eW eI eJ eK eL eX dA eM eN eO dO dP dQ dR dS dU dV dW dX dB dZ).bind fun r2=>
 cond (!decide (r2=0)) (
 some (0,0,([]:List Int),r2)) (
 (DC N eA fY lV qS uG oD gM eW eI eJ eK eL eX dA eM eN eO dO dP dQ dR dS dU dV dW dX dB dZ).bind fun r3=>
 cond (!decide ((gM.length:Int)=(r3.length:Int))) (
 some (0,0,([]:List Int),2)) (
 (Ev N eA fY lV qS uG oD gM eW eI eJ eK eL eX dA eM eN eO dO dP dQ dR dS dU dV dW dX dB dZ).bind fun r4=>
 cond (!decide (r4=0)) (
 some (0,0,([]:List Int),r4)) (
 yV N eA fY lV qS uG oD gM eW eI eJ eK eL eX dA eM eN eO dO dP dQ dR dS dU dV dW dX dB dZ r3 (fun (sZ,i2)=>
 some (eA,fY,sZ,0)) N (([]:List Int),0))))
def Be (N:Nat) (v8 sV cP d7 cU:Int) (dE:List Int) (bX:List aR) (bN bE bF bG bH bO:Int) (aO:List aN) (bI bJ bK aV aW aX aY aZ bA bB bC bD:Int) (aP:List aN) (bL:Int):Option Int:=
 (Dl N v8 sV cP d7 cU dE bX bN bE bF bG bH bO aO bI bJ bK aV aW aX aY aZ bA bB bC bD aP bL).bind fun r2=>
 some r2.2.2.2
def xV (N:Nat) (V6:HD) (kk:Tp→Option J3):Nat→Tp→Option J3
 | 0,_=>none
 | aA+1,(l8,TB,i7)=>
  cond (decide (i7<V6.1)) (
  (aS N TB).bind fun q45=>Gc q45 (
  some uE) fun UP=>
  (aS N UP.2).bind fun q46=>Gc q46 (
  some uE) fun r47=>
  (app 16 l8 (([(UP.1,r47.1)]:List aN))).bind fun H7=>
  xV N V6 kk aA (H7,r47.2,aC.wrap (i7+1))) (
  kk (l8,TB,i7))
def xW (N:Nat) (I6:HD) (kk:Tp→Option J3):Nat→Tp→Option J3
 | 0,_=>none
 | aA+1,(l6,aBE,i5)=>
  cond (decide (i5<I6.1)) (
  (aS N aBE).bind fun q26=>Gc q26 (
  some uE) fun Oi=>
  (aS N Oi.2).bind fun q27=>Gc q27 (
  some uE) fun MU=>
  (app 16 l6 (([(Oi.1,MU.1)]:List aN))).bind fun H8=>
  xW N I6 kk aA (H8,MU.2,aC.wrap (i5+1))) (
  kk (l6,aBE,i5))
def xX (N:Nat) (AE:HD) (kk:aDj→Option J3):Nat→aDj→Option J3
 | 0,_=>none
 | aA+1,(l4,aBF,i3)=>
  cond (decide (i3<AE.1)) (
  (aS N aBF).bind fun q14=>Gc q14 (
  some uE) fun J5=>
  (lG N J5.2 J5.1).bind fun q15=>Gc q15 (
  some uE) fun r16=>
  (app 16 l4 (([r16.1]:List aR))).bind fun Ox=>
  xX N AE kk aA (Ox,r16.2,aC.wrap (i3+1))) (
  kk (l4,aBF,i3))
def xY (N:Nat) (r9:HD) (kk:Cf→Option J3):Nat→Cf→Option J3
 | 0,_=>none
 | aA+1,(l2,aBG,i)=>
  cond (decide (i<r9.1)) (
  (aS N aBG).bind fun q10=>Gc q10 (
  some uE) fun Al=>
  (app 8 l2 ([Al.1]:List Int)).bind fun UQ=>
  xY N r9 kk aA (UQ,Al.2,aC.wrap (i+1))) (
  kk (l2,aBG,i))
def zV (N:Nat) (d:aR):Option J3:=
 (aS N d).bind fun q=>Gc q (
 some uE) fun r2=>
 (lG N r2.2 r2.1).bind fun q2=>Gc q2 (
 some uE) fun r3=>
 cond (!decide (r3.1=([100,97,114,107]:aR))) (
 some uE) (
 (aS N r3.2).bind fun q3=>Gc q3 (
 some uE) fun r4=>
 (aS N r4.2).bind fun q4=>Gc q4 (
 some uE) fun r5=>
 (aS N r5.2).bind fun q5=>Gc q5 (
 some uE) fun r6=>
 (aS N r6.2).bind fun q6=>Gc q6 (
 some uE) fun r7=>
 (aS N r7.2).bind fun q7=>Gc q7 (
 some uE) fun r8=>
 (aS N r8.2).bind fun q8=>Gc q8 (
 some uE) fun r9=>
 cond (decide (r9.1<0)) (
 some uE) (
 cond (decide ((r9.2.length:Int)<r9.1)) (
 some uE) (
 xY N r9 (fun (l3,aMe,i2)=>
 (aS N aMe).bind fun q11=>Gc q11 (
 some uE) fun AE=>
 cond (decide (AE.1<0)) (
 some uE) (
 cond (decide ((AE.2.length:Int)<AE.1)) (
 some uE) (
 xX N AE (fun (l5,aMf,i4)=>
 (aS N aMf).bind fun q16=>Gc q16 (
 some uE) fun Lw=>
 (aS N Lw.2).bind fun q17=>Gc q17 (
 some uE) fun Mr=>
 (aS N Mr.2).bind fun q18=>Gc q18 (
 some uE) fun TA=>
 (aS N TA.2).bind fun q19=>Gc q19 (
 some uE) fun Ow=>
 (aS N Ow.2).bind fun q20=>Gc q20 (
 some uE) fun YL=>
 (aS N YL.2).bind fun q21=>Gc q21 (
 some uE) fun r22=>
 (aS N r22.2).bind fun q22=>Gc q22 (
 some uE) fun I6=>
 cond (decide (I6.1<0)) (
 some uE) (
 cond (decide ((I6.2.length:Int)<I6.1)) (
 some uE) (
 xW N I6 (fun (l7,aMg,i6)=>
 (aS N aMg).bind fun q29=>Gc q29 (
 some uE) fun L4=>
 (aS N L4.2).bind fun q30=>Gc q30 (
 some uE) fun r31=>
 (aS N r31.2).bind fun q31=>Gc q31 (
 some uE) fun r32=>
 (aS N r32.2).bind fun q32=>Gc q32 (
 some uE) fun UR=>
 (aS N UR.2).bind fun q33=>Gc q33 (
 some uE) fun PK=>
 (aS N PK.2).bind fun q34=>Gc q34 (
 some uE) fun Pi=>
 (aS N Pi.2).bind fun q35=>Gc q35 (
 some uE) fun I7=>
 (aS N I7.2).bind fun q36=>Gc q36 (
 some uE) fun r37=>
 (aS N r37.2).bind fun q37=>Gc q37 (
 some uE) fun r38=>
 (aS N r38.2).bind fun q38=>Gc q38 (
 some uE) fun Yp=>
 (aS N Yp.2).bind fun q39=>Gc q39 (
 some uE) fun V7=>
 (aS N V7.2).bind fun q40=>Gc q40 (
 some uE) fun Sx=>
 (aS N Sx.2).bind fun q41=>Gc q41 (
 some uE) fun V6=>
 cond (decide (V6.1<0)) (
 some uE) (
 cond (decide ((V6.2.length:Int)<V6.1)) (
 some uE) (
 xV N V6 (fun (l9,aIP,i8)=>
 (aS N aIP).bind fun q48=>Gc q48 (
 some uE) fun r49=>
 cond (!decide (r49.2=([]:aR))) (
 some uE) (
 (Be N r4.1 r5.1 r6.1 r7.1 r8.1 l3 l5 Lw.1 Mr.1 TA.1 Ow.1 YL.1 r22.1 l7 L4.1 r31.1 r32.1 UR.1 PK.1 Pi.1 I7.1 r37.1 r38.1 Yp.1 V7.1 Sx.1 l9 r49.1).bind fun r50=>
 cond (!decide (r50=0)) (
 some uE) (
 some (r4.1,r5.1,r6.1,r7.1,r8.1,l3,l5,Lw.1,Mr.1,TA.1,Ow.1,YL.1,r22.1,l7,L4.1,r31.1,r32.1,UR.1,PK.1,Pi.1,I7.1,r37.1,r38.1,Yp.1,V7.1,Sx.1,l9,r49.1,0)))) N (([]:List aN),V6.2,0)))) N (([]:List aN),I6.2,0)))) N (([]:List aR),AE.2,0)))) N (([]:List Int),r9.2,0))))
def uH (N:Nat) (nd:List aN) (top rows:Int) (kk:Km→Option Wg):Nat→Km→Option Wg
 | 0,_=>none
 | aA+1,(l3,i)=>
  cond (decide (i<(nd.length:Int))) (
  (idx nd i).bind fun e3=>
  cond (decide (top≤e3.2)) (
  cond (decide (e3.2<(aC.wrap (top+rows)))) (
  (app 16 l3 (([(e3.1,aC.wrap (e3.2-top))]:List aN))).bind fun l5=>
  uH N nd top rows kk aA (l5,aC.wrap (i+1))) (
  uH N nd top rows kk aA (l3,aC.wrap (i+1)))) (
  uH N nd top rows kk aA (l3,aC.wrap (i+1)))) (
  kk (l3,i))
def uI (N:Nat) (nd:List aN) (top rows:Int) (kk:Km→Option Wg):Nat→Km→Option Wg
 | 0,_=>none
 | aA+1,(l8,i3)=>
  cond (decide (i3<(nd.length:Int))) (
  (idx nd i3).bind fun e6=>
  cond (decide (top≤e6.2)) (
  cond (decide (e6.2<(aC.wrap (top+rows)))) (
  (app 16 l8 (([(e6.1,aC.wrap (e6.2-top))]:List aN))).bind fun l10=>
  uI N nd top rows kk aA (l10,aC.wrap (i3+1))) (
  uI N nd top rows kk aA (l8,aC.wrap (i3+1)))) (
  uI N nd top rows kk aA (l8,aC.wrap (i3+1)))) (
  kk (l8,i3))
def Fe (N:Nat) (na nb0 DZ D0 D1 nc:Int) (nd:List aN) (D5 ne1 El Em En Eo Ep Er Es Et Eu nf8:Int) (ng:List aN) (nh top rows:Int):Option Wg:=
 cond (decide ((mN top 2)=1)) (
 uH N nd top rows (fun (l6,i2)=>
 some (Wi .i64 na 2,D0,D1,nb0,DZ,nc,l6,D5,ne1,El,Em,En,Eo,Ep,Er,Es,Et,Eu,nf8,ng,nh)) N (([]:List aN),0)) (
 uI N nd top rows (fun (Qa,i4)=>
 some (na,nb0,DZ,D0,D1,nc,Qa,D5,ne1,El,Em,En,Eo,Ep,Er,Es,Et,Eu,nf8,ng,nh)) N (([]:List aN),0))
def vW (N:Nat) (iI:List Int) (kk:Int→Option Bool):Nat→Int→Option Bool
 | 0,_=>none
 | aA+1,i=>
  cond (decide (i<(iI.length:Int))) (
  (idx iI i).bind fun e2=>
  cond (decide (e2<0)) (
  some false) (
  cond (decide (65535<e2)) (
  some false) (
  vW N iI kk aA (aC.wrap (i+1))))) (
  kk i)
def Ay (N:Nat) (lE mS:Int) (iI:List Int):Option Bool:=
 cond (decide (lE<1)) (
 some false) (
 cond (decide (64<lE)) (
 some false) (
 cond (decide (mS<1)) (
 some false) (
 cond (decide (64<mS)) (
 some false) (
 cond (!decide ((iI.length:Int)=(aC.wrap (lE*mS)))) (
 some false) (
 vW N iI (fun i2=>
 some true) N 0)))))
def yW (N:Nat) (n x2 y YM YN YO v03 v1:Int):Option Int:=
 (inr (Ir .i64 (qF .i64 (BJ .i64 y 1) 1) (BJ .i64 x2 1)) 4).bind fun _=>
 (idx [YM,YN,YO,v03] (Ir .i64 (qF .i64 (BJ .i64 y 1) 1) (BJ .i64 x2 1))).bind fun e=>
 (nz (aC.wrap (v1-e))).bind fun _=>
 some (aC.wrap (gI (aC.wrap ((max (aC.wrap (n-e)) 0)*65535)) (aC.wrap (v1-e))))
def gB (N:Nat) (lE:Int) (iI:List Int) (CV CW CX CY Ex:Int) (kk:gL→Option qP):Nat→gL→Option qP
 | 0,_=>none
 | aA+1,(cJ,i)=>
  cond (decide (i<(iI.length:Int))) (
  (idx iI i).bind fun e3=>
  (nz lE).bind fun _=>
  (nz lE).bind fun _=>
  (yW N e3 (mN i lE) (aC.wrap (gI i lE)) CV CW CX CY Ex).bind fun r3=>
  (idx cJ i).bind fun e4=>
  (yO cJ i (min r3 65535)).bind fun l4=>
  gB N lE iI CV CW CX CY Ex kk aA (l4,aC.wrap (i+1))) (
  kk (cJ,i))
def qE (N:Nat) (lE mS:Int) (iI:List Int) (CV CW CX CY Ex:Int):Option qP:=
 (some ((iI.length:Int))).bind fun x2=>
 (mk 8 x2 (0:Int)).bind fun l2=>
 gB N lE iI CV CW CX CY Ex (fun (uJ,i2)=>
 some (lE,mS,uJ)) N (l2,0)
def oJ (N:Nat) (yX yY yZ y6 white:Int) (kk:Int→Option pW):Nat→Int→Option pW
 | 0,_=>none
 | aA+1,i=>
  cond (decide (i<4)) (
  (idx [yX,yY,yZ,y6] i).bind fun e2=>
  cond (decide (e2<0)) (
  some (0,0,([]:List Int),3)) (
  cond (decide (white≤e2)) (
  some (0,0,([]:List Int),3)) (
  cond (decide (65535<white)) (
  some (0,0,([]:List Int),3)) (
  oJ N yX yY yZ y6 white kk aA (aC.wrap (i+1)))))) (
  kk i)
def y7 (N:Nat) (lE mS:Int) (iI:List Int) (yX yY yZ y6 white:Int):Option pW:=
 (Ay N lE mS iI).bind fun r2=>
 cond (!(r2)) (
 some (0,0,([]:List Int),1)) (
 oJ N yX yY yZ y6 white (fun i2=>
 (qE N lE mS iI yX yY yZ y6 white).bind fun r3=>
 some (r3.1,r3.2.1,r3.2.2,0)) N 0)
def AI (N:Nat) (QN Hd He Hf Hg Sy:Int) (snd:List aN) (Hh Hi Hj Hk Hl Hm Hn Ho Hp Hr Hs Ht:Int) (Kj:List aN) (Sz lE mS:Int) (iI:List Int) (gF lK:Int) (gG:List bU):Option FP:=
 (y7 N lE mS iI Hd He Hf Hg Sy).bind fun r2=>
 some (r2.1,r2.2.1,r2.2.2.1,gF,lK,gG,r2.2.2.2)
def zW (N:Nat) (QN Hd He Hf Hg Sy:Int) (snd:List aN) (Hh Hi Hj Hk Hl Hm Hn Ho Hp Hr Hs Ht:Int) (Kj:List aN) (Sz lE mS:Int) (iI:List Int) (gF lK:Int) (gG:List bU):Option FP:=
 (iL N lE mS iI snd).bind fun r2=>
 some (r2.1,r2.2.1,r2.2.2.1,gF,lK,gG,r2.2.2.2)
def u6 (N:Nat) (aI x2 y:Int):Option Int:=
 some (aC.wrap ((BJ .i64 (aC.wrap (x2+aI)) 1)+(BJ .i64 (aC.wrap (y+(jN .i64 aI 1))) 1)))
def Am (N:Nat) (n x2 y YM YN YO v1:Int):Option Int:=
 (u6 N v1 x2 y).bind fun r2=>
 (inr r2 3).bind fun _=>
 (idx [YM,YN,YO] r2).bind fun e=>
 some (jN .i64 (aC.wrap (n*e)) 8)
def gO (N:Nat) (lE:Int) (iI:List Int) (Ey Ez EA GC:Int) (kk:gL→Option qP):Nat→gL→Option qP
 | 0,_=>none
 | aA+1,(cJ,i)=>
  cond (decide (i<(iI.length:Int))) (
  (idx iI i).bind fun e3=>
  (nz lE).bind fun _=>
  (nz lE).bind fun _=>
  (Am N e3 (mN i lE) (aC.wrap (gI i lE)) Ey Ez EA GC).bind fun r3=>
  (idx cJ i).bind fun e4=>
  (yO cJ i (min r3 65535)).bind fun l4=>
  gO N lE iI Ey Ez EA GC kk aA (l4,aC.wrap (i+1))) (
  kk (cJ,i))
def rM (N:Nat) (lE mS:Int) (iI:List Int) (Ey Ez EA GC:Int):Option qP:=
 (some ((iI.length:Int))).bind fun x2=>
 (mk 8 x2 (0:Int)).bind fun l2=>
 gO N lE iI Ey Ez EA GC (fun (uJ,i2)=>
 some (lE,mS,uJ)) N (l2,0)
def pO (N:Nat) (aI Bf Bg Bh:Int) (kk:Int→Option pW):Nat→Int→Option pW
 | 0,_=>none
 | aA+1,i=>
  cond (decide (i<3)) (
  (idx [Bf,Bg,Bh] i).bind fun e2=>
  cond (decide (e2<0)) (
  some (0,0,([]:List Int),3)) (
  cond (decide (65535<e2)) (
  some (0,0,([]:List Int),3)) (
  cond (decide (aI<0)) (
  some (0,0,([]:List Int),3)) (
  cond (decide (3<aI)) (
  some (0,0,([]:List Int),3)) (
  pO N aI Bf Bg Bh kk aA (aC.wrap (i+1))))))) (
  kk i)
def Az (N:Nat) (lE mS:Int) (iI:List Int) (aI Bf Bg Bh:Int):Option pW:=
 (Ay N lE mS iI).bind fun r2=>
 cond (!(r2)) (
 some (0,0,([]:List Int),1)) (
 pO N aI Bf Bg Bh (fun i2=>
 (rM N lE mS iI Bf Bg Bh aI).bind fun r3=>
 some (r3.1,r3.2.1,r3.2.2,0)) N 0)
def BO (N:Nat) (QN Hd He Hf Hg Sy:Int) (snd:List aN) (Hh Hi Hj Hk Hl Hm Hn Ho Hp Hr Hs Ht:Int) (Kj:List aN) (Sz lE mS:Int) (iI:List Int) (gF lK:Int) (gG:List bU):Option FP:=
 (Az N lE mS iI QN Hh Hi Hj).bind fun r2=>
 some (r2.1,r2.2.1,r2.2.2.1,gF,lK,gG,r2.2.2.2)
def rN (N:Nat) (aI x2 y:Int):Option aN:=
 cond (decide (aI<0)) (
 some (0,3)) (
 cond (decide (3<aI)) (
 some (0,3)) (
 cond (decide (x2<0)) (
 some (0,3)) (
 cond (decide (y<0)) (
 some (0,3)) (
 (u6 N aI (BJ .i64 x2 1) (BJ .i64 y 1)).bind fun r2=>
 some (r2,0)))))
def rY (N:Nat) (eA:Int) (fZ:List Int) (o u v GE GF GG LM LN LO:Int):Option Qw:=
 (rN N o u v).bind fun r3=>
 cond (decide (r3.1=0)) (
 (idx fZ (aC.wrap ((aC.wrap (v*eA))+u))).bind fun e4=>
 cond (decide (r3.1=0)) (
 some (aC.wrap (GE+1),GF,GG,aC.wrap (LM+e4),LN,LO)) (
 cond (decide (r3.1=1)) (
 some (GE,aC.wrap (GF+1),GG,aC.wrap (LM+e4),LN,LO)) (
 some (GE,GF,aC.wrap (GG+1),aC.wrap (LM+e4),LN,LO)))) (
 cond (decide (r3.1=1)) (
 (idx fZ (aC.wrap ((aC.wrap (v*eA))+u))).bind fun e5=>
 cond (decide (r3.1=0)) (
 some (aC.wrap (GE+1),GF,GG,LM,aC.wrap (LN+e5),LO)) (
 cond (decide (r3.1=1)) (
 some (GE,aC.wrap (GF+1),GG,LM,aC.wrap (LN+e5),LO)) (
 some (GE,GF,aC.wrap (GG+1),LM,aC.wrap (LN+e5),LO)))) (
 (idx fZ (aC.wrap ((aC.wrap (v*eA))+u))).bind fun e6=>
 cond (decide (r3.1=0)) (
 some (aC.wrap (GE+1),GF,GG,LM,LN,aC.wrap (LO+e6))) (
 cond (decide (r3.1=1)) (
 some (GE,aC.wrap (GF+1),GG,LM,LN,aC.wrap (LO+e6))) (
 some (GE,GF,aC.wrap (GG+1),LM,LN,aC.wrap (LO+e6))))))
def gH (N:Nat) (eA:Int) (fZ:List Int) (o:Int) (s:Qw) (q:aN):Qw:=(rY N eA fZ o q.1 q.2 s.1 s.2.1 s.2.2.1 s.2.2.2.1 s.2.2.2.2.1 s.2.2.2.2.2).getD s
theorem lW {W H:Int} (N:Nat) (eA:Int) (fZ:List Int) (o:Int) (pre:List (InP W H)) (q:InP W H) {s r:Qw} (hs:List.foldl (gH N eA fZ o) (0,0,0,0,0,0) (pre.map (·.1))=s) (hr:rY N eA fZ o q.1.1 q.1.2 s.1 s.2.1 s.2.2.1 s.2.2.2.1 s.2.2.2.2.1 s.2.2.2.2.2=some r):List.foldl (gH N eA fZ o) (0,0,0,0,0,0) ((pre++[q]).map (·.1))=r:=by
 rw [List.map_append,List.foldl_append,hs];show (rY N eA fZ o q.1.1 q.1.2 s.1 s.2.1 s.2.2.1 s.2.2.2.1 s.2.2.2.2.1 s.2.2.2.2.2).getD s=r;rw [hr];rfl
def cW (N:Nat) (GE GF GG:Int) (kk:yN→Option bU):Nat→yN→Option bU
 | 0,_=>none
 | aA+1,(Bi,Bj,Bl,i)=>
  cond (decide (i<3)) (
  cond (decide (i=0)) (
  cond (decide (0<GE)) (
  cond (decide (i=0)) (
  (nz GE).bind fun _=>
  cW N GE GF GG kk aA (aC.wrap (gI Bi GE),Bj,Bl,aC.wrap (i+1))) (
  cond (decide (i=1)) (
  (nz GE).bind fun _=>
  cW N GE GF GG kk aA (Bi,aC.wrap (gI Bj GE),Bl,aC.wrap (i+1))) (
  (nz GE).bind fun _=>
  cW N GE GF GG kk aA (Bi,Bj,aC.wrap (gI Bl GE),aC.wrap (i+1))))) (
  cW N GE GF GG kk aA (Bi,Bj,Bl,aC.wrap (i+1)))) (
  cond (decide (i=1)) (
  cond (decide (0<GF)) (
  cond (decide (i=0)) (
  (nz GF).bind fun _=>
  cW N GE GF GG kk aA (aC.wrap (gI Bi GF),Bj,Bl,aC.wrap (i+1))) (
  cond (decide (i=1)) (
  (nz GF).bind fun _=>
  cW N GE GF GG kk aA (Bi,aC.wrap (gI Bj GF),Bl,aC.wrap (i+1))) (
  (nz GF).bind fun _=>
  cW N GE GF GG kk aA (Bi,Bj,aC.wrap (gI Bl GF),aC.wrap (i+1))))) (
  cW N GE GF GG kk aA (Bi,Bj,Bl,aC.wrap (i+1)))) (
  cond (decide (0<GG)) (
  cond (decide (i=0)) (
  (nz GG).bind fun _=>
  cW N GE GF GG kk aA (aC.wrap (gI Bi GG),Bj,Bl,aC.wrap (i+1))) (
  cond (decide (i=1)) (
  (nz GG).bind fun _=>
  cW N GE GF GG kk aA (Bi,aC.wrap (gI Bj GG),Bl,aC.wrap (i+1))) (
  (nz GG).bind fun _=>
  cW N GE GF GG kk aA (Bi,Bj,aC.wrap (gI Bl GG),aC.wrap (i+1))))) (
  cW N GE GF GG kk aA (Bi,Bj,Bl,aC.wrap (i+1)))))) (
  kk (Bi,Bj,Bl,i))
def EB (N:Nat) (eA:Int) (fZ:List Int) (o p2 p3:Int):Qw→Option bU
 | (GE,GF,GG,LM,LN,LO)=>
  cW N GE GF GG (fun (YP,YQ,YR,i2)=>
  (rN N o p2 p3).bind fun r4=>
  cond (decide (r4.1=0)) (
  (idx fZ (aC.wrap ((aC.wrap (p3*eA))+p2))).bind fun e7=>
  some (e7,YQ,YR)) (
  cond (decide (r4.1=1)) (
  (idx fZ (aC.wrap ((aC.wrap (p3*eA))+p2))).bind fun e8=>
  some (YP,e8,YR)) (
  (idx fZ (aC.wrap ((aC.wrap (p3*eA))+p2))).bind fun e9=>
  some (YP,YQ,e9)))) N (LM,LN,LO,0)
def Bm (N:Nat) (eA fY:Int) (fZ:List Int) (o p2 p3:Int):Option bU:=
 cond (decide (Wp eA fY fZ p2 p3)) (EB N eA fZ o p2 p3 (List.foldl (gH N eA fZ o) (0,0,0,0,0,0) (nC eA fY p2 p3))) none
def vX (N:Nat) (lE mS:Int) (iI:List Int) (aI i:Int) (kk:pN→Option yH):Nat→pN→Option yH
 | 0,_=>none
 | aA+1,(nD,i3)=>
  cond (decide (i3<lE)) (
  (Bm N lE mS iI aI i3 i).bind fun r5=>
  (app 24 nD (([(r5.1,r5.2.1,r5.2.2)]:List bU))).bind fun GH=>
  vX N lE mS iI aI i kk aA (GH,aC.wrap (i3+1))) (
  kk (nD,i3))
def tG (N:Nat) (lE mS:Int) (iI:List Int) (aI:Int) (kk:pN→Option yH):Nat→pN→Option yH
 | 0,_=>none
 | aA+1,(cJ,i)=>
  cond (decide (i<mS)) (
  vX N lE mS iI aI i (fun (GI,i4)=>
  tG N lE mS iI aI kk aA (GI,aC.wrap (i+1))) N (cJ,0)) (
  kk (cJ,i))
def AA (N:Nat) (lE mS:Int) (iI:List Int) (aI:Int):Option yH:=
 (iL N lE mS iI (([]:List aN))).bind fun r2=>
 cond (!decide (r2.2.2.2=0)) (
 some (0,0,([]:List bU),r2.2.2.2)) (
 cond (decide (aI<0)) (
 some (0,0,([]:List bU),3)) (
 cond (decide (3<aI)) (
 some (0,0,([]:List bU),3)) (
 tG N lE mS iI aI (fun (H9,i5)=>
 some (lE,mS,H9,0)) N (([]:List bU),0))))
def BP (N:Nat) (QN Hd He Hf Hg Sy:Int) (snd:List aN) (Hh Hi Hj Hk Hl Hm Hn Ho Hp Hr Hs Ht:Int) (Kj:List aN) (Sz lE mS:Int) (iI:List Int) (gF lK:Int) (gG:List bU):Option FP:=
 (AA N lE mS iI QN).bind fun r2=>
 some (lE,mS,iI,r2.1,r2.2.1,r2.2.2.1,r2.2.2.2)
def vY (N:Nat) (gG:List bU) (kk:Int→Option Bool):Nat→Int→Option Bool
 | 0,_=>none
 | aA+1,i=>
  cond (decide (i<(gG.length:Int))) (
  (idx gG i).bind fun e2=>
  cond (decide ((min (min e2.1 e2.2.1) e2.2.2)<0)) (
  some false) (
  cond (decide (65535<(max (max e2.1 e2.2.1) e2.2.2))) (
  some false) (
  vY N gG kk aA (aC.wrap (i+1))))) (
  kk i)
def Cn (N:Nat) (gF lK:Int) (gG:List bU):Option Bool:=
 cond (decide (gF<1)) (
 some false) (
 cond (decide (64<gF)) (
 some false) (
 cond (decide (lK<1)) (
 some false) (
 cond (decide (64<lK)) (
 some false) (
 cond (!decide ((gG.length:Int)=(aC.wrap (gF*lK)))) (
 some false) (
 vY N gG (fun i2=>
 some true) N 0)))))
def pP (N:Nat) (gF:Int) (gG:List bU) (aI:Int) (kk:gL→Option pW):Nat→gL→Option pW
 | 0,_=>none
 | aA+1,(cJ,i)=>
  cond (decide (i<(gG.length:Int))) (
  (nz gF).bind fun _=>
  (nz gF).bind fun _=>
  (rN N aI (mN i gF) (aC.wrap (gI i gF))).bind fun r4=>
  (idx gG i).bind fun e2=>
  cond (decide (r4.1=0)) (
  (app 8 cJ ([e2.1]:List Int)).bind fun YS=>
  pP N gF gG aI kk aA (YS,aC.wrap (i+1))) (
  cond (decide (r4.1=1)) (
  (app 8 cJ ([e2.2.1]:List Int)).bind fun GH=>
  pP N gF gG aI kk aA (GH,aC.wrap (i+1))) (
  (app 8 cJ ([e2.2.2]:List Int)).bind fun GI=>
  pP N gF gG aI kk aA (GI,aC.wrap (i+1))))) (
  kk (cJ,i))
def qT (N:Nat) (gF lK:Int) (gG:List bU) (aI:Int):Option pW:=
 (Cn N gF lK gG).bind fun r2=>
 cond (!(r2)) (
 some (0,0,([]:List Int),1)) (
 cond (decide (aI<0)) (
 some (0,0,([]:List Int),3)) (
 cond (decide (3<aI)) (
 some (0,0,([]:List Int),3)) (
 pP N gF gG aI (fun (H9,i2)=>
 some (gF,lK,H9,0)) N (([]:List Int),0))))
def FY (N:Nat) (n:Int):Option Int:=
 some (max 0 (min n 65535))
def DF (N:Nat) (SI SJ SK k YM YN YO v03 v04 v05 v06 v07 v08:Int):Option Int:=
 (inr k 9).bind fun _=>
 (idx [YM,YN,YO,v03,v04,v05,v06,v07,v08] k).bind fun e=>
 (inr (aC.wrap (k+1)) 9).bind fun _=>
 (idx [YM,YN,YO,v03,v04,v05,v06,v07,v08] (aC.wrap (k+1))).bind fun e2=>
 (inr (aC.wrap (k+2)) 9).bind fun _=>
 (idx [YM,YN,YO,v03,v04,v05,v06,v07,v08] (aC.wrap (k+2))).bind fun e3=>
 (FY N (jN .i64 (aC.wrap ((aC.wrap ((aC.wrap (e*SI))+(aC.wrap (e2*SJ))))+(aC.wrap (e3*SK)))) 12)).bind fun r2=>
 some r2
def BQ (N:Nat) (SI SJ SK x2 y TC TD TE TF TG TH TI TJ TK:Int):Option bU:=
 (DF N SI SJ SK 0 TC TD TE TF TG TH TI TJ TK).bind fun r2=>
 (DF N SI SJ SK 3 TC TD TE TF TG TH TI TJ TK).bind fun r3=>
 (DF N SI SJ SK 6 TC TD TE TF TG TH TI TJ TK).bind fun r4=>
 some (r2,r3,r4)
def kH (N:Nat) (gF:Int) (gG:List bU) (CZ C0 C1 C2 C3 C4 C5 C6 C7:Int) (kk:pN→Option yH):Nat→pN→Option yH
 | 0,_=>none
 | aA+1,(cJ,i)=>
  cond (decide (i<(gG.length:Int))) (
  (idx gG i).bind fun e3=>
  (nz gF).bind fun _=>
  (nz gF).bind fun _=>
  (BQ N e3.1 e3.2.1 e3.2.2 (mN i gF) (aC.wrap (gI i gF)) CZ C0 C1 C2 C3 C4 C5 C6 C7).bind fun r4=>
  (idx cJ i).bind fun e4=>
  (yO cJ i (r4.1,r4.2.1,r4.2.2)).bind fun l4=>
  kH N gF gG CZ C0 C1 C2 C3 C4 C5 C6 C7 kk aA (l4,aC.wrap (i+1))) (
  kk (cJ,i))
def lZ (N:Nat) (gF lK:Int) (gG:List bU) (CZ C0 C1 C2 C3 C4 C5 C6 C7:Int):Option yH:=
 (qT N gF lK gG 0).bind fun r2=>
 cond (!decide (r2.2.2.2=0)) (
 some (0,0,([]:List bU),r2.2.2.2)) (
 (some ((gG.length:Int))).bind fun x2=>
 (mk 24 x2 ((0,0,0):bU)).bind fun l2=>
 kH N gF gG CZ C0 C1 C2 C3 C4 C5 C6 C7 (fun (uJ,i2)=>
 some (gF,lK,uJ,0)) N (l2,0))
def tT (N:Nat) (m0 m1 m2 m3 m4 m5 m6 m7 m8:Int) (kk:Tr→Option yH):Nat→Tr→Option yH
 | 0,_=>none
 | aA+1,(fine,i)=>
  cond (decide (i<9)) (
  (idx [m0,m1,m2,m3,m4,m5,m6,m7,m8] i).bind fun e2=>
  cond (fine) (
  cond (decide ((-32768)≤e2)) (
  tT N m0 m1 m2 m3 m4 m5 m6 m7 m8 kk aA (decide (e2≤32768),aC.wrap (i+1))) (
  tT N m0 m1 m2 m3 m4 m5 m6 m7 m8 kk aA (false,aC.wrap (i+1)))) (
  tT N m0 m1 m2 m3 m4 m5 m6 m7 m8 kk aA (false,aC.wrap (i+1)))) (
  kk (fine,i))
def EC (N:Nat) (gF lK:Int) (gG:List bU) (m0 m1 m2 m3 m4 m5 m6 m7 m8:Int):Option yH:=
 tT N m0 m1 m2 m3 m4 m5 m6 m7 m8 (fun (aIQ,i2)=>
 (lZ N gF lK gG m0 m1 m2 m3 m4 m5 m6 m7 m8).bind fun r2=>
 cond (decide (r2.2.2.2=0)) (
 cond (!(aIQ)) (
 some (0,0,([]:List bU),3)) (
 some (r2.1,r2.2.1,r2.2.2.1,r2.2.2.2))) (
 some (r2.1,r2.2.1,r2.2.2.1,r2.2.2.2))) N (true,0)
def CB (N:Nat) (QN Hd He Hf Hg Sy:Int) (snd:List aN) (Hh Hi Hj Hk Hl Hm Hn Ho Hp Hr Hs Ht:Int) (Kj:List aN) (Sz lE mS:Int) (iI:List Int) (gF lK:Int) (gG:List bU):Option FP:=
 (EC N gF lK gG Hk Hl Hm Hn Ho Hp Hr Hs Ht).bind fun r2=>
 some (lE,mS,iI,r2.1,r2.2.1,r2.2.2.1,r2.2.2.2)
def xZ (N:Nat) (SI SJ SK x2 y:Int) (v0:List aN):Option bU:=
 (yT N v0 SI).bind fun r2=>
 (yT N v0 SJ).bind fun r3=>
 (yT N v0 SK).bind fun r4=>
 some (r2,r3,r4)
def jQ (N:Nat) (gF:Int) (gG:List bU) (DG:List aN) (kk:pN→Option yH):Nat→pN→Option yH
 | 0,_=>none
 | aA+1,(cJ,i)=>
  cond (decide (i<(gG.length:Int))) (
  (idx gG i).bind fun e3=>
  (nz gF).bind fun _=>
  (nz gF).bind fun _=>
  (xZ N e3.1 e3.2.1 e3.2.2 (mN i gF) (aC.wrap (gI i gF)) DG).bind fun r4=>
  (idx cJ i).bind fun e4=>
  (yO cJ i (r4.1,r4.2.1,r4.2.2)).bind fun l4=>
  jQ N gF gG DG kk aA (l4,aC.wrap (i+1))) (
  kk (cJ,i))
def lN (N:Nat) (gF lK:Int) (gG:List bU) (DG:List aN):Option yH:=
 (qT N gF lK gG 0).bind fun r2=>
 cond (!decide (r2.2.2.2=0)) (
 some (0,0,([]:List bU),r2.2.2.2)) (
 (some ((gG.length:Int))).bind fun x2=>
 (mk 24 x2 ((0,0,0):bU)).bind fun l2=>
 jQ N gF gG DG (fun (uJ,i2)=>
 some (gF,lK,uJ,0)) N (l2,0))
def Dm (N:Nat) (gF lK:Int) (gG:List bU) (l2:List aN):Option yH:=
 (jP N l2).bind fun r2=>
 cond (!(r2)) (
 some (0,0,([]:List bU),1)) (
 (lN N gF lK gG l2).bind fun r3=>
 some (r3.1,r3.2.1,r3.2.2.1,r3.2.2.2))
def BR (N:Nat) (QN Hd He Hf Hg Sy:Int) (snd:List aN) (Hh Hi Hj Hk Hl Hm Hn Ho Hp Hr Hs Ht:Int) (Kj:List aN) (Sz lE mS:Int) (iI:List Int) (gF lK:Int) (gG:List bU):Option FP:=
 (Dm N gF lK gG Kj).bind fun r2=>
 some (lE,mS,iI,r2.1,r2.2.1,r2.2.2.1,r2.2.2.2)
def y8 (N:Nat) (v Kv v0:Int):Option Int:=
 (FY N (aC.wrap (v+(jN .i64 (aC.wrap ((aC.wrap (v-(jN .i64 Kv 4)))*v0)) 8)))).bind fun r2=>
 some r2
def oB (N:Nat) (o p2 Dt Fc:Int) (D6:List bU) (i:Int) (kk:yN→Option bU):Nat→yN→Option bU
 | 0,_=>none
 | aA+1,(Bi,Bj,Bl,i3)=>
  cond (decide (i3≤1)) (
  (some (aC.wrap ((aC.wrap ((min (max (aC.wrap (p2+i)) 0) (aC.wrap (Fc-1)))*Dt))+(min (max (aC.wrap (o+i3)) 0) (aC.wrap (Dt-1)))))).bind fun x9=>
  (idx D6 x9).bind fun e3=>
  (some (aC.wrap ((aC.wrap (2-(aC.wrap (i3*i3))))*(aC.wrap (2-(aC.wrap (i*i))))))).bind fun x10=>
  (some (aC.wrap (i3+1))).bind fun US=>
  oB N o p2 Dt Fc D6 i kk aA (aC.wrap (Bi+(aC.wrap (x10*e3.1))),aC.wrap (Bj+(aC.wrap (x10*e3.2.1))),aC.wrap (Bl+(aC.wrap (x10*e3.2.2))),US)) (
  kk (Bi,Bj,Bl,i3))
def oC (N:Nat) (o p2 Dt Fc:Int) (D6:List bU) (kk:yN→Option bU):Nat→yN→Option bU
 | 0,_=>none
 | aA+1,(GE,GF,GG,i)=>
  cond (decide (i≤1)) (
  oB N o p2 Dt Fc D6 i (fun (YP,YQ,YR,i4)=>
  (some (aC.wrap (i+1))).bind fun FX=>
  oC N o p2 Dt Fc D6 kk aA (YP,YQ,YR,FX)) N (GE,GF,GG,(-1))) (
  kk (GE,GF,GG,i))
def tH (N:Nat) (d_R d_G d_B o p2 Dt Fc:Int) (D6:List bU) (aBH:Int):Option bU:=
 oC N o p2 Dt Fc D6 (fun (aMh,aMi,aMj,i5)=>
 (y8 N d_R aMh aBH).bind fun r2=>
 (y8 N d_G aMi aBH).bind fun r3=>
 (y8 N d_B aMj aBH).bind fun r4=>
 some (r2,r3,r4)) N (0,0,0,(-1))
def iC (N:Nat) (gF:Int) (gG:List bU) (yA yB:Int) (tU:List bU) (yC:Int) (kk:pN→Option yH):Nat→pN→Option yH
 | 0,_=>none
 | aA+1,(cJ,i)=>
  cond (decide (i<(gG.length:Int))) (
  (idx gG i).bind fun e3=>
  (nz gF).bind fun _=>
  (nz gF).bind fun _=>
  (tH N e3.1 e3.2.1 e3.2.2 (mN i gF) (aC.wrap (gI i gF)) yA yB tU yC).bind fun r4=>
  (idx cJ i).bind fun e4=>
  (yO cJ i (r4.1,r4.2.1,r4.2.2)).bind fun l4=>
  iC N gF gG yA yB tU yC kk aA (l4,aC.wrap (i+1))) (
  kk (cJ,i))
def jR (N:Nat) (gF lK:Int) (gG:List bU) (yA yB:Int) (tU:List bU) (yC:Int):Option yH:=
 (qT N gF lK gG 0).bind fun r2=>
 cond (!decide (r2.2.2.2=0)) (
 some (0,0,([]:List bU),r2.2.2.2)) (
 (some ((gG.length:Int))).bind fun x2=>
 (mk 24 x2 ((0,0,0):bU)).bind fun l2=>
 iC N gF gG yA yB tU yC (fun (uJ,i2)=>
 some (gF,lK,uJ,0)) N (l2,0))
def y9 (N:Nat) (gF lK:Int) (gG:List bU) (fK:Int):Option yH:=
 (jR N gF lK gG gF lK gG fK).bind fun r2=>
 cond (decide (r2.2.2.2=0)) (
 cond (decide (fK<0)) (
 some (0,0,([]:List bU),3)) (
 cond (decide (1024<fK)) (
 some (0,0,([]:List bU),3)) (
 some (r2.1,r2.2.1,r2.2.2.1,r2.2.2.2)))) (
 some (r2.1,r2.2.1,r2.2.2.1,r2.2.2.2))
def yI (N:Nat) (QN Hd He Hf Hg Sy:Int) (snd:List aN) (Hh Hi Hj Hk Hl Hm Hn Ho Hp Hr Hs Ht:Int) (Kj:List aN) (Sz lE mS:Int) (iI:List Int) (gF lK:Int) (gG:List bU):Option FP:=
 (y9 N gF lK gG Sz).bind fun r2=>
 some (lE,mS,iI,r2.1,r2.2.1,r2.2.2.1,r2.2.2.2)
def DH (N:Nat) (na nb0 DZ D0 D1 nc:Int) (nd:List aN) (D5 ne1 El Em En Eo Ep Er Es Et Eu nf8:Int) (ng:List aN) (nh lE mS:Int) (iI:List Int):Option yH:=
 (xI N na nb0 DZ D0 D1 nc nd D5 ne1 El Em En Eo Ep Er Es Et Eu nf8 ng nh).bind fun r2=>
 cond (!decide (r2=0)) (
 some (0,0,([]:List bU),r2)) (
 (AI N na nb0 DZ D0 D1 nc nd D5 ne1 El Em En Eo Ep Er Es Et Eu nf8 ng nh lE mS iI 0 0 (([]:List bU))).bind fun r3=>
 cond (!decide (r3.2.2.2.2.2.2=0)) (
 some (0,0,([]:List bU),r3.2.2.2.2.2.2)) (
 (zW N na nb0 DZ D0 D1 nc nd D5 ne1 El Em En Eo Ep Er Es Et Eu nf8 ng nh r3.1 r3.2.1 r3.2.2.1 r3.2.2.2.1 r3.2.2.2.2.1 (([]:List bU))).bind fun r4=>
 cond (!decide (r4.2.2.2.2.2.2=0)) (
 some (0,0,([]:List bU),r4.2.2.2.2.2.2)) (
 (BO N na nb0 DZ D0 D1 nc nd D5 ne1 El Em En Eo Ep Er Es Et Eu nf8 ng nh r4.1 r4.2.1 r4.2.2.1 r4.2.2.2.1 r4.2.2.2.2.1 (([]:List bU))).bind fun r5=>
 cond (!decide (r5.2.2.2.2.2.2=0)) (
 some (0,0,([]:List bU),r5.2.2.2.2.2.2)) (
 (BP N na nb0 DZ D0 D1 nc nd D5 ne1 El Em En Eo Ep Er Es Et Eu nf8 ng nh r5.1 r5.2.1 r5.2.2.1 r5.2.2.2.1 r5.2.2.2.2.1 (([]:List bU))).bind fun r6=>
 cond (!decide (r6.2.2.2.2.2.2=0)) (
 some (0,0,([]:List bU),r6.2.2.2.2.2.2)) (
 (CB N na nb0 DZ D0 D1 nc nd D5 ne1 El Em En Eo Ep Er Es Et Eu nf8 ng nh r6.1 r6.2.1 r5.2.2.1 r6.2.2.2.1 r6.2.2.2.2.1 r6.2.2.2.2.2.1).bind fun r7=>
 cond (!decide (r7.2.2.2.2.2.2=0)) (
 some (0,0,([]:List bU),r7.2.2.2.2.2.2)) (
 (BR N na nb0 DZ D0 D1 nc nd D5 ne1 El Em En Eo Ep Er Es Et Eu nf8 ng nh r7.1 r7.2.1 r5.2.2.1 r7.2.2.2.1 r7.2.2.2.2.1 r7.2.2.2.2.2.1).bind fun r8=>
 cond (!decide (r8.2.2.2.2.2.2=0)) (
 some (0,0,([]:List bU),r8.2.2.2.2.2.2)) (
 (yI N na nb0 DZ D0 D1 nc nd D5 ne1 El Em En Eo Ep Er Es Et Eu nf8 ng nh r8.1 r8.2.1 r5.2.2.1 r8.2.2.2.1 r8.2.2.2.2.1 r8.2.2.2.2.2.1).bind fun r9=>
 cond (!decide (r9.2.2.2.2.2.2=0)) (
 some (0,0,([]:List bU),r9.2.2.2.2.2.2)) (
 some (r9.2.2.2.1,r9.2.2.2.2.1,r9.2.2.2.2.2.1,0)))))))))
def j0 (N:Nat) (s:List bU):Option (List bU):=
 (app 24 (([]:List bU)) s).bind fun l2=>
 some l2
def Ff (N:Nat) (da QO QP QQ QR dc:Int) (dd:List aN) (QS QT QU TM TN df2 TO TP TQ TR TS TT:Int) (dg:List aN) (dh C8 GJ:Int) (LP:List Int) (p2 p3 p4 p5:Int):Option yH:=
 (xI N da QO QP QQ QR dc dd QS QT QU TM TN df2 TO TP TQ TR TS TT dg dh).bind fun r2=>
 cond (!decide (r2=0)) (
 some (0,0,([]:List bU),r2)) (
 (iL N C8 GJ LP (([]:List aN))).bind fun r3=>
 cond (!decide (r3.2.2.2=0)) (
 some (0,0,([]:List bU),r3.2.2.2)) (
 (rX N 1 64 ([p3]:List Int)).bind fun r4=>
 cond (!(r4)) (
 some (0,0,([]:List bU),3)) (
 (rX N 0 (aC.wrap (p3-GJ)) ([p2]:List Int)).bind fun r5=>
 cond (!(r5)) (
 some (0,0,([]:List bU),3)) (
 (rX N 0 (aC.wrap (p3-1)) ([p4]:List Int)).bind fun r6=>
 cond (!(r6)) (
 some (0,0,([]:List bU),3)) (
 (rX N (aC.wrap (p4+1)) p3 ([p5]:List Int)).bind fun r7=>
 cond (!(r7)) (
 some (0,0,([]:List bU),3)) (
 cond (decide ((max (aC.wrap (p4-4)) 0)<p2)) (
 some (0,0,([]:List bU),3)) (
 cond (decide ((aC.wrap (p2+GJ))<(min (aC.wrap (p5+4)) p3))) (
 some (0,0,([]:List bU),3)) (
 (BM N dd C8 p3).bind fun r8=>
 cond (!(r8)) (
 some (0,0,([]:List bU),3)) (
 (Fe N da QO QP QQ QR dc dd QS QT QU TM TN df2 TO TP TQ TR TS TT dg dh p2 GJ).bind fun r9=>
 (DH N r9.1 r9.2.1 r9.2.2.1 r9.2.2.2.1 r9.2.2.2.2.1 r9.2.2.2.2.2.1 r9.2.2.2.2.2.2.1 r9.2.2.2.2.2.2.2.1 r9.2.2.2.2.2.2.2.2.1 r9.2.2.2.2.2.2.2.2.2.1 r9.2.2.2.2.2.2.2.2.2.2.1 r9.2.2.2.2.2.2.2.2.2.2.2.1 r9.2.2.2.2.2.2.2.2.2.2.2.2.1 r9.2.2.2.2.2.2.2.2.2.2.2.2.2.1 r9.2.2.2.2.2.2.2.2.2.2.2.2.2.2.1 r9.2.2.2.2.2.2.2.2.2.2.2.2.2.2.2.1 r9.2.2.2.2.2.2.2.2.2.2.2.2.2.2.2.2.1 r9.2.2.2.2.2.2.2.2.2.2.2.2.2.2.2.2.2.1 r9.2.2.2.2.2.2.2.2.2.2.2.2.2.2.2.2.2.2.1 dg r9.2.2.2.2.2.2.2.2.2.2.2.2.2.2.2.2.2.2.2.2 C8 GJ LP).bind fun Cd=>
 cond (!decide (Cd.2.2.2=0)) (
 some (0,0,([]:List bU),Cd.2.2.2)) (
 (Fs Cd.2.2.1 (aC.wrap ((aC.wrap (p4-p2))*Cd.1)) (aC.wrap ((aC.wrap (p5-p2))*Cd.1))).bind fun l2=>
 (j0 N l2).bind fun Al=>
 some (Cd.1,aC.wrap (p5-p4),Al,0)))))))))))
def zA (N:Nat) (da QO QP QQ QR dc:Int) (dd:List aN) (QS QT QU TM TN df2 TO TP TQ TR TS TT:Int) (dg:List aN) (dh C8 GJ:Int) (LP:List Int) (p2:Int) (kk:pN→Option yH):Nat→pN→Option yH
 | 0,_=>none
 | aA+1,(tE,i)=>
  cond (decide (i<GJ)) (
  (some (aC.wrap (i+(min p2 (aC.wrap (GJ-i)))))).bind fun x5=>
  (some (max (aC.wrap (i-4)) 0)).bind fun x6=>
  (some (min (aC.wrap (x5+4)) GJ)).bind fun x7=>
  (Fs LP (aC.wrap (x6*C8)) (aC.wrap (x7*C8))).bind fun l3=>
  (Ff N da QO QP QQ QR dc dd QS QT QU TM TN df2 TO TP TQ TR TS TT dg dh C8 (aC.wrap (x7-x6)) l3 x6 GJ i x5).bind fun r6=>
  cond (!decide (r6.2.2.2=0)) (
  some (0,0,([]:List bU),r6.2.2.2)) (
  (app 24 tE r6.2.2.1).bind fun sZ=>
  zA N da QO QP QQ QR dc dd QS QT QU TM TN df2 TO TP TQ TR TS TT dg dh C8 GJ LP p2 kk aA (sZ,x5))) (
  kk (tE,i))
def Co (N:Nat) (da QO QP QQ QR dc:Int) (dd:List aN) (QS QT QU TM TN df2 TO TP TQ TR TS TT:Int) (dg:List aN) (dh C8 GJ:Int) (LP:List Int) (p2:Int):Option yH:=
 (xI N da QO QP QQ QR dc dd QS QT QU TM TN df2 TO TP TQ TR TS TT dg dh).bind fun r2=>
 cond (!decide (r2=0)) (
 some (0,0,([]:List bU),r2)) (
 (iL N C8 GJ LP dd).bind fun r3=>
 cond (!decide (r3.2.2.2=0)) (
 some (0,0,([]:List bU),r3.2.2.2)) (
 cond (decide (p2<1)) (
 some (0,0,([]:List bU),3)) (
 zA N da QO QP QQ QR dc dd QS QT QU TM TN df2 TO TP TQ TR TS TT dg dh C8 GJ LP p2 (fun (FZ,i2)=>
 some (C8,GJ,FZ,0)) N (([]:List bU),0))))
def AB (N:Nat) (eA:Int) (fZ:List bU) (o_X o_Y C8 GJ:Int) (kk:pN→Option yH):Nat→pN→Option yH
 | 0,_=>none
 | aA+1,(tE,i)=>
  cond (decide (i<GJ)) (
  (some (aC.wrap ((aC.wrap ((aC.wrap (o_Y+i))*eA))+o_X))).bind fun x3=>
  (Fs fZ x3 (aC.wrap (x3+C8))).bind fun l3=>
  (app 24 tE l3).bind fun Ak=>
  AB N eA fZ o_X o_Y C8 GJ kk aA (Ak,aC.wrap (i+1))) (
  kk (tE,i))
def C9 (N:Nat) (eA fY:Int) (fZ:List bU) (o_X o_Y C8 GJ:Int):Option yH:=
 (qT N eA fY fZ 0).bind fun r2=>
 cond (!decide (r2.2.2.2=0)) (
 some (0,0,([]:List bU),r2.2.2.2)) (
 cond (decide (C8<1)) (
 some (0,0,([]:List bU),3)) (
 cond (decide (GJ<1)) (
 some (0,0,([]:List bU),3)) (
 cond (decide (eA<C8)) (
 some (0,0,([]:List bU),3)) (
 cond (decide (fY<GJ)) (
 some (0,0,([]:List bU),3)) (
 cond (decide (o_X<0)) (
 some (0,0,([]:List bU),3)) (
 cond (decide (o_Y<0)) (
 some (0,0,([]:List bU),3)) (
 cond (decide ((aC.wrap (eA-C8))<o_X)) (
 some (0,0,([]:List bU),3)) (
 cond (decide ((aC.wrap (fY-GJ))<o_Y)) (
 some (0,0,([]:List bU),3)) (
 AB N eA fZ o_X o_Y C8 GJ (fun (sZ,i2)=>
 some (C8,GJ,sZ,0)) N (([]:List bU),0))))))))))
def I8 (N:Nat)  : Option (Bool×Bool×Bool×Bool×Bool×Bool×Bool×Bool×Bool×Bool×Bool×Bool×Bool×Bool×Bool×Bool×Bool×Bool×Bool×Bool×Bool×Bool×Bool×Bool×Bool×Bool×Bool):=
 some (false,false,false,false,false,false,false,true,false,false,true,true,false,false,true,true,false,false,true,true,false,true,true,true,true,false,true)
def sK (N:Nat) (gF lK:Int) (gG:List bU) (kk:pN→Option nJ):Nat→pN→Option nJ
 | 0,_=>none
 | aA+1,(cJ,i)=>
  cond (decide (i<(gG.length:Int))) (
  (idx gG i).bind fun e3=>
  (nz gF).bind fun _=>
  (nz gF).bind fun _=>
  (idx cJ (aC.wrap ((aC.wrap ((mN i gF)*lK))+(aC.wrap (gI i gF))))).bind fun e4=>
  (yO cJ (aC.wrap ((aC.wrap ((mN i gF)*lK))+(aC.wrap (gI i gF)))) (e3.1,e3.2.1,e3.2.2)).bind fun l4=>
  sK N gF lK gG kk aA (l4,aC.wrap (i+1))) (
  kk (cJ,i))
def wD (N:Nat) (gF lK:Int) (gG:List bU):Option nJ:=
 (some ((gG.length:Int))).bind fun x2=>
 (mk 24 x2 ((0,0,0):bU)).bind fun l2=>
 sK N gF lK gG (fun (uJ,i2)=>
 some (lK,gF,uJ)) N (l2,0)
def E0 (N:Nat) (x2 y Dt Fc:Int) (D6:List bU):Option Int:=
 some (aC.wrap ((aC.wrap ((aC.wrap ((aC.wrap (y*Dt))+Dt))-1))-x2))
def iD (N:Nat) (gF:Int) (gG:List bU) (Da Db:Int) (zX:List bU) (kk:pN→Option nJ):Nat→pN→Option nJ
 | 0,_=>none
 | aA+1,(cJ,i)=>
  cond (decide (i<(gG.length:Int))) (
  (idx gG i).bind fun e3=>
  (nz gF).bind fun _=>
  (nz gF).bind fun _=>
  (E0 N (mN i gF) (aC.wrap (gI i gF)) Da Db zX).bind fun r3=>
  (idx cJ r3).bind fun e4=>
  (yO cJ r3 (e3.1,e3.2.1,e3.2.2)).bind fun l4=>
  iD N gF gG Da Db zX kk aA (l4,aC.wrap (i+1))) (
  kk (cJ,i))
def iA (N:Nat) (gF lK:Int) (gG:List bU) (Da Db:Int) (zX:List bU):Option nJ:=
 (some ((gG.length:Int))).bind fun x2=>
 (mk 24 x2 ((0,0,0):bU)).bind fun l2=>
 iD N gF gG Da Db zX (fun (uJ,i2)=>
 some (gF,lK,uJ)) N (l2,0)
def E1 (N:Nat) (x2 y Dt Fc:Int) (D6:List bU):Option Int:=
 some (aC.wrap ((aC.wrap ((aC.wrap ((aC.wrap (Fc-1))-y))*Dt))+x2))
def iE (N:Nat) (gF:Int) (gG:List bU) (Dc Dd:Int) (zY:List bU) (kk:pN→Option nJ):Nat→pN→Option nJ
 | 0,_=>none
 | aA+1,(cJ,i)=>
  cond (decide (i<(gG.length:Int))) (
  (idx gG i).bind fun e3=>
  (nz gF).bind fun _=>
  (nz gF).bind fun _=>
  (E1 N (mN i gF) (aC.wrap (gI i gF)) Dc Dd zY).bind fun r3=>
  (idx cJ r3).bind fun e4=>
  (yO cJ r3 (e3.1,e3.2.1,e3.2.2)).bind fun l4=>
  iE N gF gG Dc Dd zY kk aA (l4,aC.wrap (i+1))) (
  kk (cJ,i))
def eP (N:Nat) (gF lK:Int) (gG:List bU) (Dc Dd:Int) (zY:List bU):Option nJ:=
 (some ((gG.length:Int))).bind fun x2=>
 (mk 24 x2 ((0,0,0):bU)).bind fun l2=>
 iE N gF gG Dc Dd zY (fun (uJ,i2)=>
 some (gF,lK,uJ)) N (l2,0)
def E2 (N:Nat) (x2 y Dt Fc:Int) (D6:List bU):Option Int:=
 some (aC.wrap ((aC.wrap (y*Dt))+x2))
def iF (N:Nat) (gF:Int) (gG:List bU) (De Df:Int) (zZ:List bU) (kk:pN→Option nJ):Nat→pN→Option nJ
 | 0,_=>none
 | aA+1,(cJ,i)=>
  cond (decide (i<(gG.length:Int))) (
  (idx gG i).bind fun e3=>
  (nz gF).bind fun _=>
  (nz gF).bind fun _=>
  (E2 N (mN i gF) (aC.wrap (gI i gF)) De Df zZ).bind fun r3=>
  (idx cJ r3).bind fun e4=>
  (yO cJ r3 (e3.1,e3.2.1,e3.2.2)).bind fun l4=>
  iF N gF gG De Df zZ kk aA (l4,aC.wrap (i+1))) (
  kk (cJ,i))
def cZ (N:Nat) (gF lK:Int) (gG:List bU) (De Df:Int) (zZ:List bU):Option nJ:=
 (some ((gG.length:Int))).bind fun x2=>
 (mk 24 x2 ((0,0,0):bU)).bind fun l2=>
 iF N gF gG De Df zZ (fun (uJ,i2)=>
 some (gF,lK,uJ)) N (l2,0)
def pD (N:Nat) (gF lK:Int) (gG:List bU) (how:Int):Option yH:=
 (qT N gF lK gG 0).bind fun r2=>
 cond (!decide (r2.2.2.2=0)) (
 some (0,0,([]:List bU),r2.2.2.2)) (
 cond (decide (how<1)) (
 some (0,0,([]:List bU),3)) (
 cond (decide (8<how)) (
 some (0,0,([]:List bU),3)) (
 (I8 N ).bind fun r3=>
 (idx [(r3.1,r3.2.1,r3.2.2.1),(r3.2.2.2.1,r3.2.2.2.2.1,r3.2.2.2.2.2.1),(r3.2.2.2.2.2.2.1,r3.2.2.2.2.2.2.2.1,r3.2.2.2.2.2.2.2.2.1),(r3.2.2.2.2.2.2.2.2.2.1,r3.2.2.2.2.2.2.2.2.2.2.1,r3.2.2.2.2.2.2.2.2.2.2.2.1),(r3.2.2.2.2.2.2.2.2.2.2.2.2.1,r3.2.2.2.2.2.2.2.2.2.2.2.2.2.1,r3.2.2.2.2.2.2.2.2.2.2.2.2.2.2.1),(r3.2.2.2.2.2.2.2.2.2.2.2.2.2.2.2.1,r3.2.2.2.2.2.2.2.2.2.2.2.2.2.2.2.2.1,r3.2.2.2.2.2.2.2.2.2.2.2.2.2.2.2.2.2.1),(r3.2.2.2.2.2.2.2.2.2.2.2.2.2.2.2.2.2.2.1,r3.2.2.2.2.2.2.2.2.2.2.2.2.2.2.2.2.2.2.2.1,r3.2.2.2.2.2.2.2.2.2.2.2.2.2.2.2.2.2.2.2.2.1),(r3.2.2.2.2.2.2.2.2.2.2.2.2.2.2.2.2.2.2.2.2.2.1,r3.2.2.2.2.2.2.2.2.2.2.2.2.2.2.2.2.2.2.2.2.2.2.1,r3.2.2.2.2.2.2.2.2.2.2.2.2.2.2.2.2.2.2.2.2.2.2.2.1),(r3.2.2.2.2.2.2.2.2.2.2.2.2.2.2.2.2.2.2.2.2.2.2.2.2.1,r3.2.2.2.2.2.2.2.2.2.2.2.2.2.2.2.2.2.2.2.2.2.2.2.2.2.1,r3.2.2.2.2.2.2.2.2.2.2.2.2.2.2.2.2.2.2.2.2.2.2.2.2.2.2)] how).bind fun e=>
 cond (e.1) (
 (wD N gF lK gG).bind fun r4=>
 cond (e.2.1) (
 (iA N r4.1 r4.2.1 r4.2.2 r4.1 r4.2.1 r4.2.2).bind fun r5=>
 cond (e.2.2) (
 (eP N r5.1 r5.2.1 r5.2.2 r5.1 r5.2.1 r5.2.2).bind fun r6=>
 (cZ N r6.1 r6.2.1 r6.2.2 r6.1 r6.2.1 r6.2.2).bind fun r7=>
 some (r7.1,r7.2.1,r7.2.2,0)) (
 (cZ N r5.1 r5.2.1 r5.2.2 r5.1 r5.2.1 r5.2.2).bind fun r8=>
 some (r8.1,r8.2.1,r8.2.2,0))) (
 cond (e.2.2) (
 (eP N r4.1 r4.2.1 r4.2.2 r4.1 r4.2.1 r4.2.2).bind fun r9=>
 (cZ N r9.1 r9.2.1 r9.2.2 r9.1 r9.2.1 r9.2.2).bind fun Cd=>
 some (Cd.1,Cd.2.1,Cd.2.2,0)) (
 (cZ N r4.1 r4.2.1 r4.2.2 r4.1 r4.2.1 r4.2.2).bind fun Al=>
 some (Al.1,Al.2.1,Al.2.2,0)))) (
 cond (e.2.1) (
 (iA N gF lK gG gF lK gG).bind fun AE=>
 cond (e.2.2) (
 (eP N AE.1 AE.2.1 AE.2.2 AE.1 AE.2.1 AE.2.2).bind fun B1=>
 (cZ N B1.1 B1.2.1 B1.2.2 B1.1 B1.2.1 B1.2.2).bind fun IX=>
 some (IX.1,IX.2.1,IX.2.2,0)) (
 (cZ N AE.1 AE.2.1 AE.2.2 AE.1 AE.2.1 AE.2.2).bind fun J5=>
 some (J5.1,J5.2.1,J5.2.2,0))) (
 cond (e.2.2) (
 (eP N gF lK gG gF lK gG).bind fun r16=>
 (cZ N r16.1 r16.2.1 r16.2.2 r16.1 r16.2.1 r16.2.2).bind fun Lw=>
 some (Lw.1,Lw.2.1,Lw.2.2,0)) (
 (cZ N gF lK gG gF lK gG).bind fun Mr=>
 some (Mr.1,Mr.2.1,Mr.2.2,0)))))))
def rO (N:Nat) (o:Bool) (e3:bU) (kk:lC→Option lC):Nat→lC→Option lC
 | 0,_=>none
 | aA+1,(l4,i3)=>
  cond (decide (i3<3)) (
  (idx [e3.1,e3.2.1,e3.2.2] i3).bind fun e5=>
  (bwb l4 (iH.wrap (jN .i64 e5 8))).bind fun b6=>
  cond (o) (
  (bwb b6 (iH.wrap e5)).bind fun b7=>
  rO N o e3 kk aA (b7,aC.wrap (i3+1))) (
  rO N o e3 kk aA (b6,aC.wrap (i3+1)))) (
  kk (l4,i3))
def xF (N:Nat) (fZ:List bU) (o:Bool) (kk:lC→Option lC):Nat→lC→Option lC
 | 0,_=>none
 | aA+1,(l2,i)=>
  cond (decide (i<(fZ.length:Int))) (
  (idx fZ i).bind fun e3=>
  rO N o e3 (fun (l5,i4)=>
  xF N fZ o kk aA (l5,aC.wrap (i+1))) N (l2,0)) (
  kk (l2,i))
def rP (N:Nat) (o:Bool) (e8:bU) (kk:lC→Option lC):Nat→lC→Option lC
 | 0,_=>none
 | aA+1,(l9,i8)=>
  cond (decide (i8<3)) (
  (idx [e8.1,e8.2.1,e8.2.2] i8).bind fun e10=>
  (bwb l9 (iH.wrap (jN .i64 e10 8))).bind fun b13=>
  cond (o) (
  (bwb b13 (iH.wrap e10)).bind fun b14=>
  rP N o e8 kk aA (b14,aC.wrap (i8+1))) (
  rP N o e8 kk aA (b13,aC.wrap (i8+1)))) (
  kk (l9,i8))
def xG (N:Nat) (fZ:List bU) (o:Bool) (kk:lC→Option lC):Nat→lC→Option lC
 | 0,_=>none
 | aA+1,(l7,i6)=>
  cond (decide (i6<(fZ.length:Int))) (
  (idx fZ i6).bind fun e8=>
  rP N o e8 (fun (l10,i9)=>
  xG N fZ o kk aA (l10,aC.wrap (i6+1))) N (l7,0)) (
  kk (l7,i6))
def jS (N:Nat) (eA fY:Int) (fZ:List bU) (o:Bool):Option lC:=
 (qT N eA fY fZ 0).bind fun r2=>
 cond (!decide (r2.2.2.2=0)) (
 some (([]:aR),r2.2.2.2)) (
 cond (o) (
 (lX N eA).bind fun r3=>
 (Ai ([80,54,10]:aR) r3).bind fun s=>
 (Ai s ([32]:aR)).bind fun s2=>
 (lX N fY).bind fun r4=>
 (Ai s2 r4).bind fun s3=>
 (Ai s3 ([10]:aR)).bind fun s4=>
 (lX N 65535).bind fun r5=>
 (Ai s4 r5).bind fun s5=>
 (Ai s5 ([10]:aR)).bind fun s6=>
 (V5 ([]:aR) s6).bind fun b=>
 xF N fZ o (fun (l6,i5)=>
 some (l6,0)) N (b,0)) (
 (lX N eA).bind fun r6=>
 (Ai ([80,54,10]:aR) r6).bind fun s7=>
 (Ai s7 ([32]:aR)).bind fun s8=>
 (lX N fY).bind fun r7=>
 (Ai s8 r7).bind fun s9=>
 (Ai s9 ([10]:aR)).bind fun s10=>
 (lX N 255).bind fun r8=>
 (Ai s10 r8).bind fun s11=>
 (Ai s11 ([10]:aR)).bind fun s12=>
 (V5 ([]:aR) s12).bind fun b8=>
 xG N fZ o (fun (Qa,EV)=>
 some (Qa,0)) N (b8,0)))
def uK (N:Nat) (d:aR) (UT Nb Nc Nd Nf Oy:Int) (I9:Bool):Option lC:=
 (zV N d).bind fun r2=>
 cond (!decide (r2.2.2.2.2.2.2.2.2.2.2.2.2.2.2.2.2.2.2.2.2.2.2.2.2.2.2.2.2=0)) (
 some (([]:aR),r2.2.2.2.2.2.2.2.2.2.2.2.2.2.2.2.2.2.2.2.2.2.2.2.2.2.2.2.2)) (
 (Dl N r2.1 r2.2.1 r2.2.2.1 r2.2.2.2.1 r2.2.2.2.2.1 r2.2.2.2.2.2.1 r2.2.2.2.2.2.2.1 r2.2.2.2.2.2.2.2.1 r2.2.2.2.2.2.2.2.2.1 r2.2.2.2.2.2.2.2.2.2.1 r2.2.2.2.2.2.2.2.2.2.2.1 r2.2.2.2.2.2.2.2.2.2.2.2.1 r2.2.2.2.2.2.2.2.2.2.2.2.2.1 r2.2.2.2.2.2.2.2.2.2.2.2.2.2.1 r2.2.2.2.2.2.2.2.2.2.2.2.2.2.2.1 r2.2.2.2.2.2.2.2.2.2.2.2.2.2.2.2.1 r2.2.2.2.2.2.2.2.2.2.2.2.2.2.2.2.2.1 r2.2.2.2.2.2.2.2.2.2.2.2.2.2.2.2.2.2.1 r2.2.2.2.2.2.2.2.2.2.2.2.2.2.2.2.2.2.2.1 r2.2.2.2.2.2.2.2.2.2.2.2.2.2.2.2.2.2.2.2.1 r2.2.2.2.2.2.2.2.2.2.2.2.2.2.2.2.2.2.2.2.2.1 r2.2.2.2.2.2.2.2.2.2.2.2.2.2.2.2.2.2.2.2.2.2.1 r2.2.2.2.2.2.2.2.2.2.2.2.2.2.2.2.2.2.2.2.2.2.2.1 r2.2.2.2.2.2.2.2.2.2.2.2.2.2.2.2.2.2.2.2.2.2.2.2.1 r2.2.2.2.2.2.2.2.2.2.2.2.2.2.2.2.2.2.2.2.2.2.2.2.2.1 r2.2.2.2.2.2.2.2.2.2.2.2.2.2.2.2.2.2.2.2.2.2.2.2.2.2.1 r2.2.2.2.2.2.2.2.2.2.2.2.2.2.2.2.2.2.2.2.2.2.2.2.2.2.2.1 r2.2.2.2.2.2.2.2.2.2.2.2.2.2.2.2.2.2.2.2.2.2.2.2.2.2.2.2.1).bind fun r3=>
 (Co N r2.2.2.2.2.2.2.2.1 r2.2.2.2.2.2.2.2.2.1 r2.2.2.2.2.2.2.2.2.2.1 r2.2.2.2.2.2.2.2.2.2.2.1 r2.2.2.2.2.2.2.2.2.2.2.2.1 r2.2.2.2.2.2.2.2.2.2.2.2.2.1 r2.2.2.2.2.2.2.2.2.2.2.2.2.2.1 r2.2.2.2.2.2.2.2.2.2.2.2.2.2.2.1 r2.2.2.2.2.2.2.2.2.2.2.2.2.2.2.2.1 r2.2.2.2.2.2.2.2.2.2.2.2.2.2.2.2.2.1 r2.2.2.2.2.2.2.2.2.2.2.2.2.2.2.2.2.2.1 r2.2.2.2.2.2.2.2.2.2.2.2.2.2.2.2.2.2.2.1 r2.2.2.2.2.2.2.2.2.2.2.2.2.2.2.2.2.2.2.2.1 r2.2.2.2.2.2.2.2.2.2.2.2.2.2.2.2.2.2.2.2.2.1 r2.2.2.2.2.2.2.2.2.2.2.2.2.2.2.2.2.2.2.2.2.2.1 r2.2.2.2.2.2.2.2.2.2.2.2.2.2.2.2.2.2.2.2.2.2.2.1 r2.2.2.2.2.2.2.2.2.2.2.2.2.2.2.2.2.2.2.2.2.2.2.2.1 r2.2.2.2.2.2.2.2.2.2.2.2.2.2.2.2.2.2.2.2.2.2.2.2.2.1 r2.2.2.2.2.2.2.2.2.2.2.2.2.2.2.2.2.2.2.2.2.2.2.2.2.2.1 r2.2.2.2.2.2.2.2.2.2.2.2.2.2.2.2.2.2.2.2.2.2.2.2.2.2.2.1 r2.2.2.2.2.2.2.2.2.2.2.2.2.2.2.2.2.2.2.2.2.2.2.2.2.2.2.2.1 r3.1 r3.2.1 r3.2.2.1 UT).bind fun r4=>
 cond (decide (r4.2.2.2=0)) (
 cond (!(decide (Nb=0)&&decide (Nc=0)&&decide (Nd=0)&&decide (Nf=0))) (
 (C9 N r4.1 r4.2.1 r4.2.2.1 Nb Nc Nd Nf).bind fun r5=>
 cond (decide (r5.2.2.2=0)) (
 (pD N r5.1 r5.2.1 r5.2.2.1 Oy).bind fun r6=>
 cond (!decide (r6.2.2.2=0)) (
 some (([]:aR),r6.2.2.2)) (
 (jS N r6.1 r6.2.1 r6.2.2.1 I9).bind fun r7=>
 some (r7.1,r7.2))) (
 cond (!decide (r5.2.2.2=0)) (
 some (([]:aR),r5.2.2.2)) (
 (jS N r5.1 r5.2.1 r5.2.2.1 I9).bind fun r8=>
 some (r8.1,r8.2)))) (
 cond (decide (r4.2.2.2=0)) (
 (pD N r4.1 r4.2.1 r4.2.2.1 Oy).bind fun r9=>
 cond (!decide (r9.2.2.2=0)) (
 some (([]:aR),r9.2.2.2)) (
 (jS N r9.1 r9.2.1 r9.2.2.1 I9).bind fun Cd=>
 some (Cd.1,Cd.2))) (
 cond (!decide (r4.2.2.2=0)) (
 some (([]:aR),r4.2.2.2)) (
 (jS N r4.1 r4.2.1 r4.2.2.1 I9).bind fun Al=>
 some (Al.1,Al.2))))) (
 cond (decide (r4.2.2.2=0)) (
 (pD N r4.1 r4.2.1 r4.2.2.1 Oy).bind fun AE=>
 cond (!decide (AE.2.2.2=0)) (
 some (([]:aR),AE.2.2.2)) (
 (jS N AE.1 AE.2.1 AE.2.2.1 I9).bind fun B1=>
 some (B1.1,B1.2))) (
 cond (!decide (r4.2.2.2=0)) (
 some (([]:aR),r4.2.2.2)) (
 (jS N r4.1 r4.2.1 r4.2.2.1 I9).bind fun IX=>
 some (IX.1,IX.2)))))
def aG (N:Nat) (QV:aR) (Fg:Bool):Option Kl:=
 cond (Fg) (
 some (0,QV,true)) (
 cond (decide ((QV.length:Int)<4)) (
 some (0,QV,true)) (
 (idx QV 0).bind fun b=>
 (idx QV 1).bind fun b2=>
 (idx QV 2).bind fun b3=>
 (some (Ir .i64 (Ir .i64 (qF .i64 (aC.wrap (b.toNat:Int)) 24) (qF .i64 (aC.wrap (b2.toNat:Int)) 16)) (qF .i64 (aC.wrap (b3.toNat:Int)) 8))).bind fun x2=>
 (idx QV 3).bind fun b4=>
 (some (Ir .i64 x2 (aC.wrap (b4.toNat:Int)))).bind fun n=>
 (Fs QV 4 (QV.length:Int)).bind fun s=>
 cond (decide (2147483648≤n)) (
 (some (aC.wrap (n-4294967296))).bind fun n2=>
 some (n2,s,Fg)) (
 some (n,s,Fg))))
def eF (N:Nat) (QV:aR) (Fg:Bool):Option Kl:=
 (aG N QV Fg).bind fun r2=>
 cond (decide (r2.1<0)) (
 some (0,r2.2.1,true)) (
 cond (decide ((r2.2.1.length:Int)<r2.1)) (
 some (0,r2.2.1,true)) (
 cond (r2.2.2) (
 some (0,r2.2.1,r2.2.2)) (
 some (r2.1,r2.2.1,r2.2.2))))
def gR (N:Nat) (QV:aR) (Fg:Bool):Option M5:=
 (eF N QV Fg).bind fun r2=>
 cond (!(r2.2.2)) (
 (Fs r2.2.1 0 r2.1).bind fun s=>
 (Fs r2.2.1 r2.1 (r2.2.1.length:Int)).bind fun s2=>
 some (s,s2,r2.2.2)) (
 some (([]:aR),r2.2.1,r2.2.2))
def aM (N:Nat) (n low high:Int):Option Bool:=
 cond (decide (low≤n)) (
 some (decide (n≤high))) (
 some false)
def jT (N:Nat) (lens:List Int) (kk:(Int×Bool×Int)→Option Int):Nat→(Int×Bool×Int)→Option Int
 | 0,_=>none
 | aA+1,(sum,used,i)=>
  cond (decide (i<(lens.length:Int))) (
  (idx lens i).bind fun e4=>
  (aM N e4 0 15).bind fun r4=>
  cond (!(r4)) (
  some 3) (
  (idx lens i).bind fun e5=>
  cond (decide (0<e5)) (
  (idx lens i).bind fun e6=>
  (nn (aC.wrap (15-e6))).bind fun _=>
  (some (aC.wrap (sum+(qF .i64 1 (aC.wrap (15-e6)))))).bind fun aKn=>
  (some (aC.wrap (i+1))).bind fun i4=>
  jT N lens kk aA (aKn,true,i4)) (
  (some (aC.wrap (i+1))).bind fun i5=>
  jT N lens kk aA (sum,used,i5)))) (
  kk (sum,used,i))
def j1 (N:Nat) (lens:List Int):Option Int:=
 (aM N (lens.length:Int) 1 17).bind fun r2=>
 cond (!(r2)) (
 some 2) (
 jT N lens (fun (aGq,aAr,i6)=>
 cond (!(aAr)) (
 some 1) (
 cond (decide (32768<aGq)) (
 some 1) (
 some 0))) N (0,false,0))
def qU (N:Nat) (v8 sV cP d7 cU:Int) (dE:List Int) (bX:List aR) (bN bE bF bG bH bO:Int) (aO:List aN) (bI bJ bK aV aW aX aY aZ bA bB bC bD:Int) (aP:List aN) (bL:Int):Option Int:=
 (aM N v8 1 64).bind fun r2=>
 cond (!(r2)) (
 some 3) (
 (aM N sV 1 64).bind fun r3=>
 cond (!(r3)) (
 some 3) (
 (aM N cP 1 16).bind fun r4=>
 cond (!(r4)) (
 some 3) (
 (aM N cU 1 sV).bind fun r5=>
 cond (!(r5)) (
 some 3) (
 (aM N d7 0 7).bind fun r6=>
 cond (!(r6)) (
 some 6) (
 cond (decide (d7=0)) (
 cond (decide (0<(dE.length:Int))) (
 some 1) (
 cond (decide (0<d7)) (
 (j1 N dE).bind fun r7=>
 some r7) (
 some 0))) (
 cond (decide (0<d7)) (
 (j1 N dE).bind fun r8=>
 some r8) (
 some 0)))))))
def uL (N:Nat) (v8 sV cP d7 cU:Int) (dE:List Int) (bX:List aR) (bN bE bF bG bH bO:Int) (aO:List aN) (bI bJ bK aV aW aX aY aZ bA bB bC bD:Int) (aP:List aN) (bL:Int):Option Int:=
 (nz cU).bind fun _=>
 some (aC.wrap (gI (aC.wrap ((aC.wrap (sV+cU))-1)) cU))
def mT (N:Nat) (l2:List aN) (w2 h2:Int) (kk:Int→Option Bool):Nat→Int→Option Bool
 | 0,_=>none
 | aA+1,i=>
  cond (decide (i<(l2.length:Int))) (
  (idx l2 i).bind fun e3=>
  (aM N e3.1 0 (aC.wrap (w2-1))).bind fun r4=>
  cond (!(r4)) (
  some false) (
  (idx l2 i).bind fun e4=>
  (aM N e4.2 0 (aC.wrap (h2-1))).bind fun r5=>
  cond (!(r5)) (
  some false) (
  (some (aC.wrap (i+1))).bind fun i3=>
  mT N l2 w2 h2 kk aA i3))) (
  kk i)
def sL (N:Nat) (l2:List aN) (w2 h2:Int):Option Bool:=
 mT N l2 w2 h2 (fun i4=>
 some true) N 0
def mU (N:Nat) (m0 m1 m2 m3 m4 m5 m6 m7 m8:Int) (kk:Int→Option Bool):Nat→Int→Option Bool
 | 0,_=>none
 | aA+1,i=>
  cond (decide (i<9)) (
  (inr i 9).bind fun _=>
  (idx [m0,m1,m2,m3,m4,m5,m6,m7,m8] i).bind fun e2=>
  (aM N e2 (-32768) 32768).bind fun r3=>
  cond (!(r3)) (
  some false) (
  (some (aC.wrap (i+1))).bind fun i3=>
  mU N m0 m1 m2 m3 m4 m5 m6 m7 m8 kk aA i3)) (
  kk i)
def sM (N:Nat) (m0 m1 m2 m3 m4 m5 m6 m7 m8:Int):Option Bool:=
 mU N m0 m1 m2 m3 m4 m5 m6 m7 m8 (fun i4=>
 some true) N 0
def jU (N:Nat) (d:List aN) (kk:Int→Option Bool):Nat→Int→Option Bool
 | 0,_=>none
 | aA+1,i=>
  cond (decide (i<(d.length:Int))) (
  (idx d i).bind fun e8=>
  (aM N e8.2 0 65535).bind fun r4=>
  cond (!(r4)) (
  some false) (
  cond (decide (0<i)) (
  (idx d i).bind fun e9=>
  (idx d (aC.wrap (i-1))).bind fun e10=>
  cond (decide (e9.1≤e10.1)) (
  some false) (
  (idx d i).bind fun e11=>
  (idx d (aC.wrap (i-1))).bind fun e12=>
  cond (decide (e11.2<e12.2)) (
  some false) (
  (some (aC.wrap (i+1))).bind fun x4=>
  jU N d kk aA x4))) (
  (some (aC.wrap (i+1))).bind fun x5=>
  jU N d kk aA x5))) (
  kk i)
def iM (N:Nat) (d:List aN):Option Bool:=
 (aM N (d.length:Int) 2 16).bind fun r2=>
 cond (!(r2)) (
 some false) (
 (idx d 0).bind fun e=>
 cond (!decide (e.1=0)) (
 some false) (
 (idx d (aC.wrap ((d.length:Int)-1))).bind fun e2=>
 cond (!decide (e2.1=65535)) (
 some false) (
 jU N d (fun i2=>
 some true) N 0)))
def eQ (N:Nat) (QS QT QU:Int) (kk:Int→Option Int):Nat→Int→Option Int
 | 0,_=>none
 | aA+1,i3=>
  cond (decide (i3<3)) (
  (inr i3 3).bind fun _=>
  (idx [QS,QT,QU] i3).bind fun e4=>
  (aM N e4 0 65535).bind fun Cd=>
  cond (!(Cd)) (
  some 3) (
  (some (aC.wrap (i3+1))).bind fun x5=>
  eQ N QS QT QU kk aA x5)) (
  kk i3)
def eR (N:Nat) (QO QP QQ QR dc:Int) (kk:Int→Option Int):Nat→Int→Option Int
 | 0,_=>none
 | aA+1,i=>
  cond (decide (i<4)) (
  (inr i 4).bind fun _=>
  (idx [QO,QP,QQ,QR] i).bind fun e2=>
  (aM N e2 0 (aC.wrap (dc-1))).bind fun r8=>
  cond (!(r8)) (
  some 3) (
  (some (aC.wrap (i+1))).bind fun x3=>
  eR N QO QP QQ QR dc kk aA x3)) (
  kk i)
def qV (N:Nat) (da QO QP QQ QR dc:Int) (dd:List aN) (QS QT QU TM TN df2 TO TP TQ TR TS TT:Int) (dg:List aN) (dh:Int):Option Int:=
 (aM N da 0 3).bind fun r2=>
 cond (!(r2)) (
 some 3) (
 (aM N dc 1 65535).bind fun r3=>
 cond (!(r3)) (
 some 3) (
 cond (decide (64<(dd.length:Int))) (
 some 3) (
 (sL N dd 64 64).bind fun r4=>
 cond (!(r4)) (
 some 3) (
 (sM N TM TN df2 TO TP TQ TR TS TT).bind fun r5=>
 cond (!(r5)) (
 some 3) (
 (aM N dh 0 1024).bind fun r6=>
 cond (!(r6)) (
 some 3) (
 eR N QO QP QQ QR dc (fun i2=>
 eQ N QS QT QU (fun i4=>
 (iM N dg).bind fun Al=>
 cond (!(Al)) (
 some 1) (
 some 0)) N 0) N 0))))))
def qW (N:Nat) (v8 sV cP d7 cU:Int) (dE:List Int) (bX:List aR) (bN bE bF bG bH bO:Int) (aO:List aN) (bI bJ bK aV aW aX aY aZ bA bB bC bD:Int) (aP:List aN) (bL:Int):Option Int:=
 (qV N bN bE bF bG bH bO aO bI bJ bK aV aW aX aY aZ bA bB bC bD aP bL).bind fun r2=>
 cond (!decide (r2=0)) (
 some r2) (
 (sL N aO v8 sV).bind fun r3=>
 cond (!(r3)) (
 some 3) (
 some 0))
def wL (N:Nat) (v8 sV cP d7 cU:Int) (dE:List Int) (bX:List aR) (bN bE bF bG bH bO:Int) (aO:List aN) (bI bJ bK aV aW aX aY aZ bA bB bC bD:Int) (aP:List aN) (bL strip:Int):Option Int:=
 some (min cU (aC.wrap (sV-(aC.wrap (strip*cU)))))
def qJ (N:Nat) (s:aR) (i:Int) (kk:gL→Option aR):Nat→gL→Option aR
 | 0,_=>none
 | aA+1,(l5,k3)=>
  cond (decide (0≤k3)) (
  (idx s i).bind fun b3=>
  (nn k3).bind fun _=>
  (app 1 l5 (([iH.wrap (48+(BJ .u8 (jN .u8 (b3.toNat:Int) k3) 1))]:List Int))).bind fun l7=>
  (some (aC.wrap (k3-1))).bind fun k5=>
  qJ N s i kk aA (l7,k5)) (
  kk (l5,k3))
def oE (N:Nat) (s:aR) (kk:gL→Option aR):Nat→gL→Option aR
 | 0,_=>none
 | aA+1,(l2,i)=>
  cond (decide (i<(s.length:Int))) (
  qJ N s i (fun (l8,k6)=>
  (some (aC.wrap (i+1))).bind fun i3=>
  oE N s kk aA (l8,i3)) N (l2,7)) (
  kk (l2,i))
def tI (N:Nat) (s:aR):Option aR:=
 (mok 1 (aC.wrap (8*(s.length:Int)))).bind fun _=>
 oE N s (fun (l9,i4)=>
 some (toB l9)) N (([]:List Int),0)
def oP (N:Nat) (b:aR) (kk:aN→Option Int):Nat→aN→Option Int
 | 0,_=>none
 | aA+1,(n,i)=>
  cond (decide (i<(b.length:Int))) (
  (idx b i).bind fun b3=>
  (some (aC.wrap ((aC.wrap (2*n))+(aC.wrap (iH.wrap ((b3.toNat:Int)-48)))))).bind fun n3=>
  (some (aC.wrap (i+1))).bind fun i3=>
  oP N b kk aA (n3,i3)) (
  kk (n,i))
def pE (N:Nat) (b:aR):Option Int:=
 oP N b (fun (n4,i4)=>
 some n4) N (0,0)
def kO (N:Nat):Nat→Int→Int→Option aR
 | 0,_,_=>none
 | fu+1,n,size=>
  cond (decide (size=0)) (
  some (([]:aR))) (
  (kO N fu (aC.wrap (gI n 2)) (aC.wrap (size-1))).bind fun r2=>
  (Ai r2 (toB (([iH.wrap (48+(iH.wrap (mN n 2)))]:List Int)))).bind fun s=>
  some s)
def oF (N:Nat) (n size:Int):Option aR:=kO N N n size
def kQ (N:Nat) (b:aR) (i:Int) (kk:aN→Option aR):Nat→aN→Option aR
 | 0,_=>none
 | aA+1,(n4,k5)=>
  cond (decide (k5<(aC.wrap (i+8)))) (
  (some (aC.wrap (2*n4))).bind fun n7=>
  cond (decide (k5<(b.length:Int))) (
  (idx b k5).bind fun b4=>
  cond (decide ((b4.toNat:Int)=49)) (
  (some (aC.wrap (n7+1))).bind fun n8=>
  (some (aC.wrap (k5+1))).bind fun k9=>
  kQ N b i kk aA (n8,k9)) (
  (some (aC.wrap (k5+1))).bind fun k10=>
  kQ N b i kk aA (n7,k10))) (
  (some (aC.wrap (k5+1))).bind fun k11=>
  kQ N b i kk aA (n7,k11))) (
  kk (n4,k5))
def mA (N:Nat) (b:aR) (kk:gL→Option aR):Nat→gL→Option aR
 | 0,_=>none
 | aA+1,(l2,i)=>
  cond (decide (i<(b.length:Int))) (
  kQ N b i (fun (n9,k12)=>
  (app 1 l2 ([iH.wrap n9]:List Int)).bind fun l4=>
  (some (aC.wrap (i+8))).bind fun i3=>
  mA N b kk aA (l4,i3)) N (0,i)) (
  kk (l2,i))
def lI (N:Nat) (b:aR):Option aR:=
 (mok 1 (aC.wrap ((aC.wrap (gI (b.length:Int) 8))+1))).bind fun _=>
 mA N b (fun (l5,i4)=>
 some (toB l5)) N (([]:List Int),0)
def nU (N:Nat) (l2:List Int) (depth:Int) (kk:gL→Option aR):Nat→gL→Option aR
 | 0,_=>none
 | aA+1,(l4,i2)=>
  cond (decide (i2<(l2.length:Int))) (
  (idx l2 i2).bind fun e3=>
  (oF N e3 depth).bind fun r4=>
  (app 1 l4 (rT r4)).bind fun l6=>
  (some (aC.wrap (i2+1))).bind fun i4=>
  nU N l2 depth kk aA (l6,i4)) (
  kk (l4,i2))
def qK (N:Nat) (l2:List Int) (depth:Int):Option aR:=
 nU N l2 depth (fun (l7,i5)=>
 (lI N (toB l7)).bind fun r5=>
 some r5) N (([]:List Int),0)
def mC (N:Nat) (depth n:Int) (r3:aR) (kk:gL→Option gL):Nat→gL→Option gL
 | 0,_=>none
 | aA+1,(l3,i2)=>
  cond (decide (i2<n)) (
  (Fs r3 (aC.wrap (i2*depth)) (aC.wrap ((aC.wrap (i2+1))*depth))).bind fun s4=>
  (pE N s4).bind fun r6=>
  (app 8 l3 ([r6]:List Int)).bind fun l5=>
  (some (aC.wrap (i2+1))).bind fun i4=>
  mC N depth n r3 kk aA (l5,i4)) (
  kk (l3,i2))
def rZ (N:Nat) (s:aR) (depth n:Int):Option gL:=
 (aM N depth 1 16).bind fun r2=>
 cond (!(r2)) (
 some (([]:List Int),3)) (
 cond (decide (n<0)) (
 some (([]:List Int),3)) (
 cond (decide (4096<n)) (
 some (([]:List Int),2)) (
 cond (!decide ((s.length:Int)=(aC.wrap (gI (aC.wrap ((aC.wrap (n*depth))+7)) 8)))) (
 some (([]:List Int),1)) (
 (tI N s).bind fun r3=>
 mC N depth n r3 (fun (l6,i5)=>
 (qK N l6 depth).bind fun r7=>
 cond (!decide (r7=s)) (
 some (([]:List Int),1)) (
 some (l6,0))) N (([]:List Int),0)))))
def lD (N:Nat) (lens:List Int) (size:Int) (kk:Pf→Option (List aR)):Nat→Pf→Option (List aR)
 | 0,_=>none
 | aA+1,(l6,Pj,last3,i4)=>
  cond (decide (i4<(lens.length:Int))) (
  (idx lens i4).bind fun e5=>
  cond (!decide (e5=size)) (
  (some (aC.wrap (i4+1))).bind fun i7=>
  lD N lens size kk aA (l6,Pj,last3,i7)) (
  (nn (aC.wrap (size-last3))).bind fun _=>
  (some (qF .i64 Pj (aC.wrap (size-last3)))).bind fun aDD=>
  (oF N aDD size).bind fun r4=>
  (idx l6 i4).bind fun e6=>
  (yO l6 i4 r4).bind fun l8=>
  (some (aC.wrap (aDD+1))).bind fun aDE=>
  (some (aC.wrap (i4+1))).bind fun i8=>
  lD N lens size kk aA (l8,aDE,size,i8))) (
  kk (l6,Pj,last3,i4))
def mV (N:Nat) (lens:List Int) (kk:Pf→Option (List aR)):Nat→Pf→Option (List aR)
 | 0,_=>none
 | aA+1,(l3,next,last,size)=>
  cond (decide (size≤15)) (
  lD N lens size (fun (l9,YT,aDF,i9)=>
  (some (aC.wrap (size+1))).bind fun aDG=>
  mV N lens kk aA (l9,YT,aDF,aDG)) N (l3,next,last,0)) (
  kk (l3,next,last,size))
def nE (N:Nat) (lens:List Int):Option (List aR):=
 (some ((lens.length:Int))).bind fun x2=>
 (mk 16 x2 (([]:aR):aR)).bind fun l2=>
 mV N lens (fun (l10,aKo,aMk,aMl)=>
 some l10) N (l2,0,0,1)
def qL (N:Nat) (s TU:aR):Option Bool:=
 cond (decide ((TU.length:Int)≤(s.length:Int))) (
 (Fs s 0 (TU.length:Int)).bind fun s2=>
 some (decide (s2=TU))) (
 some false)
def kR (N:Nat) (w2:List aR) (b:aR) (kk:Tr→Option aN):Nat→Tr→Option aN
 | 0,_=>none
 | aA+1,(short,i)=>
  cond (decide (i<(w2.length:Int))) (
  (idx w2 i).bind fun e4=>
  cond (decide (e4=([]:aR))) (
  (some (aC.wrap (i+1))).bind fun i5=>
  kR N w2 b kk aA (short,i5)) (
  (idx w2 i).bind fun e5=>
  (qL N b e5).bind fun r4=>
  cond (r4) (
  some (i,0)) (
  cond (short) (
  (some (aC.wrap (i+1))).bind fun i6=>
  kR N w2 b kk aA (true,i6)) (
  (idx w2 i).bind fun e6=>
  (qL N e6 b).bind fun r5=>
  (some (aC.wrap (i+1))).bind fun i7=>
  kR N w2 b kk aA (r5,i7))))) (
  kk (short,i))
def uM (N:Nat) (w2:List aR) (b:aR):Option aN:=
 kR N w2 b (fun (UU,i8)=>
 cond (UU) (
 some (0,5)) (
 some (0,4))) N (false,0)
def cK (N:Nat) (lE mS:Int) (iI:List Int) (x2 y:Int):Option Int:=
 (idx iI (aC.wrap ((aC.wrap (y*lE))+x2))).bind fun e=>
 some e
def bT (N:Nat) (n byA:Int):Option Int:=
 (nz byA).bind fun _=>
 (some (aC.wrap (gI n byA))).bind fun q=>
 cond (decide (n<(aC.wrap (q*byA)))) (
 (some (aC.wrap (q-1))).bind fun q2=>
 some q2) (
 some q)
def jV (N:Nat) (eA fY:Int) (fZ:List Int) (o p2 p3:Int):Option Int:=
 cond (decide (p2=0)) (
 cond (decide (p3=0)) (
 some 32768) (
 cond (decide (p3=0)) (
 (cK N eA fY fZ (aC.wrap (p2-1)) 0).bind fun r2=>
 some r2) (
 cond (decide (p2=0)) (
 (cK N eA fY fZ 0 (aC.wrap (p3-1))).bind fun r3=>
 some r3) (
 (cK N eA fY fZ (aC.wrap (p2-1)) p3).bind fun r4=>
 (cK N eA fY fZ p2 (aC.wrap (p3-1))).bind fun r5=>
 (cK N eA fY fZ (aC.wrap (p2-1)) (aC.wrap (p3-1))).bind fun r6=>
 cond (decide (o=1)) (
 some r4) (
 cond (decide (o=2)) (
 some r5) (
 cond (decide (o=3)) (
 some r6) (
 cond (decide (o=4)) (
 some (aC.wrap ((aC.wrap (r4+r5))-r6))) (
 cond (decide (o=5)) (
 (bT N (aC.wrap (r5-r6)) 2).bind fun r7=>
 some (aC.wrap (r4+r7))) (
 cond (decide (o=6)) (
 (bT N (aC.wrap (r4-r6)) 2).bind fun r8=>
 some (aC.wrap (r5+r8))) (
 (bT N (aC.wrap (r4+r5)) 2).bind fun r9=>
 some r9)))))))))) (
 cond (decide (p3=0)) (
 (cK N eA fY fZ (aC.wrap (p2-1)) 0).bind fun Cd=>
 some Cd) (
 cond (decide (p2=0)) (
 (cK N eA fY fZ 0 (aC.wrap (p3-1))).bind fun Al=>
 some Al) (
 (cK N eA fY fZ (aC.wrap (p2-1)) p3).bind fun AE=>
 (cK N eA fY fZ p2 (aC.wrap (p3-1))).bind fun B1=>
 (cK N eA fY fZ (aC.wrap (p2-1)) (aC.wrap (p3-1))).bind fun IX=>
 cond (decide (o=1)) (
 some AE) (
 cond (decide (o=2)) (
 some B1) (
 cond (decide (o=3)) (
 some IX) (
 cond (decide (o=4)) (
 some (aC.wrap ((aC.wrap (AE+B1))-IX))) (
 cond (decide (o=5)) (
 (bT N (aC.wrap (B1-IX)) 2).bind fun J5=>
 some (aC.wrap (AE+J5))) (
 cond (decide (o=6)) (
 (bT N (aC.wrap (AE-IX)) 2).bind fun r16=>
 some (aC.wrap (B1+r16))) (
 (bT N (aC.wrap (AE+B1)) 2).bind fun Lw=>
 some Lw)))))))))
def lR (N:Nat) (iI:List Int) (kk:Int→Option Bool):Nat→Int→Option Bool
 | 0,_=>none
 | aA+1,i=>
  cond (decide (i<(iI.length:Int))) (
  (idx iI i).bind fun e2=>
  (aM N e2 0 65535).bind fun r5=>
  cond (!(r5)) (
  some false) (
  (some (aC.wrap (i+1))).bind fun i3=>
  lR N iI kk aA i3)) (
  kk i)
def qX (N:Nat) (lE mS:Int) (iI:List Int):Option Bool:=
 (aM N lE 1 64).bind fun r2=>
 cond (!(r2)) (
 some false) (
 (aM N mS 1 64).bind fun r3=>
 cond (!(r3)) (
 some false) (
 cond (!decide ((iI.length:Int)=(aC.wrap (lE*mS)))) (
 some false) (
 lR N iI (fun i4=>
 some true) N 0)))
def fL (N:Nat)  (kk:Int→Option Int):Nat→Int→Option Int
 | 0,_=>none
 | aA+1,d6=>
  cond (decide (d6≤(-32768))) (
  (some (aC.wrap (d6+65536))).bind fun d8=>
  fL N  kk aA d8) (
  kk d6)
def gN (N:Nat)  (kk:Int→Option Int):Nat→Int→Option Int
 | 0,_=>none
 | aA+1,d2=>
  cond (decide (32768<d2)) (
  (some (aC.wrap (d2-65536))).bind fun d4=>
  gN N  kk aA d4) (
  kk d2)
def pX (N:Nat) (UV guess:Int):Option Int:=
 (some (aC.wrap (UV-guess))).bind fun d=>
 gN N  (fun d5=>
 fL N  (fun d9=>
 some d9) N d5) N d
def kS (N:Nat) (lE mS:Int) (iI:List Int) (kind y2:Int) (kk:gL→Option (List Int)):Nat→gL→Option (List Int)
 | 0,_=>none
 | aA+1,(l8,x7)=>
  cond (decide (x7<lE)) (
  (cK N lE mS iI x7 y2).bind fun IX=>
  (jV N lE mS iI kind x7 y2).bind fun J5=>
  (pX N IX J5).bind fun r16=>
  (app 8 l8 ([r16]:List Int)).bind fun l10=>
  (some (aC.wrap (x7+1))).bind fun x9=>
  kS N lE mS iI kind y2 kk aA (l10,x9)) (
  kk (l8,x7))
def iZ (N:Nat) (lE mS:Int) (iI:List Int) (kind:Int) (kk:gL→Option (List Int)):Nat→gL→Option (List Int)
 | 0,_=>none
 | aA+1,(l5,y2)=>
  cond (decide (y2<mS)) (
  kS N lE mS iI kind y2 (fun (Qa,x10)=>
  (some (aC.wrap (y2+1))).bind fun y4=>
  iZ N lE mS iI kind kk aA (Qa,y4)) N (l5,0)) (
  kk (l5,y2))
def sN (N:Nat) (lE mS:Int) (iI:List Int) (kind:Int):Option (List Int):=
 iZ N lE mS iI kind (fun (l12,y5)=>
 some l12) N (([]:List Int),0)
def mW (N:Nat)  (kk:aN→Option Int):Nat→aN→Option Int
 | 0,_=>none
 | aA+1,(n,k2)=>
  cond (decide (0<k2)) (
  (some (aC.wrap (n+1))).bind fun n3=>
  (some (aC.wrap (gI k2 2))).bind fun k4=>
  mW N  kk aA (n3,k4)) (
  kk (n,k2))
def pR (N:Nat) (d:Int):Option Int:=
 (some (max d (aC.wrap (0-d)))).bind fun k=>
 mW N  (fun (n4,k5)=>
 some n4) N (0,k)
def vB (N:Nat) (d:Int):Option aR:=
 (pR N d).bind fun r2=>
 cond (decide (r2=0)) (
 some (([]:aR))) (
 cond (decide (r2=16)) (
 some (([]:aR))) (
 cond (decide (0<d)) (
 (oF N d r2).bind fun r3=>
 some r3) (
 (nn r2).bind fun _=>
 (oF N (aC.wrap ((aC.wrap (d+(qF .i64 1 r2)))-1)) r2).bind fun r4=>
 some r4)))
def lS (N:Nat) (r5:List aR) (r6:List Int) (kk:gL→Option lC):Nat→gL→Option lC
 | 0,_=>none
 | aA+1,(l4,i)=>
  cond (decide (i<(r6.length:Int))) (
  (idx r6 i).bind fun e9=>
  (pR N e9).bind fun Al=>
  cond (decide ((r5.length:Int)≤Al)) (
  some (([]:aR),4)) (
  (idx r5 Al).bind fun e10=>
  cond (decide (e10=([]:aR))) (
  some (([]:aR),4)) (
  (idx r5 Al).bind fun e11=>
  (app 1 l4 (rT e11)).bind fun l7=>
  (idx r6 i).bind fun e12=>
  (vB N e12).bind fun AE=>
  (app 1 l7 (rT AE)).bind fun l8=>
  (some (aC.wrap (i+1))).bind fun x4=>
  lS N r5 r6 kk aA (l8,x4)))) (
  kk (l4,i))
def nV (N:Nat) (eA fY:Int) (fZ:List Int) (o:Int) (p2:List Int):Option lC:=
 (qX N eA fY fZ).bind fun r2=>
 cond (!(r2)) (
 some (([]:aR),1)) (
 (aM N o 1 7).bind fun r3=>
 cond (!(r3)) (
 some (([]:aR),6)) (
 (j1 N p2).bind fun r4=>
 cond (!decide (r4=0)) (
 some (([]:aR),r4)) (
 (nE N p2).bind fun r5=>
 (sN N eA fY fZ o).bind fun r6=>
 lS N r5 r6 (fun (l9,i2)=>
 (lI N (toB l9)).bind fun B1=>
 some (B1,0)) N (([]:List Int),0))))
def eY (N:Nat) (o p2 p3:Int) (r6:List aR) (kk:Cf→Option pW):Nat→Cf→Option pW
 | 0,_=>none
 | aA+1,(tE,i,i2)=>
  cond (decide (i2<(aC.wrap (o*p2)))) (
  (uM N r6 i).bind fun r16=>
  cond (!decide (r16.2=0)) (
  some (0,0,([]:List Int),1)) (
  (idx r6 r16.1).bind fun e5=>
  (Fs i (e5.length:Int) (i.length:Int)).bind fun s5=>
  cond (decide (r16.1=16)) (
  (nz o).bind fun _=>
  (nz o).bind fun _=>
  (jV N o p2 tE p3 (mN i2 o) (aC.wrap (gI i2 o))).bind fun Lw=>
  (some (aC.wrap (Lw+32768))).bind fun x10=>
  (bT N x10 65536).bind fun Mr=>
  (idx tE i2).bind fun e6=>
  (yO tE i2 (aC.wrap (x10-(aC.wrap (65536*Mr))))).bind fun l6=>
  (some (aC.wrap (i2+1))).bind fun US=>
  eY N o p2 p3 r6 kk aA (l6,s5,US)) (
  cond (decide ((s5.length:Int)<r16.1)) (
  some (0,0,([]:List Int),1)) (
  (Fs s5 0 r16.1).bind fun s6=>
  (pE N s6).bind fun TA=>
  (nn r16.1).bind fun _=>
  cond (decide (TA<(aC.wrap (gI (qF .i64 1 r16.1) 2)))) (
  (nn r16.1).bind fun _=>
  (some (aC.wrap ((aC.wrap (TA-(qF .i64 1 r16.1)))+1))).bind fun FX=>
  (Fs s5 r16.1 (s5.length:Int)).bind fun s7=>
  (nz o).bind fun _=>
  (nz o).bind fun _=>
  (jV N o p2 tE p3 (mN i2 o) (aC.wrap (gI i2 o))).bind fun Ow=>
  (some (aC.wrap (Ow+FX))).bind fun Sv=>
  (bT N Sv 65536).bind fun YL=>
  (idx tE i2).bind fun e7=>
  (yO tE i2 (aC.wrap (Sv-(aC.wrap (65536*YL))))).bind fun l7=>
  (some (aC.wrap (i2+1))).bind fun x14=>
  eY N o p2 p3 r6 kk aA (l7,s7,x14)) (
  (Fs s5 r16.1 (s5.length:Int)).bind fun s8=>
  (nz o).bind fun _=>
  (nz o).bind fun _=>
  (jV N o p2 tE p3 (mN i2 o) (aC.wrap (gI i2 o))).bind fun r22=>
  (some (aC.wrap (r22+TA))).bind fun x15=>
  (bT N x15 65536).bind fun I6=>
  (idx tE i2).bind fun e8=>
  (yO tE i2 (aC.wrap (x15-(aC.wrap (65536*I6))))).bind fun l8=>
  (some (aC.wrap (i2+1))).bind fun Oh=>
  eY N o p2 p3 r6 kk aA (l8,s8,Oh)))))) (
  kk (tE,i,i2))
def sA (N:Nat) (d:aR) (o p2 p3:Int) (p4:List Int):Option pW:=
 (aM N o 1 64).bind fun r2=>
 cond (!(r2)) (
 some (0,0,([]:List Int),3)) (
 (aM N p2 1 64).bind fun r3=>
 cond (!(r3)) (
 some (0,0,([]:List Int),3)) (
 (aM N p3 1 7).bind fun r4=>
 cond (!(r4)) (
 some (0,0,([]:List Int),6)) (
 (j1 N p4).bind fun r5=>
 cond (!decide (r5=0)) (
 some (0,0,([]:List Int),r5)) (
 (nE N p4).bind fun r6=>
 cond (decide (32768<(d.length:Int))) (
 some (0,0,([]:List Int),1)) (
 (tI N d).bind fun r7=>
 (some (aC.wrap (o*p2))).bind fun x2=>
 (mk 8 x2 (0:Int)).bind fun l2=>
 eY N o p2 p3 r6 (fun (aBI,i3,i4)=>
 (nV N o p2 aBI p3 p4).bind fun V8=>
 cond (!decide (V8.2=0)) (
 some (0,0,([]:List Int),1)) (
 cond (!decide (V8.1=d)) (
 some (0,0,([]:List Int),1)) (
 some (o,p2,aBI,0)))) N (l2,r7,0))))))
def mX (N:Nat) (l2:List Int) (depth:Int) (kk:Int→Option Bool):Nat→Int→Option Bool
 | 0,_=>none
 | aA+1,i=>
  cond (decide (i<(l2.length:Int))) (
  (idx l2 i).bind fun e2=>
  (nn depth).bind fun _=>
  cond (decide ((aC.wrap ((qF .i64 1 depth)-1))<e2)) (
  some false) (
  (some (aC.wrap (i+1))).bind fun i3=>
  mX N l2 depth kk aA i3)) (
  kk i)
def sO (N:Nat) (l2:List Int) (depth:Int):Option Bool:=
 mX N l2 depth (fun i4=>
 some true) N 0
def uN (N:Nat) (v8 sV cP d7 cU:Int) (dE:List Int) (bX:List aR) (bN bE bF bG bH bO:Int) (aO:List aN) (bI bJ bK aV aW aX aY aZ bA bB bC bD:Int) (aP:List aN) (bL i:Int):Option (List Int×Bool):=
 (wL N v8 sV cP d7 cU dE bX bN bE bF bG bH bO aO bI bJ bK aV aW aX aY aZ bA bB bC bD aP bL i).bind fun r2=>
 cond (decide (d7=0)) (
 (idx bX i).bind fun e=>
 (rZ N e cP (aC.wrap (v8*r2))).bind fun r3=>
 some (r3.1,decide (r3.2=0))) (
 (idx bX i).bind fun e2=>
 (sA N e2 v8 r2 d7 dE).bind fun r4=>
 cond (decide (r4.2.2.2=0)) (
 (sO N r4.2.2.1 cP).bind fun r5=>
 some (r4.2.2.1,r5)) (
 some (r4.2.2.1,false)))
def mD (N:Nat) (v8 sV cP d7 cU:Int) (dE:List Int) (bX:List aR) (bN bE bF bG bH bO:Int) (aO:List aN) (bI bJ bK aV aW aX aY aZ bA bB bC bD:Int) (aP:List aN) (bL:Int) (kk:gL→Option pW):Nat→gL→Option pW
 | 0,_=>none
 | aA+1,(iI,i)=>
  cond (decide (i<(bX.length:Int))) (
  (uN N v8 sV cP d7 cU dE bX bN bE bF bG bH bO aO bI bJ bK aV aW aX aY aZ bA bB bC bD aP bL i).bind fun r6=>
  cond (!(r6.2)) (
  some (0,0,([]:List Int),1)) (
  (app 8 iI r6.1).bind fun aKp=>
  (some (aC.wrap (i+1))).bind fun i3=>
  mD N v8 sV cP d7 cU dE bX bN bE bF bG bH bO aO bI bJ bK aV aW aX aY aZ bA bB bC bD aP bL kk aA (aKp,i3))) (
  kk (iI,i))
def mE (N:Nat) (v8 sV cP d7 cU:Int) (dE:List Int) (bX:List aR) (bN bE bF bG bH bO:Int) (aO:List aN) (bI bJ bK aV aW aX aY aZ bA bB bC bD:Int) (aP:List aN) (bL:Int):Option pW:=
 (qU N v8 sV cP d7 cU dE bX bN bE bF bG bH bO aO bI bJ bK aV aW aX aY aZ bA bB bC bD aP bL).bind fun r2=>
 cond (!decide (r2=0)) (
 some (0,0,([]:List Int),r2)) (
 (uL N v8 sV cP d7 cU dE bX bN bE bF bG bH bO aO bI bJ bK aV aW aX aY aZ bA bB bC bD aP bL).bind fun r3=>
 cond (!decide ((bX.length:Int)=r3)) (
 some (0,0,([]:List Int),2)) (
 (qW N v8 sV cP d7 cU dE bX bN bE bF bG bH bO aO bI bJ bK aV aW aX aY aZ bA bB bC bD aP bL).bind fun r4=>
 cond (!decide (r4=0)) (
 some (0,0,([]:List Int),r4)) (
 mD N v8 sV cP d7 cU dE bX bN bE bF bG bH bO aO bI bJ bK aV aW aX aY aZ bA bB bC bD aP bL (fun (aGr,i4)=>
 some (v8,sV,aGr,0)) N (([]:List Int),0))))
def gT (N:Nat)  (kk:Tn→Option Kk):Nat→Tn→Option Kk
 | 0,_=>none
 | aA+1,(oK,Pk,F0,Na)=>
  cond (decide (0<Na)) (
  cond (!(F0)) (
  (aG N Pk F0).bind fun Yp=>
  (aG N Yp.2.1 Yp.2.2).bind fun V7=>
  (app 16 oK (([(Yp.1,V7.1)]:List aN))).bind fun Cp=>
  (some (aC.wrap (Na-1))).bind fun x50=>
  gT N  kk aA (Cp,V7.2.1,V7.2.2,x50)) (
  kk (oK,Pk,F0,Na))) (
  kk (oK,Pk,F0,Na))
def aJ (N:Nat)  (kk:aDb→Option Kk):Nat→aDb→Option Kk
 | 0,_=>none
 | aA+1,(TV,Lx,fA,fB,fC,fD,fE,fF,fG,fH,fI,i11)=>
  cond (decide (i11<9)) (
  (aG N TV Lx).bind fun r32=>
  cond (decide (i11=0)) (
  (some (aC.wrap (i11+1))).bind fun x37=>
  aJ N  kk aA (r32.2.1,r32.2.2,r32.1,fB,fC,fD,fE,fF,fG,fH,fI,x37)) (
  cond (decide (i11=1)) (
  (some (aC.wrap (i11+1))).bind fun x38=>
  aJ N  kk aA (r32.2.1,r32.2.2,fA,r32.1,fC,fD,fE,fF,fG,fH,fI,x38)) (
  cond (decide (i11=2)) (
  (some (aC.wrap (i11+1))).bind fun x39=>
  aJ N  kk aA (r32.2.1,r32.2.2,fA,fB,r32.1,fD,fE,fF,fG,fH,fI,x39)) (
  cond (decide (i11=3)) (
  (some (aC.wrap (i11+1))).bind fun x40=>
  aJ N  kk aA (r32.2.1,r32.2.2,fA,fB,fC,r32.1,fE,fF,fG,fH,fI,x40)) (
  cond (decide (i11=4)) (
  (some (aC.wrap (i11+1))).bind fun x41=>
  aJ N  kk aA (r32.2.1,r32.2.2,fA,fB,fC,fD,r32.1,fF,fG,fH,fI,x41)) (
  cond (decide (i11=5)) (
  (some (aC.wrap (i11+1))).bind fun x42=>
  aJ N  kk aA (r32.2.1,r32.2.2,fA,fB,fC,fD,fE,r32.1,fG,fH,fI,x42)) (
  cond (decide (i11=6)) (
  (some (aC.wrap (i11+1))).bind fun x43=>
  aJ N  kk aA (r32.2.1,r32.2.2,fA,fB,fC,fD,fE,fF,r32.1,fH,fI,x43)) (
  cond (decide (i11=7)) (
  (some (aC.wrap (i11+1))).bind fun x44=>
  aJ N  kk aA (r32.2.1,r32.2.2,fA,fB,fC,fD,fE,fF,fG,r32.1,fI,x44)) (
  cond (decide (i11=8)) (
  (some (aC.wrap (i11+1))).bind fun x45=>
  aJ N  kk aA (r32.2.1,r32.2.2,fA,fB,fC,fD,fE,fF,fG,fH,r32.1,x45)) (
  none)))))))))) (
  kk (TV,Lx,fA,fB,fC,fD,fE,fF,fG,fH,fI,i11))
def bY (N:Nat)  (kk:aDe→Option Kk):Nat→aDe→Option Kk
 | 0,_=>none
 | aA+1,(TW,Ly,tV,tW,tX,i9)=>
  cond (decide (i9<3)) (
  (aG N TW Ly).bind fun L4=>
  cond (decide (i9=0)) (
  (some (aC.wrap (i9+1))).bind fun x25=>
  bY N  kk aA (L4.2.1,L4.2.2,L4.1,tW,tX,x25)) (
  cond (decide (i9=1)) (
  (some (aC.wrap (i9+1))).bind fun x26=>
  bY N  kk aA (L4.2.1,L4.2.2,tV,L4.1,tX,x26)) (
  cond (decide (i9=2)) (
  (some (aC.wrap (i9+1))).bind fun x27=>
  bY N  kk aA (L4.2.1,L4.2.2,tV,tW,L4.1,x27)) (
  none)))) (
  kk (TW,Ly,tV,tW,tX,i9))
def gU (N:Nat)  (kk:Tn→Option Kk):Nat→Tn→Option Kk
 | 0,_=>none
 | aA+1,(oL,Pl,F1,i7)=>
  cond (decide (0<i7)) (
  cond (!(F1)) (
  (aG N Pl F1).bind fun V8=>
  (aG N V8.2.1 V8.2.2).bind fun r25=>
  (app 16 oL (([(V8.1,r25.1)]:List aN))).bind fun Cq=>
  (some (aC.wrap (i7-1))).bind fun x18=>
  gU N  kk aA (Cq,r25.2.1,r25.2.2,x18)) (
  kk (oL,Pl,F1,i7))) (
  kk (oL,Pl,F1,i7))
def bR (N:Nat)  (kk:aDc→Option Kk):Nat→aDc→Option Kk
 | 0,_=>none
 | aA+1,(aBJ,Oz,qY,qZ,q9,rA,i5)=>
  cond (decide (i5<4)) (
  (aG N aBJ Oz).bind fun r16=>
  cond (decide (i5=0)) (
  (some (aC.wrap (i5+1))).bind fun x10=>
  bR N  kk aA (r16.2.1,r16.2.2,r16.1,qZ,q9,rA,x10)) (
  cond (decide (i5=1)) (
  (some (aC.wrap (i5+1))).bind fun US=>
  bR N  kk aA (r16.2.1,r16.2.2,qY,r16.1,q9,rA,US)) (
  cond (decide (i5=2)) (
  (some (aC.wrap (i5+1))).bind fun FX=>
  bR N  kk aA (r16.2.1,r16.2.2,qY,qZ,r16.1,rA,FX)) (
  cond (decide (i5=3)) (
  (some (aC.wrap (i5+1))).bind fun Sv=>
  bR N  kk aA (r16.2.1,r16.2.2,qY,qZ,q9,r16.1,Sv)) (
  none))))) (
  kk (aBJ,Oz,qY,qZ,q9,rA,i5))
def gV (N:Nat)  (kk:aDf→Option Kk):Nat→aDf→Option Kk
 | 0,_=>none
 | aA+1,(pG,Ws,Ja,i3)=>
  cond (decide (0<i3)) (
  cond (!(Ja)) (
  (gR N Ws Ja).bind fun B1=>
  (app 16 pG (([B1.1]:List aR))).bind fun OA=>
  (some (aC.wrap (i3-1))).bind fun x5=>
  gV N  kk aA (OA,B1.2.1,B1.2.2,x5)) (
  kk (pG,Ws,Ja,i3))) (
  kk (pG,Ws,Ja,i3))
def gW (N:Nat)  (kk:aDk→Option Kk):Nat→aDk→Option Kk
 | 0,_=>none
 | aA+1,(GK,Wt,Jb,i)=>
  cond (decide (0<i)) (
  cond (!(Jb)) (
  (aG N Wt Jb).bind fun Cd=>
  (app 8 GK ([Cd.1]:List Int)).bind fun UW=>
  (some (aC.wrap (i-1))).bind fun x3=>
  gW N  kk aA (UW,Cd.2.1,Cd.2.2,x3)) (
  kk (GK,Wt,Jb,i))) (
  kk (GK,Wt,Jb,i))
def nF (N:Nat) (d:aR):Option Kk:=
 (gR N d false).bind fun r2=>
 cond (!decide (r2.1=([100,97,114,107]:aR))) (
 some (0,0,0,0,0,([]:List Int),([]:List aR),0,0,0,0,0,0,([]:List aN),0,0,0,0,0,0,0,0,0,0,0,0,([]:List aN),0,false)) (
 (aG N r2.2.1 r2.2.2).bind fun r3=>
 (aG N r3.2.1 r3.2.2).bind fun r4=>
 (aG N r4.2.1 r4.2.2).bind fun r5=>
 (aG N r5.2.1 r5.2.2).bind fun r6=>
 (aG N r6.2.1 r6.2.2).bind fun r7=>
 (eF N r7.2.1 r7.2.2).bind fun r8=>
 gW N  (fun (tY,aMm,aDH,i2)=>
 (eF N aMm aDH).bind fun Al=>
 gV N  (fun (mY,aMn,aDI,i4)=>
 (aG N aMn aDI).bind fun IX=>
 bR N  (fun (aMo,aDJ,wE,wF,wG,wH,i6)=>
 (aG N aMo aDJ).bind fun Lw=>
 (eF N Lw.2.1 Lw.2.2).bind fun Mr=>
 gU N  (fun (nR,aIR,aAs,i8)=>
 bY N  (fun (aIS,aAt,Bn,Bp,Bq,EV)=>
 aJ N  (fun (aIT,aAu,CC,CD,CE,CF,CG,CH,CI,CJ,CK,i12)=>
 (eF N aIT aAu).bind fun UR=>
 gT N  (fun (GM,aIU,aAv,Yo)=>
 (aG N aIU aAv).bind fun r44=>
 cond (r44.2.2) (
 some (0,0,0,0,0,([]:List Int),([]:List aR),0,0,0,0,0,0,([]:List aN),0,0,0,0,0,0,0,0,0,0,0,0,([]:List aN),0,false)) (
 cond (!decide (r44.2.1=([]:aR))) (
 some (0,0,0,0,0,([]:List Int),([]:List aR),0,0,0,0,0,0,([]:List aN),0,0,0,0,0,0,0,0,0,0,0,0,([]:List aN),0,false)) (
 (mE N r3.1 r4.1 r5.1 r6.1 r7.1 tY mY IX.1 wE wF wG wH Lw.1 nR Bn Bp Bq CC CD CE CF CG CH CI CJ CK GM r44.1).bind fun r45=>
 cond (!decide (r45.2.2.2=0)) (
 some (0,0,0,0,0,([]:List Int),([]:List aR),0,0,0,0,0,0,([]:List aN),0,0,0,0,0,0,0,0,0,0,0,0,([]:List aN),0,false)) (
 some (r3.1,r4.1,r5.1,r6.1,r7.1,tY,mY,IX.1,wE,wF,wG,wH,Lw.1,nR,Bn,Bp,Bq,CC,CD,CE,CF,CG,CH,CI,CJ,CK,GM,r44.1,true))))) N (([]:List aN),UR.2.1,UR.2.2,UR.1)) N (aIS,aAt,0,0,0,0,0,0,0,0,0,0)) N (aIR,aAs,0,0,0,0)) N (([]:List aN),Mr.2.1,Mr.2.2,Mr.1)) N (IX.2.1,IX.2.2,0,0,0,0,0)) N (([]:List aR),Al.2.1,Al.2.2,Al.1)) N (([]:List Int),r8.2.1,r8.2.2,r8.1))
def dD (N:Nat) (n:Int):Option Int:=
 some (max 0 (min n 65535))
def mF (N:Nat) (lE mS:Int) (iI:List Int) (yX yY yZ y6 white y:Int) (kk:gL→Option qP):Nat→gL→Option qP
 | 0,_=>none
 | aA+1,(nD,x4)=>
  cond (decide (x4<lE)) (
  (inr (aC.wrap ((aC.wrap ((mN y 2)*2))+(mN x4 2))) 4).bind fun _=>
  (idx [yX,yY,yZ,y6] (aC.wrap ((aC.wrap ((mN y 2)*2))+(mN x4 2)))).bind fun e3=>
  (cK N lE mS iI x4 y).bind fun r8=>
  (bT N (aC.wrap ((aC.wrap (r8-e3))*65535)) (aC.wrap (white-e3))).bind fun r9=>
  (dD N r9).bind fun Cd=>
  (app 8 nD ([Cd]:List Int)).bind fun GH=>
  (some (aC.wrap (x4+1))).bind fun x6=>
  mF N lE mS iI yX yY yZ y6 white y kk aA (GH,x6)) (
  kk (nD,x4))
def mG (N:Nat) (lE mS:Int) (iI:List Int) (yX yY yZ y6 white:Int) (kk:gL→Option qP):Nat→gL→Option qP
 | 0,_=>none
 | aA+1,(cJ,y)=>
  cond (decide (y<mS)) (
  mF N lE mS iI yX yY yZ y6 white y (fun (GI,x7)=>
  (some (aC.wrap (y+1))).bind fun y3=>
  mG N lE mS iI yX yY yZ y6 white kk aA (GI,y3)) N (cJ,0)) (
  kk (cJ,y))
def oR (N:Nat) (lE mS:Int) (iI:List Int) (yX yY yZ y6 white:Int):Option qP:=
 mG N lE mS iI yX yY yZ y6 white (fun (H9,y4)=>
 some (lE,mS,H9)) N (([]:List Int),0)
def lO (N:Nat) (l2:List aN) (x2 y:Int) (kk:Int→Option Bool):Nat→Int→Option Bool
 | 0,_=>none
 | aA+1,i=>
  cond (decide (i<(l2.length:Int))) (
  (idx l2 i).bind fun e3=>
  cond (decide (e3.1=x2)) (
  (idx l2 i).bind fun e4=>
  cond (decide (e4.2=y)) (
  some true) (
  (some (aC.wrap (i+1))).bind fun i4=>
  lO N l2 x2 y kk aA i4)) (
  (some (aC.wrap (i+1))).bind fun i5=>
  lO N l2 x2 y kk aA i5)) (
  kk i)
def qM (N:Nat) (l2:List aN) (x2 y:Int):Option Bool:=
 lO N l2 x2 y (fun i6=>
 some false) N 0
def wI (N:Nat) (eA fY:Int) (fZ:List Int) (i34 i46 i47 i48:Int) (i60:Bool) (vJ:aN→Option qP):Option qP:=
  cond (i60) (
  (cK N eA fY fZ i48 i34).bind fun Al=>
  (some (aC.wrap (i46+Al))).bind fun JJ=>
  (some (aC.wrap (i47+1))).bind fun x23=>
  vJ (JJ,x23)) (
  vJ (i46,i47))
def sP (N:Nat) (eA fY:Int) (o:List aN) (i34 i48:Int) (i58:Bool) (oM:Bool→Option qP):Option qP:=
  cond (i58) (
  (aM N i48 0 (aC.wrap (eA-1))).bind fun r8=>
  cond (r8) (
  (aM N i34 0 (aC.wrap (fY-1))).bind fun r9=>
  cond (r9) (
  (qM N o i48 i34).bind fun Cd=>
  oM (!(Cd))) (
  oM false)) (
  oM false)) (
  oM false)
def sR (N:Nat) (i i17 i34 i48:Int) (fU:Bool→Option qP):Option qP:=
  cond (decide (i48=i17)) (
  cond (decide (i34=(aC.wrap (i-2)))) (
  fU true) (
  cond (decide (i34=(aC.wrap (i+2)))) (
  fU true) (
  cond (decide (i34=i)) (
  cond (decide (i48=(aC.wrap (i17-2)))) (
  fU true) (
  fU (decide (i48=(aC.wrap (i17+2)))))) (
  fU false)))) (
  cond (decide (i34=i)) (
  cond (decide (i48=(aC.wrap (i17-2)))) (
  fU true) (
  fU (decide (i48=(aC.wrap (i17+2)))))) (
  fU false))
def jA (N:Nat) (eA fY:Int) (fZ:List Int) (o:List aN) (i i17 i34:Int) (kk:bU→Option qP):Nat→bU→Option qP
 | 0,_=>none
 | aA+1,(i46,i47,i48)=>
  cond (decide (i48≤(aC.wrap (i17+2)))) (
  sR N i i17 i34 i48 (fun i58=>
  sP N eA fY o i34 i48 i58 (fun i60=>
  wI N eA fY fZ i34 i46 i47 i48 i60 (fun (i63,i64)=>
  (some (aC.wrap (i48+1))).bind fun x24=>
  jA N eA fY fZ o i i17 i34 kk aA (i63,i64,x24))))) (
  kk (i46,i47,i48))
def jB (N:Nat) (eA fY:Int) (fZ:List Int) (o:List aN) (i i17:Int) (kk:bU→Option qP):Nat→bU→Option qP
 | 0,_=>none
 | aA+1,(i32,i33,i34)=>
  cond (decide (i34≤(aC.wrap (i+2)))) (
  (some (aC.wrap (i17-2))).bind fun x20=>
  jA N eA fY fZ o i i17 i34 (fun (i65,i66,i67)=>
  (some (aC.wrap (i34+1))).bind fun x25=>
  jB N eA fY fZ o i i17 kk aA (i65,i66,x25)) N (i32,i33,x20)) (
  kk (i32,i33,i34))
def kI (N:Nat) (eA fY:Int) (fZ:List Int) (o:List aN) (i:Int) (kk:gL→Option qP):Nat→gL→Option qP
 | 0,_=>none
 | aA+1,(Hu,i17)=>
  cond (decide (i17<eA)) (
  (qM N o i17 i).bind fun r6=>
  cond (!(r6)) (
  (cK N eA fY fZ i17 i).bind fun r7=>
  (app 8 Hu ([r7]:List Int)).bind fun UX=>
  (some (aC.wrap (i17+1))).bind fun x15=>
  kI N eA fY fZ o i kk aA (UX,x15)) (
  (some (aC.wrap (i-2))).bind fun Oh=>
  jB N eA fY fZ o i i17 (fun (i68,i69,i70)=>
  (nz (max i69 1)).bind fun _=>
  (app 8 Hu (([aC.wrap (gI i68 (max i69 1))]:List Int))).bind fun aKq=>
  (some (aC.wrap (i17+1))).bind fun x26=>
  kI N eA fY fZ o i kk aA (aKq,x26)) N (0,0,Oh))) (
  kk (Hu,i17))
def mH (N:Nat) (eA fY:Int) (fZ:List Int) (o:List aN) (kk:gL→Option qP):Nat→gL→Option qP
 | 0,_=>none
 | aA+1,(tE,i)=>
  cond (decide (i<fY)) (
  kI N eA fY fZ o i (fun (QW,i71)=>
  (some (aC.wrap (i+1))).bind fun x27=>
  mH N eA fY fZ o kk aA (QW,x27)) N (tE,0)) (
  kk (tE,i))
def oS (N:Nat) (eA fY:Int) (fZ:List Int) (o:List aN):Option qP:=
 mH N eA fY fZ o (fun (TX,i72)=>
 some (eA,fY,TX)) N (([]:List Int),0)
def mI (N:Nat) (aI x2 y:Int):Option Int:=
 (some (mN (aC.wrap (x2+(mN aI 2))) 2)).bind fun a2=>
 (some (mN (aC.wrap (y+(aC.wrap (gI aI 2)))) 2)).bind fun b=>
 cond (decide (a2=0)) (
 cond (decide (b=0)) (
 some 0) (
 cond (decide (a2=1)) (
 cond (decide (b=1)) (
 some 2) (
 some 1)) (
 some 1))) (
 cond (decide (a2=1)) (
 cond (decide (b=1)) (
 some 2) (
 some 1)) (
 some 1))
def nW (N:Nat) (lE:Int) (iI:List Int) (aI Bf Bg Bh:Int) (kk:gL→Option qP):Nat→gL→Option qP
 | 0,_=>none
 | aA+1,(cJ,i)=>
  cond (decide (i<(iI.length:Int))) (
  (idx iI i).bind fun e3=>
  (nz lE).bind fun _=>
  (nz lE).bind fun _=>
  (mI N aI (mN i lE) (aC.wrap (gI i lE))).bind fun r4=>
  (inr r4 3).bind fun _=>
  (idx [Bf,Bg,Bh] r4).bind fun e4=>
  (dD N (aC.wrap (gI (aC.wrap (e3*e4)) 256))).bind fun r5=>
  (app 8 cJ ([r5]:List Int)).bind fun gA=>
  (some (aC.wrap (i+1))).bind fun i3=>
  nW N lE iI aI Bf Bg Bh kk aA (gA,i3)) (
  kk (cJ,i))
def qN (N:Nat) (lE mS:Int) (iI:List Int) (aI Bf Bg Bh:Int):Option qP:=
 nW N lE iI aI Bf Bg Bh (fun (nD,i4)=>
 some (lE,mS,nD)) N (([]:List Int),0)
def j3 (N:Nat) (l0 l1 l2:Int):Option bU:=
 some (l0,l1,l2)
def iN (N:Nat) (eA fY:Int) (fZ:List Int) (o i6 EV:Int) (kk:To→Option nJ):Nat→To→Option nJ
 | 0,_=>none
 | aA+1,(Ms,Mt,GO,Mu,Jc,Mv,i12)=>
  cond (decide (i12≤(min (aC.wrap (eA-1)) (aC.wrap (i6+1))))) (
  (mI N o i12 EV).bind fun MU=>
  cond (decide (MU=0)) (
  (cK N eA fY fZ i12 EV).bind fun Yq=>
  (some (aC.wrap (i12+1))).bind fun x49=>
  iN N eA fY fZ o i6 EV kk aA (aC.wrap (Ms+1),Mt,GO,aC.wrap (Mu+Yq),Jc,Mv,x49)) (
  cond (decide (MU=1)) (
  (cK N eA fY fZ i12 EV).bind fun L4=>
  (some (aC.wrap (i12+1))).bind fun x50=>
  iN N eA fY fZ o i6 EV kk aA (Ms,aC.wrap (Mt+1),GO,Mu,aC.wrap (Jc+L4),Mv,x50)) (
  cond (decide (MU=2)) (
  (cK N eA fY fZ i12 EV).bind fun r31=>
  (some (aC.wrap (i12+1))).bind fun x51=>
  iN N eA fY fZ o i6 EV kk aA (Ms,Mt,aC.wrap (GO+1),Mu,Jc,aC.wrap (Mv+r31),x51)) (
  none)))) (
  kk (Ms,Mt,GO,Mu,Jc,Mv,i12))
def nX (N:Nat) (PL UY Jd Wu Wv QX:Int) (kk:yN→Option nJ):Nat→yN→Option nJ
 | 0,_=>none
 | aA+1,(UZ,U0,U1,D2)=>
  cond (decide (D2<3)) (
  cond (decide (D2=0)) (
  (nz (max PL 1)).bind fun _=>
  (some (aC.wrap (D2+1))).bind fun x56=>
  nX N PL UY Jd Wu Wv QX kk aA (aC.wrap (gI Wu (max PL 1)),U0,U1,x56)) (
  cond (decide (D2=1)) (
  (nz (max UY 1)).bind fun _=>
  (some (aC.wrap (D2+1))).bind fun x57=>
  nX N PL UY Jd Wu Wv QX kk aA (UZ,aC.wrap (gI Wv (max UY 1)),U1,x57)) (
  cond (decide (D2=2)) (
  (nz (max Jd 1)).bind fun _=>
  (some (aC.wrap (D2+1))).bind fun x58=>
  nX N PL UY Jd Wu Wv QX kk aA (UZ,U0,aC.wrap (gI QX (max Jd 1)),x58)) (
  none)))) (
  kk (UZ,U0,U1,D2))
def j5 (N:Nat) (eA fY:Int) (fZ:List Int) (o i i6:Int) (kk:To→Option nJ):Nat→To→Option nJ
 | 0,_=>none
 | aA+1,(aBK,x115,aBL,OB,aBM,aBN,EV)=>
  cond (decide (EV≤(min (aC.wrap (fY-1)) (aC.wrap (i+1))))) (
  (some (max 0 (aC.wrap (i6-1)))).bind fun x45=>
  iN N eA fY fZ o i6 EV (fun (OC,Mw,U2,Mx,Ww,OD,Na)=>
  (some (aC.wrap (EV+1))).bind fun x52=>
  j5 N eA fY fZ o i i6 kk aA (OC,Mw,U2,Mx,Ww,OD,x52)) N (aBK,x115,aBL,OB,aBM,aBN,x45)) (
  kk (aBK,x115,aBL,OB,aBM,aBN,EV))
def iO (N:Nat) (eA fY:Int) (fZ:List Int) (o i:Int) (kk:pN→Option nJ):Nat→pN→Option nJ
 | 0,_=>none
 | aA+1,(FZ,i6)=>
  cond (decide (i6<eA)) (
  (some (max 0 (aC.wrap (i-1)))).bind fun x39=>
  j5 N eA fY fZ o i i6 (fun (PL,UY,Jd,Wu,Wv,QX,Yo)=>
  nX N PL UY Jd Wu Wv QX (fun (aKr,aKs,aKt,i16)=>
  (mI N o i6 i).bind fun r32=>
  (cK N eA fY fZ i6 i).bind fun UR=>
  cond (decide (r32=0)) (
  (j3 N UR aKs aKt).bind fun PK=>
  (app 24 FZ (([(PK.1,PK.2.1,PK.2.2)]:List bU))).bind fun QW=>
  (some (aC.wrap (i6+1))).bind fun x59=>
  iO N eA fY fZ o i kk aA (QW,x59)) (
  cond (decide (r32=1)) (
  (j3 N aKr UR aKt).bind fun Pi=>
  (app 24 FZ (([(Pi.1,Pi.2.1,Pi.2.2)]:List bU))).bind fun TX=>
  (some (aC.wrap (i6+1))).bind fun x60=>
  iO N eA fY fZ o i kk aA (TX,x60)) (
  cond (decide (r32=2)) (
  (j3 N aKr aKs UR).bind fun I7=>
  (app 24 FZ (([(I7.1,I7.2.1,I7.2.2)]:List bU))).bind fun aDK=>
  (some (aC.wrap (i6+1))).bind fun x61=>
  iO N eA fY fZ o i kk aA (aDK,x61)) (
  none)))) N (0,0,0,0)) N (0,0,0,0,0,0,x39)) (
  kk (FZ,i6))
def nY (N:Nat) (eA fY:Int) (fZ:List Int) (o:Int) (kk:pN→Option nJ):Nat→pN→Option nJ
 | 0,_=>none
 | aA+1,(tE,i)=>
  cond (decide (i<fY)) (
  iO N eA fY fZ o i (fun (aDL,i17)=>
  (some (aC.wrap (i+1))).bind fun x62=>
  nY N eA fY fZ o kk aA (aDL,x62)) N (tE,0)) (
  kk (tE,i))
def qO (N:Nat) (eA fY:Int) (fZ:List Int) (o:Int):Option nJ:=
 nY N eA fY fZ o (fun (aIV,i18)=>
 some (eA,fY,aIV)) N (([]:List bU),0)
def j6 (N:Nat) (SI SJ SK:Int):Option bU:=
 some (SI,SJ,SK)
def oT (N:Nat) (o0 o1 o2 o3 o4 o5 o6 o7 o8:Int) (r6:bU) (kk:yN→Option nJ):Nat→yN→Option nJ
 | 0,_=>none
 | aA+1,(Oj,FX,JJ,i3)=>
  cond (decide (i3<3)) (
  (inr (aC.wrap (3*i3)) 9).bind fun _=>
  (idx [o0,o1,o2,o3,o4,o5,o6,o7,o8] (aC.wrap (3*i3))).bind fun e9=>
  (inr (aC.wrap ((aC.wrap (3*i3))+1)) 9).bind fun _=>
  (idx [o0,o1,o2,o3,o4,o5,o6,o7,o8] (aC.wrap ((aC.wrap (3*i3))+1))).bind fun e10=>
  (inr (aC.wrap ((aC.wrap (3*i3))+2)) 9).bind fun _=>
  (idx [o0,o1,o2,o3,o4,o5,o6,o7,o8] (aC.wrap ((aC.wrap (3*i3))+2))).bind fun e11=>
  (bT N (aC.wrap ((aC.wrap ((aC.wrap (e9*r6.1))+(aC.wrap (e10*r6.2.1))))+(aC.wrap (e11*r6.2.2)))) 4096).bind fun r9=>
  (dD N r9).bind fun Cd=>
  cond (decide (i3=0)) (
  (some (aC.wrap (i3+1))).bind fun x10=>
  oT N o0 o1 o2 o3 o4 o5 o6 o7 o8 r6 kk aA (Cd,FX,JJ,x10)) (
  cond (decide (i3=1)) (
  (some (aC.wrap (i3+1))).bind fun US=>
  oT N o0 o1 o2 o3 o4 o5 o6 o7 o8 r6 kk aA (Oj,Cd,JJ,US)) (
  cond (decide (i3=2)) (
  (some (aC.wrap (i3+1))).bind fun Sv=>
  oT N o0 o1 o2 o3 o4 o5 o6 o7 o8 r6 kk aA (Oj,FX,Cd,Sv)) (
  none)))) (
  kk (Oj,FX,JJ,i3))
def oU (N:Nat) (fZ:List bU) (o0 o1 o2 o3 o4 o5 o6 o7 o8:Int) (kk:pN→Option nJ):Nat→pN→Option nJ
 | 0,_=>none
 | aA+1,(tE,i)=>
  cond (decide (i<(fZ.length:Int))) (
  (idx fZ i).bind fun e5=>
  (j6 N e5.1 e5.2.1 e5.2.2).bind fun r6=>
  oT N o0 o1 o2 o3 o4 o5 o6 o7 o8 r6 (fun (x03,x14,x23,i4)=>
  (j3 N x03 x14 x23).bind fun Al=>
  (app 24 tE (([(Al.1,Al.2.1,Al.2.2)]:List bU))).bind fun Ak=>
  (some (aC.wrap (i+1))).bind fun x15=>
  oU N fZ o0 o1 o2 o3 o4 o5 o6 o7 o8 kk aA (Ak,x15)) N (0,0,0,0)) (
  kk (tE,i))
def uP (N:Nat) (eA fY:Int) (fZ:List bU) (o0 o1 o2 o3 o4 o5 o6 o7 o8:Int):Option nJ:=
 oU N fZ o0 o1 o2 o3 o4 o5 o6 o7 o8 (fun (sZ,i5)=>
 some (eA,fY,sZ)) N (([]:List bU),0)
def pY (N:Nat) (l2:List aN) (x2:Int) (kk:Int→Option Int):Nat→Int→Option Int
 | 0,_=>none
 | aA+1,i=>
  (idx l2 i).bind fun e2=>
  cond (decide (e2.1<x2)) (
  (some (aC.wrap (i+1))).bind fun i3=>
  pY N l2 x2 kk aA i3) (
  kk i)
def jW (N:Nat) (l2:List aN) (x2:Int):Option Int:=
 pY N l2 x2 (fun i4=>
 (idx l2 (aC.wrap (i4-1))).bind fun e3=>
 (idx l2 i4).bind fun e4=>
 (nz (aC.wrap (e4.1-e3.1))).bind fun _=>
 (some (aC.wrap (e3.2+(aC.wrap (gI (aC.wrap ((aC.wrap (e4.2-e3.2))*(aC.wrap (x2-e3.1)))) (aC.wrap (e4.1-e3.1))))))).bind fun x3=>
 some x3) N 1
def pS (N:Nat) (gG:List bU) (l2:List aN) (kk:pN→Option nJ):Nat→pN→Option nJ
 | 0,_=>none
 | aA+1,(cJ,i)=>
  cond (decide (i<(gG.length:Int))) (
  (idx gG i).bind fun e2=>
  (jW N l2 e2.1).bind fun r5=>
  (jW N l2 e2.2.1).bind fun r6=>
  (jW N l2 e2.2.2).bind fun r7=>
  (app 24 cJ (([(r5,r6,r7)]:List bU))).bind fun gA=>
  (some (aC.wrap (i+1))).bind fun i3=>
  pS N gG l2 kk aA (gA,i3)) (
  kk (cJ,i))
def vC (N:Nat) (gF lK:Int) (gG:List bU) (l2:List aN):Option nJ:=
 pS N gG l2 (fun (nD,i4)=>
 some (gF,lK,nD)) N (([]:List bU),0)
def mJ (N:Nat) (i12 D2:Int) (I6:bU) (kk:yN→Option nJ):Nat→yN→Option nJ
 | 0,_=>none
 | aA+1,(QY,QZ,GO,i17)=>
  cond (decide (i17<3)) (
  cond (decide (i17=0)) (
  (inr i17 3).bind fun _=>
  (idx [I6.1,I6.2.1,I6.2.2] i17).bind fun e58=>
  (inr (aC.wrap (D2+1)) 3).bind fun _=>
  (idx [1,2,1] (aC.wrap (D2+1))).bind fun e59=>
  (inr (aC.wrap (i12+1)) 3).bind fun _=>
  (idx [1,2,1] (aC.wrap (i12+1))).bind fun e60=>
  (some (aC.wrap (i17+1))).bind fun x50=>
  mJ N i12 D2 I6 kk aA (aC.wrap (QY+(aC.wrap ((aC.wrap (e58*e59))*e60))),QZ,GO,x50)) (
  cond (decide (i17=1)) (
  (inr i17 3).bind fun _=>
  (idx [I6.1,I6.2.1,I6.2.2] i17).bind fun e61=>
  (inr (aC.wrap (D2+1)) 3).bind fun _=>
  (idx [1,2,1] (aC.wrap (D2+1))).bind fun e62=>
  (inr (aC.wrap (i12+1)) 3).bind fun _=>
  (idx [1,2,1] (aC.wrap (i12+1))).bind fun e63=>
  (some (aC.wrap (i17+1))).bind fun x51=>
  mJ N i12 D2 I6 kk aA (QY,aC.wrap (QZ+(aC.wrap ((aC.wrap (e61*e62))*e63))),GO,x51)) (
  cond (decide (i17=2)) (
  (inr i17 3).bind fun _=>
  (idx [I6.1,I6.2.1,I6.2.2] i17).bind fun e64=>
  (inr (aC.wrap (D2+1)) 3).bind fun _=>
  (idx [1,2,1] (aC.wrap (D2+1))).bind fun e65=>
  (inr (aC.wrap (i12+1)) 3).bind fun _=>
  (idx [1,2,1] (aC.wrap (i12+1))).bind fun e66=>
  (some (aC.wrap (i17+1))).bind fun x52=>
  mJ N i12 D2 I6 kk aA (QY,QZ,aC.wrap (GO+(aC.wrap ((aC.wrap (e64*e65))*e66))),x52)) (
  none)))) (
  kk (QY,QZ,GO,i17))
def kT (N:Nat) (eA fY:Int) (fZ:List bU) (i i7 i12:Int) (kk:yN→Option nJ):Nat→yN→Option nJ
 | 0,_=>none
 | aA+1,(OB,x115,aBO,D2)=>
  cond (decide (D2≤1)) (
  (some (aC.wrap ((aC.wrap ((max 0 (min (aC.wrap (fY-1)) (aC.wrap (i+i12))))*eA))+(max 0 (min (aC.wrap (eA-1)) (aC.wrap (i7+D2))))))).bind fun x46=>
  (idx fZ x46).bind fun e48=>
  (j6 N e48.1 e48.2.1 e48.2.2).bind fun I6=>
  mJ N i12 D2 I6 (fun (Ms,aKu,Mv,i18)=>
  (some (aC.wrap (D2+1))).bind fun x53=>
  kT N eA fY fZ i i7 i12 kk aA (Ms,aKu,Mv,x53)) N (OB,x115,aBO,0)) (
  kk (OB,x115,aBO,D2))
def oV (N:Nat) (o:Int) (Ow:bU) (OC Jc OD:Int) (kk:yN→Option nJ):Nat→yN→Option nJ
 | 0,_=>none
 | aA+1,(Mx,Mw,Jd,i21)=>
  cond (decide (i21<3)) (
  (inr i21 3).bind fun _=>
  (idx [Ow.1,Ow.2.1,Ow.2.2] i21).bind fun e69=>
  (inr i21 3).bind fun _=>
  (idx [Ow.1,Ow.2.1,Ow.2.2] i21).bind fun e70=>
  cond (decide (i21=0)) (
  (bT N (aC.wrap ((aC.wrap (e70-(aC.wrap (gI OC 16))))*o)) 256).bind fun L4=>
  (dD N (aC.wrap (e69+L4))).bind fun r31=>
  (some (aC.wrap (i21+1))).bind fun x58=>
  oV N o Ow OC Jc OD kk aA (r31,Mw,Jd,x58)) (
  cond (decide (i21=1)) (
  (bT N (aC.wrap ((aC.wrap (e70-(aC.wrap (gI Jc 16))))*o)) 256).bind fun r32=>
  (dD N (aC.wrap (e69+r32))).bind fun UR=>
  (some (aC.wrap (i21+1))).bind fun x59=>
  oV N o Ow OC Jc OD kk aA (Mx,UR,Jd,x59)) (
  cond (decide (i21=2)) (
  (bT N (aC.wrap ((aC.wrap (e70-(aC.wrap (gI OD 16))))*o)) 256).bind fun PK=>
  (dD N (aC.wrap (e69+PK))).bind fun Pi=>
  (some (aC.wrap (i21+1))).bind fun x60=>
  oV N o Ow OC Jc OD kk aA (Mx,Mw,Pi,x60)) (
  none)))) (
  kk (Mx,Mw,Jd,i21))
def kU (N:Nat) (eA fY:Int) (fZ:List bU) (i i7:Int) (kk:yN→Option nJ):Nat→yN→Option nJ
 | 0,_=>none
 | aA+1,(x09,x112,aBP,i12)=>
  cond (decide (i12≤1)) (
  kT N eA fY fZ i i7 i12 (fun (Mu,Mt,U2,i19)=>
  (some (aC.wrap (i12+1))).bind fun x54=>
  kU N eA fY fZ i i7 kk aA (Mu,Mt,U2,x54)) N (x09,x112,aBP,(-1))) (
  kk (x09,x112,aBP,i12))
def oW (N:Nat) (eA fY:Int) (fZ:List bU) (o i:Int) (kk:pN→Option nJ):Nat→pN→Option nJ
 | 0,_=>none
 | aA+1,(sZ,i7)=>
  cond (decide (i7<eA)) (
  (idx fZ (aC.wrap ((aC.wrap (i*eA))+i7))).bind fun e27=>
  (j6 N e27.1 e27.2.1 e27.2.2).bind fun Ow=>
  kU N eA fY fZ i i7 (fun (OC,Jc,OD,i20)=>
  oV N o Ow OC Jc OD (fun (PL,Ww,QX,i22)=>
  (j3 N PL Ww QX).bind fun I7=>
  (app 24 sZ (([(I7.1,I7.2.1,I7.2.2)]:List bU))).bind fun FZ=>
  (some (aC.wrap (i7+1))).bind fun x61=>
  oW N eA fY fZ o i kk aA (FZ,x61)) N (0,0,0,0)) N (0,0,0,(-1))) (
  kk (sZ,i7))
def oX (N:Nat) (eA fY:Int) (fZ:List bU) (o:Int) (kk:pN→Option nJ):Nat→pN→Option nJ
 | 0,_=>none
 | aA+1,(tE,i)=>
  cond (decide (i<fY)) (
  oW N eA fY fZ o i (fun (YU,i23)=>
  (some (aC.wrap (i+1))).bind fun x62=>
  oX N eA fY fZ o kk aA (YU,x62)) N (tE,0)) (
  kk (tE,i))
def uQ (N:Nat) (eA fY:Int) (fZ:List bU) (o:Int):Option nJ:=
 oX N eA fY fZ o (fun (UX,i24)=>
 some (eA,fY,UX)) N (([]:List bU),0)
def pT (N:Nat) (na nb0 DZ D0 D1 nc:Int) (nd:List aN) (D5 ne1 El Em En Eo Ep Er Es Et Eu nf8:Int) (ng:List aN) (nh lE mS:Int) (iI:List Int):Option nJ:=
 (oR N lE mS iI nb0 DZ D0 D1 nc).bind fun r2=>
 (oS N r2.1 r2.2.1 r2.2.2 nd).bind fun r3=>
 (qN N r3.1 r3.2.1 r3.2.2 na D5 ne1 El).bind fun r4=>
 (qO N r4.1 r4.2.1 r4.2.2 na).bind fun r5=>
 (uP N r5.1 r5.2.1 r5.2.2 Em En Eo Ep Er Es Et Eu nf8).bind fun r6=>
 (vC N r6.1 r6.2.1 r6.2.2 ng).bind fun r7=>
 (uQ N r7.1 r7.2.1 r7.2.2 nh).bind fun r8=>
 some (r8.1,r8.2.1,r8.2.2)
def kV (N:Nat) (gG:List bU) (kk:Int→Option Bool):Nat→Int→Option Bool
 | 0,_=>none
 | aA+1,i=>
  cond (decide (i<(gG.length:Int))) (
  (idx gG i).bind fun e4=>
  (aM N e4.1 0 65535).bind fun r7=>
  cond (!(r7)) (
  some false) (
  (idx gG i).bind fun e5=>
  (aM N e5.2.1 0 65535).bind fun r8=>
  cond (!(r8)) (
  some false) (
  (idx gG i).bind fun e6=>
  (aM N e6.2.2 0 65535).bind fun r9=>
  cond (!(r9)) (
  some false) (
  (some (aC.wrap (i+1))).bind fun i3=>
  kV N gG kk aA i3)))) (
  kk i)
def pH (N:Nat) (gF lK:Int) (gG:List bU):Option Bool:=
 (aM N gF 1 64).bind fun r2=>
 cond (!(r2)) (
 some false) (
 (aM N lK 1 64).bind fun r3=>
 cond (!(r3)) (
 some false) (
 cond (!decide ((gG.length:Int)=(aC.wrap (gF*lK)))) (
 some false) (
 kV N gG (fun i4=>
 some true) N 0)))
def oY (N:Nat) (gF lK:Int) (gG:List bU) (r_X r_Y v8 sV:Int):Option Int:=
 (pH N gF lK gG).bind fun r2=>
 cond (!(r2)) (
 some 1) (
 (aM N v8 1 gF).bind fun r3=>
 cond (!(r3)) (
 some 3) (
 (aM N sV 1 lK).bind fun r4=>
 cond (!(r4)) (
 some 3) (
 (aM N r_X 0 (aC.wrap (gF-v8))).bind fun r5=>
 cond (!(r5)) (
 some 3) (
 (aM N r_Y 0 (aC.wrap (lK-sV))).bind fun r6=>
 cond (!(r6)) (
 some 3) (
 some 0)))))
def oZ (N:Nat) (gF:Int) (gG:List bU) (r_X r_Y v8 sV:Int) (kk:pN→Option nJ):Nat→pN→Option nJ
 | 0,_=>none
 | aA+1,(cJ,y)=>
  cond (decide (y<(aC.wrap (r_Y+sV)))) (
  (Fs gG (aC.wrap ((aC.wrap (y*gF))+r_X)) (aC.wrap ((aC.wrap ((aC.wrap (y*gF))+r_X))+v8))).bind fun l3=>
  (app 24 cJ l3).bind fun gA=>
  (some (aC.wrap (y+1))).bind fun y3=>
  oZ N gF gG r_X r_Y v8 sV kk aA (gA,y3)) (
  kk (cJ,y))
def sB (N:Nat) (gF lK:Int) (gG:List bU) (r_X r_Y v8 sV:Int):Option nJ:=
 oZ N gF gG r_X r_Y v8 sV (fun (nD,y4)=>
 some (v8,sV,nD)) N (([]:List bU),r_Y)
def tZ (N:Nat) (fY i31:Int) (i37:Bool) (wZ:Int→Option nJ):Option nJ:=
  cond (i37) (
  (some (aC.wrap ((aC.wrap (fY-1))-i31))).bind fun x6=>
  wZ x6) (
  wZ i31)
def t6 (N:Nat) (o:Int) (pZ:Bool→Option nJ):Option nJ:=
  cond (decide (o=3)) (
  pZ true) (
  cond (decide (o=4)) (
  pZ true) (
  cond (decide (o=6)) (
  pZ true) (
  pZ (decide (o=7)))))
def t7 (N:Nat) (eA i30:Int) (i33:Bool) (w5:Int→Option nJ):Option nJ:=
  cond (i33) (
  (some (aC.wrap ((aC.wrap (eA-1))-i30))).bind fun x5=>
  w5 x5) (
  w5 i30)
def t8 (N:Nat) (o:Int) (p6:Bool→Option nJ):Option nJ:=
  cond (decide (o=2)) (
  p6 true) (
  cond (decide (o=3)) (
  p6 true) (
  cond (decide (o=7)) (
  p6 true) (
  p6 (decide (o=8)))))
def t9 (N:Nat) (o i D2:Int) (w6:aN→Option nJ):Option nJ:=
  cond (decide (5≤o)) (
  w6 (i,D2)) (
  w6 (D2,i))
def nZ (N:Nat) (eA fY:Int) (fZ:List bU) (o LQ i:Int) (kk:pN→Option nJ):Nat→pN→Option nJ
 | 0,_=>none
 | aA+1,(sZ,D2)=>
  cond (decide (D2<LQ)) (
  t9 N o i D2 (fun (i30,i31)=>
  t8 N o (fun i33=>
  t7 N eA i30 i33 (fun i35=>
  t6 N o (fun i37=>
  tZ N fY i31 i37 (fun i39=>
  (idx fZ (aC.wrap ((aC.wrap (i39*eA))+i35))).bind fun e3=>
  (app 24 sZ (([(e3.1,e3.2.1,e3.2.2)]:List bU))).bind fun FZ=>
  (some (aC.wrap (D2+1))).bind fun x7=>
  nZ N eA fY fZ o LQ i kk aA (FZ,x7))))))) (
  kk (sZ,D2))
def lP (N:Nat) (eA fY:Int) (fZ:List bU) (o LQ OE:Int) (kk:pN→Option nJ):Nat→pN→Option nJ
 | 0,_=>none
 | aA+1,(tE,i)=>
  cond (decide (i<OE)) (
  nZ N eA fY fZ o LQ i (fun (YU,i40)=>
  (some (aC.wrap (i+1))).bind fun x8=>
  lP N eA fY fZ o LQ OE kk aA (YU,x8)) N (tE,0)) (
  kk (tE,i))
def uA (N:Nat) (eA fY o:Int) (w7:aN→Option nJ):Option nJ:=
  cond (decide (5≤o)) (
  w7 (fY,eA)) (
  w7 (eA,fY))
def fW (N:Nat) (eA fY:Int) (fZ:List bU) (o:Int):Option nJ:=
 uA N eA fY o (fun (LQ,OE)=>
 lP N eA fY fZ o LQ OE (fun (UX,i41)=>
 some (LQ,OE,UX)) N (([]:List bU),0))
def mK (N:Nat):Nat→Int→Option aR
 | 0,_=>none
 | fu+1,n=>
  cond (decide (n<10)) (
  some (toB (([iH.wrap (aC.wrap (48+(mN n 10)))]:List Int)))) (
  (mK N fu (aC.wrap (gI n 10))).bind fun r2=>
  (Ai r2 (toB (([iH.wrap (aC.wrap (48+(mN n 10)))]:List Int)))).bind fun s=>
  some s)
def oG (N:Nat) (n:Int):Option aR:=mK N N n
def vD (N:Nat) (w2 h2:Int) (eH:Bool):Option aR:=
 cond (eH) (
 (oG N w2).bind fun r2=>
 (Ai ([80,54,10]:aR) r2).bind fun s=>
 (Ai s ([32]:aR)).bind fun s2=>
 (oG N h2).bind fun r3=>
 (Ai s2 r3).bind fun s3=>
 (Ai s3 ([10]:aR)).bind fun s4=>
 (Ai s4 ([54,53,53,51,53]:aR)).bind fun s5=>
 (Ai s5 ([10]:aR)).bind fun s6=>
 some s6) (
 (oG N w2).bind fun r4=>
 (Ai ([80,54,10]:aR) r4).bind fun s7=>
 (Ai s7 ([32]:aR)).bind fun s8=>
 (oG N h2).bind fun r5=>
 (Ai s8 r5).bind fun s9=>
 (Ai s9 ([10]:aR)).bind fun s10=>
 (Ai s10 ([50,53,53]:aR)).bind fun s11=>
 (Ai s11 ([10]:aR)).bind fun s12=>
 some s12)
def fV (N:Nat) (eH:Bool) (r4:bU) (kk:gL→Option aR):Nat→gL→Option aR
 | 0,_=>none
 | aA+1,(l6,k4)=>
  cond (decide (k4<3)) (
  (inr k4 3).bind fun _=>
  (idx [r4.1,r4.2.1,r4.2.2] k4).bind fun e7=>
  (app 1 l6 (([iH.wrap (aC.wrap (gI e7 256))]:List Int))).bind fun l9=>
  cond (eH) (
  (inr k4 3).bind fun _=>
  (idx [r4.1,r4.2.1,r4.2.2] k4).bind fun e8=>
  (app 1 l9 ([iH.wrap e8]:List Int)).bind fun l10=>
  (some (aC.wrap (k4+1))).bind fun k7=>
  fV N eH r4 kk aA (l10,k7)) (
  (some (aC.wrap (k4+1))).bind fun k8=>
  fV N eH r4 kk aA (l9,k8))) (
  kk (l6,k4))
def lT (N:Nat) (gG:List bU) (eH:Bool) (kk:gL→Option aR):Nat→gL→Option aR
 | 0,_=>none
 | aA+1,(l2,i)=>
  cond (decide (i<(gG.length:Int))) (
  (idx gG i).bind fun e4=>
  (j6 N e4.1 e4.2.1 e4.2.2).bind fun r4=>
  fV N eH r4 (fun (Qa,k9)=>
  (some (aC.wrap (i+1))).bind fun i3=>
  lT N gG eH kk aA (Qa,i3)) N (l2,0)) (
  kk (l2,i))
def iP (N:Nat) (gF lK:Int) (gG:List bU) (eH:Bool):Option aR:=
 (vD N gF lK eH).bind fun r2=>
 (szB r2).bind fun _=>
 lT N gG eH (fun (l12,i4)=>
 some (toB l12)) N ((rT r2),0)
def lQ (N:Nat) (s:aR) (Ia CL CM CN CO ED:Int) (GP:Bool):Option lC:=
 (nF N s).bind fun r2=>
 cond (!(r2.2.2.2.2.2.2.2.2.2.2.2.2.2.2.2.2.2.2.2.2.2.2.2.2.2.2.2.2)) (
 some (([]:aR),1)) (
 cond (decide (Ia<1)) (
 some (([]:aR),3)) (
 (mE N r2.1 r2.2.1 r2.2.2.1 r2.2.2.2.1 r2.2.2.2.2.1 r2.2.2.2.2.2.1 r2.2.2.2.2.2.2.1 r2.2.2.2.2.2.2.2.1 r2.2.2.2.2.2.2.2.2.1 r2.2.2.2.2.2.2.2.2.2.1 r2.2.2.2.2.2.2.2.2.2.2.1 r2.2.2.2.2.2.2.2.2.2.2.2.1 r2.2.2.2.2.2.2.2.2.2.2.2.2.1 r2.2.2.2.2.2.2.2.2.2.2.2.2.2.1 r2.2.2.2.2.2.2.2.2.2.2.2.2.2.2.1 r2.2.2.2.2.2.2.2.2.2.2.2.2.2.2.2.1 r2.2.2.2.2.2.2.2.2.2.2.2.2.2.2.2.2.1 r2.2.2.2.2.2.2.2.2.2.2.2.2.2.2.2.2.2.1 r2.2.2.2.2.2.2.2.2.2.2.2.2.2.2.2.2.2.2.1 r2.2.2.2.2.2.2.2.2.2.2.2.2.2.2.2.2.2.2.2.1 r2.2.2.2.2.2.2.2.2.2.2.2.2.2.2.2.2.2.2.2.2.1 r2.2.2.2.2.2.2.2.2.2.2.2.2.2.2.2.2.2.2.2.2.2.1 r2.2.2.2.2.2.2.2.2.2.2.2.2.2.2.2.2.2.2.2.2.2.2.1 r2.2.2.2.2.2.2.2.2.2.2.2.2.2.2.2.2.2.2.2.2.2.2.2.1 r2.2.2.2.2.2.2.2.2.2.2.2.2.2.2.2.2.2.2.2.2.2.2.2.2.1 r2.2.2.2.2.2.2.2.2.2.2.2.2.2.2.2.2.2.2.2.2.2.2.2.2.2.1 r2.2.2.2.2.2.2.2.2.2.2.2.2.2.2.2.2.2.2.2.2.2.2.2.2.2.2.1 r2.2.2.2.2.2.2.2.2.2.2.2.2.2.2.2.2.2.2.2.2.2.2.2.2.2.2.2.1).bind fun r3=>
 (pT N r2.2.2.2.2.2.2.2.1 r2.2.2.2.2.2.2.2.2.1 r2.2.2.2.2.2.2.2.2.2.1 r2.2.2.2.2.2.2.2.2.2.2.1 r2.2.2.2.2.2.2.2.2.2.2.2.1 r2.2.2.2.2.2.2.2.2.2.2.2.2.1 r2.2.2.2.2.2.2.2.2.2.2.2.2.2.1 r2.2.2.2.2.2.2.2.2.2.2.2.2.2.2.1 r2.2.2.2.2.2.2.2.2.2.2.2.2.2.2.2.1 r2.2.2.2.2.2.2.2.2.2.2.2.2.2.2.2.2.1 r2.2.2.2.2.2.2.2.2.2.2.2.2.2.2.2.2.2.1 r2.2.2.2.2.2.2.2.2.2.2.2.2.2.2.2.2.2.2.1 r2.2.2.2.2.2.2.2.2.2.2.2.2.2.2.2.2.2.2.2.1 r2.2.2.2.2.2.2.2.2.2.2.2.2.2.2.2.2.2.2.2.2.1 r2.2.2.2.2.2.2.2.2.2.2.2.2.2.2.2.2.2.2.2.2.2.1 r2.2.2.2.2.2.2.2.2.2.2.2.2.2.2.2.2.2.2.2.2.2.2.1 r2.2.2.2.2.2.2.2.2.2.2.2.2.2.2.2.2.2.2.2.2.2.2.2.1 r2.2.2.2.2.2.2.2.2.2.2.2.2.2.2.2.2.2.2.2.2.2.2.2.2.1 r2.2.2.2.2.2.2.2.2.2.2.2.2.2.2.2.2.2.2.2.2.2.2.2.2.2.1 r2.2.2.2.2.2.2.2.2.2.2.2.2.2.2.2.2.2.2.2.2.2.2.2.2.2.2.1 r2.2.2.2.2.2.2.2.2.2.2.2.2.2.2.2.2.2.2.2.2.2.2.2.2.2.2.2.1 r3.1 r3.2.1 r3.2.2.1).bind fun r4=>
 cond (!(decide (CL=0)&&decide (CM=0)&&decide (CN=0)&&decide (CO=0))) (
 (oY N r4.1 r4.2.1 r4.2.2 CL CM CN CO).bind fun r5=>
 cond (!decide (r5=0)) (
 some (([]:aR),r5)) (
 (sB N r4.1 r4.2.1 r4.2.2 CL CM CN CO).bind fun r6=>
 (aM N ED 1 8).bind fun r7=>
 cond (!(r7)) (
 some (([]:aR),3)) (
 (fW N r6.1 r6.2.1 r6.2.2 ED).bind fun r8=>
 (iP N r8.1 r8.2.1 r8.2.2 GP).bind fun r9=>
 some (r9,0)))) (
 (aM N ED 1 8).bind fun Cd=>
 cond (!(Cd)) (
 some (([]:aR),3)) (
 (fW N r4.1 r4.2.1 r4.2.2 ED).bind fun Al=>
 (iP N Al.1 Al.2.1 Al.2.2 GP).bind fun AE=>
 some (AE,0)))))
def sS (N:Nat) (s yJ:aR):Option Bool:=
 cond (decide ((yJ.length:Int)≤(s.length:Int))) (
 (Fs s 0 (yJ.length:Int)).bind fun s2=>
 some (decide (s2=yJ))) (
 some false)
def sT (N:Nat) (s yJ:aR):Option Wh:=
 (sS N s yJ).bind fun r2=>
 cond (!(r2)) (
 some (s,false)) (
 (Fs s (yJ.length:Int) (s.length:Int)).bind fun s2=>
 some (s2,true))
def B4 (N:Nat) (s yJ:aR):Option Wh:=
 (sT N s yJ).bind fun r2=>
 some (r2.1,r2.2)
def wJ (N:Nat) (s sep:aR):Option M5:=
 (u3 N s sep).bind fun r2=>
 cond (decide (0≤r2)) (
 (Fs s 0 r2).bind fun s2=>
 (Fs s (aC.wrap (r2+(sep.length:Int))) (s.length:Int)).bind fun s3=>
 some (s2,s3,true)) (
 some (s,([]:aR),false))
def Ib (N:Nat) (s sep:aR):Option M5:=
 (wJ N s sep).bind fun r2=>
 some (r2.1,r2.2.1,r2.2.2)
def Ic (N:Nat) (s mark:aR):Option Kl:=
 (Ib N s mark).bind fun r2=>
 aDy r2.1 (fun n=>
 cond (r2.2.2) (
 (lX N n).bind fun r3=>
 some (n,r2.2.1,decide (r3=r2.1))) (
 some (n,r2.2.1,false))) (fun n=>
 cond (r2.2.2) (
 some (n,r2.2.1,false)) (
 some (n,r2.2.1,false)))
def Kw (N:Nat) (i:Bool) (r4:Kl) (FC:Bool→Option FQ):Option FQ:=
  cond (i) (
  FC r4.2.2) (
  FC false)
def Kx (N:Nat) (i:Bool) (r4:Kl) (FD:Bool→Option FQ):Option FQ:=
  cond (i) (
  FD r4.2.2) (
  FD false)
def Ky (N:Nat) (i:Bool) (r4:Kl) (FE:Bool→Option FQ):Option FQ:=
  cond (i) (
  FE r4.2.2) (
  FE false)
def GQ (N:Nat) (Oj FX x6:Int) (kk:aDh→Option FQ):Nat→aDh→Option FQ
 | 0,_=>none
 | aA+1,(tE,x7,i19)=>
  cond (decide (i19<(aC.wrap (Oj*FX)))) (
  (idx x7 0).bind fun b7=>
  (idx x7 (aC.wrap (x6-1))).bind fun b8=>
  (Fs x7 x6 (x7.length:Int)).bind fun s4=>
  (idx s4 0).bind fun b9=>
  (idx s4 (aC.wrap (x6-1))).bind fun b10=>
  (Fs s4 x6 (s4.length:Int)).bind fun s5=>
  (idx s5 0).bind fun b11=>
  (idx s5 (aC.wrap (x6-1))).bind fun b12=>
  (Fs s5 x6 (s5.length:Int)).bind fun s6=>
  (app 24 tE (([(Ir .i64 (qF .i64 (aC.wrap (b7.toNat:Int)) 8) (aC.wrap (b8.toNat:Int)),Ir .i64 (qF .i64 (aC.wrap (b9.toNat:Int)) 8) (aC.wrap (b10.toNat:Int)),Ir .i64 (qF .i64 (aC.wrap (b11.toNat:Int)) 8) (aC.wrap (b12.toNat:Int)))]:List bU))).bind fun Ak=>
  GQ N Oj FX x6 kk aA (Ak,s6,aC.wrap (i19+1))) (
  kk (tE,x7,i19))
def Kz (N:Nat) (JJ:Int) (FF:Int→Option FQ):Option FQ:=
  cond (decide (JJ=65535)) (
  FF 2) (
  FF 1)
def KA (N:Nat) (Oj FX JJ:Int) (D2:Bool) (sY:Bool→Option FQ):Option FQ:=
  cond (!(D2)) (
  sY true) (
  cond (decide (Oj<1)) (
  sY true) (
  cond (decide (64<Oj)) (
  sY true) (
  cond (decide (FX<1)) (
  sY true) (
  cond (decide (64<FX)) (
  sY true) (
  cond (!decide (JJ=65535)) (
  sY (!decide (JJ=255))) (
  sY false))))))
def Br (N:Nat)  (kk:aDg→Option FQ):Nat→aDg→Option FQ
 | 0,_=>none
 | aA+1,(x0,x1,x2,x3,i,i2)=>
  cond (decide (i2<3)) (
  (idx [([32]:aR),([10]:aR),([10]:aR)] i2).bind fun e2=>
  (Ic N x3 e2).bind fun r4=>
  cond (decide (i2=0)) (
  Kw N i r4 (fun EV=>
  cond (!(EV)) (
  kk (r4.1,x1,x2,r4.2.1,EV,i2)) (
  Br N  kk aA (r4.1,x1,x2,r4.2.1,EV,aC.wrap (i2+1))))) (
  cond (decide (i2=1)) (
  Kx N i r4 (fun i12=>
  cond (!(i12)) (
  kk (x0,r4.1,x2,r4.2.1,i12,i2)) (
  Br N  kk aA (x0,r4.1,x2,r4.2.1,i12,aC.wrap (i2+1))))) (
  cond (decide (i2=2)) (
  Ky N i r4 (fun Yo=>
  cond (!(Yo)) (
  kk (x0,x1,r4.1,r4.2.1,Yo,i2)) (
  Br N  kk aA (x0,x1,r4.1,r4.2.1,Yo,aC.wrap (i2+1))))) (
  none)))) (
  kk (x0,x1,x2,x3,i,i2))
def KC (N:Nat) (d:aR):Option FQ:=
 (B4 N d ([80,54,10]:aR)).bind fun r2=>
 Br N  (fun (Oj,FX,JJ,x4,D2,i16)=>
 KA N Oj FX JJ D2 (fun i18=>
 cond (i18) (
 some (0,0,([]:List bU),false,1)) (
 Kz N JJ (fun x6=>
 cond (!decide ((x4.length:Int)=(aC.wrap ((aC.wrap ((aC.wrap (3*x6))*Oj))*FX)))) (
 some (0,0,([]:List bU),false,1)) (
 GQ N Oj FX x6 (fun (sZ,x8,i20)=>
 some (Oj,FX,sZ,decide (JJ=65535),0)) N (([]:List bU),x4,0)))))) N (0,0,0,r2.1,r2.2,0)
def Dg (N:Nat)  : Option (List Int):=
 some (([2,3,3,4,4,4,5,5,5,6,6,6,7,7,7,8,8]:List Int))
def Bs (N:Nat)  : Option (List aN):=
 some (([(0,0),(65535,65535)]:List aN))
def Bt (N:Nat)  : Option Wg:=
 (Bs N ).bind fun r2=>
 some (0,0,0,0,0,65535,([]:List aN),256,256,256,4096,0,0,0,4096,0,0,0,4096,r2,64)
def Bu (N:Nat)  : Option qP:=
 some (2,2,([10,65535,0,7]:List Int))
def zB (N:Nat) (s:List Int):Option (List Int):=
 (app 8 ([]:List Int) s).bind fun l2=>
 some l2
def sG (N:Nat) (s:List aN):Option (List aN):=
 (app 16 (([]:List aN)) s).bind fun l2=>
 some l2
def rB (N:Nat) (s:List aN):Option (List aN):=
 (app 16 (([]:List aN)) s).bind fun l2=>
 some l2
def GR (N:Nat) (x6:Int) (kk:gL→Option lC):Nat→gL→Option lC
 | 0,_=>none
 | aA+1,(l5,i5)=>
  cond (decide (8≤i5)) (
  (some (aC.wrap (i5-8))).bind fun x9=>
  (nn x9).bind fun _=>
  (app 1 l5 (([iH.wrap (jN .i64 x6 x9)]:List Int))).bind fun l7=>
  GR N x6 kk aA (l7,x9)) (
  kk (l5,i5))
def GS (N:Nat) (d:List Int) (o:Int) (kk:Qx→Option lC):Nat→Qx→Option lC
 | 0,_=>none
 | aA+1,(l2,i,i2,i3)=>
  cond (decide (i3<(d.length:Int))) (
  (idx d i3).bind fun e2=>
  cond (decide (e2<0)) (
  some (([]:aR),3)) (
  (nn o).bind fun _=>
  cond (decide ((qF .i64 1 o)≤e2)) (
  some (([]:aR),3)) (
  (nn o).bind fun _=>
  (some (Ir .i64 (qF .i64 i o) e2)).bind fun x6=>
  (some (aC.wrap (i2+o))).bind fun x7=>
  GR N x6 (fun (l8,i6)=>
  (nn i6).bind fun _=>
  (some (BJ .i64 x6 (aC.wrap ((qF .i64 1 i6)-1)))).bind fun x10=>
  GS N d o kk aA (l8,x10,i6,aC.wrap (i3+1))) N (l2,x7)))) (
  kk (l2,i,i2,i3))
def KD (N:Nat) (d:List Int) (o:Int):Option lC:=
 (Ax N o).bind fun r2=>
 cond (!(r2)) (
 some (([]:aR),3)) (
 cond (decide (4096<(d.length:Int))) (
 some (([]:aR),2)) (
 (mok 1 (aC.wrap (gI (aC.wrap ((aC.wrap ((d.length:Int)*o))+7)) 8))).bind fun _=>
 GS N d o (fun (l9,i7,i8,i9)=>
 cond (decide (0<i8)) (
 (nn (aC.wrap (8-i8))).bind fun _=>
 (app 1 l9 (([iH.wrap (qF .i64 i7 (aC.wrap (8-i8)))]:List Int))).bind fun l10=>
 some (toB l10,0)) (
 some (toB l9,0))) N (([]:List Int),0,0,0)))
def GU (N:Nat) (iI:List Int) (kk:Int→Option Bool):Nat→Int→Option Bool
 | 0,_=>none
 | aA+1,i=>
  cond (decide (i<(iI.length:Int))) (
  (idx iI i).bind fun e2=>
  cond (decide (e2<0)) (
  some false) (
  cond (decide (65535<e2)) (
  some false) (
  GU N iI kk aA (aC.wrap (i+1))))) (
  kk i)
def KE (N:Nat) (lE mS:Int) (iI:List Int):Option Bool:=
 cond (decide (lE<1)) (
 some false) (
 cond (decide (64<lE)) (
 some false) (
 cond (decide (mS<1)) (
 some false) (
 cond (decide (64<mS)) (
 some false) (
 cond (!decide ((iI.length:Int)=(aC.wrap (lE*mS)))) (
 some false) (
 GU N iI (fun i2=>
 some true) N 0)))))
def DI (N:Nat) (x2:Int):Option Int:=
 cond (decide (4294967296≤x2)) (
 (some (jN .u64 x2 32)).bind fun x3=>
 cond (decide (65536≤x3)) (
 (some (jN .u64 x3 16)).bind fun x4=>
 (some (aC.wrap (32+16))).bind fun n=>
 cond (decide (256≤x4)) (
 (some (jN .u64 x4 8)).bind fun x5=>
 (some (aC.wrap (n+8))).bind fun n2=>
 (idx Wk (iH.wrap x5)).bind fun b=>
 (some (aC.wrap (n2+(aC.wrap (b.toNat:Int))))).bind fun n3=>
 some n3) (
 (idx Wk (iH.wrap x4)).bind fun b2=>
 (some (aC.wrap (n+(aC.wrap (b2.toNat:Int))))).bind fun n4=>
 some n4)) (
 cond (decide (256≤x3)) (
 (some (jN .u64 x3 8)).bind fun x6=>
 (some (aC.wrap (32+8))).bind fun n5=>
 (idx Wk (iH.wrap x6)).bind fun b3=>
 (some (aC.wrap (n5+(aC.wrap (b3.toNat:Int))))).bind fun n6=>
 some n6) (
 (idx Wk (iH.wrap x3)).bind fun b4=>
 (some (aC.wrap (32+(aC.wrap (b4.toNat:Int))))).bind fun n7=>
 some n7))) (
 cond (decide (65536≤x2)) (
 (some (jN .u64 x2 16)).bind fun x7=>
 (some (aC.wrap (0+16))).bind fun n8=>
 cond (decide (256≤x7)) (
 (some (jN .u64 x7 8)).bind fun x8=>
 (some (aC.wrap (n8+8))).bind fun n9=>
 (idx Wk (iH.wrap x8)).bind fun b5=>
 (some (aC.wrap (n9+(aC.wrap (b5.toNat:Int))))).bind fun n10=>
 some n10) (
 (idx Wk (iH.wrap x7)).bind fun b6=>
 (some (aC.wrap (n8+(aC.wrap (b6.toNat:Int))))).bind fun n11=>
 some n11)) (
 cond (decide (256≤x2)) (
 (some (jN .u64 x2 8)).bind fun x9=>
 (some (aC.wrap (0+8))).bind fun n12=>
 (idx Wk (iH.wrap x9)).bind fun b7=>
 (some (aC.wrap (n12+(aC.wrap (b7.toNat:Int))))).bind fun n13=>
 some n13) (
 (idx Wk (iH.wrap x2)).bind fun b8=>
 (some (aC.wrap (0+(aC.wrap (b8.toNat:Int))))).bind fun n14=>
 some n14)))
def CP (N:Nat) (x2:Int):Option Int:=
 (DI N x2).bind fun r2=>
 some r2
def pJ (N:Nat) (eA fY:Int) (fZ:List Int) (o:Int) (r3:D9) (kk:lC→Option lC):Nat→lC→Option lC
 | 0,_=>none
 | aA+1,(l2,i)=>
  cond (decide (i<(fZ.length:Int))) (
  (idx fZ i).bind fun e6=>
  (tR N eA fY fZ o i).bind fun Al=>
  (some (aC.wrap (IntKind.u16.wrap (aC.wrap (e6-Al))))).bind fun x6=>
  cond (decide (32768<x6)) (
  (some (aC.wrap (x6-65536))).bind fun x7=>
  (CP N (IntKind.u64.wrap (max x7 (aC.wrap (0-x7))))).bind fun AE=>
  cond (decide ((r3.1.length:Int)≤AE)) (
  some (([]:aR),4)) (
  (idx r3.1 AE).bind fun e7=>
  cond (decide (e7=([]:aR))) (
  some (([]:aR),4)) (
  (idx r3.1 AE).bind fun e8=>
  (V5 l2 e8).bind fun b7=>
  cond (decide (0<AE)) (
  cond (decide (AE<16)) (
  cond (decide (x7<0)) (
  (nn AE).bind fun _=>
  (some (aC.wrap (x7+(aC.wrap ((qF .i64 1 AE)-1))))).bind fun x8=>
  (tQ N x8 AE).bind fun B1=>
  (V5 b7 B1.1).bind fun b8=>
  pJ N eA fY fZ o r3 kk aA (b8,aC.wrap (i+1))) (
  (tQ N x7 AE).bind fun IX=>
  (V5 b7 IX.1).bind fun b9=>
  pJ N eA fY fZ o r3 kk aA (b9,aC.wrap (i+1)))) (
  pJ N eA fY fZ o r3 kk aA (b7,aC.wrap (i+1)))) (
  pJ N eA fY fZ o r3 kk aA (b7,aC.wrap (i+1)))))) (
  (CP N (IntKind.u64.wrap (max x6 (aC.wrap (0-x6))))).bind fun J5=>
  cond (decide ((r3.1.length:Int)≤J5)) (
  some (([]:aR),4)) (
  (idx r3.1 J5).bind fun e9=>
  cond (decide (e9=([]:aR))) (
  some (([]:aR),4)) (
  (idx r3.1 J5).bind fun e10=>
  (V5 l2 e10).bind fun b10=>
  cond (decide (0<J5)) (
  cond (decide (J5<16)) (
  cond (decide (x6<0)) (
  (nn J5).bind fun _=>
  (some (aC.wrap (x6+(aC.wrap ((qF .i64 1 J5)-1))))).bind fun x9=>
  (tQ N x9 J5).bind fun r16=>
  (V5 b10 r16.1).bind fun b11=>
  pJ N eA fY fZ o r3 kk aA (b11,aC.wrap (i+1))) (
  (tQ N x6 J5).bind fun Lw=>
  (V5 b10 Lw.1).bind fun b12=>
  pJ N eA fY fZ o r3 kk aA (b12,aC.wrap (i+1)))) (
  pJ N eA fY fZ o r3 kk aA (b10,aC.wrap (i+1)))) (
  pJ N eA fY fZ o r3 kk aA (b10,aC.wrap (i+1))))))) (
  kk (l2,i))
def Je (N:Nat) (eA fY:Int) (fZ:List Int) (o:Int) (p2:List Int):Option lC:=
 (KE N eA fY fZ).bind fun r2=>
 cond (!(r2)) (
 some (([]:aR),1)) (
 cond (decide (o<1)) (
 some (([]:aR),6)) (
 cond (decide (7<o)) (
 some (([]:aR),6)) (
 (xJ N p2).bind fun r3=>
 cond (!decide (r3.2=0)) (
 some (([]:aR),r3.2)) (
 pJ N eA fY fZ o r3 (fun (l3,i2)=>
 (BN N l3).bind fun Mr=>
 some (Mr.1,0)) N (([]:aR),0)))))
def E3 (N:Nat) (lV qS:Int) (oD:List Int) (C8:Int) (LP:List Int) (r9:List aN) (kk:D9→Option J3):Nat→D9→Option J3
 | 0,_=>none
 | aA+1,(pG,i)=>
  cond (decide (i<(r9.length:Int))) (
  (idx r9 i).bind fun e2=>
  (Fs LP (aC.wrap (e2.1*C8)) (aC.wrap ((aC.wrap (e2.1+e2.2))*C8))).bind fun l3=>
  (KD N l3 lV).bind fun AE=>
  cond (decide (0<qS)) (
  (Je N C8 e2.2 l3 qS oD).bind fun B1=>
  cond (!decide (B1.2=0)) (
  some (0,0,0,0,0,([]:List Int),([]:List aR),0,0,0,0,0,0,([]:List aN),0,0,0,0,0,0,0,0,0,0,0,0,([]:List aN),0,B1.2)) (
  (app 16 pG (([B1.1]:List aR))).bind fun mY=>
  E3 N lV qS oD C8 LP r9 kk aA (mY,aC.wrap (i+1)))) (
  cond (!decide (AE.2=0)) (
  some (0,0,0,0,0,([]:List Int),([]:List aR),0,0,0,0,0,0,([]:List aN),0,0,0,0,0,0,0,0,0,0,0,0,([]:List aN),0,AE.2)) (
  (app 16 pG (([AE.1]:List aR))).bind fun OF=>
  E3 N lV qS oD C8 LP r9 kk aA (OF,aC.wrap (i+1))))) (
  kk (pG,i))
def My (N:Nat) (eA fY lV qS uG:Int) (oD:List Int) (gM:List aR) (eW eI eJ eK eL eX:Int) (dA:List aN) (eM eN eO dO dP dQ dR dS dU dV dW dX:Int) (dB:List aN) (dZ C8 GJ:Int) (LP:List Int):Option J3:=
 (Ek N eA fY lV qS uG oD gM eW eI eJ eK eL eX dA eM eN eO dO dP dQ dR dS dU dV dW dX dB dZ).bind fun r2=>
 cond (!decide (r2=0)) (
 some (0,0,0,0,0,([]:List Int),([]:List aR),0,0,0,0,0,0,([]:List aN),0,0,0,0,0,0,0,0,0,0,0,0,([]:List aN),0,r2)) (
 (Ev N eA fY lV qS uG oD gM eW eI eJ eK eL eX dA eM eN eO dO dP dQ dR dS dU dV dW dX dB dZ).bind fun r3=>
 cond (!decide (r3=0)) (
 some (0,0,0,0,0,([]:List Int),([]:List aR),0,0,0,0,0,0,([]:List aN),0,0,0,0,0,0,0,0,0,0,0,0,([]:List aN),0,r3)) (
 (iL N C8 GJ LP (([]:List aN))).bind fun r4=>
 cond (!decide (r4.2.2.2=0)) (
 some uE) (
 cond (!decide (C8=eA)) (
 some uE) (
 cond (!decide (GJ=fY)) (
 some uE) (
 (qI N LP).bind fun r5=>
 (nn lV).bind fun _=>
 cond (decide (0<(jN .i64 r5 lV))) (
 some uE) (
 (zB N oD).bind fun r6=>
 (sG N dA).bind fun r7=>
 (rB N dB).bind fun r8=>
 (DC N eA fY lV qS uG oD gM eW eI eJ eK eL eX dA eM eN eO dO dP dQ dR dS dU dV dW dX dB dZ).bind fun r9=>
 E3 N lV qS oD C8 LP r9 (fun (TY,i2)=>
 some (eA,fY,lV,qS,uG,r6,TY,eW,eI,eJ,eK,eL,eX,r7,eM,eN,eO,dO,dP,dQ,dR,dS,dU,dV,dW,dX,r8,dZ,0)) N (([]:List aR),0)))))))
def B5 (N:Nat)  : Option aDa:=
 (Dg N ).bind fun r2=>
 (Bt N ).bind fun r3=>
 (Bu N ).bind fun r4=>
 (My N 2 2 16 7 1 r2 (([]:List aR)) r3.1 r3.2.1 r3.2.2.1 r3.2.2.2.1 r3.2.2.2.2.1 r3.2.2.2.2.2.1 r3.2.2.2.2.2.2.1 r3.2.2.2.2.2.2.2.1 r3.2.2.2.2.2.2.2.2.1 r3.2.2.2.2.2.2.2.2.2.1 r3.2.2.2.2.2.2.2.2.2.2.1 r3.2.2.2.2.2.2.2.2.2.2.2.1 r3.2.2.2.2.2.2.2.2.2.2.2.2.1 r3.2.2.2.2.2.2.2.2.2.2.2.2.2.1 r3.2.2.2.2.2.2.2.2.2.2.2.2.2.2.1 r3.2.2.2.2.2.2.2.2.2.2.2.2.2.2.2.1 r3.2.2.2.2.2.2.2.2.2.2.2.2.2.2.2.2.1 r3.2.2.2.2.2.2.2.2.2.2.2.2.2.2.2.2.2.1 r3.2.2.2.2.2.2.2.2.2.2.2.2.2.2.2.2.2.2.1 r3.2.2.2.2.2.2.2.2.2.2.2.2.2.2.2.2.2.2.2.1 r3.2.2.2.2.2.2.2.2.2.2.2.2.2.2.2.2.2.2.2.2 r4.1 r4.2.1 r4.2.2).bind fun r5=>
 some (r5.1,r5.2.1,r5.2.2.1,r5.2.2.2.1,r5.2.2.2.2.1,r5.2.2.2.2.2.1,r5.2.2.2.2.2.2.1,r5.2.2.2.2.2.2.2.1,r5.2.2.2.2.2.2.2.2.1,r5.2.2.2.2.2.2.2.2.2.1,r5.2.2.2.2.2.2.2.2.2.2.1,r5.2.2.2.2.2.2.2.2.2.2.2.1,r5.2.2.2.2.2.2.2.2.2.2.2.2.1,r5.2.2.2.2.2.2.2.2.2.2.2.2.2.1,r5.2.2.2.2.2.2.2.2.2.2.2.2.2.2.1,r5.2.2.2.2.2.2.2.2.2.2.2.2.2.2.2.1,r5.2.2.2.2.2.2.2.2.2.2.2.2.2.2.2.2.1,r5.2.2.2.2.2.2.2.2.2.2.2.2.2.2.2.2.2.1,r5.2.2.2.2.2.2.2.2.2.2.2.2.2.2.2.2.2.2.1,r5.2.2.2.2.2.2.2.2.2.2.2.2.2.2.2.2.2.2.2.1,r5.2.2.2.2.2.2.2.2.2.2.2.2.2.2.2.2.2.2.2.2.1,r5.2.2.2.2.2.2.2.2.2.2.2.2.2.2.2.2.2.2.2.2.2.1,r5.2.2.2.2.2.2.2.2.2.2.2.2.2.2.2.2.2.2.2.2.2.2.1,r5.2.2.2.2.2.2.2.2.2.2.2.2.2.2.2.2.2.2.2.2.2.2.2.1,r5.2.2.2.2.2.2.2.2.2.2.2.2.2.2.2.2.2.2.2.2.2.2.2.2.1,r5.2.2.2.2.2.2.2.2.2.2.2.2.2.2.2.2.2.2.2.2.2.2.2.2.2.1,r5.2.2.2.2.2.2.2.2.2.2.2.2.2.2.2.2.2.2.2.2.2.2.2.2.2.2.1,r5.2.2.2.2.2.2.2.2.2.2.2.2.2.2.2.2.2.2.2.2.2.2.2.2.2.2.2.1)
def Bv (N:Nat) (e2:Int) (kk:gL→Option (List Int)):Nat→gL→Option (List Int)
 | 0,_=>none
 | aA+1,(Du,i5)=>
  cond (decide (0≤i5)) (
  (nn (aC.wrap (8*i5))).bind fun _=>
  (app 1 Du (([iH.wrap (jN .i64 e2 (aC.wrap (8*i5)))]:List Int))).bind fun Q5=>
  (some (aC.wrap (i5-1))).bind fun i8=>
  Bv N e2 kk aA (Q5,i8)) (
  kk (Du,i5))
def Bw (N:Nat) (l2:List Int) (kk:gL→Option (List Int)):Nat→gL→Option (List Int)
 | 0,_=>none
 | aA+1,(Iw,i)=>
  cond (decide (i<(l2.length:Int))) (
  (idx l2 i).bind fun e2=>
  Bv N e2 (fun (TZ,EV)=>
  Bw N l2 kk aA (TZ,aC.wrap (i+1))) N (Iw,3)) (
  kk (Iw,i))
def gC (N:Nat) (YV l2:List Int):Option (List Int):=
 Bw N l2 (fun (Wx,i11)=>
 some Wx) N (YV,0)
def DJ (N:Nat) (YV:List Int) (s:aR):Option (List Int):=
 (gC N YV (([(s.length:Int)]:List Int))).bind fun r2=>
 (app 1 r2 (rT s)).bind fun Iw=>
 some Iw
def GV (N:Nat) (dB:List aN) (kk:gL→Option lC):Nat→gL→Option lC
 | 0,_=>none
 | aA+1,(Wy,i5)=>
  cond (decide (i5<(dB.length:Int))) (
  (idx dB i5).bind fun e6=>
  (gC N Wy ([e6.1,e6.2]:List Int)).bind fun Mr=>
  GV N dB kk aA (Mr,aC.wrap (i5+1))) (
  kk (Wy,i5))
def GW (N:Nat) (dA:List aN) (kk:gL→Option lC):Nat→gL→Option lC
 | 0,_=>none
 | aA+1,(Wz,i3)=>
  cond (decide (i3<(dA.length:Int))) (
  (idx dA i3).bind fun e4=>
  (gC N Wz ([e4.1,e4.2]:List Int)).bind fun B1=>
  GW N dA kk aA (B1,aC.wrap (i3+1))) (
  kk (Wz,i3))
def GX (N:Nat) (gM:List aR) (kk:gL→Option lC):Nat→gL→Option lC
 | 0,_=>none
 | aA+1,(x_b,i)=>
  cond (decide (i<(gM.length:Int))) (
  (idx gM i).bind fun e2=>
  (DJ N x_b e2).bind fun r8=>
  GX N gM kk aA (r8,aC.wrap (i+1))) (
  kk (x_b,i))
def KF (N:Nat) (eA fY lV qS uG:Int) (oD:List Int) (gM:List aR) (eW eI eJ eK eL eX:Int) (dA:List aN) (eM eN eO dO dP dQ dR dS dU dV dW dX:Int) (dB:List aN) (dZ:Int):Option lC:=
 (Be N eA fY lV qS uG oD gM eW eI eJ eK eL eX dA eM eN eO dO dP dQ dR dS dU dV dW dX dB dZ).bind fun r2=>
 cond (!decide (r2=0)) (
 some (([]:aR),r2)) (
 (DJ N ([]:List Int) ([100,97,114,107]:aR)).bind fun r3=>
 (gC N r3 (([eA,fY,lV,qS,uG,(oD.length:Int)]:List Int))).bind fun r4=>
 (gC N r4 oD).bind fun r5=>
 (gC N r5 (([(gM.length:Int)]:List Int))).bind fun r6=>
 GX N gM (fun (aMp,i2)=>
 (gC N aMp ([eW]:List Int)).bind fun r9=>
 (gC N r9 ([eI,eJ,eK,eL])).bind fun Cd=>
 (gC N Cd (([eX,(dA.length:Int)]:List Int))).bind fun Al=>
 GW N dA (fun (aMq,i4)=>
 (gC N aMq ([eM,eN,eO])).bind fun IX=>
 (gC N IX ([dO,dP,dQ,dR,dS,dU,dV,dW,dX])).bind fun J5=>
 (gC N J5 (([(dB.length:Int)]:List Int))).bind fun r16=>
 GV N dB (fun (aMr,i6)=>
 (gC N aMr ([dZ]:List Int)).bind fun TA=>
 some (toB TA,0)) N (r16,0)) N (Al,0)) N (r6,0))
def tJ (N:Nat) (a_P b_P:List bU) (kk:Int→Option Bool):Nat→Int→Option Bool
 | 0,_=>none
 | aA+1,i=>
  cond (decide (i<(a_P.length:Int))) (
  (idx a_P i).bind fun e3=>
  (idx b_P i).bind fun e4=>
  cond (!(decide (e3.1=e4.1)&&decide (e3.2.1=e4.2.1)&&decide (e3.2.2=e4.2.2))) (
  some false) (
  (some (aC.wrap (i+1))).bind fun i3=>
  tJ N a_P b_P kk aA i3)) (
  kk i)
def vK (N:Nat) (a_W a_H:Int) (a_P:List bU) (b_W b_H:Int) (b_P:List bU):Option Bool:=
 cond (!decide (a_W=b_W)) (
 some false) (
 cond (!decide (a_H=b_H)) (
 some false) (
 cond (!decide ((a_P.length:Int)=(b_P.length:Int))) (
 some false) (
 tJ N a_P b_P (fun i4=>
 some true) N 0)))
def uB (N:Nat)  : Option Bool:=
 (jS N 1 1 (([(258,1,65535)]:List bU)) true).bind fun r2=>
 (jS N 1 1 (([(258,1,65535)]:List bU)) false).bind fun r3=>
 (KC N r2.1).bind fun r4=>
 (B5 N ).bind fun r5=>
 (KF N r5.1 r5.2.1 r5.2.2.1 r5.2.2.2.1 r5.2.2.2.2.1 r5.2.2.2.2.2.1 r5.2.2.2.2.2.2.1 r5.2.2.2.2.2.2.2.1 r5.2.2.2.2.2.2.2.2.1 r5.2.2.2.2.2.2.2.2.2.1 r5.2.2.2.2.2.2.2.2.2.2.1 r5.2.2.2.2.2.2.2.2.2.2.2.1 r5.2.2.2.2.2.2.2.2.2.2.2.2.1 r5.2.2.2.2.2.2.2.2.2.2.2.2.2.1 r5.2.2.2.2.2.2.2.2.2.2.2.2.2.2.1 r5.2.2.2.2.2.2.2.2.2.2.2.2.2.2.2.1 r5.2.2.2.2.2.2.2.2.2.2.2.2.2.2.2.2.1 r5.2.2.2.2.2.2.2.2.2.2.2.2.2.2.2.2.2.1 r5.2.2.2.2.2.2.2.2.2.2.2.2.2.2.2.2.2.2.1 r5.2.2.2.2.2.2.2.2.2.2.2.2.2.2.2.2.2.2.2.1 r5.2.2.2.2.2.2.2.2.2.2.2.2.2.2.2.2.2.2.2.2.1 r5.2.2.2.2.2.2.2.2.2.2.2.2.2.2.2.2.2.2.2.2.2.1 r5.2.2.2.2.2.2.2.2.2.2.2.2.2.2.2.2.2.2.2.2.2.2.1 r5.2.2.2.2.2.2.2.2.2.2.2.2.2.2.2.2.2.2.2.2.2.2.2.1 r5.2.2.2.2.2.2.2.2.2.2.2.2.2.2.2.2.2.2.2.2.2.2.2.2.1 r5.2.2.2.2.2.2.2.2.2.2.2.2.2.2.2.2.2.2.2.2.2.2.2.2.2.1 r5.2.2.2.2.2.2.2.2.2.2.2.2.2.2.2.2.2.2.2.2.2.2.2.2.2.2.1 r5.2.2.2.2.2.2.2.2.2.2.2.2.2.2.2.2.2.2.2.2.2.2.2.2.2.2.2).bind fun r6=>
 (uK N r6.1 1 0 0 0 0 1 false).bind fun r7=>
 cond (decide (r2.2=0)) (
 cond (decide (r3.2=0)) (
 cond (decide (r4.2.2.2.2=0)) (
 cond (decide (r6.2=0)) (
 cond (decide (r7.2=0)) (
 cond (decide (r2.1=([80,54,10,49,32,49,10,54,53,53,51,53,10,1,2,0,1,255,255]:aR))) (
 cond (decide (r3.1=([80,54,10,49,32,49,10,50,53,53,10,1,0,255]:aR))) (
 cond (r4.2.2.2.1) (
 (vK N r4.1 r4.2.1 r4.2.2.1 1 1 (([(258,1,65535)]:List bU))).bind fun r8=>
 cond (r8) (
 some (decide ((r7.1.length:Int)=23))) (
 some false)) (
 some false)) (
 some false)) (
 some false)) (
 some false)) (
 some false)) (
 some false)) (
 some false)) (
 some false)
def sE (N:Nat) (s:aR) (Ia CL CM CN CO ED:Int) (GP:Bool):Option Bool:=
 (uK N s Ia CL CM CN CO ED GP).bind fun r2=>
 (lQ N s Ia CL CM CN CO ED GP).bind fun r3=>
 (uB N ).bind fun r4=>
 cond (r4) (
 cond (decide (r2.1=r3.1)) (
 some (decide (r2.2=r3.2))) (
 some false)) (
 some false)
end
end Go.Proofs.YtpmnfhifmmfgladGreatDoor
