/- Texts of the claim RestPictures, joined and made small by a program. -/
import Derived.Test.YtpmnfhifmmfglacGreatDoorRestPicturesK3
import Derived.Test.YtpmnfhifmmfglacGreatDoorRestPicturesK4
set_option linter.unusedVariables false
set_option linter.unusedSimpArgs false
set_option linter.unusedSectionVars false
set_option maxRecDepth 100000
set_option maxHeartbeats 8000000
namespace Go.Proofs.YtpmnfhifmmfglacGreatDoor
section
def Fo (N:Nat) (n v0 v1:Int):Option Bool:=
 cond (decide (n<v0)) (
 some true) (
 some (decide (v1<n)))
def eH (N:Nat) (s:List Int) (Dw Dx:Int) (kk:Int→Option Int):Nat→Int→Option Int
 | 0,_=>none
 | fuel+1,i=>
  cond (decide (i<(s.length:Int))) (
  (idx s i).bind fun e2=>
  (Fo N e2 Dw Dx).bind fun r3=>
  cond (r3) (
  some i) (
  eH N s Dw Dx kk fuel (IntKind.i64.wrap (i+1)))) (
  kk i)
def jS (N:Nat) (s:List Int) (Dw Dx:Int):Option Int:=
 eH N s Dw Dx (fun i2=>
 some ((-1))) N 0
def iZ (N:Nat) (s:List Int) (Dw Dx:Int):Option Bool:=
 (jS N s Dw Dx).bind fun r2=>
 some (decide (0≤r2))
def pK (N:Nat) (low high:Int) (l2:List Int):Option Bool:=
 (iZ N l2 low high).bind fun r2=>
 some (!(r2))
def yN (N:Nat) (Xu Xv v0 v1:Int):Option Bool:=
 (pK N 0 (IntKind.i64.wrap (v0-1)) ([Xu]:List Int)).bind fun r2=>
 cond (!(r2)) (
 some true) (
 (pK N 0 (IntKind.i64.wrap (v1-1)) ([Xv]:List Int)).bind fun r3=>
 some (!(r3)))
def bP (N:Nat) (s:List (Int × Int)) (uK uL:Int) (kk:Int→Option Int):Nat→Int→Option Int
 | 0,_=>none
 | fuel+1,i=>
  cond (decide (i<(s.length:Int))) (
  (idx s i).bind fun e2=>
  (yN N e2.1 e2.2 uK uL).bind fun r3=>
  cond (r3) (
  some i) (
  bP N s uK uL kk fuel (IntKind.i64.wrap (i+1)))) (
  kk i)
def fG (N:Nat) (s:List (Int × Int)) (uK uL:Int):Option Int:=
 bP N s uK uL (fun i2=>
 some ((-1))) N 0
def eN (N:Nat) (s:List (Int × Int)) (uK uL:Int):Option Bool:=
 (fG N s uK uL).bind fun r2=>
 some (decide (0≤r2))
def zO (N:Nat) (l2:List (Int × Int)) (w2 h2:Int):Option Bool:=
 (eN N l2 w2 h2).bind fun r2=>
 some (!(r2))
def uM (N:Nat) (d l2:List (Int × Int)) (kk:Int→Option Bool):Nat→Int→Option Bool
 | 0,_=>none
 | fuel+1,i=>
  cond (decide (i<(l2.length:Int))) (
  (idx d i).bind fun e9=>
  (idx d (IntKind.i64.wrap (i+1))).bind fun e10=>
  cond (decide (e10.1≤e9.1)) (
  some false) (
  (idx d i).bind fun e11=>
  (idx d (IntKind.i64.wrap (i+1))).bind fun e12=>
  cond (decide (e12.2<e11.2)) (
  some false) (
  uM N d l2 kk fuel (IntKind.i64.wrap (i+1))))) (
  kk i)
def kE (N:Nat) (d:List (Int × Int)):Option Bool:=
 cond (decide ((d.length:Int)<2)) (
 some false) (
 cond (decide (16<(d.length:Int))) (
 some false) (
 (idx d 0).bind fun e=>
 cond (!decide (e.1=0)) (
 some false) (
 (idx d (IntKind.i64.wrap ((d.length:Int)-1))).bind fun e2=>
 cond (!decide (e2.1=65535)) (
 some false) (
 (idx d 0).bind fun e3=>
 cond (decide (e3.2<0)) (
 some false) (
 (idx d (IntKind.i64.wrap ((d.length:Int)-1))).bind fun e4=>
 cond (decide (65535<e4.2)) (
 some false) (
 (Tz d 1 (d.length:Int)).bind fun l2=>
 uM N d l2 (fun i2=>
 some true) N 0))))))
def Fp (N:Nat) (i:Int) (v0:List (Int × Int)) (v1:Int):Option Bool:=
 (idx v0 i).bind fun e=>
 some (decide (v1<e.1))
def eS (N:Nat) (FP:List (Int × Int)) (Ib:Int) (kk:(Int × Int)→Option Int):Nat→(Int × Int)→Option Int
 | 0,_=>none
 | fuel+1,(i,j)=>
  cond (decide (i<j)) (
  (some (IntKind.i64.wrap (rL .u64 (IntKind.u64.wrap (IntKind.i64.wrap (i+j))) 1))).bind fun h3=>
  (Fp N h3 FP Ib).bind fun r3=>
  cond (!(r3)) (
  (some (IntKind.i64.wrap (h3+1))).bind fun i3=>
  eS N FP Ib kk fuel (i3,j)) (
  eS N FP Ib kk fuel (i,h3))) (
  kk (i,j))
def rV (N:Nat) (n:Int) (FP:List (Int × Int)) (Ib:Int):Option Int:=
 eS N FP Ib (fun (i4,j2)=>
 some i4) N (0,n)
def vW (N:Nat) (l2:List (Int × Int)) (x2:Int):Option Int:=
 (rV N (l2.length:Int) l2 x2).bind fun r2=>
 cond (decide (r2=(l2.length:Int))) (
 (idx l2 (IntKind.i64.wrap (r2-1))).bind fun e=>
 some e.2) (
 (idx l2 (IntKind.i64.wrap (r2-1))).bind fun e2=>
 (idx l2 r2).bind fun e3=>
 (nz (IntKind.i64.wrap (e3.1-e2.1))).bind fun _=>
 (some (IntKind.i64.wrap (e2.2+(IntKind.i64.wrap (Int.tdiv (IntKind.i64.wrap ((IntKind.i64.wrap (e3.2-e2.2))*(IntKind.i64.wrap (x2-e2.1)))) (IntKind.i64.wrap (e3.1-e2.1))))))).bind fun x3=>
 some x3)
def BO (N:Nat) (l2:List (Int × Int)) (x2:Int):Option (Int × Int):=
 (kE N l2).bind fun r2=>
 cond (!(r2)) (
 some (0,1)) (
 cond (decide (x2<0)) (
 some (0,3)) (
 cond (decide (65535<x2)) (
 some (0,3)) (
 (vW N l2 x2).bind fun r3=>
 some (r3,0))))
def rW (N:Nat) (na nb0 qM qN qO nc:Int) (nd:List (Int × Int)) (qP ne1 qT qU qV qX qY qZ q5 q6 q7 nf8:Int) (ng:List (Int × Int)) (nh:Int):Option Int:=
 (pK N 0 3 ([na]:List Int)).bind fun r2=>
 cond (!(r2)) (
 some 3) (
 (pK N 1 65535 ([nc]:List Int)).bind fun r3=>
 cond (!(r3)) (
 some 3) (
 (pK N 0 (IntKind.i64.wrap (nc-1)) ([nb0,qM,qN,qO])).bind fun r4=>
 cond (!(r4)) (
 some 3) (
 cond (decide (64<(nd.length:Int))) (
 some 3) (
 (zO N nd 64 64).bind fun r5=>
 cond (!(r5)) (
 some 3) (
 (pK N 0 65535 ([qP,ne1,qT])).bind fun r6=>
 cond (!(r6)) (
 some 3) (
 (pK N (-32768) 32768 ([qU,qV,qX,qY,qZ,q5,q6,q7,nf8])).bind fun r7=>
 cond (!(r7)) (
 some 3) (
 (pK N 0 1024 ([nh]:List Int)).bind fun r8=>
 cond (!(r8)) (
 some 3) (
 (BO N ng 0).bind fun r9=>
 some r9.2))))))))
def sE (N:Nat) (nd:List (Int × Int)) (top rows:Int) (kk:(List (Int × Int) × Int)→Option (Int × Int × Int × Int × Int × Int × List (Int × Int) × Int × Int × Int × Int × Int × Int × Int × Int × Int × Int × Int × Int × List (Int × Int) × Int)):Nat→(List (Int × Int) × Int)→Option (Int × Int × Int × Int × Int × Int × List (Int × Int) × Int × Int × Int × Int × Int × Int × Int × Int × Int × Int × Int × Int × List (Int × Int) × Int)
 | 0,_=>none
 | fuel+1,(l3,i)=>
  cond (decide (i<(nd.length:Int))) (
  (idx nd i).bind fun e3=>
  cond (decide (top≤e3.2)) (
  cond (decide (e3.2<(IntKind.i64.wrap (top+rows)))) (
  (app 16 l3 (([(e3.1,IntKind.i64.wrap (e3.2-top))]:List (Int × Int)))).bind fun l5=>
  sE N nd top rows kk fuel (l5,IntKind.i64.wrap (i+1))) (
  sE N nd top rows kk fuel (l3,IntKind.i64.wrap (i+1)))) (
  sE N nd top rows kk fuel (l3,IntKind.i64.wrap (i+1)))) (
  kk (l3,i))
def sF (N:Nat) (nd:List (Int × Int)) (top rows:Int) (kk:(List (Int × Int) × Int)→Option (Int × Int × Int × Int × Int × Int × List (Int × Int) × Int × Int × Int × Int × Int × Int × Int × Int × Int × Int × Int × Int × List (Int × Int) × Int)):Nat→(List (Int × Int) × Int)→Option (Int × Int × Int × Int × Int × Int × List (Int × Int) × Int × Int × Int × Int × Int × Int × Int × Int × Int × Int × Int × Int × List (Int × Int) × Int)
 | 0,_=>none
 | fuel+1,(l8,i3)=>
  cond (decide (i3<(nd.length:Int))) (
  (idx nd i3).bind fun e6=>
  cond (decide (top≤e6.2)) (
  cond (decide (e6.2<(IntKind.i64.wrap (top+rows)))) (
  (app 16 l8 (([(e6.1,IntKind.i64.wrap (e6.2-top))]:List (Int × Int)))).bind fun l10=>
  sF N nd top rows kk fuel (l10,IntKind.i64.wrap (i3+1))) (
  sF N nd top rows kk fuel (l8,IntKind.i64.wrap (i3+1)))) (
  sF N nd top rows kk fuel (l8,IntKind.i64.wrap (i3+1)))) (
  kk (l8,i3))
def Dh (N:Nat) (na nb0 qM qN qO nc:Int) (nd:List (Int × Int)) (qP ne1 qT qU qV qX qY qZ q5 q6 q7 nf8:Int) (ng:List (Int × Int)) (nh top rows:Int):Option (Int × Int × Int × Int × Int × Int × List (Int × Int) × Int × Int × Int × Int × Int × Int × Int × Int × Int × Int × Int × Int × List (Int × Int) × Int):=
 cond (decide ((Int.tmod top 2)=1)) (
 sE N nd top rows (fun (l6,i2)=>
 some (P4 .i64 na 2,qN,qO,nb0,qM,nc,l6,qP,ne1,qT,qU,qV,qX,qY,qZ,q5,q6,q7,nf8,ng,nh)) N (([]:List (Int × Int)),0)) (
 sF N nd top rows (fun (Xw,i4)=>
 some (na,nb0,qM,qN,qO,nc,Xw,qP,ne1,qT,qU,qV,qX,qY,qZ,q5,q6,q7,nf8,ng,nh)) N (([]:List (Int × Int)),0))
def tO (N:Nat) (eI:List Int) (kk:Int→Option Bool):Nat→Int→Option Bool
 | 0,_=>none
 | fuel+1,i=>
  cond (decide (i<(eI.length:Int))) (
  (idx eI i).bind fun e2=>
  cond (decide (e2<0)) (
  some false) (
  cond (decide (65535<e2)) (
  some false) (
  tO N eI kk fuel (IntKind.i64.wrap (i+1))))) (
  kk i)
def xI (N:Nat) (gD jA:Int) (eI:List Int):Option Bool:=
 cond (decide (gD<1)) (
 some false) (
 cond (decide (64<gD)) (
 some false) (
 cond (decide (jA<1)) (
 some false) (
 cond (decide (64<jA)) (
 some false) (
 cond (!decide ((eI.length:Int)=(IntKind.i64.wrap (gD*jA)))) (
 some false) (
 tO N eI (fun i2=>
 some true) N 0)))))
def vX (N:Nat) (n x2 y Tl Tm Tn Ya v1:Int):Option Int:=
 (inr (Ty .i64 (wN .i64 (Eg .i64 y 1) 1) (Eg .i64 x2 1)) 4).bind fun _=>
 (idx [Tl,Tm,Tn,Ya] (Ty .i64 (wN .i64 (Eg .i64 y 1) 1) (Eg .i64 x2 1))).bind fun e=>
 (nz (IntKind.i64.wrap (v1-e))).bind fun _=>
 some (IntKind.i64.wrap (Int.tdiv (IntKind.i64.wrap ((max (IntKind.i64.wrap (n-e)) 0)*65535)) (IntKind.i64.wrap (v1-e))))
def fH (N:Nat) (gD:Int) (eI:List Int) (AV AW AX AY CD:Int) (kk:(List Int × Int)→Option (Int × Int × List Int)):Nat→(List Int × Int)→Option (Int × Int × List Int)
 | 0,_=>none
 | fuel+1,(bO,i)=>
  cond (decide (i<(eI.length:Int))) (
  (idx eI i).bind fun e3=>
  (nz gD).bind fun _=>
  (nz gD).bind fun _=>
  (vX N e3 (Int.tmod i gD) (IntKind.i64.wrap (Int.tdiv i gD)) AV AW AX AY CD).bind fun r3=>
  (idx bO i).bind fun e4=>
  (yK bO i (min r3 65535)).bind fun l4=>
  fH N gD eI AV AW AX AY CD kk fuel (l4,IntKind.i64.wrap (i+1))) (
  kk (bO,i))
def oM (N:Nat) (gD jA:Int) (eI:List Int) (AV AW AX AY CD:Int):Option (Int × Int × List Int):=
 (some ((eI.length:Int))).bind fun x2=>
 (mk 8 x2 (0:Int)).bind fun l2=>
 fH N gD eI AV AW AX AY CD (fun (sG,i2)=>
 some (gD,jA,sG)) N (l2,0)
def mO (N:Nat) (tA tB tD tE white:Int) (kk:Int→Option (Int × Int × List Int × Int)):Nat→Int→Option (Int × Int × List Int × Int)
 | 0,_=>none
 | fuel+1,i=>
  cond (decide (i<4)) (
  (idx [tA,tB,tD,tE] i).bind fun e2=>
  cond (decide (e2<0)) (
  some (0,0,([]:List Int),3)) (
  cond (decide (white≤e2)) (
  some (0,0,([]:List Int),3)) (
  cond (decide (65535<white)) (
  some (0,0,([]:List Int),3)) (
  mO N tA tB tD tE white kk fuel (IntKind.i64.wrap (i+1)))))) (
  kk i)
def vY (N:Nat) (gD jA:Int) (eI:List Int) (tA tB tD tE white:Int):Option (Int × Int × List Int × Int):=
 (xI N gD jA eI).bind fun r2=>
 cond (!(r2)) (
 some (0,0,([]:List Int),1)) (
 mO N tA tB tD tE white (fun i2=>
 (oM N gD jA eI tA tB tD tE white).bind fun r3=>
 some (r3.1,r3.2.1,r3.2.2,0)) N 0)
def yD (N:Nat) (J5 Ce Cf Cg Ch Lb:Int) (snd:List (Int × Int)) (Ci Cj Ck Cl Cm Cn Co Cp Cq Cr Cs Cu:Int) (F8:List (Int × Int)) (Lc gD jA:Int) (eI:List Int) (eA hU:Int) (eJ:List (Int × Int × Int)):Option (Int × Int × List Int × Int × Int × List (Int × Int × Int) × Int):=
 (vY N gD jA eI Ce Cf Cg Ch Lb).bind fun r2=>
 some (r2.1,r2.2.1,r2.2.2.1,eA,hU,eJ,r2.2.2.2)
def wP (N:Nat) (J5 Ce Cf Cg Ch Lb:Int) (snd:List (Int × Int)) (Ci Cj Ck Cl Cm Cn Co Cp Cq Cr Cs Cu:Int) (F8:List (Int × Int)) (Lc gD jA:Int) (eI:List Int) (eA hU:Int) (eJ:List (Int × Int × Int)):Option (Int × Int × List Int × Int × Int × List (Int × Int × Int) × Int):=
 (gJ N gD jA eI snd).bind fun r2=>
 some (r2.1,r2.2.1,r2.2.2.1,eA,hU,eJ,r2.2.2.2)
def sR (N:Nat) (phase x2 y:Int):Option Int:=
 some (IntKind.i64.wrap ((Eg .i64 (IntKind.i64.wrap (x2+phase)) 1)+(Eg .i64 (IntKind.i64.wrap (y+(rL .i64 phase 1))) 1)))
def w9 (N:Nat) (n x2 y Tl Tm Tn v1:Int):Option Int:=
 (sR N v1 x2 y).bind fun r2=>
 (inr r2 3).bind fun _=>
 (idx [Tl,Tm,Tn] r2).bind fun e=>
 some (rL .i64 (IntKind.i64.wrap (n*e)) 8)
def fZ (N:Nat) (gD:Int) (eI:List Int) (CE CF CG Ew:Int) (kk:(List Int × Int)→Option (Int × Int × List Int)):Nat→(List Int × Int)→Option (Int × Int × List Int)
 | 0,_=>none
 | fuel+1,(bO,i)=>
  cond (decide (i<(eI.length:Int))) (
  (idx eI i).bind fun e3=>
  (nz gD).bind fun _=>
  (nz gD).bind fun _=>
  (w9 N e3 (Int.tmod i gD) (IntKind.i64.wrap (Int.tdiv i gD)) CE CF CG Ew).bind fun r3=>
  (idx bO i).bind fun e4=>
  (yK bO i (min r3 65535)).bind fun l4=>
  fZ N gD eI CE CF CG Ew kk fuel (l4,IntKind.i64.wrap (i+1))) (
  kk (bO,i))
def pE (N:Nat) (gD jA:Int) (eI:List Int) (CE CF CG Ew:Int):Option (Int × Int × List Int):=
 (some ((eI.length:Int))).bind fun x2=>
 (mk 8 x2 (0:Int)).bind fun l2=>
 fZ N gD eI CE CF CG Ew (fun (sG,i2)=>
 some (gD,jA,sG)) N (l2,0)
def nZ (N:Nat) (phase vZ v6 v7:Int) (kk:Int→Option (Int × Int × List Int × Int)):Nat→Int→Option (Int × Int × List Int × Int)
 | 0,_=>none
 | fuel+1,i=>
  cond (decide (i<3)) (
  (idx [vZ,v6,v7] i).bind fun e2=>
  cond (decide (e2<0)) (
  some (0,0,([]:List Int),3)) (
  cond (decide (65535<e2)) (
  some (0,0,([]:List Int),3)) (
  cond (decide (phase<0)) (
  some (0,0,([]:List Int),3)) (
  cond (decide (3<phase)) (
  some (0,0,([]:List Int),3)) (
  nZ N phase vZ v6 v7 kk fuel (IntKind.i64.wrap (i+1))))))) (
  kk i)
def xJ (N:Nat) (gD jA:Int) (eI:List Int) (phase vZ v6 v7:Int):Option (Int × Int × List Int × Int):=
 (xI N gD jA eI).bind fun r2=>
 cond (!(r2)) (
 some (0,0,([]:List Int),1)) (
 nZ N phase vZ v6 v7 (fun i2=>
 (pE N gD jA eI vZ v6 v7 phase).bind fun r3=>
 some (r3.1,r3.2.1,r3.2.2,0)) N 0)
def zP (N:Nat) (J5 Ce Cf Cg Ch Lb:Int) (snd:List (Int × Int)) (Ci Cj Ck Cl Cm Cn Co Cp Cq Cr Cs Cu:Int) (F8:List (Int × Int)) (Lc gD jA:Int) (eI:List Int) (eA hU:Int) (eJ:List (Int × Int × Int)):Option (Int × Int × List Int × Int × Int × List (Int × Int × Int) × Int):=
 (xJ N gD jA eI J5 Ci Cj Ck).bind fun r2=>
 some (r2.1,r2.2.1,r2.2.2.1,eA,hU,eJ,r2.2.2.2)
def pG (N:Nat) (phase x2 y:Int):Option (Int × Int):=
 cond (decide (phase<0)) (
 some (0,3)) (
 cond (decide (3<phase)) (
 some (0,3)) (
 cond (decide (x2<0)) (
 some (0,3)) (
 cond (decide (y<0)) (
 some (0,3)) (
 (sR N phase (Eg .i64 x2 1) (Eg .i64 y 1)).bind fun r2=>
 some (r2,0)))))
def pL (N:Nat) (dM:Int) (gI:List Int) (o u v Ex Ey Ez IW IX IY:Int):Option (Int × Int × Int × Int × Int × Int):=
 (pG N o u v).bind fun r3=>
 cond (decide (r3.1=0)) (
 (idx gI (IntKind.i64.wrap ((IntKind.i64.wrap (v*dM))+u))).bind fun e4=>
 cond (decide (r3.1=0)) (
 some (IntKind.i64.wrap (Ex+1),Ey,Ez,IntKind.i64.wrap (IW+e4),IX,IY)) (
 cond (decide (r3.1=1)) (
 some (Ex,IntKind.i64.wrap (Ey+1),Ez,IntKind.i64.wrap (IW+e4),IX,IY)) (
 some (Ex,Ey,IntKind.i64.wrap (Ez+1),IntKind.i64.wrap (IW+e4),IX,IY)))) (
 cond (decide (r3.1=1)) (
 (idx gI (IntKind.i64.wrap ((IntKind.i64.wrap (v*dM))+u))).bind fun e5=>
 cond (decide (r3.1=0)) (
 some (IntKind.i64.wrap (Ex+1),Ey,Ez,IW,IntKind.i64.wrap (IX+e5),IY)) (
 cond (decide (r3.1=1)) (
 some (Ex,IntKind.i64.wrap (Ey+1),Ez,IW,IntKind.i64.wrap (IX+e5),IY)) (
 some (Ex,Ey,IntKind.i64.wrap (Ez+1),IW,IntKind.i64.wrap (IX+e5),IY)))) (
 (idx gI (IntKind.i64.wrap ((IntKind.i64.wrap (v*dM))+u))).bind fun e6=>
 cond (decide (r3.1=0)) (
 some (IntKind.i64.wrap (Ex+1),Ey,Ez,IW,IX,IntKind.i64.wrap (IY+e6))) (
 cond (decide (r3.1=1)) (
 some (Ex,IntKind.i64.wrap (Ey+1),Ez,IW,IX,IntKind.i64.wrap (IY+e6))) (
 some (Ex,Ey,IntKind.i64.wrap (Ez+1),IW,IX,IntKind.i64.wrap (IY+e6))))))
def fJ (N:Nat) (dM:Int) (gI:List Int) (o:Int) (s:Int × Int × Int × Int × Int × Int) (q:Int × Int):Int × Int × Int × Int × Int × Int:=(pL N dM gI o q.1 q.2 s.1 s.2.1 s.2.2.1 s.2.2.2.1 s.2.2.2.2.1 s.2.2.2.2.2).getD s
theorem kF {W H:Int} (N:Nat) (dM:Int) (gI:List Int) (o:Int) (pre:List (InP W H)) (q:InP W H) {s r:Int × Int × Int × Int × Int × Int} (hs:List.foldl (fJ N dM gI o) (0,0,0,0,0,0) (pre.map (·.1))=s) (hr:pL N dM gI o q.1.1 q.1.2 s.1 s.2.1 s.2.2.1 s.2.2.2.1 s.2.2.2.2.1 s.2.2.2.2.2=some r):List.foldl (fJ N dM gI o) (0,0,0,0,0,0) ((pre++[q]).map (·.1))=r:=by
 rw [List.map_append,List.foldl_append,hs];show (pL N dM gI o q.1.1 q.1.2 s.1 s.2.1 s.2.2.1 s.2.2.2.1 s.2.2.2.2.1 s.2.2.2.2.2).getD s=r;rw [hr];rfl
def bY (N:Nat) (Ex Ey Ez:Int) (kk:(Int × Int × Int × Int)→Option (Int × Int × Int)):Nat→(Int × Int × Int × Int)→Option (Int × Int × Int)
 | 0,_=>none
 | fuel+1,(xR,xS,xT,i)=>
  cond (decide (i<3)) (
  cond (decide (i=0)) (
  cond (decide (0<Ex)) (
  cond (decide (i=0)) (
  (nz Ex).bind fun _=>
  bY N Ex Ey Ez kk fuel (IntKind.i64.wrap (Int.tdiv xR Ex),xS,xT,IntKind.i64.wrap (i+1))) (
  cond (decide (i=1)) (
  (nz Ex).bind fun _=>
  bY N Ex Ey Ez kk fuel (xR,IntKind.i64.wrap (Int.tdiv xS Ex),xT,IntKind.i64.wrap (i+1))) (
  (nz Ex).bind fun _=>
  bY N Ex Ey Ez kk fuel (xR,xS,IntKind.i64.wrap (Int.tdiv xT Ex),IntKind.i64.wrap (i+1))))) (
  bY N Ex Ey Ez kk fuel (xR,xS,xT,IntKind.i64.wrap (i+1)))) (
  cond (decide (i=1)) (
  cond (decide (0<Ey)) (
  cond (decide (i=0)) (
  (nz Ey).bind fun _=>
  bY N Ex Ey Ez kk fuel (IntKind.i64.wrap (Int.tdiv xR Ey),xS,xT,IntKind.i64.wrap (i+1))) (
  cond (decide (i=1)) (
  (nz Ey).bind fun _=>
  bY N Ex Ey Ez kk fuel (xR,IntKind.i64.wrap (Int.tdiv xS Ey),xT,IntKind.i64.wrap (i+1))) (
  (nz Ey).bind fun _=>
  bY N Ex Ey Ez kk fuel (xR,xS,IntKind.i64.wrap (Int.tdiv xT Ey),IntKind.i64.wrap (i+1))))) (
  bY N Ex Ey Ez kk fuel (xR,xS,xT,IntKind.i64.wrap (i+1)))) (
  cond (decide (0<Ez)) (
  cond (decide (i=0)) (
  (nz Ez).bind fun _=>
  bY N Ex Ey Ez kk fuel (IntKind.i64.wrap (Int.tdiv xR Ez),xS,xT,IntKind.i64.wrap (i+1))) (
  cond (decide (i=1)) (
  (nz Ez).bind fun _=>
  bY N Ex Ey Ez kk fuel (xR,IntKind.i64.wrap (Int.tdiv xS Ez),xT,IntKind.i64.wrap (i+1))) (
  (nz Ez).bind fun _=>
  bY N Ex Ey Ez kk fuel (xR,xS,IntKind.i64.wrap (Int.tdiv xT Ez),IntKind.i64.wrap (i+1))))) (
  bY N Ex Ey Ez kk fuel (xR,xS,xT,IntKind.i64.wrap (i+1)))))) (
  kk (xR,xS,xT,i))
def CH (N:Nat) (dM:Int) (gI:List Int) (o p2 p3:Int):Int × Int × Int × Int × Int × Int→Option (Int × Int × Int)
 | (Ex,Ey,Ez,IW,IX,IY)=>
  bY N Ex Ey Ez (fun (P8,P9,Qa,i2)=>
  (pG N o p2 p3).bind fun r4=>
  cond (decide (r4.1=0)) (
  (idx gI (IntKind.i64.wrap ((IntKind.i64.wrap (p3*dM))+p2))).bind fun e7=>
  some (e7,P9,Qa)) (
  cond (decide (r4.1=1)) (
  (idx gI (IntKind.i64.wrap ((IntKind.i64.wrap (p3*dM))+p2))).bind fun e8=>
  some (P8,e8,Qa)) (
  (idx gI (IntKind.i64.wrap ((IntKind.i64.wrap (p3*dM))+p2))).bind fun e9=>
  some (P8,P9,e9)))) N (IW,IX,IY,0)
def yO (N:Nat) (dM fN:Int) (gI:List Int) (o p2 p3:Int):Option (Int × Int × Int):=
 cond (decide (RK dM fN gI p2 p3)) (CH N dM gI o p2 p3 (List.foldl (fJ N dM gI o) (0,0,0,0,0,0) (lG dM fN p2 p3))) none
def tP (N:Nat) (gD jA:Int) (eI:List Int) (phase i:Int) (kk:(List (Int × Int × Int) × Int)→Option (Int × Int × List (Int × Int × Int) × Int)):Nat→(List (Int × Int × Int) × Int)→Option (Int × Int × List (Int × Int × Int) × Int)
 | 0,_=>none
 | fuel+1,(oA,i3)=>
  cond (decide (i3<gD)) (
  (yO N gD jA eI phase i3 i).bind fun r5=>
  (app 24 oA (([(r5.1,r5.2.1,r5.2.2)]:List (Int × Int × Int)))).bind fun EA=>
  tP N gD jA eI phase i kk fuel (EA,IntKind.i64.wrap (i3+1))) (
  kk (oA,i3))
def rM (N:Nat) (gD jA:Int) (eI:List Int) (phase:Int) (kk:(List (Int × Int × Int) × Int)→Option (Int × Int × List (Int × Int × Int) × Int)):Nat→(List (Int × Int × Int) × Int)→Option (Int × Int × List (Int × Int × Int) × Int)
 | 0,_=>none
 | fuel+1,(bO,i)=>
  cond (decide (i<jA)) (
  tP N gD jA eI phase i (fun (EB,i4)=>
  rM N gD jA eI phase kk fuel (EB,IntKind.i64.wrap (i+1))) N (bO,0)) (
  kk (bO,i))
def u6 (N:Nat) (gD jA:Int) (eI:List Int) (phase:Int):Option (Int × Int × List (Int × Int × Int) × Int):=
 (gJ N gD jA eI (([]:List (Int × Int)))).bind fun r2=>
 cond (!decide (r2.2.2.2=0)) (
 some (0,0,([]:List (Int × Int × Int)),r2.2.2.2)) (
 cond (decide (phase<0)) (
 some (0,0,([]:List (Int × Int × Int)),3)) (
 cond (decide (3<phase)) (
 some (0,0,([]:List (Int × Int × Int)),3)) (
 rM N gD jA eI phase (fun (FQ,i5)=>
 some (gD,jA,FQ,0)) N (([]:List (Int × Int × Int)),0))))
def zQ (N:Nat) (J5 Ce Cf Cg Ch Lb:Int) (snd:List (Int × Int)) (Ci Cj Ck Cl Cm Cn Co Cp Cq Cr Cs Cu:Int) (F8:List (Int × Int)) (Lc gD jA:Int) (eI:List Int) (eA hU:Int) (eJ:List (Int × Int × Int)):Option (Int × Int × List Int × Int × Int × List (Int × Int × Int) × Int):=
 (u6 N gD jA eI J5).bind fun r2=>
 some (gD,jA,eI,r2.1,r2.2.1,r2.2.2.1,r2.2.2.2)
def tQ (N:Nat) (eJ:List (Int × Int × Int)) (kk:Int→Option Bool):Nat→Int→Option Bool
 | 0,_=>none
 | fuel+1,i=>
  cond (decide (i<(eJ.length:Int))) (
  (idx eJ i).bind fun e2=>
  cond (decide ((min (min e2.1 e2.2.1) e2.2.2)<0)) (
  some false) (
  cond (decide (65535<(max (max e2.1 e2.2.1) e2.2.2))) (
  some false) (
  tQ N eJ kk fuel (IntKind.i64.wrap (i+1))))) (
  kk i)
def Ar (N:Nat) (eA hU:Int) (eJ:List (Int × Int × Int)):Option Bool:=
 cond (decide (eA<1)) (
 some false) (
 cond (decide (64<eA)) (
 some false) (
 cond (decide (hU<1)) (
 some false) (
 cond (decide (64<hU)) (
 some false) (
 cond (!decide ((eJ.length:Int)=(IntKind.i64.wrap (eA*hU)))) (
 some false) (
 tQ N eJ (fun i2=>
 some true) N 0)))))
def oB (N:Nat) (eA:Int) (eJ:List (Int × Int × Int)) (phase:Int) (kk:(List Int × Int)→Option (Int × Int × List Int × Int)):Nat→(List Int × Int)→Option (Int × Int × List Int × Int)
 | 0,_=>none
 | fuel+1,(bO,i)=>
  cond (decide (i<(eJ.length:Int))) (
  (nz eA).bind fun _=>
  (nz eA).bind fun _=>
  (pG N phase (Int.tmod i eA) (IntKind.i64.wrap (Int.tdiv i eA))).bind fun r4=>
  (idx eJ i).bind fun e2=>
  cond (decide (r4.1=0)) (
  (app 8 bO ([e2.1]:List Int)).bind fun TD=>
  oB N eA eJ phase kk fuel (TD,IntKind.i64.wrap (i+1))) (
  cond (decide (r4.1=1)) (
  (app 8 bO ([e2.2.1]:List Int)).bind fun EA=>
  oB N eA eJ phase kk fuel (EA,IntKind.i64.wrap (i+1))) (
  (app 8 bO ([e2.2.2]:List Int)).bind fun EB=>
  oB N eA eJ phase kk fuel (EB,IntKind.i64.wrap (i+1))))) (
  kk (bO,i))
def rX (N:Nat) (eA hU:Int) (eJ:List (Int × Int × Int)) (phase:Int):Option (Int × Int × List Int × Int):=
 (Ar N eA hU eJ).bind fun r2=>
 cond (!(r2)) (
 some (0,0,([]:List Int),1)) (
 cond (decide (phase<0)) (
 some (0,0,([]:List Int),3)) (
 cond (decide (3<phase)) (
 some (0,0,([]:List Int),3)) (
 oB N eA eJ phase (fun (FQ,i2)=>
 some (eA,hU,FQ,0)) N (([]:List Int),0))))
def Eh (N:Nat) (n:Int):Option Int:=
 some (max 0 (min n 65535))
def BP (N:Nat) (L2 L3 L4 k Tl Tm Tn Ya v04 v05 v06 v07 v08:Int):Option Int:=
 (inr k 9).bind fun _=>
 (idx [Tl,Tm,Tn,Ya,v04,v05,v06,v07,v08] k).bind fun e=>
 (inr (IntKind.i64.wrap (k+1)) 9).bind fun _=>
 (idx [Tl,Tm,Tn,Ya,v04,v05,v06,v07,v08] (IntKind.i64.wrap (k+1))).bind fun e2=>
 (inr (IntKind.i64.wrap (k+2)) 9).bind fun _=>
 (idx [Tl,Tm,Tn,Ya,v04,v05,v06,v07,v08] (IntKind.i64.wrap (k+2))).bind fun e3=>
 (Eh N (rL .i64 (IntKind.i64.wrap ((IntKind.i64.wrap ((IntKind.i64.wrap (e*L2))+(IntKind.i64.wrap (e2*L3))))+(IntKind.i64.wrap (e3*L4)))) 12)).bind fun r2=>
 some r2
def zR (N:Nat) (L2 L3 L4 x2 y Pe Pf Pg Ph Pi Pj Pk Pm Po:Int):Option (Int × Int × Int):=
 (BP N L2 L3 L4 0 Pe Pf Pg Ph Pi Pj Pk Pm Po).bind fun r2=>
 (BP N L2 L3 L4 3 Pe Pf Pg Ph Pi Pj Pk Pm Po).bind fun r3=>
 (BP N L2 L3 L4 6 Pe Pf Pg Ph Pi Pj Pk Pm Po).bind fun r4=>
 some (r2,r3,r4)
def jC (N:Nat) (eA:Int) (eJ:List (Int × Int × Int)) (AZ Ba Bb Bc Bd Be Bf Bg Bh:Int) (kk:(List (Int × Int × Int) × Int)→Option (Int × Int × List (Int × Int × Int) × Int)):Nat→(List (Int × Int × Int) × Int)→Option (Int × Int × List (Int × Int × Int) × Int)
 | 0,_=>none
 | fuel+1,(bO,i)=>
  cond (decide (i<(eJ.length:Int))) (
  (idx eJ i).bind fun e3=>
  (nz eA).bind fun _=>
  (nz eA).bind fun _=>
  (zR N e3.1 e3.2.1 e3.2.2 (Int.tmod i eA) (IntKind.i64.wrap (Int.tdiv i eA)) AZ Ba Bb Bc Bd Be Bf Bg Bh).bind fun r4=>
  (idx bO i).bind fun e4=>
  (yK bO i (r4.1,r4.2.1,r4.2.2)).bind fun l4=>
  jC N eA eJ AZ Ba Bb Bc Bd Be Bf Bg Bh kk fuel (l4,IntKind.i64.wrap (i+1))) (
  kk (bO,i))
def kH (N:Nat) (eA hU:Int) (eJ:List (Int × Int × Int)) (AZ Ba Bb Bc Bd Be Bf Bg Bh:Int):Option (Int × Int × List (Int × Int × Int) × Int):=
 (rX N eA hU eJ 0).bind fun r2=>
 cond (!decide (r2.2.2.2=0)) (
 some (0,0,([]:List (Int × Int × Int)),r2.2.2.2)) (
 (some ((eJ.length:Int))).bind fun x2=>
 (mk 24 x2 ((0,0,0):Int × Int × Int)).bind fun l2=>
 jC N eA eJ AZ Ba Bb Bc Bd Be Bf Bg Bh (fun (sG,i2)=>
 some (eA,hU,sG,0)) N (l2,0))
def rY (N:Nat) (m0 m1 m2 m3 m4 m5 m6 m7 m8:Int) (kk:(Bool × Int)→Option (Int × Int × List (Int × Int × Int) × Int)):Nat→(Bool × Int)→Option (Int × Int × List (Int × Int × Int) × Int)
 | 0,_=>none
 | fuel+1,(fine,i)=>
  cond (decide (i<9)) (
  (idx [m0,m1,m2,m3,m4,m5,m6,m7,m8] i).bind fun e2=>
  cond (fine) (
  cond (decide ((-32768)≤e2)) (
  rY N m0 m1 m2 m3 m4 m5 m6 m7 m8 kk fuel (decide (e2≤32768),IntKind.i64.wrap (i+1))) (
  rY N m0 m1 m2 m3 m4 m5 m6 m7 m8 kk fuel (false,IntKind.i64.wrap (i+1)))) (
  rY N m0 m1 m2 m3 m4 m5 m6 m7 m8 kk fuel (false,IntKind.i64.wrap (i+1)))) (
  kk (fine,i))
def CI (N:Nat) (eA hU:Int) (eJ:List (Int × Int × Int)) (m0 m1 m2 m3 m4 m5 m6 m7 m8:Int):Option (Int × Int × List (Int × Int × Int) × Int):=
 rY N m0 m1 m2 m3 m4 m5 m6 m7 m8 (fun (aCZ,i2)=>
 (kH N eA hU eJ m0 m1 m2 m3 m4 m5 m6 m7 m8).bind fun r2=>
 cond (decide (r2.2.2.2=0)) (
 cond (!(aCZ)) (
 some (0,0,([]:List (Int × Int × Int)),3)) (
 some (r2.1,r2.2.1,r2.2.2.1,r2.2.2.2))) (
 some (r2.1,r2.2.1,r2.2.2.1,r2.2.2.2))) N (true,0)
def AN (N:Nat) (J5 Ce Cf Cg Ch Lb:Int) (snd:List (Int × Int)) (Ci Cj Ck Cl Cm Cn Co Cp Cq Cr Cs Cu:Int) (F8:List (Int × Int)) (Lc gD jA:Int) (eI:List Int) (eA hU:Int) (eJ:List (Int × Int × Int)):Option (Int × Int × List Int × Int × Int × List (Int × Int × Int) × Int):=
 (CI N eA hU eJ Cl Cm Cn Co Cp Cq Cr Cs Cu).bind fun r2=>
 some (gD,jA,eI,r2.1,r2.2.1,r2.2.2.1,r2.2.2.2)
def u7 (N:Nat) (L2 L3 L4 x2 y:Int) (v0:List (Int × Int)):Option (Int × Int × Int):=
 (vW N v0 L2).bind fun r2=>
 (vW N v0 L3).bind fun r3=>
 (vW N v0 L4).bind fun r4=>
 some (r2,r3,r4)
def iF (N:Nat) (eA:Int) (eJ:List (Int × Int × Int)) (BQ:List (Int × Int)) (kk:(List (Int × Int × Int) × Int)→Option (Int × Int × List (Int × Int × Int) × Int)):Nat→(List (Int × Int × Int) × Int)→Option (Int × Int × List (Int × Int × Int) × Int)
 | 0,_=>none
 | fuel+1,(bO,i)=>
  cond (decide (i<(eJ.length:Int))) (
  (idx eJ i).bind fun e3=>
  (nz eA).bind fun _=>
  (nz eA).bind fun _=>
  (u7 N e3.1 e3.2.1 e3.2.2 (Int.tmod i eA) (IntKind.i64.wrap (Int.tdiv i eA)) BQ).bind fun r4=>
  (idx bO i).bind fun e4=>
  (yK bO i (r4.1,r4.2.1,r4.2.2)).bind fun l4=>
  iF N eA eJ BQ kk fuel (l4,IntKind.i64.wrap (i+1))) (
  kk (bO,i))
def j0 (N:Nat) (eA hU:Int) (eJ:List (Int × Int × Int)) (BQ:List (Int × Int)):Option (Int × Int × List (Int × Int × Int) × Int):=
 (rX N eA hU eJ 0).bind fun r2=>
 cond (!decide (r2.2.2.2=0)) (
 some (0,0,([]:List (Int × Int × Int)),r2.2.2.2)) (
 (some ((eJ.length:Int))).bind fun x2=>
 (mk 24 x2 ((0,0,0):Int × Int × Int)).bind fun l2=>
 iF N eA eJ BQ (fun (sG,i2)=>
 some (eA,hU,sG,0)) N (l2,0))
def Bt (N:Nat) (eA hU:Int) (eJ:List (Int × Int × Int)) (l2:List (Int × Int)):Option (Int × Int × List (Int × Int × Int) × Int):=
 (kE N l2).bind fun r2=>
 cond (!(r2)) (
 some (0,0,([]:List (Int × Int × Int)),1)) (
 (j0 N eA hU eJ l2).bind fun r3=>
 some (r3.1,r3.2.1,r3.2.2.1,r3.2.2.2))
def zS (N:Nat) (J5 Ce Cf Cg Ch Lb:Int) (snd:List (Int × Int)) (Ci Cj Ck Cl Cm Cn Co Cp Cq Cr Cs Cu:Int) (F8:List (Int × Int)) (Lc gD jA:Int) (eI:List Int) (eA hU:Int) (eJ:List (Int × Int × Int)):Option (Int × Int × List Int × Int × Int × List (Int × Int × Int) × Int):=
 (Bt N eA hU eJ F8).bind fun r2=>
 some (gD,jA,eI,r2.1,r2.2.1,r2.2.2.1,r2.2.2.2)
def v8 (N:Nat) (v Ic v0:Int):Option Int:=
 (Eh N (IntKind.i64.wrap (v+(rL .i64 (IntKind.i64.wrap ((IntKind.i64.wrap (v-(rL .i64 Ic 4)))*v0)) 8)))).bind fun r2=>
 some r2
def mH (N:Nat) (o p2 As Cv:Int) (BE:List (Int × Int × Int)) (i:Int) (kk:(Int × Int × Int × Int)→Option (Int × Int × Int)):Nat→(Int × Int × Int × Int)→Option (Int × Int × Int)
 | 0,_=>none
 | fuel+1,(xR,xS,xT,i3)=>
  cond (decide (i3≤1)) (
  (some (IntKind.i64.wrap ((IntKind.i64.wrap ((min (max (IntKind.i64.wrap (p2+i)) 0) (IntKind.i64.wrap (Cv-1)))*As))+(min (max (IntKind.i64.wrap (o+i3)) 0) (IntKind.i64.wrap (As-1)))))).bind fun x9=>
  (idx BE x9).bind fun e3=>
  (some (IntKind.i64.wrap ((IntKind.i64.wrap (2-(IntKind.i64.wrap (i3*i3))))*(IntKind.i64.wrap (2-(IntKind.i64.wrap (i*i))))))).bind fun x10=>
  (some (IntKind.i64.wrap (i3+1))).bind fun P7=>
  mH N o p2 As Cv BE i kk fuel (IntKind.i64.wrap (xR+(IntKind.i64.wrap (x10*e3.1))),IntKind.i64.wrap (xS+(IntKind.i64.wrap (x10*e3.2.1))),IntKind.i64.wrap (xT+(IntKind.i64.wrap (x10*e3.2.2))),P7)) (
  kk (xR,xS,xT,i3))
def mI (N:Nat) (o p2 As Cv:Int) (BE:List (Int × Int × Int)) (kk:(Int × Int × Int × Int)→Option (Int × Int × Int)):Nat→(Int × Int × Int × Int)→Option (Int × Int × Int)
 | 0,_=>none
 | fuel+1,(Ex,Ey,Ez,i)=>
  cond (decide (i≤1)) (
  mH N o p2 As Cv BE i (fun (P8,P9,Qa,i4)=>
  (some (IntKind.i64.wrap (i+1))).bind fun OR=>
  mI N o p2 As Cv BE kk fuel (P8,P9,Qa,OR)) N (Ex,Ey,Ez,(-1))) (
  kk (Ex,Ey,Ez,i))
def rN (N:Nat) (d_R d_G d_B o p2 As Cv:Int) (BE:List (Int × Int × Int)) (Wl:Int):Option (Int × Int × Int):=
 mI N o p2 As Cv BE (fun (aEc,aEd,aEe,i5)=>
 (v8 N d_R aEc Wl).bind fun r2=>
 (v8 N d_G aEd Wl).bind fun r3=>
 (v8 N d_B aEe Wl).bind fun r4=>
 some (r2,r3,r4)) N (0,0,0,(-1))
def gF (N:Nat) (eA:Int) (eJ:List (Int × Int × Int)) (u9 vA:Int) (rZ:List (Int × Int × Int)) (vB:Int) (kk:(List (Int × Int × Int) × Int)→Option (Int × Int × List (Int × Int × Int) × Int)):Nat→(List (Int × Int × Int) × Int)→Option (Int × Int × List (Int × Int × Int) × Int)
 | 0,_=>none
 | fuel+1,(bO,i)=>
  cond (decide (i<(eJ.length:Int))) (
  (idx eJ i).bind fun e3=>
  (nz eA).bind fun _=>
  (nz eA).bind fun _=>
  (rN N e3.1 e3.2.1 e3.2.2 (Int.tmod i eA) (IntKind.i64.wrap (Int.tdiv i eA)) u9 vA rZ vB).bind fun r4=>
  (idx bO i).bind fun e4=>
  (yK bO i (r4.1,r4.2.1,r4.2.2)).bind fun l4=>
  gF N eA eJ u9 vA rZ vB kk fuel (l4,IntKind.i64.wrap (i+1))) (
  kk (bO,i))
def iG (N:Nat) (eA hU:Int) (eJ:List (Int × Int × Int)) (u9 vA:Int) (rZ:List (Int × Int × Int)) (vB:Int):Option (Int × Int × List (Int × Int × Int) × Int):=
 (rX N eA hU eJ 0).bind fun r2=>
 cond (!decide (r2.2.2.2=0)) (
 some (0,0,([]:List (Int × Int × Int)),r2.2.2.2)) (
 (some ((eJ.length:Int))).bind fun x2=>
 (mk 24 x2 ((0,0,0):Int × Int × Int)).bind fun l2=>
 gF N eA eJ u9 vA rZ vB (fun (sG,i2)=>
 some (eA,hU,sG,0)) N (l2,0))
def wA (N:Nat) (eA hU:Int) (eJ:List (Int × Int × Int)) (amount:Int):Option (Int × Int × List (Int × Int × Int) × Int):=
 (iG N eA hU eJ eA hU eJ amount).bind fun r2=>
 cond (decide (r2.2.2.2=0)) (
 cond (decide (amount<0)) (
 some (0,0,([]:List (Int × Int × Int)),3)) (
 cond (decide (1024<amount)) (
 some (0,0,([]:List (Int × Int × Int)),3)) (
 some (r2.1,r2.2.1,r2.2.2.1,r2.2.2.2)))) (
 some (r2.1,r2.2.1,r2.2.2.1,r2.2.2.2))
def vN (N:Nat) (J5 Ce Cf Cg Ch Lb:Int) (snd:List (Int × Int)) (Ci Cj Ck Cl Cm Cn Co Cp Cq Cr Cs Cu:Int) (F8:List (Int × Int)) (Lc gD jA:Int) (eI:List Int) (eA hU:Int) (eJ:List (Int × Int × Int)):Option (Int × Int × List Int × Int × Int × List (Int × Int × Int) × Int):=
 (wA N eA hU eJ Lc).bind fun r2=>
 some (gD,jA,eI,r2.1,r2.2.1,r2.2.2.1,r2.2.2.2)
def zT (N:Nat) (na nb0 qM qN qO nc:Int) (nd:List (Int × Int)) (qP ne1 qT qU qV qX qY qZ q5 q6 q7 nf8:Int) (ng:List (Int × Int)) (nh gD jA:Int) (eI:List Int):Option (Int × Int × List (Int × Int × Int) × Int):=
 (rW N na nb0 qM qN qO nc nd qP ne1 qT qU qV qX qY qZ q5 q6 q7 nf8 ng nh).bind fun r2=>
 cond (!decide (r2=0)) (
 some (0,0,([]:List (Int × Int × Int)),r2)) (
 (yD N na nb0 qM qN qO nc nd qP ne1 qT qU qV qX qY qZ q5 q6 q7 nf8 ng nh gD jA eI 0 0 (([]:List (Int × Int × Int)))).bind fun r3=>
 cond (!decide (r3.2.2.2.2.2.2=0)) (
 some (0,0,([]:List (Int × Int × Int)),r3.2.2.2.2.2.2)) (
 (wP N na nb0 qM qN qO nc nd qP ne1 qT qU qV qX qY qZ q5 q6 q7 nf8 ng nh r3.1 r3.2.1 r3.2.2.1 r3.2.2.2.1 r3.2.2.2.2.1 (([]:List (Int × Int × Int)))).bind fun r4=>
 cond (!decide (r4.2.2.2.2.2.2=0)) (
 some (0,0,([]:List (Int × Int × Int)),r4.2.2.2.2.2.2)) (
 (zP N na nb0 qM qN qO nc nd qP ne1 qT qU qV qX qY qZ q5 q6 q7 nf8 ng nh r4.1 r4.2.1 r4.2.2.1 r4.2.2.2.1 r4.2.2.2.2.1 (([]:List (Int × Int × Int)))).bind fun r5=>
 cond (!decide (r5.2.2.2.2.2.2=0)) (
 some (0,0,([]:List (Int × Int × Int)),r5.2.2.2.2.2.2)) (
 (zQ N na nb0 qM qN qO nc nd qP ne1 qT qU qV qX qY qZ q5 q6 q7 nf8 ng nh r5.1 r5.2.1 r5.2.2.1 r5.2.2.2.1 r5.2.2.2.2.1 (([]:List (Int × Int × Int)))).bind fun r6=>
 cond (!decide (r6.2.2.2.2.2.2=0)) (
 some (0,0,([]:List (Int × Int × Int)),r6.2.2.2.2.2.2)) (
 (AN N na nb0 qM qN qO nc nd qP ne1 qT qU qV qX qY qZ q5 q6 q7 nf8 ng nh r6.1 r6.2.1 r5.2.2.1 r6.2.2.2.1 r6.2.2.2.2.1 r6.2.2.2.2.2.1).bind fun r7=>
 cond (!decide (r7.2.2.2.2.2.2=0)) (
 some (0,0,([]:List (Int × Int × Int)),r7.2.2.2.2.2.2)) (
 (zS N na nb0 qM qN qO nc nd qP ne1 qT qU qV qX qY qZ q5 q6 q7 nf8 ng nh r7.1 r7.2.1 r5.2.2.1 r7.2.2.2.1 r7.2.2.2.2.1 r7.2.2.2.2.2.1).bind fun r8=>
 cond (!decide (r8.2.2.2.2.2.2=0)) (
 some (0,0,([]:List (Int × Int × Int)),r8.2.2.2.2.2.2)) (
 (vN N na nb0 qM qN qO nc nd qP ne1 qT qU qV qX qY qZ q5 q6 q7 nf8 ng nh r8.1 r8.2.1 r5.2.2.1 r8.2.2.2.1 r8.2.2.2.2.1 r8.2.2.2.2.2.1).bind fun r9=>
 cond (!decide (r9.2.2.2.2.2.2=0)) (
 some (0,0,([]:List (Int × Int × Int)),r9.2.2.2.2.2.2)) (
 some (r9.2.2.2.1,r9.2.2.2.2.1,r9.2.2.2.2.2.1,0)))))))))
def iN (N:Nat) (s:List (Int × Int × Int)):Option (List (Int × Int × Int)):=
 (app 24 (([]:List (Int × Int × Int))) s).bind fun l2=>
 some l2
def Bu (N:Nat) (da Fq Fr Fs Ft dc:Int) (dd:List (Int × Int)) (Fu Fv Fw Gd Ge df2 Gf Gg Gh Gi Gj Gk:Int) (dg:List (Int × Int)) (dh vO Ab:Int) (xU:List Int) (p2 p3 p4 p5:Int):Option (Int × Int × List (Int × Int × Int) × Int):=
 (rW N da Fq Fr Fs Ft dc dd Fu Fv Fw Gd Ge df2 Gf Gg Gh Gi Gj Gk dg dh).bind fun r2=>
 cond (!decide (r2=0)) (
 some (0,0,([]:List (Int × Int × Int)),r2)) (
 (gJ N vO Ab xU (([]:List (Int × Int)))).bind fun r3=>
 cond (!decide (r3.2.2.2=0)) (
 some (0,0,([]:List (Int × Int × Int)),r3.2.2.2)) (
 (pK N 1 64 ([p3]:List Int)).bind fun r4=>
 cond (!(r4)) (
 some (0,0,([]:List (Int × Int × Int)),3)) (
 (pK N 0 (IntKind.i64.wrap (p3-Ab)) ([p2]:List Int)).bind fun r5=>
 cond (!(r5)) (
 some (0,0,([]:List (Int × Int × Int)),3)) (
 (pK N 0 (IntKind.i64.wrap (p3-1)) ([p4]:List Int)).bind fun r6=>
 cond (!(r6)) (
 some (0,0,([]:List (Int × Int × Int)),3)) (
 (pK N (IntKind.i64.wrap (p4+1)) p3 ([p5]:List Int)).bind fun r7=>
 cond (!(r7)) (
 some (0,0,([]:List (Int × Int × Int)),3)) (
 cond (decide ((max (IntKind.i64.wrap (p4-4)) 0)<p2)) (
 some (0,0,([]:List (Int × Int × Int)),3)) (
 cond (decide ((IntKind.i64.wrap (p2+Ab))<(min (IntKind.i64.wrap (p5+4)) p3))) (
 some (0,0,([]:List (Int × Int × Int)),3)) (
 (zO N dd vO p3).bind fun r8=>
 cond (!(r8)) (
 some (0,0,([]:List (Int × Int × Int)),3)) (
 (Dh N da Fq Fr Fs Ft dc dd Fu Fv Fw Gd Ge df2 Gf Gg Gh Gi Gj Gk dg dh p2 Ab).bind fun r9=>
 (zT N r9.1 r9.2.1 r9.2.2.1 r9.2.2.2.1 r9.2.2.2.2.1 r9.2.2.2.2.2.1 r9.2.2.2.2.2.2.1 r9.2.2.2.2.2.2.2.1 r9.2.2.2.2.2.2.2.2.1 r9.2.2.2.2.2.2.2.2.2.1 r9.2.2.2.2.2.2.2.2.2.2.1 r9.2.2.2.2.2.2.2.2.2.2.2.1 r9.2.2.2.2.2.2.2.2.2.2.2.2.1 r9.2.2.2.2.2.2.2.2.2.2.2.2.2.1 r9.2.2.2.2.2.2.2.2.2.2.2.2.2.2.1 r9.2.2.2.2.2.2.2.2.2.2.2.2.2.2.2.1 r9.2.2.2.2.2.2.2.2.2.2.2.2.2.2.2.2.1 r9.2.2.2.2.2.2.2.2.2.2.2.2.2.2.2.2.2.1 r9.2.2.2.2.2.2.2.2.2.2.2.2.2.2.2.2.2.2.1 dg r9.2.2.2.2.2.2.2.2.2.2.2.2.2.2.2.2.2.2.2.2 vO Ab xU).bind fun Di=>
 cond (!decide (Di.2.2.2=0)) (
 some (0,0,([]:List (Int × Int × Int)),Di.2.2.2)) (
 (Tz Di.2.2.1 (IntKind.i64.wrap ((IntKind.i64.wrap (p4-p2))*Di.1)) (IntKind.i64.wrap ((IntKind.i64.wrap (p5-p2))*Di.1))).bind fun l2=>
 (iN N l2).bind fun yP=>
 some (Di.1,IntKind.i64.wrap (p5-p4),yP,0)))))))))))
def wB (N:Nat) (da Fq Fr Fs Ft dc:Int) (dd:List (Int × Int)) (Fu Fv Fw Gd Ge df2 Gf Gg Gh Gi Gj Gk:Int) (dg:List (Int × Int)) (dh vO Ab:Int) (xU:List Int) (p2:Int) (kk:(List (Int × Int × Int) × Int)→Option (Int × Int × List (Int × Int × Int) × Int)):Nat→(List (Int × Int × Int) × Int)→Option (Int × Int × List (Int × Int × Int) × Int)
 | 0,_=>none
 | fuel+1,(BF,i)=>
  cond (decide (i<Ab)) (
  (some (IntKind.i64.wrap (i+(min p2 (IntKind.i64.wrap (Ab-i)))))).bind fun x5=>
  (some (max (IntKind.i64.wrap (i-4)) 0)).bind fun x6=>
  (some (min (IntKind.i64.wrap (x5+4)) Ab)).bind fun x7=>
  (Tz xU (IntKind.i64.wrap (x6*vO)) (IntKind.i64.wrap (x7*vO))).bind fun l3=>
  (Bu N da Fq Fr Fs Ft dc dd Fu Fv Fw Gd Ge df2 Gf Gg Gh Gi Gj Gk dg dh vO (IntKind.i64.wrap (x7-x6)) l3 x6 Ab i x5).bind fun r6=>
  cond (!decide (r6.2.2.2=0)) (
  some (0,0,([]:List (Int × Int × Int)),r6.2.2.2)) (
  (app 24 BF r6.2.2.1).bind fun BG=>
  wB N da Fq Fr Fs Ft dc dd Fu Fv Fw Gd Ge df2 Gf Gg Gh Gi Gj Gk dg dh vO Ab xU p2 kk fuel (BG,x5))) (
  kk (BF,i))
def vC (N:Nat) (da Fq Fr Fs Ft dc:Int) (dd:List (Int × Int)) (Fu Fv Fw Gd Ge df2 Gf Gg Gh Gi Gj Gk:Int) (dg:List (Int × Int)) (dh vO Ab:Int) (xU:List Int) (p2:Int):Option (Int × Int × List (Int × Int × Int) × Int):=
 (rW N da Fq Fr Fs Ft dc dd Fu Fv Fw Gd Ge df2 Gf Gg Gh Gi Gj Gk dg dh).bind fun r2=>
 cond (!decide (r2=0)) (
 some (0,0,([]:List (Int × Int × Int)),r2)) (
 (gJ N vO Ab xU dd).bind fun r3=>
 cond (!decide (r3.2.2.2=0)) (
 some (0,0,([]:List (Int × Int × Int)),r3.2.2.2)) (
 cond (decide (p2<1)) (
 some (0,0,([]:List (Int × Int × Int)),3)) (
 wB N da Fq Fr Fs Ft dc dd Fu Fv Fw Gd Ge df2 Gf Gg Gh Gi Gj Gk dg dh vO Ab xU p2 (fun (Bi,i2)=>
 some (vO,Ab,Bi,0)) N (([]:List (Int × Int × Int)),0))))
def GY (N:Nat)  : Option (Bool × Bool × Bool × Bool × Bool × Bool × Bool × Bool × Bool × Bool × Bool × Bool × Bool × Bool × Bool × Bool × Bool × Bool × Bool × Bool × Bool × Bool × Bool × Bool × Bool × Bool × Bool):=
 some (false,false,false,false,false,false,false,true,false,false,true,true,false,false,true,true,false,false,true,true,false,true,true,true,true,false,true)
def yE (N:Nat) (eA hU:Int) (eJ:List (Int × Int × Int)) (kk:(List (Int × Int × Int) × Int)→Option (Int × Int × List (Int × Int × Int))):Nat→(List (Int × Int × Int) × Int)→Option (Int × Int × List (Int × Int × Int))
 | 0,_=>none
 | fuel+1,(bO,i)=>
  cond (decide (i<(eJ.length:Int))) (
  (idx eJ i).bind fun e3=>
  (nz eA).bind fun _=>
  (nz eA).bind fun _=>
  (idx bO (IntKind.i64.wrap ((IntKind.i64.wrap ((Int.tmod i eA)*hU))+(IntKind.i64.wrap (Int.tdiv i eA))))).bind fun e4=>
  (yK bO (IntKind.i64.wrap ((IntKind.i64.wrap ((Int.tmod i eA)*hU))+(IntKind.i64.wrap (Int.tdiv i eA)))) (e3.1,e3.2.1,e3.2.2)).bind fun l4=>
  yE N eA hU eJ kk fuel (l4,IntKind.i64.wrap (i+1))) (
  kk (bO,i))
def BR (N:Nat) (eA hU:Int) (eJ:List (Int × Int × Int)):Option (Int × Int × List (Int × Int × Int)):=
 (some ((eJ.length:Int))).bind fun x2=>
 (mk 24 x2 ((0,0,0):Int × Int × Int)).bind fun l2=>
 yE N eA hU eJ (fun (sG,i2)=>
 some (hU,eA,sG)) N (l2,0)
def FR (N:Nat) (x2 y As Cv:Int) (BE:List (Int × Int × Int)):Option Int:=
 some (IntKind.i64.wrap ((IntKind.i64.wrap ((IntKind.i64.wrap ((IntKind.i64.wrap (y*As))+As))-1))-x2))
def oC (N:Nat) (eA:Int) (eJ:List (Int × Int × Int)) (Bj Bk:Int) (wQ:List (Int × Int × Int)) (kk:(List (Int × Int × Int) × Int)→Option (Int × Int × List (Int × Int × Int))):Nat→(List (Int × Int × Int) × Int)→Option (Int × Int × List (Int × Int × Int))
 | 0,_=>none
 | fuel+1,(bO,i)=>
  cond (decide (i<(eJ.length:Int))) (
  (idx eJ i).bind fun e3=>
  (nz eA).bind fun _=>
  (nz eA).bind fun _=>
  (FR N (Int.tmod i eA) (IntKind.i64.wrap (Int.tdiv i eA)) Bj Bk wQ).bind fun r3=>
  (idx bO r3).bind fun e4=>
  (yK bO r3 (e3.1,e3.2.1,e3.2.2)).bind fun l4=>
  oC N eA eJ Bj Bk wQ kk fuel (l4,IntKind.i64.wrap (i+1))) (
  kk (bO,i))
def mP (N:Nat) (eA hU:Int) (eJ:List (Int × Int × Int)) (Bj Bk:Int) (wQ:List (Int × Int × Int)):Option (Int × Int × List (Int × Int × Int)):=
 (some ((eJ.length:Int))).bind fun x2=>
 (mk 24 x2 ((0,0,0):Int × Int × Int)).bind fun l2=>
 oC N eA eJ Bj Bk wQ (fun (sG,i2)=>
 some (eA,hU,sG)) N (l2,0)
def qQq (N:Nat) (x2 y As Cv:Int) (BE:List (Int × Int × Int)):Option Int:=
 some (IntKind.i64.wrap ((IntKind.i64.wrap ((IntKind.i64.wrap ((IntKind.i64.wrap (Cv-1))-y))*As))+x2))
def oD (N:Nat) (eA:Int) (eJ:List (Int × Int × Int)) (Bl Bm:Int) (wR:List (Int × Int × Int)) (kk:(List (Int × Int × Int) × Int)→Option (Int × Int × List (Int × Int × Int))):Nat→(List (Int × Int × Int) × Int)→Option (Int × Int × List (Int × Int × Int))
 | 0,_=>none
 | fuel+1,(bO,i)=>
  cond (decide (i<(eJ.length:Int))) (
  (idx eJ i).bind fun e3=>
  (nz eA).bind fun _=>
  (nz eA).bind fun _=>
  (qQq N (Int.tmod i eA) (IntKind.i64.wrap (Int.tdiv i eA)) Bl Bm wR).bind fun r3=>
  (idx bO r3).bind fun e4=>
  (yK bO r3 (e3.1,e3.2.1,e3.2.2)).bind fun l4=>
  oD N eA eJ Bl Bm wR kk fuel (l4,IntKind.i64.wrap (i+1))) (
  kk (bO,i))
def iH (N:Nat) (eA hU:Int) (eJ:List (Int × Int × Int)) (Bl Bm:Int) (wR:List (Int × Int × Int)):Option (Int × Int × List (Int × Int × Int)):=
 (some ((eJ.length:Int))).bind fun x2=>
 (mk 24 x2 ((0,0,0):Int × Int × Int)).bind fun l2=>
 oD N eA eJ Bl Bm wR (fun (sG,i2)=>
 some (eA,hU,sG)) N (l2,0)
def CX (N:Nat) (x2 y As Cv:Int) (BE:List (Int × Int × Int)):Option Int:=
 some (IntKind.i64.wrap ((IntKind.i64.wrap (y*As))+x2))
def gG (N:Nat) (eA:Int) (eJ:List (Int × Int × Int)) (Bn Bp:Int) (wS:List (Int × Int × Int)) (kk:(List (Int × Int × Int) × Int)→Option (Int × Int × List (Int × Int × Int))):Nat→(List (Int × Int × Int) × Int)→Option (Int × Int × List (Int × Int × Int))
 | 0,_=>none
 | fuel+1,(bO,i)=>
  cond (decide (i<(eJ.length:Int))) (
  (idx eJ i).bind fun e3=>
  (nz eA).bind fun _=>
  (nz eA).bind fun _=>
  (CX N (Int.tmod i eA) (IntKind.i64.wrap (Int.tdiv i eA)) Bn Bp wS).bind fun r3=>
  (idx bO r3).bind fun e4=>
  (yK bO r3 (e3.1,e3.2.1,e3.2.2)).bind fun l4=>
  gG N eA eJ Bn Bp wS kk fuel (l4,IntKind.i64.wrap (i+1))) (
  kk (bO,i))
def bZ (N:Nat) (eA hU:Int) (eJ:List (Int × Int × Int)) (Bn Bp:Int) (wS:List (Int × Int × Int)):Option (Int × Int × List (Int × Int × Int)):=
 (some ((eJ.length:Int))).bind fun x2=>
 (mk 24 x2 ((0,0,0):Int × Int × Int)).bind fun l2=>
 gG N eA eJ Bn Bp wS (fun (sG,i2)=>
 some (eA,hU,sG)) N (l2,0)
def Bv (N:Nat) (eA hU:Int) (eJ:List (Int × Int × Int)) (how:Int):Option (Int × Int × List (Int × Int × Int) × Int):=
 (rX N eA hU eJ 0).bind fun r2=>
 cond (!decide (r2.2.2.2=0)) (
 some (0,0,([]:List (Int × Int × Int)),r2.2.2.2)) (
 cond (decide (how<1)) (
 some (0,0,([]:List (Int × Int × Int)),3)) (
 cond (decide (8<how)) (
 some (0,0,([]:List (Int × Int × Int)),3)) (
 (GY N ).bind fun r3=>
 (idx [(r3.1,r3.2.1,r3.2.2.1),(r3.2.2.2.1,r3.2.2.2.2.1,r3.2.2.2.2.2.1),(r3.2.2.2.2.2.2.1,r3.2.2.2.2.2.2.2.1,r3.2.2.2.2.2.2.2.2.1),(r3.2.2.2.2.2.2.2.2.2.1,r3.2.2.2.2.2.2.2.2.2.2.1,r3.2.2.2.2.2.2.2.2.2.2.2.1),(r3.2.2.2.2.2.2.2.2.2.2.2.2.1,r3.2.2.2.2.2.2.2.2.2.2.2.2.2.1,r3.2.2.2.2.2.2.2.2.2.2.2.2.2.2.1),(r3.2.2.2.2.2.2.2.2.2.2.2.2.2.2.2.1,r3.2.2.2.2.2.2.2.2.2.2.2.2.2.2.2.2.1,r3.2.2.2.2.2.2.2.2.2.2.2.2.2.2.2.2.2.1),(r3.2.2.2.2.2.2.2.2.2.2.2.2.2.2.2.2.2.2.1,r3.2.2.2.2.2.2.2.2.2.2.2.2.2.2.2.2.2.2.2.1,r3.2.2.2.2.2.2.2.2.2.2.2.2.2.2.2.2.2.2.2.2.1),(r3.2.2.2.2.2.2.2.2.2.2.2.2.2.2.2.2.2.2.2.2.2.1,r3.2.2.2.2.2.2.2.2.2.2.2.2.2.2.2.2.2.2.2.2.2.2.1,r3.2.2.2.2.2.2.2.2.2.2.2.2.2.2.2.2.2.2.2.2.2.2.2.1),(r3.2.2.2.2.2.2.2.2.2.2.2.2.2.2.2.2.2.2.2.2.2.2.2.2.1,r3.2.2.2.2.2.2.2.2.2.2.2.2.2.2.2.2.2.2.2.2.2.2.2.2.2.1,r3.2.2.2.2.2.2.2.2.2.2.2.2.2.2.2.2.2.2.2.2.2.2.2.2.2.2)] how).bind fun e=>
 cond (e.1) (
 (BR N eA hU eJ).bind fun r4=>
 cond (e.2.1) (
 (mP N r4.1 r4.2.1 r4.2.2 r4.1 r4.2.1 r4.2.2).bind fun r5=>
 cond (e.2.2) (
 (iH N r5.1 r5.2.1 r5.2.2 r5.1 r5.2.1 r5.2.2).bind fun r6=>
 (bZ N r6.1 r6.2.1 r6.2.2 r6.1 r6.2.1 r6.2.2).bind fun r7=>
 some (r7.1,r7.2.1,r7.2.2,0)) (
 (bZ N r5.1 r5.2.1 r5.2.2 r5.1 r5.2.1 r5.2.2).bind fun r8=>
 some (r8.1,r8.2.1,r8.2.2,0))) (
 cond (e.2.2) (
 (iH N r4.1 r4.2.1 r4.2.2 r4.1 r4.2.1 r4.2.2).bind fun r9=>
 (bZ N r9.1 r9.2.1 r9.2.2 r9.1 r9.2.1 r9.2.2).bind fun Di=>
 some (Di.1,Di.2.1,Di.2.2,0)) (
 (bZ N r4.1 r4.2.1 r4.2.2 r4.1 r4.2.1 r4.2.2).bind fun yP=>
 some (yP.1,yP.2.1,yP.2.2,0)))) (
 cond (e.2.1) (
 (mP N eA hU eJ eA hU eJ).bind fun Ae=>
 cond (e.2.2) (
 (iH N Ae.1 Ae.2.1 Ae.2.2 Ae.1 Ae.2.1 Ae.2.2).bind fun DX=>
 (bZ N DX.1 DX.2.1 DX.2.2 DX.1 DX.2.1 DX.2.2).bind fun Ll=>
 some (Ll.1,Ll.2.1,Ll.2.2,0)) (
 (bZ N Ae.1 Ae.2.1 Ae.2.2 Ae.1 Ae.2.1 Ae.2.2).bind fun GZ=>
 some (GZ.1,GZ.2.1,GZ.2.2,0))) (
 cond (e.2.2) (
 (iH N eA hU eJ eA hU eJ).bind fun r16=>
 (bZ N r16.1 r16.2.1 r16.2.2 r16.1 r16.2.1 r16.2.2).bind fun Qb=>
 some (Qb.1,Qb.2.1,Qb.2.2,0)) (
 (bZ N eA hU eJ eA hU eJ).bind fun TE=>
 some (TE.1,TE.2.1,TE.2.2,0)))))))
def sS (N:Nat) (lens:List Int) (kk:(Int × Int)→Option Int):Nat→(Int × Int)→Option Int
 | 0,_=>none
 | fuel+1,(room,i)=>
  cond (decide (i<(lens.length:Int))) (
  (idx lens i).bind fun e2=>
  cond (decide (e2<0)) (
  some 3) (
  cond (decide (15<e2)) (
  some 3) (
  cond (decide (0<e2)) (
  (nn (IntKind.i64.wrap (15-e2))).bind fun _=>
  (some (IntKind.i64.wrap (room-(wN .i64 1 (IntKind.i64.wrap (15-e2)))))).bind fun Yb=>
  sS N lens kk fuel (Yb,IntKind.i64.wrap (i+1))) (
  sS N lens kk fuel (room,IntKind.i64.wrap (i+1)))))) (
  kk (room,i))
def zU (N:Nat) (lens:List Int):Option Int:=
 cond (decide ((lens.length:Int)<1)) (
 some 2) (
 cond (decide (17<(lens.length:Int))) (
 some 2) (
 sS N lens (fun (Pp,i2)=>
 cond (decide (Pp<0)) (
 some 1) (
 cond (decide (Pp=32768)) (
 some 1) (
 some 0))) N (32768,0)))
def CY (N:Nat) (wL dI:Int) (EC:Bool→Option Int):Option Int:=
  cond (decide (dI<1)) (
  EC (decide (dI<1))) (
  EC (decide (wL<dI)))
def CZ (N:Nat) (wL dN dI:Int) (ED:Bool→Option Int):Option Int:=
  cond (decide (16<dN)) (
  ED (decide (16<dN))) (
  CY N wL dI (fun i14=>
  ED i14))
def C0 (N:Nat) (wL dN dI:Int) (EE:Bool→Option Int):Option Int:=
  cond (decide (dN<1)) (
  EE (decide (dN<1))) (
  CZ N wL dN dI (fun i12=>
  EE i12))
def C1 (N:Nat) (wL dN dI:Int) (EF:Bool→Option Int):Option Int:=
  cond (decide (64<wL)) (
  EF (decide (64<wL))) (
  C0 N wL dN dI (fun Ld=>
  EF Ld))
def C2 (N:Nat) (wL dN dI:Int) (EG:Bool→Option Int):Option Int:=
  cond (decide (wL<1)) (
  EG (decide (wL<1))) (
  C1 N wL dN dI (fun i8=>
  EG i8))
def C3 (N:Nat) (C4 wL dN dI:Int) (EH:Bool→Option Int):Option Int:=
  cond (decide (64<C4)) (
  EH (decide (64<C4))) (
  C2 N wL dN dI (fun i6=>
  EH i6))
def C5 (N:Nat) (gO:Int) (EI:Bool→Option Int):Option Int:=
  cond (decide (gO<0)) (
  EI (decide (gO<0))) (
  EI (decide (7<gO)))
def C6 (N:Nat) (C4 wL dN dI:Int) (EJ:Bool→Option Int):Option Int:=
  cond (decide (C4<1)) (
  EJ (decide (C4<1))) (
  C3 N C4 wL dN dI (fun i4=>
  EJ i4))
def EK (N:Nat) (C4 wL dN gO dI:Int) (eO:List Int) (cL:List (List UInt8)) (bJ aX aY aZ a7 bK:Int) (aH:List (Int × Int)) (a8 bA bB aO aP aQ aR aS aT aU aV aW:Int) (aI:List (Int × Int)) (bC:Int):Option Int:=
 C6 N C4 wL dN dI (fun i2=>
 cond (i2) (
 some 3) (
 C5 N gO (fun i16=>
 cond (i16) (
 some 6) (
 cond (decide (0<gO)) (
 (zU N eO).bind fun r2=>
 some r2) (
 cond (decide (0<(eO.length:Int))) (
 some 1) (
 some 0))))))
def Ei (N:Nat) (Xu Xv As Cv Nm Qc Qd:Int) (J6:List Int) (Gl:List (List UInt8)) (FT EL EM EN EO FU:Int) (At:List (Int × Int)) (EP EQ ER Dy Dz DA DB DC DD DE DF DG:Int) (Au:List (Int × Int)) (ES:Int):Option Bool:=
 cond (decide (As≤Xu)) (
 some true) (
 some (decide (Cv≤Xv)))
def bR (N:Nat) (s:List (Int × Int)) (sT sU lK nP nR:Int) (jL:List Int) (gK:List (List UInt8)) (gL fQ fR fS fT gM:Int) (dY:List (Int × Int)) (fU fV fW eX eY eZ fA fB fC fD fE fF:Int) (dZ:List (Int × Int)) (fX:Int) (kk:Int→Option Int):Nat→Int→Option Int
 | 0,_=>none
 | fuel+1,i=>
  cond (decide (i<(s.length:Int))) (
  (idx s i).bind fun e2=>
  (Ei N e2.1 e2.2 sT sU lK nP nR jL gK gL fQ fR fS fT gM dY fU fV fW eX eY eZ fA fB fC fD fE fF dZ fX).bind fun r3=>
  cond (r3) (
  some i) (
  bR N s sT sU lK nP nR jL gK gL fQ fR fS fT gM dY fU fV fW eX eY eZ fA fB fC fD fE fF dZ fX kk fuel (IntKind.i64.wrap (i+1)))) (
  kk i)
def fO (N:Nat) (s:List (Int × Int)) (sT sU lK nP nR:Int) (jL:List Int) (gK:List (List UInt8)) (gL fQ fR fS fT gM:Int) (dY:List (Int × Int)) (fU fV fW eX eY eZ fA fB fC fD fE fF:Int) (dZ:List (Int × Int)) (fX:Int):Option Int:=
 bR N s sT sU lK nP nR jL gK gL fQ fR fS fT gM dY fU fV fW eX eY eZ fA fB fC fD fE fF dZ fX (fun i2=>
 some ((-1))) N 0
def dV (N:Nat) (s:List (Int × Int)) (sT sU lK nP nR:Int) (jL:List Int) (gK:List (List UInt8)) (gL fQ fR fS fT gM:Int) (dY:List (Int × Int)) (fU fV fW eX eY eZ fA fB fC fD fE fF:Int) (dZ:List (Int × Int)) (fX:Int):Option Bool:=
 (fO N s sT sU lK nP nR jL gK gL fQ fR fS fT gM dY fU fV fW eX eY eZ fA fB fC fD fE fF dZ fX).bind fun r2=>
 some (decide (0≤r2))
def ET (N:Nat) (C4 wL dN gO dI:Int) (eO:List Int) (cL:List (List UInt8)) (bJ aX aY aZ a7 bK:Int) (aH:List (Int × Int)) (a8 bA bB aO aP aQ aR aS aT aU aV aW:Int) (aI:List (Int × Int)) (bC:Int):Option Int:=
 (rW N bJ aX aY aZ a7 bK aH a8 bA bB aO aP aQ aR aS aT aU aV aW aI bC).bind fun r2=>
 cond (!decide (r2=0)) (
 some r2) (
 (dV N aH C4 wL dN gO dI eO cL bJ aX aY aZ a7 bK aH a8 bA bB aO aP aQ aR aS aT aU aV aW aI bC).bind fun r3=>
 cond (r3) (
 some 3) (
 some 0))
def lX (N:Nat) (x2:List Int) (kk:(Int × Int)→Option Int):Nat→(Int × Int)→Option Int
 | 0,_=>none
 | fuel+1,(m,i)=>
  cond (decide (i<(x2.length:Int))) (
  (idx x2 i).bind fun e3=>
  (some (max m e3)).bind fun m3=>
  (some (IntKind.i64.wrap (i+1))).bind fun i3=>
  lX N x2 kk fuel (m3,i3)) (
  kk (m,i))
def rA (N:Nat) (x2:List Int):Option Int:=
 cond (decide ((x2.length:Int)<1)) (
 none) (
 (idx x2 0).bind fun e=>
 lX N x2 (fun (m4,i4)=>
 some m4) N (e,1))
def pM (N:Nat) (s:List Int):Option (List Int):=
 (app 8 ([]:List Int) s).bind fun l2=>
 some l2
def jN (N:Nat) (s:List (Int × Int)):Option (List (Int × Int)):=
 (app 16 (([]:List (Int × Int))) s).bind fun l2=>
 some l2
def iO (N:Nat) (s:List (Int × Int)):Option (List (Int × Int)):=
 (app 16 (([]:List (Int × Int))) s).bind fun l2=>
 some l2
def uN (N:Nat) (wL dI:Int) (kk:(List (Int × Int) × Int)→Option (List (Int × Int))):Nat→(List (Int × Int) × Int)→Option (List (Int × Int))
 | 0,_=>none
 | fuel+1,(l3,y2)=>
  cond (decide (y2<wL)) (
  (app 16 l3 (([(y2,min dI (IntKind.i64.wrap (wL-y2)))]:List (Int × Int)))).bind fun l5=>
  (some (IntKind.i64.wrap (y2+dI))).bind fun y4=>
  uN N wL dI kk fuel (l5,y4)) (
  kk (l3,y2))
def Ej (N:Nat) (C4 wL dN gO dI:Int) (eO:List Int) (cL:List (List UInt8)) (bJ aX aY aZ a7 bK:Int) (aH:List (Int × Int)) (a8 bA bB aO aP aQ aR aS aT aU aV aW:Int) (aI:List (Int × Int)) (bC:Int):Option (List (Int × Int)):=
 uN N wL dI (fun (l6,y5)=>
 some l6) N (([]:List (Int × Int)),0)
def Av (N:Nat) (n:Int):Option Bool:=
 cond (decide (1≤n)) (
 some (decide (n≤16))) (
 some false)
def wC (N:Nat) (x6:Int) (kk:(List Int × Int)→Option (List UInt8 × Int)):Nat→(List Int × Int)→Option (List UInt8 × Int)
 | 0,_=>none
 | fuel+1,(l5,i5)=>
  cond (decide (8≤i5)) (
  (some (IntKind.i64.wrap (i5-8))).bind fun x9=>
  (nn x9).bind fun _=>
  (app 1 l5 (([IntKind.u8.wrap (rL .i64 x6 x9)]:List Int))).bind fun l7=>
  wC N x6 kk fuel (l7,x9)) (
  kk (l5,i5))
def wD (N:Nat) (d:List Int) (o:Int) (kk:(List Int × Int × Int × Int)→Option (List UInt8 × Int)):Nat→(List Int × Int × Int × Int)→Option (List UInt8 × Int)
 | 0,_=>none
 | fuel+1,(l2,i,i2,i3)=>
  cond (decide (i3<(d.length:Int))) (
  (idx d i3).bind fun e2=>
  cond (decide (e2<0)) (
  some (([]:List UInt8),3)) (
  (nn o).bind fun _=>
  cond (decide ((wN .i64 1 o)≤e2)) (
  some (([]:List UInt8),3)) (
  (nn o).bind fun _=>
  (some (Ty .i64 (wN .i64 i o) e2)).bind fun x6=>
  (some (IntKind.i64.wrap (i2+o))).bind fun x7=>
  wC N x6 (fun (l8,i6)=>
  (nn i6).bind fun _=>
  (some (Eg .i64 x6 (IntKind.i64.wrap ((wN .i64 1 i6)-1)))).bind fun x10=>
  wD N d o kk fuel (l8,x10,i6,IntKind.i64.wrap (i3+1))) N (l2,x7)))) (
  kk (l2,i,i2,i3))
def Dj (N:Nat) (d:List Int) (o:Int):Option (List UInt8 × Int):=
 (Av N o).bind fun r2=>
 cond (!(r2)) (
 some (([]:List UInt8),3)) (
 cond (decide (4096<(d.length:Int))) (
 some (([]:List UInt8),2)) (
 (mok 1 (IntKind.i64.wrap (Int.tdiv (IntKind.i64.wrap ((IntKind.i64.wrap ((d.length:Int)*o))+7)) 8))).bind fun _=>
 wD N d o (fun (l9,i7,i8,i9)=>
 cond (decide (0<i8)) (
 (nn (IntKind.i64.wrap (8-i8))).bind fun _=>
 (app 1 l9 (([IntKind.u8.wrap (wN .i64 i7 (IntKind.i64.wrap (8-i8)))]:List Int))).bind fun l10=>
 some (toB l10,0)) (
 some (toB l9,0))) N (([]:List Int),0,0,0)))
def wE (N:Nat) (eI:List Int) (kk:Int→Option Bool):Nat→Int→Option Bool
 | 0,_=>none
 | fuel+1,i=>
  cond (decide (i<(eI.length:Int))) (
  (idx eI i).bind fun e2=>
  cond (decide (e2<0)) (
  some false) (
  cond (decide (65535<e2)) (
  some false) (
  wE N eI kk fuel (IntKind.i64.wrap (i+1))))) (
  kk i)
def Dk (N:Nat) (gD jA:Int) (eI:List Int):Option Bool:=
 cond (decide (gD<1)) (
 some false) (
 cond (decide (64<gD)) (
 some false) (
 cond (decide (jA<1)) (
 some false) (
 cond (decide (64<jA)) (
 some false) (
 cond (!decide ((eI.length:Int)=(IntKind.i64.wrap (gD*jA)))) (
 some false) (
 wE N eI (fun i2=>
 some true) N 0)))))
def xA (N:Nat) (x2:Int):Option Bool:=
 some (!decide (x2=x2))
def yF (N:Nat) (x2 y:Int):Option Int:=
 (xA N x2).bind fun r2=>
 (xA N y).bind fun r3=>
 cond (r2) (
 cond (r3) (
 some 0) (
 some ((-1)))) (
 cond (r3) (
 some 1) (
 cond (decide (x2<y)) (
 some ((-1))) (
 cond (decide (y<x2)) (
 some 1) (
 some 0))))
def yQ (N:Nat) (a2 b:Int) (v0:List Int):Option Int:=
 (idx v0 a2).bind fun e=>
 (idx v0 b).bind fun e2=>
 (yF N e e2).bind fun r2=>
 some r2
def tR (N:Nat) (n size:Int) (kk:(List Int × Int × Int)→Option (List UInt8)):Nat→(List Int × Int × Int)→Option (List UInt8)
 | 0,_=>none
 | fuel+1,(l3,i,i2)=>
  cond (decide (i2<i)) (
  (nn (IntKind.i64.wrap ((IntKind.i64.wrap (size-1))-i2))).bind fun _=>
  (idx ([48,49]:List UInt8) (Eg .i64 (rL .i64 n (IntKind.i64.wrap ((IntKind.i64.wrap (size-1))-i2))) 1)).bind fun b2=>
  (idx l3 i2).bind fun e2=>
  (yK l3 i2 (b2.toNat:Int)).bind fun l5=>
  tR N n size kk fuel (l5,i,IntKind.i64.wrap (i2+1))) (
  kk (l3,i,i2))
def Aw (N:Nat) (n size:Int):Option (List UInt8):=
 (mk 1 size (0:Int)).bind fun l2=>
 tR N n size (fun (l6,i3,i4)=>
 some (toB l6)) N (l2,(l2.length:Int),0)
def oU (N:Nat) (n size:Int):Option (List UInt8 × Int):=
 cond (decide (size<0)) (
 some (([]:List UInt8),3)) (
 cond (decide (16<size)) (
 some (([]:List UInt8),3)) (
 cond (decide (n<0)) (
 some (([]:List UInt8),3)) (
 (nn size).bind fun _=>
 cond (decide ((wN .i64 1 size)≤n)) (
 some (([]:List UInt8),3)) (
 (Aw N n size).bind fun r2=>
 some (r2,0)))))
def uO (N:Nat) (d:List Int) (kk:(List Int × Int)→Option (List (List UInt8) × Int)):Nat→(List Int × Int)→Option (List (List UInt8) × Int)
 | 0,_=>none
 | fuel+1,(Qe,j4)=>
  cond (decide (0<j4)) (
  (idx Qe j4).bind fun e20=>
  (idx Qe (IntKind.i64.wrap (j4-1))).bind fun e21=>
  (yQ N e20 e21 d).bind fun r5=>
  cond (decide (r5<0)) (
  (idx Qe (IntKind.i64.wrap (j4-1))).bind fun e22=>
  (idx Qe j4).bind fun e23=>
  (idx Qe j4).bind fun e24=>
  (yK Qe j4 e22).bind fun l18=>
  (idx l18 (IntKind.i64.wrap (j4-1))).bind fun e25=>
  (yK l18 (IntKind.i64.wrap (j4-1)) e23).bind fun l19=>
  (some (IntKind.i64.wrap (j4-1))).bind fun j7=>
  uO N d kk fuel (l19,j7)) (
  kk (Qe,j4))) (
  kk (Qe,j4))
def qS (N:Nat) (d L5:List Int) (kk:(List (List UInt8) × Int × Int)→Option (List (List UInt8) × Int)):Nat→(List (List UInt8) × Int × Int)→Option (List (List UInt8) × Int)
 | 0,_=>none
 | fuel+1,(l25,i8,i9)=>
  cond (decide (i9<(L5.length:Int))) (
  (idx L5 i9).bind fun e33=>
  (idx d e33).bind fun e34=>
  (nn (IntKind.i64.wrap (15-e34))).bind fun _=>
  (idx d e33).bind fun e35=>
  (oU N (rL .i64 i8 (IntKind.i64.wrap (15-e34))) e35).bind fun r7=>
  (idx l25 e33).bind fun e36=>
  (yK l25 e33 r7.1).bind fun l27=>
  (idx d e33).bind fun e37=>
  (nn (IntKind.i64.wrap (15-e37))).bind fun _=>
  (some (IntKind.i64.wrap (i8+(wN .i64 1 (IntKind.i64.wrap (15-e37)))))).bind fun x4=>
  qS N d L5 kk fuel (l27,x4,IntKind.i64.wrap (i9+1))) (
  kk (l25,i8,i9))
def pH (N:Nat) (d:List Int) (kk:(List Int × Int × Int)→Option (List (List UInt8) × Int)):Nat→(List Int × Int × Int)→Option (List (List UInt8) × Int)
 | 0,_=>none
 | fuel+1,(l7,b,i4)=>
  cond (decide (i4<b)) (
  uO N d (fun (l22,j9)=>
  (some (IntKind.i64.wrap (i4+1))).bind fun i6=>
  pH N d kk fuel (l22,b,i6)) N (l7,i4)) (
  kk (l7,b,i4))
def sV (N:Nat) (d:List Int) (kk:(List Int × Int)→Option (List (List UInt8) × Int)):Nat→(List Int × Int)→Option (List (List UInt8) × Int)
 | 0,_=>none
 | fuel+1,(l3,i)=>
  cond (decide (i<(d.length:Int))) (
  (idx d i).bind fun e3=>
  cond (decide (0<e3)) (
  (app 8 l3 ([i]:List Int)).bind fun l5=>
  sV N d kk fuel (l5,IntKind.i64.wrap (i+1))) (
  sV N d kk fuel (l3,IntKind.i64.wrap (i+1)))) (
  kk (l3,i))
def wT (N:Nat) (d:List Int):Option (List (List UInt8) × Int):=
 (zU N d).bind fun r2=>
 cond (!decide (r2=0)) (
 some (([]:List (List UInt8)),r2)) (
 sV N d (fun (l6,i2)=>
 cond (decide (20≤(l6.length:Int))) none (
 (some (IntKind.i64.wrap (0+1))).bind fun i3=>
 pH N d (fun (L5,b2,i7)=>
 (F9 l6 L5).bind fun _=>
 cond (decide (20<(L5.length:Int))) none (
 (F9 l6 L5).bind fun _=>
 (F9 l6 L5).bind fun _=>
 (some ((d.length:Int))).bind fun x2=>
 (mk 16 x2 (([]:List UInt8):List UInt8)).bind fun l24=>
 qS N d L5 (fun (l28,Ld,i11)=>
 some (l28,0)) N (l24,0,0))) N (l6,(l6.length:Int),i3))) N (([]:List Int),0))
def BS (N:Nat) (dM fN:Int) (gI:List Int) (o p2:Int):Option Int:=
 (nz dM).bind fun _=>
 (nz dM).bind fun _=>
 cond (decide (p2=0)) (
 some 32768) (
 cond (decide ((IntKind.i64.wrap (Int.tdiv p2 dM))=0)) (
 (idx gI (IntKind.i64.wrap (p2-1))).bind fun e=>
 some e) (
 cond (decide ((Int.tmod p2 dM)=0)) (
 (idx gI (IntKind.i64.wrap (p2-dM))).bind fun e2=>
 some e2) (
 (idx gI (IntKind.i64.wrap (p2-1))).bind fun e3=>
 (idx gI (IntKind.i64.wrap (p2-dM))).bind fun e4=>
 (idx gI (IntKind.i64.wrap ((IntKind.i64.wrap (p2-dM))-1))).bind fun e5=>
 (idx [0,e3,e4,e5,IntKind.i64.wrap ((IntKind.i64.wrap (e3+e4))-e5),IntKind.i64.wrap (e3+(rL .i64 (IntKind.i64.wrap (e4-e5)) 1)),IntKind.i64.wrap (e4+(rL .i64 (IntKind.i64.wrap (e3-e5)) 1)),rL .i64 (IntKind.i64.wrap (e3+e4)) 1] o).bind fun e6=>
 some e6)))
def yG (N:Nat) (x2:Int):Option Int:=
 cond (decide (4294967296≤x2)) (
 (some (rL .u64 x2 32)).bind fun x3=>
 cond (decide (65536≤x3)) (
 (some (rL .u64 x3 16)).bind fun x4=>
 (some (IntKind.i64.wrap (32+16))).bind fun n=>
 cond (decide (256≤x4)) (
 (some (rL .u64 x4 8)).bind fun x5=>
 (some (IntKind.i64.wrap (n+8))).bind fun n2=>
 (idx OP (IntKind.u8.wrap x5)).bind fun b=>
 (some (IntKind.i64.wrap (n2+(IntKind.i64.wrap (b.toNat:Int))))).bind fun n3=>
 some n3) (
 (idx OP (IntKind.u8.wrap x4)).bind fun b2=>
 (some (IntKind.i64.wrap (n+(IntKind.i64.wrap (b2.toNat:Int))))).bind fun n4=>
 some n4)) (
 cond (decide (256≤x3)) (
 (some (rL .u64 x3 8)).bind fun x6=>
 (some (IntKind.i64.wrap (32+8))).bind fun n5=>
 (idx OP (IntKind.u8.wrap x6)).bind fun b3=>
 (some (IntKind.i64.wrap (n5+(IntKind.i64.wrap (b3.toNat:Int))))).bind fun n6=>
 some n6) (
 (idx OP (IntKind.u8.wrap x3)).bind fun b4=>
 (some (IntKind.i64.wrap (32+(IntKind.i64.wrap (b4.toNat:Int))))).bind fun n7=>
 some n7))) (
 cond (decide (65536≤x2)) (
 (some (rL .u64 x2 16)).bind fun x7=>
 (some (IntKind.i64.wrap (0+16))).bind fun n8=>
 cond (decide (256≤x7)) (
 (some (rL .u64 x7 8)).bind fun x8=>
 (some (IntKind.i64.wrap (n8+8))).bind fun n9=>
 (idx OP (IntKind.u8.wrap x8)).bind fun b5=>
 (some (IntKind.i64.wrap (n9+(IntKind.i64.wrap (b5.toNat:Int))))).bind fun n10=>
 some n10) (
 (idx OP (IntKind.u8.wrap x7)).bind fun b6=>
 (some (IntKind.i64.wrap (n8+(IntKind.i64.wrap (b6.toNat:Int))))).bind fun n11=>
 some n11)) (
 cond (decide (256≤x2)) (
 (some (rL .u64 x2 8)).bind fun x9=>
 (some (IntKind.i64.wrap (0+8))).bind fun n12=>
 (idx OP (IntKind.u8.wrap x9)).bind fun b7=>
 (some (IntKind.i64.wrap (n12+(IntKind.i64.wrap (b7.toNat:Int))))).bind fun n13=>
 some n13) (
 (idx OP (IntKind.u8.wrap x2)).bind fun b8=>
 (some (IntKind.i64.wrap (0+(IntKind.i64.wrap (b8.toNat:Int))))).bind fun n14=>
 some n14)))
def sW (N:Nat) (x2:Int):Option Int:=
 (yG N x2).bind fun r2=>
 some r2
def EU (N:Nat) (b:List UInt8):Option Bool:=
 (yM N b ([48,49]:List UInt8)).bind fun r2=>
 cond (decide (r2=([]:List UInt8))) (
 (uJ N b ([48]:List UInt8)).bind fun r3=>
 (uJ N b ([49]:List UInt8)).bind fun r4=>
 some (decide ((IntKind.i64.wrap (r3+r4))=(b.length:Int)))) (
 some false)
def uP (N:Nat) (b:List UInt8) (kk:(List Int × Int)→Option (List UInt8 × Int)):Nat→(List Int × Int)→Option (List UInt8 × Int)
 | 0,_=>none
 | fuel+1,(l3,i)=>
  cond (decide (i<(b.length:Int))) (
  (some (IntKind.i64.wrap (Int.tdiv i 8))).bind fun x4=>
  (idx l3 x4).bind fun e3=>
  (idx b i).bind fun b3=>
  (nn (IntKind.i64.wrap (7-(Int.tmod i 8)))).bind fun _=>
  (idx l3 x4).bind fun e4=>
  (yK l3 x4 (Ty .u8 e3 (wN .u8 (IntKind.u8.wrap ((b3.toNat:Int)-48)) (IntKind.i64.wrap (7-(Int.tmod i 8)))))).bind fun l5=>
  uP N b kk fuel (l5,IntKind.i64.wrap (i+1))) (
  kk (l3,i))
def zV (N:Nat) (b:List UInt8):Option (List UInt8 × Int):=
 (EU N b).bind fun r2=>
 cond (!(r2)) (
 some (([]:List UInt8),1)) (
 (some (IntKind.i64.wrap (Int.tdiv (IntKind.i64.wrap ((b.length:Int)+7)) 8))).bind fun x2=>
 (mk 1 x2 (0:Int)).bind fun l2=>
 uP N b (fun (l6,i2)=>
 some (toB l6,0)) N (l2,0))
def gN (N:Nat) (dM fN:Int) (gI:List Int) (o:Int) (r3:List (List UInt8) × Int) (kk:(List UInt8 × Int)→Option (List UInt8 × Int)):Nat→(List UInt8 × Int)→Option (List UInt8 × Int)
 | 0,_=>none
 | fuel+1,(l2,i)=>
  cond (decide (i<(gI.length:Int))) (
  (idx gI i).bind fun e6=>
  (BS N dM fN gI o i).bind fun yP=>
  (some (IntKind.i64.wrap (IntKind.u16.wrap (IntKind.i64.wrap (e6-yP))))).bind fun x6=>
  cond (decide (32768<x6)) (
  (some (IntKind.i64.wrap (x6-65536))).bind fun x7=>
  (sW N (IntKind.u64.wrap (max x7 (IntKind.i64.wrap (0-x7))))).bind fun Ae=>
  cond (decide ((r3.1.length:Int)≤Ae)) (
  some (([]:List UInt8),4)) (
  (idx r3.1 Ae).bind fun e7=>
  cond (decide (e7=([]:List UInt8))) (
  some (([]:List UInt8),4)) (
  (idx r3.1 Ae).bind fun e8=>
  (U0 l2 e8).bind fun b7=>
  cond (decide (0<Ae)) (
  cond (decide (Ae<16)) (
  cond (decide (x7<0)) (
  (nn Ae).bind fun _=>
  (some (IntKind.i64.wrap (x7+(IntKind.i64.wrap ((wN .i64 1 Ae)-1))))).bind fun x8=>
  (oU N x8 Ae).bind fun DX=>
  (U0 b7 DX.1).bind fun b8=>
  gN N dM fN gI o r3 kk fuel (b8,IntKind.i64.wrap (i+1))) (
  (oU N x7 Ae).bind fun Ll=>
  (U0 b7 Ll.1).bind fun b9=>
  gN N dM fN gI o r3 kk fuel (b9,IntKind.i64.wrap (i+1)))) (
  gN N dM fN gI o r3 kk fuel (b7,IntKind.i64.wrap (i+1)))) (
  gN N dM fN gI o r3 kk fuel (b7,IntKind.i64.wrap (i+1)))))) (
  (sW N (IntKind.u64.wrap (max x6 (IntKind.i64.wrap (0-x6))))).bind fun GZ=>
  cond (decide ((r3.1.length:Int)≤GZ)) (
  some (([]:List UInt8),4)) (
  (idx r3.1 GZ).bind fun e9=>
  cond (decide (e9=([]:List UInt8))) (
  some (([]:List UInt8),4)) (
  (idx r3.1 GZ).bind fun e10=>
  (U0 l2 e10).bind fun b10=>
  cond (decide (0<GZ)) (
  cond (decide (GZ<16)) (
  cond (decide (x6<0)) (
  (nn GZ).bind fun _=>
  (some (IntKind.i64.wrap (x6+(IntKind.i64.wrap ((wN .i64 1 GZ)-1))))).bind fun x9=>
  (oU N x9 GZ).bind fun r16=>
  (U0 b10 r16.1).bind fun b11=>
  gN N dM fN gI o r3 kk fuel (b11,IntKind.i64.wrap (i+1))) (
  (oU N x6 GZ).bind fun Qb=>
  (U0 b10 Qb.1).bind fun b12=>
  gN N dM fN gI o r3 kk fuel (b12,IntKind.i64.wrap (i+1)))) (
  gN N dM fN gI o r3 kk fuel (b10,IntKind.i64.wrap (i+1)))) (
  gN N dM fN gI o r3 kk fuel (b10,IntKind.i64.wrap (i+1))))))) (
  kk (l2,i))
def BT (N:Nat) (dM fN:Int) (gI:List Int) (o:Int) (p2:List Int):Option (List UInt8 × Int):=
 (Dk N dM fN gI).bind fun r2=>
 cond (!(r2)) (
 some (([]:List UInt8),1)) (
 cond (decide (o<1)) (
 some (([]:List UInt8),6)) (
 cond (decide (7<o)) (
 some (([]:List UInt8),6)) (
 (wT N p2).bind fun r3=>
 cond (!decide (r3.2=0)) (
 some (([]:List UInt8),r3.2)) (
 gN N dM fN gI o r3 (fun (l3,i2)=>
 (zV N l3).bind fun TE=>
 some (TE.1,0)) N (([]:List UInt8),0)))))
def vD (N:Nat) (iI lL:Int) (kI:List Int) (vO:Int) (xU:List Int) (r9:List (Int × Int)) (kk:(List (List UInt8) × Int)→Option (Int × Int × Int × Int × Int × List Int × List (List UInt8) × Int × Int × Int × Int × Int × Int × List (Int × Int) × Int × Int × Int × Int × Int × Int × Int × Int × Int × Int × Int × Int × List (Int × Int) × Int × Int)):Nat→(List (List UInt8) × Int)→Option (Int × Int × Int × Int × Int × List Int × List (List UInt8) × Int × Int × Int × Int × Int × Int × List (Int × Int) × Int × Int × Int × Int × Int × Int × Int × Int × Int × Int × Int × Int × List (Int × Int) × Int × Int)
 | 0,_=>none
 | fuel+1,(kJ,i)=>
  cond (decide (i<(r9.length:Int))) (
  (idx r9 i).bind fun e2=>
  (Tz xU (IntKind.i64.wrap (e2.1*vO)) (IntKind.i64.wrap ((IntKind.i64.wrap (e2.1+e2.2))*vO))).bind fun l3=>
  (Dj N l3 iI).bind fun Ae=>
  cond (decide (0<lL)) (
  (BT N vO e2.2 l3 lL kI).bind fun DX=>
  cond (!decide (DX.2=0)) (
  some (0,0,0,0,0,([]:List Int),([]:List (List UInt8)),0,0,0,0,0,0,([]:List (Int × Int)),0,0,0,0,0,0,0,0,0,0,0,0,([]:List (Int × Int)),0,DX.2)) (
  (app 16 kJ (([DX.1]:List (List UInt8)))).bind fun Lm=>
  vD N iI lL kI vO xU r9 kk fuel (Lm,IntKind.i64.wrap (i+1)))) (
  cond (!decide (Ae.2=0)) (
  some (0,0,0,0,0,([]:List Int),([]:List (List UInt8)),0,0,0,0,0,0,([]:List (Int × Int)),0,0,0,0,0,0,0,0,0,0,0,0,([]:List (Int × Int)),0,Ae.2)) (
  (app 16 kJ (([Ae.1]:List (List UInt8)))).bind fun Ln=>
  vD N iI lL kI vO xU r9 kk fuel (Ln,IntKind.i64.wrap (i+1))))) (
  kk (kJ,i))
def CJ (N:Nat) (dM fN iI lL hZ:Int) (kI:List Int) (fI:List (List UInt8)) (dO cQ cR cU cV dP:Int) (cM:List (Int × Int)) (cW cZ dA cA cB cC cD cE cG cH cJ cK:Int) (cN:List (Int × Int)) (dB vO Ab:Int) (xU:List Int):Option (Int × Int × Int × Int × Int × List Int × List (List UInt8) × Int × Int × Int × Int × Int × Int × List (Int × Int) × Int × Int × Int × Int × Int × Int × Int × Int × Int × Int × Int × Int × List (Int × Int) × Int × Int):=
 (EK N dM fN iI lL hZ kI fI dO cQ cR cU cV dP cM cW cZ dA cA cB cC cD cE cG cH cJ cK cN dB).bind fun r2=>
 cond (!decide (r2=0)) (
 some (0,0,0,0,0,([]:List Int),([]:List (List UInt8)),0,0,0,0,0,0,([]:List (Int × Int)),0,0,0,0,0,0,0,0,0,0,0,0,([]:List (Int × Int)),0,r2)) (
 (ET N dM fN iI lL hZ kI fI dO cQ cR cU cV dP cM cW cZ dA cA cB cC cD cE cG cH cJ cK cN dB).bind fun r3=>
 cond (!decide (r3=0)) (
 some (0,0,0,0,0,([]:List Int),([]:List (List UInt8)),0,0,0,0,0,0,([]:List (Int × Int)),0,0,0,0,0,0,0,0,0,0,0,0,([]:List (Int × Int)),0,r3)) (
 (gJ N vO Ab xU (([]:List (Int × Int)))).bind fun r4=>
 cond (!decide (r4.2.2.2=0)) (
 some (0,0,0,0,0,([]:List Int),([]:List (List UInt8)),0,0,0,0,0,0,([]:List (Int × Int)),0,0,0,0,0,0,0,0,0,0,0,0,([]:List (Int × Int)),0,1)) (
 cond (!decide (vO=dM)) (
 some (0,0,0,0,0,([]:List Int),([]:List (List UInt8)),0,0,0,0,0,0,([]:List (Int × Int)),0,0,0,0,0,0,0,0,0,0,0,0,([]:List (Int × Int)),0,1)) (
 cond (!decide (Ab=fN)) (
 some (0,0,0,0,0,([]:List Int),([]:List (List UInt8)),0,0,0,0,0,0,([]:List (Int × Int)),0,0,0,0,0,0,0,0,0,0,0,0,([]:List (Int × Int)),0,1)) (
 (rA N xU).bind fun r5=>
 (nn iI).bind fun _=>
 cond (decide (0<(rL .i64 r5 iI))) (
 some (0,0,0,0,0,([]:List Int),([]:List (List UInt8)),0,0,0,0,0,0,([]:List (Int × Int)),0,0,0,0,0,0,0,0,0,0,0,0,([]:List (Int × Int)),0,1)) (
 (pM N kI).bind fun r6=>
 (jN N cM).bind fun r7=>
 (iO N cN).bind fun r8=>
 (Ej N dM fN iI lL hZ kI fI dO cQ cR cU cV dP cM cW cZ dA cA cB cC cD cE cG cH cJ cK cN dB).bind fun r9=>
 vD N iI lL kI vO xU r9 (fun (IG,i2)=>
 some (dM,fN,iI,lL,hZ,r6,IG,dO,cQ,cR,cU,cV,dP,r7,cW,cZ,dA,cA,cB,cC,cD,cE,cG,cH,cJ,cK,r8,dB,0)) N (([]:List (List UInt8)),0)))))))
def aL (N:Nat) (n low high:Int):Option Bool:=
 cond (decide (low≤n)) (
 some (decide (n≤high))) (
 some false)
def iJ (N:Nat) (lens:List Int) (kk:(Int × Bool × Int)→Option Int):Nat→(Int × Bool × Int)→Option Int
 | 0,_=>none
 | fuel+1,(sum,used,i)=>
  cond (decide (i<(lens.length:Int))) (
  (idx lens i).bind fun e4=>
  (aL N e4 0 15).bind fun r4=>
  cond (!(r4)) (
  some 3) (
  (idx lens i).bind fun e5=>
  cond (decide (0<e5)) (
  (idx lens i).bind fun e6=>
  (nn (IntKind.i64.wrap (15-e6))).bind fun _=>
  (some (IntKind.i64.wrap (sum+(wN .i64 1 (IntKind.i64.wrap (15-e6)))))).bind fun aEf=>
  (some (IntKind.i64.wrap (i+1))).bind fun i4=>
  iJ N lens kk fuel (aEf,true,i4)) (
  (some (IntKind.i64.wrap (i+1))).bind fun i5=>
  iJ N lens kk fuel (sum,used,i5)))) (
  kk (sum,used,i))
def j1 (N:Nat) (lens:List Int):Option Int:=
 (aL N (lens.length:Int) 1 17).bind fun r2=>
 cond (!(r2)) (
 some 2) (
 iJ N lens (fun (aBn,U1,i6)=>
 cond (!(U1)) (
 some 1) (
 cond (decide (32768<aBn)) (
 some 1) (
 some 0))) N (0,false,0))
def oV (N:Nat) (C4 wL dN gO dI:Int) (eO:List Int) (cL:List (List UInt8)) (bJ aX aY aZ a7 bK:Int) (aH:List (Int × Int)) (a8 bA bB aO aP aQ aR aS aT aU aV aW:Int) (aI:List (Int × Int)) (bC:Int):Option Int:=
 (aL N C4 1 64).bind fun r2=>
 cond (!(r2)) (
 some 3) (
 (aL N wL 1 64).bind fun r3=>
 cond (!(r3)) (
 some 3) (
 (aL N dN 1 16).bind fun r4=>
 cond (!(r4)) (
 some 3) (
 (aL N dI 1 wL).bind fun r5=>
 cond (!(r5)) (
 some 3) (
 (aL N gO 0 7).bind fun r6=>
 cond (!(r6)) (
 some 6) (
 cond (decide (gO=0)) (
 cond (decide (0<(eO.length:Int))) (
 some 1) (
 cond (decide (0<gO)) (
 (j1 N eO).bind fun r7=>
 some r7) (
 some 0))) (
 cond (decide (0<gO)) (
 (j1 N eO).bind fun r8=>
 some r8) (
 some 0)))))))
def lB (N:Nat) (l2:List (Int × Int)) (w2 h2:Int) (kk:Int→Option Bool):Nat→Int→Option Bool
 | 0,_=>none
 | fuel+1,i=>
  cond (decide (i<(l2.length:Int))) (
  (idx l2 i).bind fun e3=>
  (aL N e3.1 0 (IntKind.i64.wrap (w2-1))).bind fun r4=>
  cond (!(r4)) (
  some false) (
  (idx l2 i).bind fun e4=>
  (aL N e4.2 0 (IntKind.i64.wrap (h2-1))).bind fun r5=>
  cond (!(r5)) (
  some false) (
  (some (IntKind.i64.wrap (i+1))).bind fun i3=>
  lB N l2 w2 h2 kk fuel i3))) (
  kk i)
def p9 (N:Nat) (l2:List (Int × Int)) (w2 h2:Int):Option Bool:=
 lB N l2 w2 h2 (fun i4=>
 some true) N 0
def lC (N:Nat) (m0 m1 m2 m3 m4 m5 m6 m7 m8:Int) (kk:Int→Option Bool):Nat→Int→Option Bool
 | 0,_=>none
 | fuel+1,i=>
  cond (decide (i<9)) (
  (inr i 9).bind fun _=>
  (idx [m0,m1,m2,m3,m4,m5,m6,m7,m8] i).bind fun e2=>
  (aL N e2 (-32768) 32768).bind fun r3=>
  cond (!(r3)) (
  some false) (
  (some (IntKind.i64.wrap (i+1))).bind fun i3=>
  lC N m0 m1 m2 m3 m4 m5 m6 m7 m8 kk fuel i3)) (
  kk i)
def qA (N:Nat) (m0 m1 m2 m3 m4 m5 m6 m7 m8:Int):Option Bool:=
 lC N m0 m1 m2 m3 m4 m5 m6 m7 m8 (fun i4=>
 some true) N 0
def iK (N:Nat) (d:List (Int × Int)) (kk:Int→Option Bool):Nat→Int→Option Bool
 | 0,_=>none
 | fuel+1,i=>
  cond (decide (i<(d.length:Int))) (
  (idx d i).bind fun e8=>
  (aL N e8.2 0 65535).bind fun r4=>
  cond (!(r4)) (
  some false) (
  cond (decide (0<i)) (
  (idx d i).bind fun e9=>
  (idx d (IntKind.i64.wrap (i-1))).bind fun e10=>
  cond (decide (e9.1≤e10.1)) (
  some false) (
  (idx d i).bind fun e11=>
  (idx d (IntKind.i64.wrap (i-1))).bind fun e12=>
  cond (decide (e11.2<e12.2)) (
  some false) (
  (some (IntKind.i64.wrap (i+1))).bind fun x4=>
  iK N d kk fuel x4))) (
  (some (IntKind.i64.wrap (i+1))).bind fun x5=>
  iK N d kk fuel x5))) (
  kk i)
def gP (N:Nat) (d:List (Int × Int)):Option Bool:=
 (aL N (d.length:Int) 2 16).bind fun r2=>
 cond (!(r2)) (
 some false) (
 (idx d 0).bind fun e=>
 cond (!decide (e.1=0)) (
 some false) (
 (idx d (IntKind.i64.wrap ((d.length:Int)-1))).bind fun e2=>
 cond (!decide (e2.1=65535)) (
 some false) (
 iK N d (fun i2=>
 some true) N 0)))
def eD (N:Nat) (Fu Fv Fw:Int) (kk:Int→Option Int):Nat→Int→Option Int
 | 0,_=>none
 | fuel+1,i3=>
  cond (decide (i3<3)) (
  (inr i3 3).bind fun _=>
  (idx [Fu,Fv,Fw] i3).bind fun e4=>
  (aL N e4 0 65535).bind fun Di=>
  cond (!(Di)) (
  some 3) (
  (some (IntKind.i64.wrap (i3+1))).bind fun x5=>
  eD N Fu Fv Fw kk fuel x5)) (
  kk i3)
def eE (N:Nat) (Fq Fr Fs Ft dc:Int) (kk:Int→Option Int):Nat→Int→Option Int
 | 0,_=>none
 | fuel+1,i=>
  cond (decide (i<4)) (
  (inr i 4).bind fun _=>
  (idx [Fq,Fr,Fs,Ft] i).bind fun e2=>
  (aL N e2 0 (IntKind.i64.wrap (dc-1))).bind fun r8=>
  cond (!(r8)) (
  some 3) (
  (some (IntKind.i64.wrap (i+1))).bind fun x3=>
  eE N Fq Fr Fs Ft dc kk fuel x3)) (
  kk i)
def oX (N:Nat) (da Fq Fr Fs Ft dc:Int) (dd:List (Int × Int)) (Fu Fv Fw Gd Ge df2 Gf Gg Gh Gi Gj Gk:Int) (dg:List (Int × Int)) (dh:Int):Option Int:=
 (aL N da 0 3).bind fun r2=>
 cond (!(r2)) (
 some 3) (
 (aL N dc 1 65535).bind fun r3=>
 cond (!(r3)) (
 some 3) (
 cond (decide (64<(dd.length:Int))) (
 some 3) (
 (p9 N dd 64 64).bind fun r4=>
 cond (!(r4)) (
 some 3) (
 (qA N Gd Ge df2 Gf Gg Gh Gi Gj Gk).bind fun r5=>
 cond (!(r5)) (
 some 3) (
 (aL N dh 0 1024).bind fun r6=>
 cond (!(r6)) (
 some 3) (
 eE N Fq Fr Fs Ft dc (fun i2=>
 eD N Fu Fv Fw (fun i4=>
 (gP N dg).bind fun yP=>
 cond (!(yP)) (
 some 1) (
 some 0)) N 0) N 0))))))
def oY (N:Nat) (C4 wL dN gO dI:Int) (eO:List Int) (cL:List (List UInt8)) (bJ aX aY aZ a7 bK:Int) (aH:List (Int × Int)) (a8 bA bB aO aP aQ aR aS aT aU aV aW:Int) (aI:List (Int × Int)) (bC:Int):Option Int:=
 (oX N bJ aX aY aZ a7 bK aH a8 bA bB aO aP aQ aR aS aT aU aV aW aI bC).bind fun r2=>
 cond (!decide (r2=0)) (
 some r2) (
 (p9 N aH C4 wL).bind fun r3=>
 cond (!(r3)) (
 some 3) (
 some 0))
def eU (N:Nat) (eI:List Int) (kk:Int→Option Bool):Nat→Int→Option Bool
 | 0,_=>none
 | fuel+1,i=>
  cond (decide (i<(eI.length:Int))) (
  (idx eI i).bind fun e2=>
  (aL N e2 0 65535).bind fun r5=>
  cond (!(r5)) (
  some false) (
  (some (IntKind.i64.wrap (i+1))).bind fun i3=>
  eU N eI kk fuel i3)) (
  kk i)
def dE (N:Nat) (gD jA:Int) (eI:List Int):Option Bool:=
 (aL N gD 1 64).bind fun r2=>
 cond (!(r2)) (
 some false) (
 (aL N jA 1 64).bind fun r3=>
 cond (!(r3)) (
 some false) (
 cond (!decide ((eI.length:Int)=(IntKind.i64.wrap (gD*jA)))) (
 some false) (
 eU N eI (fun i4=>
 some true) N 0)))
def lD (N:Nat) (l2:List Int) (depth:Int) (kk:Int→Option Bool):Nat→Int→Option Bool
 | 0,_=>none
 | fuel+1,i=>
  cond (decide (i<(l2.length:Int))) (
  (idx l2 i).bind fun e2=>
  (nn depth).bind fun _=>
  cond (decide ((IntKind.i64.wrap ((wN .i64 1 depth)-1))<e2)) (
  some false) (
  (some (IntKind.i64.wrap (i+1))).bind fun i3=>
  lD N l2 depth kk fuel i3)) (
  kk i)
def qB (N:Nat) (l2:List Int) (depth:Int):Option Bool:=
 lD N l2 depth (fun i4=>
 some true) N 0
def rB (N:Nat) (C4 wL dN gO dI:Int) (eO:List Int) (cL:List (List UInt8)) (bJ aX aY aZ a7 bK:Int) (aH:List (Int × Int)) (a8 bA bB aO aP aQ aR aS aT aU aV aW:Int) (aI:List (Int × Int)) (bC:Int):Option (Int × Int × Int × Int × Int × List Int × List (List UInt8) × Int × Int × Int × Int × Int × Int × List (Int × Int) × Int × Int × Int × Int × Int × Int × Int × Int × Int × Int × Int × Int × List (Int × Int) × Int):=
 (app 8 ([]:List Int) eO).bind fun l2=>
 (app 16 (([]:List (List UInt8))) cL).bind fun l3=>
 (app 16 (([]:List (Int × Int))) aH).bind fun l4=>
 (app 16 (([]:List (Int × Int))) aI).bind fun l5=>
 some (C4,wL,dN,gO,dI,l2,l3,bJ,aX,aY,aZ,a7,bK,l4,a8,bA,bB,aO,aP,aQ,aR,aS,aT,aU,aV,aW,l5,bC)
def sH (N:Nat) (C4 wL dN gO dI:Int) (eO:List Int) (cL:List (List UInt8)) (bJ aX aY aZ a7 bK:Int) (aH:List (Int × Int)) (a8 bA bB aO aP aQ aR aS aT aU aV aW:Int) (aI:List (Int × Int)) (bC:Int):Option Int:=
 (nz dI).bind fun _=>
 some (IntKind.i64.wrap (Int.tdiv (IntKind.i64.wrap ((IntKind.i64.wrap (wL+dI))-1)) dI))
def rD (N:Nat) (C4 wL dN gO dI:Int) (eO:List Int) (cL:List (List UInt8)) (bJ aX aY aZ a7 bK:Int) (aH:List (Int × Int)) (a8 bA bB aO aP aQ aR aS aT aU aV aW:Int) (aI:List (Int × Int)) (bC strip:Int):Option Int:=
 some (min dI (IntKind.i64.wrap (wL-(IntKind.i64.wrap (strip*dI)))))
def jF (N:Nat):Nat→Int→Int→Option (List UInt8)
 | 0,_,_=>none
 | fu+1,n,size=>
  cond (decide (size=0)) (
  some (([]:List UInt8))) (
  (jF N fu (IntKind.i64.wrap (Int.tdiv n 2)) (IntKind.i64.wrap (size-1))).bind fun r2=>
  (Wj r2 (toB (([IntKind.u8.wrap (48+(IntKind.u8.wrap (Int.tmod n 2)))]:List Int)))).bind fun s=>
  some s)
def mM (N:Nat) (n size:Int):Option (List UInt8):=jF N N n size
def jG (N:Nat) (b:List UInt8) (i:Int) (kk:(Int × Int)→Option (List UInt8)):Nat→(Int × Int)→Option (List UInt8)
 | 0,_=>none
 | fuel+1,(n4,k5)=>
  cond (decide (k5<(IntKind.i64.wrap (i+8)))) (
  (some (IntKind.i64.wrap (2*n4))).bind fun n7=>
  cond (decide (k5<(b.length:Int))) (
  (idx b k5).bind fun b4=>
  cond (decide ((b4.toNat:Int)=49)) (
  (some (IntKind.i64.wrap (n7+1))).bind fun n8=>
  (some (IntKind.i64.wrap (k5+1))).bind fun k9=>
  jG N b i kk fuel (n8,k9)) (
  (some (IntKind.i64.wrap (k5+1))).bind fun k10=>
  jG N b i kk fuel (n7,k10))) (
  (some (IntKind.i64.wrap (k5+1))).bind fun k11=>
  jG N b i kk fuel (n7,k11))) (
  kk (n4,k5))
def kK (N:Nat) (b:List UInt8) (kk:(List Int × Int)→Option (List UInt8)):Nat→(List Int × Int)→Option (List UInt8)
 | 0,_=>none
 | fuel+1,(l2,i)=>
  cond (decide (i<(b.length:Int))) (
  jG N b i (fun (n9,k12)=>
  (app 1 l2 ([IntKind.u8.wrap n9]:List Int)).bind fun l4=>
  (some (IntKind.i64.wrap (i+8))).bind fun i3=>
  kK N b kk fuel (l4,i3)) N (0,i)) (
  kk (l2,i))
def jT (N:Nat) (b:List UInt8):Option (List UInt8):=
 (mok 1 (IntKind.i64.wrap ((IntKind.i64.wrap (Int.tdiv (b.length:Int) 8))+1))).bind fun _=>
 kK N b (fun (l5,i4)=>
 some (toB l5)) N (([]:List Int),0)
def lY (N:Nat) (l2:List Int) (depth:Int) (kk:(List Int × Int)→Option (List UInt8)):Nat→(List Int × Int)→Option (List UInt8)
 | 0,_=>none
 | fuel+1,(l4,i2)=>
  cond (decide (i2<(l2.length:Int))) (
  (idx l2 i2).bind fun e3=>
  (mM N e3 depth).bind fun r4=>
  (app 1 l4 (Cc r4)).bind fun l6=>
  (some (IntKind.i64.wrap (i2+1))).bind fun i4=>
  lY N l2 depth kk fuel (l6,i4)) (
  kk (l4,i2))
def rE (N:Nat) (l2:List Int) (depth:Int):Option (List UInt8):=
 lY N l2 depth (fun (l7,i5)=>
 (jT N (toB l7)).bind fun r5=>
 some r5) N (([]:List Int),0)
def jP (N:Nat) (lens:List Int) (size:Int) (kk:(List (List UInt8) × Int × Int × Int)→Option (List (List UInt8))):Nat→(List (List UInt8) × Int × Int × Int)→Option (List (List UInt8))
 | 0,_=>none
 | fuel+1,(l6,L6,last3,i4)=>
  cond (decide (i4<(lens.length:Int))) (
  (idx lens i4).bind fun e5=>
  cond (!decide (e5=size)) (
  (some (IntKind.i64.wrap (i4+1))).bind fun i7=>
  jP N lens size kk fuel (l6,L6,last3,i7)) (
  (nn (IntKind.i64.wrap (size-last3))).bind fun _=>
  (some (wN .i64 L6 (IntKind.i64.wrap (size-last3)))).bind fun Yc=>
  (mM N Yc size).bind fun r4=>
  (idx l6 i4).bind fun e6=>
  (yK l6 i4 r4).bind fun l8=>
  (some (IntKind.i64.wrap (Yc+1))).bind fun Yd=>
  (some (IntKind.i64.wrap (i4+1))).bind fun i8=>
  jP N lens size kk fuel (l8,Yd,size,i8))) (
  kk (l6,L6,last3,i4))
def lE (N:Nat) (lens:List Int) (kk:(List (List UInt8) × Int × Int × Int)→Option (List (List UInt8))):Nat→(List (List UInt8) × Int × Int × Int)→Option (List (List UInt8))
 | 0,_=>none
 | fuel+1,(l3,next,last,size)=>
  cond (decide (size≤15)) (
  jP N lens size (fun (l9,TF,Ye,i9)=>
  (some (IntKind.i64.wrap (size+1))).bind fun Yf=>
  lE N lens kk fuel (l9,TF,Ye,Yf)) N (l3,next,last,0)) (
  kk (l3,next,last,size))
def oE (N:Nat) (lens:List Int):Option (List (List UInt8)):=
 (some ((lens.length:Int))).bind fun x2=>
 (mk 16 x2 (([]:List UInt8):List UInt8)).bind fun l2=>
 lE N lens (fun (l10,aEg,aGp,aGq)=>
 some l10) N (l2,0,0,1)
def bL (N:Nat) (gD jA:Int) (eI:List Int) (x2 y:Int):Option Int:=
 (idx eI (IntKind.i64.wrap ((IntKind.i64.wrap (y*gD))+x2))).bind fun e=>
 some e
def bD (N:Nat) (n byA:Int):Option Int:=
 (nz byA).bind fun _=>
 (some (IntKind.i64.wrap (Int.tdiv n byA))).bind fun q=>
 cond (decide (n<(IntKind.i64.wrap (q*byA)))) (
 (some (IntKind.i64.wrap (q-1))).bind fun q2=>
 some q2) (
 some q)
def qC (N:Nat) (dM fN:Int) (gI:List Int) (o p2 p3:Int):Option Int:=
 cond (decide (p2=0)) (
 cond (decide (p3=0)) (
 some 32768) (
 cond (decide (p3=0)) (
 (bL N dM fN gI (IntKind.i64.wrap (p2-1)) 0).bind fun r2=>
 some r2) (
 cond (decide (p2=0)) (
 (bL N dM fN gI 0 (IntKind.i64.wrap (p3-1))).bind fun r3=>
 some r3) (
 (bL N dM fN gI (IntKind.i64.wrap (p2-1)) p3).bind fun r4=>
 (bL N dM fN gI p2 (IntKind.i64.wrap (p3-1))).bind fun r5=>
 (bL N dM fN gI (IntKind.i64.wrap (p2-1)) (IntKind.i64.wrap (p3-1))).bind fun r6=>
 cond (decide (o=1)) (
 some r4) (
 cond (decide (o=2)) (
 some r5) (
 cond (decide (o=3)) (
 some r6) (
 cond (decide (o=4)) (
 some (IntKind.i64.wrap ((IntKind.i64.wrap (r4+r5))-r6))) (
 cond (decide (o=5)) (
 (bD N (IntKind.i64.wrap (r5-r6)) 2).bind fun r7=>
 some (IntKind.i64.wrap (r4+r7))) (
 cond (decide (o=6)) (
 (bD N (IntKind.i64.wrap (r4-r6)) 2).bind fun r8=>
 some (IntKind.i64.wrap (r5+r8))) (
 (bD N (IntKind.i64.wrap (r4+r5)) 2).bind fun r9=>
 some r9)))))))))) (
 cond (decide (p3=0)) (
 (bL N dM fN gI (IntKind.i64.wrap (p2-1)) 0).bind fun Di=>
 some Di) (
 cond (decide (p2=0)) (
 (bL N dM fN gI 0 (IntKind.i64.wrap (p3-1))).bind fun yP=>
 some yP) (
 (bL N dM fN gI (IntKind.i64.wrap (p2-1)) p3).bind fun Ae=>
 (bL N dM fN gI p2 (IntKind.i64.wrap (p3-1))).bind fun DX=>
 (bL N dM fN gI (IntKind.i64.wrap (p2-1)) (IntKind.i64.wrap (p3-1))).bind fun Ll=>
 cond (decide (o=1)) (
 some Ae) (
 cond (decide (o=2)) (
 some DX) (
 cond (decide (o=3)) (
 some Ll) (
 cond (decide (o=4)) (
 some (IntKind.i64.wrap ((IntKind.i64.wrap (Ae+DX))-Ll))) (
 cond (decide (o=5)) (
 (bD N (IntKind.i64.wrap (DX-Ll)) 2).bind fun GZ=>
 some (IntKind.i64.wrap (Ae+GZ))) (
 cond (decide (o=6)) (
 (bD N (IntKind.i64.wrap (Ae-Ll)) 2).bind fun r16=>
 some (IntKind.i64.wrap (DX+r16))) (
 (bD N (IntKind.i64.wrap (Ae+DX)) 2).bind fun Qb=>
 some Qb)))))))))
def eP (N:Nat)  (kk:Int→Option Int):Nat→Int→Option Int
 | 0,_=>none
 | fuel+1,d6=>
  cond (decide (d6≤(-32768))) (
  (some (IntKind.i64.wrap (d6+65536))).bind fun d8=>
  eP N  kk fuel d8) (
  kk d6)
def fY (N:Nat)  (kk:Int→Option Int):Nat→Int→Option Int
 | 0,_=>none
 | fuel+1,d2=>
  cond (decide (32768<d2)) (
  (some (IntKind.i64.wrap (d2-65536))).bind fun d4=>
  fY N  kk fuel d4) (
  kk d2)
def oJ (N:Nat) (Qf guess:Int):Option Int:=
 (some (IntKind.i64.wrap (Qf-guess))).bind fun d=>
 fY N  (fun d5=>
 eP N  (fun d9=>
 some d9) N d5) N d
def jH (N:Nat) (gD jA:Int) (eI:List Int) (kind y2:Int) (kk:(List Int × Int)→Option (List Int)):Nat→(List Int × Int)→Option (List Int)
 | 0,_=>none
 | fuel+1,(l8,x7)=>
  cond (decide (x7<gD)) (
  (bL N gD jA eI x7 y2).bind fun Ll=>
  (qC N gD jA eI kind x7 y2).bind fun GZ=>
  (oJ N Ll GZ).bind fun r16=>
  (app 8 l8 ([r16]:List Int)).bind fun l10=>
  (some (IntKind.i64.wrap (x7+1))).bind fun x9=>
  jH N gD jA eI kind y2 kk fuel (l10,x9)) (
  kk (l8,x7))
def gT (N:Nat) (gD jA:Int) (eI:List Int) (kind:Int) (kk:(List Int × Int)→Option (List Int)):Nat→(List Int × Int)→Option (List Int)
 | 0,_=>none
 | fuel+1,(l5,y2)=>
  cond (decide (y2<jA)) (
  jH N gD jA eI kind y2 (fun (Xw,x10)=>
  (some (IntKind.i64.wrap (y2+1))).bind fun y4=>
  gT N gD jA eI kind kk fuel (Xw,y4)) N (l5,0)) (
  kk (l5,y2))
def qD (N:Nat) (gD jA:Int) (eI:List Int) (kind:Int):Option (List Int):=
 gT N gD jA eI kind (fun (l12,y5)=>
 some l12) N (([]:List Int),0)
def lF (N:Nat)  (kk:(Int × Int)→Option Int):Nat→(Int × Int)→Option Int
 | 0,_=>none
 | fuel+1,(n,k2)=>
  cond (decide (0<k2)) (
  (some (IntKind.i64.wrap (n+1))).bind fun n3=>
  (some (IntKind.i64.wrap (Int.tdiv k2 2))).bind fun k4=>
  lF N  kk fuel (n3,k4)) (
  kk (n,k2))
def oF (N:Nat) (d:Int):Option Int:=
 (some (max d (IntKind.i64.wrap (0-d)))).bind fun k=>
 lF N  (fun (n4,k5)=>
 some n4) N (0,k)
def sZ (N:Nat) (d:Int):Option (List UInt8):=
 (oF N d).bind fun r2=>
 cond (decide (r2=0)) (
 some (([]:List UInt8))) (
 cond (decide (r2=16)) (
 some (([]:List UInt8))) (
 cond (decide (0<d)) (
 (mM N d r2).bind fun r3=>
 some r3) (
 (nn r2).bind fun _=>
 (mM N (IntKind.i64.wrap ((IntKind.i64.wrap (d+(wN .i64 1 r2)))-1)) r2).bind fun r4=>
 some r4)))
def j6 (N:Nat) (r5:List (List UInt8)) (r6:List Int) (kk:(List Int × Int)→Option (List UInt8 × Int)):Nat→(List Int × Int)→Option (List UInt8 × Int)
 | 0,_=>none
 | fuel+1,(l4,i)=>
  cond (decide (i<(r6.length:Int))) (
  (idx r6 i).bind fun e9=>
  (oF N e9).bind fun yP=>
  cond (decide ((r5.length:Int)≤yP)) (
  some (([]:List UInt8),4)) (
  (idx r5 yP).bind fun e10=>
  cond (decide (e10=([]:List UInt8))) (
  some (([]:List UInt8),4)) (
  (idx r5 yP).bind fun e11=>
  (app 1 l4 (Cc e11)).bind fun l7=>
  (idx r6 i).bind fun e12=>
  (sZ N e12).bind fun Ae=>
  (app 1 l7 (Cc Ae)).bind fun l8=>
  (some (IntKind.i64.wrap (i+1))).bind fun x4=>
  j6 N r5 r6 kk fuel (l8,x4)))) (
  kk (l4,i))
def oZ (N:Nat) (dM fN:Int) (gI:List Int) (o:Int) (p2:List Int):Option (List UInt8 × Int):=
 (dE N dM fN gI).bind fun r2=>
 cond (!(r2)) (
 some (([]:List UInt8),1)) (
 (aL N o 1 7).bind fun r3=>
 cond (!(r3)) (
 some (([]:List UInt8),6)) (
 (j1 N p2).bind fun r4=>
 cond (!decide (r4=0)) (
 some (([]:List UInt8),r4)) (
 (oE N p2).bind fun r5=>
 (qD N dM fN gI o).bind fun r6=>
 j6 N r5 r6 (fun (l9,i2)=>
 (jT N (toB l9)).bind fun DX=>
 some (DX,0)) N (([]:List Int),0))))
def jQ (N:Nat) (dM fN iI lL hZ:Int) (kI:List Int) (fI:List (List UInt8)) (dO cQ cR cU cV dP:Int) (cM:List (Int × Int)) (cW cZ dA cA cB cC cD cE cG cH cJ cK:Int) (cN:List (Int × Int)) (dB:Int) (xU:List Int) (kk:(List (List UInt8) × Int)→Option (Int × Int × Int × Int × Int × List Int × List (List UInt8) × Int × Int × Int × Int × Int × Int × List (Int × Int) × Int × Int × Int × Int × Int × Int × Int × Int × Int × Int × Int × Int × List (Int × Int) × Int × Int)):Nat→(List (List UInt8) × Int)→Option (Int × Int × Int × Int × Int × List Int × List (List UInt8) × Int × Int × Int × Int × Int × Int × List (Int × Int) × Int × Int × Int × Int × Int × Int × Int × Int × Int × Int × Int × Int × List (Int × Int) × Int × Int)
 | 0,_=>none
 | fuel+1,(kJ,i)=>
  (sH N dM fN iI lL hZ kI fI dO cQ cR cU cV dP cM cW cZ dA cA cB cC cD cE cG cH cJ cK cN dB).bind fun Yg=>
  cond (decide (i<Yg)) (
  (rD N dM fN iI lL hZ kI fI dO cQ cR cU cV dP cM cW cZ dA cA cB cC cD cE cG cH cJ cK cN dB i).bind fun HW=>
  (rD N dM fN iI lL hZ kI fI dO cQ cR cU cV dP cM cW cZ dA cA cB cC cD cE cG cH cJ cK cN dB i).bind fun r21=>
  (Tz xU (IntKind.i64.wrap ((IntKind.i64.wrap (i*hZ))*dM)) (IntKind.i64.wrap ((IntKind.i64.wrap ((IntKind.i64.wrap (i*hZ))+r21))*dM))).bind fun l5=>
  (rE N l5 iI).bind fun Wm=>
  cond (decide (0<lL)) (
  (oZ N dM HW l5 lL kI).bind fun Jz=>
  cond (!decide (Jz.2=0)) (
  some (0,0,0,0,0,([]:List Int),([]:List (List UInt8)),0,0,0,0,0,0,([]:List (Int × Int)),0,0,0,0,0,0,0,0,0,0,0,0,([]:List (Int × Int)),0,Jz.2)) (
  (app 16 kJ (([Jz.1]:List (List UInt8)))).bind fun Lo=>
  (some (IntKind.i64.wrap (i+1))).bind fun x8=>
  jQ N dM fN iI lL hZ kI fI dO cQ cR cU cV dP cM cW cZ dA cA cB cC cD cE cG cH cJ cK cN dB xU kk fuel (Lo,x8))) (
  (app 16 kJ (([Wm]:List (List UInt8)))).bind fun Lp=>
  (some (IntKind.i64.wrap (i+1))).bind fun x9=>
  jQ N dM fN iI lL hZ kI fI dO cQ cR cU cV dP cM cW cZ dA cA cB cC cD cE cG cH cJ cK cN dB xU kk fuel (Lp,x9))) (
  kk (kJ,i))
def qE (N:Nat) (dM fN iI lL hZ:Int) (kI:List Int) (fI:List (List UInt8)) (dO cQ cR cU cV dP:Int) (cM:List (Int × Int)) (cW cZ dA cA cB cC cD cE cG cH cJ cK:Int) (cN:List (Int × Int)) (dB vO Ab:Int) (xU:List Int):Option (Int × Int × Int × Int × Int × List Int × List (List UInt8) × Int × Int × Int × Int × Int × Int × List (Int × Int) × Int × Int × Int × Int × Int × Int × Int × Int × Int × Int × Int × Int × List (Int × Int) × Int × Int):=
 (oV N dM fN iI lL hZ kI fI dO cQ cR cU cV dP cM cW cZ dA cA cB cC cD cE cG cH cJ cK cN dB).bind fun r2=>
 cond (!decide (r2=0)) (
 some (0,0,0,0,0,([]:List Int),([]:List (List UInt8)),0,0,0,0,0,0,([]:List (Int × Int)),0,0,0,0,0,0,0,0,0,0,0,0,([]:List (Int × Int)),0,r2)) (
 (oY N dM fN iI lL hZ kI fI dO cQ cR cU cV dP cM cW cZ dA cA cB cC cD cE cG cH cJ cK cN dB).bind fun r3=>
 cond (!decide (r3=0)) (
 some (0,0,0,0,0,([]:List Int),([]:List (List UInt8)),0,0,0,0,0,0,([]:List (Int × Int)),0,0,0,0,0,0,0,0,0,0,0,0,([]:List (Int × Int)),0,r3)) (
 (dE N vO Ab xU).bind fun r4=>
 cond (!(r4)) (
 some (0,0,0,0,0,([]:List Int),([]:List (List UInt8)),0,0,0,0,0,0,([]:List (Int × Int)),0,0,0,0,0,0,0,0,0,0,0,0,([]:List (Int × Int)),0,1)) (
 cond (!decide (vO=dM)) (
 some (0,0,0,0,0,([]:List Int),([]:List (List UInt8)),0,0,0,0,0,0,([]:List (Int × Int)),0,0,0,0,0,0,0,0,0,0,0,0,([]:List (Int × Int)),0,1)) (
 cond (!decide (Ab=fN)) (
 some (0,0,0,0,0,([]:List Int),([]:List (List UInt8)),0,0,0,0,0,0,([]:List (Int × Int)),0,0,0,0,0,0,0,0,0,0,0,0,([]:List (Int × Int)),0,1)) (
 (qB N xU iI).bind fun r5=>
 cond (!(r5)) (
 some (0,0,0,0,0,([]:List Int),([]:List (List UInt8)),0,0,0,0,0,0,([]:List (Int × Int)),0,0,0,0,0,0,0,0,0,0,0,0,([]:List (Int × Int)),0,1)) (
 (rB N dM fN iI lL hZ kI fI dO cQ cR cU cV dP cM cW cZ dA cA cB cC cD cE cG cH cJ cK cN dB).bind fun r6=>
 jQ N dM fN iI lL hZ kI fI dO cQ cR cU cV dP cM cW cZ dA cA cB cC cD cE cG cH cJ cK cN dB xU (fun (G0,i2)=>
 some (r6.1,r6.2.1,r6.2.2.1,r6.2.2.2.1,r6.2.2.2.2.1,r6.2.2.2.2.2.1,G0,r6.2.2.2.2.2.2.2.1,r6.2.2.2.2.2.2.2.2.1,r6.2.2.2.2.2.2.2.2.2.1,r6.2.2.2.2.2.2.2.2.2.2.1,r6.2.2.2.2.2.2.2.2.2.2.2.1,r6.2.2.2.2.2.2.2.2.2.2.2.2.1,r6.2.2.2.2.2.2.2.2.2.2.2.2.2.1,r6.2.2.2.2.2.2.2.2.2.2.2.2.2.2.1,r6.2.2.2.2.2.2.2.2.2.2.2.2.2.2.2.1,r6.2.2.2.2.2.2.2.2.2.2.2.2.2.2.2.2.1,r6.2.2.2.2.2.2.2.2.2.2.2.2.2.2.2.2.2.1,r6.2.2.2.2.2.2.2.2.2.2.2.2.2.2.2.2.2.2.1,r6.2.2.2.2.2.2.2.2.2.2.2.2.2.2.2.2.2.2.2.1,r6.2.2.2.2.2.2.2.2.2.2.2.2.2.2.2.2.2.2.2.2.1,r6.2.2.2.2.2.2.2.2.2.2.2.2.2.2.2.2.2.2.2.2.2.1,r6.2.2.2.2.2.2.2.2.2.2.2.2.2.2.2.2.2.2.2.2.2.2.1,r6.2.2.2.2.2.2.2.2.2.2.2.2.2.2.2.2.2.2.2.2.2.2.2.1,r6.2.2.2.2.2.2.2.2.2.2.2.2.2.2.2.2.2.2.2.2.2.2.2.2.1,r6.2.2.2.2.2.2.2.2.2.2.2.2.2.2.2.2.2.2.2.2.2.2.2.2.2.1,r6.2.2.2.2.2.2.2.2.2.2.2.2.2.2.2.2.2.2.2.2.2.2.2.2.2.2.1,r6.2.2.2.2.2.2.2.2.2.2.2.2.2.2.2.2.2.2.2.2.2.2.2.2.2.2.2,0)) N (([]:List (List UInt8)),0)))))))
def kL (N:Nat) (a2 b:List Int) (kk:Int→Option Bool):Nat→Int→Option Bool
 | 0,_=>none
 | fuel+1,i=>
  cond (decide (i<(a2.length:Int))) (
  (idx a2 i).bind fun e3=>
  (idx b i).bind fun e4=>
  cond (!decide (e3=e4)) (
  some false) (
  (some (IntKind.i64.wrap (i+1))).bind fun i3=>
  kL N a2 b kk fuel i3)) (
  kk i)
def jI (N:Nat) (a2 b:List Int):Option Bool:=
 cond (!decide ((a2.length:Int)=(b.length:Int))) (
 some false) (
 kL N a2 b (fun i4=>
 some true) N 0)
def iT (N:Nat) (Xx Yh:List (Int × Int × Int)) (kk:Int→Option Bool):Nat→Int→Option Bool
 | 0,_=>none
 | fuel+1,i=>
  cond (decide (i<(Xx.length:Int))) (
  (idx Xx i).bind fun e3=>
  (idx Yh i).bind fun e4=>
  cond (!(decide (e3.1=e4.1)&&decide (e3.2.1=e4.2.1)&&decide (e3.2.2=e4.2.2))) (
  some false) (
  (some (IntKind.i64.wrap (i+1))).bind fun i3=>
  iT N Xx Yh kk fuel i3)) (
  kk i)
def eF (N:Nat) (a_W a_H:Int) (Xx:List (Int × Int × Int)) (b_W b_H:Int) (Yh:List (Int × Int × Int)):Option Bool:=
 cond (!decide (a_W=b_W)) (
 some false) (
 cond (!decide (a_H=b_H)) (
 some false) (
 cond (!decide ((Xx.length:Int)=(Yh.length:Int))) (
 some false) (
 iT N Xx Yh (fun i4=>
 some true) N 0)))
def kA (N:Nat) (dg og:List (Int × Int)) (kk:Int→Option Bool):Nat→Int→Option Bool
 | 0,_=>none
 | fuel+1,i3=>
  cond (decide (i3<(dg.length:Int))) (
  (idx dg i3).bind fun e7=>
  (idx og i3).bind fun e8=>
  cond (!(decide (e7.1=e8.1)&&decide (e7.2=e8.2))) (
  some false) (
  (some (IntKind.i64.wrap (i3+1))).bind fun x5=>
  kA N dg og kk fuel x5)) (
  kk i3)
def kC (N:Nat) (dd od:List (Int × Int)) (kk:Int→Option Bool):Nat→Int→Option Bool
 | 0,_=>none
 | fuel+1,i=>
  cond (decide (i<(dd.length:Int))) (
  (idx dd i).bind fun e3=>
  (idx od i).bind fun e4=>
  cond (!(decide (e3.1=e4.1)&&decide (e3.2=e4.2))) (
  some false) (
  (some (IntKind.i64.wrap (i+1))).bind fun x3=>
  kC N dd od kk fuel x3)) (
  kk i)
def o9 (N:Nat) (da Fq Fr Fs Ft dc:Int) (dd:List (Int × Int)) (Fu Fv Fw Gd Ge df2 Gf Gg Gh Gi Gj Gk:Int) (dg:List (Int × Int)) (dh oa ob0 TG ob2 ob3 oc:Int) (od:List (Int × Int)) (oe0 oe1 oe2 of0 of1 of2 of3 of4 of5 of6 of7 of8:Int) (og:List (Int × Int)) (oh:Int):Option Bool:=
 cond (!decide (da=oa)) (
 some false) (
 cond (!(decide ([Fq,Fr,Fs,Ft]=[ob0,TG,ob2,ob3]))) (
 some false) (
 cond (!decide (dc=oc)) (
 some false) (
 cond (!(decide ([Fu,Fv,Fw]=[oe0,oe1,oe2]))) (
 some false) (
 cond (!(decide ([Gd,Ge,df2,Gf,Gg,Gh,Gi,Gj,Gk]=[of0,of1,of2,of3,of4,of5,of6,of7,of8]))) (
 some false) (
 cond (!decide (dh=oh)) (
 some false) (
 cond (!decide ((dd.length:Int)=(od.length:Int))) (
 some false) (
 cond (!decide ((dg.length:Int)=(og.length:Int))) (
 some false) (
 kC N dd od (fun i2=>
 kA N dg og (fun i4=>
 some true) N 0) N 0))))))))
def kN (N:Nat) (fI yR:List (List UInt8)) (kk:Int→Option Bool):Nat→Int→Option Bool
 | 0,_=>none
 | fuel+1,i=>
  cond (decide (i<(fI.length:Int))) (
  (idx fI i).bind fun e3=>
  (idx yR i).bind fun e4=>
  cond (!decide (e3=e4)) (
  some false) (
  (some (IntKind.i64.wrap (i+1))).bind fun x3=>
  kN N fI yR kk fuel x3)) (
  kk i)
def mT (N:Nat) (dM fN iI lL hZ:Int) (kI:List Int) (fI:List (List UInt8)) (dO cQ cR cU cV dP:Int) (cM:List (Int × Int)) (cW cZ dA cA cB cC cD cE cG cH cJ cK:Int) (cN:List (Int × Int)) (dB vO Ab J7 Nn Np:Int) (JA:List Int) (yR:List (List UInt8)) (BU Ax Ay Az AA BV:Int) (wU:List (Int × Int)) (AB AC AD yS yT yU yV yW yX yY yZ y9:Int) (wV:List (Int × Int)) (AE:Int):Option Bool:=
 cond (!decide (dM=vO)) (
 some false) (
 cond (!decide (fN=Ab)) (
 some false) (
 cond (!decide (iI=J7)) (
 some false) (
 cond (!decide (lL=Nn)) (
 some false) (
 cond (!decide (hZ=Np)) (
 some false) (
 (jI N kI JA).bind fun r2=>
 cond (!(r2)) (
 some false) (
 cond (!decide ((fI.length:Int)=(yR.length:Int))) (
 some false) (
 (o9 N dO cQ cR cU cV dP cM cW cZ dA cA cB cC cD cE cG cH cJ cK cN dB BU Ax Ay Az AA BV wU AB AC AD yS yT yU yV yW yX yY yZ y9 wV AE).bind fun r3=>
 cond (!(r3)) (
 some false) (
 kN N fI yR (fun i2=>
 some true) N 0))))))))
def cO (N:Nat) (n:Int):Option Int:=
 some (max 0 (min n 65535))
def kO (N:Nat) (gD jA:Int) (eI:List Int) (tA tB tD tE white y:Int) (kk:(List Int × Int)→Option (Int × Int × List Int)):Nat→(List Int × Int)→Option (Int × Int × List Int)
 | 0,_=>none
 | fuel+1,(oA,x4)=>
  cond (decide (x4<gD)) (
  (inr (IntKind.i64.wrap ((IntKind.i64.wrap ((Int.tmod y 2)*2))+(Int.tmod x4 2))) 4).bind fun _=>
  (idx [tA,tB,tD,tE] (IntKind.i64.wrap ((IntKind.i64.wrap ((Int.tmod y 2)*2))+(Int.tmod x4 2)))).bind fun e3=>
  (bL N gD jA eI x4 y).bind fun r8=>
  (bD N (IntKind.i64.wrap ((IntKind.i64.wrap (r8-e3))*65535)) (IntKind.i64.wrap (white-e3))).bind fun r9=>
  (cO N r9).bind fun Di=>
  (app 8 oA ([Di]:List Int)).bind fun EA=>
  (some (IntKind.i64.wrap (x4+1))).bind fun x6=>
  kO N gD jA eI tA tB tD tE white y kk fuel (EA,x6)) (
  kk (oA,x4))
def kQ (N:Nat) (gD jA:Int) (eI:List Int) (tA tB tD tE white:Int) (kk:(List Int × Int)→Option (Int × Int × List Int)):Nat→(List Int × Int)→Option (Int × Int × List Int)
 | 0,_=>none
 | fuel+1,(bO,y)=>
  cond (decide (y<jA)) (
  kO N gD jA eI tA tB tD tE white y (fun (EB,x7)=>
  (some (IntKind.i64.wrap (y+1))).bind fun y3=>
  kQ N gD jA eI tA tB tD tE white kk fuel (EB,y3)) N (bO,0)) (
  kk (bO,y))
def mU (N:Nat) (gD jA:Int) (eI:List Int) (tA tB tD tE white:Int):Option (Int × Int × List Int):=
 kQ N gD jA eI tA tB tD tE white (fun (FQ,y4)=>
 some (gD,jA,FQ)) N (([]:List Int),0)
def j3 (N:Nat) (l2:List (Int × Int)) (x2 y:Int) (kk:Int→Option Bool):Nat→Int→Option Bool
 | 0,_=>none
 | fuel+1,i=>
  cond (decide (i<(l2.length:Int))) (
  (idx l2 i).bind fun e3=>
  cond (decide (e3.1=x2)) (
  (idx l2 i).bind fun e4=>
  cond (decide (e4.2=y)) (
  some true) (
  (some (IntKind.i64.wrap (i+1))).bind fun i4=>
  j3 N l2 x2 y kk fuel i4)) (
  (some (IntKind.i64.wrap (i+1))).bind fun i5=>
  j3 N l2 x2 y kk fuel i5)) (
  kk i)
def oN (N:Nat) (l2:List (Int × Int)) (x2 y:Int):Option Bool:=
 j3 N l2 x2 y (fun i6=>
 some false) N 0
def tW (N:Nat) (dM fN:Int) (gI:List Int) (i34 i46 i47 i48:Int) (i60:Bool) (tF:(Int × Int)→Option (Int × Int × List Int)):Option (Int × Int × List Int):=
  cond (i60) (
  (bL N dM fN gI i48 i34).bind fun yP=>
  (some (IntKind.i64.wrap (i46+yP))).bind fun Tk=>
  (some (IntKind.i64.wrap (i47+1))).bind fun x23=>
  tF (Tk,x23)) (
  tF (i46,i47))
def qF (N:Nat) (dM fN:Int) (o:List (Int × Int)) (i34 i48:Int) (i58:Bool) (mQ:Bool→Option (Int × Int × List Int)):Option (Int × Int × List Int):=
  cond (i58) (
  (aL N i48 0 (IntKind.i64.wrap (dM-1))).bind fun r8=>
  cond (r8) (
  (aL N i34 0 (IntKind.i64.wrap (fN-1))).bind fun r9=>
  cond (r9) (
  (oN N o i48 i34).bind fun Di=>
  mQ (!(Di))) (
  mQ false)) (
  mQ false)) (
  mQ false)
def qG (N:Nat) (i i17 i34 i48:Int) (eV:Bool→Option (Int × Int × List Int)):Option (Int × Int × List Int):=
  cond (decide (i48=i17)) (
  cond (decide (i34=(IntKind.i64.wrap (i-2)))) (
  eV true) (
  cond (decide (i34=(IntKind.i64.wrap (i+2)))) (
  eV true) (
  cond (decide (i34=i)) (
  cond (decide (i48=(IntKind.i64.wrap (i17-2)))) (
  eV true) (
  eV (decide (i48=(IntKind.i64.wrap (i17+2)))))) (
  eV false)))) (
  cond (decide (i34=i)) (
  cond (decide (i48=(IntKind.i64.wrap (i17-2)))) (
  eV true) (
  eV (decide (i48=(IntKind.i64.wrap (i17+2)))))) (
  eV false))
def gU (N:Nat) (dM fN:Int) (gI:List Int) (o:List (Int × Int)) (i i17 i34:Int) (kk:(Int × Int × Int)→Option (Int × Int × List Int)):Nat→(Int × Int × Int)→Option (Int × Int × List Int)
 | 0,_=>none
 | fuel+1,(i46,i47,i48)=>
  cond (decide (i48≤(IntKind.i64.wrap (i17+2)))) (
  qG N i i17 i34 i48 (fun i58=>
  qF N dM fN o i34 i48 i58 (fun i60=>
  tW N dM fN gI i34 i46 i47 i48 i60 (fun (i63,i64)=>
  (some (IntKind.i64.wrap (i48+1))).bind fun x24=>
  gU N dM fN gI o i i17 i34 kk fuel (i63,i64,x24))))) (
  kk (i46,i47,i48))
def gV (N:Nat) (dM fN:Int) (gI:List Int) (o:List (Int × Int)) (i i17:Int) (kk:(Int × Int × Int)→Option (Int × Int × List Int)):Nat→(Int × Int × Int)→Option (Int × Int × List Int)
 | 0,_=>none
 | fuel+1,(i32,i33,i34)=>
  cond (decide (i34≤(IntKind.i64.wrap (i+2)))) (
  (some (IntKind.i64.wrap (i17-2))).bind fun x20=>
  gU N dM fN gI o i i17 i34 (fun (i65,i66,i67)=>
  (some (IntKind.i64.wrap (i34+1))).bind fun x25=>
  gV N dM fN gI o i i17 kk fuel (i65,i66,x25)) N (i32,i33,x20)) (
  kk (i32,i33,i34))
def jD (N:Nat) (dM fN:Int) (gI:List Int) (o:List (Int × Int)) (i:Int) (kk:(List Int × Int)→Option (Int × Int × List Int)):Nat→(List Int × Int)→Option (Int × Int × List Int)
 | 0,_=>none
 | fuel+1,(wW,i17)=>
  cond (decide (i17<dM)) (
  (oN N o i17 i).bind fun r6=>
  cond (!(r6)) (
  (bL N dM fN gI i17 i).bind fun r7=>
  (app 8 wW ([r7]:List Int)).bind fun Wn=>
  (some (IntKind.i64.wrap (i17+1))).bind fun Wg=>
  jD N dM fN gI o i kk fuel (Wn,Wg)) (
  (some (IntKind.i64.wrap (i-2))).bind fun x16=>
  gV N dM fN gI o i i17 (fun (i68,i69,i70)=>
  (nz (max i69 1)).bind fun _=>
  (app 8 wW (([IntKind.i64.wrap (Int.tdiv i68 (max i69 1))]:List Int))).bind fun aEh=>
  (some (IntKind.i64.wrap (i17+1))).bind fun x26=>
  jD N dM fN gI o i kk fuel (aEh,x26)) N (0,0,x16))) (
  kk (wW,i17))
def kR (N:Nat) (dM fN:Int) (gI:List Int) (o:List (Int × Int)) (kk:(List Int × Int)→Option (Int × Int × List Int)):Nat→(List Int × Int)→Option (Int × Int × List Int)
 | 0,_=>none
 | fuel+1,(BF,i)=>
  cond (decide (i<fN)) (
  jD N dM fN gI o i (fun (Nq,i71)=>
  (some (IntKind.i64.wrap (i+1))).bind fun x27=>
  kR N dM fN gI o kk fuel (Nq,x27)) N (BF,0)) (
  kk (BF,i))
def mV (N:Nat) (dM fN:Int) (gI:List Int) (o:List (Int × Int)):Option (Int × Int × List Int):=
 kR N dM fN gI o (fun (Pq,i72)=>
 some (dM,fN,Pq)) N (([]:List Int),0)
def kS (N:Nat) (phase x2 y:Int):Option Int:=
 (some (Int.tmod (IntKind.i64.wrap (x2+(Int.tmod phase 2))) 2)).bind fun a2=>
 (some (Int.tmod (IntKind.i64.wrap (y+(IntKind.i64.wrap (Int.tdiv phase 2)))) 2)).bind fun b=>
 cond (decide (a2=0)) (
 cond (decide (b=0)) (
 some 0) (
 cond (decide (a2=1)) (
 cond (decide (b=1)) (
 some 2) (
 some 1)) (
 some 1))) (
 cond (decide (a2=1)) (
 cond (decide (b=1)) (
 some 2) (
 some 1)) (
 some 1))
def lZ (N:Nat) (gD:Int) (eI:List Int) (phase vZ v6 v7:Int) (kk:(List Int × Int)→Option (Int × Int × List Int)):Nat→(List Int × Int)→Option (Int × Int × List Int)
 | 0,_=>none
 | fuel+1,(bO,i)=>
  cond (decide (i<(eI.length:Int))) (
  (idx eI i).bind fun e3=>
  (nz gD).bind fun _=>
  (nz gD).bind fun _=>
  (kS N phase (Int.tmod i gD) (IntKind.i64.wrap (Int.tdiv i gD))).bind fun r4=>
  (inr r4 3).bind fun _=>
  (idx [vZ,v6,v7] r4).bind fun e4=>
  (cO N (IntKind.i64.wrap (Int.tdiv (IntKind.i64.wrap (e3*e4)) 256))).bind fun r5=>
  (app 8 bO ([r5]:List Int)).bind fun eW=>
  (some (IntKind.i64.wrap (i+1))).bind fun i3=>
  lZ N gD eI phase vZ v6 v7 kk fuel (eW,i3)) (
  kk (bO,i))
def oO (N:Nat) (gD jA:Int) (eI:List Int) (phase vZ v6 v7:Int):Option (Int × Int × List Int):=
 lZ N gD eI phase vZ v6 v7 (fun (oA,i4)=>
 some (gD,jA,oA)) N (([]:List Int),0)
def iP (N:Nat) (l0 l1 l2:Int):Option (Int × Int × Int):=
 some (l0,l1,l2)
def gQ (N:Nat) (dM fN:Int) (gI:List Int) (o i6 Ld:Int) (kk:(Int × Int × Int × Int × Int × Int × Int)→Option (Int × Int × List (Int × Int × Int))):Nat→(Int × Int × Int × Int × Int × Int × Int)→Option (Int × Int × List (Int × Int × Int))
 | 0,_=>none
 | fuel+1,(JB,JC,EV,JD,Gm,JE,i12)=>
  cond (decide (i12≤(min (IntKind.i64.wrap (dM-1)) (IntKind.i64.wrap (i6+1))))) (
  (kS N o i12 Ld).bind fun Yi=>
  cond (decide (Yi=0)) (
  (bL N dM fN gI i12 Ld).bind fun r29=>
  (some (IntKind.i64.wrap (i12+1))).bind fun x49=>
  gQ N dM fN gI o i6 Ld kk fuel (IntKind.i64.wrap (JB+1),JC,EV,IntKind.i64.wrap (JD+r29),Gm,JE,x49)) (
  cond (decide (Yi=1)) (
  (bL N dM fN gI i12 Ld).bind fun Yj=>
  (some (IntKind.i64.wrap (i12+1))).bind fun x50=>
  gQ N dM fN gI o i6 Ld kk fuel (JB,IntKind.i64.wrap (JC+1),EV,JD,IntKind.i64.wrap (Gm+Yj),JE,x50)) (
  cond (decide (Yi=2)) (
  (bL N dM fN gI i12 Ld).bind fun r31=>
  (some (IntKind.i64.wrap (i12+1))).bind fun x51=>
  gQ N dM fN gI o i6 Ld kk fuel (JB,JC,IntKind.i64.wrap (EV+1),JD,Gm,IntKind.i64.wrap (JE+r31),x51)) (
  none)))) (
  kk (JB,JC,EV,JD,Gm,JE,i12))
def mA (N:Nat) (Lq OS Gn Qg Qh Mx:Int) (kk:(Int × Int × Int × Int)→Option (Int × Int × List (Int × Int × Int))):Nat→(Int × Int × Int × Int)→Option (Int × Int × List (Int × Int × Int))
 | 0,_=>none
 | fuel+1,(Qi,Qj,Qk,Gp)=>
  cond (decide (Gp<3)) (
  cond (decide (Gp=0)) (
  (nz (max Lq 1)).bind fun _=>
  (some (IntKind.i64.wrap (Gp+1))).bind fun x56=>
  mA N Lq OS Gn Qg Qh Mx kk fuel (IntKind.i64.wrap (Int.tdiv Qg (max Lq 1)),Qj,Qk,x56)) (
  cond (decide (Gp=1)) (
  (nz (max OS 1)).bind fun _=>
  (some (IntKind.i64.wrap (Gp+1))).bind fun x57=>
  mA N Lq OS Gn Qg Qh Mx kk fuel (Qi,IntKind.i64.wrap (Int.tdiv Qh (max OS 1)),Qk,x57)) (
  cond (decide (Gp=2)) (
  (nz (max Gn 1)).bind fun _=>
  (some (IntKind.i64.wrap (Gp+1))).bind fun x58=>
  mA N Lq OS Gn Qg Qh Mx kk fuel (Qi,Qj,IntKind.i64.wrap (Int.tdiv Mx (max Gn 1)),x58)) (
  none)))) (
  kk (Qi,Qj,Qk,Gp))
def iQ (N:Nat) (dM fN:Int) (gI:List Int) (o i i6:Int) (kk:(Int × Int × Int × Int × Int × Int × Int)→Option (Int × Int × List (Int × Int × Int))):Nat→(Int × Int × Int × Int × Int × Int × Int)→Option (Int × Int × List (Int × Int × Int))
 | 0,_=>none
 | fuel+1,(Wo,x115,Wp,Lr,Wq,Wr,Ld)=>
  cond (decide (Ld≤(min (IntKind.i64.wrap (fN-1)) (IntKind.i64.wrap (i+1))))) (
  (some (max 0 (IntKind.i64.wrap (i6-1)))).bind fun x45=>
  gQ N dM fN gI o i6 Ld (fun (J8,JF,Ql,JG,RM,J9,i13)=>
  (some (IntKind.i64.wrap (Ld+1))).bind fun x52=>
  iQ N dM fN gI o i i6 kk fuel (J8,JF,Ql,JG,RM,J9,x52)) N (Wo,x115,Wp,Lr,Wq,Wr,x45)) (
  kk (Wo,x115,Wp,Lr,Wq,Wr,Ld))
def gR (N:Nat) (dM fN:Int) (gI:List Int) (o i:Int) (kk:(List (Int × Int × Int) × Int)→Option (Int × Int × List (Int × Int × Int))):Nat→(List (Int × Int × Int) × Int)→Option (Int × Int × List (Int × Int × Int))
 | 0,_=>none
 | fuel+1,(Bi,i6)=>
  cond (decide (i6<dM)) (
  (some (max 0 (IntKind.i64.wrap (i-1)))).bind fun x39=>
  iQ N dM fN gI o i i6 (fun (Lq,OS,Gn,Qg,Qh,Mx,i14)=>
  mA N Lq OS Gn Qg Qh Mx (fun (aEi,aEj,aEk,i16)=>
  (kS N o i6 i).bind fun r32=>
  (bL N dM fN gI i6 i).bind fun r33=>
  cond (decide (r32=0)) (
  (iP N r33 aEj aEk).bind fun Qm=>
  (app 24 Bi (([(Qm.1,Qm.2.1,Qm.2.2)]:List (Int × Int × Int)))).bind fun Nq=>
  (some (IntKind.i64.wrap (i6+1))).bind fun x59=>
  gR N dM fN gI o i kk fuel (Nq,x59)) (
  cond (decide (r32=1)) (
  (iP N aEi r33 aEk).bind fun Pr=>
  (app 24 Bi (([(Pr.1,Pr.2.1,Pr.2.2)]:List (Int × Int × Int)))).bind fun Pq=>
  (some (IntKind.i64.wrap (i6+1))).bind fun x60=>
  gR N dM fN gI o i kk fuel (Pq,x60)) (
  cond (decide (r32=2)) (
  (iP N aEi aEj r33).bind fun IZ=>
  (app 24 Bi (([(IZ.1,IZ.2.1,IZ.2.2)]:List (Int × Int × Int)))).bind fun Yk=>
  (some (IntKind.i64.wrap (i6+1))).bind fun x61=>
  gR N dM fN gI o i kk fuel (Yk,x61)) (
  none)))) N (0,0,0,0)) N (0,0,0,0,0,0,x39)) (
  kk (Bi,i6))
def mC (N:Nat) (dM fN:Int) (gI:List Int) (o:Int) (kk:(List (Int × Int × Int) × Int)→Option (Int × Int × List (Int × Int × Int))):Nat→(List (Int × Int × Int) × Int)→Option (Int × Int × List (Int × Int × Int))
 | 0,_=>none
 | fuel+1,(BF,i)=>
  cond (decide (i<fN)) (
  gR N dM fN gI o i (fun (Yl,i17)=>
  (some (IntKind.i64.wrap (i+1))).bind fun x62=>
  mC N dM fN gI o kk fuel (Yl,x62)) N (BF,0)) (
  kk (BF,i))
def oR (N:Nat) (dM fN:Int) (gI:List Int) (o:Int):Option (Int × Int × List (Int × Int × Int)):=
 mC N dM fN gI o (fun (aC0,i18)=>
 some (dM,fN,aC0)) N (([]:List (Int × Int × Int)),0)
def lA (N:Nat) (L2 L3 L4:Int):Option (Int × Int × Int):=
 some (L2,L3,L4)
def mW (N:Nat) (o0 o1 o2 o3 o4 o5 o6 o7 o8:Int) (r6:Int × Int × Int) (kk:(Int × Int × Int × Int)→Option (Int × Int × List (Int × Int × Int))):Nat→(Int × Int × Int × Int)→Option (Int × Int × List (Int × Int × Int))
 | 0,_=>none
 | fuel+1,(x02,OR,Tk,i3)=>
  cond (decide (i3<3)) (
  (inr (IntKind.i64.wrap (3*i3)) 9).bind fun _=>
  (idx [o0,o1,o2,o3,o4,o5,o6,o7,o8] (IntKind.i64.wrap (3*i3))).bind fun e9=>
  (inr (IntKind.i64.wrap ((IntKind.i64.wrap (3*i3))+1)) 9).bind fun _=>
  (idx [o0,o1,o2,o3,o4,o5,o6,o7,o8] (IntKind.i64.wrap ((IntKind.i64.wrap (3*i3))+1))).bind fun e10=>
  (inr (IntKind.i64.wrap ((IntKind.i64.wrap (3*i3))+2)) 9).bind fun _=>
  (idx [o0,o1,o2,o3,o4,o5,o6,o7,o8] (IntKind.i64.wrap ((IntKind.i64.wrap (3*i3))+2))).bind fun e11=>
  (bD N (IntKind.i64.wrap ((IntKind.i64.wrap ((IntKind.i64.wrap (e9*r6.1))+(IntKind.i64.wrap (e10*r6.2.1))))+(IntKind.i64.wrap (e11*r6.2.2)))) 4096).bind fun r9=>
  (cO N r9).bind fun Di=>
  cond (decide (i3=0)) (
  (some (IntKind.i64.wrap (i3+1))).bind fun x10=>
  mW N o0 o1 o2 o3 o4 o5 o6 o7 o8 r6 kk fuel (Di,OR,Tk,x10)) (
  cond (decide (i3=1)) (
  (some (IntKind.i64.wrap (i3+1))).bind fun P7=>
  mW N o0 o1 o2 o3 o4 o5 o6 o7 o8 r6 kk fuel (x02,Di,Tk,P7)) (
  cond (decide (i3=2)) (
  (some (IntKind.i64.wrap (i3+1))).bind fun Wf=>
  mW N o0 o1 o2 o3 o4 o5 o6 o7 o8 r6 kk fuel (x02,OR,Di,Wf)) (
  none)))) (
  kk (x02,OR,Tk,i3))
def mX (N:Nat) (gI:List (Int × Int × Int)) (o0 o1 o2 o3 o4 o5 o6 o7 o8:Int) (kk:(List (Int × Int × Int) × Int)→Option (Int × Int × List (Int × Int × Int))):Nat→(List (Int × Int × Int) × Int)→Option (Int × Int × List (Int × Int × Int))
 | 0,_=>none
 | fuel+1,(BF,i)=>
  cond (decide (i<(gI.length:Int))) (
  (idx gI i).bind fun e5=>
  (lA N e5.1 e5.2.1 e5.2.2).bind fun r6=>
  mW N o0 o1 o2 o3 o4 o5 o6 o7 o8 r6 (fun (x03,x14,x23,i4)=>
  (iP N x03 x14 x23).bind fun yP=>
  (app 24 BF (([(yP.1,yP.2.1,yP.2.2)]:List (Int × Int × Int)))).bind fun Ka=>
  (some (IntKind.i64.wrap (i+1))).bind fun Wg=>
  mX N gI o0 o1 o2 o3 o4 o5 o6 o7 o8 kk fuel (Ka,Wg)) N (0,0,0,0)) (
  kk (BF,i))
def sI (N:Nat) (dM fN:Int) (gI:List (Int × Int × Int)) (o0 o1 o2 o3 o4 o5 o6 o7 o8:Int):Option (Int × Int × List (Int × Int × Int)):=
 mX N gI o0 o1 o2 o3 o4 o5 o6 o7 o8 (fun (BG,i5)=>
 some (dM,fN,BG)) N (([]:List (Int × Int × Int)),0)
def oK (N:Nat) (l2:List (Int × Int)) (x2:Int) (kk:Int→Option Int):Nat→Int→Option Int
 | 0,_=>none
 | fuel+1,i=>
  (idx l2 i).bind fun e2=>
  cond (decide (e2.1<x2)) (
  (some (IntKind.i64.wrap (i+1))).bind fun i3=>
  oK N l2 x2 kk fuel i3) (
  kk i)
def iL (N:Nat) (l2:List (Int × Int)) (x2:Int):Option Int:=
 oK N l2 x2 (fun i4=>
 (idx l2 (IntKind.i64.wrap (i4-1))).bind fun e3=>
 (idx l2 i4).bind fun e4=>
 (nz (IntKind.i64.wrap (e4.1-e3.1))).bind fun _=>
 (some (IntKind.i64.wrap (e3.2+(IntKind.i64.wrap (Int.tdiv (IntKind.i64.wrap ((IntKind.i64.wrap (e4.2-e3.2))*(IntKind.i64.wrap (x2-e3.1)))) (IntKind.i64.wrap (e4.1-e3.1))))))).bind fun x3=>
 some x3) N 1
def oG (N:Nat) (eJ:List (Int × Int × Int)) (l2:List (Int × Int)) (kk:(List (Int × Int × Int) × Int)→Option (Int × Int × List (Int × Int × Int))):Nat→(List (Int × Int × Int) × Int)→Option (Int × Int × List (Int × Int × Int))
 | 0,_=>none
 | fuel+1,(bO,i)=>
  cond (decide (i<(eJ.length:Int))) (
  (idx eJ i).bind fun e2=>
  (iL N l2 e2.1).bind fun r5=>
  (iL N l2 e2.2.1).bind fun r6=>
  (iL N l2 e2.2.2).bind fun r7=>
  (app 24 bO (([(r5,r6,r7)]:List (Int × Int × Int)))).bind fun eW=>
  (some (IntKind.i64.wrap (i+1))).bind fun i3=>
  oG N eJ l2 kk fuel (eW,i3)) (
  kk (bO,i))
def s4 (N:Nat) (eA hU:Int) (eJ:List (Int × Int × Int)) (l2:List (Int × Int)):Option (Int × Int × List (Int × Int × Int)):=
 oG N eJ l2 (fun (oA,i4)=>
 some (eA,hU,oA)) N (([]:List (Int × Int × Int)),0)
def kT (N:Nat) (i12 Gp:Int) (Jz:Int × Int × Int) (kk:(Int × Int × Int × Int)→Option (Int × Int × List (Int × Int × Int))):Nat→(Int × Int × Int × Int)→Option (Int × Int × List (Int × Int × Int))
 | 0,_=>none
 | fuel+1,(Nr,Ns,EV,i17)=>
  cond (decide (i17<3)) (
  cond (decide (i17=0)) (
  (inr i17 3).bind fun _=>
  (idx [Jz.1,Jz.2.1,Jz.2.2] i17).bind fun e58=>
  (inr (IntKind.i64.wrap (Gp+1)) 3).bind fun _=>
  (idx [1,2,1] (IntKind.i64.wrap (Gp+1))).bind fun e59=>
  (inr (IntKind.i64.wrap (i12+1)) 3).bind fun _=>
  (idx [1,2,1] (IntKind.i64.wrap (i12+1))).bind fun e60=>
  (some (IntKind.i64.wrap (i17+1))).bind fun x50=>
  kT N i12 Gp Jz kk fuel (IntKind.i64.wrap (Nr+(IntKind.i64.wrap ((IntKind.i64.wrap (e58*e59))*e60))),Ns,EV,x50)) (
  cond (decide (i17=1)) (
  (inr i17 3).bind fun _=>
  (idx [Jz.1,Jz.2.1,Jz.2.2] i17).bind fun e61=>
  (inr (IntKind.i64.wrap (Gp+1)) 3).bind fun _=>
  (idx [1,2,1] (IntKind.i64.wrap (Gp+1))).bind fun e62=>
  (inr (IntKind.i64.wrap (i12+1)) 3).bind fun _=>
  (idx [1,2,1] (IntKind.i64.wrap (i12+1))).bind fun e63=>
  (some (IntKind.i64.wrap (i17+1))).bind fun x51=>
  kT N i12 Gp Jz kk fuel (Nr,IntKind.i64.wrap (Ns+(IntKind.i64.wrap ((IntKind.i64.wrap (e61*e62))*e63))),EV,x51)) (
  cond (decide (i17=2)) (
  (inr i17 3).bind fun _=>
  (idx [Jz.1,Jz.2.1,Jz.2.2] i17).bind fun e64=>
  (inr (IntKind.i64.wrap (Gp+1)) 3).bind fun _=>
  (idx [1,2,1] (IntKind.i64.wrap (Gp+1))).bind fun e65=>
  (inr (IntKind.i64.wrap (i12+1)) 3).bind fun _=>
  (idx [1,2,1] (IntKind.i64.wrap (i12+1))).bind fun e66=>
  (some (IntKind.i64.wrap (i17+1))).bind fun x52=>
  kT N i12 Gp Jz kk fuel (Nr,Ns,IntKind.i64.wrap (EV+(IntKind.i64.wrap ((IntKind.i64.wrap (e64*e65))*e66))),x52)) (
  none)))) (
  kk (Nr,Ns,EV,i17))
def jJ (N:Nat) (dM fN:Int) (gI:List (Int × Int × Int)) (i i7 i12:Int) (kk:(Int × Int × Int × Int)→Option (Int × Int × List (Int × Int × Int))):Nat→(Int × Int × Int × Int)→Option (Int × Int × List (Int × Int × Int))
 | 0,_=>none
 | fuel+1,(Lr,x115,Ws,Gp)=>
  cond (decide (Gp≤1)) (
  (some (IntKind.i64.wrap ((IntKind.i64.wrap ((max 0 (min (IntKind.i64.wrap (fN-1)) (IntKind.i64.wrap (i+i12))))*dM))+(max 0 (min (IntKind.i64.wrap (dM-1)) (IntKind.i64.wrap (i7+Gp))))))).bind fun x46=>
  (idx gI x46).bind fun e48=>
  (lA N e48.1 e48.2.1 e48.2.2).bind fun Jz=>
  kT N i12 Gp Jz (fun (JB,aEl,JE,i18)=>
  (some (IntKind.i64.wrap (Gp+1))).bind fun x53=>
  jJ N dM fN gI i i7 i12 kk fuel (JB,aEl,JE,x53)) N (Lr,x115,Ws,0)) (
  kk (Lr,x115,Ws,Gp))
def mY (N:Nat) (o:Int) (HW:Int × Int × Int) (J8 Gm J9:Int) (kk:(Int × Int × Int × Int)→Option (Int × Int × List (Int × Int × Int))):Nat→(Int × Int × Int × Int)→Option (Int × Int × List (Int × Int × Int))
 | 0,_=>none
 | fuel+1,(JG,JF,Gn,i21)=>
  cond (decide (i21<3)) (
  (inr i21 3).bind fun _=>
  (idx [HW.1,HW.2.1,HW.2.2] i21).bind fun e69=>
  (inr i21 3).bind fun _=>
  (idx [HW.1,HW.2.1,HW.2.2] i21).bind fun e70=>
  cond (decide (i21=0)) (
  (bD N (IntKind.i64.wrap ((IntKind.i64.wrap (e70-(IntKind.i64.wrap (Int.tdiv J8 16))))*o)) 256).bind fun Yj=>
  (cO N (IntKind.i64.wrap (e69+Yj))).bind fun r31=>
  (some (IntKind.i64.wrap (i21+1))).bind fun x58=>
  mY N o HW J8 Gm J9 kk fuel (r31,JF,Gn,x58)) (
  cond (decide (i21=1)) (
  (bD N (IntKind.i64.wrap ((IntKind.i64.wrap (e70-(IntKind.i64.wrap (Int.tdiv Gm 16))))*o)) 256).bind fun r32=>
  (cO N (IntKind.i64.wrap (e69+r32))).bind fun r33=>
  (some (IntKind.i64.wrap (i21+1))).bind fun x59=>
  mY N o HW J8 Gm J9 kk fuel (JG,r33,Gn,x59)) (
  cond (decide (i21=2)) (
  (bD N (IntKind.i64.wrap ((IntKind.i64.wrap (e70-(IntKind.i64.wrap (Int.tdiv J9 16))))*o)) 256).bind fun Qm=>
  (cO N (IntKind.i64.wrap (e69+Qm))).bind fun Pr=>
  (some (IntKind.i64.wrap (i21+1))).bind fun x60=>
  mY N o HW J8 Gm J9 kk fuel (JG,JF,Pr,x60)) (
  none)))) (
  kk (JG,JF,Gn,i21))
def jK (N:Nat) (dM fN:Int) (gI:List (Int × Int × Int)) (i i7:Int) (kk:(Int × Int × Int × Int)→Option (Int × Int × List (Int × Int × Int))):Nat→(Int × Int × Int × Int)→Option (Int × Int × List (Int × Int × Int))
 | 0,_=>none
 | fuel+1,(x09,x112,Wt,i12)=>
  cond (decide (i12≤1)) (
  jJ N dM fN gI i i7 i12 (fun (JD,JC,Ql,i19)=>
  (some (IntKind.i64.wrap (i12+1))).bind fun x54=>
  jK N dM fN gI i i7 kk fuel (JD,JC,Ql,x54)) N (x09,x112,Wt,(-1))) (
  kk (x09,x112,Wt,i12))
def mZ (N:Nat) (dM fN:Int) (gI:List (Int × Int × Int)) (o i:Int) (kk:(List (Int × Int × Int) × Int)→Option (Int × Int × List (Int × Int × Int))):Nat→(List (Int × Int × Int) × Int)→Option (Int × Int × List (Int × Int × Int))
 | 0,_=>none
 | fuel+1,(BG,i7)=>
  cond (decide (i7<dM)) (
  (idx gI (IntKind.i64.wrap ((IntKind.i64.wrap (i*dM))+i7))).bind fun e27=>
  (lA N e27.1 e27.2.1 e27.2.2).bind fun HW=>
  jK N dM fN gI i i7 (fun (J8,Gm,J9,i20)=>
  mY N o HW J8 Gm J9 (fun (Lq,RM,Mx,i22)=>
  (iP N Lq RM Mx).bind fun IZ=>
  (app 24 BG (([(IZ.1,IZ.2.1,IZ.2.2)]:List (Int × Int × Int)))).bind fun Bi=>
  (some (IntKind.i64.wrap (i7+1))).bind fun x61=>
  mZ N dM fN gI o i kk fuel (Bi,x61)) N (0,0,0,0)) N (0,0,0,(-1))) (
  kk (BG,i7))
def m9 (N:Nat) (dM fN:Int) (gI:List (Int × Int × Int)) (o:Int) (kk:(List (Int × Int × Int) × Int)→Option (Int × Int × List (Int × Int × Int))):Nat→(List (Int × Int × Int) × Int)→Option (Int × Int × List (Int × Int × Int))
 | 0,_=>none
 | fuel+1,(BF,i)=>
  cond (decide (i<fN)) (
  mZ N dM fN gI o i (fun (aEm,i23)=>
  (some (IntKind.i64.wrap (i+1))).bind fun x62=>
  m9 N dM fN gI o kk fuel (aEm,x62)) N (BF,0)) (
  kk (BF,i))
def sJ (N:Nat) (dM fN:Int) (gI:List (Int × Int × Int)) (o:Int):Option (Int × Int × List (Int × Int × Int)):=
 m9 N dM fN gI o (fun (Wn,i24)=>
 some (dM,fN,Wn)) N (([]:List (Int × Int × Int)),0)
def lH (N:Nat) (na nb0 qM qN qO nc:Int) (nd:List (Int × Int)) (qP ne1 qT qU qV qX qY qZ q5 q6 q7 nf8:Int) (ng:List (Int × Int)) (nh gD jA:Int) (eI:List Int):Option (Int × Int × List (Int × Int × Int)):=
 (mU N gD jA eI nb0 qM qN qO nc).bind fun r2=>
 (mV N r2.1 r2.2.1 r2.2.2 nd).bind fun r3=>
 (oO N r3.1 r3.2.1 r3.2.2 na qP ne1 qT).bind fun r4=>
 (oR N r4.1 r4.2.1 r4.2.2 na).bind fun r5=>
 (sI N r5.1 r5.2.1 r5.2.2 qU qV qX qY qZ q5 q6 q7 nf8).bind fun r6=>
 (s4 N r6.1 r6.2.1 r6.2.2 ng).bind fun r7=>
 (sJ N r7.1 r7.2.1 r7.2.2 nh).bind fun r8=>
 some (r8.1,r8.2.1,r8.2.2)
def zA (N:Nat)  : Option (List (Int × Int)):=
 some (([(0,0),(65535,65535)]:List (Int × Int)))
def pN (N:Nat)  : Option (Int × Int × Int × Int × Int × Int × List (Int × Int) × Int × Int × Int × Int × Int × Int × Int × Int × Int × Int × Int × Int × List (Int × Int) × Int):=
 (zA N ).bind fun r2=>
 some (0,0,0,0,0,65535,([]:List (Int × Int)),256,256,256,4096,0,0,0,4096,0,0,0,4096,r2,64)
def wX (N:Nat)  (kk:(List Int × Int)→Option (Int × Int × List Int)):Nat→(List Int × Int)→Option (Int × Int × List Int)
 | 0,_=>none
 | fuel+1,(eI,i)=>
  cond (decide (i<24)) (
  (app 8 eI (([Int.tmod (IntKind.i64.wrap (i*1000)) 7919]:List Int))).bind fun aEn=>
  (some (IntKind.i64.wrap (i+1))).bind fun i3=>
  wX N  kk fuel (aEn,i3)) (
  kk (eI,i))
def s6 (N:Nat)  : Option (Int × Int × List Int):=
 wX N  (fun (aGr,i4)=>
 some (2,12,aGr)) N (([]:List Int),0)
def j5 (N:Nat)  : Option Bool:=
 (pN N ).bind fun r2=>
 (s6 N ).bind fun r3=>
 (zT N r2.1 r2.2.1 r2.2.2.1 r2.2.2.2.1 r2.2.2.2.2.1 r2.2.2.2.2.2.1 r2.2.2.2.2.2.2.1 r2.2.2.2.2.2.2.2.1 r2.2.2.2.2.2.2.2.2.1 r2.2.2.2.2.2.2.2.2.2.1 r2.2.2.2.2.2.2.2.2.2.2.1 r2.2.2.2.2.2.2.2.2.2.2.2.1 r2.2.2.2.2.2.2.2.2.2.2.2.2.1 r2.2.2.2.2.2.2.2.2.2.2.2.2.2.1 r2.2.2.2.2.2.2.2.2.2.2.2.2.2.2.1 r2.2.2.2.2.2.2.2.2.2.2.2.2.2.2.2.1 r2.2.2.2.2.2.2.2.2.2.2.2.2.2.2.2.2.1 r2.2.2.2.2.2.2.2.2.2.2.2.2.2.2.2.2.2.1 r2.2.2.2.2.2.2.2.2.2.2.2.2.2.2.2.2.2.2.1 r2.2.2.2.2.2.2.2.2.2.2.2.2.2.2.2.2.2.2.2.1 r2.2.2.2.2.2.2.2.2.2.2.2.2.2.2.2.2.2.2.2.2 r3.1 r3.2.1 r3.2.2).bind fun r4=>
 (pN N ).bind fun r5=>
 (s6 N ).bind fun r6=>
 (vC N r5.1 r5.2.1 r5.2.2.1 r5.2.2.2.1 r5.2.2.2.2.1 r5.2.2.2.2.2.1 r5.2.2.2.2.2.2.1 r5.2.2.2.2.2.2.2.1 r5.2.2.2.2.2.2.2.2.1 r5.2.2.2.2.2.2.2.2.2.1 r5.2.2.2.2.2.2.2.2.2.2.1 r5.2.2.2.2.2.2.2.2.2.2.2.1 r5.2.2.2.2.2.2.2.2.2.2.2.2.1 r5.2.2.2.2.2.2.2.2.2.2.2.2.2.1 r5.2.2.2.2.2.2.2.2.2.2.2.2.2.2.1 r5.2.2.2.2.2.2.2.2.2.2.2.2.2.2.2.1 r5.2.2.2.2.2.2.2.2.2.2.2.2.2.2.2.2.1 r5.2.2.2.2.2.2.2.2.2.2.2.2.2.2.2.2.2.1 r5.2.2.2.2.2.2.2.2.2.2.2.2.2.2.2.2.2.2.1 r5.2.2.2.2.2.2.2.2.2.2.2.2.2.2.2.2.2.2.2.1 r5.2.2.2.2.2.2.2.2.2.2.2.2.2.2.2.2.2.2.2.2 r6.1 r6.2.1 r6.2.2 5).bind fun r7=>
 (pN N ).bind fun r8=>
 (s6 N ).bind fun r9=>
 (Tz r9.2.2 6 (r9.2.2.length:Int)).bind fun l2=>
 (Bu N r8.1 r8.2.1 r8.2.2.1 r8.2.2.2.1 r8.2.2.2.2.1 r8.2.2.2.2.2.1 r8.2.2.2.2.2.2.1 r8.2.2.2.2.2.2.2.1 r8.2.2.2.2.2.2.2.2.1 r8.2.2.2.2.2.2.2.2.2.1 r8.2.2.2.2.2.2.2.2.2.2.1 r8.2.2.2.2.2.2.2.2.2.2.2.1 r8.2.2.2.2.2.2.2.2.2.2.2.2.1 r8.2.2.2.2.2.2.2.2.2.2.2.2.2.1 r8.2.2.2.2.2.2.2.2.2.2.2.2.2.2.1 r8.2.2.2.2.2.2.2.2.2.2.2.2.2.2.2.1 r8.2.2.2.2.2.2.2.2.2.2.2.2.2.2.2.2.1 r8.2.2.2.2.2.2.2.2.2.2.2.2.2.2.2.2.2.1 r8.2.2.2.2.2.2.2.2.2.2.2.2.2.2.2.2.2.2.1 r8.2.2.2.2.2.2.2.2.2.2.2.2.2.2.2.2.2.2.2.1 r8.2.2.2.2.2.2.2.2.2.2.2.2.2.2.2.2.2.2.2.2 2 9 l2 3 12 7 9).bind fun Di=>
 (pN N ).bind fun yP=>
 (rW N yP.1 yP.2.1 yP.2.2.1 yP.2.2.2.1 yP.2.2.2.2.1 yP.2.2.2.2.2.1 yP.2.2.2.2.2.2.1 yP.2.2.2.2.2.2.2.1 yP.2.2.2.2.2.2.2.2.1 yP.2.2.2.2.2.2.2.2.2.1 yP.2.2.2.2.2.2.2.2.2.2.1 yP.2.2.2.2.2.2.2.2.2.2.2.1 yP.2.2.2.2.2.2.2.2.2.2.2.2.1 yP.2.2.2.2.2.2.2.2.2.2.2.2.2.1 yP.2.2.2.2.2.2.2.2.2.2.2.2.2.2.1 yP.2.2.2.2.2.2.2.2.2.2.2.2.2.2.2.1 yP.2.2.2.2.2.2.2.2.2.2.2.2.2.2.2.2.1 yP.2.2.2.2.2.2.2.2.2.2.2.2.2.2.2.2.2.1 yP.2.2.2.2.2.2.2.2.2.2.2.2.2.2.2.2.2.2.1 yP.2.2.2.2.2.2.2.2.2.2.2.2.2.2.2.2.2.2.2.1 yP.2.2.2.2.2.2.2.2.2.2.2.2.2.2.2.2.2.2.2.2).bind fun Ae=>
 cond (decide (Ae=0)) (
 (rW N 0 0 0 0 0 0 (([]:List (Int × Int))) 0 0 0 0 0 0 0 0 0 0 0 0 (([]:List (Int × Int))) 0).bind fun DX=>
 cond (decide (DX=3)) (
 cond (decide (r4.2.2.2=0)) (
 cond (decide (r7.2.2.2=0)) (
 cond (decide (Di.2.2.2=0)) (
 cond (decide ((r4.2.2.1.length:Int)=24)) (
 (eF N r7.1 r7.2.1 r7.2.2.1 r4.1 r4.2.1 r4.2.2.1).bind fun Ll=>
 cond (Ll) (
 cond (decide (Di.2.1=2)) (
 cond (decide ((Di.2.2.1.length:Int)=4)) (
 (idx Di.2.2.1 0).bind fun e=>
 (idx r4.2.2.1 14).bind fun e2=>
 some (decide (e.1=e2.1)&&decide (e.2.1=e2.2.1)&&decide (e.2.2=e2.2.2))) (
 some false)) (
 some false)) (
 some false)) (
 some false)) (
 some false)) (
 some false)) (
 some false)) (
 some false)) (
 some false)
def iU (N:Nat)  (kk:(List (Int × Int × Int) × Int)→Option Bool):Nat→(List (Int × Int × Int) × Int)→Option Bool
 | 0,_=>none
 | fuel+1,(wW,i9)=>
  cond (decide (i9<(wW.length:Int))) (
  (idx wW i9).bind fun e10=>
  (yK wW i9 (0,0,(-1))).bind fun Qe=>
  (some (IntKind.i64.wrap (i9+1))).bind fun P7=>
  iU N  kk fuel (Qe,P7)) (
  kk (wW,i9))
def iV (N:Nat)  (kk:(List (Int × Int) × Int)→Option Bool):Nat→(List (Int × Int) × Int)→Option Bool
 | 0,_=>none
 | fuel+1,(sA,i7)=>
  cond (decide (i7<(sA.length:Int))) (
  (idx sA i7).bind fun e8=>
  (yK sA i7 ((-1),0)).bind fun Xw=>
  (some (IntKind.i64.wrap (i7+1))).bind fun x9=>
  iV N  kk fuel (Xw,x9)) (
  kk (sA,i7))
def iW (N:Nat)  (kk:(List Int × Int)→Option Bool):Nat→(List Int × Int)→Option Bool
 | 0,_=>none
 | fuel+1,(FV,i5)=>
  cond (decide (i5<(FV.length:Int))) (
  (idx FV i5).bind fun e6=>
  (yK FV i5 (-1)).bind fun l9=>
  (some (IntKind.i64.wrap (i5+1))).bind fun x7=>
  iW N  kk fuel (l9,x7)) (
  kk (FV,i5))
def iX (N:Nat)  (kk:(List (Int × Int × Int) × Int)→Option Bool):Nat→(List (Int × Int × Int) × Int)→Option Bool
 | 0,_=>none
 | fuel+1,(Ka,i3)=>
  cond (decide (i3<(Ka.length:Int))) (
  (idx Ka i3).bind fun e4=>
  (yK Ka i3 (0,(-1),0)).bind fun l7=>
  (some (IntKind.i64.wrap (i3+1))).bind fun x5=>
  iX N  kk fuel (l7,x5)) (
  kk (Ka,i3))
def iY (N:Nat)  (kk:(List (Int × Int × Int) × Int)→Option Bool):Nat→(List (Int × Int × Int) × Int)→Option Bool
 | 0,_=>none
 | fuel+1,(BF,i)=>
  cond (decide (i<(BF.length:Int))) (
  (idx BF i).bind fun e2=>
  (yK BF i ((-1),0,0)).bind fun l5=>
  (some (IntKind.i64.wrap (i+1))).bind fun x3=>
  iY N  kk fuel (l5,x3)) (
  kk (BF,i))
def pU (N:Nat) (da Fq Fr Fs Ft dc:Int) (dd:List (Int × Int)) (Fu Fv Fw Gd Ge df2 Gf Gg Gh Gi Gj Gk:Int) (dg:List (Int × Int)) (dh vO Ab:Int) (xU:List Int) (p2 My Mz:Int) (G1:List (Int × Int × Int)) (Nt Nu zB BW BX:Int) (zW:List Int) (tT:List (List UInt8)) (pA nB nC nD nE pB:Int) (mD:List (Int × Int)) (nF nG nH lM lN lO lP lQ lR lS lT lU:Int) (mE:List (Int × Int)) (nI:Int):Option Bool:=
 (app 8 ([]:List Int) xU).bind fun l2=>
 (app 24 (([]:List (Int × Int × Int))) G1).bind fun l3=>
 (vC N da Fq Fr Fs Ft dc dd Fu Fv Fw Gd Ge df2 Gf Gg Gh Gi Gj Gk dg dh vO Ab xU p2).bind fun r2=>
 iY N  (fun (aIY,i2)=>
 (Bv N My Mz G1 1).bind fun r3=>
 iX N  (fun (BG,i4)=>
 (CJ N Nt Nu zB BW BX zW tT pA nB nC nD nE pB mD nF nG nH lM lN lO lP lQ lR lS lT lU mE nI vO Ab xU).bind fun r4=>
 iW N  (fun (MQ,i6)=>
 iV N  (fun (OT,i8)=>
 (u6 N vO Ab xU 0).bind fun r5=>
 iU N  (fun (Bi,Ld)=>
 (vC N da Fq Fr Fs Ft dc dd Fu Fv Fw Gd Ge df2 Gf Gg Gh Gi Gj Gk dg dh vO Ab xU p2).bind fun r6=>
 (Bv N My Mz G1 1).bind fun r7=>
 (CJ N Nt Nu zB BW BX zW tT pA nB nC nD nE pB mD nF nG nH lM lN lO lP lQ lR lS lT lU mE nI vO Ab xU).bind fun r8=>
 (qE N Nt Nu zB BW BX zW tT pA nB nC nD nE pB mD nF nG nH lM lN lO lP lQ lR lS lT lU mE nI vO Ab xU).bind fun r9=>
 cond (!decide (r2.2.2.2=r6.2.2.2)) (
 some false) (
 cond (!decide (r3.2.2.2=r7.2.2.2)) (
 some false) (
 cond (!decide (r4.2.2.2.2.2.2.2.2.2.2.2.2.2.2.2.2.2.2.2.2.2.2.2.2.2.2.2.2=r8.2.2.2.2.2.2.2.2.2.2.2.2.2.2.2.2.2.2.2.2.2.2.2.2.2.2.2.2)) (
 some false) (
 cond (!decide (r8.2.2.2.2.2.2.2.2.2.2.2.2.2.2.2.2.2.2.2.2.2.2.2.2.2.2.2.2=r9.2.2.2.2.2.2.2.2.2.2.2.2.2.2.2.2.2.2.2.2.2.2.2.2.2.2.2.2)) (
 some false) (
 (jI N xU l2).bind fun Di=>
 cond (!(Di)) (
 some false) (
 (eF N 0 0 G1 0 0 l3).bind fun yP=>
 cond (!(yP)) (
 some false) (
 (mT N r8.1 r8.2.1 r8.2.2.1 r8.2.2.2.1 r8.2.2.2.2.1 r8.2.2.2.2.2.1 r8.2.2.2.2.2.2.1 r8.2.2.2.2.2.2.2.1 r8.2.2.2.2.2.2.2.2.1 r8.2.2.2.2.2.2.2.2.2.1 r8.2.2.2.2.2.2.2.2.2.2.1 r8.2.2.2.2.2.2.2.2.2.2.2.1 r8.2.2.2.2.2.2.2.2.2.2.2.2.1 r8.2.2.2.2.2.2.2.2.2.2.2.2.2.1 r8.2.2.2.2.2.2.2.2.2.2.2.2.2.2.1 r8.2.2.2.2.2.2.2.2.2.2.2.2.2.2.2.1 r8.2.2.2.2.2.2.2.2.2.2.2.2.2.2.2.2.1 r8.2.2.2.2.2.2.2.2.2.2.2.2.2.2.2.2.2.1 r8.2.2.2.2.2.2.2.2.2.2.2.2.2.2.2.2.2.2.1 r8.2.2.2.2.2.2.2.2.2.2.2.2.2.2.2.2.2.2.2.1 r8.2.2.2.2.2.2.2.2.2.2.2.2.2.2.2.2.2.2.2.2.1 r8.2.2.2.2.2.2.2.2.2.2.2.2.2.2.2.2.2.2.2.2.2.1 r8.2.2.2.2.2.2.2.2.2.2.2.2.2.2.2.2.2.2.2.2.2.2.1 r8.2.2.2.2.2.2.2.2.2.2.2.2.2.2.2.2.2.2.2.2.2.2.2.1 r8.2.2.2.2.2.2.2.2.2.2.2.2.2.2.2.2.2.2.2.2.2.2.2.2.1 r8.2.2.2.2.2.2.2.2.2.2.2.2.2.2.2.2.2.2.2.2.2.2.2.2.2.1 r8.2.2.2.2.2.2.2.2.2.2.2.2.2.2.2.2.2.2.2.2.2.2.2.2.2.2.1 r8.2.2.2.2.2.2.2.2.2.2.2.2.2.2.2.2.2.2.2.2.2.2.2.2.2.2.2.1 r9.1 r9.2.1 r9.2.2.1 r9.2.2.2.1 r9.2.2.2.2.1 r9.2.2.2.2.2.1 r9.2.2.2.2.2.2.1 r9.2.2.2.2.2.2.2.1 r9.2.2.2.2.2.2.2.2.1 r9.2.2.2.2.2.2.2.2.2.1 r9.2.2.2.2.2.2.2.2.2.2.1 r9.2.2.2.2.2.2.2.2.2.2.2.1 r9.2.2.2.2.2.2.2.2.2.2.2.2.1 r9.2.2.2.2.2.2.2.2.2.2.2.2.2.1 r9.2.2.2.2.2.2.2.2.2.2.2.2.2.2.1 r9.2.2.2.2.2.2.2.2.2.2.2.2.2.2.2.1 r9.2.2.2.2.2.2.2.2.2.2.2.2.2.2.2.2.1 r9.2.2.2.2.2.2.2.2.2.2.2.2.2.2.2.2.2.1 r9.2.2.2.2.2.2.2.2.2.2.2.2.2.2.2.2.2.2.1 r9.2.2.2.2.2.2.2.2.2.2.2.2.2.2.2.2.2.2.2.1 r9.2.2.2.2.2.2.2.2.2.2.2.2.2.2.2.2.2.2.2.2.1 r9.2.2.2.2.2.2.2.2.2.2.2.2.2.2.2.2.2.2.2.2.2.1 r9.2.2.2.2.2.2.2.2.2.2.2.2.2.2.2.2.2.2.2.2.2.2.1 r9.2.2.2.2.2.2.2.2.2.2.2.2.2.2.2.2.2.2.2.2.2.2.2.1 r9.2.2.2.2.2.2.2.2.2.2.2.2.2.2.2.2.2.2.2.2.2.2.2.2.1 r9.2.2.2.2.2.2.2.2.2.2.2.2.2.2.2.2.2.2.2.2.2.2.2.2.2.1 r9.2.2.2.2.2.2.2.2.2.2.2.2.2.2.2.2.2.2.2.2.2.2.2.2.2.2.1 r9.2.2.2.2.2.2.2.2.2.2.2.2.2.2.2.2.2.2.2.2.2.2.2.2.2.2.2.1).bind fun Ae=>
 cond (!(Ae)) (
 some false) (
 cond (decide (r6.2.2.2=0)) (
 (lH N da Fq Fr Fs Ft dc dd Fu Fv Fw Gd Ge df2 Gf Gg Gh Gi Gj Gk dg dh vO Ab xU).bind fun DX=>
 (eF N r6.1 r6.2.1 r6.2.2.1 DX.1 DX.2.1 DX.2.2).bind fun Ll=>
 cond (!(Ll)) (
 some false) (
 cond (decide (r7.2.2.2=0)) (
 (eF N r7.1 r7.2.1 r7.2.2.1 My Mz G1).bind fun GZ=>
 cond (!(GZ)) (
 some false) (
 (j5 N ).bind fun r16=>
 cond (r16) (
 (dE N vO Ab xU).bind fun Qb=>
 some (decide ((decide (r5.2.2.2=0))=Qb))) (
 some false))) (
 (j5 N ).bind fun TE=>
 cond (TE) (
 (dE N vO Ab xU).bind fun Yg=>
 some (decide ((decide (r5.2.2.2=0))=Yg))) (
 some false)))) (
 cond (decide (r7.2.2.2=0)) (
 (eF N r7.1 r7.2.1 r7.2.2.1 My Mz G1).bind fun HW=>
 cond (!(HW)) (
 some false) (
 (j5 N ).bind fun r21=>
 cond (r21) (
 (dE N vO Ab xU).bind fun Wm=>
 some (decide ((decide (r5.2.2.2=0))=Wm))) (
 some false))) (
 (j5 N ).bind fun Jz=>
 cond (Jz) (
 (dE N vO Ab xU).bind fun r24=>
 some (decide ((decide (r5.2.2.2=0))=r24))) (
 some false))))))))))) N (r5.2.2.1,0)) N (r4.2.2.2.2.2.2.2.2.2.2.2.2.2.2.2.2.2.2.2.2.2.2.2.2.2.2.1,0)) N (r4.2.2.2.2.2.1,0)) N (r3.2.2.1,0)) N (r2.2.2.1,0)
end
section
open Go
theorem dC {x:Int} (h:-9223372036854775808≤x∧x≤9223372036854775807):IntKind.i64.wrap x=x:=IntWalk.i64_in x h
theorem dH {α:Type} (xs:List α) (k:Nat):idx xs (k:Int)=xs[k]?:=by simp [idx]
theorem Nv {α:Type} {xs:List α} {p q:Int} (h:0≤p∧p≤q∧q≤xs.length):Tz xs p q=some ((xs.take q.toNat).drop p.toNat):=by unfold Tz;rw [if_pos h]
theorem lI {α:Type} {b:Nat} {xs ys:List α} (h:(xs.length+ys.length)*b≤140737488355328):app b xs ys=some (xs++ys):=by unfold app;rw [if_pos h]
theorem mk_eq {α:Type} {b:Nat} {n:Int} {z:α} (h:0≤n∧n*b≤281474976710656):mk b n z=some (List.replicate n.toNat z):=by unfold mk;rw [if_pos h]
theorem BY {α:Type} {xs:List α} {i:Int} {x:α} (h:0≤i∧i<xs.length):yK xs i x=some (xs.set i.toNat x):=by unfold yK;rw [if_pos h]
theorem AF {n:Int} (h:n≠0):nz n=some ():=by unfold nz;rw [if_neg h]
theorem aC {α β:Type} (x:α) (f:α→Option β):Option.bind (some x) f=f x:=rfl
theorem cT {α:Type} {b:Bool} (h:b=true) (x y:α):cond b x y=x:=by rw [h];rfl
theorem cF {α:Type} {b:Bool} (h:b=false) (x y:α):cond b x y=y:=by rw [h];rfl
theorem dT {p:Prop} [Decidable p] (h:p):decide p=true:=decide_eq_true h
theorem dF {p:Prop} [Decidable p] (h:¬p):decide p=false:=decide_eq_false h
def Af (p:Int × Int × Int):Bool:=decide (0≤p.1∧p.1≤65535∧0≤p.2.1∧p.2.1≤65535∧0≤p.2.2∧p.2.2≤65535)
def qI (W H:Int) (n:Nat):Prop:=1≤W∧W≤64∧1≤H∧H≤64∧(n:Int)=W*H
instance (W H:Int) (n:Nat):Decidable (qI W H n):=by unfold qI;infer_instance
def uB (W H:Int) (P:List (Int × Int × Int)):Bool:=decide (qI W H P.length)&&P.all Af
theorem Lt {W H:Int} (h:1≤W∧W≤64∧1≤H∧H≤64):1≤W*H∧W*H≤4096:=by
 obtain ⟨h1,h2,h3,h4⟩:=h;have a:=Int.mul_le_mul h2 h4 (by omega) (by omega);have b:=Int.mul_le_mul h1 h3 (by omega) (by omega)
 omega
theorem BZ {W H:Int} {n:Nat} (h:qI W H n):n≤4096∧1≤n:=by
 obtain ⟨h1,h2,h3,h4,h5⟩:=h;have:=Lt ⟨h1,h2,h3,h4⟩
 omega
theorem rO {W H:Int} {P:List (Int × Int × Int)} (h:uB W H P=true):qI W H P.length:=by
 simp only [uB,Bool.and_eq_true,decide_eq_true_eq] at h;exact h.1
theorem RN {W H:Int} {P:List (Int × Int × Int)} (h:uB W H P=true) {k:Nat} {p:Int × Int × Int} (hk:P[k]? = some p):0≤p.1∧p.1≤65535∧0≤p.2.1∧p.2.1≤65535∧0≤p.2.2∧p.2.2≤65535:=by
 simp only [uB,Bool.and_eq_true] at h;have:=List.all_eq_true.1 h.2 p (List.mem_of_getElem? hk)
 simpa [Af] using this
abbrev Px:=Int × Int × Int
def Ff:Px:=(0,0,0)
def Lu (W H:Nat) (f:Nat→Nat→Px):List Px:=(List.range (W*H)).map fun i=>f (i%W) (i/W)
theorem B1 (W H:Nat) (f:Nat→Nat→Px):(Lu W H f).length=W*H:=by simp [Lu]
theorem U2 {W H:Nat} (f:Nat→Nat→Px) {i:Nat} (h:i<W*H):(Lu W H f)[i]? = some (f (i%W) (i/W)):=by simp [Lu,h]
theorem wM {W H i:Nat} (h:i<W*H):i%W<W∧i/W<H∧0<W:=by
 have hW:0<W:=by
  rcases Nat.eq_zero_or_pos W with h0 | h0
  ·subst h0;simp at h
  ·exact h0
 exact ⟨Nat.mod_lt _ hW,Nat.div_lt_of_lt_mul h,hW⟩
def Lv (P:List Px) (W x y:Nat):Px:=P.getD (y*W+x) Ff
theorem Ym {P:List Px} {W H:Nat} (h:P.length=W*H):Lu W H (Lv P W)=P:=by
 apply List.ext_getElem?
 intro i
 by_cases hi:i<W*H
 ·rw [U2 _ hi];simp only [Lv];rw [Nat.div_add_mod'];rw [List.getD_eq_getElem?_getD,List.getElem?_eq_getElem (by omega)]
  rfl
 ·rw [List.getElem?_eq_none (by rw [B1];omega),List.getElem?_eq_none (by omega)]
theorem dm {W x:Nat} (y:Nat) (h:x<W):(y*W+x)%W=x∧(y*W+x)/W=y:=by
 have h1:(y*W+x)%W=x:=by rw [Nat.add_comm,Nat.add_mul_mod_self_right,Nat.mod_eq_of_lt h]
 have h2:(y*W+x)/W=y:=by rw [Nat.add_comm,Nat.add_mul_div_right _ _ (by omega),Nat.div_eq_of_lt h,Nat.zero_add]
 exact ⟨h1,h2⟩
theorem s7 {W H x y:Nat} (hx:x<W) (hy:y<H):y*W+x<W*H:=by
 have:=Nat.mul_le_mul_right W (show y+1≤H from hy);rw [Nat.add_mul,Nat.one_mul,Nat.mul_comm H W] at this
 omega
def Qn (P:List Px) (p:Nat→Nat) (n:Nat):Nat→List Px
 | 0=>List.replicate n Ff
 | k+1=>(Qn P p n k).set (p k) (P.getD k Ff)
theorem Kb (P:List Px) (p:Nat→Nat) (n:Nat):∀k,(Qn P p n k).length=n
 | 0=>by simp [Qn]
 | k+1=>by simp [Qn,Kb P p n k]
theorem U3 (P:List Px) (p:Nat→Nat) (n:Nat) (hp:∀i,i<n→p i<n) (hinj:∀i j,i<n→j<n→p i=p j→i=j):∀k,k≤n→∀i,i<k→(Qn P p n k)[p i]? = some (P.getD i Ff)
 | 0,_,i,hi=>by omega
 | k+1,hk,i,hi=>by
  rw [Qn,List.getElem?_set]
  by_cases h:p k=p i
  ·rw [if_pos h,if_pos (by rw [Kb];exact hp k (by omega))];rw [hinj k i (by omega) (by omega) h]
  ·rw [if_neg h];have:i≠k:=fun e=>h (by rw [e])
   exact U3 P p n hp hinj k (by omega) i (by omega)
theorem Wu {P:List Px} {W H W' H':Nat} {p:Nat→Nat} {g:Nat→Nat→Nat} (hn:W*H=W'*H') (hp:∀i,i<W*H→p i<W*H) (hg:∀x y,x<W'→y<H'→g x y<W*H∧p (g x y)=y*W'+x)
  (hinj:∀i j,i<W*H→j<W*H→p i=p j→i=j):Qn P p (W*H) (W*H)=Lu W' H' fun x y=>P.getD (g x y) Ff:=by
 apply List.ext_getElem?
 intro i
 by_cases hi:i<W*H
 ·have hi':i<W'*H':=by omega
  obtain ⟨h1,h2,_⟩:=wM hi';obtain ⟨g1,g2⟩:=hg _ _ h1 h2;rw [U2 _ hi'];have:=U3 P p (W*H) hp hinj (W*H) (Nat.le_refl _) _ g1;rw [g2,Nat.div_add_mod'] at this;exact this
 ·rw [List.getElem?_eq_none (by rw [Kb];omega),List.getElem?_eq_none (by rw [B1];omega)]
theorem tdm {W:Nat} (k:Nat) (hW:0<W):Int.tmod (k:Int) (W:Int)=((k%W:Nat):Int)∧Int.tdiv (k:Int) (W:Int)=((k/W:Nat):Int):=by
 constructor
 ·rw [Int.tmod_eq_emod_of_nonneg (by omega)];rfl
 ·rw [Int.tdiv_eq_ediv_of_nonneg (by omega)];rfl
theorem EW (W H:Nat) (P:List Px) (hs:qI W H P.length):1≤W∧W≤64∧1≤H∧H≤64∧P.length=W*H∧W*H≤4096:=by
 obtain ⟨h1,h2,h3,h4,h5⟩:=hs;have h6:P.length=W*H:=by exact_mod_cast h5
 have h7:=Nat.mul_le_mul (show W≤64 by omega) (show H≤64 by omega);exact ⟨by omega,by omega,by omega,by omega,h6,by omega⟩
theorem Yn {W H:Nat} (h:1≤W∧W≤64∧1≤H∧H≤64) (f:Nat→Nat→Px):qI (W:Int) (H:Int) (Lu W H f).length:=by
 rw [B1];exact ⟨by omega,by omega,by omega,by omega,by rw [Int.natCast_mul]⟩
def pre {α:Type} (W:Nat) (f:Nat→Nat→α) (n:Nat):List α:=(List.range n).map fun k=>f (k%W) (k/W)
theorem IH {α:Type} (W:Nat) (f:Nat→Nat→α) (n:Nat):(pre W f n).length=n:=by simp [pre]
theorem Id {α:Type} {W:Nat} (f:Nat→Nat→α) (y:Nat) {x:Nat} (hx:x<W):pre W f (y*W+(x+1))=pre W f (y*W+x)++[f x y]:=by
 obtain ⟨h1,h2⟩:=dm y hx;rw [show y*W+(x+1)=(y*W+x)+1 by omega,pre,List.range_succ,List.map_append,List.map_singleton,h1,h2];rfl
theorem Ke {α:Type} {W:Nat} (f:Nat→Nat→α) (y:Nat):pre W f (y*W+W)=pre W f ((y+1)*W+0):=by
 rw [Nat.add_mul,Nat.one_mul];rfl
theorem aBo {W H:Nat} {f:Nat→Nat→Px} (h:1≤W∧W≤64∧1≤H∧H≤64) (hf:∀x y,x<W→y<H→Af (f x y)=true):uB W H (Lu W H f)=true:=by
 simp only [uB,Bool.and_eq_true,decide_eq_true_eq];refine ⟨Yn h f,List.all_eq_true.2 fun p hp=>?_⟩;obtain ⟨i,hi,rfl⟩:=List.mem_map.1 hp;obtain ⟨h1,h2,_⟩:=wM (List.mem_range.1 hi);exact hf _ _ h1 h2
theorem Nw {α β γ:Type} (x:Option α) (f:α→Option β) (g:β→Option γ):(Option.bind x fun a=>Option.bind (f a) g)=Option.bind (Option.bind x f) g:=by cases x <;> rfl
theorem MR {W H:Int} {P:List Px} (hp:uB W H P=true) {i:Nat} {p:Px} (hi:P[i]? = some p):Af p=true:=by
 have:=RN hp hi;simpa [Af] using this
theorem Ie {x y:Int} {a b:Nat} (hx:-(a:Int)≤x∧x≤a) (hy:-(b:Int)≤y∧y≤b):-((a*b:Nat):Int)≤x*y∧x*y≤((a*b:Nat):Int):=by
 have h1:x.natAbs≤a:=by omega
 have h2:y.natAbs≤b:=by omega
 have h3:=Nat.mul_le_mul h1 h2;rw [←Int.natAbs_mul] at h3
 omega
theorem Gq {α:Type} (g:Nat→α) (z:α) {n k:Nat} (hk:k<n):yK ((List.range k).map g++List.replicate (n-k) z) (k:Int) (g k)=some ((List.range (k+1)).map g++List.replicate (n-(k+1)) z):=by
 rw [BY (by simp;omega),Int.toNat_natCast];obtain ⟨m,rfl⟩:∃m,n=k+1+m:=⟨n-(k+1),by omega⟩
 rw [show k+1+m-k=m+1 by omega,show k+1+m-(k+1)=m by omega,List.range_succ,List.map_append,List.append_assoc,List.replicate_succ]
 congr 1
 rw [List.set_append_right _ _ (by simp)]
 simp
theorem Nx {α:Type} (g:Nat→α) (k:Nat):(List.range k).map g++[g k]=(List.range (k+1)).map g:=by
 rw [List.range_succ,List.map_append];rfl
theorem Ny (m:Int) (n:Nat) (hn:n≤64):rL .i64 m (n:Int)=m/2^n:=by
 unfold rL;rw [Int.toNat_natCast,show min n IntKind.i64.bits=n from Nat.min_eq_left hn];exact Int.fdiv_eq_ediv_of_nonneg _ (Int.le_of_lt (Int.pow_pos (by decide)))
theorem aGs (m:Int):rL .i64 m 12=m/4096:=Ny m 12 (by decide)
theorem aC1 (m:Int):rL .i64 m 8=m/256:=Ny m 8 (by decide)
theorem aIZ (m:Int):rL .i64 m 4=m/16:=Ny m 4 (by decide)
theorem aBp (N:Nat) (P:List (Int × Int × Int)) (kk:Int→Option Bool) (hP:P.length≤4096):∀(d k fuel:Nat),k+d=P.length→d<fuel→tQ N P kk fuel (k:Int)=if (P.drop k).all Af then kk P.length else some false:=by
 intro d
 induction d with
 | zero=>
  intro k fuel hk hf;obtain ⟨fuel,rfl⟩:=mK fuel (by omega);have hk':k=P.length:=by omega
  subst hk';unfold tQ;rw [cF (dF (by omega))]
  simp
 | succ d ih=>
  intro k fuel hk hf;obtain ⟨fuel,rfl⟩:=mK fuel (by omega);have hlt:k<P.length:=by omega
  obtain ⟨⟨x,y,z⟩,hx⟩:∃p,P[k]? = some p:=⟨P[k],List.getElem?_eq_getElem hlt⟩
  unfold tQ;rw [cT (dT (by omega)),dH,hx,aC,dC (by omega)]
  have hd:P.drop k=(x,y,z)::P.drop (k+1):=by
   rw [List.drop_eq_getElem_cons hlt]
   congr 1
   exact (List.getElem?_eq_some_iff.1 hx).2
  rw [hd,List.all_cons];have hih:=ih (k+1) fuel (by omega) (by omega)
  by_cases h1:min (min x y) z<0
  ·rw [cT (dT h1)];have:Af (x,y,z)=false:=by simp only [Af,decide_eq_false_iff_not];omega
   simp [this]
  ·rw [cF (dF h1)]
   by_cases h2:65535<max (max x y) z
   ·rw [cT (dT h2)];have:Af (x,y,z)=false:=by simp only [Af,decide_eq_false_iff_not];omega
    simp [this]
   ·rw [cF (dF h2)];have:Af (x,y,z)=true:=by simp only [Af,decide_eq_true_eq];omega
    rw [this,Bool.true_and,←hih]
    rfl
theorem aBq (N:Nat) (W H:Int) (P:List (Int × Int × Int)) (hN:5000≤N):Ar N W H P=some (uB W H P):=by
 unfold Ar;have no:¬qI W H P.length→uB W H P=false:=fun h=>by simp [uB,h]
 by_cases h1:W<1
 ·rw [cT (dT h1),no (fun h=>by unfold qI at h;omega)]
 rw [cF (dF h1)]
 by_cases h2:64<W
 ·rw [cT (dT h2),no (fun h=>by unfold qI at h;omega)]
 rw [cF (dF h2)]
 by_cases h3:H<1
 ·rw [cT (dT h3),no (fun h=>by unfold qI at h;omega)]
 rw [cF (dF h3)]
 by_cases h4:64<H
 ·rw [cT (dT h4),no (fun h=>by unfold qI at h;omega)]
 rw [cF (dF h4)];have hb:=Lt (W:=W) (H:=H) (by omega);rw [dC (by omega)]
 by_cases h5:(P.length:Int)=W*H
 ·rw [cF (by simp [h5])];have hs:qI W H P.length:=⟨by omega,by omega,by omega,by omega,h5⟩
  refine (aBp N P _ (by omega) P.length 0 N (by omega) (by omega)).trans ?_;simp only [uB,hs,decide_true,Bool.true_and,List.drop_zero]
  cases P.all Af <;> rfl
 ·rw [cT (by simp [h5]),no (fun h=>h5 h.2.2.2.2)]
theorem rP (N:Nat) (n lo hi:Int):aL N n lo hi=some (decide (lo≤n∧n≤hi)):=by
 unfold aL
 by_cases h1:lo≤n
 ·rw [cT (dT h1)];simp [h1]
 ·rw [cF (dF h1)];simp [h1]
theorem aBr (N:Nat) (P:List (Int × Int × Int)) (kk:Int→Option Bool) (hP:P.length≤4611686018427387904):∀(d k fuel:Nat),k+d=P.length→d<fuel→iT N P P kk fuel (k:Int)=kk P.length:=by
 intro d
 induction d with
 | zero=>
  intro k fuel hk hf;obtain ⟨fuel,rfl⟩:=mK fuel (by omega);have hk':k=P.length:=by omega
  subst hk';unfold iT;rw [cF (dF (by omega))]
 | succ d ih=>
  intro k fuel hk hf;obtain ⟨fuel,rfl⟩:=mK fuel (by omega);have hlt:k<P.length:=by omega
  unfold iT;rw [cT (dT (by omega)),dH,List.getElem?_eq_getElem hlt];simp only [aC];rw [cF (by simp),dC (by omega)];exact ih (k+1) fuel (by omega) (by omega)
theorem same_eq (N:Nat) (W H:Int) (P:List (Int × Int × Int)) (hP:P.length≤4611686018427387904) (hN:P.length<N):eF N W H P W H P=some true:=by
 unfold eF;rw [cF (by simp),cF (by simp),cF (by simp)];exact aBr N P _ hP P.length 0 N (by omega) (by omega)
end
end Go.Proofs.YtpmnfhifmmfglacGreatDoor
