/- Texts of the claim ShotAlike, joined and made small by a program. -/
import Derived.Test.YtpmnfhifmmfglabGreatDoorShotAlikeK3
import Derived.Test.YtpmnfhifmmfglabGreatDoorShotAlikeK4
set_option linter.unusedVariables false
set_option linter.unusedSimpArgs false
set_option linter.unusedSectionVars false
set_option maxRecDepth 100000
set_option maxHeartbeats 8000000
namespace Go.Proofs.YtpmnfhifmmfglabGreatDoor
section
def iC (N:Nat) (Oc:List UInt8) (n:Int):Option (Option (List UInt8 × List UInt8)):=
 cond (decide (n<0)) (
 some none) (
 cond (decide ((Oc.length:Int)<n)) (
 some none) (
 (DZ Oc 0 n).bind fun s=>
 (DZ Oc n (Oc.length:Int)).bind fun s2=>
 some (some (s,s2))))
def iS (N:Nat) (r2:List UInt8 × List UInt8) (kk:(Int × Int)→Option (Option (Int × List UInt8))):Nat→(Int × Int)→Option (Option (Int × List UInt8))
 | 0,_=>none
 | fuel+1,(n,i)=>
  cond (decide (i<(((oV r2.1).length:Int)))) (
  (idx (oV r2.1) i).bind fun e2=>
  (some (Fc .i64 (mN .i64 n 8) (IntKind.i64.wrap e2))).bind fun n3=>
  iS N r2 kk fuel (n3,IntKind.i64.wrap (i+1))) (
  kk (n,i))
def aH (N:Nat) (Oc:List UInt8):Option (Option (Int × List UInt8)):=
 (iC N Oc 4).bind fun q=>Cq q (
 some none) fun r2=>
 iS N r2 (fun (n4,i2)=>
 some (some (IntKind.i64.wrap (IntKind.i32.wrap n4),r2.2))) N (0,0)
def oM (N:Nat) (lens:List Int) (kk:(Int × Int)→Option Int):Nat→(Int × Int)→Option Int
 | 0,_=>none
 | fuel+1,(room,i)=>
  cond (decide (i<(lens.length:Int))) (
  (idx lens i).bind fun e2=>
  cond (decide (e2<0)) (
  some 3) (
  cond (decide (15<e2)) (
  some 3) (
  cond (decide (0<e2)) (
  (nn (IntKind.i64.wrap (15-e2))).bind fun _=>
  (some (IntKind.i64.wrap (room-(mN .i64 1 (IntKind.i64.wrap (15-e2)))))).bind fun Vr=>
  oM N lens kk fuel (Vr,IntKind.i64.wrap (i+1))) (
  oM N lens kk fuel (room,IntKind.i64.wrap (i+1)))))) (
  kk (room,i))
def sS (N:Nat) (lens:List Int):Option Int:=
 cond (decide ((lens.length:Int)<1)) (
 some 2) (
 cond (decide (17<(lens.length:Int))) (
 some 2) (
 oM N lens (fun (L3,i2)=>
 cond (decide (L3<0)) (
 some 1) (
 cond (decide (L3=32768)) (
 some 1) (
 some 0))) N (32768,0)))
def AH (N:Nat) (w7 eV:Int) (Cy:Bool→Option Int):Option Int:=
  cond (decide (eV<1)) (
  Cy (decide (eV<1))) (
  Cy (decide (w7<eV)))
def AI (N:Nat) (w7 d8 eV:Int) (Cz:Bool→Option Int):Option Int:=
  cond (decide (16<d8)) (
  Cz (decide (16<d8))) (
  AH N w7 eV (fun UO=>
  Cz UO))
def AJ (N:Nat) (w7 d8 eV:Int) (CA:Bool→Option Int):Option Int:=
  cond (decide (d8<1)) (
  CA (decide (d8<1))) (
  AI N w7 d8 eV (fun i12=>
  CA i12))
def AK (N:Nat) (w7 d8 eV:Int) (CB:Bool→Option Int):Option Int:=
  cond (decide (64<w7)) (
  CB (decide (64<w7))) (
  AJ N w7 d8 eV (fun Fp=>
  CB Fp))
def AL (N:Nat) (w7 d8 eV:Int) (CC:Bool→Option Int):Option Int:=
  cond (decide (w7<1)) (
  CC (decide (w7<1))) (
  AK N w7 d8 eV (fun i8=>
  CC i8))
def AM (N:Nat) (D0 w7 d8 eV:Int) (CD:Bool→Option Int):Option Int:=
  cond (decide (64<D0)) (
  CD (decide (64<D0))) (
  AL N w7 d8 eV (fun i6=>
  CD i6))
def AN (N:Nat) (jC:Int) (CE:Bool→Option Int):Option Int:=
  cond (decide (jC<0)) (
  CE (decide (jC<0))) (
  CE (decide (7<jC)))
def AO (N:Nat) (D0 w7 d8 eV:Int) (CF:Bool→Option Int):Option Int:=
  cond (decide (D0<1)) (
  CF (decide (D0<1))) (
  AM N D0 w7 d8 eV (fun i4=>
  CF i4))
def Am (N:Nat) (D0 w7 d8 jC eV:Int) (iM:List Int) (eT:List (List UInt8)) (dD cC cD cE cG dE:Int) (aW:List (Int × Int)) (cH cJ cK bD bE bF bG bH bI bJ bK bL:Int) (aX:List (Int × Int)) (cL:Int):Option Int:=
 AO N D0 w7 d8 eV (fun i2=>
 cond (i2) (
 some 3) (
 AN N jC (fun i16=>
 cond (i16) (
 some 6) (
 cond (decide (0<jC)) (
 (sS N iM).bind fun r2=>
 some r2) (
 cond (decide (0<(iM.length:Int))) (
 some 1) (
 some 0))))))
def qG (N:Nat) (w7 eV:Int) (kk:(List (Int × Int) × Int)→Option (List (Int × Int))):Nat→(List (Int × Int) × Int)→Option (List (Int × Int))
 | 0,_=>none
 | fuel+1,(l3,y2)=>
  cond (decide (y2<w7)) (
  (app 16 l3 (([(y2,min eV (IntKind.i64.wrap (w7-y2)))]:List (Int × Int)))).bind fun l5=>
  (some (IntKind.i64.wrap (y2+eV))).bind fun y4=>
  qG N w7 eV kk fuel (l5,y4)) (
  kk (l3,y2))
def yV (N:Nat) (D0 w7 d8 jC eV:Int) (iM:List Int) (eT:List (List UInt8)) (dD cC cD cE cG dE:Int) (aW:List (Int × Int)) (cH cJ cK bD bE bF bG bH bI bJ bK bL:Int) (aX:List (Int × Int)) (cL:Int):Option (List (Int × Int)):=
 qG N w7 eV (fun (l6,y5)=>
 some l6) N (([]:List (Int × Int)),0)
def Dy (N:Nat) (n v0 v1:Int):Option Bool:=
 cond (decide (n<v0)) (
 some true) (
 some (decide (v1<n)))
def d4 (N:Nat) (s:List Int) (Bp Bq:Int) (kk:Int→Option Int):Nat→Int→Option Int
 | 0,_=>none
 | fuel+1,i=>
  cond (decide (i<(s.length:Int))) (
  (idx s i).bind fun e2=>
  (Dy N e2 Bp Bq).bind fun r3=>
  cond (r3) (
  some i) (
  d4 N s Bp Bq kk fuel (IntKind.i64.wrap (i+1)))) (
  kk i)
def iF (N:Nat) (s:List Int) (Bp Bq:Int):Option Int:=
 d4 N s Bp Bq (fun i2=>
 some ((-1))) N 0
def gQ (N:Nat) (s:List Int) (Bp Bq:Int):Option Bool:=
 (iF N s Bp Bq).bind fun r2=>
 some (decide (0≤r2))
def lT (N:Nat) (low high:Int) (l2:List Int):Option Bool:=
 (gQ N l2 low high).bind fun r2=>
 some (!(r2))
def uR (N:Nat) (UP UQ v0 v1:Int):Option Bool:=
 (lT N 0 (IntKind.i64.wrap (v0-1)) ([UP]:List Int)).bind fun r2=>
 cond (!(r2)) (
 some true) (
 (lT N 0 (IntKind.i64.wrap (v1-1)) ([UQ]:List Int)).bind fun r3=>
 some (!(r3)))
def aZ (N:Nat) (s:List (Int × Int)) (qH qI:Int) (kk:Int→Option Int):Nat→Int→Option Int
 | 0,_=>none
 | fuel+1,i=>
  cond (decide (i<(s.length:Int))) (
  (idx s i).bind fun e2=>
  (uR N e2.1 e2.2 qH qI).bind fun r3=>
  cond (r3) (
  some i) (
  aZ N s qH qI kk fuel (IntKind.i64.wrap (i+1)))) (
  kk i)
def eU (N:Nat) (s:List (Int × Int)) (qH qI:Int):Option Int:=
 aZ N s qH qI (fun i2=>
 some ((-1))) N 0
def d9 (N:Nat) (s:List (Int × Int)) (qH qI:Int):Option Bool:=
 (eU N s qH qI).bind fun r2=>
 some (decide (0≤r2))
def vJ (N:Nat) (l2:List (Int × Int)) (w2 h2:Int):Option Bool:=
 (d9 N l2 w2 h2).bind fun r2=>
 some (!(r2))
def qJ (N:Nat) (d l2:List (Int × Int)) (kk:Int→Option Bool):Nat→Int→Option Bool
 | 0,_=>none
 | fuel+1,i=>
  cond (decide (i<(l2.length:Int))) (
  (idx d i).bind fun e9=>
  (idx d (IntKind.i64.wrap (i+1))).bind fun e10=>
  cond (decide (e10.1≤e9.1)) (
  some false) (
  (idx d i).bind fun e11=>
  (idx d (IntKind.i64.wrap (i+1))).bind fun e12=>
  cond (decide (e12.2<e11.2)) (
  some false) (
  qJ N d l2 kk fuel (IntKind.i64.wrap (i+1))))) (
  kk i)
def gW (N:Nat) (d:List (Int × Int)):Option Bool:=
 cond (decide ((d.length:Int)<2)) (
 some false) (
 cond (decide (16<(d.length:Int))) (
 some false) (
 (idx d 0).bind fun e=>
 cond (!decide (e.1=0)) (
 some false) (
 (idx d (IntKind.i64.wrap ((d.length:Int)-1))).bind fun e2=>
 cond (!decide (e2.1=65535)) (
 some false) (
 (idx d 0).bind fun e3=>
 cond (decide (e3.2<0)) (
 some false) (
 (idx d (IntKind.i64.wrap ((d.length:Int)-1))).bind fun e4=>
 cond (decide (65535<e4.2)) (
 some false) (
 (DZ d 1 (d.length:Int)).bind fun l2=>
 qJ N d l2 (fun i2=>
 some true) N 0))))))
def Dz (N:Nat) (i:Int) (v0:List (Int × Int)) (v1:Int):Option Bool:=
 (idx v0 i).bind fun e=>
 some (decide (v1<e.1))
def eJ (N:Nat) (DJ:List (Int × Int)) (Fq:Int) (kk:(Int × Int)→Option Int):Nat→(Int × Int)→Option Int
 | 0,_=>none
 | fuel+1,(i,j)=>
  cond (decide (i<j)) (
  (some (IntKind.i64.wrap (iB .u64 (IntKind.u64.wrap (IntKind.i64.wrap (i+j))) 1))).bind fun h3=>
  (Dz N h3 DJ Fq).bind fun r3=>
  cond (!(r3)) (
  (some (IntKind.i64.wrap (h3+1))).bind fun i3=>
  eJ N DJ Fq kk fuel (i3,j)) (
  eJ N DJ Fq kk fuel (i,h3))) (
  kk (i,j))
def nW (N:Nat) (n:Int) (DJ:List (Int × Int)) (Fq:Int):Option Int:=
 eJ N DJ Fq (fun (i4,j2)=>
 some i4) N (0,n)
def rZ (N:Nat) (l2:List (Int × Int)) (x2:Int):Option Int:=
 (nW N (l2.length:Int) l2 x2).bind fun r2=>
 cond (decide (r2=(l2.length:Int))) (
 (idx l2 (IntKind.i64.wrap (r2-1))).bind fun e=>
 some e.2) (
 (idx l2 (IntKind.i64.wrap (r2-1))).bind fun e2=>
 (idx l2 r2).bind fun e3=>
 (nz (IntKind.i64.wrap (e3.1-e2.1))).bind fun _=>
 (some (IntKind.i64.wrap (e2.2+(IntKind.i64.wrap (Int.tdiv (IntKind.i64.wrap ((IntKind.i64.wrap (e3.2-e2.2))*(IntKind.i64.wrap (x2-e2.1)))) (IntKind.i64.wrap (e3.1-e2.1))))))).bind fun x3=>
 some x3)
def yW (N:Nat) (l2:List (Int × Int)) (x2:Int):Option (Int × Int):=
 (gW N l2).bind fun r2=>
 cond (!(r2)) (
 some (0,1)) (
 cond (decide (x2<0)) (
 some (0,3)) (
 cond (decide (65535<x2)) (
 some (0,3)) (
 (rZ N l2 x2).bind fun r3=>
 some (r3,0))))
def qS (N:Nat) (na nb0 mQ mR mS nc:Int) (nd:List (Int × Int)) (mY ne1 nH nI nJ nK nL nM nN nO nP nf8:Int) (ng:List (Int × Int)) (nh:Int):Option Int:=
 (lT N 0 3 ([na]:List Int)).bind fun r2=>
 cond (!(r2)) (
 some 3) (
 (lT N 1 65535 ([nc]:List Int)).bind fun r3=>
 cond (!(r3)) (
 some 3) (
 (lT N 0 (IntKind.i64.wrap (nc-1)) ([nb0,mQ,mR,mS])).bind fun r4=>
 cond (!(r4)) (
 some 3) (
 cond (decide (64<(nd.length:Int))) (
 some 3) (
 (vJ N nd 64 64).bind fun r5=>
 cond (!(r5)) (
 some 3) (
 (lT N 0 65535 ([mY,ne1,nH])).bind fun r6=>
 cond (!(r6)) (
 some 3) (
 (lT N (-32768) 32768 ([nI,nJ,nK,nL,nM,nN,nO,nP,nf8])).bind fun r7=>
 cond (!(r7)) (
 some 3) (
 (lT N 0 1024 ([nh]:List Int)).bind fun r8=>
 cond (!(r8)) (
 some 3) (
 (yW N ng 0).bind fun r9=>
 some r9.2))))))))
def Ca (N:Nat) (UP UQ wH zQ Kl MT MU:Int) (Hg:List Int) (D5:List (List UInt8)) (DK CG CH CI CJ DL:Int) (wI:List (Int × Int)) (CK CL CM Br Bs Bt Bu Bv Bw By Bz BA:Int) (wJ:List (Int × Int)) (CN:Int):Option Bool:=
 cond (decide (wH≤UP)) (
 some true) (
 some (decide (zQ≤UQ)))
def bA (N:Nat) (s:List (Int × Int)) (oN oO jN kI kJ:Int) (g8:List Int) (fZ:List (List UInt8)) (f7 fD fE fF fG f8:Int) (dP:List (Int × Int)) (fH fI fJ eK eL eM eN eO eP eQ eR eS:Int) (dQ:List (Int × Int)) (fK:Int) (kk:Int→Option Int):Nat→Int→Option Int
 | 0,_=>none
 | fuel+1,i=>
  cond (decide (i<(s.length:Int))) (
  (idx s i).bind fun e2=>
  (Ca N e2.1 e2.2 oN oO jN kI kJ g8 fZ f7 fD fE fF fG f8 dP fH fI fJ eK eL eM eN eO eP eQ eR eS dQ fK).bind fun r3=>
  cond (r3) (
  some i) (
  bA N s oN oO jN kI kJ g8 fZ f7 fD fE fF fG f8 dP fH fI fJ eK eL eM eN eO eP eQ eR eS dQ fK kk fuel (IntKind.i64.wrap (i+1)))) (
  kk i)
def fC (N:Nat) (s:List (Int × Int)) (oN oO jN kI kJ:Int) (g8:List Int) (fZ:List (List UInt8)) (f7 fD fE fF fG f8:Int) (dP:List (Int × Int)) (fH fI fJ eK eL eM eN eO eP eQ eR eS:Int) (dQ:List (Int × Int)) (fK:Int):Option Int:=
 bA N s oN oO jN kI kJ g8 fZ f7 fD fE fF fG f8 dP fH fI fJ eK eL eM eN eO eP eQ eR eS dQ fK (fun i2=>
 some ((-1))) N 0
def dK (N:Nat) (s:List (Int × Int)) (oN oO jN kI kJ:Int) (g8:List Int) (fZ:List (List UInt8)) (f7 fD fE fF fG f8:Int) (dP:List (Int × Int)) (fH fI fJ eK eL eM eN eO eP eQ eR eS:Int) (dQ:List (Int × Int)) (fK:Int):Option Bool:=
 (fC N s oN oO jN kI kJ g8 fZ f7 fD fE fF fG f8 dP fH fI fJ eK eL eM eN eO eP eQ eR eS dQ fK).bind fun r2=>
 some (decide (0≤r2))
def An (N:Nat) (D0 w7 d8 jC eV:Int) (iM:List Int) (eT:List (List UInt8)) (dD cC cD cE cG dE:Int) (aW:List (Int × Int)) (cH cJ cK bD bE bF bG bH bI bJ bK bL:Int) (aX:List (Int × Int)) (cL:Int):Option Int:=
 (qS N dD cC cD cE cG dE aW cH cJ cK bD bE bF bG bH bI bJ bK bL aX cL).bind fun r2=>
 cond (!decide (r2=0)) (
 some r2) (
 (dK N aW D0 w7 d8 jC eV iM eT dD cC cD cE cG dE aW cH cJ cK bD bE bF bG bH bI bJ bK bL aX cL).bind fun r3=>
 cond (r3) (
 some 3) (
 some 0))
def tN (N:Nat) (n:Int):Option Bool:=
 cond (decide (1≤n)) (
 some (decide (n≤16))) (
 some false)
def pG (N:Nat) (o p2:Int) (kk:(List Int × Int × Int)→Option (List Int × Int)):Nat→(List Int × Int × Int)→Option (List Int × Int)
 | 0,_=>none
 | fuel+1,(l8,i8,i9)=>
  cond (decide (o≤i9)) (
  cond (decide ((l8.length:Int)<p2)) (
  (some (IntKind.i64.wrap (i9-o))).bind fun Lv=>
  (nn Lv).bind fun _=>
  (app 8 l8 ([iB .i64 i8 Lv]:List Int)).bind fun l10=>
  (nn Lv).bind fun _=>
  (some (zP .i64 i8 (IntKind.i64.wrap ((mN .i64 1 Lv)-1)))).bind fun Qp=>
  pG N o p2 kk fuel (l10,Qp,Lv)) (
  kk (l8,i8,i9))) (
  kk (l8,i8,i9))
def pH (N:Nat) (d:List UInt8) (o p2:Int) (kk:(List Int × Int × Int × Int)→Option (List Int × Int)):Nat→(List Int × Int × Int × Int)→Option (List Int × Int)
 | 0,_=>none
 | fuel+1,(l5,i3,i4,i5)=>
  cond (decide (i5<(d.length:Int))) (
  (idx d i5).bind fun b3=>
  (some (Fc .i64 (mN .i64 i3 8) (IntKind.i64.wrap (b3.toNat:Int)))).bind fun F1=>
  (some (IntKind.i64.wrap (i4+8))).bind fun YF=>
  pG N o p2 (fun (Sd,Fp,i11)=>
  pH N d o p2 kk fuel (Sd,Fp,i11,IntKind.i64.wrap (i5+1))) N (l5,F1,YF)) (
  kk (l5,i3,i4,i5))
def wK (N:Nat) (d:List UInt8) (o p2:Int):Option (List Int × Int):=
 (tN N o).bind fun r2=>
 cond (!(r2)) (
 some (([]:List Int),3)) (
 cond (decide (p2<0)) (
 some (([]:List Int),3)) (
 cond (decide (4096<p2)) (
 some (([]:List Int),2)) (
 cond (!decide ((d.length:Int)=(IntKind.i64.wrap (Int.tdiv (IntKind.i64.wrap ((IntKind.i64.wrap (p2*o))+7)) 8)))) (
 some (([]:List Int),1)) (
 pH N d o p2 (fun (l12,i12,P7,UO)=>
 cond (!decide (i12=0)) (
 some (([]:List Int),1)) (
 some (l12,0))) N (([]:List Int),0,0,0)))))
def tD (N:Nat) (x2:Int):Option Bool:=
 some (!decide (x2=x2))
def uE (N:Nat) (x2 y:Int):Option Int:=
 (tD N x2).bind fun r2=>
 (tD N y).bind fun r3=>
 cond (r2) (
 cond (r3) (
 some 0) (
 some ((-1)))) (
 cond (r3) (
 some 1) (
 cond (decide (x2<y)) (
 some ((-1))) (
 cond (decide (y<x2)) (
 some 1) (
 some 0))))
def uS (N:Nat) (a2 b:Int) (v0:List Int):Option Int:=
 (idx v0 a2).bind fun e=>
 (idx v0 b).bind fun e2=>
 (uE N e e2).bind fun r2=>
 some r2
def pI (N:Nat) (n size:Int) (kk:(List Int × Int × Int)→Option (List UInt8)):Nat→(List Int × Int × Int)→Option (List UInt8)
 | 0,_=>none
 | fuel+1,(l3,i,i2)=>
  cond (decide (i2<i)) (
  (nn (IntKind.i64.wrap ((IntKind.i64.wrap (size-1))-i2))).bind fun _=>
  (idx ([48,49]:List UInt8) (zP .i64 (iB .i64 n (IntKind.i64.wrap ((IntKind.i64.wrap (size-1))-i2))) 1)).bind fun b2=>
  (idx l3 i2).bind fun e2=>
  (vU l3 i2 (b2.toNat:Int)).bind fun l5=>
  pI N n size kk fuel (l5,i,IntKind.i64.wrap (i2+1))) (
  kk (l3,i,i2))
def rD (N:Nat) (n size:Int):Option (List UInt8):=
 (mk 1 size (0:Int)).bind fun l2=>
 pI N n size (fun (l6,i3,i4)=>
 some (toB l6)) N (l2,(l2.length:Int),0)
def nX (N:Nat) (n size:Int):Option (List UInt8 × Int):=
 cond (decide (size<0)) (
 some (([]:List UInt8),3)) (
 cond (decide (16<size)) (
 some (([]:List UInt8),3)) (
 cond (decide (n<0)) (
 some (([]:List UInt8),3)) (
 (nn size).bind fun _=>
 cond (decide ((mN .i64 1 size)≤n)) (
 some (([]:List UInt8),3)) (
 (rD N n size).bind fun r2=>
 some (r2,0)))))
def qK (N:Nat) (d:List Int) (kk:(List Int × Int)→Option (List (List UInt8) × Int)):Nat→(List Int × Int)→Option (List (List UInt8) × Int)
 | 0,_=>none
 | fuel+1,(Qq,j4)=>
  cond (decide (0<j4)) (
  (idx Qq j4).bind fun e20=>
  (idx Qq (IntKind.i64.wrap (j4-1))).bind fun e21=>
  (uS N e20 e21 d).bind fun r5=>
  cond (decide (r5<0)) (
  (idx Qq (IntKind.i64.wrap (j4-1))).bind fun e22=>
  (idx Qq j4).bind fun e23=>
  (idx Qq j4).bind fun e24=>
  (vU Qq j4 e22).bind fun l18=>
  (idx l18 (IntKind.i64.wrap (j4-1))).bind fun e25=>
  (vU l18 (IntKind.i64.wrap (j4-1)) e23).bind fun l19=>
  (some (IntKind.i64.wrap (j4-1))).bind fun j7=>
  qK N d kk fuel (l19,j7)) (
  kk (Qq,j4))) (
  kk (Qq,j4))
def mJ (N:Nat) (d I9:List Int) (kk:(List (List UInt8) × Int × Int)→Option (List (List UInt8) × Int)):Nat→(List (List UInt8) × Int × Int)→Option (List (List UInt8) × Int)
 | 0,_=>none
 | fuel+1,(YG,i8,i9)=>
  cond (decide (i9<(I9.length:Int))) (
  (idx I9 i9).bind fun e33=>
  (idx d e33).bind fun e34=>
  (nn (IntKind.i64.wrap (15-e34))).bind fun _=>
  (idx d e33).bind fun e35=>
  (nX N (iB .i64 i8 (IntKind.i64.wrap (15-e34))) e35).bind fun r7=>
  (idx YG e33).bind fun e36=>
  (vU YG e33 r7.1).bind fun l27=>
  (idx d e33).bind fun e37=>
  (nn (IntKind.i64.wrap (15-e37))).bind fun _=>
  (some (IntKind.i64.wrap (i8+(mN .i64 1 (IntKind.i64.wrap (15-e37)))))).bind fun x4=>
  mJ N d I9 kk fuel (l27,x4,IntKind.i64.wrap (i9+1))) (
  kk (YG,i8,i9))
def lI (N:Nat) (d:List Int) (kk:(List Int × Int × Int)→Option (List (List UInt8) × Int)):Nat→(List Int × Int × Int)→Option (List (List UInt8) × Int)
 | 0,_=>none
 | fuel+1,(l7,b,i4)=>
  cond (decide (i4<b)) (
  qK N d (fun (l22,j9)=>
  (some (IntKind.i64.wrap (i4+1))).bind fun i6=>
  lI N d kk fuel (l22,b,i6)) N (l7,i4)) (
  kk (l7,b,i4))
def oP (N:Nat) (d:List Int) (kk:(List Int × Int)→Option (List (List UInt8) × Int)):Nat→(List Int × Int)→Option (List (List UInt8) × Int)
 | 0,_=>none
 | fuel+1,(l3,i)=>
  cond (decide (i<(d.length:Int))) (
  (idx d i).bind fun e3=>
  cond (decide (0<e3)) (
  (app 8 l3 ([i]:List Int)).bind fun l5=>
  oP N d kk fuel (l5,IntKind.i64.wrap (i+1))) (
  oP N d kk fuel (l3,IntKind.i64.wrap (i+1)))) (
  kk (l3,i))
def qT (N:Nat) (d:List Int):Option (List (List UInt8) × Int):=
 (sS N d).bind fun r2=>
 cond (!decide (r2=0)) (
 some (([]:List (List UInt8)),r2)) (
 oP N d (fun (l6,i2)=>
 cond (decide (20≤(l6.length:Int))) none (
 (some (IntKind.i64.wrap (0+1))).bind fun i3=>
 lI N d (fun (I9,b2,i7)=>
 (D2 l6 I9).bind fun _=>
 cond (decide (20<(I9.length:Int))) none (
 (D2 l6 I9).bind fun _=>
 (D2 l6 I9).bind fun _=>
 (some ((d.length:Int))).bind fun x2=>
 (mk 16 x2 (([]:List UInt8):List UInt8)).bind fun l24=>
 mJ N d I9 (fun (l28,Fp,i11)=>
 some (l28,0)) N (l24,0,0))) N (l6,(l6.length:Int),i3))) N (([]:List Int),0))
def Ao (N:Nat) (b:List UInt8):Option Bool:=
 (uQ N b ([48,49]:List UInt8)).bind fun r2=>
 cond (decide (r2=([]:List UInt8))) (
 (qF N b ([48]:List UInt8)).bind fun r3=>
 (qF N b ([49]:List UInt8)).bind fun r4=>
 some (decide ((IntKind.i64.wrap (r3+r4))=(b.length:Int)))) (
 some false)
def qL (N:Nat) (b:List UInt8) (kk:(List Int × Int)→Option (List UInt8 × Int)):Nat→(List Int × Int)→Option (List UInt8 × Int)
 | 0,_=>none
 | fuel+1,(l3,i)=>
  cond (decide (i<(b.length:Int))) (
  (some (IntKind.i64.wrap (Int.tdiv i 8))).bind fun x4=>
  (idx l3 x4).bind fun e3=>
  (idx b i).bind fun b3=>
  (nn (IntKind.i64.wrap (7-(Int.tmod i 8)))).bind fun _=>
  (idx l3 x4).bind fun e4=>
  (vU l3 x4 (Fc .u8 e3 (mN .u8 (IntKind.u8.wrap ((b3.toNat:Int)-48)) (IntKind.i64.wrap (7-(Int.tmod i 8)))))).bind fun l5=>
  qL N b kk fuel (l5,IntKind.i64.wrap (i+1))) (
  kk (l3,i))
def vK (N:Nat) (b:List UInt8):Option (List UInt8 × Int):=
 (Ao N b).bind fun r2=>
 cond (!(r2)) (
 some (([]:List UInt8),1)) (
 (some (IntKind.i64.wrap (Int.tdiv (IntKind.i64.wrap ((b.length:Int)+7)) 8))).bind fun x2=>
 (mk 1 x2 (0:Int)).bind fun l2=>
 qL N b (fun (l6,i2)=>
 some (toB l6,0)) N (l2,0))
def pT (N:Nat) (e2:List UInt8) (kk:(List (List UInt8 × Int) × Int)→Option (List Int × List UInt8 × Int)):Nat→(List (List UInt8 × Int) × Int)→Option (List Int × List UInt8 × Int)
 | 0,_=>none
 | fuel+1,(m5,i3)=>
  cond (decide (i3<(e2.length:Int))) (
  (DZ e2 0 i3).bind fun s5=>
  (Ka m5 s5).bind fun q3=>
  cond (!(q3.2)) (
  (DZ e2 0 i3).bind fun s6=>
  (Qm m5 s6 (-1)).bind fun m7=>
  pT N e2 kk fuel (m7,IntKind.i64.wrap (i3+1))) (
  pT N e2 kk fuel (m5,IntKind.i64.wrap (i3+1)))) (
  kk (m5,i3))
def jO (N:Nat) (m10:List (List UInt8 × Int)) (o2:List UInt8) (kk:(Int × Int)→Option (List Int × List UInt8 × Int)):Nat→(Int × Int)→Option (List Int × List UInt8 × Int)
 | 0,_=>none
 | fuel+1,(Fp,i11)=>
  cond (decide (i11<0)) (
  (DZ o2 0 Fp).bind fun s12=>
  (Ka m10 s12).bind fun q7=>
  cond (!(q7.2)) (
  some (([]:List Int),([]:List UInt8),4)) (
  cond (decide (0≤q7.1)) (
  jO N m10 o2 kk fuel (Fp,q7.1)) (
  cond (decide (Fp=(o2.length:Int))) (
  some (([]:List Int),([]:List UInt8),5)) (
  (some (IntKind.i64.wrap (Fp+1))).bind fun x5=>
  jO N m10 o2 kk fuel (x5,i11))))) (
  kk (Fp,i11))
def oC (N:Nat) (p2:Int) (m10:List (List UInt8 × Int)) (kk:(List Int × List UInt8)→Option (List Int × List UInt8 × Int)):Nat→(List Int × List UInt8)→Option (List Int × List UInt8 × Int)
 | 0,_=>none
 | fuel+1,(l3,o2)=>
  cond (decide ((l3.length:Int)<p2)) (
  jO N m10 o2 (fun (i12,P7)=>
  (app 8 l3 ([P7]:List Int)).bind fun l5=>
  (DZ o2 i12 (o2.length:Int)).bind fun s13=>
  oC N p2 m10 kk fuel (l5,s13)) N (0,(-1))) (
  kk (l3,o2))
def pU (N:Nat) (r2:List (List UInt8) × Int) (kk:(List (List UInt8 × Int) × Int)→Option (List Int × List UInt8 × Int)):Nat→(List (List UInt8 × Int) × Int)→Option (List Int × List UInt8 × Int)
 | 0,_=>none
 | fuel+1,(m,i)=>
  cond (decide (i<(r2.1.length:Int))) (
  (idx r2.1 i).bind fun e2=>
  pT N e2 (fun (m8,i4)=>
  cond (!decide (e2=([]:List UInt8))) (
  (Qm m8 e2 i).bind fun m9=>
  pU N r2 kk fuel (m9,IntKind.i64.wrap (i+1))) (
  pU N r2 kk fuel (m8,IntKind.i64.wrap (i+1)))) N (m,0)) (
  kk (m,i))
def uT (N:Nat) (d:List Int) (o:List UInt8) (p2:Int):Option (List Int × List UInt8 × Int):=
 (qT N d).bind fun r2=>
 cond (!decide (r2.2=0)) (
 some (([]:List Int),([]:List UInt8),r2.2)) (
 cond (decide (p2<0)) (
 some (([]:List Int),([]:List UInt8),3)) (
 cond (decide (4096<p2)) (
 some (([]:List Int),([]:List UInt8),3)) (
 (vK N o).bind fun r3=>
 cond (!decide (r3.2=0)) (
 some (([]:List Int),([]:List UInt8),1)) (
 pU N r2 (fun (m10,i5)=>
 oC N p2 m10 (fun (l6,o3)=>
 some (l6,o3,0)) N (([]:List Int),o)) N (([]:List (List UInt8 × Int)),0)))))
def sA (N:Nat) (s:List UInt8) (kk:(List UInt8 × Int)→Option (List UInt8)):Nat→(List UInt8 × Int)→Option (List UInt8)
 | 0,_=>none
 | fuel+1,(l2,i)=>
  cond (decide (i<(s.length:Int))) (
  (idx s i).bind fun b3=>
  (rD N (IntKind.i64.wrap (b3.toNat:Int)) 8).bind fun r3=>
  (Ob l2 r3).bind fun b4=>
  (some (IntKind.i64.wrap (i+1))).bind fun i3=>
  sA N s kk fuel (b4,i3)) (
  kk (l2,i))
def uU (N:Nat) (s:List UInt8):Option (List UInt8):=
 sA N s (fun (l3,i4)=>
 some l3) N (([]:List UInt8),0)
def nY (N:Nat) (jD mO:Int) (kT:List Int) (o p2:Int):Option Int:=
 (nz jD).bind fun _=>
 (nz jD).bind fun _=>
 cond (decide (p2=0)) (
 some 32768) (
 cond (decide ((IntKind.i64.wrap (Int.tdiv p2 jD))=0)) (
 (idx kT (IntKind.i64.wrap (p2-1))).bind fun e=>
 some e) (
 cond (decide ((Int.tmod p2 jD)=0)) (
 (idx kT (IntKind.i64.wrap (p2-jD))).bind fun e2=>
 some e2) (
 (idx kT (IntKind.i64.wrap (p2-1))).bind fun e3=>
 (idx kT (IntKind.i64.wrap (p2-jD))).bind fun e4=>
 (idx kT (IntKind.i64.wrap ((IntKind.i64.wrap (p2-jD))-1))).bind fun e5=>
 (idx [0,e3,e4,e5,IntKind.i64.wrap ((IntKind.i64.wrap (e3+e4))-e5),IntKind.i64.wrap (e3+(iB .i64 (IntKind.i64.wrap (e4-e5)) 1)),IntKind.i64.wrap (e4+(iB .i64 (IntKind.i64.wrap (e3-e5)) 1)),iB .i64 (IntKind.i64.wrap (e3+e4)) 1] o).bind fun e6=>
 some e6)))
def qM (N:Nat) (b:List UInt8) (kk:(Int × Int)→Option (Int × Int)):Nat→(Int × Int)→Option (Int × Int)
 | 0,_=>none
 | fuel+1,(n,i)=>
  cond (decide (i<(b.length:Int))) (
  (idx b i).bind fun b3=>
  (some (IntKind.i64.wrap ((mN .i64 n 1)+(IntKind.i64.wrap (zP .u8 (b3.toNat:Int) 1))))).bind fun n3=>
  qM N b kk fuel (n3,IntKind.i64.wrap (i+1))) (
  kk (n,i))
def yX (N:Nat) (b:List UInt8):Option (Int × Int):=
 (Ao N b).bind fun r2=>
 cond (!(r2)) (
 some (0,1)) (
 cond (decide (16<(b.length:Int))) (
 some (0,3)) (
 qM N b (fun (n4,i2)=>
 some (n4,0)) N (0,0)))
def uV (N:Nat)  (kk:(List UInt8 × List UInt8)→Option (Int × Int × List Int × Int)):Nat→(List UInt8 × List UInt8)→Option (Int × Int × List Int × Int)
 | 0,_=>none
 | fuel+1,(Lv,Qp)=>
  cond (decide ((Lv.length:Int)<1)) (
  cond (!decide (Qp=([]:List UInt8))) (
  (DZ Qp 0 1).bind fun s21=>
  (uU N s21).bind fun Gc=>
  (Ds Lv Gc).bind fun s22=>
  (DZ Qp 1 (Qp.length:Int)).bind fun s23=>
  uV N  kk fuel (s22,s23)) (
  kk (Lv,Qp))) (
  kk (Lv,Qp))
def jP (N:Nat) (i6:Int) (kk:(List UInt8 × List UInt8)→Option (Int × Int × List Int × Int)):Nat→(List UInt8 × List UInt8)→Option (Int × Int × List Int × Int)
 | 0,_=>none
 | fuel+1,(Jw,x23)=>
  cond (decide ((Jw.length:Int)<i6)) (
  cond (!decide (x23=([]:List UInt8))) (
  (DZ x23 0 1).bind fun s30=>
  (uU N s30).bind fun Es=>
  (Ds Jw Es).bind fun s31=>
  (DZ x23 1 (x23.length:Int)).bind fun s32=>
  jP N i6 kk fuel (s31,s32)) (
  kk (Jw,x23))) (
  kk (Jw,x23))
def iW (N:Nat) (p4:List Int) (kk:(List UInt8 × List UInt8 × Int × Int × List UInt8)→Option (Int × Int × List Int × Int)):Nat→(List UInt8 × List UInt8 × Int × Int × List UInt8)→Option (Int × Int × List Int × Int)
 | 0,_=>none
 | fuel+1,(F1,YF,i4,i5,w3)=>
  (uT N p4 w3 1).bind fun Dt=>
  cond (decide (Dt.2.2=0)) (
  (idx Dt.1 0).bind fun e7=>
  kk (F1,YF,e7,Dt.2.2,w3)) (
  uV N  (fun (x18,YH)=>
  cond (decide ((x18.length:Int)<1)) (
  cond (!decide (Dt.2.2=5)) (
  kk (x18,YH,0,1,w3)) (
  kk (x18,YH,0,1,w3))) (
  (DZ x18 0 1).bind fun s24=>
  (DZ x18 1 (x18.length:Int)).bind fun s25=>
  cond (!decide (Dt.2.2=5)) (
  kk (s25,YH,0,1,w3)) (
  (Ds w3 s24).bind fun s26=>
  iW N p4 kk fuel (s25,YH,i4,i5,s26)))) N (F1,YF))
def eH (N:Nat) (o p2 p3:Int) (p4:List Int) (kk:(List Int × List UInt8 × List UInt8 × Int)→Option (Int × Int × List Int × Int)):Nat→(List Int × List UInt8 × List UInt8 × Int)→Option (Int × Int × List Int × Int)
 | 0,_=>none
 | fuel+1,(BP,x3,x4,i)=>
  cond (decide (i<(IntKind.i64.wrap (o*p2)))) (
  (app 8 BP ([0]:List Int)).bind fun vL=>
  iW N p4 (fun (x20,x21,i6,i7,w4)=>
  cond (!decide (i7=0)) (
  some (0,0,([]:List Int),1)) (
  cond (decide (i6=16)) (
  (nY N o p2 vL p3 i).bind fun r16=>
  (idx vL i).bind fun e8=>
  (vU vL i (IntKind.i64.wrap (IntKind.u16.wrap (IntKind.i64.wrap (r16+32768))))).bind fun l6=>
  eH N o p2 p3 p4 kk fuel (l6,x20,x21,IntKind.i64.wrap (i+1))) (
  cond (decide (0<i6)) (
  jP N i6 (fun (x24,x25)=>
  cond (decide ((x24.length:Int)<i6)) (
  some (0,0,([]:List Int),1)) (
  (DZ x24 0 i6).bind fun s33=>
  (DZ x24 i6 (x24.length:Int)).bind fun s34=>
  (yX N s33).bind fun GE=>
  (idx s33 0).bind fun b2=>
  cond (decide ((b2.toNat:Int)=48)) (
  (nn i6).bind fun _=>
  (some (IntKind.i64.wrap (GE.1-(IntKind.i64.wrap ((mN .i64 1 i6)-1))))).bind fun x26=>
  (nY N o p2 vL p3 i).bind fun Ja=>
  (idx vL i).bind fun e9=>
  (vU vL i (IntKind.i64.wrap (IntKind.u16.wrap (IntKind.i64.wrap (Ja+x26))))).bind fun l7=>
  eH N o p2 p3 p4 kk fuel (l7,s34,x25,IntKind.i64.wrap (i+1))) (
  (nY N o p2 vL p3 i).bind fun Jy=>
  (idx vL i).bind fun e10=>
  (vU vL i (IntKind.i64.wrap (IntKind.u16.wrap (IntKind.i64.wrap (Jy+GE.1))))).bind fun l8=>
  eH N o p2 p3 p4 kk fuel (l8,s34,x25,IntKind.i64.wrap (i+1))))) N (x20,x21)) (
  (nY N o p2 vL p3 i).bind fun Km=>
  (idx vL i).bind fun e11=>
  (vU vL i (IntKind.i64.wrap (IntKind.u16.wrap (IntKind.i64.wrap (Km+0))))).bind fun l9=>
  eH N o p2 p3 p4 kk fuel (l9,x20,x21,IntKind.i64.wrap (i+1)))))) N (x3,x4,0,0,([]:List UInt8))) (
  kk (BP,x3,x4,i))
def Bc (N:Nat) (d:List UInt8) (o p2 p3:Int) (p4:List Int):Option (Int × Int × List Int × Int):=
 cond (decide (o<1)) (
 some (0,0,([]:List Int),3)) (
 cond (decide (64<o)) (
 some (0,0,([]:List Int),3)) (
 cond (decide (p2<1)) (
 some (0,0,([]:List Int),3)) (
 cond (decide (64<p2)) (
 some (0,0,([]:List Int),3)) (
 cond (decide (p3<1)) (
 some (0,0,([]:List Int),6)) (
 cond (decide (7<p3)) (
 some (0,0,([]:List Int),6)) (
 (sS N p4).bind fun r2=>
 cond (!decide (r2=0)) (
 some (0,0,([]:List Int),r2)) (
 eH N o p2 p3 p4 (fun (DM,x27,x28,i8)=>
 cond (!decide (x28=([]:List UInt8))) (
 some (0,0,([]:List Int),1)) (
 (pS N x27 ([49]:List UInt8)).bind fun Ov=>
 cond (Ov) (
 some (0,0,([]:List Int),1)) (
 some (o,p2,DM,0)))) N (([]:List Int),([]:List UInt8),d,0))))))))
def jQ (N:Nat) (x2:List Int) (kk:(Int × Int)→Option Int):Nat→(Int × Int)→Option Int
 | 0,_=>none
 | fuel+1,(m,i)=>
  cond (decide (i<(x2.length:Int))) (
  (idx x2 i).bind fun e3=>
  (some (max m e3)).bind fun m3=>
  (some (IntKind.i64.wrap (i+1))).bind fun i3=>
  jQ N x2 kk fuel (m3,i3)) (
  kk (m,i))
def k9 (N:Nat) (x2:List Int):Option Int:=
 cond (decide ((x2.length:Int)<1)) (
 none) (
 (idx x2 0).bind fun e=>
 jQ N x2 (fun (m4,i4)=>
 some m4) N (e,1))
def wL (N:Nat) (D0 w7 d8 jC eV:Int) (iM:List Int) (eT:List (List UInt8)) (dD cC cD cE cG dE:Int) (aW:List (Int × Int)) (cH cJ cK bD bE bF bG bH bI bJ bK bL:Int) (aX:List (Int × Int)) (cL:Int) (s:List UInt8) (rows:Int):Option (List Int × Int):=
 cond (decide (jC=0)) (
 (wK N s d8 (IntKind.i64.wrap (D0*rows))).bind fun r2=>
 some (r2.1,r2.2)) (
 (Bc N s D0 rows jC iM).bind fun r3=>
 cond (decide (r3.2.2.2=0)) (
 (k9 N r3.2.2.1).bind fun r4=>
 (nn d8).bind fun _=>
 cond (decide (0<(iB .i64 r4 d8))) (
 some (r3.2.2.1,1)) (
 some (r3.2.2.1,r3.2.2.2))) (
 some (r3.2.2.1,r3.2.2.2)))
def sB (N:Nat) (jD mO gR jV lP:Int) (iQ:List Int) (dR:List (List UInt8)) (cW cM cO cP cQ cZ:Int) (aS:List (Int × Int)) (cR cU cV bM bN bO bP bQ bR bS bT bU:Int) (aT:List (Int × Int)) (bY:Int) (r3:List (Int × Int)) (kk:(List Int × Int)→Option (Int × Int × List Int × Int)):Nat→(List Int × Int)→Option (Int × Int × List Int × Int)
 | 0,_=>none
 | fuel+1,(BP,i)=>
  cond (decide (i<(dR.length:Int))) (
  (idx dR i).bind fun e3=>
  (idx r3 i).bind fun e4=>
  (wL N jD mO gR jV lP iQ dR cW cM cO cP cQ cZ aS cR cU cV bM bN bO bP bQ bR bS bT bU aT bY e3 e4.2).bind fun r6=>
  cond (!decide (r6.2=0)) (
  some (0,0,([]:List Int),1)) (
  (app 8 BP r6.1).bind fun vL=>
  sB N jD mO gR jV lP iQ dR cW cM cO cP cQ cZ aS cR cU cV bM bN bO bP bQ bR bS bT bU aT bY r3 kk fuel (vL,IntKind.i64.wrap (i+1)))) (
  kk (BP,i))
def yC (N:Nat) (jD mO gR jV lP:Int) (iQ:List Int) (dR:List (List UInt8)) (cW cM cO cP cQ cZ:Int) (aS:List (Int × Int)) (cR cU cV bM bN bO bP bQ bR bS bT bU:Int) (aT:List (Int × Int)) (bY:Int):Option (Int × Int × List Int × Int):=
 (Am N jD mO gR jV lP iQ dR cW cM cO cP cQ cZ aS cR cU cV bM bN bO bP bQ bR bS bT bU aT bY).bind fun r2=>
 cond (!decide (r2=0)) (
 some (0,0,([]:List Int),r2)) (
 (yV N jD mO gR jV lP iQ dR cW cM cO cP cQ cZ aS cR cU cV bM bN bO bP bQ bR bS bT bU aT bY).bind fun r3=>
 cond (!decide ((dR.length:Int)=(r3.length:Int))) (
 some (0,0,([]:List Int),2)) (
 (An N jD mO gR jV lP iQ dR cW cM cO cP cQ cZ aS cR cU cV bM bN bO bP bQ bR bS bT bU aT bY).bind fun r4=>
 cond (!decide (r4=0)) (
 some (0,0,([]:List Int),r4)) (
 sB N jD mO gR jV lP iQ dR cW cM cO cP cQ cZ aS cR cU cV bM bN bO bP bQ bR bS bT bU aT bY r3 (fun (DM,i2)=>
 some (jD,mO,DM,0)) N (([]:List Int),0))))
def uW (N:Nat) (D0 w7 d8 jC eV:Int) (iM:List Int) (eT:List (List UInt8)) (dD cC cD cE cG dE:Int) (aW:List (Int × Int)) (cH cJ cK bD bE bF bG bH bI bJ bK bL:Int) (aX:List (Int × Int)) (cL:Int):Option Int:=
 (yC N D0 w7 d8 jC eV iM eT dD cC cD cE cG dE aW cH cJ cK bD bE bF bG bH bI bJ bK bL aX cL).bind fun r2=>
 some r2.2.2.2
def rE (N:Nat) (Vs:Int × List UInt8) (kk:(List (Int × Int) × List UInt8 × Int)→Option (Int × Int × Int × Int × Int × List Int × List (List UInt8) × Int × Int × Int × Int × Int × Int × List (Int × Int) × Int × Int × Int × Int × Int × Int × Int × Int × Int × Int × Int × Int × List (Int × Int) × Int × Int)):Nat→(List (Int × Int) × List UInt8 × Int)→Option (Int × Int × Int × Int × Int × List Int × List (List UInt8) × Int × Int × Int × Int × Int × Int × List (Int × Int) × Int × Int × Int × Int × Int × Int × Int × Int × Int × Int × Int × Int × List (Int × Int) × Int × Int)
 | 0,_=>none
 | fuel+1,(l8,L4,i7)=>
  cond (decide (i7<Vs.1)) (
  (aH N L4).bind fun q45=>Cq q45 (
  some (0,0,0,0,0,([]:List Int),([]:List (List UInt8)),0,0,0,0,0,0,([]:List (Int × Int)),0,0,0,0,0,0,0,0,0,0,0,0,([]:List (Int × Int)),0,1)) fun MW=>
  (aH N MW.2).bind fun q46=>Cq q46 (
  some (0,0,0,0,0,([]:List Int),([]:List (List UInt8)),0,0,0,0,0,0,([]:List (Int × Int)),0,0,0,0,0,0,0,0,0,0,0,0,([]:List (Int × Int)),0,1)) fun X6=>
  (app 16 l8 (([(MW.1,X6.1)]:List (Int × Int)))).bind fun DN=>
  rE N Vs kk fuel (DN,X6.2,IntKind.i64.wrap (i7+1))) (
  kk (l8,L4,i7))
def rF (N:Nat) (Ov:Int × List UInt8) (kk:(List (Int × Int) × List UInt8 × Int)→Option (Int × Int × Int × Int × Int × List Int × List (List UInt8) × Int × Int × Int × Int × Int × Int × List (Int × Int) × Int × Int × Int × Int × Int × Int × Int × Int × Int × Int × Int × Int × List (Int × Int) × Int × Int)):Nat→(List (Int × Int) × List UInt8 × Int)→Option (Int × Int × Int × Int × Int × List Int × List (List UInt8) × Int × Int × Int × Int × Int × Int × List (Int × Int) × Int × Int × Int × Int × Int × Int × Int × Int × Int × Int × Int × Int × List (Int × Int) × Int × Int)
 | 0,_=>none
 | fuel+1,(l6,TB,i5)=>
  cond (decide (i5<Ov.1)) (
  (aH N TB).bind fun q26=>Cq q26 (
  some (0,0,0,0,0,([]:List Int),([]:List (List UInt8)),0,0,0,0,0,0,([]:List (Int × Int)),0,0,0,0,0,0,0,0,0,0,0,0,([]:List (Int × Int)),0,1)) fun MX=>
  (aH N MX.2).bind fun q27=>Cq q27 (
  some (0,0,0,0,0,([]:List Int),([]:List (List UInt8)),0,0,0,0,0,0,([]:List (Int × Int)),0,0,0,0,0,0,0,0,0,0,0,0,([]:List (Int × Int)),0,1)) fun X7=>
  (app 16 l6 (([(MX.1,X7.1)]:List (Int × Int)))).bind fun DO=>
  rF N Ov kk fuel (DO,X7.2,IntKind.i64.wrap (i5+1))) (
  kk (l6,TB,i5))
def rG (N:Nat) (wM:Int × List UInt8) (kk:(List (List UInt8) × List UInt8 × Int)→Option (Int × Int × Int × Int × Int × List Int × List (List UInt8) × Int × Int × Int × Int × Int × Int × List (Int × Int) × Int × Int × Int × Int × Int × Int × Int × Int × Int × Int × Int × Int × List (Int × Int) × Int × Int)):Nat→(List (List UInt8) × List UInt8 × Int)→Option (Int × Int × Int × Int × Int × List Int × List (List UInt8) × Int × Int × Int × Int × Int × Int × List (Int × Int) × Int × Int × Int × Int × Int × Int × Int × Int × Int × Int × Int × Int × List (Int × Int) × Int × Int)
 | 0,_=>none
 | fuel+1,(l4,TC,i3)=>
  cond (decide (i3<wM.1)) (
  (aH N TC).bind fun q14=>Cq q14 (
  some (0,0,0,0,0,([]:List Int),([]:List (List UInt8)),0,0,0,0,0,0,([]:List (Int × Int)),0,0,0,0,0,0,0,0,0,0,0,0,([]:List (Int × Int)),0,1)) fun Gc=>
  (iC N Gc.2 Gc.1).bind fun q15=>Cq q15 (
  some (0,0,0,0,0,([]:List Int),([]:List (List UInt8)),0,0,0,0,0,0,([]:List (Int × Int)),0,0,0,0,0,0,0,0,0,0,0,0,([]:List (Int × Int)),0,1)) fun r16=>
  (app 16 l4 (([r16.1]:List (List UInt8)))).bind fun IJ=>
  rG N wM kk fuel (IJ,r16.2,IntKind.i64.wrap (i3+1))) (
  kk (l4,TC,i3))
def rH (N:Nat) (r9:Int × List UInt8) (kk:(List Int × List UInt8 × Int)→Option (Int × Int × Int × Int × Int × List Int × List (List UInt8) × Int × Int × Int × Int × Int × Int × List (Int × Int) × Int × Int × Int × Int × Int × Int × Int × Int × Int × Int × Int × Int × List (Int × Int) × Int × Int)):Nat→(List Int × List UInt8 × Int)→Option (Int × Int × Int × Int × Int × List Int × List (List UInt8) × Int × Int × Int × Int × Int × Int × List (Int × Int) × Int × Int × Int × Int × Int × Int × Int × Int × Int × Int × Int × Int × List (Int × Int) × Int × Int)
 | 0,_=>none
 | fuel+1,(l2,TD,i)=>
  cond (decide (i<r9.1)) (
  (aH N TD).bind fun q10=>Cq q10 (
  some (0,0,0,0,0,([]:List Int),([]:List (List UInt8)),0,0,0,0,0,0,([]:List (Int × Int)),0,0,0,0,0,0,0,0,0,0,0,0,([]:List (Int × Int)),0,1)) fun Gd=>
  (app 8 l2 ([Gd.1]:List Int)).bind fun MY=>
  rH N r9 kk fuel (MY,Gd.2,IntKind.i64.wrap (i+1))) (
  kk (l2,TD,i))
def sT (N:Nat) (d:List UInt8):Option (Int × Int × Int × Int × Int × List Int × List (List UInt8) × Int × Int × Int × Int × Int × Int × List (Int × Int) × Int × Int × Int × Int × Int × Int × Int × Int × Int × Int × Int × Int × List (Int × Int) × Int × Int):=
 (aH N d).bind fun q=>Cq q (
 some (0,0,0,0,0,([]:List Int),([]:List (List UInt8)),0,0,0,0,0,0,([]:List (Int × Int)),0,0,0,0,0,0,0,0,0,0,0,0,([]:List (Int × Int)),0,1)) fun r2=>
 (iC N r2.2 r2.1).bind fun q2=>Cq q2 (
 some (0,0,0,0,0,([]:List Int),([]:List (List UInt8)),0,0,0,0,0,0,([]:List (Int × Int)),0,0,0,0,0,0,0,0,0,0,0,0,([]:List (Int × Int)),0,1)) fun r3=>
 cond (!decide (r3.1=([100,97,114,107]:List UInt8))) (
 some (0,0,0,0,0,([]:List Int),([]:List (List UInt8)),0,0,0,0,0,0,([]:List (Int × Int)),0,0,0,0,0,0,0,0,0,0,0,0,([]:List (Int × Int)),0,1)) (
 (aH N r3.2).bind fun q3=>Cq q3 (
 some (0,0,0,0,0,([]:List Int),([]:List (List UInt8)),0,0,0,0,0,0,([]:List (Int × Int)),0,0,0,0,0,0,0,0,0,0,0,0,([]:List (Int × Int)),0,1)) fun r4=>
 (aH N r4.2).bind fun q4=>Cq q4 (
 some (0,0,0,0,0,([]:List Int),([]:List (List UInt8)),0,0,0,0,0,0,([]:List (Int × Int)),0,0,0,0,0,0,0,0,0,0,0,0,([]:List (Int × Int)),0,1)) fun r5=>
 (aH N r5.2).bind fun q5=>Cq q5 (
 some (0,0,0,0,0,([]:List Int),([]:List (List UInt8)),0,0,0,0,0,0,([]:List (Int × Int)),0,0,0,0,0,0,0,0,0,0,0,0,([]:List (Int × Int)),0,1)) fun r6=>
 (aH N r6.2).bind fun q6=>Cq q6 (
 some (0,0,0,0,0,([]:List Int),([]:List (List UInt8)),0,0,0,0,0,0,([]:List (Int × Int)),0,0,0,0,0,0,0,0,0,0,0,0,([]:List (Int × Int)),0,1)) fun r7=>
 (aH N r7.2).bind fun q7=>Cq q7 (
 some (0,0,0,0,0,([]:List Int),([]:List (List UInt8)),0,0,0,0,0,0,([]:List (Int × Int)),0,0,0,0,0,0,0,0,0,0,0,0,([]:List (Int × Int)),0,1)) fun r8=>
 (aH N r8.2).bind fun q8=>Cq q8 (
 some (0,0,0,0,0,([]:List Int),([]:List (List UInt8)),0,0,0,0,0,0,([]:List (Int × Int)),0,0,0,0,0,0,0,0,0,0,0,0,([]:List (Int × Int)),0,1)) fun r9=>
 cond (decide (r9.1<0)) (
 some (0,0,0,0,0,([]:List Int),([]:List (List UInt8)),0,0,0,0,0,0,([]:List (Int × Int)),0,0,0,0,0,0,0,0,0,0,0,0,([]:List (Int × Int)),0,1)) (
 cond (decide ((r9.2.length:Int)<r9.1)) (
 some (0,0,0,0,0,([]:List Int),([]:List (List UInt8)),0,0,0,0,0,0,([]:List (Int × Int)),0,0,0,0,0,0,0,0,0,0,0,0,([]:List (Int × Int)),0,1)) (
 rH N r9 (fun (l3,aDo,i2)=>
 (aH N aDo).bind fun q11=>Cq q11 (
 some (0,0,0,0,0,([]:List Int),([]:List (List UInt8)),0,0,0,0,0,0,([]:List (Int × Int)),0,0,0,0,0,0,0,0,0,0,0,0,([]:List (Int × Int)),0,1)) fun wM=>
 cond (decide (wM.1<0)) (
 some (0,0,0,0,0,([]:List Int),([]:List (List UInt8)),0,0,0,0,0,0,([]:List (Int × Int)),0,0,0,0,0,0,0,0,0,0,0,0,([]:List (Int × Int)),0,1)) (
 cond (decide ((wM.2.length:Int)<wM.1)) (
 some (0,0,0,0,0,([]:List Int),([]:List (List UInt8)),0,0,0,0,0,0,([]:List (Int × Int)),0,0,0,0,0,0,0,0,0,0,0,0,([]:List (Int × Int)),0,1)) (
 rG N wM (fun (l5,aDp,i4)=>
 (aH N aDp).bind fun q16=>Cq q16 (
 some (0,0,0,0,0,([]:List Int),([]:List (List UInt8)),0,0,0,0,0,0,([]:List (Int × Int)),0,0,0,0,0,0,0,0,0,0,0,0,([]:List (Int × Int)),0,1)) fun Ge=>
 (aH N Ge.2).bind fun q17=>Cq q17 (
 some (0,0,0,0,0,([]:List Int),([]:List (List UInt8)),0,0,0,0,0,0,([]:List (Int × Int)),0,0,0,0,0,0,0,0,0,0,0,0,([]:List (Int × Int)),0,1)) fun Es=>
 (aH N Es.2).bind fun q18=>Cq q18 (
 some (0,0,0,0,0,([]:List Int),([]:List (List UInt8)),0,0,0,0,0,0,([]:List (Int × Int)),0,0,0,0,0,0,0,0,0,0,0,0,([]:List (Int × Int)),0,1)) fun GE=>
 (aH N GE.2).bind fun q19=>Cq q19 (
 some (0,0,0,0,0,([]:List Int),([]:List (List UInt8)),0,0,0,0,0,0,([]:List (Int × Int)),0,0,0,0,0,0,0,0,0,0,0,0,([]:List (Int × Int)),0,1)) fun Ja=>
 (aH N Ja.2).bind fun q20=>Cq q20 (
 some (0,0,0,0,0,([]:List Int),([]:List (List UInt8)),0,0,0,0,0,0,([]:List (Int × Int)),0,0,0,0,0,0,0,0,0,0,0,0,([]:List (Int × Int)),0,1)) fun Jy=>
 (aH N Jy.2).bind fun q21=>Cq q21 (
 some (0,0,0,0,0,([]:List Int),([]:List (List UInt8)),0,0,0,0,0,0,([]:List (Int × Int)),0,0,0,0,0,0,0,0,0,0,0,0,([]:List (Int × Int)),0,1)) fun Km=>
 (aH N Km.2).bind fun q22=>Cq q22 (
 some (0,0,0,0,0,([]:List Int),([]:List (List UInt8)),0,0,0,0,0,0,([]:List (Int × Int)),0,0,0,0,0,0,0,0,0,0,0,0,([]:List (Int × Int)),0,1)) fun Ov=>
 cond (decide (Ov.1<0)) (
 some (0,0,0,0,0,([]:List Int),([]:List (List UInt8)),0,0,0,0,0,0,([]:List (Int × Int)),0,0,0,0,0,0,0,0,0,0,0,0,([]:List (Int × Int)),0,1)) (
 cond (decide ((Ov.2.length:Int)<Ov.1)) (
 some (0,0,0,0,0,([]:List Int),([]:List (List UInt8)),0,0,0,0,0,0,([]:List (Int × Int)),0,0,0,0,0,0,0,0,0,0,0,0,([]:List (Int × Int)),0,1)) (
 rF N Ov (fun (l7,aDq,i6)=>
 (aH N aDq).bind fun q29=>Cq q29 (
 some (0,0,0,0,0,([]:List Int),([]:List (List UInt8)),0,0,0,0,0,0,([]:List (Int × Int)),0,0,0,0,0,0,0,0,0,0,0,0,([]:List (Int × Int)),0,1)) fun MZ=>
 (aH N MZ.2).bind fun q30=>Cq q30 (
 some (0,0,0,0,0,([]:List Int),([]:List (List UInt8)),0,0,0,0,0,0,([]:List (Int × Int)),0,0,0,0,0,0,0,0,0,0,0,0,([]:List (Int × Int)),0,1)) fun Od=>
 (aH N Od.2).bind fun q31=>Cq q31 (
 some (0,0,0,0,0,([]:List Int),([]:List (List UInt8)),0,0,0,0,0,0,([]:List (Int × Int)),0,0,0,0,0,0,0,0,0,0,0,0,([]:List (Int × Int)),0,1)) fun r32=>
 (aH N r32.2).bind fun q32=>Cq q32 (
 some (0,0,0,0,0,([]:List Int),([]:List (List UInt8)),0,0,0,0,0,0,([]:List (Int × Int)),0,0,0,0,0,0,0,0,0,0,0,0,([]:List (Int × Int)),0,1)) fun P8=>
 (aH N P8.2).bind fun q33=>Cq q33 (
 some (0,0,0,0,0,([]:List Int),([]:List (List UInt8)),0,0,0,0,0,0,([]:List (Int × Int)),0,0,0,0,0,0,0,0,0,0,0,0,([]:List (Int × Int)),0,1)) fun Qr=>
 (aH N Qr.2).bind fun q34=>Cq q34 (
 some (0,0,0,0,0,([]:List Int),([]:List (List UInt8)),0,0,0,0,0,0,([]:List (Int × Int)),0,0,0,0,0,0,0,0,0,0,0,0,([]:List (Int × Int)),0,1)) fun Se=>
 (aH N Se.2).bind fun q35=>Cq q35 (
 some (0,0,0,0,0,([]:List Int),([]:List (List UInt8)),0,0,0,0,0,0,([]:List (Int × Int)),0,0,0,0,0,0,0,0,0,0,0,0,([]:List (Int × Int)),0,1)) fun TE=>
 (aH N TE.2).bind fun q36=>Cq q36 (
 some (0,0,0,0,0,([]:List Int),([]:List (List UInt8)),0,0,0,0,0,0,([]:List (Int × Int)),0,0,0,0,0,0,0,0,0,0,0,0,([]:List (Int × Int)),0,1)) fun UR=>
 (aH N UR.2).bind fun q37=>Cq q37 (
 some (0,0,0,0,0,([]:List Int),([]:List (List UInt8)),0,0,0,0,0,0,([]:List (Int × Int)),0,0,0,0,0,0,0,0,0,0,0,0,([]:List (Int × Int)),0,1)) fun Vt=>
 (aH N Vt.2).bind fun q38=>Cq q38 (
 some (0,0,0,0,0,([]:List Int),([]:List (List UInt8)),0,0,0,0,0,0,([]:List (Int × Int)),0,0,0,0,0,0,0,0,0,0,0,0,([]:List (Int × Int)),0,1)) fun X8=>
 (aH N X8.2).bind fun q39=>Cq q39 (
 some (0,0,0,0,0,([]:List Int),([]:List (List UInt8)),0,0,0,0,0,0,([]:List (Int × Int)),0,0,0,0,0,0,0,0,0,0,0,0,([]:List (Int × Int)),0,1)) fun YI=>
 (aH N YI.2).bind fun q40=>Cq q40 (
 some (0,0,0,0,0,([]:List Int),([]:List (List UInt8)),0,0,0,0,0,0,([]:List (Int × Int)),0,0,0,0,0,0,0,0,0,0,0,0,([]:List (Int × Int)),0,1)) fun r41=>
 (aH N r41.2).bind fun q41=>Cq q41 (
 some (0,0,0,0,0,([]:List Int),([]:List (List UInt8)),0,0,0,0,0,0,([]:List (Int × Int)),0,0,0,0,0,0,0,0,0,0,0,0,([]:List (Int × Int)),0,1)) fun Vs=>
 cond (decide (Vs.1<0)) (
 some (0,0,0,0,0,([]:List Int),([]:List (List UInt8)),0,0,0,0,0,0,([]:List (Int × Int)),0,0,0,0,0,0,0,0,0,0,0,0,([]:List (Int × Int)),0,1)) (
 cond (decide ((Vs.2.length:Int)<Vs.1)) (
 some (0,0,0,0,0,([]:List Int),([]:List (List UInt8)),0,0,0,0,0,0,([]:List (Int × Int)),0,0,0,0,0,0,0,0,0,0,0,0,([]:List (Int × Int)),0,1)) (
 rE N Vs (fun (l9,aAq,i8)=>
 (aH N aAq).bind fun q48=>Cq q48 (
 some (0,0,0,0,0,([]:List Int),([]:List (List UInt8)),0,0,0,0,0,0,([]:List (Int × Int)),0,0,0,0,0,0,0,0,0,0,0,0,([]:List (Int × Int)),0,1)) fun r49=>
 cond (!decide (r49.2=([]:List UInt8))) (
 some (0,0,0,0,0,([]:List Int),([]:List (List UInt8)),0,0,0,0,0,0,([]:List (Int × Int)),0,0,0,0,0,0,0,0,0,0,0,0,([]:List (Int × Int)),0,1)) (
 (uW N r4.1 r5.1 r6.1 r7.1 r8.1 l3 l5 Ge.1 Es.1 GE.1 Ja.1 Jy.1 Km.1 l7 MZ.1 Od.1 r32.1 P8.1 Qr.1 Se.1 TE.1 UR.1 Vt.1 X8.1 YI.1 r41.1 l9 r49.1).bind fun r50=>
 cond (!decide (r50=0)) (
 some (0,0,0,0,0,([]:List Int),([]:List (List UInt8)),0,0,0,0,0,0,([]:List (Int × Int)),0,0,0,0,0,0,0,0,0,0,0,0,([]:List (Int × Int)),0,1)) (
 some (r4.1,r5.1,r6.1,r7.1,r8.1,l3,l5,Ge.1,Es.1,GE.1,Ja.1,Jy.1,Km.1,l7,MZ.1,Od.1,r32.1,P8.1,Qr.1,Se.1,TE.1,UR.1,Vt.1,X8.1,YI.1,r41.1,l9,r49.1,0)))) N (([]:List (Int × Int)),Vs.2,0)))) N (([]:List (Int × Int)),Ov.2,0)))) N (([]:List (List UInt8)),wM.2,0)))) N (([]:List Int),r9.2,0))))
def oD (N:Nat) (nd:List (Int × Int)) (top rows:Int) (kk:(List (Int × Int) × Int)→Option (Int × Int × Int × Int × Int × Int × List (Int × Int) × Int × Int × Int × Int × Int × Int × Int × Int × Int × Int × Int × Int × List (Int × Int) × Int)):Nat→(List (Int × Int) × Int)→Option (Int × Int × Int × Int × Int × Int × List (Int × Int) × Int × Int × Int × Int × Int × Int × Int × Int × Int × Int × Int × Int × List (Int × Int) × Int)
 | 0,_=>none
 | fuel+1,(l3,i)=>
  cond (decide (i<(nd.length:Int))) (
  (idx nd i).bind fun e3=>
  cond (decide (top≤e3.2)) (
  cond (decide (e3.2<(IntKind.i64.wrap (top+rows)))) (
  (app 16 l3 (([(e3.1,IntKind.i64.wrap (e3.2-top))]:List (Int × Int)))).bind fun l5=>
  oD N nd top rows kk fuel (l5,IntKind.i64.wrap (i+1))) (
  oD N nd top rows kk fuel (l3,IntKind.i64.wrap (i+1)))) (
  oD N nd top rows kk fuel (l3,IntKind.i64.wrap (i+1)))) (
  kk (l3,i))
def oE (N:Nat) (nd:List (Int × Int)) (top rows:Int) (kk:(List (Int × Int) × Int)→Option (Int × Int × Int × Int × Int × Int × List (Int × Int) × Int × Int × Int × Int × Int × Int × Int × Int × Int × Int × Int × Int × List (Int × Int) × Int)):Nat→(List (Int × Int) × Int)→Option (Int × Int × Int × Int × Int × Int × List (Int × Int) × Int × Int × Int × Int × Int × Int × Int × Int × Int × Int × Int × Int × List (Int × Int) × Int)
 | 0,_=>none
 | fuel+1,(l8,i3)=>
  cond (decide (i3<(nd.length:Int))) (
  (idx nd i3).bind fun e6=>
  cond (decide (top≤e6.2)) (
  cond (decide (e6.2<(IntKind.i64.wrap (top+rows)))) (
  (app 16 l8 (([(e6.1,IntKind.i64.wrap (e6.2-top))]:List (Int × Int)))).bind fun l10=>
  oE N nd top rows kk fuel (l10,IntKind.i64.wrap (i3+1))) (
  oE N nd top rows kk fuel (l8,IntKind.i64.wrap (i3+1)))) (
  oE N nd top rows kk fuel (l8,IntKind.i64.wrap (i3+1)))) (
  kk (l8,i3))
def Bd (N:Nat) (na nb0 mQ mR mS nc:Int) (nd:List (Int × Int)) (mY ne1 nH nI nJ nK nL nM nN nO nP nf8:Int) (ng:List (Int × Int)) (nh top rows:Int):Option (Int × Int × Int × Int × Int × Int × List (Int × Int) × Int × Int × Int × Int × Int × Int × Int × Int × Int × Int × Int × Int × List (Int × Int) × Int):=
 cond (decide ((Int.tmod top 2)=1)) (
 oD N nd top rows (fun (l6,i2)=>
 some (MP .i64 na 2,mR,mS,nb0,mQ,nc,l6,mY,ne1,nH,nI,nJ,nK,nL,nM,nN,nO,nP,nf8,ng,nh)) N (([]:List (Int × Int)),0)) (
 oE N nd top rows (fun (Sd,i4)=>
 some (na,nb0,mQ,mR,mS,nc,Sd,mY,ne1,nH,nI,nJ,nK,nL,nM,nN,nO,nP,nf8,ng,nh)) N (([]:List (Int × Int)),0))
def pJ (N:Nat) (hG:List Int) (kk:Int→Option Bool):Nat→Int→Option Bool
 | 0,_=>none
 | fuel+1,i=>
  cond (decide (i<(hG.length:Int))) (
  (idx hG i).bind fun e2=>
  cond (decide (e2<0)) (
  some false) (
  cond (decide (65535<e2)) (
  some false) (
  pJ N hG kk fuel (IntKind.i64.wrap (i+1))))) (
  kk i)
def tO (N:Nat) (jJ kV:Int) (hG:List Int):Option Bool:=
 cond (decide (jJ<1)) (
 some false) (
 cond (decide (64<jJ)) (
 some false) (
 cond (decide (kV<1)) (
 some false) (
 cond (decide (64<kV)) (
 some false) (
 cond (!decide ((hG.length:Int)=(IntKind.i64.wrap (jJ*kV)))) (
 some false) (
 pJ N hG (fun i2=>
 some true) N 0)))))
def sC (N:Nat) (n x2 y P9 Qa Qb Vu v1:Int):Option Int:=
 (inr (Fc .i64 (mN .i64 (zP .i64 y 1) 1) (zP .i64 x2 1)) 4).bind fun _=>
 (idx [P9,Qa,Qb,Vu] (Fc .i64 (mN .i64 (zP .i64 y 1) 1) (zP .i64 x2 1))).bind fun e=>
 (nz (IntKind.i64.wrap (v1-e))).bind fun _=>
 some (IntKind.i64.wrap (Int.tdiv (IntKind.i64.wrap ((max (IntKind.i64.wrap (n-e)) 0)*65535)) (IntKind.i64.wrap (v1-e))))
def eX (N:Nat) (jJ:Int) (hG:List Int) (w8 w9 xA xB Ap:Int) (kk:(List Int × Int)→Option (Int × Int × List Int)):Nat→(List Int × Int)→Option (Int × Int × List Int)
 | 0,_=>none
 | fuel+1,(dA,i)=>
  cond (decide (i<(hG.length:Int))) (
  (idx hG i).bind fun e3=>
  (nz jJ).bind fun _=>
  (nz jJ).bind fun _=>
  (sC N e3 (Int.tmod i jJ) (IntKind.i64.wrap (Int.tdiv i jJ)) w8 w9 xA xB Ap).bind fun r3=>
  (idx dA i).bind fun e4=>
  (vU dA i (min r3 65535)).bind fun l4=>
  eX N jJ hG w8 w9 xA xB Ap kk fuel (l4,IntKind.i64.wrap (i+1))) (
  kk (dA,i))
def kW (N:Nat) (jJ kV:Int) (hG:List Int) (w8 w9 xA xB Ap:Int):Option (Int × Int × List Int):=
 (some ((hG.length:Int))).bind fun x2=>
 (mk 8 x2 (0:Int)).bind fun l2=>
 eX N jJ hG w8 w9 xA xB Ap (fun (oF,i2)=>
 some (jJ,kV,oF)) N (l2,0)
def jW (N:Nat) (CO CP CQ CR white:Int) (kk:Int→Option (Int × Int × List Int × Int)):Nat→Int→Option (Int × Int × List Int × Int)
 | 0,_=>none
 | fuel+1,i=>
  cond (decide (i<4)) (
  (idx [CO,CP,CQ,CR] i).bind fun e2=>
  cond (decide (e2<0)) (
  some (0,0,([]:List Int),3)) (
  cond (decide (white≤e2)) (
  some (0,0,([]:List Int),3)) (
  cond (decide (65535<white)) (
  some (0,0,([]:List Int),3)) (
  jW N CO CP CQ CR white kk fuel (IntKind.i64.wrap (i+1)))))) (
  kk i)
def sD (N:Nat) (jJ kV:Int) (hG:List Int) (CO CP CQ CR white:Int):Option (Int × Int × List Int × Int):=
 (tO N jJ kV hG).bind fun r2=>
 cond (!(r2)) (
 some (0,0,([]:List Int),1)) (
 jW N CO CP CQ CR white (fun i2=>
 (kW N jJ kV hG CO CP CQ CR white).bind fun r3=>
 some (r3.1,r3.2.1,r3.2.2,0)) N 0)
def uF (N:Nat) (Hh zR zS zT zU IA:Int) (snd:List (Int × Int)) (zV zW zX zY zZ z6 z7 z8 Aa Ab Ad Ae:Int) (D1:List (Int × Int)) (IB jJ kV:Int) (hG:List Int) (dY gP:Int) (eD:List (Int × Int × Int)):Option (Int × Int × List Int × Int × Int × List (Int × Int × Int) × Int):=
 (sD N jJ kV hG zR zS zT zU IA).bind fun r2=>
 some (r2.1,r2.2.1,r2.2.2.1,dY,gP,eD,r2.2.2.2)
def sU (N:Nat) (Hh zR zS zT zU IA:Int) (snd:List (Int × Int)) (zV zW zX zY zZ z6 z7 z8 Aa Ab Ad Ae:Int) (D1:List (Int × Int)) (IB jJ kV:Int) (hG:List Int) (dY gP:Int) (eD:List (Int × Int × Int)):Option (Int × Int × List Int × Int × Int × List (Int × Int × Int) × Int):=
 (fY N jJ kV hG snd).bind fun r2=>
 some (r2.1,r2.2.1,r2.2.2.1,dY,gP,eD,r2.2.2.2)
def oR (N:Nat) (phase x2 y:Int):Option Int:=
 some (IntKind.i64.wrap ((zP .i64 (IntKind.i64.wrap (x2+phase)) 1)+(zP .i64 (IntKind.i64.wrap (y+(iB .i64 phase 1))) 1)))
def tE (N:Nat) (n x2 y P9 Qa Qb v1:Int):Option Int:=
 (oR N v1 x2 y).bind fun r2=>
 (inr r2 3).bind fun _=>
 (idx [P9,Qa,Qb] r2).bind fun e=>
 some (iB .i64 (IntKind.i64.wrap (n*e)) 8)
def fN (N:Nat) (jJ:Int) (hG:List Int) (Aq Ar As CS:Int) (kk:(List Int × Int)→Option (Int × Int × List Int)):Nat→(List Int × Int)→Option (Int × Int × List Int)
 | 0,_=>none
 | fuel+1,(dA,i)=>
  cond (decide (i<(hG.length:Int))) (
  (idx hG i).bind fun e3=>
  (nz jJ).bind fun _=>
  (nz jJ).bind fun _=>
  (tE N e3 (Int.tmod i jJ) (IntKind.i64.wrap (Int.tdiv i jJ)) Aq Ar As CS).bind fun r3=>
  (idx dA i).bind fun e4=>
  (vU dA i (min r3 65535)).bind fun l4=>
  fN N jJ hG Aq Ar As CS kk fuel (l4,IntKind.i64.wrap (i+1))) (
  kk (dA,i))
def lJ (N:Nat) (jJ kV:Int) (hG:List Int) (Aq Ar As CS:Int):Option (Int × Int × List Int):=
 (some ((hG.length:Int))).bind fun x2=>
 (mk 8 x2 (0:Int)).bind fun l2=>
 fN N jJ hG Aq Ar As CS (fun (oF,i2)=>
 some (jJ,kV,oF)) N (l2,0)
def kQ (N:Nat) (phase CT CU CV:Int) (kk:Int→Option (Int × Int × List Int × Int)):Nat→Int→Option (Int × Int × List Int × Int)
 | 0,_=>none
 | fuel+1,i=>
  cond (decide (i<3)) (
  (idx [CT,CU,CV] i).bind fun e2=>
  cond (decide (e2<0)) (
  some (0,0,([]:List Int),3)) (
  cond (decide (65535<e2)) (
  some (0,0,([]:List Int),3)) (
  cond (decide (phase<0)) (
  some (0,0,([]:List Int),3)) (
  cond (decide (3<phase)) (
  some (0,0,([]:List Int),3)) (
  kQ N phase CT CU CV kk fuel (IntKind.i64.wrap (i+1))))))) (
  kk i)
def tP (N:Nat) (jJ kV:Int) (hG:List Int) (phase CT CU CV:Int):Option (Int × Int × List Int × Int):=
 (tO N jJ kV hG).bind fun r2=>
 cond (!(r2)) (
 some (0,0,([]:List Int),1)) (
 kQ N phase CT CU CV (fun i2=>
 (lJ N jJ kV hG CT CU CV phase).bind fun r3=>
 some (r3.1,r3.2.1,r3.2.2,0)) N 0)
def vM (N:Nat) (Hh zR zS zT zU IA:Int) (snd:List (Int × Int)) (zV zW zX zY zZ z6 z7 z8 Aa Ab Ad Ae:Int) (D1:List (Int × Int)) (IB jJ kV:Int) (hG:List Int) (dY gP:Int) (eD:List (Int × Int × Int)):Option (Int × Int × List Int × Int × Int × List (Int × Int × Int) × Int):=
 (tP N jJ kV hG Hh zV zW zX).bind fun r2=>
 some (r2.1,r2.2.1,r2.2.2.1,dY,gP,eD,r2.2.2.2)
def lK (N:Nat) (phase x2 y:Int):Option (Int × Int):=
 cond (decide (phase<0)) (
 some (0,3)) (
 cond (decide (3<phase)) (
 some (0,3)) (
 cond (decide (x2<0)) (
 some (0,3)) (
 cond (decide (y<0)) (
 some (0,3)) (
 (oR N phase (zP .i64 x2 1) (zP .i64 y 1)).bind fun r2=>
 some (r2,0)))))
def lU (N:Nat) (jD:Int) (kT:List Int) (o u v CW CX CY F2 F3 F4:Int):Option (Int × Int × Int × Int × Int × Int):=
 (lK N o u v).bind fun r3=>
 cond (decide (r3.1=0)) (
 (idx kT (IntKind.i64.wrap ((IntKind.i64.wrap (v*jD))+u))).bind fun e4=>
 cond (decide (r3.1=0)) (
 some (IntKind.i64.wrap (CW+1),CX,CY,IntKind.i64.wrap (F2+e4),F3,F4)) (
 cond (decide (r3.1=1)) (
 some (CW,IntKind.i64.wrap (CX+1),CY,IntKind.i64.wrap (F2+e4),F3,F4)) (
 some (CW,CX,IntKind.i64.wrap (CY+1),IntKind.i64.wrap (F2+e4),F3,F4)))) (
 cond (decide (r3.1=1)) (
 (idx kT (IntKind.i64.wrap ((IntKind.i64.wrap (v*jD))+u))).bind fun e5=>
 cond (decide (r3.1=0)) (
 some (IntKind.i64.wrap (CW+1),CX,CY,F2,IntKind.i64.wrap (F3+e5),F4)) (
 cond (decide (r3.1=1)) (
 some (CW,IntKind.i64.wrap (CX+1),CY,F2,IntKind.i64.wrap (F3+e5),F4)) (
 some (CW,CX,IntKind.i64.wrap (CY+1),F2,IntKind.i64.wrap (F3+e5),F4)))) (
 (idx kT (IntKind.i64.wrap ((IntKind.i64.wrap (v*jD))+u))).bind fun e6=>
 cond (decide (r3.1=0)) (
 some (IntKind.i64.wrap (CW+1),CX,CY,F2,F3,IntKind.i64.wrap (F4+e6))) (
 cond (decide (r3.1=1)) (
 some (CW,IntKind.i64.wrap (CX+1),CY,F2,F3,IntKind.i64.wrap (F4+e6))) (
 some (CW,CX,IntKind.i64.wrap (CY+1),F2,F3,IntKind.i64.wrap (F4+e6))))))
def eZ (N:Nat) (jD:Int) (kT:List Int) (o:Int) (s:Int × Int × Int × Int × Int × Int) (q:Int × Int):Int × Int × Int × Int × Int × Int:=(lU N jD kT o q.1 q.2 s.1 s.2.1 s.2.2.1 s.2.2.2.1 s.2.2.2.2.1 s.2.2.2.2.2).getD s
theorem iT {W H:Int} (N:Nat) (jD:Int) (kT:List Int) (o:Int) (pre:List (YD W H)) (q:YD W H) {s r:Int × Int × Int × Int × Int × Int} (hs:List.foldl (eZ N jD kT o) (0,0,0,0,0,0) (pre.map (·.1))=s) (hr:lU N jD kT o q.1.1 q.1.2 s.1 s.2.1 s.2.2.1 s.2.2.2.1 s.2.2.2.2.1 s.2.2.2.2.2=some r):List.foldl (eZ N jD kT o) (0,0,0,0,0,0) ((pre++[q]).map (·.1))=r:=by
 rw [List.map_append,List.foldl_append,hs];show (lU N jD kT o q.1.1 q.1.2 s.1 s.2.1 s.2.2.1 s.2.2.2.1 s.2.2.2.2.1 s.2.2.2.2.2).getD s=r;rw [hr];rfl
def bW (N:Nat) (CW CX CY:Int) (kk:(Int × Int × Int × Int)→Option (Int × Int × Int)):Nat→(Int × Int × Int × Int)→Option (Int × Int × Int)
 | 0,_=>none
 | fuel+1,(tW,tX,tY,i)=>
  cond (decide (i<3)) (
  cond (decide (i=0)) (
  cond (decide (0<CW)) (
  cond (decide (i=0)) (
  (nz CW).bind fun _=>
  bW N CW CX CY kk fuel (IntKind.i64.wrap (Int.tdiv tW CW),tX,tY,IntKind.i64.wrap (i+1))) (
  cond (decide (i=1)) (
  (nz CW).bind fun _=>
  bW N CW CX CY kk fuel (tW,IntKind.i64.wrap (Int.tdiv tX CW),tY,IntKind.i64.wrap (i+1))) (
  (nz CW).bind fun _=>
  bW N CW CX CY kk fuel (tW,tX,IntKind.i64.wrap (Int.tdiv tY CW),IntKind.i64.wrap (i+1))))) (
  bW N CW CX CY kk fuel (tW,tX,tY,IntKind.i64.wrap (i+1)))) (
  cond (decide (i=1)) (
  cond (decide (0<CX)) (
  cond (decide (i=0)) (
  (nz CX).bind fun _=>
  bW N CW CX CY kk fuel (IntKind.i64.wrap (Int.tdiv tW CX),tX,tY,IntKind.i64.wrap (i+1))) (
  cond (decide (i=1)) (
  (nz CX).bind fun _=>
  bW N CW CX CY kk fuel (tW,IntKind.i64.wrap (Int.tdiv tX CX),tY,IntKind.i64.wrap (i+1))) (
  (nz CX).bind fun _=>
  bW N CW CX CY kk fuel (tW,tX,IntKind.i64.wrap (Int.tdiv tY CX),IntKind.i64.wrap (i+1))))) (
  bW N CW CX CY kk fuel (tW,tX,tY,IntKind.i64.wrap (i+1)))) (
  cond (decide (0<CY)) (
  cond (decide (i=0)) (
  (nz CY).bind fun _=>
  bW N CW CX CY kk fuel (IntKind.i64.wrap (Int.tdiv tW CY),tX,tY,IntKind.i64.wrap (i+1))) (
  cond (decide (i=1)) (
  (nz CY).bind fun _=>
  bW N CW CX CY kk fuel (tW,IntKind.i64.wrap (Int.tdiv tX CY),tY,IntKind.i64.wrap (i+1))) (
  (nz CY).bind fun _=>
  bW N CW CX CY kk fuel (tW,tX,IntKind.i64.wrap (Int.tdiv tY CY),IntKind.i64.wrap (i+1))))) (
  bW N CW CX CY kk fuel (tW,tX,tY,IntKind.i64.wrap (i+1)))))) (
  kk (tW,tX,tY,i))
def At (N:Nat) (jD:Int) (kT:List Int) (o p2 p3:Int):Int × Int × Int × Int × Int × Int→Option (Int × Int × Int)
 | (CW,CX,CY,F2,F3,F4)=>
  bW N CW CX CY (fun (M5,M6,M7,i2)=>
  (lK N o p2 p3).bind fun r4=>
  cond (decide (r4.1=0)) (
  (idx kT (IntKind.i64.wrap ((IntKind.i64.wrap (p3*jD))+p2))).bind fun e7=>
  some (e7,M6,M7)) (
  cond (decide (r4.1=1)) (
  (idx kT (IntKind.i64.wrap ((IntKind.i64.wrap (p3*jD))+p2))).bind fun e8=>
  some (M5,e8,M7)) (
  (idx kT (IntKind.i64.wrap ((IntKind.i64.wrap (p3*jD))+p2))).bind fun e9=>
  some (M5,M6,e9)))) N (F2,F3,F4,0)
def uX (N:Nat) (jD mO:Int) (kT:List Int) (o p2 p3:Int):Option (Int × Int × Int):=
 cond (decide (Oq jD mO kT p2 p3)) (At N jD kT o p2 p3 (List.foldl (eZ N jD kT o) (0,0,0,0,0,0) (jH jD mO p2 p3))) none
def pK (N:Nat) (jJ kV:Int) (hG:List Int) (phase i:Int) (kk:(List (Int × Int × Int) × Int)→Option (Int × Int × List (Int × Int × Int) × Int)):Nat→(List (Int × Int × Int) × Int)→Option (Int × Int × List (Int × Int × Int) × Int)
 | 0,_=>none
 | fuel+1,(tZ,i3)=>
  cond (decide (i3<jJ)) (
  (uX N jJ kV hG phase i3 i).bind fun r5=>
  (app 24 tZ (([(r5.1,r5.2.1,r5.2.2)]:List (Int × Int × Int)))).bind fun GF=>
  pK N jJ kV hG phase i kk fuel (GF,IntKind.i64.wrap (i3+1))) (
  kk (tZ,i3))
def nA (N:Nat) (jJ kV:Int) (hG:List Int) (phase:Int) (kk:(List (Int × Int × Int) × Int)→Option (Int × Int × List (Int × Int × Int) × Int)):Nat→(List (Int × Int × Int) × Int)→Option (Int × Int × List (Int × Int × Int) × Int)
 | 0,_=>none
 | fuel+1,(dA,i)=>
  cond (decide (i<kV)) (
  pK N jJ kV hG phase i (fun (GG,i4)=>
  nA N jJ kV hG phase kk fuel (GG,IntKind.i64.wrap (i+1))) N (dA,0)) (
  kk (dA,i))
def tQ (N:Nat) (jJ kV:Int) (hG:List Int) (phase:Int):Option (Int × Int × List (Int × Int × Int) × Int):=
 (fY N jJ kV hG (([]:List (Int × Int)))).bind fun r2=>
 cond (!decide (r2.2.2.2=0)) (
 some (0,0,([]:List (Int × Int × Int)),r2.2.2.2)) (
 cond (decide (phase<0)) (
 some (0,0,([]:List (Int × Int × Int)),3)) (
 cond (decide (3<phase)) (
 some (0,0,([]:List (Int × Int × Int)),3)) (
 nA N jJ kV hG phase (fun (GH,i5)=>
 some (jJ,kV,GH,0)) N (([]:List (Int × Int × Int)),0))))
def vN (N:Nat) (Hh zR zS zT zU IA:Int) (snd:List (Int × Int)) (zV zW zX zY zZ z6 z7 z8 Aa Ab Ad Ae:Int) (D1:List (Int × Int)) (IB jJ kV:Int) (hG:List Int) (dY gP:Int) (eD:List (Int × Int × Int)):Option (Int × Int × List Int × Int × Int × List (Int × Int × Int) × Int):=
 (tQ N jJ kV hG Hh).bind fun r2=>
 some (jJ,kV,hG,r2.1,r2.2.1,r2.2.2.1,r2.2.2.2)
def pL (N:Nat) (eD:List (Int × Int × Int)) (kk:Int→Option Bool):Nat→Int→Option Bool
 | 0,_=>none
 | fuel+1,i=>
  cond (decide (i<(eD.length:Int))) (
  (idx eD i).bind fun e2=>
  cond (decide ((min (min e2.1 e2.2.1) e2.2.2)<0)) (
  some false) (
  cond (decide (65535<(max (max e2.1 e2.2.1) e2.2.2))) (
  some false) (
  pL N eD kk fuel (IntKind.i64.wrap (i+1))))) (
  kk i)
def wN (N:Nat) (dY gP:Int) (eD:List (Int × Int × Int)):Option Bool:=
 cond (decide (dY<1)) (
 some false) (
 cond (decide (64<dY)) (
 some false) (
 cond (decide (gP<1)) (
 some false) (
 cond (decide (64<gP)) (
 some false) (
 cond (!decide ((eD.length:Int)=(IntKind.i64.wrap (dY*gP)))) (
 some false) (
 pL N eD (fun i2=>
 some true) N 0)))))
def kR (N:Nat) (dY:Int) (eD:List (Int × Int × Int)) (phase:Int) (kk:(List Int × Int)→Option (Int × Int × List Int × Int)):Nat→(List Int × Int)→Option (Int × Int × List Int × Int)
 | 0,_=>none
 | fuel+1,(dA,i)=>
  cond (decide (i<(eD.length:Int))) (
  (nz dY).bind fun _=>
  (nz dY).bind fun _=>
  (lK N phase (Int.tmod i dY) (IntKind.i64.wrap (Int.tdiv i dY))).bind fun r4=>
  (idx eD i).bind fun e2=>
  cond (decide (r4.1=0)) (
  (app 8 dA ([e2.1]:List Int)).bind fun Qs=>
  kR N dY eD phase kk fuel (Qs,IntKind.i64.wrap (i+1))) (
  cond (decide (r4.1=1)) (
  (app 8 dA ([e2.2.1]:List Int)).bind fun GF=>
  kR N dY eD phase kk fuel (GF,IntKind.i64.wrap (i+1))) (
  (app 8 dA ([e2.2.2]:List Int)).bind fun GG=>
  kR N dY eD phase kk fuel (GG,IntKind.i64.wrap (i+1))))) (
  kk (dA,i))
def lC (N:Nat) (dY gP:Int) (eD:List (Int × Int × Int)) (phase:Int):Option (Int × Int × List Int × Int):=
 (wN N dY gP eD).bind fun r2=>
 cond (!(r2)) (
 some (0,0,([]:List Int),1)) (
 cond (decide (phase<0)) (
 some (0,0,([]:List Int),3)) (
 cond (decide (3<phase)) (
 some (0,0,([]:List Int),3)) (
 kR N dY eD phase (fun (GH,i2)=>
 some (dY,gP,GH,0)) N (([]:List Int),0))))
def Cb (N:Nat) (n:Int):Option Int:=
 some (max 0 (min n 65535))
def yY (N:Nat) (M8 M9 Na k P9 Qa Qb Vu v04 v05 v06 v07 v08:Int):Option Int:=
 (inr k 9).bind fun _=>
 (idx [P9,Qa,Qb,Vu,v04,v05,v06,v07,v08] k).bind fun e=>
 (inr (IntKind.i64.wrap (k+1)) 9).bind fun _=>
 (idx [P9,Qa,Qb,Vu,v04,v05,v06,v07,v08] (IntKind.i64.wrap (k+1))).bind fun e2=>
 (inr (IntKind.i64.wrap (k+2)) 9).bind fun _=>
 (idx [P9,Qa,Qb,Vu,v04,v05,v06,v07,v08] (IntKind.i64.wrap (k+2))).bind fun e3=>
 (Cb N (iB .i64 (IntKind.i64.wrap ((IntKind.i64.wrap ((IntKind.i64.wrap (e*M8))+(IntKind.i64.wrap (e2*M9))))+(IntKind.i64.wrap (e3*Na)))) 12)).bind fun r2=>
 some r2
def vO (N:Nat) (M8 M9 Na x2 y L5 L6 L7 L8 L9 Ma Mb Mc Md:Int):Option (Int × Int × Int):=
 (yY N M8 M9 Na 0 L5 L6 L7 L8 L9 Ma Mb Mc Md).bind fun r2=>
 (yY N M8 M9 Na 3 L5 L6 L7 L8 L9 Ma Mb Mc Md).bind fun r3=>
 (yY N M8 M9 Na 6 L5 L6 L7 L8 L9 Ma Mb Mc Md).bind fun r4=>
 some (r2,r3,r4)
def gS (N:Nat) (dY:Int) (eD:List (Int × Int × Int)) (xC xD xE xF xG xH xI xJ xK:Int) (kk:(List (Int × Int × Int) × Int)→Option (Int × Int × List (Int × Int × Int) × Int)):Nat→(List (Int × Int × Int) × Int)→Option (Int × Int × List (Int × Int × Int) × Int)
 | 0,_=>none
 | fuel+1,(dA,i)=>
  cond (decide (i<(eD.length:Int))) (
  (idx eD i).bind fun e3=>
  (nz dY).bind fun _=>
  (nz dY).bind fun _=>
  (vO N e3.1 e3.2.1 e3.2.2 (Int.tmod i dY) (IntKind.i64.wrap (Int.tdiv i dY)) xC xD xE xF xG xH xI xJ xK).bind fun r4=>
  (idx dA i).bind fun e4=>
  (vU dA i (r4.1,r4.2.1,r4.2.2)).bind fun l4=>
  gS N dY eD xC xD xE xF xG xH xI xJ xK kk fuel (l4,IntKind.i64.wrap (i+1))) (
  kk (dA,i))
def iX (N:Nat) (dY gP:Int) (eD:List (Int × Int × Int)) (xC xD xE xF xG xH xI xJ xK:Int):Option (Int × Int × List (Int × Int × Int) × Int):=
 (lC N dY gP eD 0).bind fun r2=>
 cond (!decide (r2.2.2.2=0)) (
 some (0,0,([]:List (Int × Int × Int)),r2.2.2.2)) (
 (some ((eD.length:Int))).bind fun x2=>
 (mk 24 x2 ((0,0,0):Int × Int × Int)).bind fun l2=>
 gS N dY eD xC xD xE xF xG xH xI xJ xK (fun (oF,i2)=>
 some (dY,gP,oF,0)) N (l2,0))
def nZ (N:Nat) (m0 m1 m2 m3 m4 m5 m6 m7 m8:Int) (kk:(Bool × Int)→Option (Int × Int × List (Int × Int × Int) × Int)):Nat→(Bool × Int)→Option (Int × Int × List (Int × Int × Int) × Int)
 | 0,_=>none
 | fuel+1,(fine,i)=>
  cond (decide (i<9)) (
  (idx [m0,m1,m2,m3,m4,m5,m6,m7,m8] i).bind fun e2=>
  cond (fine) (
  cond (decide ((-32768)≤e2)) (
  nZ N m0 m1 m2 m3 m4 m5 m6 m7 m8 kk fuel (decide (e2≤32768),IntKind.i64.wrap (i+1))) (
  nZ N m0 m1 m2 m3 m4 m5 m6 m7 m8 kk fuel (false,IntKind.i64.wrap (i+1)))) (
  nZ N m0 m1 m2 m3 m4 m5 m6 m7 m8 kk fuel (false,IntKind.i64.wrap (i+1)))) (
  kk (fine,i))
def Au (N:Nat) (dY gP:Int) (eD:List (Int × Int × Int)) (m0 m1 m2 m3 m4 m5 m6 m7 m8:Int):Option (Int × Int × List (Int × Int × Int) × Int):=
 nZ N m0 m1 m2 m3 m4 m5 m6 m7 m8 (fun (aAr,i2)=>
 (iX N dY gP eD m0 m1 m2 m3 m4 m5 m6 m7 m8).bind fun r2=>
 cond (decide (r2.2.2.2=0)) (
 cond (!(aAr)) (
 some (0,0,([]:List (Int × Int × Int)),3)) (
 some (r2.1,r2.2.1,r2.2.2.1,r2.2.2.2))) (
 some (r2.1,r2.2.1,r2.2.2.1,r2.2.2.2))) N (true,0)
def w5 (N:Nat) (Hh zR zS zT zU IA:Int) (snd:List (Int × Int)) (zV zW zX zY zZ z6 z7 z8 Aa Ab Ad Ae:Int) (D1:List (Int × Int)) (IB jJ kV:Int) (hG:List Int) (dY gP:Int) (eD:List (Int × Int × Int)):Option (Int × Int × List Int × Int × Int × List (Int × Int × Int) × Int):=
 (Au N dY gP eD zY zZ z6 z7 z8 Aa Ab Ad Ae).bind fun r2=>
 some (jJ,kV,hG,r2.1,r2.2.1,r2.2.2.1,r2.2.2.2)
def rI (N:Nat) (M8 M9 Na x2 y:Int) (v0:List (Int × Int)):Option (Int × Int × Int):=
 (rZ N v0 M8).bind fun r2=>
 (rZ N v0 M9).bind fun r3=>
 (rZ N v0 Na).bind fun r4=>
 some (r2,r3,r4)
def gK (N:Nat) (dY:Int) (eD:List (Int × Int × Int)) (yZ:List (Int × Int)) (kk:(List (Int × Int × Int) × Int)→Option (Int × Int × List (Int × Int × Int) × Int)):Nat→(List (Int × Int × Int) × Int)→Option (Int × Int × List (Int × Int × Int) × Int)
 | 0,_=>none
 | fuel+1,(dA,i)=>
  cond (decide (i<(eD.length:Int))) (
  (idx eD i).bind fun e3=>
  (nz dY).bind fun _=>
  (nz dY).bind fun _=>
  (rI N e3.1 e3.2.1 e3.2.2 (Int.tmod i dY) (IntKind.i64.wrap (Int.tdiv i dY)) yZ).bind fun r4=>
  (idx dA i).bind fun e4=>
  (vU dA i (r4.1,r4.2.1,r4.2.2)).bind fun l4=>
  gK N dY eD yZ kk fuel (l4,IntKind.i64.wrap (i+1))) (
  kk (dA,i))
def iN (N:Nat) (dY gP:Int) (eD:List (Int × Int × Int)) (yZ:List (Int × Int)):Option (Int × Int × List (Int × Int × Int) × Int):=
 (lC N dY gP eD 0).bind fun r2=>
 cond (!decide (r2.2.2.2=0)) (
 some (0,0,([]:List (Int × Int × Int)),r2.2.2.2)) (
 (some ((eD.length:Int))).bind fun x2=>
 (mk 24 x2 ((0,0,0):Int × Int × Int)).bind fun l2=>
 gK N dY eD yZ (fun (oF,i2)=>
 some (dY,gP,oF,0)) N (l2,0))
def yD (N:Nat) (dY gP:Int) (eD:List (Int × Int × Int)) (l2:List (Int × Int)):Option (Int × Int × List (Int × Int × Int) × Int):=
 (gW N l2).bind fun r2=>
 cond (!(r2)) (
 some (0,0,([]:List (Int × Int × Int)),1)) (
 (iN N dY gP eD l2).bind fun r3=>
 some (r3.1,r3.2.1,r3.2.2.1,r3.2.2.2))
def vP (N:Nat) (Hh zR zS zT zU IA:Int) (snd:List (Int × Int)) (zV zW zX zY zZ z6 z7 z8 Aa Ab Ad Ae:Int) (D1:List (Int × Int)) (IB jJ kV:Int) (hG:List Int) (dY gP:Int) (eD:List (Int × Int × Int)):Option (Int × Int × List Int × Int × Int × List (Int × Int × Int) × Int):=
 (yD N dY gP eD D1).bind fun r2=>
 some (jJ,kV,hG,r2.1,r2.2.1,r2.2.2.1,r2.2.2.2)
def sE (N:Nat) (v TF v0:Int):Option Int:=
 (Cb N (IntKind.i64.wrap (v+(iB .i64 (IntKind.i64.wrap ((IntKind.i64.wrap (v-(iB .i64 TF 4)))*v0)) 8)))).bind fun r2=>
 some r2
def jS (N:Nat) (o p2 wH zQ:Int) (yK:List (Int × Int × Int)) (i:Int) (kk:(Int × Int × Int × Int)→Option (Int × Int × Int)):Nat→(Int × Int × Int × Int)→Option (Int × Int × Int)
 | 0,_=>none
 | fuel+1,(tW,tX,tY,i3)=>
  cond (decide (i3≤1)) (
  (some (IntKind.i64.wrap ((IntKind.i64.wrap ((min (max (IntKind.i64.wrap (p2+i)) 0) (IntKind.i64.wrap (zQ-1)))*wH))+(min (max (IntKind.i64.wrap (o+i3)) 0) (IntKind.i64.wrap (wH-1)))))).bind fun x9=>
  (idx yK x9).bind fun e3=>
  (some (IntKind.i64.wrap ((IntKind.i64.wrap (2-(IntKind.i64.wrap (i3*i3))))*(IntKind.i64.wrap (2-(IntKind.i64.wrap (i*i))))))).bind fun x10=>
  (some (IntKind.i64.wrap (i3+1))).bind fun x11=>
  jS N o p2 wH zQ yK i kk fuel (IntKind.i64.wrap (tW+(IntKind.i64.wrap (x10*e3.1))),IntKind.i64.wrap (tX+(IntKind.i64.wrap (x10*e3.2.1))),IntKind.i64.wrap (tY+(IntKind.i64.wrap (x10*e3.2.2))),x11)) (
  kk (tW,tX,tY,i3))
def jT (N:Nat) (o p2 wH zQ:Int) (yK:List (Int × Int × Int)) (kk:(Int × Int × Int × Int)→Option (Int × Int × Int)):Nat→(Int × Int × Int × Int)→Option (Int × Int × Int)
 | 0,_=>none
 | fuel+1,(CW,CX,CY,i)=>
  cond (decide (i≤1)) (
  jS N o p2 wH zQ yK i (fun (M5,M6,M7,i4)=>
  (some (IntKind.i64.wrap (i+1))).bind fun F1=>
  jT N o p2 wH zQ yK kk fuel (M5,M6,M7,F1)) N (CW,CX,CY,(-1))) (
  kk (CW,CX,CY,i))
def nC (N:Nat) (d_R d_G d_B o p2 wH zQ:Int) (yK:List (Int × Int × Int)) (TG:Int):Option (Int × Int × Int):=
 jT N o p2 wH zQ yK (fun (aBY,aBZ,aB0,i5)=>
 (sE N d_R aBY TG).bind fun r2=>
 (sE N d_G aBZ TG).bind fun r3=>
 (sE N d_B aB0 TG).bind fun r4=>
 some (r2,r3,r4)) N (0,0,0,(-1))
def fU (N:Nat) (dY:Int) (eD:List (Int × Int × Int)) (rJ rK:Int) (n0:List (Int × Int × Int)) (rL:Int) (kk:(List (Int × Int × Int) × Int)→Option (Int × Int × List (Int × Int × Int) × Int)):Nat→(List (Int × Int × Int) × Int)→Option (Int × Int × List (Int × Int × Int) × Int)
 | 0,_=>none
 | fuel+1,(dA,i)=>
  cond (decide (i<(eD.length:Int))) (
  (idx eD i).bind fun e3=>
  (nz dY).bind fun _=>
  (nz dY).bind fun _=>
  (nC N e3.1 e3.2.1 e3.2.2 (Int.tmod i dY) (IntKind.i64.wrap (Int.tdiv i dY)) rJ rK n0 rL).bind fun r4=>
  (idx dA i).bind fun e4=>
  (vU dA i (r4.1,r4.2.1,r4.2.2)).bind fun l4=>
  fU N dY eD rJ rK n0 rL kk fuel (l4,IntKind.i64.wrap (i+1))) (
  kk (dA,i))
def gL (N:Nat) (dY gP:Int) (eD:List (Int × Int × Int)) (rJ rK:Int) (n0:List (Int × Int × Int)) (rL:Int):Option (Int × Int × List (Int × Int × Int) × Int):=
 (lC N dY gP eD 0).bind fun r2=>
 cond (!decide (r2.2.2.2=0)) (
 some (0,0,([]:List (Int × Int × Int)),r2.2.2.2)) (
 (some ((eD.length:Int))).bind fun x2=>
 (mk 24 x2 ((0,0,0):Int × Int × Int)).bind fun l2=>
 fU N dY eD rJ rK n0 rL (fun (oF,i2)=>
 some (dY,gP,oF,0)) N (l2,0))
def sF (N:Nat) (dY gP:Int) (eD:List (Int × Int × Int)) (amount:Int):Option (Int × Int × List (Int × Int × Int) × Int):=
 (gL N dY gP eD dY gP eD amount).bind fun r2=>
 cond (decide (r2.2.2.2=0)) (
 cond (decide (amount<0)) (
 some (0,0,([]:List (Int × Int × Int)),3)) (
 cond (decide (1024<amount)) (
 some (0,0,([]:List (Int × Int × Int)),3)) (
 some (r2.1,r2.2.1,r2.2.2.1,r2.2.2.2)))) (
 some (r2.1,r2.2.1,r2.2.2.1,r2.2.2.2))
def rT (N:Nat) (Hh zR zS zT zU IA:Int) (snd:List (Int × Int)) (zV zW zX zY zZ z6 z7 z8 Aa Ab Ad Ae:Int) (D1:List (Int × Int)) (IB jJ kV:Int) (hG:List Int) (dY gP:Int) (eD:List (Int × Int × Int)):Option (Int × Int × List Int × Int × Int × List (Int × Int × Int) × Int):=
 (sF N dY gP eD IB).bind fun r2=>
 some (jJ,kV,hG,r2.1,r2.2.1,r2.2.2.1,r2.2.2.2)
def y6 (N:Nat) (na nb0 mQ mR mS nc:Int) (nd:List (Int × Int)) (mY ne1 nH nI nJ nK nL nM nN nO nP nf8:Int) (ng:List (Int × Int)) (nh jJ kV:Int) (hG:List Int):Option (Int × Int × List (Int × Int × Int) × Int):=
 (qS N na nb0 mQ mR mS nc nd mY ne1 nH nI nJ nK nL nM nN nO nP nf8 ng nh).bind fun r2=>
 cond (!decide (r2=0)) (
 some (0,0,([]:List (Int × Int × Int)),r2)) (
 (uF N na nb0 mQ mR mS nc nd mY ne1 nH nI nJ nK nL nM nN nO nP nf8 ng nh jJ kV hG 0 0 (([]:List (Int × Int × Int)))).bind fun r3=>
 cond (!decide (r3.2.2.2.2.2.2=0)) (
 some (0,0,([]:List (Int × Int × Int)),r3.2.2.2.2.2.2)) (
 (sU N na nb0 mQ mR mS nc nd mY ne1 nH nI nJ nK nL nM nN nO nP nf8 ng nh r3.1 r3.2.1 r3.2.2.1 r3.2.2.2.1 r3.2.2.2.2.1 (([]:List (Int × Int × Int)))).bind fun r4=>
 cond (!decide (r4.2.2.2.2.2.2=0)) (
 some (0,0,([]:List (Int × Int × Int)),r4.2.2.2.2.2.2)) (
 (vM N na nb0 mQ mR mS nc nd mY ne1 nH nI nJ nK nL nM nN nO nP nf8 ng nh r4.1 r4.2.1 r4.2.2.1 r4.2.2.2.1 r4.2.2.2.2.1 (([]:List (Int × Int × Int)))).bind fun r5=>
 cond (!decide (r5.2.2.2.2.2.2=0)) (
 some (0,0,([]:List (Int × Int × Int)),r5.2.2.2.2.2.2)) (
 (vN N na nb0 mQ mR mS nc nd mY ne1 nH nI nJ nK nL nM nN nO nP nf8 ng nh r5.1 r5.2.1 r5.2.2.1 r5.2.2.2.1 r5.2.2.2.2.1 (([]:List (Int × Int × Int)))).bind fun r6=>
 cond (!decide (r6.2.2.2.2.2.2=0)) (
 some (0,0,([]:List (Int × Int × Int)),r6.2.2.2.2.2.2)) (
 (w5 N na nb0 mQ mR mS nc nd mY ne1 nH nI nJ nK nL nM nN nO nP nf8 ng nh r6.1 r6.2.1 r5.2.2.1 r6.2.2.2.1 r6.2.2.2.2.1 r6.2.2.2.2.2.1).bind fun r7=>
 cond (!decide (r7.2.2.2.2.2.2=0)) (
 some (0,0,([]:List (Int × Int × Int)),r7.2.2.2.2.2.2)) (
 (vP N na nb0 mQ mR mS nc nd mY ne1 nH nI nJ nK nL nM nN nO nP nf8 ng nh r7.1 r7.2.1 r5.2.2.1 r7.2.2.2.1 r7.2.2.2.2.1 r7.2.2.2.2.2.1).bind fun r8=>
 cond (!decide (r8.2.2.2.2.2.2=0)) (
 some (0,0,([]:List (Int × Int × Int)),r8.2.2.2.2.2.2)) (
 (rT N na nb0 mQ mR mS nc nd mY ne1 nH nI nJ nK nL nM nN nO nP nf8 ng nh r8.1 r8.2.1 r5.2.2.1 r8.2.2.2.1 r8.2.2.2.2.1 r8.2.2.2.2.2.1).bind fun r9=>
 cond (!decide (r9.2.2.2.2.2.2=0)) (
 some (0,0,([]:List (Int × Int × Int)),r9.2.2.2.2.2.2)) (
 some (r9.2.2.2.1,r9.2.2.2.2.1,r9.2.2.2.2.2.1,0)))))))))
def gN (N:Nat) (s:List (Int × Int × Int)):Option (List (Int × Int × Int)):=
 (app 24 (([]:List (Int × Int × Int))) s).bind fun l2=>
 some l2
def Be (N:Nat) (da Qt Qu Qv Qw dc:Int) (dd:List (Int × Int)) (Qx Qy Qz QA QB df2 QC QD QE QF QG QH:Int) (dg:List (Int × Int)) (dh vV Bm:Int) (Fd:List Int) (p2 p3 p4 p5:Int):Option (Int × Int × List (Int × Int × Int) × Int):=
 (qS N da Qt Qu Qv Qw dc dd Qx Qy Qz QA QB df2 QC QD QE QF QG QH dg dh).bind fun r2=>
 cond (!decide (r2=0)) (
 some (0,0,([]:List (Int × Int × Int)),r2)) (
 (fY N vV Bm Fd (([]:List (Int × Int)))).bind fun r3=>
 cond (!decide (r3.2.2.2=0)) (
 some (0,0,([]:List (Int × Int × Int)),r3.2.2.2)) (
 (lT N 1 64 ([p3]:List Int)).bind fun r4=>
 cond (!(r4)) (
 some (0,0,([]:List (Int × Int × Int)),3)) (
 (lT N 0 (IntKind.i64.wrap (p3-Bm)) ([p2]:List Int)).bind fun r5=>
 cond (!(r5)) (
 some (0,0,([]:List (Int × Int × Int)),3)) (
 (lT N 0 (IntKind.i64.wrap (p3-1)) ([p4]:List Int)).bind fun r6=>
 cond (!(r6)) (
 some (0,0,([]:List (Int × Int × Int)),3)) (
 (lT N (IntKind.i64.wrap (p4+1)) p3 ([p5]:List Int)).bind fun r7=>
 cond (!(r7)) (
 some (0,0,([]:List (Int × Int × Int)),3)) (
 cond (decide ((max (IntKind.i64.wrap (p4-4)) 0)<p2)) (
 some (0,0,([]:List (Int × Int × Int)),3)) (
 cond (decide ((IntKind.i64.wrap (p2+Bm))<(min (IntKind.i64.wrap (p5+4)) p3))) (
 some (0,0,([]:List (Int × Int × Int)),3)) (
 (vJ N dd vV p3).bind fun r8=>
 cond (!(r8)) (
 some (0,0,([]:List (Int × Int × Int)),3)) (
 (Bd N da Qt Qu Qv Qw dc dd Qx Qy Qz QA QB df2 QC QD QE QF QG QH dg dh p2 Bm).bind fun r9=>
 (y6 N r9.1 r9.2.1 r9.2.2.1 r9.2.2.2.1 r9.2.2.2.2.1 r9.2.2.2.2.2.1 r9.2.2.2.2.2.2.1 r9.2.2.2.2.2.2.2.1 r9.2.2.2.2.2.2.2.2.1 r9.2.2.2.2.2.2.2.2.2.1 r9.2.2.2.2.2.2.2.2.2.2.1 r9.2.2.2.2.2.2.2.2.2.2.2.1 r9.2.2.2.2.2.2.2.2.2.2.2.2.1 r9.2.2.2.2.2.2.2.2.2.2.2.2.2.1 r9.2.2.2.2.2.2.2.2.2.2.2.2.2.2.1 r9.2.2.2.2.2.2.2.2.2.2.2.2.2.2.2.1 r9.2.2.2.2.2.2.2.2.2.2.2.2.2.2.2.2.1 r9.2.2.2.2.2.2.2.2.2.2.2.2.2.2.2.2.2.1 r9.2.2.2.2.2.2.2.2.2.2.2.2.2.2.2.2.2.2.1 dg r9.2.2.2.2.2.2.2.2.2.2.2.2.2.2.2.2.2.2.2.2 vV Bm Fd).bind fun IC=>
 cond (!decide (IC.2.2.2=0)) (
 some (0,0,([]:List (Int × Int × Int)),IC.2.2.2)) (
 (DZ IC.2.2.1 (IntKind.i64.wrap ((IntKind.i64.wrap (p4-p2))*IC.1)) (IntKind.i64.wrap ((IntKind.i64.wrap (p5-p2))*IC.1))).bind fun l2=>
 (gN N l2).bind fun Gd=>
 some (IC.1,IntKind.i64.wrap (p5-p4),Gd,0)))))))))))
def sG (N:Nat) (da Qt Qu Qv Qw dc:Int) (dd:List (Int × Int)) (Qx Qy Qz QA QB df2 QC QD QE QF QG QH:Int) (dg:List (Int × Int)) (dh vV Bm:Int) (Fd:List Int) (p2:Int) (kk:(List (Int × Int × Int) × Int)→Option (Int × Int × List (Int × Int × Int) × Int)):Nat→(List (Int × Int × Int) × Int)→Option (Int × Int × List (Int × Int × Int) × Int)
 | 0,_=>none
 | fuel+1,(BP,i)=>
  cond (decide (i<Bm)) (
  (some (IntKind.i64.wrap (i+(min p2 (IntKind.i64.wrap (Bm-i)))))).bind fun x5=>
  (some (max (IntKind.i64.wrap (i-4)) 0)).bind fun x6=>
  (some (min (IntKind.i64.wrap (x5+4)) Bm)).bind fun x7=>
  (DZ Fd (IntKind.i64.wrap (x6*vV)) (IntKind.i64.wrap (x7*vV))).bind fun l3=>
  (Be N da Qt Qu Qv Qw dc dd Qx Qy Qz QA QB df2 QC QD QE QF QG QH dg dh vV (IntKind.i64.wrap (x7-x6)) l3 x6 Bm i x5).bind fun r6=>
  cond (!decide (r6.2.2.2=0)) (
  some (0,0,([]:List (Int × Int × Int)),r6.2.2.2)) (
  (app 24 BP r6.2.2.1).bind fun DM=>
  sG N da Qt Qu Qv Qw dc dd Qx Qy Qz QA QB df2 QC QD QE QF QG QH dg dh vV Bm Fd p2 kk fuel (DM,x5))) (
  kk (BP,i))
def wO (N:Nat) (da Qt Qu Qv Qw dc:Int) (dd:List (Int × Int)) (Qx Qy Qz QA QB df2 QC QD QE QF QG QH:Int) (dg:List (Int × Int)) (dh vV Bm:Int) (Fd:List Int) (p2:Int):Option (Int × Int × List (Int × Int × Int) × Int):=
 (qS N da Qt Qu Qv Qw dc dd Qx Qy Qz QA QB df2 QC QD QE QF QG QH dg dh).bind fun r2=>
 cond (!decide (r2=0)) (
 some (0,0,([]:List (Int × Int × Int)),r2)) (
 (fY N vV Bm Fd dd).bind fun r3=>
 cond (!decide (r3.2.2.2=0)) (
 some (0,0,([]:List (Int × Int × Int)),r3.2.2.2)) (
 cond (decide (p2<1)) (
 some (0,0,([]:List (Int × Int × Int)),3)) (
 sG N da Qt Qu Qv Qw dc dd Qx Qy Qz QA QB df2 QC QD QE QF QG QH dg dh vV Bm Fd p2 (fun (aDr,i2)=>
 some (vV,Bm,aDr,0)) N (([]:List (Int × Int × Int)),0))))
def tR (N:Nat) (jD:Int) (kT:List (Int × Int × Int)) (X9 Ya vV Bm:Int) (kk:(List (Int × Int × Int) × Int)→Option (Int × Int × List (Int × Int × Int) × Int)):Nat→(List (Int × Int × Int) × Int)→Option (Int × Int × List (Int × Int × Int) × Int)
 | 0,_=>none
 | fuel+1,(BP,i)=>
  cond (decide (i<Bm)) (
  (some (IntKind.i64.wrap ((IntKind.i64.wrap ((IntKind.i64.wrap (Ya+i))*jD))+X9))).bind fun x3=>
  (DZ kT x3 (IntKind.i64.wrap (x3+vV))).bind fun l3=>
  (app 24 BP l3).bind fun vL=>
  tR N jD kT X9 Ya vV Bm kk fuel (vL,IntKind.i64.wrap (i+1))) (
  kk (BP,i))
def xL (N:Nat) (jD mO:Int) (kT:List (Int × Int × Int)) (X9 Ya vV Bm:Int):Option (Int × Int × List (Int × Int × Int) × Int):=
 (lC N jD mO kT 0).bind fun r2=>
 cond (!decide (r2.2.2.2=0)) (
 some (0,0,([]:List (Int × Int × Int)),r2.2.2.2)) (
 cond (decide (vV<1)) (
 some (0,0,([]:List (Int × Int × Int)),3)) (
 cond (decide (Bm<1)) (
 some (0,0,([]:List (Int × Int × Int)),3)) (
 cond (decide (jD<vV)) (
 some (0,0,([]:List (Int × Int × Int)),3)) (
 cond (decide (mO<Bm)) (
 some (0,0,([]:List (Int × Int × Int)),3)) (
 cond (decide (X9<0)) (
 some (0,0,([]:List (Int × Int × Int)),3)) (
 cond (decide (Ya<0)) (
 some (0,0,([]:List (Int × Int × Int)),3)) (
 cond (decide ((IntKind.i64.wrap (jD-vV))<X9)) (
 some (0,0,([]:List (Int × Int × Int)),3)) (
 cond (decide ((IntKind.i64.wrap (mO-Bm))<Ya)) (
 some (0,0,([]:List (Int × Int × Int)),3)) (
 tR N jD kT X9 Ya vV Bm (fun (DM,i2)=>
 some (vV,Bm,DM,0)) N (([]:List (Int × Int × Int)),0))))))))))
def Et (N:Nat)  : Option (Bool × Bool × Bool × Bool × Bool × Bool × Bool × Bool × Bool × Bool × Bool × Bool × Bool × Bool × Bool × Bool × Bool × Bool × Bool × Bool × Bool × Bool × Bool × Bool × Bool × Bool × Bool):=
 some (false,false,false,false,false,false,false,true,false,false,true,true,false,false,true,true,false,false,true,true,false,true,true,true,true,false,true)
def mC (N:Nat) (dY gP:Int) (eD:List (Int × Int × Int)) (kk:(List (Int × Int × Int) × Int)→Option (Int × Int × List (Int × Int × Int))):Nat→(List (Int × Int × Int) × Int)→Option (Int × Int × List (Int × Int × Int))
 | 0,_=>none
 | fuel+1,(dA,i)=>
  cond (decide (i<(eD.length:Int))) (
  (idx eD i).bind fun e3=>
  (nz dY).bind fun _=>
  (nz dY).bind fun _=>
  (idx dA (IntKind.i64.wrap ((IntKind.i64.wrap ((Int.tmod i dY)*gP))+(IntKind.i64.wrap (Int.tdiv i dY))))).bind fun e4=>
  (vU dA (IntKind.i64.wrap ((IntKind.i64.wrap ((Int.tmod i dY)*gP))+(IntKind.i64.wrap (Int.tdiv i dY)))) (e3.1,e3.2.1,e3.2.2)).bind fun l4=>
  mC N dY gP eD kk fuel (l4,IntKind.i64.wrap (i+1))) (
  kk (dA,i))
def pV (N:Nat) (dY gP:Int) (eD:List (Int × Int × Int)):Option (Int × Int × List (Int × Int × Int)):=
 (some ((eD.length:Int))).bind fun x2=>
 (mk 24 x2 ((0,0,0):Int × Int × Int)).bind fun l2=>
 mC N dY gP eD (fun (oF,i2)=>
 some (gP,dY,oF)) N (l2,0)
def AP (N:Nat) (x2 y wH zQ:Int) (yK:List (Int × Int × Int)):Option Int:=
 some (IntKind.i64.wrap ((IntKind.i64.wrap ((IntKind.i64.wrap ((IntKind.i64.wrap (y*wH))+wH))-1))-x2))
def fV (N:Nat) (dY:Int) (eD:List (Int × Int × Int)) (xM xN:Int) (sV:List (Int × Int × Int)) (kk:(List (Int × Int × Int) × Int)→Option (Int × Int × List (Int × Int × Int))):Nat→(List (Int × Int × Int) × Int)→Option (Int × Int × List (Int × Int × Int))
 | 0,_=>none
 | fuel+1,(dA,i)=>
  cond (decide (i<(eD.length:Int))) (
  (idx eD i).bind fun e3=>
  (nz dY).bind fun _=>
  (nz dY).bind fun _=>
  (AP N (Int.tmod i dY) (IntKind.i64.wrap (Int.tdiv i dY)) xM xN sV).bind fun r3=>
  (idx dA r3).bind fun e4=>
  (vU dA r3 (e3.1,e3.2.1,e3.2.2)).bind fun l4=>
  fV N dY eD xM xN sV kk fuel (l4,IntKind.i64.wrap (i+1))) (
  kk (dA,i))
def fS (N:Nat) (dY gP:Int) (eD:List (Int × Int × Int)) (xM xN:Int) (sV:List (Int × Int × Int)):Option (Int × Int × List (Int × Int × Int)):=
 (some ((eD.length:Int))).bind fun x2=>
 (mk 24 x2 ((0,0,0):Int × Int × Int)).bind fun l2=>
 fV N dY eD xM xN sV (fun (oF,i2)=>
 some (dY,gP,oF)) N (l2,0)
def AQ (N:Nat) (x2 y wH zQ:Int) (yK:List (Int × Int × Int)):Option Int:=
 some (IntKind.i64.wrap ((IntKind.i64.wrap ((IntKind.i64.wrap ((IntKind.i64.wrap (zQ-1))-y))*wH))+x2))
def fW (N:Nat) (dY:Int) (eD:List (Int × Int × Int)) (xO xP:Int) (sW:List (Int × Int × Int)) (kk:(List (Int × Int × Int) × Int)→Option (Int × Int × List (Int × Int × Int))):Nat→(List (Int × Int × Int) × Int)→Option (Int × Int × List (Int × Int × Int))
 | 0,_=>none
 | fuel+1,(dA,i)=>
  cond (decide (i<(eD.length:Int))) (
  (idx eD i).bind fun e3=>
  (nz dY).bind fun _=>
  (nz dY).bind fun _=>
  (AQ N (Int.tmod i dY) (IntKind.i64.wrap (Int.tdiv i dY)) xO xP sW).bind fun r3=>
  (idx dA r3).bind fun e4=>
  (vU dA r3 (e3.1,e3.2.1,e3.2.2)).bind fun l4=>
  fW N dY eD xO xP sW kk fuel (l4,IntKind.i64.wrap (i+1))) (
  kk (dA,i))
def dZ (N:Nat) (dY gP:Int) (eD:List (Int × Int × Int)) (xO xP:Int) (sW:List (Int × Int × Int)):Option (Int × Int × List (Int × Int × Int)):=
 (some ((eD.length:Int))).bind fun x2=>
 (mk 24 x2 ((0,0,0):Int × Int × Int)).bind fun l2=>
 fW N dY eD xO xP sW (fun (oF,i2)=>
 some (dY,gP,oF)) N (l2,0)
def AR (N:Nat) (x2 y wH zQ:Int) (yK:List (Int × Int × Int)):Option Int:=
 some (IntKind.i64.wrap ((IntKind.i64.wrap (y*wH))+x2))
def fX (N:Nat) (dY:Int) (eD:List (Int × Int × Int)) (xQ xR:Int) (sX:List (Int × Int × Int)) (kk:(List (Int × Int × Int) × Int)→Option (Int × Int × List (Int × Int × Int))):Nat→(List (Int × Int × Int) × Int)→Option (Int × Int × List (Int × Int × Int))
 | 0,_=>none
 | fuel+1,(dA,i)=>
  cond (decide (i<(eD.length:Int))) (
  (idx eD i).bind fun e3=>
  (nz dY).bind fun _=>
  (nz dY).bind fun _=>
  (AR N (Int.tmod i dY) (IntKind.i64.wrap (Int.tdiv i dY)) xQ xR sX).bind fun r3=>
  (idx dA r3).bind fun e4=>
  (vU dA r3 (e3.1,e3.2.1,e3.2.2)).bind fun l4=>
  fX N dY eD xQ xR sX kk fuel (l4,IntKind.i64.wrap (i+1))) (
  kk (dA,i))
def bX (N:Nat) (dY gP:Int) (eD:List (Int × Int × Int)) (xQ xR:Int) (sX:List (Int × Int × Int)):Option (Int × Int × List (Int × Int × Int)):=
 (some ((eD.length:Int))).bind fun x2=>
 (mk 24 x2 ((0,0,0):Int × Int × Int)).bind fun l2=>
 fX N dY eD xQ xR sX (fun (oF,i2)=>
 some (dY,gP,oF)) N (l2,0)
def mK (N:Nat) (dY gP:Int) (eD:List (Int × Int × Int)) (how:Int):Option (Int × Int × List (Int × Int × Int) × Int):=
 (lC N dY gP eD 0).bind fun r2=>
 cond (!decide (r2.2.2.2=0)) (
 some (0,0,([]:List (Int × Int × Int)),r2.2.2.2)) (
 cond (decide (how<1)) (
 some (0,0,([]:List (Int × Int × Int)),3)) (
 cond (decide (8<how)) (
 some (0,0,([]:List (Int × Int × Int)),3)) (
 (Et N ).bind fun r3=>
 (idx [(r3.1,r3.2.1,r3.2.2.1),(r3.2.2.2.1,r3.2.2.2.2.1,r3.2.2.2.2.2.1),(r3.2.2.2.2.2.2.1,r3.2.2.2.2.2.2.2.1,r3.2.2.2.2.2.2.2.2.1),(r3.2.2.2.2.2.2.2.2.2.1,r3.2.2.2.2.2.2.2.2.2.2.1,r3.2.2.2.2.2.2.2.2.2.2.2.1),(r3.2.2.2.2.2.2.2.2.2.2.2.2.1,r3.2.2.2.2.2.2.2.2.2.2.2.2.2.1,r3.2.2.2.2.2.2.2.2.2.2.2.2.2.2.1),(r3.2.2.2.2.2.2.2.2.2.2.2.2.2.2.2.1,r3.2.2.2.2.2.2.2.2.2.2.2.2.2.2.2.2.1,r3.2.2.2.2.2.2.2.2.2.2.2.2.2.2.2.2.2.1),(r3.2.2.2.2.2.2.2.2.2.2.2.2.2.2.2.2.2.2.1,r3.2.2.2.2.2.2.2.2.2.2.2.2.2.2.2.2.2.2.2.1,r3.2.2.2.2.2.2.2.2.2.2.2.2.2.2.2.2.2.2.2.2.1),(r3.2.2.2.2.2.2.2.2.2.2.2.2.2.2.2.2.2.2.2.2.2.1,r3.2.2.2.2.2.2.2.2.2.2.2.2.2.2.2.2.2.2.2.2.2.2.1,r3.2.2.2.2.2.2.2.2.2.2.2.2.2.2.2.2.2.2.2.2.2.2.2.1),(r3.2.2.2.2.2.2.2.2.2.2.2.2.2.2.2.2.2.2.2.2.2.2.2.2.1,r3.2.2.2.2.2.2.2.2.2.2.2.2.2.2.2.2.2.2.2.2.2.2.2.2.2.1,r3.2.2.2.2.2.2.2.2.2.2.2.2.2.2.2.2.2.2.2.2.2.2.2.2.2.2)] how).bind fun e=>
 cond (e.1) (
 (pV N dY gP eD).bind fun r4=>
 cond (e.2.1) (
 (fS N r4.1 r4.2.1 r4.2.2 r4.1 r4.2.1 r4.2.2).bind fun r5=>
 cond (e.2.2) (
 (dZ N r5.1 r5.2.1 r5.2.2 r5.1 r5.2.1 r5.2.2).bind fun r6=>
 (bX N r6.1 r6.2.1 r6.2.2 r6.1 r6.2.1 r6.2.2).bind fun r7=>
 some (r7.1,r7.2.1,r7.2.2,0)) (
 (bX N r5.1 r5.2.1 r5.2.2 r5.1 r5.2.1 r5.2.2).bind fun r8=>
 some (r8.1,r8.2.1,r8.2.2,0))) (
 cond (e.2.2) (
 (dZ N r4.1 r4.2.1 r4.2.2 r4.1 r4.2.1 r4.2.2).bind fun r9=>
 (bX N r9.1 r9.2.1 r9.2.2 r9.1 r9.2.1 r9.2.2).bind fun IC=>
 some (IC.1,IC.2.1,IC.2.2,0)) (
 (bX N r4.1 r4.2.1 r4.2.2 r4.1 r4.2.1 r4.2.2).bind fun Gd=>
 some (Gd.1,Gd.2.1,Gd.2.2,0)))) (
 cond (e.2.1) (
 (fS N dY gP eD dY gP eD).bind fun wM=>
 cond (e.2.2) (
 (dZ N wM.1 wM.2.1 wM.2.2 wM.1 wM.2.1 wM.2.2).bind fun Dt=>
 (bX N Dt.1 Dt.2.1 Dt.2.2 Dt.1 Dt.2.1 Dt.2.2).bind fun Nb=>
 some (Nb.1,Nb.2.1,Nb.2.2,0)) (
 (bX N wM.1 wM.2.1 wM.2.2 wM.1 wM.2.1 wM.2.2).bind fun Gc=>
 some (Gc.1,Gc.2.1,Gc.2.2,0))) (
 cond (e.2.2) (
 (dZ N dY gP eD dY gP eD).bind fun r16=>
 (bX N r16.1 r16.2.1 r16.2.2 r16.1 r16.2.1 r16.2.2).bind fun Ge=>
 some (Ge.1,Ge.2.1,Ge.2.2,0)) (
 (bX N dY gP eD dY gP eD).bind fun Es=>
 some (Es.1,Es.2.1,Es.2.2,0)))))))
def lL (N:Nat) (o:Bool) (e3:Int × Int × Int) (kk:(List UInt8 × Int)→Option (List UInt8 × Int)):Nat→(List UInt8 × Int)→Option (List UInt8 × Int)
 | 0,_=>none
 | fuel+1,(l4,i3)=>
  cond (decide (i3<3)) (
  (idx [e3.1,e3.2.1,e3.2.2] i3).bind fun e5=>
  (YE l4 (IntKind.u8.wrap (iB .i64 e5 8))).bind fun b6=>
  cond (o) (
  (YE b6 (IntKind.u8.wrap e5)).bind fun b7=>
  lL N o e3 kk fuel (b7,IntKind.i64.wrap (i3+1))) (
  lL N o e3 kk fuel (b6,IntKind.i64.wrap (i3+1)))) (
  kk (l4,i3))
def qN (N:Nat) (kT:List (Int × Int × Int)) (o:Bool) (kk:(List UInt8 × Int)→Option (List UInt8 × Int)):Nat→(List UInt8 × Int)→Option (List UInt8 × Int)
 | 0,_=>none
 | fuel+1,(l2,i)=>
  cond (decide (i<(kT.length:Int))) (
  (idx kT i).bind fun e3=>
  lL N o e3 (fun (l5,i4)=>
  qN N kT o kk fuel (l5,IntKind.i64.wrap (i+1))) N (l2,0)) (
  kk (l2,i))
def lM (N:Nat) (o:Bool) (e8:Int × Int × Int) (kk:(List UInt8 × Int)→Option (List UInt8 × Int)):Nat→(List UInt8 × Int)→Option (List UInt8 × Int)
 | 0,_=>none
 | fuel+1,(l9,i8)=>
  cond (decide (i8<3)) (
  (idx [e8.1,e8.2.1,e8.2.2] i8).bind fun e10=>
  (YE l9 (IntKind.u8.wrap (iB .i64 e10 8))).bind fun b13=>
  cond (o) (
  (YE b13 (IntKind.u8.wrap e10)).bind fun b14=>
  lM N o e8 kk fuel (b14,IntKind.i64.wrap (i8+1))) (
  lM N o e8 kk fuel (b13,IntKind.i64.wrap (i8+1)))) (
  kk (l9,i8))
def qO (N:Nat) (kT:List (Int × Int × Int)) (o:Bool) (kk:(List UInt8 × Int)→Option (List UInt8 × Int)):Nat→(List UInt8 × Int)→Option (List UInt8 × Int)
 | 0,_=>none
 | fuel+1,(l7,i6)=>
  cond (decide (i6<(kT.length:Int))) (
  (idx kT i6).bind fun e8=>
  lM N o e8 (fun (l10,i9)=>
  qO N kT o kk fuel (l10,IntKind.i64.wrap (i6+1))) N (l7,0)) (
  kk (l7,i6))
def gM (N:Nat) (jD mO:Int) (kT:List (Int × Int × Int)) (o:Bool):Option (List UInt8 × Int):=
 (lC N jD mO kT 0).bind fun r2=>
 cond (!decide (r2.2.2.2=0)) (
 some (([]:List UInt8),r2.2.2.2)) (
 cond (o) (
 (iV N jD).bind fun r3=>
 (Ds ([80,54,10]:List UInt8) r3).bind fun s=>
 (Ds s ([32]:List UInt8)).bind fun s2=>
 (iV N mO).bind fun r4=>
 (Ds s2 r4).bind fun s3=>
 (Ds s3 ([10]:List UInt8)).bind fun s4=>
 (iV N 65535).bind fun r5=>
 (Ds s4 r5).bind fun s5=>
 (Ds s5 ([10]:List UInt8)).bind fun s6=>
 (Ob ([]:List UInt8) s6).bind fun b=>
 qN N kT o (fun (l6,i5)=>
 some (l6,0)) N (b,0)) (
 (iV N jD).bind fun r6=>
 (Ds ([80,54,10]:List UInt8) r6).bind fun s7=>
 (Ds s7 ([32]:List UInt8)).bind fun s8=>
 (iV N mO).bind fun r7=>
 (Ds s8 r7).bind fun s9=>
 (Ds s9 ([10]:List UInt8)).bind fun s10=>
 (iV N 255).bind fun r8=>
 (Ds s10 r8).bind fun s11=>
 (Ds s11 ([10]:List UInt8)).bind fun s12=>
 (Ob ([]:List UInt8) s12).bind fun b8=>
 qO N kT o (fun (Sd,Fp)=>
 some (Sd,0)) N (b8,0)))
def mD (N:Nat) (d:List UInt8) (CZ y7 y8 y9 zA BB:Int) (vW:Bool):Option (List UInt8 × Int):=
 (sT N d).bind fun r2=>
 cond (!decide (r2.2.2.2.2.2.2.2.2.2.2.2.2.2.2.2.2.2.2.2.2.2.2.2.2.2.2.2.2=0)) (
 some (([]:List UInt8),r2.2.2.2.2.2.2.2.2.2.2.2.2.2.2.2.2.2.2.2.2.2.2.2.2.2.2.2.2)) (
 (yC N r2.1 r2.2.1 r2.2.2.1 r2.2.2.2.1 r2.2.2.2.2.1 r2.2.2.2.2.2.1 r2.2.2.2.2.2.2.1 r2.2.2.2.2.2.2.2.1 r2.2.2.2.2.2.2.2.2.1 r2.2.2.2.2.2.2.2.2.2.1 r2.2.2.2.2.2.2.2.2.2.2.1 r2.2.2.2.2.2.2.2.2.2.2.2.1 r2.2.2.2.2.2.2.2.2.2.2.2.2.1 r2.2.2.2.2.2.2.2.2.2.2.2.2.2.1 r2.2.2.2.2.2.2.2.2.2.2.2.2.2.2.1 r2.2.2.2.2.2.2.2.2.2.2.2.2.2.2.2.1 r2.2.2.2.2.2.2.2.2.2.2.2.2.2.2.2.2.1 r2.2.2.2.2.2.2.2.2.2.2.2.2.2.2.2.2.2.1 r2.2.2.2.2.2.2.2.2.2.2.2.2.2.2.2.2.2.2.1 r2.2.2.2.2.2.2.2.2.2.2.2.2.2.2.2.2.2.2.2.1 r2.2.2.2.2.2.2.2.2.2.2.2.2.2.2.2.2.2.2.2.2.1 r2.2.2.2.2.2.2.2.2.2.2.2.2.2.2.2.2.2.2.2.2.2.1 r2.2.2.2.2.2.2.2.2.2.2.2.2.2.2.2.2.2.2.2.2.2.2.1 r2.2.2.2.2.2.2.2.2.2.2.2.2.2.2.2.2.2.2.2.2.2.2.2.1 r2.2.2.2.2.2.2.2.2.2.2.2.2.2.2.2.2.2.2.2.2.2.2.2.2.1 r2.2.2.2.2.2.2.2.2.2.2.2.2.2.2.2.2.2.2.2.2.2.2.2.2.2.1 r2.2.2.2.2.2.2.2.2.2.2.2.2.2.2.2.2.2.2.2.2.2.2.2.2.2.2.1 r2.2.2.2.2.2.2.2.2.2.2.2.2.2.2.2.2.2.2.2.2.2.2.2.2.2.2.2.1).bind fun r3=>
 (wO N r2.2.2.2.2.2.2.2.1 r2.2.2.2.2.2.2.2.2.1 r2.2.2.2.2.2.2.2.2.2.1 r2.2.2.2.2.2.2.2.2.2.2.1 r2.2.2.2.2.2.2.2.2.2.2.2.1 r2.2.2.2.2.2.2.2.2.2.2.2.2.1 r2.2.2.2.2.2.2.2.2.2.2.2.2.2.1 r2.2.2.2.2.2.2.2.2.2.2.2.2.2.2.1 r2.2.2.2.2.2.2.2.2.2.2.2.2.2.2.2.1 r2.2.2.2.2.2.2.2.2.2.2.2.2.2.2.2.2.1 r2.2.2.2.2.2.2.2.2.2.2.2.2.2.2.2.2.2.1 r2.2.2.2.2.2.2.2.2.2.2.2.2.2.2.2.2.2.2.1 r2.2.2.2.2.2.2.2.2.2.2.2.2.2.2.2.2.2.2.2.1 r2.2.2.2.2.2.2.2.2.2.2.2.2.2.2.2.2.2.2.2.2.1 r2.2.2.2.2.2.2.2.2.2.2.2.2.2.2.2.2.2.2.2.2.2.1 r2.2.2.2.2.2.2.2.2.2.2.2.2.2.2.2.2.2.2.2.2.2.2.1 r2.2.2.2.2.2.2.2.2.2.2.2.2.2.2.2.2.2.2.2.2.2.2.2.1 r2.2.2.2.2.2.2.2.2.2.2.2.2.2.2.2.2.2.2.2.2.2.2.2.2.1 r2.2.2.2.2.2.2.2.2.2.2.2.2.2.2.2.2.2.2.2.2.2.2.2.2.2.1 r2.2.2.2.2.2.2.2.2.2.2.2.2.2.2.2.2.2.2.2.2.2.2.2.2.2.2.1 r2.2.2.2.2.2.2.2.2.2.2.2.2.2.2.2.2.2.2.2.2.2.2.2.2.2.2.2.1 r3.1 r3.2.1 r3.2.2.1 CZ).bind fun r4=>
 cond (decide (r4.2.2.2=0)) (
 cond (!(decide (y7=0)&&decide (y8=0)&&decide (y9=0)&&decide (zA=0))) (
 (xL N r4.1 r4.2.1 r4.2.2.1 y7 y8 y9 zA).bind fun r5=>
 cond (decide (r5.2.2.2=0)) (
 (mK N r5.1 r5.2.1 r5.2.2.1 BB).bind fun r6=>
 cond (!decide (r6.2.2.2=0)) (
 some (([]:List UInt8),r6.2.2.2)) (
 (gM N r6.1 r6.2.1 r6.2.2.1 vW).bind fun r7=>
 some (r7.1,r7.2))) (
 cond (!decide (r5.2.2.2=0)) (
 some (([]:List UInt8),r5.2.2.2)) (
 (gM N r5.1 r5.2.1 r5.2.2.1 vW).bind fun r8=>
 some (r8.1,r8.2)))) (
 cond (decide (r4.2.2.2=0)) (
 (mK N r4.1 r4.2.1 r4.2.2.1 BB).bind fun r9=>
 cond (!decide (r9.2.2.2=0)) (
 some (([]:List UInt8),r9.2.2.2)) (
 (gM N r9.1 r9.2.1 r9.2.2.1 vW).bind fun IC=>
 some (IC.1,IC.2))) (
 cond (!decide (r4.2.2.2=0)) (
 some (([]:List UInt8),r4.2.2.2)) (
 (gM N r4.1 r4.2.1 r4.2.2.1 vW).bind fun Gd=>
 some (Gd.1,Gd.2))))) (
 cond (decide (r4.2.2.2=0)) (
 (mK N r4.1 r4.2.1 r4.2.2.1 BB).bind fun wM=>
 cond (!decide (wM.2.2.2=0)) (
 some (([]:List UInt8),wM.2.2.2)) (
 (gM N wM.1 wM.2.1 wM.2.2.1 vW).bind fun Dt=>
 some (Dt.1,Dt.2))) (
 cond (!decide (r4.2.2.2=0)) (
 some (([]:List UInt8),r4.2.2.2)) (
 (gM N r4.1 r4.2.1 r4.2.2.1 vW).bind fun Nb=>
 some (Nb.1,Nb.2)))))
def jX (N:Nat) (s qU:List UInt8):Option Bool:=
 cond (decide ((qU.length:Int)≤(s.length:Int))) (
 (DZ s 0 (qU.length:Int)).bind fun s2=>
 some (decide (s2=qU))) (
 some false)
def jY (N:Nat) (s qU:List UInt8):Option (List UInt8 × Bool):=
 (jX N s qU).bind fun r2=>
 cond (!(r2)) (
 some (s,false)) (
 (DZ s (qU.length:Int) (s.length:Int)).bind fun s2=>
 some (s2,true))
def oW (N:Nat) (s qU:List UInt8):Option (List UInt8 × Bool):=
 (jY N s qU).bind fun r2=>
 some (r2.1,r2.2)
def mE (N:Nat) (s sep:List UInt8):Option (List UInt8 × List UInt8 × Bool):=
 (lH N s sep).bind fun r2=>
 cond (decide (0≤r2)) (
 (DZ s 0 r2).bind fun s2=>
 (DZ s (IntKind.i64.wrap (r2+(sep.length:Int))) (s.length:Int)).bind fun s3=>
 some (s2,s3,true)) (
 some (s,([]:List UInt8),false))
def wP (N:Nat) (s sep:List UInt8):Option (List UInt8 × List UInt8 × Bool):=
 (mE N s sep).bind fun r2=>
 some (r2.1,r2.2.1,r2.2.2)
def rM (N:Nat) (s mark:List UInt8):Option (Int × List UInt8 × Bool):=
 (wP N s mark).bind fun r2=>
 Sc r2.1 (fun n=>
 cond (r2.2.2) (
 (iV N n).bind fun r3=>
 some (n,r2.2.1,decide (r3=r2.1))) (
 some (n,r2.2.1,false))) (fun n=>
 cond (r2.2.2) (
 some (n,r2.2.1,false)) (
 some (n,r2.2.1,false)))
def C0 (N:Nat) (i:Bool) (r4:Int × List UInt8 × Bool) (BC:Bool→Option (Int × Int × List (Int × Int × Int) × Bool × Int)):Option (Int × Int × List (Int × Int × Int) × Bool × Int):=
  cond (i) (
  BC r4.2.2) (
  BC false)
def C1 (N:Nat) (i:Bool) (r4:Int × List UInt8 × Bool) (BD:Bool→Option (Int × Int × List (Int × Int × Int) × Bool × Int)):Option (Int × Int × List (Int × Int × Int) × Bool × Int):=
  cond (i) (
  BD r4.2.2) (
  BD false)
def C2 (N:Nat) (i:Bool) (r4:Int × List UInt8 × Bool) (BE:Bool→Option (Int × Int × List (Int × Int × Int) × Bool × Int)):Option (Int × Int × List (Int × Int × Int) × Bool × Int):=
  cond (i) (
  BE r4.2.2) (
  BE false)
def sH (N:Nat) (Nc F1 x6:Int) (kk:(List (Int × Int × Int) × List UInt8 × Int)→Option (Int × Int × List (Int × Int × Int) × Bool × Int)):Nat→(List (Int × Int × Int) × List UInt8 × Int)→Option (Int × Int × List (Int × Int × Int) × Bool × Int)
 | 0,_=>none
 | fuel+1,(BP,x7,i19)=>
  cond (decide (i19<(IntKind.i64.wrap (Nc*F1)))) (
  (idx x7 0).bind fun b7=>
  (idx x7 (IntKind.i64.wrap (x6-1))).bind fun b8=>
  (DZ x7 x6 (x7.length:Int)).bind fun s4=>
  (idx s4 0).bind fun b9=>
  (idx s4 (IntKind.i64.wrap (x6-1))).bind fun b10=>
  (DZ s4 x6 (s4.length:Int)).bind fun s5=>
  (idx s5 0).bind fun b11=>
  (idx s5 (IntKind.i64.wrap (x6-1))).bind fun b12=>
  (DZ s5 x6 (s5.length:Int)).bind fun s6=>
  (app 24 BP (([(Fc .i64 (mN .i64 (IntKind.i64.wrap (b7.toNat:Int)) 8) (IntKind.i64.wrap (b8.toNat:Int)),Fc .i64 (mN .i64 (IntKind.i64.wrap (b9.toNat:Int)) 8) (IntKind.i64.wrap (b10.toNat:Int)),Fc .i64 (mN .i64 (IntKind.i64.wrap (b11.toNat:Int)) 8) (IntKind.i64.wrap (b12.toNat:Int)))]:List (Int × Int × Int)))).bind fun vL=>
  sH N Nc F1 x6 kk fuel (vL,s6,IntKind.i64.wrap (i19+1))) (
  kk (BP,x7,i19))
def zB (N:Nat) (Jw:Int) (BF:Int→Option (Int × Int × List (Int × Int × Int) × Bool × Int)):Option (Int × Int × List (Int × Int × Int) × Bool × Int):=
  cond (decide (Jw=65535)) (
  BF 2) (
  BF 1)
def zC (N:Nat) (Nc F1 Jw:Int) (i15:Bool) (mL:Bool→Option (Int × Int × List (Int × Int × Int) × Bool × Int)):Option (Int × Int × List (Int × Int × Int) × Bool × Int):=
  cond (!(i15)) (
  mL true) (
  cond (decide (Nc<1)) (
  mL true) (
  cond (decide (64<Nc)) (
  mL true) (
  cond (decide (F1<1)) (
  mL true) (
  cond (decide (64<F1)) (
  mL true) (
  cond (!decide (Jw=65535)) (
  mL (!decide (Jw=255))) (
  mL false))))))
def mF (N:Nat)  (kk:(Int × Int × Int × List UInt8 × Bool × Int)→Option (Int × Int × List (Int × Int × Int) × Bool × Int)):Nat→(Int × Int × Int × List UInt8 × Bool × Int)→Option (Int × Int × List (Int × Int × Int) × Bool × Int)
 | 0,_=>none
 | fuel+1,(x0,x1,x2,x3,i,i2)=>
  cond (decide (i2<3)) (
  (idx [([32]:List UInt8),([10]:List UInt8),([10]:List UInt8)] i2).bind fun e2=>
  (rM N x3 e2).bind fun r4=>
  cond (decide (i2=0)) (
  C0 N i r4 (fun Fp=>
  cond (!(Fp)) (
  kk (r4.1,x1,x2,r4.2.1,Fp,i2)) (
  mF N  kk fuel (r4.1,x1,x2,r4.2.1,Fp,IntKind.i64.wrap (i2+1))))) (
  cond (decide (i2=1)) (
  C1 N i r4 (fun i12=>
  cond (!(i12)) (
  kk (x0,r4.1,x2,r4.2.1,i12,i2)) (
  mF N  kk fuel (x0,r4.1,x2,r4.2.1,i12,IntKind.i64.wrap (i2+1))))) (
  cond (decide (i2=2)) (
  C2 N i r4 (fun UO=>
  cond (!(UO)) (
  kk (x0,x1,r4.1,r4.2.1,UO,i2)) (
  mF N  kk fuel (x0,x1,r4.1,r4.2.1,UO,IntKind.i64.wrap (i2+1))))) (
  none)))) (
  kk (x0,x1,x2,x3,i,i2))
def oG (N:Nat) (d:List UInt8):Option (Int × Int × List (Int × Int × Int) × Bool × Int):=
 (oW N d ([80,54,10]:List UInt8)).bind fun r2=>
 mF N  (fun (Nc,F1,Jw,x4,i15,i16)=>
 zC N Nc F1 Jw i15 (fun i18=>
 cond (i18) (
 some (0,0,([]:List (Int × Int × Int)),false,1)) (
 zB N Jw (fun x6=>
 cond (!decide ((x4.length:Int)=(IntKind.i64.wrap ((IntKind.i64.wrap ((IntKind.i64.wrap (3*x6))*Nc))*F1)))) (
 some (0,0,([]:List (Int × Int × Int)),false,1)) (
 sH N Nc F1 x6 (fun (DM,x8,i20)=>
 some (Nc,F1,DM,decide (Jw=65535),0)) N (([]:List (Int × Int × Int)),x4,0)))))) N (0,0,0,r2.1,r2.2,0)
def xS (N:Nat)  : Option (List Int):=
 some (([2,3,3,4,4,4,5,5,5,6,6,6,7,7,7,8,8]:List Int))
def uY (N:Nat)  : Option (List (Int × Int)):=
 some (([(0,0),(65535,65535)]:List (Int × Int)))
def uZ (N:Nat)  : Option (Int × Int × Int × Int × Int × Int × List (Int × Int) × Int × Int × Int × Int × Int × Int × Int × Int × Int × Int × Int × Int × List (Int × Int) × Int):=
 (uY N ).bind fun r2=>
 some (0,0,0,0,0,65535,([]:List (Int × Int)),256,256,256,4096,0,0,0,4096,0,0,0,4096,r2,64)
def u0 (N:Nat)  : Option (Int × Int × List Int):=
 some (2,2,([10,65535,0,7]:List Int))
def sI (N:Nat) (s:List Int):Option (List Int):=
 (app 8 ([]:List Int) s).bind fun l2=>
 some l2
def lX (N:Nat) (s:List (Int × Int)):Option (List (Int × Int)):=
 (app 16 (([]:List (Int × Int))) s).bind fun l2=>
 some l2
def lD (N:Nat) (s:List (Int × Int)):Option (List (Int × Int)):=
 (app 16 (([]:List (Int × Int))) s).bind fun l2=>
 some l2
def C3 (N:Nat) (x6:Int) (kk:(List Int × Int)→Option (List UInt8 × Int)):Nat→(List Int × Int)→Option (List UInt8 × Int)
 | 0,_=>none
 | fuel+1,(l5,i5)=>
  cond (decide (8≤i5)) (
  (some (IntKind.i64.wrap (i5-8))).bind fun x9=>
  (nn x9).bind fun _=>
  (app 1 l5 (([IntKind.u8.wrap (iB .i64 x6 x9)]:List Int))).bind fun l7=>
  C3 N x6 kk fuel (l7,x9)) (
  kk (l5,i5))
def C4 (N:Nat) (d:List Int) (o:Int) (kk:(List Int × Int × Int × Int)→Option (List UInt8 × Int)):Nat→(List Int × Int × Int × Int)→Option (List UInt8 × Int)
 | 0,_=>none
 | fuel+1,(l2,i,i2,i3)=>
  cond (decide (i3<(d.length:Int))) (
  (idx d i3).bind fun e2=>
  cond (decide (e2<0)) (
  some (([]:List UInt8),3)) (
  (nn o).bind fun _=>
  cond (decide ((mN .i64 1 o)≤e2)) (
  some (([]:List UInt8),3)) (
  (nn o).bind fun _=>
  (some (Fc .i64 (mN .i64 i o) e2)).bind fun x6=>
  (some (IntKind.i64.wrap (i2+o))).bind fun x7=>
  C3 N x6 (fun (l8,i6)=>
  (nn i6).bind fun _=>
  (some (zP .i64 x6 (IntKind.i64.wrap ((mN .i64 1 i6)-1)))).bind fun x10=>
  C4 N d o kk fuel (l8,x10,i6,IntKind.i64.wrap (i3+1))) N (l2,x7)))) (
  kk (l2,i,i2,i3))
def Fr (N:Nat) (d:List Int) (o:Int):Option (List UInt8 × Int):=
 (tN N o).bind fun r2=>
 cond (!(r2)) (
 some (([]:List UInt8),3)) (
 cond (decide (4096<(d.length:Int))) (
 some (([]:List UInt8),2)) (
 (mok 1 (IntKind.i64.wrap (Int.tdiv (IntKind.i64.wrap ((IntKind.i64.wrap ((d.length:Int)*o))+7)) 8))).bind fun _=>
 C4 N d o (fun (l9,i7,i8,i9)=>
 cond (decide (0<i8)) (
 (nn (IntKind.i64.wrap (8-i8))).bind fun _=>
 (app 1 l9 (([IntKind.u8.wrap (mN .i64 i7 (IntKind.i64.wrap (8-i8)))]:List Int))).bind fun l10=>
 some (toB l10,0)) (
 some (toB l9,0))) N (([]:List Int),0,0,0)))
def C5 (N:Nat) (hG:List Int) (kk:Int→Option Bool):Nat→Int→Option Bool
 | 0,_=>none
 | fuel+1,i=>
  cond (decide (i<(hG.length:Int))) (
  (idx hG i).bind fun e2=>
  cond (decide (e2<0)) (
  some false) (
  cond (decide (65535<e2)) (
  some false) (
  C5 N hG kk fuel (IntKind.i64.wrap (i+1))))) (
  kk i)
def Fs (N:Nat) (jJ kV:Int) (hG:List Int):Option Bool:=
 cond (decide (jJ<1)) (
 some false) (
 cond (decide (64<jJ)) (
 some false) (
 cond (decide (kV<1)) (
 some false) (
 cond (decide (64<kV)) (
 some false) (
 cond (!decide ((hG.length:Int)=(IntKind.i64.wrap (jJ*kV)))) (
 some false) (
 C5 N hG (fun i2=>
 some true) N 0)))))
def zD (N:Nat) (x2:Int):Option Int:=
 cond (decide (4294967296≤x2)) (
 (some (iB .u64 x2 32)).bind fun x3=>
 cond (decide (65536≤x3)) (
 (some (iB .u64 x3 16)).bind fun x4=>
 (some (IntKind.i64.wrap (32+16))).bind fun n=>
 cond (decide (256≤x4)) (
 (some (iB .u64 x4 8)).bind fun x5=>
 (some (IntKind.i64.wrap (n+8))).bind fun n2=>
 (idx Ok (IntKind.u8.wrap x5)).bind fun b=>
 (some (IntKind.i64.wrap (n2+(IntKind.i64.wrap (b.toNat:Int))))).bind fun n3=>
 some n3) (
 (idx Ok (IntKind.u8.wrap x4)).bind fun b2=>
 (some (IntKind.i64.wrap (n+(IntKind.i64.wrap (b2.toNat:Int))))).bind fun n4=>
 some n4)) (
 cond (decide (256≤x3)) (
 (some (iB .u64 x3 8)).bind fun x6=>
 (some (IntKind.i64.wrap (32+8))).bind fun n5=>
 (idx Ok (IntKind.u8.wrap x6)).bind fun b3=>
 (some (IntKind.i64.wrap (n5+(IntKind.i64.wrap (b3.toNat:Int))))).bind fun n6=>
 some n6) (
 (idx Ok (IntKind.u8.wrap x3)).bind fun b4=>
 (some (IntKind.i64.wrap (32+(IntKind.i64.wrap (b4.toNat:Int))))).bind fun n7=>
 some n7))) (
 cond (decide (65536≤x2)) (
 (some (iB .u64 x2 16)).bind fun x7=>
 (some (IntKind.i64.wrap (0+16))).bind fun n8=>
 cond (decide (256≤x7)) (
 (some (iB .u64 x7 8)).bind fun x8=>
 (some (IntKind.i64.wrap (n8+8))).bind fun n9=>
 (idx Ok (IntKind.u8.wrap x8)).bind fun b5=>
 (some (IntKind.i64.wrap (n9+(IntKind.i64.wrap (b5.toNat:Int))))).bind fun n10=>
 some n10) (
 (idx Ok (IntKind.u8.wrap x7)).bind fun b6=>
 (some (IntKind.i64.wrap (n8+(IntKind.i64.wrap (b6.toNat:Int))))).bind fun n11=>
 some n11)) (
 cond (decide (256≤x2)) (
 (some (iB .u64 x2 8)).bind fun x9=>
 (some (IntKind.i64.wrap (0+8))).bind fun n12=>
 (idx Ok (IntKind.u8.wrap x9)).bind fun b7=>
 (some (IntKind.i64.wrap (n12+(IntKind.i64.wrap (b7.toNat:Int))))).bind fun n13=>
 some n13) (
 (idx Ok (IntKind.u8.wrap x2)).bind fun b8=>
 (some (IntKind.i64.wrap (0+(IntKind.i64.wrap (b8.toNat:Int))))).bind fun n14=>
 some n14)))
def w6 (N:Nat) (x2:Int):Option Int:=
 (zD N x2).bind fun r2=>
 some r2
def kK (N:Nat) (jD mO:Int) (kT:List Int) (o:Int) (r3:List (List UInt8) × Int) (kk:(List UInt8 × Int)→Option (List UInt8 × Int)):Nat→(List UInt8 × Int)→Option (List UInt8 × Int)
 | 0,_=>none
 | fuel+1,(l2,i)=>
  cond (decide (i<(kT.length:Int))) (
  (idx kT i).bind fun e6=>
  (nY N jD mO kT o i).bind fun Gd=>
  (some (IntKind.i64.wrap (IntKind.u16.wrap (IntKind.i64.wrap (e6-Gd))))).bind fun x6=>
  cond (decide (32768<x6)) (
  (some (IntKind.i64.wrap (x6-65536))).bind fun x7=>
  (w6 N (IntKind.u64.wrap (max x7 (IntKind.i64.wrap (0-x7))))).bind fun wM=>
  cond (decide ((r3.1.length:Int)≤wM)) (
  some (([]:List UInt8),4)) (
  (idx r3.1 wM).bind fun e7=>
  cond (decide (e7=([]:List UInt8))) (
  some (([]:List UInt8),4)) (
  (idx r3.1 wM).bind fun e8=>
  (Ob l2 e8).bind fun b7=>
  cond (decide (0<wM)) (
  cond (decide (wM<16)) (
  cond (decide (x7<0)) (
  (nn wM).bind fun _=>
  (some (IntKind.i64.wrap (x7+(IntKind.i64.wrap ((mN .i64 1 wM)-1))))).bind fun x8=>
  (nX N x8 wM).bind fun Dt=>
  (Ob b7 Dt.1).bind fun b8=>
  kK N jD mO kT o r3 kk fuel (b8,IntKind.i64.wrap (i+1))) (
  (nX N x7 wM).bind fun Nb=>
  (Ob b7 Nb.1).bind fun b9=>
  kK N jD mO kT o r3 kk fuel (b9,IntKind.i64.wrap (i+1)))) (
  kK N jD mO kT o r3 kk fuel (b7,IntKind.i64.wrap (i+1)))) (
  kK N jD mO kT o r3 kk fuel (b7,IntKind.i64.wrap (i+1)))))) (
  (w6 N (IntKind.u64.wrap (max x6 (IntKind.i64.wrap (0-x6))))).bind fun Gc=>
  cond (decide ((r3.1.length:Int)≤Gc)) (
  some (([]:List UInt8),4)) (
  (idx r3.1 Gc).bind fun e9=>
  cond (decide (e9=([]:List UInt8))) (
  some (([]:List UInt8),4)) (
  (idx r3.1 Gc).bind fun e10=>
  (Ob l2 e10).bind fun b10=>
  cond (decide (0<Gc)) (
  cond (decide (Gc<16)) (
  cond (decide (x6<0)) (
  (nn Gc).bind fun _=>
  (some (IntKind.i64.wrap (x6+(IntKind.i64.wrap ((mN .i64 1 Gc)-1))))).bind fun x9=>
  (nX N x9 Gc).bind fun r16=>
  (Ob b10 r16.1).bind fun b11=>
  kK N jD mO kT o r3 kk fuel (b11,IntKind.i64.wrap (i+1))) (
  (nX N x6 Gc).bind fun Ge=>
  (Ob b10 Ge.1).bind fun b12=>
  kK N jD mO kT o r3 kk fuel (b12,IntKind.i64.wrap (i+1)))) (
  kK N jD mO kT o r3 kk fuel (b10,IntKind.i64.wrap (i+1)))) (
  kK N jD mO kT o r3 kk fuel (b10,IntKind.i64.wrap (i+1))))))) (
  kk (l2,i))
def Eu (N:Nat) (jD mO:Int) (kT:List Int) (o:Int) (p2:List Int):Option (List UInt8 × Int):=
 (Fs N jD mO kT).bind fun r2=>
 cond (!(r2)) (
 some (([]:List UInt8),1)) (
 cond (decide (o<1)) (
 some (([]:List UInt8),6)) (
 cond (decide (7<o)) (
 some (([]:List UInt8),6)) (
 (qT N p2).bind fun r3=>
 cond (!decide (r3.2=0)) (
 some (([]:List UInt8),r3.2)) (
 kK N jD mO kT o r3 (fun (l3,i2)=>
 (vK N l3).bind fun Es=>
 some (Es.1,0)) N (([]:List UInt8),0)))))
def AS (N:Nat) (gR jV:Int) (iQ:List Int) (vV:Int) (Fd:List Int) (r9:List (Int × Int)) (kk:(List (List UInt8) × Int)→Option (Int × Int × Int × Int × Int × List Int × List (List UInt8) × Int × Int × Int × Int × Int × Int × List (Int × Int) × Int × Int × Int × Int × Int × Int × Int × Int × Int × Int × Int × Int × List (Int × Int) × Int × Int)):Nat→(List (List UInt8) × Int)→Option (Int × Int × Int × Int × Int × List Int × List (List UInt8) × Int × Int × Int × Int × Int × Int × List (Int × Int) × Int × Int × Int × Int × Int × Int × Int × Int × Int × Int × Int × Int × List (Int × Int) × Int × Int)
 | 0,_=>none
 | fuel+1,(u3,i)=>
  cond (decide (i<(r9.length:Int))) (
  (idx r9 i).bind fun e2=>
  (DZ Fd (IntKind.i64.wrap (e2.1*vV)) (IntKind.i64.wrap ((IntKind.i64.wrap (e2.1+e2.2))*vV))).bind fun l3=>
  (Fr N l3 gR).bind fun wM=>
  cond (decide (0<jV)) (
  (Eu N vV e2.2 l3 jV iQ).bind fun Dt=>
  cond (!decide (Dt.2=0)) (
  some (0,0,0,0,0,([]:List Int),([]:List (List UInt8)),0,0,0,0,0,0,([]:List (Int × Int)),0,0,0,0,0,0,0,0,0,0,0,0,([]:List (Int × Int)),0,Dt.2)) (
  (app 16 u3 (([Dt.1]:List (List UInt8)))).bind fun IK=>
  AS N gR jV iQ vV Fd r9 kk fuel (IK,IntKind.i64.wrap (i+1)))) (
  cond (!decide (wM.2=0)) (
  some (0,0,0,0,0,([]:List Int),([]:List (List UInt8)),0,0,0,0,0,0,([]:List (Int × Int)),0,0,0,0,0,0,0,0,0,0,0,0,([]:List (Int × Int)),0,wM.2)) (
  (app 16 u3 (([wM.1]:List (List UInt8)))).bind fun IL=>
  AS N gR jV iQ vV Fd r9 kk fuel (IL,IntKind.i64.wrap (i+1))))) (
  kk (u3,i))
def GI (N:Nat) (jD mO gR jV lP:Int) (iQ:List Int) (dR:List (List UInt8)) (cW cM cO cP cQ cZ:Int) (aS:List (Int × Int)) (cR cU cV bM bN bO bP bQ bR bS bT bU:Int) (aT:List (Int × Int)) (bY vV Bm:Int) (Fd:List Int):Option (Int × Int × Int × Int × Int × List Int × List (List UInt8) × Int × Int × Int × Int × Int × Int × List (Int × Int) × Int × Int × Int × Int × Int × Int × Int × Int × Int × Int × Int × Int × List (Int × Int) × Int × Int):=
 (Am N jD mO gR jV lP iQ dR cW cM cO cP cQ cZ aS cR cU cV bM bN bO bP bQ bR bS bT bU aT bY).bind fun r2=>
 cond (!decide (r2=0)) (
 some (0,0,0,0,0,([]:List Int),([]:List (List UInt8)),0,0,0,0,0,0,([]:List (Int × Int)),0,0,0,0,0,0,0,0,0,0,0,0,([]:List (Int × Int)),0,r2)) (
 (An N jD mO gR jV lP iQ dR cW cM cO cP cQ cZ aS cR cU cV bM bN bO bP bQ bR bS bT bU aT bY).bind fun r3=>
 cond (!decide (r3=0)) (
 some (0,0,0,0,0,([]:List Int),([]:List (List UInt8)),0,0,0,0,0,0,([]:List (Int × Int)),0,0,0,0,0,0,0,0,0,0,0,0,([]:List (Int × Int)),0,r3)) (
 (fY N vV Bm Fd (([]:List (Int × Int)))).bind fun r4=>
 cond (!decide (r4.2.2.2=0)) (
 some (0,0,0,0,0,([]:List Int),([]:List (List UInt8)),0,0,0,0,0,0,([]:List (Int × Int)),0,0,0,0,0,0,0,0,0,0,0,0,([]:List (Int × Int)),0,1)) (
 cond (!decide (vV=jD)) (
 some (0,0,0,0,0,([]:List Int),([]:List (List UInt8)),0,0,0,0,0,0,([]:List (Int × Int)),0,0,0,0,0,0,0,0,0,0,0,0,([]:List (Int × Int)),0,1)) (
 cond (!decide (Bm=mO)) (
 some (0,0,0,0,0,([]:List Int),([]:List (List UInt8)),0,0,0,0,0,0,([]:List (Int × Int)),0,0,0,0,0,0,0,0,0,0,0,0,([]:List (Int × Int)),0,1)) (
 (k9 N Fd).bind fun r5=>
 (nn gR).bind fun _=>
 cond (decide (0<(iB .i64 r5 gR))) (
 some (0,0,0,0,0,([]:List Int),([]:List (List UInt8)),0,0,0,0,0,0,([]:List (Int × Int)),0,0,0,0,0,0,0,0,0,0,0,0,([]:List (Int × Int)),0,1)) (
 (sI N iQ).bind fun r6=>
 (lX N aS).bind fun r7=>
 (lD N aT).bind fun r8=>
 (yV N jD mO gR jV lP iQ dR cW cM cO cP cQ cZ aS cR cU cV bM bN bO bP bQ bR bS bT bU aT bY).bind fun r9=>
 AS N gR jV iQ vV Fd r9 (fun (Me,i2)=>
 some (jD,mO,gR,jV,lP,r6,Me,cW,cM,cO,cP,cQ,cZ,r7,cR,cU,cV,bM,bN,bO,bP,bQ,bR,bS,bT,bU,r8,bY,0)) N (([]:List (List UInt8)),0)))))))
def vX (N:Nat)  : Option (Int × Int × Int × Int × Int × List Int × List (List UInt8) × Int × Int × Int × Int × Int × Int × List (Int × Int) × Int × Int × Int × Int × Int × Int × Int × Int × Int × Int × Int × Int × List (Int × Int) × Int):=
 (xS N ).bind fun r2=>
 (uZ N ).bind fun r3=>
 (u0 N ).bind fun r4=>
 (GI N 2 2 16 7 1 r2 (([]:List (List UInt8))) r3.1 r3.2.1 r3.2.2.1 r3.2.2.2.1 r3.2.2.2.2.1 r3.2.2.2.2.2.1 r3.2.2.2.2.2.2.1 r3.2.2.2.2.2.2.2.1 r3.2.2.2.2.2.2.2.2.1 r3.2.2.2.2.2.2.2.2.2.1 r3.2.2.2.2.2.2.2.2.2.2.1 r3.2.2.2.2.2.2.2.2.2.2.2.1 r3.2.2.2.2.2.2.2.2.2.2.2.2.1 r3.2.2.2.2.2.2.2.2.2.2.2.2.2.1 r3.2.2.2.2.2.2.2.2.2.2.2.2.2.2.1 r3.2.2.2.2.2.2.2.2.2.2.2.2.2.2.2.1 r3.2.2.2.2.2.2.2.2.2.2.2.2.2.2.2.2.1 r3.2.2.2.2.2.2.2.2.2.2.2.2.2.2.2.2.2.1 r3.2.2.2.2.2.2.2.2.2.2.2.2.2.2.2.2.2.2.1 r3.2.2.2.2.2.2.2.2.2.2.2.2.2.2.2.2.2.2.2.1 r3.2.2.2.2.2.2.2.2.2.2.2.2.2.2.2.2.2.2.2.2 r4.1 r4.2.1 r4.2.2).bind fun r5=>
 some (r5.1,r5.2.1,r5.2.2.1,r5.2.2.2.1,r5.2.2.2.2.1,r5.2.2.2.2.2.1,r5.2.2.2.2.2.2.1,r5.2.2.2.2.2.2.2.1,r5.2.2.2.2.2.2.2.2.1,r5.2.2.2.2.2.2.2.2.2.1,r5.2.2.2.2.2.2.2.2.2.2.1,r5.2.2.2.2.2.2.2.2.2.2.2.1,r5.2.2.2.2.2.2.2.2.2.2.2.2.1,r5.2.2.2.2.2.2.2.2.2.2.2.2.2.1,r5.2.2.2.2.2.2.2.2.2.2.2.2.2.2.1,r5.2.2.2.2.2.2.2.2.2.2.2.2.2.2.2.1,r5.2.2.2.2.2.2.2.2.2.2.2.2.2.2.2.2.1,r5.2.2.2.2.2.2.2.2.2.2.2.2.2.2.2.2.2.1,r5.2.2.2.2.2.2.2.2.2.2.2.2.2.2.2.2.2.2.1,r5.2.2.2.2.2.2.2.2.2.2.2.2.2.2.2.2.2.2.2.1,r5.2.2.2.2.2.2.2.2.2.2.2.2.2.2.2.2.2.2.2.2.1,r5.2.2.2.2.2.2.2.2.2.2.2.2.2.2.2.2.2.2.2.2.2.1,r5.2.2.2.2.2.2.2.2.2.2.2.2.2.2.2.2.2.2.2.2.2.2.1,r5.2.2.2.2.2.2.2.2.2.2.2.2.2.2.2.2.2.2.2.2.2.2.2.1,r5.2.2.2.2.2.2.2.2.2.2.2.2.2.2.2.2.2.2.2.2.2.2.2.2.1,r5.2.2.2.2.2.2.2.2.2.2.2.2.2.2.2.2.2.2.2.2.2.2.2.2.2.1,r5.2.2.2.2.2.2.2.2.2.2.2.2.2.2.2.2.2.2.2.2.2.2.2.2.2.2.1,r5.2.2.2.2.2.2.2.2.2.2.2.2.2.2.2.2.2.2.2.2.2.2.2.2.2.2.2.1)
def u4 (N:Nat) (e2:Int) (kk:(List Int × Int)→Option (List Int)):Nat→(List Int × Int)→Option (List Int)
 | 0,_=>none
 | fuel+1,(yL,i5)=>
  cond (decide (0≤i5)) (
  (nn (IntKind.i64.wrap (8*i5))).bind fun _=>
  (app 1 yL (([IntKind.u8.wrap (iB .i64 e2 (IntKind.i64.wrap (8*i5)))]:List Int))).bind fun Ko=>
  (some (IntKind.i64.wrap (i5-1))).bind fun i8=>
  u4 N e2 kk fuel (Ko,i8)) (
  kk (yL,i5))
def u5 (N:Nat) (l2:List Int) (kk:(List Int × Int)→Option (List Int)):Nat→(List Int × Int)→Option (List Int)
 | 0,_=>none
 | fuel+1,(D6,i)=>
  cond (decide (i<(l2.length:Int))) (
  (idx l2 i).bind fun e2=>
  u4 N e2 (fun (Mf,Fp)=>
  u5 N l2 kk fuel (Mf,IntKind.i64.wrap (i+1))) N (D6,3)) (
  kk (D6,i))
def eY (N:Nat) (Qc l2:List Int):Option (List Int):=
 u5 N l2 (fun (Ow,i11)=>
 some Ow) N (Qc,0)
def zE (N:Nat) (Qc:List Int) (s:List UInt8):Option (List Int):=
 (eY N Qc (([(s.length:Int)]:List Int))).bind fun r2=>
 (app 1 r2 (oV s)).bind fun D6=>
 some D6
def C6 (N:Nat) (aT:List (Int × Int)) (kk:(List Int × Int)→Option (List UInt8 × Int)):Nat→(List Int × Int)→Option (List UInt8 × Int)
 | 0,_=>none
 | fuel+1,(Ox,i5)=>
  cond (decide (i5<(aT.length:Int))) (
  (idx aT i5).bind fun e6=>
  (eY N Ox ([e6.1,e6.2]:List Int)).bind fun Es=>
  C6 N aT kk fuel (Es,IntKind.i64.wrap (i5+1))) (
  kk (Ox,i5))
def C7 (N:Nat) (aS:List (Int × Int)) (kk:(List Int × Int)→Option (List UInt8 × Int)):Nat→(List Int × Int)→Option (List UInt8 × Int)
 | 0,_=>none
 | fuel+1,(Oy,i3)=>
  cond (decide (i3<(aS.length:Int))) (
  (idx aS i3).bind fun e4=>
  (eY N Oy ([e4.1,e4.2]:List Int)).bind fun Dt=>
  C7 N aS kk fuel (Dt,IntKind.i64.wrap (i3+1))) (
  kk (Oy,i3))
def C8 (N:Nat) (dR:List (List UInt8)) (kk:(List Int × Int)→Option (List UInt8 × Int)):Nat→(List Int × Int)→Option (List UInt8 × Int)
 | 0,_=>none
 | fuel+1,(x_b,i)=>
  cond (decide (i<(dR.length:Int))) (
  (idx dR i).bind fun e2=>
  (zE N x_b e2).bind fun r8=>
  C8 N dR kk fuel (r8,IntKind.i64.wrap (i+1))) (
  kk (x_b,i))
def Ft (N:Nat) (jD mO gR jV lP:Int) (iQ:List Int) (dR:List (List UInt8)) (cW cM cO cP cQ cZ:Int) (aS:List (Int × Int)) (cR cU cV bM bN bO bP bQ bR bS bT bU:Int) (aT:List (Int × Int)) (bY:Int):Option (List UInt8 × Int):=
 (uW N jD mO gR jV lP iQ dR cW cM cO cP cQ cZ aS cR cU cV bM bN bO bP bQ bR bS bT bU aT bY).bind fun r2=>
 cond (!decide (r2=0)) (
 some (([]:List UInt8),r2)) (
 (zE N ([]:List Int) ([100,97,114,107]:List UInt8)).bind fun r3=>
 (eY N r3 (([jD,mO,gR,jV,lP,(iQ.length:Int)]:List Int))).bind fun r4=>
 (eY N r4 iQ).bind fun r5=>
 (eY N r5 (([(dR.length:Int)]:List Int))).bind fun r6=>
 C8 N dR (fun (aDs,i2)=>
 (eY N aDs ([cW]:List Int)).bind fun r9=>
 (eY N r9 ([cM,cO,cP,cQ])).bind fun IC=>
 (eY N IC (([cZ,(aS.length:Int)]:List Int))).bind fun Gd=>
 C7 N aS (fun (aDt,i4)=>
 (eY N aDt ([cR,cU,cV])).bind fun Nb=>
 (eY N Nb ([bM,bN,bO,bP,bQ,bR,bS,bT,bU])).bind fun Gc=>
 (eY N Gc (([(aT.length:Int)]:List Int))).bind fun r16=>
 C6 N aT (fun (aDu,i6)=>
 (eY N aDu ([bY]:List Int)).bind fun GE=>
 some (toB GE,0)) N (r16,0)) N (Gd,0)) N (r6,0))
def nD (N:Nat) (US Vv:List (Int × Int × Int)) (kk:Int→Option Bool):Nat→Int→Option Bool
 | 0,_=>none
 | fuel+1,i=>
  cond (decide (i<(US.length:Int))) (
  (idx US i).bind fun e3=>
  (idx Vv i).bind fun e4=>
  cond (!(decide (e3.1=e4.1)&&decide (e3.2.1=e4.2.1)&&decide (e3.2.2=e4.2.2))) (
  some false) (
  (some (IntKind.i64.wrap (i+1))).bind fun i3=>
  nD N US Vv kk fuel i3)) (
  kk i)
def oZ (N:Nat) (a_W a_H:Int) (US:List (Int × Int × Int)) (b_W b_H:Int) (Vv:List (Int × Int × Int)):Option Bool:=
 cond (!decide (a_W=b_W)) (
 some false) (
 cond (!decide (a_H=b_H)) (
 some false) (
 cond (!decide ((US.length:Int)=(Vv.length:Int))) (
 some false) (
 nD N US Vv (fun i4=>
 some true) N 0)))
def jR (N:Nat)  : Option Bool:=
 (gM N 1 1 (([(258,1,65535)]:List (Int × Int × Int))) true).bind fun r2=>
 (gM N 1 1 (([(258,1,65535)]:List (Int × Int × Int))) false).bind fun r3=>
 (oG N r2.1).bind fun r4=>
 (vX N ).bind fun r5=>
 (Ft N r5.1 r5.2.1 r5.2.2.1 r5.2.2.2.1 r5.2.2.2.2.1 r5.2.2.2.2.2.1 r5.2.2.2.2.2.2.1 r5.2.2.2.2.2.2.2.1 r5.2.2.2.2.2.2.2.2.1 r5.2.2.2.2.2.2.2.2.2.1 r5.2.2.2.2.2.2.2.2.2.2.1 r5.2.2.2.2.2.2.2.2.2.2.2.1 r5.2.2.2.2.2.2.2.2.2.2.2.2.1 r5.2.2.2.2.2.2.2.2.2.2.2.2.2.1 r5.2.2.2.2.2.2.2.2.2.2.2.2.2.2.1 r5.2.2.2.2.2.2.2.2.2.2.2.2.2.2.2.1 r5.2.2.2.2.2.2.2.2.2.2.2.2.2.2.2.2.1 r5.2.2.2.2.2.2.2.2.2.2.2.2.2.2.2.2.2.1 r5.2.2.2.2.2.2.2.2.2.2.2.2.2.2.2.2.2.2.1 r5.2.2.2.2.2.2.2.2.2.2.2.2.2.2.2.2.2.2.2.1 r5.2.2.2.2.2.2.2.2.2.2.2.2.2.2.2.2.2.2.2.2.1 r5.2.2.2.2.2.2.2.2.2.2.2.2.2.2.2.2.2.2.2.2.2.1 r5.2.2.2.2.2.2.2.2.2.2.2.2.2.2.2.2.2.2.2.2.2.2.1 r5.2.2.2.2.2.2.2.2.2.2.2.2.2.2.2.2.2.2.2.2.2.2.2.1 r5.2.2.2.2.2.2.2.2.2.2.2.2.2.2.2.2.2.2.2.2.2.2.2.2.1 r5.2.2.2.2.2.2.2.2.2.2.2.2.2.2.2.2.2.2.2.2.2.2.2.2.2.1 r5.2.2.2.2.2.2.2.2.2.2.2.2.2.2.2.2.2.2.2.2.2.2.2.2.2.2.1 r5.2.2.2.2.2.2.2.2.2.2.2.2.2.2.2.2.2.2.2.2.2.2.2.2.2.2.2).bind fun r6=>
 (mD N r6.1 1 0 0 0 0 1 false).bind fun r7=>
 cond (decide (r2.2=0)) (
 cond (decide (r3.2=0)) (
 cond (decide (r4.2.2.2.2=0)) (
 cond (decide (r6.2=0)) (
 cond (decide (r7.2=0)) (
 cond (decide (r2.1=([80,54,10,49,32,49,10,54,53,53,51,53,10,1,2,0,1,255,255]:List UInt8))) (
 cond (decide (r3.1=([80,54,10,49,32,49,10,50,53,53,10,1,0,255]:List UInt8))) (
 cond (r4.2.2.2.1) (
 (oZ N r4.1 r4.2.1 r4.2.2.1 1 1 (([(258,1,65535)]:List (Int × Int × Int)))).bind fun r8=>
 cond (r8) (
 some (decide ((r7.1.length:Int)=23))) (
 some false)) (
 some false)) (
 some false)) (
 some false)) (
 some false)) (
 some false)) (
 some false)) (
 some false)) (
 some false)
def oA (N:Nat) (d:List UInt8) (CZ y7 y8 y9 zA BB:Int) (vW:Bool) (p2:Int):Option Bool:=
 (mD N d CZ y7 y8 y9 zA BB vW).bind fun r2=>
 (mD N d p2 y7 y8 y9 zA BB vW).bind fun r3=>
 cond (!decide (r2.2=0)) (
 (jR N ).bind fun r4=>
 cond (r4) (
 cond (decide (r2.2=r3.2)) (
 some true) (
 cond (decide (CZ<1)) (
 some true) (
 some (decide (p2<1))))) (
 some false)) (
 cond (!decide (r3.2=0)) (
 (jR N ).bind fun r5=>
 cond (r5) (
 cond (decide (r2.2=r3.2)) (
 some true) (
 cond (decide (CZ<1)) (
 some true) (
 some (decide (p2<1))))) (
 some false)) (
 (oG N r2.1).bind fun r6=>
 (jR N ).bind fun r7=>
 cond (r7) (
 cond (decide (r2.1=r3.1)) (
 cond (decide (r6.2.2.2.2=0)) (
 some (decide (r6.2.2.2.1=vW))) (
 some false)) (
 some false)) (
 some false)))
def mP (N:Nat) (l2:List (Int × Int)) (x2:Int) (kk:Int→Option Int):Nat→Int→Option Int
 | 0,_=>none
 | fuel+1,i=>
  (idx l2 i).bind fun e2=>
  cond (decide (e2.1<x2)) (
  (some (IntKind.i64.wrap (i+1))).bind fun i3=>
  mP N l2 x2 kk fuel i3) (
  kk i)
def o6 (N:Nat) (l2:List (Int × Int)) (x2:Int):Option Int:=
 mP N l2 x2 (fun i4=>
 (idx l2 (IntKind.i64.wrap (i4-1))).bind fun e3=>
 (idx l2 i4).bind fun e4=>
 (nz (IntKind.i64.wrap (e4.1-e3.1))).bind fun _=>
 (some (IntKind.i64.wrap (e3.2+(IntKind.i64.wrap (Int.tdiv (IntKind.i64.wrap ((IntKind.i64.wrap (e4.2-e3.2))*(IntKind.i64.wrap (x2-e3.1)))) (IntKind.i64.wrap (e4.1-e3.1))))))).bind fun x3=>
 some x3) N 1
end
section
open Go
theorem gF {x:Int} (h:-9223372036854775808≤x∧x≤9223372036854775807):IntKind.i64.wrap x=x:=IntWalk.i64_in x h
theorem eC {α:Type} (xs:List α) (k:Nat):idx xs (k:Int)=xs[k]?:=by simp [idx]
theorem BG {α:Type} {xs:List α} {p q:Int} (h:0≤p∧p≤q∧q≤xs.length):DZ xs p q=some ((xs.take q.toNat).drop p.toNat):=by unfold DZ;rw [if_pos h]
theorem oS {α:Type} {b:Nat} {xs ys:List α} (h:(xs.length+ys.length)*b≤140737488355328):app b xs ys=some (xs++ys):=by unfold app;rw [if_pos h]
theorem mk_eq {α:Type} {b:Nat} {n:Int} {z:α} (h:0≤n∧n*b≤281474976710656):mk b n z=some (List.replicate n.toNat z):=by unfold mk;rw [if_pos h]
theorem Cc {α:Type} {xs:List α} {i:Int} {x:α} (h:0≤i∧i<xs.length):vU xs i x=some (xs.set i.toNat x):=by unfold vU;rw [if_pos h]
theorem BQ {n:Int} (h:n≠0):nz n=some ():=by unfold nz;rw [if_neg h]
theorem aC {α β:Type} (x:α) (f:α→Option β):Option.bind (some x) f=f x:=rfl
theorem cT {α:Type} {b:Bool} (h:b=true) (x y:α):cond b x y=x:=by rw [h];rfl
theorem cF {α:Type} {b:Bool} (h:b=false) (x y:α):cond b x y=y:=by rw [h];rfl
theorem dT {p:Prop} [Decidable p] (h:p):decide p=true:=decide_eq_true h
theorem dF {p:Prop} [Decidable p] (h:¬p):decide p=false:=decide_eq_false h
def Af (p:Int × Int × Int):Bool:=decide (0≤p.1∧p.1≤65535∧0≤p.2.1∧p.2.1≤65535∧0≤p.2.2∧p.2.2≤65535)
def o7 (W H:Int) (n:Nat):Prop:=1≤W∧W≤64∧1≤H∧H≤64∧(n:Int)=W*H
instance (W H:Int) (n:Nat):Decidable (o7 W H n):=by unfold o7;infer_instance
def rN (W H:Int) (P:List (Int × Int × Int)):Bool:=decide (o7 W H P.length)&&P.all Af
theorem Nd {W H:Int} (h:1≤W∧W≤64∧1≤H∧H≤64):1≤W*H∧W*H≤4096:=by
 obtain ⟨h1,h2,h3,h4⟩:=h;have a:=Int.mul_le_mul h2 h4 (by omega) (by omega);have b:=Int.mul_le_mul h1 h3 (by omega) (by omega)
 omega
theorem D7 {W H:Int} {n:Nat} (h:o7 W H n):n≤4096∧1≤n:=by
 obtain ⟨h1,h2,h3,h4,h5⟩:=h;have:=Nd ⟨h1,h2,h3,h4⟩
 omega
theorem pM {W H:Int} {P:List (Int × Int × Int)} (h:rN W H P=true):o7 W H P.length:=by
 simp only [rN,Bool.and_eq_true,decide_eq_true_eq] at h;exact h.1
theorem Vw {W H:Int} {P:List (Int × Int × Int)} (h:rN W H P=true) {k:Nat} {p:Int × Int × Int} (hk:P[k]? = some p):0≤p.1∧p.1≤65535∧0≤p.2.1∧p.2.1≤65535∧0≤p.2.2∧p.2.2≤65535:=by
 simp only [rN,Bool.and_eq_true] at h;have:=List.all_eq_true.1 h.2 p (List.mem_of_getElem? hk)
 simpa [Af] using this
abbrev Px:=Int × Int × Int
def E7:Px:=(0,0,0)
def E8 (W H:Nat) (f:Nat→Nat→Px):List Px:=(List.range (W*H)).map fun i=>f (i%W) (i/W)
theorem AT (W H:Nat) (f:Nat→Nat→Px):(E8 W H f).length=W*H:=by simp [E8]
theorem Nf {W H:Nat} (f:Nat→Nat→Px) {i:Nat} (h:i<W*H):(E8 W H f)[i]? = some (f (i%W) (i/W)):=by simp [E8,h]
theorem gX {W H i:Nat} (h:i<W*H):i%W<W∧i/W<H∧0<W:=by
 have hW:0<W:=by
  rcases Nat.eq_zero_or_pos W with h0 | h0
  ·subst h0;simp at h
  ·exact h0
 exact ⟨Nat.mod_lt _ hW,Nat.div_lt_of_lt_mul h,hW⟩
theorem Ng {W H:Nat} {f g:Nat→Nat→Px} (h:∀x y,x<W→y<H→f x y=g x y):E8 W H f=E8 W H g:=by
 refine List.map_congr_left fun i hi=>?_
 obtain ⟨h1,h2,_⟩:=gX (List.mem_range.1 hi);exact h _ _ h1 h2
def IM (P:List Px) (W x y:Nat):Px:=P.getD (y*W+x) E7
theorem Oz {P:List Px} {W H:Nat} (h:P.length=W*H):E8 W H (IM P W)=P:=by
 apply List.ext_getElem?
 intro i
 by_cases hi:i<W*H
 ·rw [Nf _ hi];simp only [IM];rw [Nat.div_add_mod'];rw [List.getD_eq_getElem?_getD,List.getElem?_eq_getElem (by omega)]
  rfl
 ·rw [List.getElem?_eq_none (by rw [AT];omega),List.getElem?_eq_none (by omega)]
theorem dm {W x:Nat} (y:Nat) (h:x<W):(y*W+x)%W=x∧(y*W+x)/W=y:=by
 have h1:(y*W+x)%W=x:=by rw [Nat.add_comm,Nat.add_mul_mod_self_right,Nat.mod_eq_of_lt h]
 have h2:(y*W+x)/W=y:=by rw [Nat.add_comm,Nat.add_mul_div_right _ _ (by omega),Nat.div_eq_of_lt h,Nat.zero_add]
 exact ⟨h1,h2⟩
theorem mG {W H x y:Nat} (hx:x<W) (hy:y<H):y*W+x<W*H:=by
 have:=Nat.mul_le_mul_right W (show y+1≤H from hy);rw [Nat.add_mul,Nat.one_mul,Nat.mul_comm H W] at this
 omega
theorem Kp {W H:Nat} (f:Nat→Nat→Px) {x y:Nat} (hx:x<W) (hy:y<H):IM (E8 W H f) W x y=f x y:=by
 obtain ⟨h1,h2⟩:=dm y hx;rw [IM,List.getD_eq_getElem?_getD,Nf f (mG hx hy),h1,h2];rfl
def GJ (P:List Px) (p:Nat→Nat) (n:Nat):Nat→List Px
 | 0=>List.replicate n E7
 | k+1=>(GJ P p n k).set (p k) (P.getD k E7)
theorem C9 (P:List Px) (p:Nat→Nat) (n:Nat):∀k,(GJ P p n k).length=n
 | 0=>by simp [GJ]
 | k+1=>by simp [GJ,C9 P p n k]
theorem Sf (P:List Px) (p:Nat→Nat) (n:Nat) (hp:∀i,i<n→p i<n) (hinj:∀i j,i<n→j<n→p i=p j→i=j):∀k,k≤n→∀i,i<k→(GJ P p n k)[p i]? = some (P.getD i E7)
 | 0,_,i,hi=>by omega
 | k+1,hk,i,hi=>by
  rw [GJ,List.getElem?_set]
  by_cases h:p k=p i
  ·rw [if_pos h,if_pos (by rw [C9];exact hp k (by omega))];rw [hinj k i (by omega) (by omega) h]
  ·rw [if_neg h];have:i≠k:=fun e=>h (by rw [e])
   exact Sf P p n hp hinj k (by omega) i (by omega)
theorem qQq {P:List Px} {W H W' H':Nat} {p:Nat→Nat} {g:Nat→Nat→Nat} (hn:W*H=W'*H') (hp:∀i,i<W*H→p i<W*H) (hg:∀x y,x<W'→y<H'→g x y<W*H∧p (g x y)=y*W'+x)
  (hinj:∀i j,i<W*H→j<W*H→p i=p j→i=j):GJ P p (W*H) (W*H)=E8 W' H' fun x y=>P.getD (g x y) E7:=by
 apply List.ext_getElem?
 intro i
 by_cases hi:i<W*H
 ·have hi':i<W'*H':=by omega
  obtain ⟨h1,h2,_⟩:=gX hi';obtain ⟨g1,g2⟩:=hg _ _ h1 h2;rw [Nf _ hi'];have:=Sf P p (W*H) hp hinj (W*H) (Nat.le_refl _) _ g1;rw [g2,Nat.div_add_mod'] at this;exact this
 ·rw [List.getElem?_eq_none (by rw [C9];omega),List.getElem?_eq_none (by rw [AT];omega)]
theorem Sg {a b n:Nat} (ha:a<n) (hb:b<n) (h:n-1-a=n-1-b):a=b:=by omega
theorem Yb {W:Nat} (k:Nat) (hW:0<W):Int.tmod (k:Int) (W:Int)=((k%W:Nat):Int)∧Int.tdiv (k:Int) (W:Int)=((k/W:Nat):Int):=by
 constructor
 ·rw [Int.tmod_eq_emod_of_nonneg (by omega)];rfl
 ·rw [Int.tdiv_eq_ediv_of_nonneg (by omega)];rfl
theorem qV (W H:Nat) (P:List Px) (hs:o7 W H P.length):1≤W∧W≤64∧1≤H∧H≤64∧P.length=W*H∧W*H≤4096:=by
 obtain ⟨h1,h2,h3,h4,h5⟩:=hs;have h6:P.length=W*H:=by exact_mod_cast h5
 have h7:=Nat.mul_le_mul (show W≤64 by omega) (show H≤64 by omega);exact ⟨by omega,by omega,by omega,by omega,h6,by omega⟩
theorem Fu {W H:Nat} (h:1≤W∧W≤64∧1≤H∧H≤64) (f:Nat→Nat→Px):o7 (W:Int) (H:Int) (E8 W H f).length:=by
 rw [AT];exact ⟨by omega,by omega,by omega,by omega,by rw [Int.natCast_mul]⟩
def pre {α:Type} (W:Nat) (f:Nat→Nat→α) (n:Nat):List α:=(List.range n).map fun k=>f (k%W) (k/W)
theorem YJ {α:Type} (W:Nat) (f:Nat→Nat→α) (n:Nat):(pre W f n).length=n:=by simp [pre]
theorem Vx {α:Type} {W:Nat} (f:Nat→Nat→α) (y:Nat) {x:Nat} (hx:x<W):pre W f (y*W+(x+1))=pre W f (y*W+x)++[f x y]:=by
 obtain ⟨h1,h2⟩:=dm y hx;rw [show y*W+(x+1)=(y*W+x)+1 by omega,pre,List.range_succ,List.map_append,List.map_singleton,h1,h2];rfl
theorem YK {α:Type} {W:Nat} (f:Nat→Nat→α) (y:Nat):pre W f (y*W+W)=pre W f ((y+1)*W+0):=by
 rw [Nat.add_mul,Nat.one_mul];rfl
theorem YL {W H:Nat} {f:Nat→Nat→Px} (h:1≤W∧W≤64∧1≤H∧H≤64) (hf:∀x y,x<W→y<H→Af (f x y)=true):rN W H (E8 W H f)=true:=by
 simp only [rN,Bool.and_eq_true,decide_eq_true_eq];refine ⟨Fu h f,List.all_eq_true.2 fun p hp=>?_⟩;obtain ⟨i,hi,rfl⟩:=List.mem_map.1 hp;obtain ⟨h1,h2,_⟩:=gX (List.mem_range.1 hi);exact hf _ _ h1 h2
theorem Nh {W H:Int} {P:List Px} (hp:rN W H P=true) {i:Nat} {p:Px} (hi:P[i]? = some p):Af p=true:=by
 have:=Vw hp hi;simpa [Af] using this
theorem QI {x y:Int} {a b:Nat} (hx:-(a:Int)≤x∧x≤a) (hy:-(b:Int)≤y∧y≤b):-((a*b:Nat):Int)≤x*y∧x*y≤((a*b:Nat):Int):=by
 have h1:x.natAbs≤a:=by omega
 have h2:y.natAbs≤b:=by omega
 have h3:=Nat.mul_le_mul h1 h2;rw [←Int.natAbs_mul] at h3
 omega
theorem D8 {α:Type} (g:Nat→α) (z:α) {n k:Nat} (hk:k<n):vU ((List.range k).map g++List.replicate (n-k) z) (k:Int) (g k)=some ((List.range (k+1)).map g++List.replicate (n-(k+1)) z):=by
 rw [Cc (by simp;omega),Int.toNat_natCast];obtain ⟨m,rfl⟩:∃m,n=k+1+m:=⟨n-(k+1),by omega⟩
 rw [show k+1+m-k=m+1 by omega,show k+1+m-(k+1)=m by omega,List.range_succ,List.map_append,List.append_assoc,List.replicate_succ]
 congr 1
 rw [List.set_append_right _ _ (by simp)]
 simp
theorem QJ (m:Int) (n:Nat) (hn:n≤64):iB .i64 m (n:Int)=m/2^n:=by
 unfold iB;rw [Int.toNat_natCast,show min n IntKind.i64.bits=n from Nat.min_eq_left hn];exact Int.fdiv_eq_ediv_of_nonneg _ (Int.le_of_lt (Int.pow_pos (by decide)))
theorem aDv (m:Int):iB .i64 m 8=m/256:=QJ m 8 (by decide)
theorem YM (N:Nat) (P:List (Int × Int × Int)) (kk:Int→Option Bool) (hP:P.length≤4096):∀(d k fuel:Nat),k+d=P.length→d<fuel→pL N P kk fuel (k:Int)=if (P.drop k).all Af then kk P.length else some false:=by
 intro d
 induction d with
 | zero=>
  intro k fuel hk hf;obtain ⟨fuel,rfl⟩:=oK fuel (by omega);have hk':k=P.length:=by omega
  subst hk';unfold pL;rw [cF (dF (by omega))]
  simp
 | succ d ih=>
  intro k fuel hk hf;obtain ⟨fuel,rfl⟩:=oK fuel (by omega);have hlt:k<P.length:=by omega
  obtain ⟨⟨x,y,z⟩,hx⟩:∃p,P[k]? = some p:=⟨P[k],List.getElem?_eq_getElem hlt⟩
  unfold pL;rw [cT (dT (by omega)),eC,hx,aC,gF (by omega)]
  have hd:P.drop k=(x,y,z)::P.drop (k+1):=by
   rw [List.drop_eq_getElem_cons hlt]
   congr 1
   exact (List.getElem?_eq_some_iff.1 hx).2
  rw [hd,List.all_cons];have hih:=ih (k+1) fuel (by omega) (by omega)
  by_cases h1:min (min x y) z<0
  ·rw [cT (dT h1)];have:Af (x,y,z)=false:=by simp only [Af,decide_eq_false_iff_not];omega
   simp [this]
  ·rw [cF (dF h1)]
   by_cases h2:65535<max (max x y) z
   ·rw [cT (dT h2)];have:Af (x,y,z)=false:=by simp only [Af,decide_eq_false_iff_not];omega
    simp [this]
   ·rw [cF (dF h2)];have:Af (x,y,z)=true:=by simp only [Af,decide_eq_true_eq];omega
    rw [this,Bool.true_and,←hih]
    rfl
theorem YN (N:Nat) (W H:Int) (P:List (Int × Int × Int)) (hN:5000≤N):wN N W H P=some (rN W H P):=by
 unfold wN;have no:¬o7 W H P.length→rN W H P=false:=fun h=>by simp [rN,h]
 by_cases h1:W<1
 ·rw [cT (dT h1),no (fun h=>by unfold o7 at h;omega)]
 rw [cF (dF h1)]
 by_cases h2:64<W
 ·rw [cT (dT h2),no (fun h=>by unfold o7 at h;omega)]
 rw [cF (dF h2)]
 by_cases h3:H<1
 ·rw [cT (dT h3),no (fun h=>by unfold o7 at h;omega)]
 rw [cF (dF h3)]
 by_cases h4:64<H
 ·rw [cT (dT h4),no (fun h=>by unfold o7 at h;omega)]
 rw [cF (dF h4)];have hb:=Nd (W:=W) (H:=H) (by omega);rw [gF (by omega)]
 by_cases h5:(P.length:Int)=W*H
 ·rw [cF (by simp [h5])];have hs:o7 W H P.length:=⟨by omega,by omega,by omega,by omega,h5⟩
  refine (YM N P _ (by omega) P.length 0 N (by omega) (by omega)).trans ?_;simp only [rN,hs,decide_true,Bool.true_and,List.drop_zero]
  cases P.all Af <;> rfl
 ·rw [cT (by simp [h5]),no (fun h=>h5 h.2.2.2.2)]
theorem Jb (N:Nat) (phase x y:Int):∃r,lK N phase x y=some r:=by
 unfold lK
 by_cases h1:phase<0
 ·rw [cT (dT h1)];exact ⟨_,rfl⟩
 rw [cF (dF h1)]
 by_cases h2:3<phase
 ·rw [cT (dT h2)];exact ⟨_,rfl⟩
 rw [cF (dF h2)]
 by_cases h3:x<0
 ·rw [cT (dT h3)];exact ⟨_,rfl⟩
 rw [cF (dF h3)]
 by_cases h4:y<0
 ·rw [cT (dT h4)];exact ⟨_,rfl⟩
 rw [cF (dF h4)];exact ⟨_,rfl⟩
theorem YO (N:Nat) (W:Int) (P:List (Int × Int × Int)) (phase:Int) (kk:(List Int × Int)→Option (Int × Int × List Int × Int)) (hW:1≤W) (hP:P.length≤4096):∀(d k fuel:Nat) (l:List Int),k+d=P.length→d<fuel→l.length=k→∃l',kR N W P phase kk fuel (l,(k:Int))=kk (l',(P.length:Int)):=by
 intro d
 induction d with
 | zero=>
  intro k fuel l hk hf hl;obtain ⟨fuel,rfl⟩:=oK fuel (by omega);have hk':k=P.length:=by omega
  subst hk';refine ⟨l,?_⟩;unfold kR;rw [cF (dF (by omega))]
 | succ d ih=>
  intro k fuel l hk hf hl;obtain ⟨fuel,rfl⟩:=oK fuel (by omega);have hlt:k<P.length:=by omega
  unfold kR;obtain ⟨r,hr⟩:=Jb N phase (Int.tmod k W) (IntKind.i64.wrap (Int.tdiv k W));rw [cT (dT (by omega)),BQ (by omega),aC,aC,hr,aC,eC,List.getElem?_eq_getElem hlt,aC];rw [oS (by simp;omega),oS (by simp;omega),oS (by simp;omega),aC,aC,aC,gF (by omega)];have key:∀x:Int,∃l',kR N W P phase kk fuel (l++[x],(k:Int)+1)=kk (l',(P.length:Int)):=fun x=>ih (k+1) fuel (l++[x]) (by omega) (by omega) (by simp [hl])
  cases decide (r.1=0)
  ·cases decide (r.1=1)
   ·exact key _
   ·exact key _
  ·exact key _
theorem vQ (N:Nat) (W H:Int) (P:List (Int × Int × Int)) (hN:5000≤N):∃a b l,lC N W H P 0=some (a,b,l,if rN W H P then 0 else 1):=by
 unfold lC;rw [YN N W H P hN,aC];cases hp:rN W H P
 ·exact ⟨_,_,_,rfl⟩
 ·have hs:=pM hp;have hl:=D7 hs;rw [cF (by rfl),cF (by rfl),cF (by rfl)];obtain ⟨l',h⟩:=YO N W P 0 (fun (GH,i2)=>some (W,H,GH,0)) hs.1 (by omega) P.length 0 N [] (by omega) (by omega) rfl;exact ⟨W,H,l',h⟩
def u6 (phase u v:Int):Int:=(u%2+phase)%2+(v%2+phase/2)%2
theorem YP:∀n:Fin 64,zP .i64 ((n.val:Nat):Int) 1=((n.val:Nat):Int)%2:=by decide +kernel
theorem Kq {u:Int} (h:0≤u∧u<64):zP .i64 u 1=u%2:=by
 have:=YP ⟨u.toNat,by omega⟩;have e:((u.toNat:Nat):Int)=u:=by omega
 simp only [e] at this;exact this
theorem YQ:∀(p:Fin 4) (a b:Fin 2),IntKind.i64.wrap (zP .i64 (IntKind.i64.wrap (((a.val:Nat):Int)+((p.val:Nat):Int))) 1+zP .i64 (IntKind.i64.wrap (((b.val:Nat):Int)+iB .i64 ((p.val:Nat):Int) 1)) 1)=(((a.val:Nat):Int)+((p.val:Nat):Int))%2+(((b.val:Nat):Int)+((p.val:Nat):Int)/2)%2:=by decide +kernel
theorem Ni (phase u v:Int):0≤u6 phase u v∧u6 phase u v≤2:=by unfold u6;omega
theorem Mg (N:Nat) {phase u v:Int} (hp:0≤phase∧phase≤3) (hu:0≤u∧u<64) (hv:0≤v∧v<64):lK N phase u v=some (u6 phase u v,0):=by
 unfold lK;rw [cF (dF (by omega)),cF (dF (by omega)),cF (dF (by omega)),cF (dF (by omega)),Kq hu,Kq hv];unfold oR;rw [aC];have:=YQ ⟨phase.toNat,by omega⟩ ⟨(u%2).toNat,by omega⟩ ⟨(v%2).toNat,by omega⟩;have e1:((phase.toNat:Nat):Int)=phase:=by omega
 have e2:(((u%2).toNat:Nat):Int)=u%2:=by omega
 have e3:(((v%2).toNat:Nat):Int)=v%2:=by omega
 simp only [e1,e2,e3] at this;rw [this];rfl
theorem Cr {W H:Int} {P:List Int} (h:dJ W H P=true):∃w h':Nat,W=w∧H=h'∧1≤w∧w≤64∧1≤h'∧h'≤64∧P.length=w*h'∧w*h'≤4096∧∀i,i<w*h'→0≤P.getD i 0∧P.getD i 0≤65535:=by
 obtain ⟨⟨h1,h2,h3,h4⟩,h5,h6⟩:=pD.1 h;obtain ⟨w,rfl⟩:∃n:Nat,W=n:=⟨W.toNat,by omega⟩
 obtain ⟨h',rfl⟩:∃n:Nat,H=n:=⟨H.toNat,by omega⟩
 have e:P.length=w*h':=by exact_mod_cast h5
 have:=Nat.mul_le_mul (show w≤64 by omega) (show h'≤64 by omega);refine ⟨w,h',rfl,rfl,by omega,by omega,by omega,by omega,e,by omega,fun i hi=>?_⟩;have hx:P[i]? = some P[i]:=List.getElem?_eq_getElem (by omega);have:=Vn (List.all_eq_true.1 h6 _ (List.mem_of_getElem? hx));rw [List.getD_eq_getElem?_getD,hx];exact this
theorem QK {W H:Int} {P:List Int} {x y u v:Int} (hC:Oq W H P x y) (hq:0≤u∧u<W∧0≤v∧v<H):IntKind.i64.wrap (IntKind.i64.wrap (v*W)+u)=v*W+u∧0≤v*W+u∧v*W+u<P.length∧idx P (v*W+u)=some (P.getD (v*W+u).toNat 0):=by
 obtain ⟨h1,h2,h3,h4,h5,h6,h7⟩:=hC;have m0:0≤v*W:=Int.mul_nonneg hq.2.2.1 (by omega)
 have m1:v*W+W≤H*W:=by
  have:=Int.mul_le_mul_of_nonneg_right (show v+1≤H by omega) (show 0≤W by omega)
  rwa [Int.add_mul,Int.one_mul] at this
 have m2:H*W≤64*64:=Int.mul_le_mul h6 h3 (by omega) (by omega);have m3:(P.length:Int)=H*W:=by rw [h7,Int.mul_comm]
 refine ⟨by rw [gF (x:=v*W) (by omega),gF (by omega)],by omega,by omega,?_⟩;unfold idx;rw [if_pos (by omega),List.getD_eq_getElem?_getD,List.getElem?_eq_getElem (by omega)];rfl
theorem E9 (N:Nat) (W:Int) (P:List Int) (o:Int) {H x y u v:Int} (hC:Oq W H P x y) (hq:0≤u∧u<W∧0≤v∧v<H) (x1 x2 x3 x4 x5 x6:Int):∃r,lU N W P o u v x1 x2 x3 x4 x5 x6=some r:=by
 obtain ⟨r,hr⟩:=Jb N o u v;obtain ⟨h1,_,_,h2⟩:=QK hC hq;unfold lU;rw [hr,aC,h1,h2];simp only [aC]
 cases decide (r.1=0) <;> cases decide (r.1=1) <;> exact ⟨_,rfl⟩
end
end Go.Proofs.YtpmnfhifmmfglabGreatDoor
