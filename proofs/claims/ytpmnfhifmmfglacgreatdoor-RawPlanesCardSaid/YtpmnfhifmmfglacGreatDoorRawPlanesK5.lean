/- Texts of the claim RawPlanes, joined and made small by a program. -/
import Derived.Test.YtpmnfhifmmfglacGreatDoorRawPlanesK3
import Derived.Test.YtpmnfhifmmfglacGreatDoorRawPlanesK4
set_option linter.unusedVariables false
set_option linter.unusedSimpArgs false
set_option linter.unusedSectionVars false
set_option maxRecDepth 100000
set_option maxHeartbeats 8000000
namespace Go.Proofs.YtpmnfhifmmfglacGreatDoor
section
def Ae (N : Nat) (n v0 v1 : Int) : Option Bool :=
 cond (decide (n < v0)) (
 some true) (
 some (decide (v1 < n)))
def eW (N : Nat) (s : List Int) (xM xN : Int) (kk : Int → Option Int) : Nat → Int → Option Int
 | 0, _ => none
 | fuel + 1, i =>
  cond (decide (i < (s.length : Int))) (
  Option.bind (idx s i) fun e2 =>
  Option.bind (Ae N e2 xM xN) fun r3 =>
  cond (r3) (
  some i) (
  eW N s xM xN kk fuel (IntKind.i64.wrap (i + 1)))) (
  kk i)
def iQ (N : Nat) (s : List Int) (xM xN : Int) : Option Int :=
 eW N s xM xN (fun i2 =>
 some ((-1))) N 0
def iA (N : Nat) (s : List Int) (xM xN : Int) : Option Bool :=
 Option.bind (iQ N s xM xN) fun r2 =>
 some (decide (0 ≤ r2))
def pH (N : Nat) (low high : Int) (l2 : List Int) : Option Bool :=
 Option.bind (iA N l2 low high) fun r2 =>
 some (!(r2))
def sX (N : Nat) (Le L2 v0 v1 : Int) : Option Bool :=
 Option.bind (pH N 0 (IntKind.i64.wrap (v0 - 1)) ([Le] : List Int)) fun r2 =>
 cond (!(r2)) (
 some true) (
 Option.bind (pH N 0 (IntKind.i64.wrap (v1 - 1)) ([L2] : List Int)) fun r3 =>
 some (!(r3)))
def dQ (N : Nat) (s : List (Int × Int)) (pI pJ : Int) (kk : Int → Option Int) : Nat → Int → Option Int
 | 0, _ => none
 | fuel + 1, i =>
  cond (decide (i < (s.length : Int))) (
  Option.bind (idx s i) fun e2 =>
  Option.bind (sX N e2.1 e2.2 pI pJ) fun r3 =>
  cond (r3) (
  some i) (
  dQ N s pI pJ kk fuel (IntKind.i64.wrap (i + 1)))) (
  kk i)
def fT (N : Nat) (s : List (Int × Int)) (pI pJ : Int) : Option Int :=
 dQ N s pI pJ (fun i2 =>
 some ((-1))) N 0
def fA (N : Nat) (s : List (Int × Int)) (pI pJ : Int) : Option Bool :=
 Option.bind (fT N s pI pJ) fun r2 =>
 some (decide (0 ≤ r2))
def vJ (N : Nat) (l2 : List (Int × Int)) (w2 h2 : Int) : Option Bool :=
 Option.bind (fA N l2 w2 h2) fun r2 =>
 some (!(r2))
def pK (N : Nat) (d l2 : List (Int × Int)) (kk : Int → Option Bool) : Nat → Int → Option Bool
 | 0, _ => none
 | fuel + 1, i =>
  cond (decide (i < (l2.length : Int))) (
  Option.bind (idx d i) fun e9 =>
  Option.bind (idx d (IntKind.i64.wrap (i + 1))) fun e10 =>
  cond (decide (e10.1 ≤ e9.1)) (
  some false) (
  Option.bind (idx d i) fun e11 =>
  Option.bind (idx d (IntKind.i64.wrap (i + 1))) fun e12 =>
  cond (decide (e12.2 < e11.2)) (
  some false) (
  pK N d l2 kk fuel (IntKind.i64.wrap (i + 1))))) (
  kk i)
def mF (N : Nat) (d : List (Int × Int)) : Option Bool :=
 cond (decide ((d.length : Int) < 2)) (
 some false) (
 cond (decide (16 < (d.length : Int))) (
 some false) (
 Option.bind (idx d 0) fun e =>
 cond (!decide (e.1 = 0)) (
 some false) (
 Option.bind (idx d (IntKind.i64.wrap ((d.length : Int) - 1))) fun e2 =>
 cond (!decide (e2.1 = 65535)) (
 some false) (
 Option.bind (idx d 0) fun e3 =>
 cond (decide (e3.2 < 0)) (
 some false) (
 Option.bind (idx d (IntKind.i64.wrap ((d.length : Int) - 1))) fun e4 =>
 cond (decide (65535 < e4.2)) (
 some false) (
 Option.bind (B5 d 1 (d.length : Int)) fun l2 =>
 pK N d l2 (fun i2 =>
 some true) N 0))))))
def Af (N : Nat) (i : Int) (v0 : List (Int × Int)) (v1 : Int) : Option Bool :=
 Option.bind (idx v0 i) fun e =>
 some (decide (v1 < e.1))
def fH (N : Nat) (An : List (Int × Int)) (Ce : Int) (kk : (Int × Int) → Option Int) : Nat → (Int × Int) → Option Int
 | 0, _ => none
 | fuel + 1, (i, j) =>
  cond (decide (i < j)) (
  Option.bind (some (IntKind.i64.wrap (jN .u64 (IntKind.u64.wrap (IntKind.i64.wrap (i + j))) 1))) fun h3 =>
  Option.bind (Af N h3 An Ce) fun r3 =>
  cond (!(r3)) (
  Option.bind (some (IntKind.i64.wrap (h3 + 1))) fun i3 =>
  fH N An Ce kk fuel (i3, j)) (
  fH N An Ce kk fuel (i, h3))) (
  kk (i, j))
def nD (N : Nat) (n : Int) (An : List (Int × Int)) (Ce : Int) : Option Int :=
 fH N An Ce (fun (i4, j2) =>
 some i4) N (0, n)
def u3 (N : Nat) (l2 : List (Int × Int)) (x2 : Int) : Option Int :=
 Option.bind (nD N (l2.length : Int) l2 x2) fun r2 =>
 cond (decide (r2 = (l2.length : Int))) (
 Option.bind (idx l2 (IntKind.i64.wrap (r2 - 1))) fun e =>
 some e.2) (
 Option.bind (idx l2 (IntKind.i64.wrap (r2 - 1))) fun e2 =>
 Option.bind (idx l2 r2) fun e3 =>
 Option.bind (nz (IntKind.i64.wrap (e3.1 - e2.1))) fun _ =>
 Option.bind (some (IntKind.i64.wrap (e2.2 + (IntKind.i64.wrap (Int.tdiv (IntKind.i64.wrap ((IntKind.i64.wrap (e3.2 - e2.2)) * (IntKind.i64.wrap (x2 - e2.1)))) (IntKind.i64.wrap (e3.1 - e2.1))))))) fun x3 =>
 some x3)
def vK (N : Nat) (l2 : List (Int × Int)) (x2 : Int) : Option (Int × Int) :=
 Option.bind (mF N l2) fun r2 =>
 cond (!(r2)) (
 some (0, 1)) (
 cond (decide (x2 < 0)) (
 some (0, 3)) (
 cond (decide (65535 < x2)) (
 some (0, 3)) (
 Option.bind (u3 N l2 x2) fun r3 =>
 some (r3, 0))))
def vL (N : Nat) (na nb0 Vn Vo Vp nc : Int) (nd : List (Int × Int)) (TR ne1 Vq Vr Vs Vt Vu Vv Vw Vx Vy nf8 : Int) (ng : List (Int × Int)) (nh : Int) : Option Int :=
 Option.bind (pH N 0 3 ([na] : List Int)) fun r2 =>
 cond (!(r2)) (
 some 3) (
 Option.bind (pH N 1 65535 ([nc] : List Int)) fun r3 =>
 cond (!(r3)) (
 some 3) (
 Option.bind (pH N 0 (IntKind.i64.wrap (nc - 1)) ([nb0, Vn, Vo, Vp])) fun r4 =>
 cond (!(r4)) (
 some 3) (
 cond (decide (64 < (nd.length : Int))) (
 some 3) (
 Option.bind (vJ N nd 64 64) fun r5 =>
 cond (!(r5)) (
 some 3) (
 Option.bind (pH N 0 65535 ([TR, ne1, Vq])) fun r6 =>
 cond (!(r6)) (
 some 3) (
 Option.bind (pH N (-32768) 32768 ([Vr, Vs, Vt, Vu, Vv, Vw, Vx, Vy, nf8])) fun r7 =>
 cond (!(r7)) (
 some 3) (
 Option.bind (pH N 0 1024 ([nh] : List Int)) fun r8 =>
 cond (!(r8)) (
 some 3) (
 Option.bind (vK N ng 0) fun r9 =>
 some r9.2))))))))
def nU (N : Nat) (lens : List Int) (kk : (Int × Int) → Option Int) : Nat → (Int × Int) → Option Int
 | 0, _ => none
 | fuel + 1, (room, i) =>
  cond (decide (i < (lens.length : Int))) (
  Option.bind (idx lens i) fun e2 =>
  cond (decide (e2 < 0)) (
  some 3) (
  cond (decide (15 < e2)) (
  some 3) (
  cond (decide (0 < e2)) (
  Option.bind (nn (IntKind.i64.wrap (15 - e2))) fun _ =>
  Option.bind (some (IntKind.i64.wrap (room - (rB .i64 1 (IntKind.i64.wrap (15 - e2)))))) fun Oy =>
  nU N lens kk fuel (Oy, IntKind.i64.wrap (i + 1))) (
  nU N lens kk fuel (room, IntKind.i64.wrap (i + 1)))))) (
  kk (room, i))
def rH (N : Nat) (lens : List Int) : Option Int :=
 cond (decide ((lens.length : Int) < 1)) (
 some 2) (
 cond (decide (17 < (lens.length : Int))) (
 some 2) (
 nU N lens (fun (Ga, i2) =>
 cond (decide (Ga < 0)) (
 some 1) (
 cond (decide (Ga = 32768)) (
 some 1) (
 some 0))) N (32768, 0)))
def wX (N : Nat) (lS dG : Int) (yS : Bool → Option Int) : Option Int :=
  cond (decide (dG < 1)) (
  yS (decide (dG < 1))) (
  yS (decide (lS < dG)))
def wY (N : Nat) (lS cM dG : Int) (yT : Bool → Option Int) : Option Int :=
  cond (decide (16 < cM)) (
  yT (decide (16 < cM))) (
  wX N lS dG (fun Wv =>
  yT Wv))
def wZ (N : Nat) (lS cM dG : Int) (yU : Bool → Option Int) : Option Int :=
  cond (decide (cM < 1)) (
  yU (decide (cM < 1))) (
  wY N lS cM dG (fun i12 =>
  yU i12))
def w5 (N : Nat) (lS cM dG : Int) (yV : Bool → Option Int) : Option Int :=
  cond (decide (64 < lS)) (
  yV (decide (64 < lS))) (
  wZ N lS cM dG (fun Fo =>
  yV Fo))
def w6 (N : Nat) (lS cM dG : Int) (yW : Bool → Option Int) : Option Int :=
  cond (decide (lS < 1)) (
  yW (decide (lS < 1))) (
  w5 N lS cM dG (fun i8 =>
  yW i8))
def w7 (N : Nat) (nP lS cM dG : Int) (yX : Bool → Option Int) : Option Int :=
  cond (decide (64 < nP)) (
  yX (decide (64 < nP))) (
  w6 N lS cM dG (fun i6 =>
  yX i6))
def w8 (N : Nat) (dS : Int) (yY : Bool → Option Int) : Option Int :=
  cond (decide (dS < 0)) (
  yY (decide (dS < 0))) (
  yY (decide (7 < dS)))
def w9 (N : Nat) (nP lS cM dG : Int) (yZ : Bool → Option Int) : Option Int :=
  cond (decide (nP < 1)) (
  yZ (decide (nP < 1))) (
  w7 N nP lS cM dG (fun i4 =>
  yZ i4))
def wP (N : Nat) (nP lS cM dS dG : Int) (dK : List Int) (bS : List (List UInt8)) (bI a8 bA bB bC bJ : Int) (aO : List (Int × Int)) (bD bE bF aS aT aU aV aW aX aY aZ a7 : Int) (aP : List (Int × Int)) (bG : Int) : Option Int :=
 w9 N nP lS cM dG (fun i2 =>
 cond (i2) (
 some 3) (
 w8 N dS (fun i16 =>
 cond (i16) (
 some 6) (
 cond (decide (0 < dS)) (
 Option.bind (rH N dK) fun r2 =>
 some r2) (
 cond (decide (0 < (dK.length : Int))) (
 some 1) (
 some 0))))))
def yH (N : Nat) (Le L2 Oz Q4 Gb Ig Ih : Int) (DV : List Int) (AL : List (List UInt8)) (Ao y9 zA zB zC Ap : Int) (uG : List (Int × Int)) (zD zE zF xO xP xQ xR xS xT xU xV xW : Int) (uH : List (Int × Int)) (zG : Int) : Option Bool :=
 cond (decide (Oz ≤ Le)) (
 some true) (
 some (decide (Q4 ≤ L2)))
def dU (N : Nat) (s : List (Int × Int)) (nV nW jZ kR kS : Int) (iJ : List Int) (gO : List (List UInt8)) (gP f7 f8 f9 gA gQ : Int) (eO : List (Int × Int)) (gB gC gD fI fJ fK fL fM fN fO fP fQ : Int) (eP : List (Int × Int)) (gE : Int) (kk : Int → Option Int) : Nat → Int → Option Int
 | 0, _ => none
 | fuel + 1, i =>
  cond (decide (i < (s.length : Int))) (
  Option.bind (idx s i) fun e2 =>
  Option.bind (yH N e2.1 e2.2 nV nW jZ kR kS iJ gO gP f7 f8 f9 gA gQ eO gB gC gD fI fJ fK fL fM fN fO fP fQ eP gE) fun r3 =>
  cond (r3) (
  some i) (
  dU N s nV nW jZ kR kS iJ gO gP f7 f8 f9 gA gQ eO gB gC gD fI fJ fK fL fM fN fO fP fQ eP gE kk fuel (IntKind.i64.wrap (i + 1)))) (
  kk i)
def f6 (N : Nat) (s : List (Int × Int)) (nV nW jZ kR kS : Int) (iJ : List Int) (gO : List (List UInt8)) (gP f7 f8 f9 gA gQ : Int) (eO : List (Int × Int)) (gB gC gD fI fJ fK fL fM fN fO fP fQ : Int) (eP : List (Int × Int)) (gE : Int) : Option Int :=
 dU N s nV nW jZ kR kS iJ gO gP f7 f8 f9 gA gQ eO gB gC gD fI fJ fK fL fM fN fO fP fQ eP gE (fun i2 =>
 some ((-1))) N 0
def eI (N : Nat) (s : List (Int × Int)) (nV nW jZ kR kS : Int) (iJ : List Int) (gO : List (List UInt8)) (gP f7 f8 f9 gA gQ : Int) (eO : List (Int × Int)) (gB gC gD fI fJ fK fL fM fN fO fP fQ : Int) (eP : List (Int × Int)) (gE : Int) : Option Bool :=
 Option.bind (f6 N s nV nW jZ kR kS iJ gO gP f7 f8 f9 gA gQ eO gB gC gD fI fJ fK fL fM fN fO fP fQ eP gE) fun r2 =>
 some (decide (0 ≤ r2))
def wQ (N : Nat) (nP lS cM dS dG : Int) (dK : List Int) (bS : List (List UInt8)) (bI a8 bA bB bC bJ : Int) (aO : List (Int × Int)) (bD bE bF aS aT aU aV aW aX aY aZ a7 : Int) (aP : List (Int × Int)) (bG : Int) : Option Int :=
 Option.bind (vL N bI a8 bA bB bC bJ aO bD bE bF aS aT aU aV aW aX aY aZ a7 aP bG) fun r2 =>
 cond (!decide (r2 = 0)) (
 some r2) (
 Option.bind (eI N aO nP lS cM dS dG dK bS bI a8 bA bB bC bJ aO bD bE bF aS aT aU aV aW aX aY aZ a7 aP bG) fun r3 =>
 cond (r3) (
 some 3) (
 some 0))
def j5 (N : Nat) (x2 : List Int) (kk : (Int × Int) → Option Int) : Nat → (Int × Int) → Option Int
 | 0, _ => none
 | fuel + 1, (m, i) =>
  cond (decide (i < (x2.length : Int))) (
  Option.bind (idx x2 i) fun e3 =>
  Option.bind (some (max m e3)) fun m3 =>
  Option.bind (some (IntKind.i64.wrap (i + 1))) fun i3 =>
  j5 N x2 kk fuel (m3, i3)) (
  kk (m, i))
def lF (N : Nat) (x2 : List Int) : Option Int :=
 cond (decide ((x2.length : Int) < 1)) (
 none) (
 Option.bind (idx x2 0) fun e =>
 j5 N x2 (fun (m4, i4) =>
 some m4) N (e, 1))
def qH (N : Nat) (s : List Int) : Option (List Int) :=
 Option.bind (app 8 ([] : List Int) s) fun l2 =>
 some l2
def mC (N : Nat) (s : List (Int × Int)) : Option (List (Int × Int)) :=
 Option.bind (app 16 (([] : List (Int × Int))) s) fun l2 =>
 some l2
def lJ (N : Nat) (s : List (Int × Int)) : Option (List (Int × Int)) :=
 Option.bind (app 16 (([] : List (Int × Int))) s) fun l2 =>
 some l2
def pL (N : Nat) (lS dG : Int) (kk : (List (Int × Int) × Int) → Option (List (Int × Int))) : Nat → (List (Int × Int) × Int) → Option (List (Int × Int))
 | 0, _ => none
 | fuel + 1, (l3, y2) =>
  cond (decide (y2 < lS)) (
  Option.bind (app 16 l3 (([(y2, min dG (IntKind.i64.wrap (lS - y2)))] : List (Int × Int)))) fun l5 =>
  Option.bind (some (IntKind.i64.wrap (y2 + dG))) fun y4 =>
  pL N lS dG kk fuel (l5, y4)) (
  kk (l3, y2))
def vM (N : Nat) (nP lS cM dS dG : Int) (dK : List Int) (bS : List (List UInt8)) (bI a8 bA bB bC bJ : Int) (aO : List (Int × Int)) (bD bE bF aS aT aU aV aW aX aY aZ a7 : Int) (aP : List (Int × Int)) (bG : Int) : Option (List (Int × Int)) :=
 pL N lS dG (fun (l6, y5) =>
 some l6) N (([] : List (Int × Int)), 0)
def rV (N : Nat) (n : Int) : Option Bool :=
 cond (decide (1 ≤ n)) (
 some (decide (n ≤ 16))) (
 some false)
def zH (N : Nat) (x6 : Int) (kk : (List Int × Int) → Option (List UInt8 × Int)) : Nat → (List Int × Int) → Option (List UInt8 × Int)
 | 0, _ => none
 | fuel + 1, (l5, i5) =>
  cond (decide (8 ≤ i5)) (
  Option.bind (some (IntKind.i64.wrap (i5 - 8))) fun x9 =>
  Option.bind (nn x9) fun _ =>
  Option.bind (app 1 l5 (([IntKind.u8.wrap (jN .i64 x6 x9)] : List Int))) fun l7 =>
  zH N x6 kk fuel (l7, x9)) (
  kk (l5, i5))
def zI (N : Nat) (d : List Int) (o : Int) (kk : (List Int × Int × Int × Int) → Option (List UInt8 × Int)) : Nat → (List Int × Int × Int × Int) → Option (List UInt8 × Int)
 | 0, _ => none
 | fuel + 1, (l2, i, i2, i3) =>
  cond (decide (i3 < (d.length : Int))) (
  Option.bind (idx d i3) fun e2 =>
  cond (decide (e2 < 0)) (
  some (([] : List UInt8), 3)) (
  Option.bind (nn o) fun _ =>
  cond (decide ((rB .i64 1 o) ≤ e2)) (
  some (([] : List UInt8), 3)) (
  Option.bind (nn o) fun _ =>
  Option.bind (some (MC .i64 (rB .i64 i o) e2)) fun x6 =>
  Option.bind (some (IntKind.i64.wrap (i2 + o))) fun x7 =>
  zH N x6 (fun (l8, i6) =>
  Option.bind (nn i6) fun _ =>
  Option.bind (some (Cb .i64 x6 (IntKind.i64.wrap ((rB .i64 1 i6) - 1)))) fun x10 =>
  zI N d o kk fuel (l8, x10, i6, IntKind.i64.wrap (i3 + 1))) N (l2, x7)))) (
  kk (l2, i, i2, i3))
def Cf (N : Nat) (d : List Int) (o : Int) : Option (List UInt8 × Int) :=
 Option.bind (rV N o) fun r2 =>
 cond (!(r2)) (
 some (([] : List UInt8), 3)) (
 cond (decide (4096 < (d.length : Int))) (
 some (([] : List UInt8), 2)) (
 Option.bind (QQ 1 (IntKind.i64.wrap (Int.tdiv (IntKind.i64.wrap ((IntKind.i64.wrap ((d.length : Int) * o)) + 7)) 8))) fun _ =>
 zI N d o (fun (l9, i7, i8, i9) =>
 cond (decide (0 < i8)) (
 Option.bind (nn (IntKind.i64.wrap (8 - i8))) fun _ =>
 Option.bind (app 1 l9 (([IntKind.u8.wrap (rB .i64 i7 (IntKind.i64.wrap (8 - i8)))] : List Int))) fun l10 =>
 some (toB l10, 0)) (
 some (toB l9, 0))) N (([] : List Int), 0, 0, 0)))
def zJ (N : Nat) (rI : List Int) (kk : Int → Option Bool) : Nat → Int → Option Bool
 | 0, _ => none
 | fuel + 1, i =>
  cond (decide (i < (rI.length : Int))) (
  Option.bind (idx rI i) fun e2 =>
  cond (decide (e2 < 0)) (
  some false) (
  cond (decide (65535 < e2)) (
  some false) (
  zJ N rI kk fuel (IntKind.i64.wrap (i + 1))))) (
  kk i)
def Cg (N : Nat) (zK z7 : Int) (rI : List Int) : Option Bool :=
 cond (decide (zK < 1)) (
 some false) (
 cond (decide (64 < zK)) (
 some false) (
 cond (decide (z7 < 1)) (
 some false) (
 cond (decide (64 < z7)) (
 some false) (
 cond (!decide ((rI.length : Int) = (IntKind.i64.wrap (zK * z7)))) (
 some false) (
 zJ N rI (fun i2 =>
 some true) N 0)))))
def rO (N : Nat) (x2 : Int) : Option Bool :=
 some (!decide (x2 = x2))
def sL (N : Nat) (x2 y : Int) : Option Int :=
 Option.bind (rO N x2) fun r2 =>
 Option.bind (rO N y) fun r3 =>
 cond (r2) (
 cond (r3) (
 some 0) (
 some ((-1)))) (
 cond (r3) (
 some 1) (
 cond (decide (x2 < y)) (
 some ((-1))) (
 cond (decide (y < x2)) (
 some 1) (
 some 0))))
def sY (N : Nat) (a2 b : Int) (v0 : List Int) : Option Int :=
 Option.bind (idx v0 a2) fun e =>
 Option.bind (idx v0 b) fun e2 =>
 Option.bind (sL N e e2) fun r2 =>
 some r2
def oN (N : Nat) (n size : Int) (kk : (List Int × Int × Int) → Option (List UInt8)) : Nat → (List Int × Int × Int) → Option (List UInt8)
 | 0, _ => none
 | fuel + 1, (l3, i, i2) =>
  cond (decide (i2 < i)) (
  Option.bind (nn (IntKind.i64.wrap ((IntKind.i64.wrap (size - 1)) - i2))) fun _ =>
  Option.bind (idx ([48, 49] : List UInt8) (Cb .i64 (jN .i64 n (IntKind.i64.wrap ((IntKind.i64.wrap (size - 1)) - i2))) 1)) fun b2 =>
  Option.bind (idx l3 i2) fun e2 =>
  Option.bind (uU l3 i2 (b2.toNat : Int)) fun l5 =>
  oN N n size kk fuel (l5, i, IntKind.i64.wrap (i2 + 1))) (
  kk (l3, i, i2))
def p6 (N : Nat) (n size : Int) : Option (List UInt8) :=
 Option.bind (mk 1 size (0 : Int)) fun l2 =>
 oN N n size (fun (l6, i3, i4) =>
 some (toB l6)) N (l2, (l2.length : Int), 0)
def nE (N : Nat) (n size : Int) : Option (List UInt8 × Int) :=
 cond (decide (size < 0)) (
 some (([] : List UInt8), 3)) (
 cond (decide (16 < size)) (
 some (([] : List UInt8), 3)) (
 cond (decide (n < 0)) (
 some (([] : List UInt8), 3)) (
 Option.bind (nn size) fun _ =>
 cond (decide ((rB .i64 1 size) ≤ n)) (
 some (([] : List UInt8), 3)) (
 Option.bind (p6 N n size) fun r2 =>
 some (r2, 0)))))
def pM (N : Nat) (d : List Int) (kk : (List Int × Int) → Option (List (List UInt8) × Int)) : Nat → (List Int × Int) → Option (List (List UInt8) × Int)
 | 0, _ => none
 | fuel + 1, (Lf, j4) =>
  cond (decide (0 < j4)) (
  Option.bind (idx Lf j4) fun e20 =>
  Option.bind (idx Lf (IntKind.i64.wrap (j4 - 1))) fun e21 =>
  Option.bind (sY N e20 e21 d) fun r5 =>
  cond (decide (r5 < 0)) (
  Option.bind (idx Lf (IntKind.i64.wrap (j4 - 1))) fun e22 =>
  Option.bind (idx Lf j4) fun e23 =>
  Option.bind (idx Lf j4) fun e24 =>
  Option.bind (uU Lf j4 e22) fun Z8 =>
  Option.bind (idx Z8 (IntKind.i64.wrap (j4 - 1))) fun e25 =>
  Option.bind (uU Z8 (IntKind.i64.wrap (j4 - 1)) e23) fun Z9 =>
  Option.bind (some (IntKind.i64.wrap (j4 - 1))) fun j7 =>
  pM N d kk fuel (Z9, j7)) (
  kk (Lf, j4))) (
  kk (Lf, j4))
def mL (N : Nat) (d E5 : List Int) (kk : (List (List UInt8) × Int × Int) → Option (List (List UInt8) × Int)) : Nat → (List (List UInt8) × Int × Int) → Option (List (List UInt8) × Int)
 | 0, _ => none
 | fuel + 1, (Q5, i8, i9) =>
  cond (decide (i9 < (E5.length : Int))) (
  Option.bind (idx E5 i9) fun e33 =>
  Option.bind (idx d e33) fun e34 =>
  Option.bind (nn (IntKind.i64.wrap (15 - e34))) fun _ =>
  Option.bind (idx d e33) fun e35 =>
  Option.bind (nE N (jN .i64 i8 (IntKind.i64.wrap (15 - e34))) e35) fun r7 =>
  Option.bind (idx Q5 e33) fun e36 =>
  Option.bind (uU Q5 e33 r7.1) fun l27 =>
  Option.bind (idx d e33) fun e37 =>
  Option.bind (nn (IntKind.i64.wrap (15 - e37))) fun _ =>
  Option.bind (some (IntKind.i64.wrap (i8 + (rB .i64 1 (IntKind.i64.wrap (15 - e37)))))) fun x4 =>
  mL N d E5 kk fuel (l27, x4, IntKind.i64.wrap (i9 + 1))) (
  kk (Q5, i8, i9))
def lQ (N : Nat) (d : List Int) (kk : (List Int × Int × Int) → Option (List (List UInt8) × Int)) : Nat → (List Int × Int × Int) → Option (List (List UInt8) × Int)
 | 0, _ => none
 | fuel + 1, (l7, b, i4) =>
  cond (decide (i4 < b)) (
  pM N d (fun (Ww, j9) =>
  Option.bind (some (IntKind.i64.wrap (i4 + 1))) fun i6 =>
  lQ N d kk fuel (Ww, b, i6)) N (l7, i4)) (
  kk (l7, b, i4))
def nX (N : Nat) (d : List Int) (kk : (List Int × Int) → Option (List (List UInt8) × Int)) : Nat → (List Int × Int) → Option (List (List UInt8) × Int)
 | 0, _ => none
 | fuel + 1, (l3, i) =>
  cond (decide (i < (d.length : Int))) (
  Option.bind (idx d i) fun e3 =>
  cond (decide (0 < e3)) (
  Option.bind (app 8 l3 ([i] : List Int)) fun l5 =>
  nX N d kk fuel (l5, IntKind.i64.wrap (i + 1))) (
  nX N d kk fuel (l3, IntKind.i64.wrap (i + 1)))) (
  kk (l3, i))
def pQ (N : Nat) (d : List Int) : Option (List (List UInt8) × Int) :=
 Option.bind (rH N d) fun r2 =>
 cond (!decide (r2 = 0)) (
 some (([] : List (List UInt8)), r2)) (
 nX N d (fun (l6, i2) =>
 cond (decide (20 ≤ (l6.length : Int))) none (
 Option.bind (some (IntKind.i64.wrap (0 + 1))) fun i3 =>
 lQ N d (fun (E5, b2, i7) =>
 Option.bind (AK l6 E5) fun _ =>
 cond (decide (20 < (E5.length : Int))) none (
 Option.bind (AK l6 E5) fun _ =>
 Option.bind (AK l6 E5) fun _ =>
 Option.bind (some ((d.length : Int))) fun x2 =>
 Option.bind (mk 16 x2 (([] : List UInt8) : List UInt8)) fun Vz =>
 mL N d E5 (fun (Sf, Fo, i11) =>
 some (Sf, 0)) N (Vz, 0, 0))) N (l6, (l6.length : Int), i3))) N (([] : List Int), 0))
def nF (N : Nat) (mY nQ : Int) (tZ : List Int) (o p2 : Int) : Option Int :=
 Option.bind (nz mY) fun _ =>
 Option.bind (nz mY) fun _ =>
 cond (decide (p2 = 0)) (
 some 32768) (
 cond (decide ((IntKind.i64.wrap (Int.tdiv p2 mY)) = 0)) (
 Option.bind (idx tZ (IntKind.i64.wrap (p2 - 1))) fun e =>
 some e) (
 cond (decide ((Int.tmod p2 mY) = 0)) (
 Option.bind (idx tZ (IntKind.i64.wrap (p2 - mY))) fun e2 =>
 some e2) (
 Option.bind (idx tZ (IntKind.i64.wrap (p2 - 1))) fun e3 =>
 Option.bind (idx tZ (IntKind.i64.wrap (p2 - mY))) fun e4 =>
 Option.bind (idx tZ (IntKind.i64.wrap ((IntKind.i64.wrap (p2 - mY)) - 1))) fun e5 =>
 Option.bind (idx [0, e3, e4, e5, IntKind.i64.wrap ((IntKind.i64.wrap (e3 + e4)) - e5), IntKind.i64.wrap (e3 + (jN .i64 (IntKind.i64.wrap (e4 - e5)) 1)), IntKind.i64.wrap (e4 + (jN .i64 (IntKind.i64.wrap (e3 - e5)) 1)), jN .i64 (IntKind.i64.wrap (e3 + e4)) 1] o) fun e6 =>
 some e6)))
def vN (N : Nat) (x2 : Int) : Option Int :=
 cond (decide (4294967296 ≤ x2)) (
 Option.bind (some (jN .u64 x2 32)) fun x3 =>
 cond (decide (65536 ≤ x3)) (
 Option.bind (some (jN .u64 x3 16)) fun x4 =>
 Option.bind (some (IntKind.i64.wrap (32 + 16))) fun n =>
 cond (decide (256 ≤ x4)) (
 Option.bind (some (jN .u64 x4 8)) fun x5 =>
 Option.bind (some (IntKind.i64.wrap (n + 8))) fun n2 =>
 Option.bind (idx Jl (IntKind.u8.wrap x5)) fun b =>
 Option.bind (some (IntKind.i64.wrap (n2 + (IntKind.i64.wrap (b.toNat : Int))))) fun n3 =>
 some n3) (
 Option.bind (idx Jl (IntKind.u8.wrap x4)) fun b2 =>
 Option.bind (some (IntKind.i64.wrap (n + (IntKind.i64.wrap (b2.toNat : Int))))) fun n4 =>
 some n4)) (
 cond (decide (256 ≤ x3)) (
 Option.bind (some (jN .u64 x3 8)) fun x6 =>
 Option.bind (some (IntKind.i64.wrap (32 + 8))) fun n5 =>
 Option.bind (idx Jl (IntKind.u8.wrap x6)) fun b3 =>
 Option.bind (some (IntKind.i64.wrap (n5 + (IntKind.i64.wrap (b3.toNat : Int))))) fun n6 =>
 some n6) (
 Option.bind (idx Jl (IntKind.u8.wrap x3)) fun b4 =>
 Option.bind (some (IntKind.i64.wrap (32 + (IntKind.i64.wrap (b4.toNat : Int))))) fun n7 =>
 some n7))) (
 cond (decide (65536 ≤ x2)) (
 Option.bind (some (jN .u64 x2 16)) fun x7 =>
 Option.bind (some (IntKind.i64.wrap (0 + 16))) fun n8 =>
 cond (decide (256 ≤ x7)) (
 Option.bind (some (jN .u64 x7 8)) fun x8 =>
 Option.bind (some (IntKind.i64.wrap (n8 + 8))) fun n9 =>
 Option.bind (idx Jl (IntKind.u8.wrap x8)) fun b5 =>
 Option.bind (some (IntKind.i64.wrap (n9 + (IntKind.i64.wrap (b5.toNat : Int))))) fun n10 =>
 some n10) (
 Option.bind (idx Jl (IntKind.u8.wrap x7)) fun b6 =>
 Option.bind (some (IntKind.i64.wrap (n8 + (IntKind.i64.wrap (b6.toNat : Int))))) fun n11 =>
 some n11)) (
 cond (decide (256 ≤ x2)) (
 Option.bind (some (jN .u64 x2 8)) fun x9 =>
 Option.bind (some (IntKind.i64.wrap (0 + 8))) fun n12 =>
 Option.bind (idx Jl (IntKind.u8.wrap x9)) fun b7 =>
 Option.bind (some (IntKind.i64.wrap (n12 + (IntKind.i64.wrap (b7.toNat : Int))))) fun n13 =>
 some n13) (
 Option.bind (idx Jl (IntKind.u8.wrap x2)) fun b8 =>
 Option.bind (some (IntKind.i64.wrap (0 + (IntKind.i64.wrap (b8.toNat : Int))))) fun n14 =>
 some n14)))
def uR (N : Nat) (x2 : Int) : Option Int :=
 Option.bind (vN N x2) fun r2 =>
 some r2
def wR (N : Nat) (b : List UInt8) : Option Bool :=
 Option.bind (sW N b ([48, 49] : List UInt8)) fun r2 =>
 cond (decide (r2 = ([] : List UInt8))) (
 Option.bind (pG N b ([48] : List UInt8)) fun r3 =>
 Option.bind (pG N b ([49] : List UInt8)) fun r4 =>
 some (decide ((IntKind.i64.wrap (r3 + r4)) = (b.length : Int)))) (
 some false)
def pN (N : Nat) (b : List UInt8) (kk : (List Int × Int) → Option (List UInt8 × Int)) : Nat → (List Int × Int) → Option (List UInt8 × Int)
 | 0, _ => none
 | fuel + 1, (l3, i) =>
  cond (decide (i < (b.length : Int))) (
  Option.bind (some (IntKind.i64.wrap (Int.tdiv i 8))) fun x4 =>
  Option.bind (idx l3 x4) fun e3 =>
  Option.bind (idx b i) fun b3 =>
  Option.bind (nn (IntKind.i64.wrap (7 - (Int.tmod i 8)))) fun _ =>
  Option.bind (idx l3 x4) fun e4 =>
  Option.bind (uU l3 x4 (MC .u8 e3 (rB .u8 (IntKind.u8.wrap ((b3.toNat : Int) - 48)) (IntKind.i64.wrap (7 - (Int.tmod i 8)))))) fun l5 =>
  pN N b kk fuel (l5, IntKind.i64.wrap (i + 1))) (
  kk (l3, i))
def tS (N : Nat) (b : List UInt8) : Option (List UInt8 × Int) :=
 Option.bind (wR N b) fun r2 =>
 cond (!(r2)) (
 some (([] : List UInt8), 1)) (
 Option.bind (some (IntKind.i64.wrap (Int.tdiv (IntKind.i64.wrap ((b.length : Int) + 7)) 8))) fun x2 =>
 Option.bind (mk 1 x2 (0 : Int)) fun l2 =>
 pN N b (fun (l6, i2) =>
 some (toB l6, 0)) N (l2, 0))
def kT (N : Nat) (mY nQ : Int) (tZ : List Int) (o : Int) (r3 : List (List UInt8) × Int) (kk : (List UInt8 × Int) → Option (List UInt8 × Int)) : Nat → (List UInt8 × Int) → Option (List UInt8 × Int)
 | 0, _ => none
 | fuel + 1, (l2, i) =>
  cond (decide (i < (tZ.length : Int))) (
  Option.bind (idx tZ i) fun e6 =>
  Option.bind (nF N mY nQ tZ o i) fun DM =>
  Option.bind (some (IntKind.i64.wrap (IntKind.u16.wrap (IntKind.i64.wrap (e6 - DM))))) fun x6 =>
  cond (decide (32768 < x6)) (
  Option.bind (some (IntKind.i64.wrap (x6 - 65536))) fun x7 =>
  Option.bind (uR N (IntKind.u64.wrap (max x7 (IntKind.i64.wrap (0 - x7))))) fun sR =>
  cond (decide ((r3.1.length : Int) ≤ sR)) (
  some (([] : List UInt8), 4)) (
  Option.bind (idx r3.1 sR) fun e7 =>
  cond (decide (e7 = ([] : List UInt8))) (
  some (([] : List UInt8), 4)) (
  Option.bind (idx r3.1 sR) fun e8 =>
  Option.bind (NR l2 e8) fun b7 =>
  cond (decide (0 < sR)) (
  cond (decide (sR < 16)) (
  cond (decide (x7 < 0)) (
  Option.bind (nn sR) fun _ =>
  Option.bind (some (IntKind.i64.wrap (x7 + (IntKind.i64.wrap ((rB .i64 1 sR) - 1))))) fun x8 =>
  Option.bind (nE N x8 sR) fun Aq =>
  Option.bind (NR b7 Aq.1) fun b8 =>
  kT N mY nQ tZ o r3 kk fuel (b8, IntKind.i64.wrap (i + 1))) (
  Option.bind (nE N x7 sR) fun Lg =>
  Option.bind (NR b7 Lg.1) fun b9 =>
  kT N mY nQ tZ o r3 kk fuel (b9, IntKind.i64.wrap (i + 1)))) (
  kT N mY nQ tZ o r3 kk fuel (b7, IntKind.i64.wrap (i + 1)))) (
  kT N mY nQ tZ o r3 kk fuel (b7, IntKind.i64.wrap (i + 1)))))) (
  Option.bind (uR N (IntKind.u64.wrap (max x6 (IntKind.i64.wrap (0 - x6))))) fun DN =>
  cond (decide ((r3.1.length : Int) ≤ DN)) (
  some (([] : List UInt8), 4)) (
  Option.bind (idx r3.1 DN) fun e9 =>
  cond (decide (e9 = ([] : List UInt8))) (
  some (([] : List UInt8), 4)) (
  Option.bind (idx r3.1 DN) fun e10 =>
  Option.bind (NR l2 e10) fun b10 =>
  cond (decide (0 < DN)) (
  cond (decide (DN < 16)) (
  cond (decide (x6 < 0)) (
  Option.bind (nn DN) fun _ =>
  Option.bind (some (IntKind.i64.wrap (x6 + (IntKind.i64.wrap ((rB .i64 1 DN) - 1))))) fun x9 =>
  Option.bind (nE N x9 DN) fun r16 =>
  Option.bind (NR b10 r16.1) fun b11 =>
  kT N mY nQ tZ o r3 kk fuel (b11, IntKind.i64.wrap (i + 1))) (
  Option.bind (nE N x6 DN) fun Ch =>
  Option.bind (NR b10 Ch.1) fun b12 =>
  kT N mY nQ tZ o r3 kk fuel (b12, IntKind.i64.wrap (i + 1)))) (
  kT N mY nQ tZ o r3 kk fuel (b10, IntKind.i64.wrap (i + 1)))) (
  kT N mY nQ tZ o r3 kk fuel (b10, IntKind.i64.wrap (i + 1))))))) (
  kk (l2, i))
def Bt (N : Nat) (mY nQ : Int) (tZ : List Int) (o : Int) (p2 : List Int) : Option (List UInt8 × Int) :=
 Option.bind (Cg N mY nQ tZ) fun r2 =>
 cond (!(r2)) (
 some (([] : List UInt8), 1)) (
 cond (decide (o < 1)) (
 some (([] : List UInt8), 6)) (
 cond (decide (7 < o)) (
 some (([] : List UInt8), 6)) (
 Option.bind (pQ N p2) fun r3 =>
 cond (!decide (r3.2 = 0)) (
 some (([] : List UInt8), r3.2)) (
 kT N mY nQ tZ o r3 (fun (l3, i2) =>
 Option.bind (tS N l3) fun BI =>
 some (BI.1, 0)) N (([] : List UInt8), 0)))))
def xA (N : Nat) (fB g8 : Int) (gK : List Int) (Dl : Int) (KI : List Int) (r9 : List (Int × Int)) (kk : (List (List UInt8) × Int) → Option (Int × Int × Int × Int × Int × List Int × List (List UInt8) × Int × Int × Int × Int × Int × Int × List (Int × Int) × Int × Int × Int × Int × Int × Int × Int × Int × Int × Int × Int × Int × List (Int × Int) × Int × Int)) : Nat → (List (List UInt8) × Int) → Option (Int × Int × Int × Int × Int × List Int × List (List UInt8) × Int × Int × Int × Int × Int × Int × List (Int × Int) × Int × Int × Int × Int × Int × Int × Int × Int × Int × Int × Int × Int × List (Int × Int) × Int × Int)
 | 0, _ => none
 | fuel + 1, (sZ, i) =>
  cond (decide (i < (r9.length : Int))) (
  Option.bind (idx r9 i) fun e2 =>
  Option.bind (B5 KI (IntKind.i64.wrap (e2.1 * Dl)) (IntKind.i64.wrap ((IntKind.i64.wrap (e2.1 + e2.2)) * Dl))) fun l3 =>
  Option.bind (Cf N l3 fB) fun sR =>
  cond (decide (0 < g8)) (
  Option.bind (Bt N Dl e2.2 l3 g8 gK) fun Aq =>
  cond (!decide (Aq.2 = 0)) (
  some (0, 0, 0, 0, 0, ([] : List Int), ([] : List (List UInt8)), 0, 0, 0, 0, 0, 0, ([] : List (Int × Int)), 0, 0, 0, 0, 0, 0, 0, 0, 0, 0, 0, 0, ([] : List (Int × Int)), 0, Aq.2)) (
  Option.bind (app 16 sZ (([Aq.1] : List (List UInt8)))) fun EH =>
  xA N fB g8 gK Dl KI r9 kk fuel (EH, IntKind.i64.wrap (i + 1)))) (
  cond (!decide (sR.2 = 0)) (
  some (0, 0, 0, 0, 0, ([] : List Int), ([] : List (List UInt8)), 0, 0, 0, 0, 0, 0, ([] : List (Int × Int)), 0, 0, 0, 0, 0, 0, 0, 0, 0, 0, 0, 0, ([] : List (Int × Int)), 0, sR.2)) (
  Option.bind (app 16 sZ (([sR.1] : List (List UInt8)))) fun EI =>
  xA N fB g8 gK Dl KI r9 kk fuel (EI, IntKind.i64.wrap (i + 1))))) (
  kk (sZ, i))
def Dm (N : Nat) (mY nQ fB g8 iR : Int) (gK : List Int) (dR : List (List UInt8)) (dI cQ cR cU cV dJ : Int) (bX : List (Int × Int)) (cW cZ dA cB cC cD cE cG cH cJ cK cL : Int) (bY : List (Int × Int)) (cP Dl Ja : Int) (KI : List Int) : Option (Int × Int × Int × Int × Int × List Int × List (List UInt8) × Int × Int × Int × Int × Int × Int × List (Int × Int) × Int × Int × Int × Int × Int × Int × Int × Int × Int × Int × Int × Int × List (Int × Int) × Int × Int) :=
 Option.bind (wP N mY nQ fB g8 iR gK dR dI cQ cR cU cV dJ bX cW cZ dA cB cC cD cE cG cH cJ cK cL bY cP) fun r2 =>
 cond (!decide (r2 = 0)) (
 some (0, 0, 0, 0, 0, ([] : List Int), ([] : List (List UInt8)), 0, 0, 0, 0, 0, 0, ([] : List (Int × Int)), 0, 0, 0, 0, 0, 0, 0, 0, 0, 0, 0, 0, ([] : List (Int × Int)), 0, r2)) (
 Option.bind (wQ N mY nQ fB g8 iR gK dR dI cQ cR cU cV dJ bX cW cZ dA cB cC cD cE cG cH cJ cK cL bY cP) fun r3 =>
 cond (!decide (r3 = 0)) (
 some (0, 0, 0, 0, 0, ([] : List Int), ([] : List (List UInt8)), 0, 0, 0, 0, 0, 0, ([] : List (Int × Int)), 0, 0, 0, 0, 0, 0, 0, 0, 0, 0, 0, 0, ([] : List (Int × Int)), 0, r3)) (
 Option.bind (xL N Dl Ja KI (([] : List (Int × Int)))) fun r4 =>
 cond (!decide (r4.2.2.2 = 0)) (
 some (0, 0, 0, 0, 0, ([] : List Int), ([] : List (List UInt8)), 0, 0, 0, 0, 0, 0, ([] : List (Int × Int)), 0, 0, 0, 0, 0, 0, 0, 0, 0, 0, 0, 0, ([] : List (Int × Int)), 0, 1)) (
 cond (!decide (Dl = mY)) (
 some (0, 0, 0, 0, 0, ([] : List Int), ([] : List (List UInt8)), 0, 0, 0, 0, 0, 0, ([] : List (Int × Int)), 0, 0, 0, 0, 0, 0, 0, 0, 0, 0, 0, 0, ([] : List (Int × Int)), 0, 1)) (
 cond (!decide (Ja = nQ)) (
 some (0, 0, 0, 0, 0, ([] : List Int), ([] : List (List UInt8)), 0, 0, 0, 0, 0, 0, ([] : List (Int × Int)), 0, 0, 0, 0, 0, 0, 0, 0, 0, 0, 0, 0, ([] : List (Int × Int)), 0, 1)) (
 Option.bind (lF N KI) fun r5 =>
 Option.bind (nn fB) fun _ =>
 cond (decide (0 < (jN .i64 r5 fB))) (
 some (0, 0, 0, 0, 0, ([] : List Int), ([] : List (List UInt8)), 0, 0, 0, 0, 0, 0, ([] : List (Int × Int)), 0, 0, 0, 0, 0, 0, 0, 0, 0, 0, 0, 0, ([] : List (Int × Int)), 0, 1)) (
 Option.bind (qH N gK) fun r6 =>
 Option.bind (mC N bX) fun r7 =>
 Option.bind (lJ N bY) fun r8 =>
 Option.bind (vM N mY nQ fB g8 iR gK dR dI cQ cR cU cV dJ bX cW cZ dA cB cC cD cE cG cH cJ cK cL bY cP) fun r9 =>
 xA N fB g8 gK Dl KI r9 (fun (EJ, i2) =>
 some (mY, nQ, fB, g8, iR, r6, EJ, dI, cQ, cR, cU, cV, dJ, r7, cW, cZ, dA, cB, cC, cD, cE, cG, cH, cJ, cK, cL, r8, cP, 0)) N (([] : List (List UInt8)), 0)))))))
def bU (N : Nat) (n low high : Int) : Option Bool :=
 cond (decide (low ≤ n)) (
 some (decide (n ≤ high))) (
 some false)
def hF (N : Nat) (lens : List Int) (kk : (Int × Bool × Int) → Option Int) : Nat → (Int × Bool × Int) → Option Int
 | 0, _ => none
 | fuel + 1, (sum, used, i) =>
  cond (decide (i < (lens.length : Int))) (
  Option.bind (idx lens i) fun e4 =>
  Option.bind (bU N e4 0 15) fun r4 =>
  cond (!(r4)) (
  some 3) (
  Option.bind (idx lens i) fun e5 =>
  cond (decide (0 < e5)) (
  Option.bind (idx lens i) fun e6 =>
  Option.bind (nn (IntKind.i64.wrap (15 - e6))) fun _ =>
  Option.bind (some (IntKind.i64.wrap (sum + (rB .i64 1 (IntKind.i64.wrap (15 - e6)))))) fun TS =>
  Option.bind (some (IntKind.i64.wrap (i + 1))) fun i4 =>
  hF N lens kk fuel (TS, true, i4)) (
  Option.bind (some (IntKind.i64.wrap (i + 1))) fun i5 =>
  hF N lens kk fuel (sum, used, i5)))) (
  kk (sum, used, i))
def hU (N : Nat) (lens : List Int) : Option Int :=
 Option.bind (bU N (lens.length : Int) 1 17) fun r2 =>
 cond (!(r2)) (
 some 2) (
 hF N lens (fun (Q6, Jt, i6) =>
 cond (!(Jt)) (
 some 1) (
 cond (decide (32768 < Q6)) (
 some 1) (
 some 0))) N (0, false, 0))
def lK (N : Nat) (nP lS cM dS dG : Int) (dK : List Int) (bS : List (List UInt8)) (bI a8 bA bB bC bJ : Int) (aO : List (Int × Int)) (bD bE bF aS aT aU aV aW aX aY aZ a7 : Int) (aP : List (Int × Int)) (bG : Int) : Option Int :=
 Option.bind (bU N nP 1 64) fun r2 =>
 cond (!(r2)) (
 some 3) (
 Option.bind (bU N lS 1 64) fun r3 =>
 cond (!(r3)) (
 some 3) (
 Option.bind (bU N cM 1 16) fun r4 =>
 cond (!(r4)) (
 some 3) (
 Option.bind (bU N dG 1 lS) fun r5 =>
 cond (!(r5)) (
 some 3) (
 Option.bind (bU N dS 0 7) fun r6 =>
 cond (!(r6)) (
 some 6) (
 cond (decide (dS = 0)) (
 cond (decide (0 < (dK.length : Int))) (
 some 1) (
 cond (decide (0 < dS)) (
 Option.bind (hU N dK) fun r7 =>
 some r7) (
 some 0))) (
 cond (decide (0 < dS)) (
 Option.bind (hU N dK) fun r8 =>
 some r8) (
 some 0)))))))
def jP (N : Nat) (l2 : List (Int × Int)) (w2 h2 : Int) (kk : Int → Option Bool) : Nat → Int → Option Bool
 | 0, _ => none
 | fuel + 1, i =>
  cond (decide (i < (l2.length : Int))) (
  Option.bind (idx l2 i) fun e3 =>
  Option.bind (bU N e3.1 0 (IntKind.i64.wrap (w2 - 1))) fun r4 =>
  cond (!(r4)) (
  some false) (
  Option.bind (idx l2 i) fun e4 =>
  Option.bind (bU N e4.2 0 (IntKind.i64.wrap (h2 - 1))) fun r5 =>
  cond (!(r5)) (
  some false) (
  Option.bind (some (IntKind.i64.wrap (i + 1))) fun i3 =>
  jP N l2 w2 h2 kk fuel i3))) (
  kk i)
def mG (N : Nat) (l2 : List (Int × Int)) (w2 h2 : Int) : Option Bool :=
 jP N l2 w2 h2 (fun i4 =>
 some true) N 0
def jQ (N : Nat) (m0 m1 m2 m3 m4 m5 m6 m7 m8 : Int) (kk : Int → Option Bool) : Nat → Int → Option Bool
 | 0, _ => none
 | fuel + 1, i =>
  cond (decide (i < 9)) (
  Option.bind (inr i 9) fun _ =>
  Option.bind (idx [m0, m1, m2, m3, m4, m5, m6, m7, m8] i) fun e2 =>
  Option.bind (bU N e2 (-32768) 32768) fun r3 =>
  cond (!(r3)) (
  some false) (
  Option.bind (some (IntKind.i64.wrap (i + 1))) fun i3 =>
  jQ N m0 m1 m2 m3 m4 m5 m6 m7 m8 kk fuel i3)) (
  kk i)
def mH (N : Nat) (m0 m1 m2 m3 m4 m5 m6 m7 m8 : Int) : Option Bool :=
 jQ N m0 m1 m2 m3 m4 m5 m6 m7 m8 (fun i4 =>
 some true) N 0
def hG (N : Nat) (d : List (Int × Int)) (kk : Int → Option Bool) : Nat → Int → Option Bool
 | 0, _ => none
 | fuel + 1, i =>
  cond (decide (i < (d.length : Int))) (
  Option.bind (idx d i) fun e8 =>
  Option.bind (bU N e8.2 0 65535) fun r4 =>
  cond (!(r4)) (
  some false) (
  cond (decide (0 < i)) (
  Option.bind (idx d i) fun e9 =>
  Option.bind (idx d (IntKind.i64.wrap (i - 1))) fun e10 =>
  cond (decide (e9.1 ≤ e10.1)) (
  some false) (
  Option.bind (idx d i) fun e11 =>
  Option.bind (idx d (IntKind.i64.wrap (i - 1))) fun e12 =>
  cond (decide (e11.2 < e12.2)) (
  some false) (
  Option.bind (some (IntKind.i64.wrap (i + 1))) fun x4 =>
  hG N d kk fuel x4))) (
  Option.bind (some (IntKind.i64.wrap (i + 1))) fun x5 =>
  hG N d kk fuel x5))) (
  kk i)
def gR (N : Nat) (d : List (Int × Int)) : Option Bool :=
 Option.bind (bU N (d.length : Int) 2 16) fun r2 =>
 cond (!(r2)) (
 some false) (
 Option.bind (idx d 0) fun e =>
 cond (!decide (e.1 = 0)) (
 some false) (
 Option.bind (idx d (IntKind.i64.wrap ((d.length : Int) - 1))) fun e2 =>
 cond (!decide (e2.1 = 65535)) (
 some false) (
 hG N d (fun i2 =>
 some true) N 0)))
def eU (N : Nat) (Ii Ij Ik : Int) (kk : Int → Option Int) : Nat → Int → Option Int
 | 0, _ => none
 | fuel + 1, i3 =>
  cond (decide (i3 < 3)) (
  Option.bind (inr i3 3) fun _ =>
  Option.bind (idx [Ii, Ij, Ik] i3) fun e4 =>
  Option.bind (bU N e4 0 65535) fun MJ =>
  cond (!(MJ)) (
  some 3) (
  Option.bind (some (IntKind.i64.wrap (i3 + 1))) fun x5 =>
  eU N Ii Ij Ik kk fuel x5)) (
  kk i3)
def eV (N : Nat) (Il Im In Io dc : Int) (kk : Int → Option Int) : Nat → Int → Option Int
 | 0, _ => none
 | fuel + 1, i =>
  cond (decide (i < 4)) (
  Option.bind (inr i 4) fun _ =>
  Option.bind (idx [Il, Im, In, Io] i) fun e2 =>
  Option.bind (bU N e2 0 (IntKind.i64.wrap (dc - 1))) fun r8 =>
  cond (!(r8)) (
  some 3) (
  Option.bind (some (IntKind.i64.wrap (i + 1))) fun x3 =>
  eV N Il Im In Io dc kk fuel x3)) (
  kk i)
def lL (N : Nat) (da Il Im In Io dc : Int) (dd : List (Int × Int)) (Ii Ij Ik KJ KK df2 KL KN KO KQ KS KT : Int) (dg : List (Int × Int)) (dh : Int) : Option Int :=
 Option.bind (bU N da 0 3) fun r2 =>
 cond (!(r2)) (
 some 3) (
 Option.bind (bU N dc 1 65535) fun r3 =>
 cond (!(r3)) (
 some 3) (
 cond (decide (64 < (dd.length : Int))) (
 some 3) (
 Option.bind (mG N dd 64 64) fun r4 =>
 cond (!(r4)) (
 some 3) (
 Option.bind (mH N KJ KK df2 KL KN KO KQ KS KT) fun r5 =>
 cond (!(r5)) (
 some 3) (
 Option.bind (bU N dh 0 1024) fun r6 =>
 cond (!(r6)) (
 some 3) (
 eV N Il Im In Io dc (fun i2 =>
 eU N Ii Ij Ik (fun i4 =>
 Option.bind (gR N dg) fun DM =>
 cond (!(DM)) (
 some 1) (
 some 0)) N 0) N 0))))))
def lM (N : Nat) (nP lS cM dS dG : Int) (dK : List Int) (bS : List (List UInt8)) (bI a8 bA bB bC bJ : Int) (aO : List (Int × Int)) (bD bE bF aS aT aU aV aW aX aY aZ a7 : Int) (aP : List (Int × Int)) (bG : Int) : Option Int :=
 Option.bind (lL N bI a8 bA bB bC bJ aO bD bE bF aS aT aU aV aW aX aY aZ a7 aP bG) fun r2 =>
 cond (!decide (r2 = 0)) (
 some r2) (
 Option.bind (mG N aO nP lS) fun r3 =>
 cond (!(r3)) (
 some 3) (
 some 0))
def iX (N : Nat) (rI : List Int) (kk : Int → Option Bool) : Nat → Int → Option Bool
 | 0, _ => none
 | fuel + 1, i =>
  cond (decide (i < (rI.length : Int))) (
  Option.bind (idx rI i) fun e2 =>
  Option.bind (bU N e2 0 65535) fun r5 =>
  cond (!(r5)) (
  some false) (
  Option.bind (some (IntKind.i64.wrap (i + 1))) fun i3 =>
  iX N rI kk fuel i3)) (
  kk i)
def lN (N : Nat) (zK z7 : Int) (rI : List Int) : Option Bool :=
 Option.bind (bU N zK 1 64) fun r2 =>
 cond (!(r2)) (
 some false) (
 Option.bind (bU N z7 1 64) fun r3 =>
 cond (!(r3)) (
 some false) (
 cond (!decide ((rI.length : Int) = (IntKind.i64.wrap (zK * z7)))) (
 some false) (
 iX N rI (fun i4 =>
 some true) N 0)))
def jR (N : Nat) (l2 : List Int) (depth : Int) (kk : Int → Option Bool) : Nat → Int → Option Bool
 | 0, _ => none
 | fuel + 1, i =>
  cond (decide (i < (l2.length : Int))) (
  Option.bind (idx l2 i) fun e2 =>
  Option.bind (nn depth) fun _ =>
  cond (decide ((IntKind.i64.wrap ((rB .i64 1 depth) - 1)) < e2)) (
  some false) (
  Option.bind (some (IntKind.i64.wrap (i + 1))) fun i3 =>
  jR N l2 depth kk fuel i3)) (
  kk i)
def mI (N : Nat) (l2 : List Int) (depth : Int) : Option Bool :=
 jR N l2 depth (fun i4 =>
 some true) N 0
def nI (N : Nat) (nP lS cM dS dG : Int) (dK : List Int) (bS : List (List UInt8)) (bI a8 bA bB bC bJ : Int) (aO : List (Int × Int)) (bD bE bF aS aT aU aV aW aX aY aZ a7 : Int) (aP : List (Int × Int)) (bG : Int) : Option Int :=
 Option.bind (nz dG) fun _ =>
 some (IntKind.i64.wrap (Int.tdiv (IntKind.i64.wrap ((IntKind.i64.wrap (lS + dG)) - 1)) dG))
def o6 (N : Nat) (nP lS cM dS dG : Int) (dK : List Int) (bS : List (List UInt8)) (bI a8 bA bB bC bJ : Int) (aO : List (Int × Int)) (bD bE bF aS aT aU aV aW aX aY aZ a7 : Int) (aP : List (Int × Int)) (bG strip : Int) : Option Int :=
 some (min dG (IntKind.i64.wrap (lS - (IntKind.i64.wrap (strip * dG)))))
def iF (N : Nat) : Nat → Int → Int → Option (List UInt8)
 | 0, _, _ => none
 | fu + 1, n, size =>
  cond (decide (size = 0)) (
  some (([] : List UInt8))) (
  Option.bind (iF N fu (IntKind.i64.wrap (Int.tdiv n 2)) (IntKind.i64.wrap (size - 1))) fun r2 =>
  Option.bind (F9 r2 (toB (([IntKind.u8.wrap (48 + (IntKind.u8.wrap (Int.tmod n 2)))] : List Int)))) fun s =>
  some s)
def kE (N : Nat) (n size : Int) : Option (List UInt8) := iF N N n size
def iG (N : Nat) (b : List UInt8) (i : Int) (kk : (Int × Int) → Option (List UInt8)) : Nat → (Int × Int) → Option (List UInt8)
 | 0, _ => none
 | fuel + 1, (n4, k5) =>
  cond (decide (k5 < (IntKind.i64.wrap (i + 8)))) (
  Option.bind (some (IntKind.i64.wrap (2 * n4))) fun n7 =>
  cond (decide (k5 < (b.length : Int))) (
  Option.bind (idx b k5) fun b4 =>
  cond (decide ((b4.toNat : Int) = 49)) (
  Option.bind (some (IntKind.i64.wrap (n7 + 1))) fun n8 =>
  Option.bind (some (IntKind.i64.wrap (k5 + 1))) fun k9 =>
  iG N b i kk fuel (n8, k9)) (
  Option.bind (some (IntKind.i64.wrap (k5 + 1))) fun k10 =>
  iG N b i kk fuel (n7, k10))) (
  Option.bind (some (IntKind.i64.wrap (k5 + 1))) fun k11 =>
  iG N b i kk fuel (n7, k11))) (
  kk (n4, k5))
def jC (N : Nat) (b : List UInt8) (kk : (List Int × Int) → Option (List UInt8)) : Nat → (List Int × Int) → Option (List UInt8)
 | 0, _ => none
 | fuel + 1, (l2, i) =>
  cond (decide (i < (b.length : Int))) (
  iG N b i (fun (n9, k12) =>
  Option.bind (app 1 l2 ([IntKind.u8.wrap n9] : List Int)) fun l4 =>
  Option.bind (some (IntKind.i64.wrap (i + 8))) fun i3 =>
  jC N b kk fuel (l4, i3)) N (0, i)) (
  kk (l2, i))
def iS (N : Nat) (b : List UInt8) : Option (List UInt8) :=
 Option.bind (QQ 1 (IntKind.i64.wrap ((IntKind.i64.wrap (Int.tdiv (b.length : Int) 8)) + 1))) fun _ =>
 jC N b (fun (l5, i4) =>
 some (toB l5)) N (([] : List Int), 0)
def j6 (N : Nat) (l2 : List Int) (depth : Int) (kk : (List Int × Int) → Option (List UInt8)) : Nat → (List Int × Int) → Option (List UInt8)
 | 0, _ => none
 | fuel + 1, (l4, i2) =>
  cond (decide (i2 < (l2.length : Int))) (
  Option.bind (idx l2 i2) fun e3 =>
  Option.bind (kE N e3 depth) fun r4 =>
  Option.bind (app 1 l4 (qG r4)) fun l6 =>
  Option.bind (some (IntKind.i64.wrap (i2 + 1))) fun i4 =>
  j6 N l2 depth kk fuel (l6, i4)) (
  kk (l4, i2))
def lG (N : Nat) (l2 : List Int) (depth : Int) : Option (List UInt8) :=
 j6 N l2 depth (fun (l7, i5) =>
 Option.bind (iS N (toB l7)) fun r5 =>
 some r5) N (([] : List Int), 0)
def iN (N : Nat) (lens : List Int) (size : Int) (kk : (List (List UInt8) × Int × Int × Int) → Option (List (List UInt8))) : Nat → (List (List UInt8) × Int × Int × Int) → Option (List (List UInt8))
 | 0, _ => none
 | fuel + 1, (l6, E6, last3, i4) =>
  cond (decide (i4 < (lens.length : Int))) (
  Option.bind (idx lens i4) fun e5 =>
  cond (!decide (e5 = size)) (
  Option.bind (some (IntKind.i64.wrap (i4 + 1))) fun i7 =>
  iN N lens size kk fuel (l6, E6, last3, i7)) (
  Option.bind (nn (IntKind.i64.wrap (size - last3))) fun _ =>
  Option.bind (some (rB .i64 E6 (IntKind.i64.wrap (size - last3)))) fun OA =>
  Option.bind (kE N OA size) fun r4 =>
  Option.bind (idx l6 i4) fun e6 =>
  Option.bind (uU l6 i4 r4) fun l8 =>
  Option.bind (some (IntKind.i64.wrap (OA + 1))) fun OB =>
  Option.bind (some (IntKind.i64.wrap (i4 + 1))) fun i8 =>
  iN N lens size kk fuel (l8, OB, size, i8))) (
  kk (l6, E6, last3, i4))
def jS (N : Nat) (lens : List Int) (kk : (List (List UInt8) × Int × Int × Int) → Option (List (List UInt8))) : Nat → (List (List UInt8) × Int × Int × Int) → Option (List (List UInt8))
 | 0, _ => none
 | fuel + 1, (l3, next, last, size) =>
  cond (decide (size ≤ 15)) (
  iN N lens size (fun (l9, Lh, OC, i9) =>
  Option.bind (some (IntKind.i64.wrap (size + 1))) fun OD =>
  jS N lens kk fuel (l9, Lh, OC, OD)) N (l3, next, last, 0)) (
  kk (l3, next, last, size))
def jW (N : Nat) (lens : List Int) : Option (List (List UInt8)) :=
 Option.bind (some ((lens.length : Int))) fun x2 =>
 Option.bind (mk 16 x2 (([] : List UInt8) : List UInt8)) fun l2 =>
 jS N lens (fun (l10, TT, Wx, Wy) =>
 some l10) N (l2, 0, 0, 1)
def fY (N : Nat) (zK z7 : Int) (rI : List Int) (x2 y : Int) : Option Int :=
 Option.bind (idx rI (IntKind.i64.wrap ((IntKind.i64.wrap (y * zK)) + x2))) fun e =>
 some e
def eD (N : Nat) (n VA : Int) : Option Int :=
 Option.bind (nz VA) fun _ =>
 Option.bind (some (IntKind.i64.wrap (Int.tdiv n VA))) fun q =>
 cond (decide (n < (IntKind.i64.wrap (q * VA)))) (
 Option.bind (some (IntKind.i64.wrap (q - 1))) fun q2 =>
 some q2) (
 some q)
def hJ (N : Nat) (mY nQ : Int) (tZ : List Int) (o p2 p3 : Int) : Option Int :=
 cond (decide (p2 = 0)) (
 cond (decide (p3 = 0)) (
 some 32768) (
 cond (decide (p3 = 0)) (
 Option.bind (fY N mY nQ tZ (IntKind.i64.wrap (p2 - 1)) 0) fun r2 =>
 some r2) (
 cond (decide (p2 = 0)) (
 Option.bind (fY N mY nQ tZ 0 (IntKind.i64.wrap (p3 - 1))) fun r3 =>
 some r3) (
 Option.bind (fY N mY nQ tZ (IntKind.i64.wrap (p2 - 1)) p3) fun r4 =>
 Option.bind (fY N mY nQ tZ p2 (IntKind.i64.wrap (p3 - 1))) fun r5 =>
 Option.bind (fY N mY nQ tZ (IntKind.i64.wrap (p2 - 1)) (IntKind.i64.wrap (p3 - 1))) fun r6 =>
 cond (decide (o = 1)) (
 some r4) (
 cond (decide (o = 2)) (
 some r5) (
 cond (decide (o = 3)) (
 some r6) (
 cond (decide (o = 4)) (
 some (IntKind.i64.wrap ((IntKind.i64.wrap (r4 + r5)) - r6))) (
 cond (decide (o = 5)) (
 Option.bind (eD N (IntKind.i64.wrap (r5 - r6)) 2) fun r7 =>
 some (IntKind.i64.wrap (r4 + r7))) (
 cond (decide (o = 6)) (
 Option.bind (eD N (IntKind.i64.wrap (r4 - r6)) 2) fun r8 =>
 some (IntKind.i64.wrap (r5 + r8))) (
 Option.bind (eD N (IntKind.i64.wrap (r4 + r5)) 2) fun r9 =>
 some r9)))))))))) (
 cond (decide (p3 = 0)) (
 Option.bind (fY N mY nQ tZ (IntKind.i64.wrap (p2 - 1)) 0) fun MJ =>
 some MJ) (
 cond (decide (p2 = 0)) (
 Option.bind (fY N mY nQ tZ 0 (IntKind.i64.wrap (p3 - 1))) fun DM =>
 some DM) (
 Option.bind (fY N mY nQ tZ (IntKind.i64.wrap (p2 - 1)) p3) fun sR =>
 Option.bind (fY N mY nQ tZ p2 (IntKind.i64.wrap (p3 - 1))) fun Aq =>
 Option.bind (fY N mY nQ tZ (IntKind.i64.wrap (p2 - 1)) (IntKind.i64.wrap (p3 - 1))) fun Lg =>
 cond (decide (o = 1)) (
 some sR) (
 cond (decide (o = 2)) (
 some Aq) (
 cond (decide (o = 3)) (
 some Lg) (
 cond (decide (o = 4)) (
 some (IntKind.i64.wrap ((IntKind.i64.wrap (sR + Aq)) - Lg))) (
 cond (decide (o = 5)) (
 Option.bind (eD N (IntKind.i64.wrap (Aq - Lg)) 2) fun DN =>
 some (IntKind.i64.wrap (sR + DN))) (
 cond (decide (o = 6)) (
 Option.bind (eD N (IntKind.i64.wrap (sR - Lg)) 2) fun r16 =>
 some (IntKind.i64.wrap (Aq + r16))) (
 Option.bind (eD N (IntKind.i64.wrap (sR + Aq)) 2) fun Ch =>
 some Ch)))))))))
def fC (N : Nat)  (kk : Int → Option Int) : Nat → Int → Option Int
 | 0, _ => none
 | fuel + 1, d6 =>
  cond (decide (d6 ≤ (-32768))) (
  Option.bind (some (IntKind.i64.wrap (d6 + 65536))) fun d8 =>
  fC N  kk fuel d8) (
  kk d6)
def gF (N : Nat)  (kk : Int → Option Int) : Nat → Int → Option Int
 | 0, _ => none
 | fuel + 1, d2 =>
  cond (decide (32768 < d2)) (
  Option.bind (some (IntKind.i64.wrap (d2 - 65536))) fun d4 =>
  gF N  kk fuel d4) (
  kk d2)
def k7 (N : Nat) (Ip guess : Int) : Option Int :=
 Option.bind (some (IntKind.i64.wrap (Ip - guess))) fun d =>
 gF N  (fun d5 =>
 fC N  (fun d9 =>
 some d9) N d5) N d
def iH (N : Nat) (zK z7 : Int) (rI : List Int) (kind y2 : Int) (kk : (List Int × Int) → Option (List Int)) : Nat → (List Int × Int) → Option (List Int)
 | 0, _ => none
 | fuel + 1, (l8, x7) =>
  cond (decide (x7 < zK)) (
  Option.bind (fY N zK z7 rI x7 y2) fun Lg =>
  Option.bind (hJ N zK z7 rI kind x7 y2) fun DN =>
  Option.bind (k7 N Lg DN) fun r16 =>
  Option.bind (app 8 l8 ([r16] : List Int)) fun l10 =>
  Option.bind (some (IntKind.i64.wrap (x7 + 1))) fun x9 =>
  iH N zK z7 rI kind y2 kk fuel (l10, x9)) (
  kk (l8, x7))
def gU (N : Nat) (zK z7 : Int) (rI : List Int) (kind : Int) (kk : (List Int × Int) → Option (List Int)) : Nat → (List Int × Int) → Option (List Int)
 | 0, _ => none
 | fuel + 1, (l5, y2) =>
  cond (decide (y2 < z7)) (
  iH N zK z7 rI kind y2 (fun (Q7, x10) =>
  Option.bind (some (IntKind.i64.wrap (y2 + 1))) fun y4 =>
  gU N zK z7 rI kind kk fuel (Q7, y4)) N (l5, 0)) (
  kk (l5, y2))
def mJ (N : Nat) (zK z7 : Int) (rI : List Int) (kind : Int) : Option (List Int) :=
 gU N zK z7 rI kind (fun (Q8, y5) =>
 some Q8) N (([] : List Int), 0)
def jT (N : Nat)  (kk : (Int × Int) → Option Int) : Nat → (Int × Int) → Option Int
 | 0, _ => none
 | fuel + 1, (n, k2) =>
  cond (decide (0 < k2)) (
  Option.bind (some (IntKind.i64.wrap (n + 1))) fun n3 =>
  Option.bind (some (IntKind.i64.wrap (Int.tdiv k2 2))) fun k4 =>
  jT N  kk fuel (n3, k4)) (
  kk (n, k2))
def kV (N : Nat) (d : Int) : Option Int :=
 Option.bind (some (max d (IntKind.i64.wrap (0 - d)))) fun k =>
 jT N  (fun (n4, k5) =>
 some n4) N (0, k)
def nZ (N : Nat) (d : Int) : Option (List UInt8) :=
 Option.bind (kV N d) fun r2 =>
 cond (decide (r2 = 0)) (
 some (([] : List UInt8))) (
 cond (decide (r2 = 16)) (
 some (([] : List UInt8))) (
 cond (decide (0 < d)) (
 Option.bind (kE N d r2) fun r3 =>
 some r3) (
 Option.bind (nn r2) fun _ =>
 Option.bind (kE N (IntKind.i64.wrap ((IntKind.i64.wrap (d + (rB .i64 1 r2))) - 1)) r2) fun r4 =>
 some r4)))
def iY (N : Nat) (r5 : List (List UInt8)) (r6 : List Int) (kk : (List Int × Int) → Option (List UInt8 × Int)) : Nat → (List Int × Int) → Option (List UInt8 × Int)
 | 0, _ => none
 | fuel + 1, (l4, i) =>
  cond (decide (i < (r6.length : Int))) (
  Option.bind (idx r6 i) fun e9 =>
  Option.bind (kV N e9) fun DM =>
  cond (decide ((r5.length : Int) ≤ DM)) (
  some (([] : List UInt8), 4)) (
  Option.bind (idx r5 DM) fun e10 =>
  cond (decide (e10 = ([] : List UInt8))) (
  some (([] : List UInt8), 4)) (
  Option.bind (idx r5 DM) fun e11 =>
  Option.bind (app 1 l4 (qG e11)) fun l7 =>
  Option.bind (idx r6 i) fun e12 =>
  Option.bind (nZ N e12) fun sR =>
  Option.bind (app 1 l7 (qG sR)) fun l8 =>
  Option.bind (some (IntKind.i64.wrap (i + 1))) fun x4 =>
  iY N r5 r6 kk fuel (l8, x4)))) (
  kk (l4, i))
def kA (N : Nat) (mY nQ : Int) (tZ : List Int) (o : Int) (p2 : List Int) : Option (List UInt8 × Int) :=
 Option.bind (lN N mY nQ tZ) fun r2 =>
 cond (!(r2)) (
 some (([] : List UInt8), 1)) (
 Option.bind (bU N o 1 7) fun r3 =>
 cond (!(r3)) (
 some (([] : List UInt8), 6)) (
 Option.bind (hU N p2) fun r4 =>
 cond (!decide (r4 = 0)) (
 some (([] : List UInt8), r4)) (
 Option.bind (jW N p2) fun r5 =>
 Option.bind (mJ N mY nQ tZ o) fun r6 =>
 iY N r5 r6 (fun (l9, i2) =>
 Option.bind (iS N (toB l9)) fun Aq =>
 some (Aq, 0)) N (([] : List Int), 0))))
def jD (N : Nat) (a2 b : List Int) (kk : Int → Option Bool) : Nat → Int → Option Bool
 | 0, _ => none
 | fuel + 1, i =>
  cond (decide (i < (a2.length : Int))) (
  Option.bind (idx a2 i) fun e3 =>
  Option.bind (idx b i) fun e4 =>
  cond (!decide (e3 = e4)) (
  some false) (
  Option.bind (some (IntKind.i64.wrap (i + 1))) fun i3 =>
  jD N a2 b kk fuel i3)) (
  kk i)
def kH (N : Nat) (a2 b : List Int) : Option Bool :=
 cond (!decide ((a2.length : Int) = (b.length : Int))) (
 some false) (
 jD N a2 b (fun i4 =>
 some true) N 0)
def oD (N : Nat) (dg og : List (Int × Int)) (kk : Int → Option Bool) : Nat → Int → Option Bool
 | 0, _ => none
 | fuel + 1, i3 =>
  cond (decide (i3 < (dg.length : Int))) (
  Option.bind (idx dg i3) fun e7 =>
  Option.bind (idx og i3) fun e8 =>
  cond (!(decide (e7.1 = e8.1) && decide (e7.2 = e8.2))) (
  some false) (
  Option.bind (some (IntKind.i64.wrap (i3 + 1))) fun x5 =>
  oD N dg og kk fuel x5)) (
  kk i3)
def oE (N : Nat) (dd od : List (Int × Int)) (kk : Int → Option Bool) : Nat → Int → Option Bool
 | 0, _ => none
 | fuel + 1, i =>
  cond (decide (i < (dd.length : Int))) (
  Option.bind (idx dd i) fun e3 =>
  Option.bind (idx od i) fun e4 =>
  cond (!(decide (e3.1 = e4.1) && decide (e3.2 = e4.2))) (
  some false) (
  Option.bind (some (IntKind.i64.wrap (i + 1))) fun x3 =>
  oE N dd od kk fuel x3)) (
  kk i)
def p7 (N : Nat) (da Il Im In Io dc : Int) (dd : List (Int × Int)) (Ii Ij Ik KJ KK df2 KL KN KO KQ KS KT : Int) (dg : List (Int × Int)) (dh oa Sg Ju QH Sh oc : Int) (od : List (Int × Int)) (Si Sj Sk Sl Sm Sn So Sp Sq Sr Ss Su : Int) (og : List (Int × Int)) (oh : Int) : Option Bool :=
 cond (!decide (da = oa)) (
 some false) (
 cond (!(decide ([Il, Im, In, Io] = [Sg, Ju, QH, Sh]))) (
 some false) (
 cond (!decide (dc = oc)) (
 some false) (
 cond (!(decide ([Ii, Ij, Ik] = [Si, Sj, Sk]))) (
 some false) (
 cond (!(decide ([KJ, KK, df2, KL, KN, KO, KQ, KS, KT] = [Sl, Sm, Sn, So, Sp, Sq, Sr, Ss, Su]))) (
 some false) (
 cond (!decide (dh = oh)) (
 some false) (
 cond (!decide ((dd.length : Int) = (od.length : Int))) (
 some false) (
 cond (!decide ((dg.length : Int) = (og.length : Int))) (
 some false) (
 oE N dd od (fun i2 =>
 oD N dg og (fun i4 =>
 some true) N 0) N 0))))))))
def oU (N : Nat) (dR qI : List (List UInt8)) (kk : Int → Option Bool) : Nat → Int → Option Bool
 | 0, _ => none
 | fuel + 1, i =>
  cond (decide (i < (dR.length : Int))) (
  Option.bind (idx dR i) fun e3 =>
  Option.bind (idx qI i) fun e4 =>
  cond (!decide (e3 = e4)) (
  some false) (
  Option.bind (some (IntKind.i64.wrap (i + 1))) fun x3 =>
  oU N dR qI kk fuel x3)) (
  kk i)
def qJ (N : Nat) (mY nQ fB g8 iR : Int) (gK : List Int) (dR : List (List UInt8)) (dI cQ cR cU cV dJ : Int) (bX : List (Int × Int)) (cW cZ dA cB cC cD cE cG cH cJ cK cL : Int) (bY : List (Int × Int)) (cP Dl Ja Bu Dn Do : Int) (Ci : List Int) (qI : List (List UInt8)) (tT rW rX rY rZ tU : Int) (pR : List (Int × Int)) (sA sB sC qK qL qM qN qO qP qQ qR qS : Int) (pS : List (Int × Int)) (sD : Int) : Option Bool :=
 cond (!decide (mY = Dl)) (
 some false) (
 cond (!decide (nQ = Ja)) (
 some false) (
 cond (!decide (fB = Bu)) (
 some false) (
 cond (!decide (g8 = Dn)) (
 some false) (
 cond (!decide (iR = Do)) (
 some false) (
 Option.bind (kH N gK Ci) fun r2 =>
 cond (!(r2)) (
 some false) (
 cond (!decide ((dR.length : Int) = (qI.length : Int))) (
 some false) (
 Option.bind (p7 N dI cQ cR cU cV dJ bX cW cZ dA cB cC cD cE cG cH cJ cK cL bY cP tT rW rX rY rZ tU pR sA sB sC qK qL qM qN qO qP qQ qR qS pS sD) fun r3 =>
 cond (!(r3)) (
 some false) (
 oU N dR qI (fun i2 =>
 some true) N 0))))))))
def mO (N : Nat) (l2 : List (Int × Int)) (x2 : Int) (kk : Int → Option Int) : Nat → Int → Option Int
 | 0, _ => none
 | fuel + 1, i =>
  Option.bind (idx l2 i) fun e2 =>
  cond (decide (e2.1 < x2)) (
  Option.bind (some (IntKind.i64.wrap (i + 1))) fun i3 =>
  mO N l2 x2 kk fuel i3) (
  kk i)
def oF (N : Nat) (l2 : List (Int × Int)) (x2 : Int) : Option Int :=
 mO N l2 x2 (fun i4 =>
 Option.bind (idx l2 (IntKind.i64.wrap (i4 - 1))) fun e3 =>
 Option.bind (idx l2 i4) fun e4 =>
 Option.bind (nz (IntKind.i64.wrap (e4.1 - e3.1))) fun _ =>
 Option.bind (some (IntKind.i64.wrap (e3.2 + (IntKind.i64.wrap (Int.tdiv (IntKind.i64.wrap ((IntKind.i64.wrap (e4.2 - e3.2)) * (IntKind.i64.wrap (x2 - e3.1)))) (IntKind.i64.wrap (e4.1 - e3.1))))))) fun x3 =>
 some x3) N 1
def s0 (N : Nat)  : Option (List (Int × Int)) :=
 some (([(0, 0), (65535, 65535)] : List (Int × Int)))
def s9 (N : Nat)  : Option (Int × Int × Int × Int × Int × Int × List (Int × Int) × Int × Int × Int × Int × Int × Int × Int × Int × Int × Int × Int × Int × List (Int × Int) × Int) :=
 Option.bind (s0 N ) fun r2 =>
 some (0, 0, 0, 0, 0, 65535, ([] : List (Int × Int)), 256, 256, 256, 4096, 0, 0, 0, 4096, 0, 0, 0, 4096, r2, 64)
def oO (N : Nat) (o p2 : Int) (kk : (List Int × Int × Int) → Option (List Int × Int)) : Nat → (List Int × Int × Int) → Option (List Int × Int)
 | 0, _ => none
 | fuel + 1, (l8, i8, i9) =>
  cond (decide (o ≤ i9)) (
  cond (decide ((l8.length : Int) < p2)) (
  Option.bind (some (IntKind.i64.wrap (i9 - o))) fun C8 =>
  Option.bind (nn C8) fun _ =>
  Option.bind (app 8 l8 ([jN .i64 i8 C8] : List Int)) fun l10 =>
  Option.bind (nn C8) fun _ =>
  Option.bind (some (Cb .i64 i8 (IntKind.i64.wrap ((rB .i64 1 C8) - 1)))) fun G7 =>
  oO N o p2 kk fuel (l10, G7, C8)) (
  kk (l8, i8, i9))) (
  kk (l8, i8, i9))
def oP (N : Nat) (d : List UInt8) (o p2 : Int) (kk : (List Int × Int × Int × Int) → Option (List Int × Int)) : Nat → (List Int × Int × Int × Int) → Option (List Int × Int)
 | 0, _ => none
 | fuel + 1, (l5, i3, i4, i5) =>
  cond (decide (i5 < (d.length : Int))) (
  Option.bind (idx d i5) fun b3 =>
  Option.bind (some (MC .i64 (rB .i64 i3 8) (IntKind.i64.wrap (b3.toNat : Int)))) fun I9 =>
  Option.bind (some (IntKind.i64.wrap (i4 + 8))) fun G3 =>
  oO N o p2 (fun (Q7, Fo, i11) =>
  oP N d o p2 kk fuel (Q7, Fo, i11, IntKind.i64.wrap (i5 + 1))) N (l5, I9, G3)) (
  kk (l5, i3, i4, i5))
def uI (N : Nat) (d : List UInt8) (o p2 : Int) : Option (List Int × Int) :=
 Option.bind (rV N o) fun r2 =>
 cond (!(r2)) (
 some (([] : List Int), 3)) (
 cond (decide (p2 < 0)) (
 some (([] : List Int), 3)) (
 cond (decide (4096 < p2)) (
 some (([] : List Int), 2)) (
 cond (!decide ((d.length : Int) = (IntKind.i64.wrap (Int.tdiv (IntKind.i64.wrap ((IntKind.i64.wrap (p2 * o)) + 7)) 8)))) (
 some (([] : List Int), 1)) (
 oP N d o p2 (fun (Q8, i12, L3, Wv) =>
 cond (!decide (i12 = 0)) (
 some (([] : List Int), 1)) (
 some (Q8, 0))) N (([] : List Int), 0, 0, 0)))))
def oV (N : Nat) (e2 : List UInt8) (kk : (List (List UInt8 × Int) × Int) → Option (List Int × List UInt8 × Int)) : Nat → (List (List UInt8 × Int) × Int) → Option (List Int × List UInt8 × Int)
 | 0, _ => none
 | fuel + 1, (m5, i3) =>
  cond (decide (i3 < (e2.length : Int))) (
  Option.bind (B5 e2 0 i3) fun s5 =>
  Option.bind (F2 m5 s5) fun q3 =>
  cond (!(q3.2)) (
  Option.bind (B5 e2 0 i3) fun s6 =>
  Option.bind (K7 m5 s6 (-1)) fun m7 =>
  oV N e2 kk fuel (m7, IntKind.i64.wrap (i3 + 1))) (
  oV N e2 kk fuel (m5, IntKind.i64.wrap (i3 + 1)))) (
  kk (m5, i3))
def j0 (N : Nat) (m10 : List (List UInt8 × Int)) (o2 : List UInt8) (kk : (Int × Int) → Option (List Int × List UInt8 × Int)) : Nat → (Int × Int) → Option (List Int × List UInt8 × Int)
 | 0, _ => none
 | fuel + 1, (Fo, i11) =>
  cond (decide (i11 < 0)) (
  Option.bind (B5 o2 0 Fo) fun s12 =>
  Option.bind (F2 m10 s12) fun q7 =>
  cond (!(q7.2)) (
  some (([] : List Int), ([] : List UInt8), 4)) (
  cond (decide (0 ≤ q7.1)) (
  j0 N m10 o2 kk fuel (Fo, q7.1)) (
  cond (decide (Fo = (o2.length : Int))) (
  some (([] : List Int), ([] : List UInt8), 5)) (
  Option.bind (some (IntKind.i64.wrap (Fo + 1))) fun x5 =>
  j0 N m10 o2 kk fuel (x5, i11))))) (
  kk (Fo, i11))
def nJ (N : Nat) (p2 : Int) (m10 : List (List UInt8 × Int)) (kk : (List Int × List UInt8) → Option (List Int × List UInt8 × Int)) : Nat → (List Int × List UInt8) → Option (List Int × List UInt8 × Int)
 | 0, _ => none
 | fuel + 1, (l3, o2) =>
  cond (decide ((l3.length : Int) < p2)) (
  j0 N m10 o2 (fun (i12, L3) =>
  Option.bind (app 8 l3 ([L3] : List Int)) fun l5 =>
  Option.bind (B5 o2 i12 (o2.length : Int)) fun s13 =>
  nJ N p2 m10 kk fuel (l5, s13)) N (0, (-1))) (
  kk (l3, o2))
def oW (N : Nat) (r2 : List (List UInt8) × Int) (kk : (List (List UInt8 × Int) × Int) → Option (List Int × List UInt8 × Int)) : Nat → (List (List UInt8 × Int) × Int) → Option (List Int × List UInt8 × Int)
 | 0, _ => none
 | fuel + 1, (m, i) =>
  cond (decide (i < (r2.1.length : Int))) (
  Option.bind (idx r2.1 i) fun e2 =>
  oV N e2 (fun (m8, i4) =>
  cond (!decide (e2 = ([] : List UInt8))) (
  Option.bind (K7 m8 e2 i) fun m9 =>
  oW N r2 kk fuel (m9, IntKind.i64.wrap (i + 1))) (
  oW N r2 kk fuel (m8, IntKind.i64.wrap (i + 1)))) N (m, 0)) (
  kk (m, i))
def tA (N : Nat) (d : List Int) (o : List UInt8) (p2 : Int) : Option (List Int × List UInt8 × Int) :=
 Option.bind (pQ N d) fun r2 =>
 cond (!decide (r2.2 = 0)) (
 some (([] : List Int), ([] : List UInt8), r2.2)) (
 cond (decide (p2 < 0)) (
 some (([] : List Int), ([] : List UInt8), 3)) (
 cond (decide (4096 < p2)) (
 some (([] : List Int), ([] : List UInt8), 3)) (
 Option.bind (tS N o) fun r3 =>
 cond (!decide (r3.2 = 0)) (
 some (([] : List Int), ([] : List UInt8), 1)) (
 oW N r2 (fun (m10, i5) =>
 nJ N p2 m10 (fun (l6, o3) =>
 some (l6, o3, 0)) N (([] : List Int), o)) N (([] : List (List UInt8 × Int)), 0)))))
def qT (N : Nat) (s : List UInt8) (kk : (List UInt8 × Int) → Option (List UInt8)) : Nat → (List UInt8 × Int) → Option (List UInt8)
 | 0, _ => none
 | fuel + 1, (l2, i) =>
  cond (decide (i < (s.length : Int))) (
  Option.bind (idx s i) fun b3 =>
  Option.bind (p6 N (IntKind.i64.wrap (b3.toNat : Int)) 8) fun r3 =>
  Option.bind (NR l2 r3) fun b4 =>
  Option.bind (some (IntKind.i64.wrap (i + 1))) fun i3 =>
  qT N s kk fuel (b4, i3)) (
  kk (l2, i))
def tB (N : Nat) (s : List UInt8) : Option (List UInt8) :=
 qT N s (fun (l3, i4) =>
 some l3) N (([] : List UInt8), 0)
def pO (N : Nat) (b : List UInt8) (kk : (Int × Int) → Option (Int × Int)) : Nat → (Int × Int) → Option (Int × Int)
 | 0, _ => none
 | fuel + 1, (n, i) =>
  cond (decide (i < (b.length : Int))) (
  Option.bind (idx b i) fun b3 =>
  Option.bind (some (IntKind.i64.wrap ((rB .i64 n 1) + (IntKind.i64.wrap (Cb .u8 (b3.toNat : Int) 1))))) fun n3 =>
  pO N b kk fuel (n3, IntKind.i64.wrap (i + 1))) (
  kk (n, i))
def vO (N : Nat) (b : List UInt8) : Option (Int × Int) :=
 Option.bind (wR N b) fun r2 =>
 cond (!(r2)) (
 some (0, 1)) (
 cond (decide (16 < (b.length : Int))) (
 some (0, 3)) (
 pO N b (fun (n4, i2) =>
 some (n4, 0)) N (0, 0)))
def tC (N : Nat)  (kk : (List UInt8 × List UInt8) → Option (Int × Int × List Int × Int)) : Nat → (List UInt8 × List UInt8) → Option (Int × Int × List Int × Int)
 | 0, _ => none
 | fuel + 1, (C8, G7) =>
  cond (decide ((C8.length : Int) < 1)) (
  cond (!decide (G7 = ([] : List UInt8))) (
  Option.bind (B5 G7 0 1) fun s21 =>
  Option.bind (tB N s21) fun DN =>
  Option.bind (F9 C8 DN) fun s22 =>
  Option.bind (B5 G7 1 (G7.length : Int)) fun s23 =>
  tC N  kk fuel (s22, s23)) (
  kk (C8, G7))) (
  kk (C8, G7))
def j1 (N : Nat) (i6 : Int) (kk : (List UInt8 × List UInt8) → Option (Int × Int × List Int × Int)) : Nat → (List UInt8 × List UInt8) → Option (Int × Int × List Int × Int)
 | 0, _ => none
 | fuel + 1, (MG, x23) =>
  cond (decide ((MG.length : Int) < i6)) (
  cond (!decide (x23 = ([] : List UInt8))) (
  Option.bind (B5 x23 0 1) fun s30 =>
  Option.bind (tB N s30) fun BI =>
  Option.bind (F9 MG BI) fun s31 =>
  Option.bind (B5 x23 1 (x23.length : Int)) fun s32 =>
  j1 N i6 kk fuel (s31, s32)) (
  kk (MG, x23))) (
  kk (MG, x23))
def jE (N : Nat) (p4 : List Int) (kk : (List UInt8 × List UInt8 × Int × Int × List UInt8) → Option (Int × Int × List Int × Int)) : Nat → (List UInt8 × List UInt8 × Int × Int × List UInt8) → Option (Int × Int × List Int × Int)
 | 0, _ => none
 | fuel + 1, (I9, G3, i4, i5, w3) =>
  Option.bind (tA N p4 w3 1) fun Aq =>
  cond (decide (Aq.2.2 = 0)) (
  Option.bind (idx Aq.1 0) fun e7 =>
  kk (I9, G3, e7, Aq.2.2, w3)) (
  tC N  (fun (x18, Jp) =>
  cond (decide ((x18.length : Int) < 1)) (
  cond (!decide (Aq.2.2 = 5)) (
  kk (x18, Jp, 0, 1, w3)) (
  kk (x18, Jp, 0, 1, w3))) (
  Option.bind (B5 x18 0 1) fun s24 =>
  Option.bind (B5 x18 1 (x18.length : Int)) fun Wz =>
  cond (!decide (Aq.2.2 = 5)) (
  kk (Wz, Jp, 0, 1, w3)) (
  Option.bind (F9 w3 s24) fun s26 =>
  jE N p4 kk fuel (Wz, Jp, i4, i5, s26)))) N (I9, G3))
def fG (N : Nat) (o p2 p3 : Int) (p4 : List Int) (kk : (List Int × List UInt8 × List UInt8 × Int) → Option (Int × Int × List Int × Int)) : Nat → (List Int × List UInt8 × List UInt8 × Int) → Option (Int × Int × List Int × Int)
 | 0, _ => none
 | fuel + 1, (B9, x3, x4, i) =>
  cond (decide (i < (IntKind.i64.wrap (o * p2)))) (
  Option.bind (app 8 B9 ([0] : List Int)) fun xC =>
  jE N p4 (fun (x20, x21, i6, i7, w4) =>
  cond (!decide (i7 = 0)) (
  some (0, 0, ([] : List Int), 1)) (
  cond (decide (i6 = 16)) (
  Option.bind (nF N o p2 xC p3 i) fun r16 =>
  Option.bind (idx xC i) fun e8 =>
  Option.bind (uU xC i (IntKind.i64.wrap (IntKind.u16.wrap (IntKind.i64.wrap (r16 + 32768))))) fun l6 =>
  fG N o p2 p3 p4 kk fuel (l6, x20, x21, IntKind.i64.wrap (i + 1))) (
  cond (decide (0 < i6)) (
  j1 N i6 (fun (x24, x25) =>
  cond (decide ((x24.length : Int) < i6)) (
  some (0, 0, ([] : List Int), 1)) (
  Option.bind (B5 x24 0 i6) fun s33 =>
  Option.bind (B5 x24 i6 (x24.length : Int)) fun WA =>
  Option.bind (vO N s33) fun Ca =>
  Option.bind (idx s33 0) fun b2 =>
  cond (decide ((b2.toNat : Int) = 48)) (
  Option.bind (nn i6) fun _ =>
  Option.bind (some (IntKind.i64.wrap (Ca.1 - (IntKind.i64.wrap ((rB .i64 1 i6) - 1))))) fun Se =>
  Option.bind (nF N o p2 xC p3 i) fun DW =>
  Option.bind (idx xC i) fun e9 =>
  Option.bind (uU xC i (IntKind.i64.wrap (IntKind.u16.wrap (IntKind.i64.wrap (DW + Se))))) fun l7 =>
  fG N o p2 p3 p4 kk fuel (l7, WA, x25, IntKind.i64.wrap (i + 1))) (
  Option.bind (nF N o p2 xC p3 i) fun DX =>
  Option.bind (idx xC i) fun e10 =>
  Option.bind (uU xC i (IntKind.i64.wrap (IntKind.u16.wrap (IntKind.i64.wrap (DX + Ca.1))))) fun l8 =>
  fG N o p2 p3 p4 kk fuel (l8, WA, x25, IntKind.i64.wrap (i + 1))))) N (x20, x21)) (
  Option.bind (nF N o p2 xC p3 i) fun E7 =>
  Option.bind (idx xC i) fun e11 =>
  Option.bind (uU xC i (IntKind.i64.wrap (IntKind.u16.wrap (IntKind.i64.wrap (E7 + 0))))) fun l9 =>
  fG N o p2 p3 p4 kk fuel (l9, x20, x21, IntKind.i64.wrap (i + 1)))))) N (x3, x4, 0, 0, ([] : List UInt8))) (
  kk (B9, x3, x4, i))
def xD (N : Nat) (d : List UInt8) (o p2 p3 : Int) (p4 : List Int) : Option (Int × Int × List Int × Int) :=
 cond (decide (o < 1)) (
 some (0, 0, ([] : List Int), 3)) (
 cond (decide (64 < o)) (
 some (0, 0, ([] : List Int), 3)) (
 cond (decide (p2 < 1)) (
 some (0, 0, ([] : List Int), 3)) (
 cond (decide (64 < p2)) (
 some (0, 0, ([] : List Int), 3)) (
 cond (decide (p3 < 1)) (
 some (0, 0, ([] : List Int), 6)) (
 cond (decide (7 < p3)) (
 some (0, 0, ([] : List Int), 6)) (
 Option.bind (rH N p4) fun r2 =>
 cond (!decide (r2 = 0)) (
 some (0, 0, ([] : List Int), r2)) (
 fG N o p2 p3 p4 (fun (Gc, x27, x28, i8) =>
 cond (!decide (x28 = ([] : List UInt8))) (
 some (0, 0, ([] : List Int), 1)) (
 Option.bind (oT N x27 ([49] : List UInt8)) fun G9 =>
 cond (G9) (
 some (0, 0, ([] : List Int), 1)) (
 some (o, p2, Gc, 0)))) N (([] : List Int), ([] : List UInt8), d, 0))))))))
def uJ (N : Nat) (nP lS cM dS dG : Int) (dK : List Int) (bS : List (List UInt8)) (bI a8 bA bB bC bJ : Int) (aO : List (Int × Int)) (bD bE bF aS aT aU aV aW aX aY aZ a7 : Int) (aP : List (Int × Int)) (bG : Int) (s : List UInt8) (rows : Int) : Option (List Int × Int) :=
 cond (decide (dS = 0)) (
 Option.bind (uI N s cM (IntKind.i64.wrap (nP * rows))) fun r2 =>
 some (r2.1, r2.2)) (
 Option.bind (xD N s nP rows dS dK) fun r3 =>
 cond (decide (r3.2.2.2 = 0)) (
 Option.bind (lF N r3.2.2.1) fun r4 =>
 Option.bind (nn cM) fun _ =>
 cond (decide (0 < (jN .i64 r4 cM))) (
 some (r3.2.2.1, 1)) (
 some (r3.2.2.1, r3.2.2.2))) (
 some (r3.2.2.1, r3.2.2.2)))
def qU (N : Nat) (mY nQ fB g8 iR : Int) (gK : List Int) (dR : List (List UInt8)) (dI cQ cR cU cV dJ : Int) (bX : List (Int × Int)) (cW cZ dA cB cC cD cE cG cH cJ cK cL : Int) (bY : List (Int × Int)) (cP : Int) (r3 : List (Int × Int)) (kk : (List Int × Int) → Option (Int × Int × List Int × Int)) : Nat → (List Int × Int) → Option (Int × Int × List Int × Int)
 | 0, _ => none
 | fuel + 1, (B9, i) =>
  cond (decide (i < (dR.length : Int))) (
  Option.bind (idx dR i) fun e3 =>
  Option.bind (idx r3 i) fun e4 =>
  Option.bind (uJ N mY nQ fB g8 iR gK dR dI cQ cR cU cV dJ bX cW cZ dA cB cC cD cE cG cH cJ cK cL bY cP e3 e4.2) fun r6 =>
  cond (!decide (r6.2 = 0)) (
  some (0, 0, ([] : List Int), 1)) (
  Option.bind (app 8 B9 r6.1) fun xC =>
  qU N mY nQ fB g8 iR gK dR dI cQ cR cU cV dJ bX cW cZ dA cB cC cD cE cG cH cJ cK cL bY cP r3 kk fuel (xC, IntKind.i64.wrap (i + 1)))) (
  kk (B9, i))
def tD (N : Nat) (mY nQ fB g8 iR : Int) (gK : List Int) (dR : List (List UInt8)) (dI cQ cR cU cV dJ : Int) (bX : List (Int × Int)) (cW cZ dA cB cC cD cE cG cH cJ cK cL : Int) (bY : List (Int × Int)) (cP : Int) : Option (Int × Int × List Int × Int) :=
 Option.bind (wP N mY nQ fB g8 iR gK dR dI cQ cR cU cV dJ bX cW cZ dA cB cC cD cE cG cH cJ cK cL bY cP) fun r2 =>
 cond (!decide (r2 = 0)) (
 some (0, 0, ([] : List Int), r2)) (
 Option.bind (vM N mY nQ fB g8 iR gK dR dI cQ cR cU cV dJ bX cW cZ dA cB cC cD cE cG cH cJ cK cL bY cP) fun r3 =>
 cond (!decide ((dR.length : Int) = (r3.length : Int))) (
 some (0, 0, ([] : List Int), 2)) (
 Option.bind (wQ N mY nQ fB g8 iR gK dR dI cQ cR cU cV dJ bX cW cZ dA cB cC cD cE cG cH cJ cK cL bY cP) fun r4 =>
 cond (!decide (r4 = 0)) (
 some (0, 0, ([] : List Int), r4)) (
 qU N mY nQ fB g8 iR gK dR dI cQ cR cU cV dJ bX cW cZ dA cB cC cD cE cG cH cJ cK cL bY cP r3 (fun (Gc, i2) =>
 some (mY, nQ, Gc, 0)) N (([] : List Int), 0))))
def lH (N : Nat) (s : List UInt8) (i : Int) (kk : (List Int × Int) → Option (List UInt8)) : Nat → (List Int × Int) → Option (List UInt8)
 | 0, _ => none
 | fuel + 1, (l5, k3) =>
  cond (decide (0 ≤ k3)) (
  Option.bind (idx s i) fun b3 =>
  Option.bind (nn k3) fun _ =>
  Option.bind (app 1 l5 (([IntKind.u8.wrap (48 + (Cb .u8 (jN .u8 (b3.toNat : Int) k3) 1))] : List Int))) fun l7 =>
  Option.bind (some (IntKind.i64.wrap (k3 - 1))) fun k5 =>
  lH N s i kk fuel (l7, k5)) (
  kk (l5, k3))
def kF (N : Nat) (s : List UInt8) (kk : (List Int × Int) → Option (List UInt8)) : Nat → (List Int × Int) → Option (List UInt8)
 | 0, _ => none
 | fuel + 1, (l2, i) =>
  cond (decide (i < (s.length : Int))) (
  lH N s i (fun (l8, k6) =>
  Option.bind (some (IntKind.i64.wrap (i + 1))) fun i3 =>
  kF N s kk fuel (l8, i3)) N (l2, 7)) (
  kk (l2, i))
def mZ (N : Nat) (s : List UInt8) : Option (List UInt8) :=
 Option.bind (QQ 1 (IntKind.i64.wrap (8 * (s.length : Int)))) fun _ =>
 kF N s (fun (l9, i4) =>
 some (toB l9)) N (([] : List Int), 0)
def kI (N : Nat) (b : List UInt8) (kk : (Int × Int) → Option Int) : Nat → (Int × Int) → Option Int
 | 0, _ => none
 | fuel + 1, (n, i) =>
  cond (decide (i < (b.length : Int))) (
  Option.bind (idx b i) fun b3 =>
  Option.bind (some (IntKind.i64.wrap ((IntKind.i64.wrap (2 * n)) + (IntKind.i64.wrap (IntKind.u8.wrap ((b3.toNat : Int) - 48)))))) fun n3 =>
  Option.bind (some (IntKind.i64.wrap (i + 1))) fun i3 =>
  kI N b kk fuel (n3, i3)) (
  kk (n, i))
def kO (N : Nat) (b : List UInt8) : Option Int :=
 kI N b (fun (n4, i4) =>
 some n4) N (0, 0)
def jF (N : Nat) (depth n : Int) (r3 : List UInt8) (kk : (List Int × Int) → Option (List Int × Int)) : Nat → (List Int × Int) → Option (List Int × Int)
 | 0, _ => none
 | fuel + 1, (l3, i2) =>
  cond (decide (i2 < n)) (
  Option.bind (B5 r3 (IntKind.i64.wrap (i2 * depth)) (IntKind.i64.wrap ((IntKind.i64.wrap (i2 + 1)) * depth))) fun s4 =>
  Option.bind (kO N s4) fun r6 =>
  Option.bind (app 8 l3 ([r6] : List Int)) fun l5 =>
  Option.bind (some (IntKind.i64.wrap (i2 + 1))) fun i4 =>
  jF N depth n r3 kk fuel (l5, i4)) (
  kk (l3, i2))
def lV (N : Nat) (s : List UInt8) (depth n : Int) : Option (List Int × Int) :=
 Option.bind (bU N depth 1 16) fun r2 =>
 cond (!(r2)) (
 some (([] : List Int), 3)) (
 cond (decide (n < 0)) (
 some (([] : List Int), 3)) (
 cond (decide (4096 < n)) (
 some (([] : List Int), 2)) (
 cond (!decide ((s.length : Int) = (IntKind.i64.wrap (Int.tdiv (IntKind.i64.wrap ((IntKind.i64.wrap (n * depth)) + 7)) 8)))) (
 some (([] : List Int), 1)) (
 Option.bind (mZ N s) fun r3 =>
 jF N depth n r3 (fun (l6, i5) =>
 Option.bind (lG N l6 depth) fun r7 =>
 cond (!decide (r7 = s)) (
 some (([] : List Int), 1)) (
 some (l6, 0))) N (([] : List Int), 0)))))
def lI (N : Nat) (s Gd : List UInt8) : Option Bool :=
 cond (decide ((Gd.length : Int) ≤ (s.length : Int))) (
 Option.bind (B5 s 0 (Gd.length : Int)) fun s2 =>
 some (decide (s2 = Gd))) (
 some false)
def iI (N : Nat) (w2 : List (List UInt8)) (b : List UInt8) (kk : (Bool × Int) → Option (Int × Int)) : Nat → (Bool × Int) → Option (Int × Int)
 | 0, _ => none
 | fuel + 1, (short, i) =>
  cond (decide (i < (w2.length : Int))) (
  Option.bind (idx w2 i) fun e4 =>
  cond (decide (e4 = ([] : List UInt8))) (
  Option.bind (some (IntKind.i64.wrap (i + 1))) fun i5 =>
  iI N w2 b kk fuel (short, i5)) (
  Option.bind (idx w2 i) fun e5 =>
  Option.bind (lI N b e5) fun r4 =>
  cond (r4) (
  some (i, 0)) (
  cond (short) (
  Option.bind (some (IntKind.i64.wrap (i + 1))) fun i6 =>
  iI N w2 b kk fuel (true, i6)) (
  Option.bind (idx w2 i) fun e6 =>
  Option.bind (lI N e6 b) fun r5 =>
  Option.bind (some (IntKind.i64.wrap (i + 1))) fun i7 =>
  iI N w2 b kk fuel (r5, i7))))) (
  kk (short, i))
def nK (N : Nat) (w2 : List (List UInt8)) (b : List UInt8) : Option (Int × Int) :=
 iI N w2 b (fun (Iq, i8) =>
 cond (Iq) (
 some (0, 5)) (
 some (0, 4))) N (false, 0)
def eY (N : Nat) (o p2 p3 : Int) (r6 : List (List UInt8)) (kk : (List Int × List UInt8 × Int) → Option (Int × Int × List Int × Int)) : Nat → (List Int × List UInt8 × Int) → Option (Int × Int × List Int × Int)
 | 0, _ => none
 | fuel + 1, (B9, i, i2) =>
  cond (decide (i2 < (IntKind.i64.wrap (o * p2)))) (
  Option.bind (nK N r6 i) fun r16 =>
  cond (!decide (r16.2 = 0)) (
  some (0, 0, ([] : List Int), 1)) (
  Option.bind (idx r6 r16.1) fun e5 =>
  Option.bind (B5 i (e5.length : Int) (i.length : Int)) fun s5 =>
  cond (decide (r16.1 = 16)) (
  Option.bind (nz o) fun _ =>
  Option.bind (nz o) fun _ =>
  Option.bind (hJ N o p2 B9 p3 (Int.tmod i2 o) (IntKind.i64.wrap (Int.tdiv i2 o))) fun Ch =>
  Option.bind (some (IntKind.i64.wrap (Ch + 32768))) fun x10 =>
  Option.bind (eD N x10 65536) fun BI =>
  Option.bind (idx B9 i2) fun e6 =>
  Option.bind (uU B9 i2 (IntKind.i64.wrap (x10 - (IntKind.i64.wrap (65536 * BI))))) fun l6 =>
  Option.bind (some (IntKind.i64.wrap (i2 + 1))) fun MF =>
  eY N o p2 p3 r6 kk fuel (l6, s5, MF)) (
  cond (decide ((s5.length : Int) < r16.1)) (
  some (0, 0, ([] : List Int), 1)) (
  Option.bind (B5 s5 0 r16.1) fun s6 =>
  Option.bind (kO N s6) fun Ca =>
  Option.bind (nn r16.1) fun _ =>
  cond (decide (Ca < (IntKind.i64.wrap (Int.tdiv (rB .i64 1 r16.1) 2)))) (
  Option.bind (nn r16.1) fun _ =>
  Option.bind (some (IntKind.i64.wrap ((IntKind.i64.wrap (Ca - (rB .i64 1 r16.1))) + 1))) fun I9 =>
  Option.bind (B5 s5 r16.1 (s5.length : Int)) fun s7 =>
  Option.bind (nz o) fun _ =>
  Option.bind (nz o) fun _ =>
  Option.bind (hJ N o p2 B9 p3 (Int.tmod i2 o) (IntKind.i64.wrap (Int.tdiv i2 o))) fun DW =>
  Option.bind (some (IntKind.i64.wrap (DW + I9))) fun G3 =>
  Option.bind (eD N G3 65536) fun DX =>
  Option.bind (idx B9 i2) fun e7 =>
  Option.bind (uU B9 i2 (IntKind.i64.wrap (G3 - (IntKind.i64.wrap (65536 * DX))))) fun l7 =>
  Option.bind (some (IntKind.i64.wrap (i2 + 1))) fun QZ =>
  eY N o p2 p3 r6 kk fuel (l7, s7, QZ)) (
  Option.bind (B5 s5 r16.1 (s5.length : Int)) fun s8 =>
  Option.bind (nz o) fun _ =>
  Option.bind (nz o) fun _ =>
  Option.bind (hJ N o p2 B9 p3 (Int.tmod i2 o) (IntKind.i64.wrap (Int.tdiv i2 o))) fun E7 =>
  Option.bind (some (IntKind.i64.wrap (E7 + Ca))) fun QG =>
  Option.bind (eD N QG 65536) fun G9 =>
  Option.bind (idx B9 i2) fun e8 =>
  Option.bind (uU B9 i2 (IntKind.i64.wrap (QG - (IntKind.i64.wrap (65536 * G9))))) fun l8 =>
  Option.bind (some (IntKind.i64.wrap (i2 + 1))) fun C8 =>
  eY N o p2 p3 r6 kk fuel (l8, s8, C8)))))) (
  kk (B9, i, i2))
def lW (N : Nat) (d : List UInt8) (o p2 p3 : Int) (p4 : List Int) : Option (Int × Int × List Int × Int) :=
 Option.bind (bU N o 1 64) fun r2 =>
 cond (!(r2)) (
 some (0, 0, ([] : List Int), 3)) (
 Option.bind (bU N p2 1 64) fun r3 =>
 cond (!(r3)) (
 some (0, 0, ([] : List Int), 3)) (
 Option.bind (bU N p3 1 7) fun r4 =>
 cond (!(r4)) (
 some (0, 0, ([] : List Int), 6)) (
 Option.bind (hU N p4) fun r5 =>
 cond (!decide (r5 = 0)) (
 some (0, 0, ([] : List Int), r5)) (
 Option.bind (jW N p4) fun r6 =>
 cond (decide (32768 < (d.length : Int))) (
 some (0, 0, ([] : List Int), 1)) (
 Option.bind (mZ N d) fun r7 =>
 Option.bind (some (IntKind.i64.wrap (o * p2))) fun x2 =>
 Option.bind (mk 8 x2 (0 : Int)) fun l2 =>
 eY N o p2 p3 r6 (fun (Li, i3, i4) =>
 Option.bind (kA N o p2 Li p3 p4) fun TU =>
 cond (!decide (TU.2 = 0)) (
 some (0, 0, ([] : List Int), 1)) (
 cond (!decide (TU.1 = d)) (
 some (0, 0, ([] : List Int), 1)) (
 some (o, p2, Li, 0)))) N (l2, r7, 0))))))
def nL (N : Nat) (nP lS cM dS dG : Int) (dK : List Int) (bS : List (List UInt8)) (bI a8 bA bB bC bJ : Int) (aO : List (Int × Int)) (bD bE bF aS aT aU aV aW aX aY aZ a7 : Int) (aP : List (Int × Int)) (bG i : Int) : Option (List Int × Bool) :=
 Option.bind (o6 N nP lS cM dS dG dK bS bI a8 bA bB bC bJ aO bD bE bF aS aT aU aV aW aX aY aZ a7 aP bG i) fun r2 =>
 cond (decide (dS = 0)) (
 Option.bind (idx bS i) fun e =>
 Option.bind (lV N e cM (IntKind.i64.wrap (nP * r2))) fun r3 =>
 some (r3.1, decide (r3.2 = 0))) (
 Option.bind (idx bS i) fun e2 =>
 Option.bind (lW N e2 nP r2 dS dK) fun r4 =>
 cond (decide (r4.2.2.2 = 0)) (
 Option.bind (mI N r4.2.2.1 cM) fun r5 =>
 some (r4.2.2.1, r5)) (
 some (r4.2.2.1, false)))
def jG (N : Nat) (nP lS cM dS dG : Int) (dK : List Int) (bS : List (List UInt8)) (bI a8 bA bB bC bJ : Int) (aO : List (Int × Int)) (bD bE bF aS aT aU aV aW aX aY aZ a7 : Int) (aP : List (Int × Int)) (bG : Int) (kk : (List Int × Int) → Option (Int × Int × List Int × Int)) : Nat → (List Int × Int) → Option (Int × Int × List Int × Int)
 | 0, _ => none
 | fuel + 1, (rI, i) =>
  cond (decide (i < (bS.length : Int))) (
  Option.bind (nL N nP lS cM dS dG dK bS bI a8 bA bB bC bJ aO bD bE bF aS aT aU aV aW aX aY aZ a7 aP bG i) fun r6 =>
  cond (!(r6.2)) (
  some (0, 0, ([] : List Int), 1)) (
  Option.bind (app 8 rI r6.1) fun TV =>
  Option.bind (some (IntKind.i64.wrap (i + 1))) fun i3 =>
  jG N nP lS cM dS dG dK bS bI a8 bA bB bC bJ aO bD bE bF aS aT aU aV aW aX aY aZ a7 aP bG kk fuel (TV, i3))) (
  kk (rI, i))
def lX (N : Nat) (nP lS cM dS dG : Int) (dK : List Int) (bS : List (List UInt8)) (bI a8 bA bB bC bJ : Int) (aO : List (Int × Int)) (bD bE bF aS aT aU aV aW aX aY aZ a7 : Int) (aP : List (Int × Int)) (bG : Int) : Option (Int × Int × List Int × Int) :=
 Option.bind (lK N nP lS cM dS dG dK bS bI a8 bA bB bC bJ aO bD bE bF aS aT aU aV aW aX aY aZ a7 aP bG) fun r2 =>
 cond (!decide (r2 = 0)) (
 some (0, 0, ([] : List Int), r2)) (
 Option.bind (nI N nP lS cM dS dG dK bS bI a8 bA bB bC bJ aO bD bE bF aS aT aU aV aW aX aY aZ a7 aP bG) fun r3 =>
 cond (!decide ((bS.length : Int) = r3)) (
 some (0, 0, ([] : List Int), 2)) (
 Option.bind (lM N nP lS cM dS dG dK bS bI a8 bA bB bC bJ aO bD bE bF aS aT aU aV aW aX aY aZ a7 aP bG) fun r4 =>
 cond (!decide (r4 = 0)) (
 some (0, 0, ([] : List Int), r4)) (
 jG N nP lS cM dS dG dK bS bI a8 bA bB bC bJ aO bD bE bF aS aT aU aV aW aX aY aZ a7 aP bG (fun (OE, i4) =>
 some (nP, lS, OE, 0)) N (([] : List Int), 0))))
def uV (N : Nat)  : Option (List Int) :=
 some (([2, 3, 3, 4, 4, 4, 5, 5, 5, 6, 6, 6, 7, 7, 7, 8, 8] : List Int))
def pT (N : Nat)  : Option (Int × Int × List Int) :=
 some (2, 2, ([10, 65535, 0, 7] : List Int))
def lB (N : Nat)  : Option (Int × Int × Int × Int × Int × List Int × List (List UInt8) × Int × Int × Int × Int × Int × Int × List (Int × Int) × Int × Int × Int × Int × Int × Int × Int × Int × Int × Int × Int × Int × List (Int × Int) × Int) :=
 Option.bind (uV N ) fun r2 =>
 Option.bind (s9 N ) fun r3 =>
 Option.bind (pT N ) fun r4 =>
 Option.bind (Dm N 2 2 16 7 1 r2 (([] : List (List UInt8))) r3.1 r3.2.1 r3.2.2.1 r3.2.2.2.1 r3.2.2.2.2.1 r3.2.2.2.2.2.1 r3.2.2.2.2.2.2.1 r3.2.2.2.2.2.2.2.1 r3.2.2.2.2.2.2.2.2.1 r3.2.2.2.2.2.2.2.2.2.1 r3.2.2.2.2.2.2.2.2.2.2.1 r3.2.2.2.2.2.2.2.2.2.2.2.1 r3.2.2.2.2.2.2.2.2.2.2.2.2.1 r3.2.2.2.2.2.2.2.2.2.2.2.2.2.1 r3.2.2.2.2.2.2.2.2.2.2.2.2.2.2.1 r3.2.2.2.2.2.2.2.2.2.2.2.2.2.2.2.1 r3.2.2.2.2.2.2.2.2.2.2.2.2.2.2.2.2.1 r3.2.2.2.2.2.2.2.2.2.2.2.2.2.2.2.2.2.1 r3.2.2.2.2.2.2.2.2.2.2.2.2.2.2.2.2.2.2.1 r3.2.2.2.2.2.2.2.2.2.2.2.2.2.2.2.2.2.2.2.1 r3.2.2.2.2.2.2.2.2.2.2.2.2.2.2.2.2.2.2.2.2 r4.1 r4.2.1 r4.2.2) fun r5 =>
 some (r5.1, r5.2.1, r5.2.2.1, r5.2.2.2.1, r5.2.2.2.2.1, r5.2.2.2.2.2.1, r5.2.2.2.2.2.2.1, r5.2.2.2.2.2.2.2.1, r5.2.2.2.2.2.2.2.2.1, r5.2.2.2.2.2.2.2.2.2.1, r5.2.2.2.2.2.2.2.2.2.2.1, r5.2.2.2.2.2.2.2.2.2.2.2.1, r5.2.2.2.2.2.2.2.2.2.2.2.2.1, r5.2.2.2.2.2.2.2.2.2.2.2.2.2.1, r5.2.2.2.2.2.2.2.2.2.2.2.2.2.2.1, r5.2.2.2.2.2.2.2.2.2.2.2.2.2.2.2.1, r5.2.2.2.2.2.2.2.2.2.2.2.2.2.2.2.2.1, r5.2.2.2.2.2.2.2.2.2.2.2.2.2.2.2.2.2.1, r5.2.2.2.2.2.2.2.2.2.2.2.2.2.2.2.2.2.2.1, r5.2.2.2.2.2.2.2.2.2.2.2.2.2.2.2.2.2.2.2.1, r5.2.2.2.2.2.2.2.2.2.2.2.2.2.2.2.2.2.2.2.2.1, r5.2.2.2.2.2.2.2.2.2.2.2.2.2.2.2.2.2.2.2.2.2.1, r5.2.2.2.2.2.2.2.2.2.2.2.2.2.2.2.2.2.2.2.2.2.2.1, r5.2.2.2.2.2.2.2.2.2.2.2.2.2.2.2.2.2.2.2.2.2.2.2.1, r5.2.2.2.2.2.2.2.2.2.2.2.2.2.2.2.2.2.2.2.2.2.2.2.2.1, r5.2.2.2.2.2.2.2.2.2.2.2.2.2.2.2.2.2.2.2.2.2.2.2.2.2.1, r5.2.2.2.2.2.2.2.2.2.2.2.2.2.2.2.2.2.2.2.2.2.2.2.2.2.2.1, r5.2.2.2.2.2.2.2.2.2.2.2.2.2.2.2.2.2.2.2.2.2.2.2.2.2.2.2.1)
def rD (N : Nat) (nP lS cM dS dG : Int) (dK : List Int) (bS : List (List UInt8)) (bI a8 bA bB bC bJ : Int) (aO : List (Int × Int)) (bD bE bF aS aT aU aV aW aX aY aZ a7 : Int) (aP : List (Int × Int)) (bG : Int) : Option Int :=
 Option.bind (tD N nP lS cM dS dG dK bS bI a8 bA bB bC bJ aO bD bE bF aS aT aU aV aW aX aY aZ a7 aP bG) fun r2 =>
 some r2.2.2.2
def tE (N : Nat) (e2 : Int) (kk : (List Int × Int) → Option (List Int)) : Nat → (List Int × Int) → Option (List Int)
 | 0, _ => none
 | fuel + 1, (u9, i5) =>
  cond (decide (0 ≤ i5)) (
  Option.bind (nn (IntKind.i64.wrap (8 * i5))) fun _ =>
  Option.bind (app 1 u9 (([IntKind.u8.wrap (jN .i64 e2 (IntKind.i64.wrap (8 * i5)))] : List Int))) fun Ge =>
  Option.bind (some (IntKind.i64.wrap (i5 - 1))) fun i8 =>
  tE N e2 kk fuel (Ge, i8)) (
  kk (u9, i5))
def tF (N : Nat) (l2 : List Int) (kk : (List Int × Int) → Option (List Int)) : Nat → (List Int × Int) → Option (List Int)
 | 0, _ => none
 | fuel + 1, (AM, i) =>
  cond (decide (i < (l2.length : Int))) (
  Option.bind (idx l2 i) fun e2 =>
  tE N e2 (fun (Hu, Fo) =>
  tF N l2 kk fuel (Hu, IntKind.i64.wrap (i + 1))) N (AM, 3)) (
  kk (AM, i))
def fZ (N : Nat) (KU l2 : List Int) : Option (List Int) :=
 tF N l2 (fun (Jv, i11) =>
 some Jv) N (KU, 0)
def vP (N : Nat) (KU : List Int) (s : List UInt8) : Option (List Int) :=
 Option.bind (fZ N KU (([(s.length : Int)] : List Int))) fun r2 =>
 Option.bind (app 1 r2 (qG s)) fun AM =>
 some AM
def zL (N : Nat) (bY : List (Int × Int)) (kk : (List Int × Int) → Option (List UInt8 × Int)) : Nat → (List Int × Int) → Option (List UInt8 × Int)
 | 0, _ => none
 | fuel + 1, (Jw, i5) =>
  cond (decide (i5 < (bY.length : Int))) (
  Option.bind (idx bY i5) fun e6 =>
  Option.bind (fZ N Jw ([e6.1, e6.2] : List Int)) fun BI =>
  zL N bY kk fuel (BI, IntKind.i64.wrap (i5 + 1))) (
  kk (Jw, i5))
def zM (N : Nat) (bX : List (Int × Int)) (kk : (List Int × Int) → Option (List UInt8 × Int)) : Nat → (List Int × Int) → Option (List UInt8 × Int)
 | 0, _ => none
 | fuel + 1, (Jx, i3) =>
  cond (decide (i3 < (bX.length : Int))) (
  Option.bind (idx bX i3) fun e4 =>
  Option.bind (fZ N Jx ([e4.1, e4.2] : List Int)) fun Aq =>
  zM N bX kk fuel (Aq, IntKind.i64.wrap (i3 + 1))) (
  kk (Jx, i3))
def zN (N : Nat) (dR : List (List UInt8)) (kk : (List Int × Int) → Option (List UInt8 × Int)) : Nat → (List Int × Int) → Option (List UInt8 × Int)
 | 0, _ => none
 | fuel + 1, (Sv, i) =>
  cond (decide (i < (dR.length : Int))) (
  Option.bind (idx dR i) fun e2 =>
  Option.bind (vP N Sv e2) fun r8 =>
  zN N dR kk fuel (r8, IntKind.i64.wrap (i + 1))) (
  kk (Sv, i))
def Cj (N : Nat) (mY nQ fB g8 iR : Int) (gK : List Int) (dR : List (List UInt8)) (dI cQ cR cU cV dJ : Int) (bX : List (Int × Int)) (cW cZ dA cB cC cD cE cG cH cJ cK cL : Int) (bY : List (Int × Int)) (cP : Int) : Option (List UInt8 × Int) :=
 Option.bind (rD N mY nQ fB g8 iR gK dR dI cQ cR cU cV dJ bX cW cZ dA cB cC cD cE cG cH cJ cK cL bY cP) fun r2 =>
 cond (!decide (r2 = 0)) (
 some (([] : List UInt8), r2)) (
 Option.bind (vP N ([] : List Int) ([100, 97, 114, 107] : List UInt8)) fun r3 =>
 Option.bind (fZ N r3 (([mY, nQ, fB, g8, iR, (gK.length : Int)] : List Int))) fun r4 =>
 Option.bind (fZ N r4 gK) fun r5 =>
 Option.bind (fZ N r5 (([(dR.length : Int)] : List Int))) fun r6 =>
 zN N dR (fun (WB, i2) =>
 Option.bind (fZ N WB ([dI] : List Int)) fun r9 =>
 Option.bind (fZ N r9 ([cQ, cR, cU, cV])) fun MJ =>
 Option.bind (fZ N MJ (([dJ, (bX.length : Int)] : List Int))) fun DM =>
 zM N bX (fun (WC, i4) =>
 Option.bind (fZ N WC ([cW, cZ, dA])) fun Lg =>
 Option.bind (fZ N Lg ([cB, cC, cD, cE, cG, cH, cJ, cK, cL])) fun DN =>
 Option.bind (fZ N DN (([(bY.length : Int)] : List Int))) fun r16 =>
 zL N bY (fun (WD, i6) =>
 Option.bind (fZ N WD ([cP] : List Int)) fun Ca =>
 some (toB Ca, 0)) N (r16, 0)) N (DM, 0)) N (r6, 0))
def nA (N : Nat) (Jb : List UInt8) (n : Int) : Option (Option (List UInt8 × List UInt8)) :=
 cond (decide (n < 0)) (
 some none) (
 cond (decide ((Jb.length : Int) < n)) (
 some none) (
 Option.bind (B5 Jb 0 n) fun s =>
 Option.bind (B5 Jb n (Jb.length : Int)) fun s2 =>
 some (some (s, s2))))
def o7 (N : Nat) (r2 : List UInt8 × List UInt8) (kk : (Int × Int) → Option (Option (Int × List UInt8))) : Nat → (Int × Int) → Option (Option (Int × List UInt8))
 | 0, _ => none
 | fuel + 1, (n, i) =>
  cond (decide (i < (((qG r2.1).length : Int)))) (
  Option.bind (idx (qG r2.1) i) fun e2 =>
  Option.bind (some (MC .i64 (rB .i64 n 8) (IntKind.i64.wrap e2))) fun n3 =>
  o7 N r2 kk fuel (n3, IntKind.i64.wrap (i + 1))) (
  kk (n, i))
def bT (N : Nat) (Jb : List UInt8) : Option (Option (Int × List UInt8)) :=
 Option.bind (nA N Jb 4) fun q => Bp q (
 some none) fun r2 =>
 o7 N r2 (fun (n4, i2) =>
 some (some (IntKind.i64.wrap (IntKind.i32.wrap n4), r2.2))) N (0, 0)
def Ar (N : Nat) (OF : Int × List UInt8) (kk : (List (Int × Int) × List UInt8 × Int) → Option (Int × Int × Int × Int × Int × List Int × List (List UInt8) × Int × Int × Int × Int × Int × Int × List (Int × Int) × Int × Int × Int × Int × Int × Int × Int × Int × Int × Int × Int × Int × List (Int × Int) × Int × Int)) : Nat → (List (Int × Int) × List UInt8 × Int) → Option (Int × Int × Int × Int × Int × List Int × List (List UInt8) × Int × Int × Int × Int × Int × Int × List (Int × Int) × Int × Int × Int × Int × Int × Int × Int × Int × Int × Int × Int × Int × List (Int × Int) × Int × Int)
 | 0, _ => none
 | fuel + 1, (l8, Hv, i7) =>
  cond (decide (i7 < OF.1)) (
  Option.bind (bT N Hv) fun q45 => Bp q45 (
  some (0, 0, 0, 0, 0, ([] : List Int), ([] : List (List UInt8)), 0, 0, 0, 0, 0, 0, ([] : List (Int × Int)), 0, 0, 0, 0, 0, 0, 0, 0, 0, 0, 0, 0, ([] : List (Int × Int)), 0, 1)) fun Ir =>
  Option.bind (bT N Ir.2) fun q46 => Bp q46 (
  some (0, 0, 0, 0, 0, ([] : List Int), ([] : List (List UInt8)), 0, 0, 0, 0, 0, 0, ([] : List (Int × Int)), 0, 0, 0, 0, 0, 0, 0, 0, 0, 0, 0, 0, ([] : List (Int × Int)), 0, 1)) fun QI =>
  Option.bind (app 16 l8 (([(Ir.1, QI.1)] : List (Int × Int)))) fun As =>
  Ar N OF kk fuel (As, QI.2, IntKind.i64.wrap (i7 + 1))) (
  kk (l8, Hv, i7))
def At (N : Nat) (G9 : Int × List UInt8) (kk : (List (Int × Int) × List UInt8 × Int) → Option (Int × Int × Int × Int × Int × List Int × List (List UInt8) × Int × Int × Int × Int × Int × Int × List (Int × Int) × Int × Int × Int × Int × Int × Int × Int × Int × Int × Int × Int × Int × List (Int × Int) × Int × Int)) : Nat → (List (Int × Int) × List UInt8 × Int) → Option (Int × Int × Int × Int × Int × List Int × List (List UInt8) × Int × Int × Int × Int × Int × Int × List (Int × Int) × Int × Int × Int × Int × Int × Int × Int × Int × Int × Int × Int × Int × List (Int × Int) × Int × Int)
 | 0, _ => none
 | fuel + 1, (l6, MK, i5) =>
  cond (decide (i5 < G9.1)) (
  Option.bind (bT N MK) fun q26 => Bp q26 (
  some (0, 0, 0, 0, 0, ([] : List Int), ([] : List (List UInt8)), 0, 0, 0, 0, 0, 0, ([] : List (Int × Int)), 0, 0, 0, 0, 0, 0, 0, 0, 0, 0, 0, 0, ([] : List (Int × Int)), 0, 1)) fun Is =>
  Option.bind (bT N Is.2) fun q27 => Bp q27 (
  some (0, 0, 0, 0, 0, ([] : List Int), ([] : List (List UInt8)), 0, 0, 0, 0, 0, 0, ([] : List (Int × Int)), 0, 0, 0, 0, 0, 0, 0, 0, 0, 0, 0, 0, ([] : List (Int × Int)), 0, 1)) fun QJ =>
  Option.bind (app 16 l6 (([(Is.1, QJ.1)] : List (Int × Int)))) fun Au =>
  At N G9 kk fuel (Au, QJ.2, IntKind.i64.wrap (i5 + 1))) (
  kk (l6, MK, i5))
def Av (N : Nat) (sR : Int × List UInt8) (kk : (List (List UInt8) × List UInt8 × Int) → Option (Int × Int × Int × Int × Int × List Int × List (List UInt8) × Int × Int × Int × Int × Int × Int × List (Int × Int) × Int × Int × Int × Int × Int × Int × Int × Int × Int × Int × Int × Int × List (Int × Int) × Int × Int)) : Nat → (List (List UInt8) × List UInt8 × Int) → Option (Int × Int × Int × Int × Int × List Int × List (List UInt8) × Int × Int × Int × Int × Int × Int × List (Int × Int) × Int × Int × Int × Int × Int × Int × Int × Int × Int × Int × Int × Int × List (Int × Int) × Int × Int)
 | 0, _ => none
 | fuel + 1, (l4, ML, i3) =>
  cond (decide (i3 < sR.1)) (
  Option.bind (bT N ML) fun q14 => Bp q14 (
  some (0, 0, 0, 0, 0, ([] : List Int), ([] : List (List UInt8)), 0, 0, 0, 0, 0, 0, ([] : List (Int × Int)), 0, 0, 0, 0, 0, 0, 0, 0, 0, 0, 0, 0, ([] : List (Int × Int)), 0, 1)) fun DN =>
  Option.bind (nA N DN.2 DN.1) fun q15 => Bp q15 (
  some (0, 0, 0, 0, 0, ([] : List Int), ([] : List (List UInt8)), 0, 0, 0, 0, 0, 0, ([] : List (Int × Int)), 0, 0, 0, 0, 0, 0, 0, 0, 0, 0, 0, 0, ([] : List (Int × Int)), 0, 1)) fun r16 =>
  Option.bind (app 16 l4 (([r16.1] : List (List UInt8)))) fun EK =>
  Av N sR kk fuel (EK, r16.2, IntKind.i64.wrap (i3 + 1))) (
  kk (l4, ML, i3))
def Aw (N : Nat) (r9 : Int × List UInt8) (kk : (List Int × List UInt8 × Int) → Option (Int × Int × Int × Int × Int × List Int × List (List UInt8) × Int × Int × Int × Int × Int × Int × List (Int × Int) × Int × Int × Int × Int × Int × Int × Int × Int × Int × Int × Int × Int × List (Int × Int) × Int × Int)) : Nat → (List Int × List UInt8 × Int) → Option (Int × Int × Int × Int × Int × List Int × List (List UInt8) × Int × Int × Int × Int × Int × Int × List (Int × Int) × Int × Int × Int × Int × Int × Int × Int × Int × Int × Int × Int × Int × List (Int × Int) × Int × Int)
 | 0, _ => none
 | fuel + 1, (l2, MM, i) =>
  cond (decide (i < r9.1)) (
  Option.bind (bT N MM) fun q10 => Bp q10 (
  some (0, 0, 0, 0, 0, ([] : List Int), ([] : List (List UInt8)), 0, 0, 0, 0, 0, 0, ([] : List (Int × Int)), 0, 0, 0, 0, 0, 0, 0, 0, 0, 0, 0, 0, ([] : List (Int × Int)), 0, 1)) fun DM =>
  Option.bind (app 8 l2 ([DM.1] : List Int)) fun It =>
  Aw N r9 kk fuel (It, DM.2, IntKind.i64.wrap (i + 1))) (
  kk (l2, MM, i))
def Dp (N : Nat) (d : List UInt8) : Option (Int × Int × Int × Int × Int × List Int × List (List UInt8) × Int × Int × Int × Int × Int × Int × List (Int × Int) × Int × Int × Int × Int × Int × Int × Int × Int × Int × Int × Int × Int × List (Int × Int) × Int × Int) :=
 Option.bind (bT N d) fun q => Bp q (
 some (0, 0, 0, 0, 0, ([] : List Int), ([] : List (List UInt8)), 0, 0, 0, 0, 0, 0, ([] : List (Int × Int)), 0, 0, 0, 0, 0, 0, 0, 0, 0, 0, 0, 0, ([] : List (Int × Int)), 0, 1)) fun r2 =>
 Option.bind (nA N r2.2 r2.1) fun q2 => Bp q2 (
 some (0, 0, 0, 0, 0, ([] : List Int), ([] : List (List UInt8)), 0, 0, 0, 0, 0, 0, ([] : List (Int × Int)), 0, 0, 0, 0, 0, 0, 0, 0, 0, 0, 0, 0, ([] : List (Int × Int)), 0, 1)) fun r3 =>
 cond (!decide (r3.1 = ([100, 97, 114, 107] : List UInt8))) (
 some (0, 0, 0, 0, 0, ([] : List Int), ([] : List (List UInt8)), 0, 0, 0, 0, 0, 0, ([] : List (Int × Int)), 0, 0, 0, 0, 0, 0, 0, 0, 0, 0, 0, 0, ([] : List (Int × Int)), 0, 1)) (
 Option.bind (bT N r3.2) fun q3 => Bp q3 (
 some (0, 0, 0, 0, 0, ([] : List Int), ([] : List (List UInt8)), 0, 0, 0, 0, 0, 0, ([] : List (Int × Int)), 0, 0, 0, 0, 0, 0, 0, 0, 0, 0, 0, 0, ([] : List (Int × Int)), 0, 1)) fun r4 =>
 Option.bind (bT N r4.2) fun q4 => Bp q4 (
 some (0, 0, 0, 0, 0, ([] : List Int), ([] : List (List UInt8)), 0, 0, 0, 0, 0, 0, ([] : List (Int × Int)), 0, 0, 0, 0, 0, 0, 0, 0, 0, 0, 0, 0, ([] : List (Int × Int)), 0, 1)) fun r5 =>
 Option.bind (bT N r5.2) fun q5 => Bp q5 (
 some (0, 0, 0, 0, 0, ([] : List Int), ([] : List (List UInt8)), 0, 0, 0, 0, 0, 0, ([] : List (Int × Int)), 0, 0, 0, 0, 0, 0, 0, 0, 0, 0, 0, 0, ([] : List (Int × Int)), 0, 1)) fun r6 =>
 Option.bind (bT N r6.2) fun q6 => Bp q6 (
 some (0, 0, 0, 0, 0, ([] : List Int), ([] : List (List UInt8)), 0, 0, 0, 0, 0, 0, ([] : List (Int × Int)), 0, 0, 0, 0, 0, 0, 0, 0, 0, 0, 0, 0, ([] : List (Int × Int)), 0, 1)) fun r7 =>
 Option.bind (bT N r7.2) fun q7 => Bp q7 (
 some (0, 0, 0, 0, 0, ([] : List Int), ([] : List (List UInt8)), 0, 0, 0, 0, 0, 0, ([] : List (Int × Int)), 0, 0, 0, 0, 0, 0, 0, 0, 0, 0, 0, 0, ([] : List (Int × Int)), 0, 1)) fun r8 =>
 Option.bind (bT N r8.2) fun q8 => Bp q8 (
 some (0, 0, 0, 0, 0, ([] : List Int), ([] : List (List UInt8)), 0, 0, 0, 0, 0, 0, ([] : List (Int × Int)), 0, 0, 0, 0, 0, 0, 0, 0, 0, 0, 0, 0, ([] : List (Int × Int)), 0, 1)) fun r9 =>
 cond (decide (r9.1 < 0)) (
 some (0, 0, 0, 0, 0, ([] : List Int), ([] : List (List UInt8)), 0, 0, 0, 0, 0, 0, ([] : List (Int × Int)), 0, 0, 0, 0, 0, 0, 0, 0, 0, 0, 0, 0, ([] : List (Int × Int)), 0, 1)) (
 cond (decide ((r9.2.length : Int) < r9.1)) (
 some (0, 0, 0, 0, 0, ([] : List Int), ([] : List (List UInt8)), 0, 0, 0, 0, 0, 0, ([] : List (Int × Int)), 0, 0, 0, 0, 0, 0, 0, 0, 0, 0, 0, 0, ([] : List (Int × Int)), 0, 1)) (
 Aw N r9 (fun (l3, WE, i2) =>
 Option.bind (bT N WE) fun q11 => Bp q11 (
 some (0, 0, 0, 0, 0, ([] : List Int), ([] : List (List UInt8)), 0, 0, 0, 0, 0, 0, ([] : List (Int × Int)), 0, 0, 0, 0, 0, 0, 0, 0, 0, 0, 0, 0, ([] : List (Int × Int)), 0, 1)) fun sR =>
 cond (decide (sR.1 < 0)) (
 some (0, 0, 0, 0, 0, ([] : List Int), ([] : List (List UInt8)), 0, 0, 0, 0, 0, 0, ([] : List (Int × Int)), 0, 0, 0, 0, 0, 0, 0, 0, 0, 0, 0, 0, ([] : List (Int × Int)), 0, 1)) (
 cond (decide ((sR.2.length : Int) < sR.1)) (
 some (0, 0, 0, 0, 0, ([] : List Int), ([] : List (List UInt8)), 0, 0, 0, 0, 0, 0, ([] : List (Int × Int)), 0, 0, 0, 0, 0, 0, 0, 0, 0, 0, 0, 0, ([] : List (Int × Int)), 0, 1)) (
 Av N sR (fun (l5, WF, i4) =>
 Option.bind (bT N WF) fun q16 => Bp q16 (
 some (0, 0, 0, 0, 0, ([] : List Int), ([] : List (List UInt8)), 0, 0, 0, 0, 0, 0, ([] : List (Int × Int)), 0, 0, 0, 0, 0, 0, 0, 0, 0, 0, 0, 0, ([] : List (Int × Int)), 0, 1)) fun Ch =>
 Option.bind (bT N Ch.2) fun q17 => Bp q17 (
 some (0, 0, 0, 0, 0, ([] : List Int), ([] : List (List UInt8)), 0, 0, 0, 0, 0, 0, ([] : List (Int × Int)), 0, 0, 0, 0, 0, 0, 0, 0, 0, 0, 0, 0, ([] : List (Int × Int)), 0, 1)) fun BI =>
 Option.bind (bT N BI.2) fun q18 => Bp q18 (
 some (0, 0, 0, 0, 0, ([] : List Int), ([] : List (List UInt8)), 0, 0, 0, 0, 0, 0, ([] : List (Int × Int)), 0, 0, 0, 0, 0, 0, 0, 0, 0, 0, 0, 0, ([] : List (Int × Int)), 0, 1)) fun Ca =>
 Option.bind (bT N Ca.2) fun q19 => Bp q19 (
 some (0, 0, 0, 0, 0, ([] : List Int), ([] : List (List UInt8)), 0, 0, 0, 0, 0, 0, ([] : List (Int × Int)), 0, 0, 0, 0, 0, 0, 0, 0, 0, 0, 0, 0, ([] : List (Int × Int)), 0, 1)) fun DW =>
 Option.bind (bT N DW.2) fun q20 => Bp q20 (
 some (0, 0, 0, 0, 0, ([] : List Int), ([] : List (List UInt8)), 0, 0, 0, 0, 0, 0, ([] : List (Int × Int)), 0, 0, 0, 0, 0, 0, 0, 0, 0, 0, 0, 0, ([] : List (Int × Int)), 0, 1)) fun DX =>
 Option.bind (bT N DX.2) fun q21 => Bp q21 (
 some (0, 0, 0, 0, 0, ([] : List Int), ([] : List (List UInt8)), 0, 0, 0, 0, 0, 0, ([] : List (Int × Int)), 0, 0, 0, 0, 0, 0, 0, 0, 0, 0, 0, 0, ([] : List (Int × Int)), 0, 1)) fun E7 =>
 Option.bind (bT N E7.2) fun q22 => Bp q22 (
 some (0, 0, 0, 0, 0, ([] : List Int), ([] : List (List UInt8)), 0, 0, 0, 0, 0, 0, ([] : List (Int × Int)), 0, 0, 0, 0, 0, 0, 0, 0, 0, 0, 0, 0, ([] : List (Int × Int)), 0, 1)) fun G9 =>
 cond (decide (G9.1 < 0)) (
 some (0, 0, 0, 0, 0, ([] : List Int), ([] : List (List UInt8)), 0, 0, 0, 0, 0, 0, ([] : List (Int × Int)), 0, 0, 0, 0, 0, 0, 0, 0, 0, 0, 0, 0, ([] : List (Int × Int)), 0, 1)) (
 cond (decide ((G9.2.length : Int) < G9.1)) (
 some (0, 0, 0, 0, 0, ([] : List Int), ([] : List (List UInt8)), 0, 0, 0, 0, 0, 0, ([] : List (Int × Int)), 0, 0, 0, 0, 0, 0, 0, 0, 0, 0, 0, 0, ([] : List (Int × Int)), 0, 1)) (
 At N G9 (fun (l7, WG, i6) =>
 Option.bind (bT N WG) fun q29 => Bp q29 (
 some (0, 0, 0, 0, 0, ([] : List Int), ([] : List (List UInt8)), 0, 0, 0, 0, 0, 0, ([] : List (Int × Int)), 0, 0, 0, 0, 0, 0, 0, 0, 0, 0, 0, 0, ([] : List (Int × Int)), 0, 1)) fun Iu =>
 Option.bind (bT N Iu.2) fun q30 => Bp q30 (
 some (0, 0, 0, 0, 0, ([] : List Int), ([] : List (List UInt8)), 0, 0, 0, 0, 0, 0, ([] : List (Int × Int)), 0, 0, 0, 0, 0, 0, 0, 0, 0, 0, 0, 0, ([] : List (Int × Int)), 0, 1)) fun Jc =>
 Option.bind (bT N Jc.2) fun q31 => Bp q31 (
 some (0, 0, 0, 0, 0, ([] : List Int), ([] : List (List UInt8)), 0, 0, 0, 0, 0, 0, ([] : List (Int × Int)), 0, 0, 0, 0, 0, 0, 0, 0, 0, 0, 0, 0, ([] : List (Int × Int)), 0, 1)) fun r32 =>
 Option.bind (bT N r32.2) fun q32 => Bp q32 (
 some (0, 0, 0, 0, 0, ([] : List Int), ([] : List (List UInt8)), 0, 0, 0, 0, 0, 0, ([] : List (Int × Int)), 0, 0, 0, 0, 0, 0, 0, 0, 0, 0, 0, 0, ([] : List (Int × Int)), 0, 1)) fun KV =>
 Option.bind (bT N KV.2) fun q33 => Bp q33 (
 some (0, 0, 0, 0, 0, ([] : List Int), ([] : List (List UInt8)), 0, 0, 0, 0, 0, 0, ([] : List (Int × Int)), 0, 0, 0, 0, 0, 0, 0, 0, 0, 0, 0, 0, ([] : List (Int × Int)), 0, 1)) fun Lj =>
 Option.bind (bT N Lj.2) fun q34 => Bp q34 (
 some (0, 0, 0, 0, 0, ([] : List Int), ([] : List (List UInt8)), 0, 0, 0, 0, 0, 0, ([] : List (Int × Int)), 0, 0, 0, 0, 0, 0, 0, 0, 0, 0, 0, 0, ([] : List (Int × Int)), 0, 1)) fun L4 =>
 Option.bind (bT N L4.2) fun q35 => Bp q35 (
 some (0, 0, 0, 0, 0, ([] : List Int), ([] : List (List UInt8)), 0, 0, 0, 0, 0, 0, ([] : List (Int × Int)), 0, 0, 0, 0, 0, 0, 0, 0, 0, 0, 0, 0, ([] : List (Int × Int)), 0, 1)) fun MN =>
 Option.bind (bT N MN.2) fun q36 => Bp q36 (
 some (0, 0, 0, 0, 0, ([] : List Int), ([] : List (List UInt8)), 0, 0, 0, 0, 0, 0, ([] : List (Int × Int)), 0, 0, 0, 0, 0, 0, 0, 0, 0, 0, 0, 0, ([] : List (Int × Int)), 0, 1)) fun NS =>
 Option.bind (bT N NS.2) fun q37 => Bp q37 (
 some (0, 0, 0, 0, 0, ([] : List Int), ([] : List (List UInt8)), 0, 0, 0, 0, 0, 0, ([] : List (Int × Int)), 0, 0, 0, 0, 0, 0, 0, 0, 0, 0, 0, 0, ([] : List (Int × Int)), 0, 1)) fun OG =>
 Option.bind (bT N OG.2) fun q38 => Bp q38 (
 some (0, 0, 0, 0, 0, ([] : List Int), ([] : List (List UInt8)), 0, 0, 0, 0, 0, 0, ([] : List (Int × Int)), 0, 0, 0, 0, 0, 0, 0, 0, 0, 0, 0, 0, ([] : List (Int × Int)), 0, 1)) fun QK =>
 Option.bind (bT N QK.2) fun q39 => Bp q39 (
 some (0, 0, 0, 0, 0, ([] : List Int), ([] : List (List UInt8)), 0, 0, 0, 0, 0, 0, ([] : List (Int × Int)), 0, 0, 0, 0, 0, 0, 0, 0, 0, 0, 0, 0, ([] : List (Int × Int)), 0, 1)) fun Q9 =>
 Option.bind (bT N Q9.2) fun q40 => Bp q40 (
 some (0, 0, 0, 0, 0, ([] : List Int), ([] : List (List UInt8)), 0, 0, 0, 0, 0, 0, ([] : List (Int × Int)), 0, 0, 0, 0, 0, 0, 0, 0, 0, 0, 0, 0, ([] : List (Int × Int)), 0, 1)) fun Sw =>
 Option.bind (bT N Sw.2) fun q41 => Bp q41 (
 some (0, 0, 0, 0, 0, ([] : List Int), ([] : List (List UInt8)), 0, 0, 0, 0, 0, 0, ([] : List (Int × Int)), 0, 0, 0, 0, 0, 0, 0, 0, 0, 0, 0, 0, ([] : List (Int × Int)), 0, 1)) fun OF =>
 cond (decide (OF.1 < 0)) (
 some (0, 0, 0, 0, 0, ([] : List Int), ([] : List (List UInt8)), 0, 0, 0, 0, 0, 0, ([] : List (Int × Int)), 0, 0, 0, 0, 0, 0, 0, 0, 0, 0, 0, 0, ([] : List (Int × Int)), 0, 1)) (
 cond (decide ((OF.2.length : Int) < OF.1)) (
 some (0, 0, 0, 0, 0, ([] : List Int), ([] : List (List UInt8)), 0, 0, 0, 0, 0, 0, ([] : List (Int × Int)), 0, 0, 0, 0, 0, 0, 0, 0, 0, 0, 0, 0, ([] : List (Int × Int)), 0, 1)) (
 Ar N OF (fun (l9, Sx, i8) =>
 Option.bind (bT N Sx) fun q48 => Bp q48 (
 some (0, 0, 0, 0, 0, ([] : List Int), ([] : List (List UInt8)), 0, 0, 0, 0, 0, 0, ([] : List (Int × Int)), 0, 0, 0, 0, 0, 0, 0, 0, 0, 0, 0, 0, ([] : List (Int × Int)), 0, 1)) fun VB =>
 cond (!decide (VB.2 = ([] : List UInt8))) (
 some (0, 0, 0, 0, 0, ([] : List Int), ([] : List (List UInt8)), 0, 0, 0, 0, 0, 0, ([] : List (Int × Int)), 0, 0, 0, 0, 0, 0, 0, 0, 0, 0, 0, 0, ([] : List (Int × Int)), 0, 1)) (
 Option.bind (rD N r4.1 r5.1 r6.1 r7.1 r8.1 l3 l5 Ch.1 BI.1 Ca.1 DW.1 DX.1 E7.1 l7 Iu.1 Jc.1 r32.1 KV.1 Lj.1 L4.1 MN.1 NS.1 OG.1 QK.1 Q9.1 Sw.1 l9 VB.1) fun r50 =>
 cond (!decide (r50 = 0)) (
 some (0, 0, 0, 0, 0, ([] : List Int), ([] : List (List UInt8)), 0, 0, 0, 0, 0, 0, ([] : List (Int × Int)), 0, 0, 0, 0, 0, 0, 0, 0, 0, 0, 0, 0, ([] : List (Int × Int)), 0, 1)) (
 some (r4.1, r5.1, r6.1, r7.1, r8.1, l3, l5, Ch.1, BI.1, Ca.1, DW.1, DX.1, E7.1, l7, Iu.1, Jc.1, r32.1, KV.1, Lj.1, L4.1, MN.1, NS.1, OG.1, QK.1, Q9.1, Sw.1, l9, VB.1, 0)))) N (([] : List (Int × Int)), OF.2, 0)))) N (([] : List (Int × Int)), G9.2, 0)))) N (([] : List (List UInt8)), sR.2, 0)))) N (([] : List Int), r9.2, 0))))
def jU (N : Nat) (VC VD : Int) (TW : List Int) (VE VF : Int) (TX : List Int) : Option Bool :=
 cond (decide (VC = VE)) (
 cond (decide (VD = VF)) (
 Option.bind (kH N TW TX) fun r2 =>
 some r2) (
 some false)) (
 some false)
def nR (N : Nat)  : Option Bool :=
 Option.bind (lB N ) fun r2 =>
 Option.bind (tD N r2.1 r2.2.1 r2.2.2.1 r2.2.2.2.1 r2.2.2.2.2.1 r2.2.2.2.2.2.1 r2.2.2.2.2.2.2.1 r2.2.2.2.2.2.2.2.1 r2.2.2.2.2.2.2.2.2.1 r2.2.2.2.2.2.2.2.2.2.1 r2.2.2.2.2.2.2.2.2.2.2.1 r2.2.2.2.2.2.2.2.2.2.2.2.1 r2.2.2.2.2.2.2.2.2.2.2.2.2.1 r2.2.2.2.2.2.2.2.2.2.2.2.2.2.1 r2.2.2.2.2.2.2.2.2.2.2.2.2.2.2.1 r2.2.2.2.2.2.2.2.2.2.2.2.2.2.2.2.1 r2.2.2.2.2.2.2.2.2.2.2.2.2.2.2.2.2.1 r2.2.2.2.2.2.2.2.2.2.2.2.2.2.2.2.2.2.1 r2.2.2.2.2.2.2.2.2.2.2.2.2.2.2.2.2.2.2.1 r2.2.2.2.2.2.2.2.2.2.2.2.2.2.2.2.2.2.2.2.1 r2.2.2.2.2.2.2.2.2.2.2.2.2.2.2.2.2.2.2.2.2.1 r2.2.2.2.2.2.2.2.2.2.2.2.2.2.2.2.2.2.2.2.2.2.1 r2.2.2.2.2.2.2.2.2.2.2.2.2.2.2.2.2.2.2.2.2.2.2.1 r2.2.2.2.2.2.2.2.2.2.2.2.2.2.2.2.2.2.2.2.2.2.2.2.1 r2.2.2.2.2.2.2.2.2.2.2.2.2.2.2.2.2.2.2.2.2.2.2.2.2.1 r2.2.2.2.2.2.2.2.2.2.2.2.2.2.2.2.2.2.2.2.2.2.2.2.2.2.1 r2.2.2.2.2.2.2.2.2.2.2.2.2.2.2.2.2.2.2.2.2.2.2.2.2.2.2.1 r2.2.2.2.2.2.2.2.2.2.2.2.2.2.2.2.2.2.2.2.2.2.2.2.2.2.2.2) fun r3 =>
 Option.bind (lB N ) fun r4 =>
 Option.bind (Cj N r4.1 r4.2.1 r4.2.2.1 r4.2.2.2.1 r4.2.2.2.2.1 r4.2.2.2.2.2.1 r4.2.2.2.2.2.2.1 r4.2.2.2.2.2.2.2.1 r4.2.2.2.2.2.2.2.2.1 r4.2.2.2.2.2.2.2.2.2.1 r4.2.2.2.2.2.2.2.2.2.2.1 r4.2.2.2.2.2.2.2.2.2.2.2.1 r4.2.2.2.2.2.2.2.2.2.2.2.2.1 r4.2.2.2.2.2.2.2.2.2.2.2.2.2.1 r4.2.2.2.2.2.2.2.2.2.2.2.2.2.2.1 r4.2.2.2.2.2.2.2.2.2.2.2.2.2.2.2.1 r4.2.2.2.2.2.2.2.2.2.2.2.2.2.2.2.2.1 r4.2.2.2.2.2.2.2.2.2.2.2.2.2.2.2.2.2.1 r4.2.2.2.2.2.2.2.2.2.2.2.2.2.2.2.2.2.2.1 r4.2.2.2.2.2.2.2.2.2.2.2.2.2.2.2.2.2.2.2.1 r4.2.2.2.2.2.2.2.2.2.2.2.2.2.2.2.2.2.2.2.2.1 r4.2.2.2.2.2.2.2.2.2.2.2.2.2.2.2.2.2.2.2.2.2.1 r4.2.2.2.2.2.2.2.2.2.2.2.2.2.2.2.2.2.2.2.2.2.2.1 r4.2.2.2.2.2.2.2.2.2.2.2.2.2.2.2.2.2.2.2.2.2.2.2.1 r4.2.2.2.2.2.2.2.2.2.2.2.2.2.2.2.2.2.2.2.2.2.2.2.2.1 r4.2.2.2.2.2.2.2.2.2.2.2.2.2.2.2.2.2.2.2.2.2.2.2.2.2.1 r4.2.2.2.2.2.2.2.2.2.2.2.2.2.2.2.2.2.2.2.2.2.2.2.2.2.2.1 r4.2.2.2.2.2.2.2.2.2.2.2.2.2.2.2.2.2.2.2.2.2.2.2.2.2.2.2) fun r5 =>
 Option.bind (Dp N r5.1) fun r6 =>
 cond (decide (r3.2.2.2 = 0)) (
 cond (decide (r5.2 = 0)) (
 cond (decide (r6.2.2.2.2.2.2.2.2.2.2.2.2.2.2.2.2.2.2.2.2.2.2.2.2.2.2.2.2 = 0)) (
 Option.bind (lB N ) fun r7 =>
 Option.bind (rD N r7.1 r7.2.1 r7.2.2.1 r7.2.2.2.1 r7.2.2.2.2.1 r7.2.2.2.2.2.1 r7.2.2.2.2.2.2.1 r7.2.2.2.2.2.2.2.1 r7.2.2.2.2.2.2.2.2.1 r7.2.2.2.2.2.2.2.2.2.1 r7.2.2.2.2.2.2.2.2.2.2.1 r7.2.2.2.2.2.2.2.2.2.2.2.1 r7.2.2.2.2.2.2.2.2.2.2.2.2.1 r7.2.2.2.2.2.2.2.2.2.2.2.2.2.1 r7.2.2.2.2.2.2.2.2.2.2.2.2.2.2.1 r7.2.2.2.2.2.2.2.2.2.2.2.2.2.2.2.1 r7.2.2.2.2.2.2.2.2.2.2.2.2.2.2.2.2.1 r7.2.2.2.2.2.2.2.2.2.2.2.2.2.2.2.2.2.1 r7.2.2.2.2.2.2.2.2.2.2.2.2.2.2.2.2.2.2.1 r7.2.2.2.2.2.2.2.2.2.2.2.2.2.2.2.2.2.2.2.1 r7.2.2.2.2.2.2.2.2.2.2.2.2.2.2.2.2.2.2.2.2.1 r7.2.2.2.2.2.2.2.2.2.2.2.2.2.2.2.2.2.2.2.2.2.1 r7.2.2.2.2.2.2.2.2.2.2.2.2.2.2.2.2.2.2.2.2.2.2.1 r7.2.2.2.2.2.2.2.2.2.2.2.2.2.2.2.2.2.2.2.2.2.2.2.1 r7.2.2.2.2.2.2.2.2.2.2.2.2.2.2.2.2.2.2.2.2.2.2.2.2.1 r7.2.2.2.2.2.2.2.2.2.2.2.2.2.2.2.2.2.2.2.2.2.2.2.2.2.1 r7.2.2.2.2.2.2.2.2.2.2.2.2.2.2.2.2.2.2.2.2.2.2.2.2.2.2.1 r7.2.2.2.2.2.2.2.2.2.2.2.2.2.2.2.2.2.2.2.2.2.2.2.2.2.2.2) fun r8 =>
 cond (decide (r8 = 0)) (
 Option.bind (lB N ) fun r9 =>
 cond (decide ((r9.2.2.2.2.2.2.1.length : Int) = 2)) (
 Option.bind (pT N ) fun MJ =>
 Option.bind (jU N r3.1 r3.2.1 r3.2.2.1 MJ.1 MJ.2.1 MJ.2.2) fun DM =>
 cond (DM) (
 Option.bind (lB N ) fun sR =>
 Option.bind (qJ N r6.1 r6.2.1 r6.2.2.1 r6.2.2.2.1 r6.2.2.2.2.1 r6.2.2.2.2.2.1 r6.2.2.2.2.2.2.1 r6.2.2.2.2.2.2.2.1 r6.2.2.2.2.2.2.2.2.1 r6.2.2.2.2.2.2.2.2.2.1 r6.2.2.2.2.2.2.2.2.2.2.1 r6.2.2.2.2.2.2.2.2.2.2.2.1 r6.2.2.2.2.2.2.2.2.2.2.2.2.1 r6.2.2.2.2.2.2.2.2.2.2.2.2.2.1 r6.2.2.2.2.2.2.2.2.2.2.2.2.2.2.1 r6.2.2.2.2.2.2.2.2.2.2.2.2.2.2.2.1 r6.2.2.2.2.2.2.2.2.2.2.2.2.2.2.2.2.1 r6.2.2.2.2.2.2.2.2.2.2.2.2.2.2.2.2.2.1 r6.2.2.2.2.2.2.2.2.2.2.2.2.2.2.2.2.2.2.1 r6.2.2.2.2.2.2.2.2.2.2.2.2.2.2.2.2.2.2.2.1 r6.2.2.2.2.2.2.2.2.2.2.2.2.2.2.2.2.2.2.2.2.1 r6.2.2.2.2.2.2.2.2.2.2.2.2.2.2.2.2.2.2.2.2.2.1 r6.2.2.2.2.2.2.2.2.2.2.2.2.2.2.2.2.2.2.2.2.2.2.1 r6.2.2.2.2.2.2.2.2.2.2.2.2.2.2.2.2.2.2.2.2.2.2.2.1 r6.2.2.2.2.2.2.2.2.2.2.2.2.2.2.2.2.2.2.2.2.2.2.2.2.1 r6.2.2.2.2.2.2.2.2.2.2.2.2.2.2.2.2.2.2.2.2.2.2.2.2.2.1 r6.2.2.2.2.2.2.2.2.2.2.2.2.2.2.2.2.2.2.2.2.2.2.2.2.2.2.1 r6.2.2.2.2.2.2.2.2.2.2.2.2.2.2.2.2.2.2.2.2.2.2.2.2.2.2.2.1 sR.1 sR.2.1 sR.2.2.1 sR.2.2.2.1 sR.2.2.2.2.1 sR.2.2.2.2.2.1 sR.2.2.2.2.2.2.1 sR.2.2.2.2.2.2.2.1 sR.2.2.2.2.2.2.2.2.1 sR.2.2.2.2.2.2.2.2.2.1 sR.2.2.2.2.2.2.2.2.2.2.1 sR.2.2.2.2.2.2.2.2.2.2.2.1 sR.2.2.2.2.2.2.2.2.2.2.2.2.1 sR.2.2.2.2.2.2.2.2.2.2.2.2.2.1 sR.2.2.2.2.2.2.2.2.2.2.2.2.2.2.1 sR.2.2.2.2.2.2.2.2.2.2.2.2.2.2.2.1 sR.2.2.2.2.2.2.2.2.2.2.2.2.2.2.2.2.1 sR.2.2.2.2.2.2.2.2.2.2.2.2.2.2.2.2.2.1 sR.2.2.2.2.2.2.2.2.2.2.2.2.2.2.2.2.2.2.1 sR.2.2.2.2.2.2.2.2.2.2.2.2.2.2.2.2.2.2.2.1 sR.2.2.2.2.2.2.2.2.2.2.2.2.2.2.2.2.2.2.2.2.1 sR.2.2.2.2.2.2.2.2.2.2.2.2.2.2.2.2.2.2.2.2.2.1 sR.2.2.2.2.2.2.2.2.2.2.2.2.2.2.2.2.2.2.2.2.2.2.1 sR.2.2.2.2.2.2.2.2.2.2.2.2.2.2.2.2.2.2.2.2.2.2.2.1 sR.2.2.2.2.2.2.2.2.2.2.2.2.2.2.2.2.2.2.2.2.2.2.2.2.1 sR.2.2.2.2.2.2.2.2.2.2.2.2.2.2.2.2.2.2.2.2.2.2.2.2.2.1 sR.2.2.2.2.2.2.2.2.2.2.2.2.2.2.2.2.2.2.2.2.2.2.2.2.2.2.1 sR.2.2.2.2.2.2.2.2.2.2.2.2.2.2.2.2.2.2.2.2.2.2.2.2.2.2.2) fun Aq =>
 some Aq) (
 some false)) (
 some false)) (
 some false)) (
 some false)) (
 some false)) (
 some false)
def nG (N : Nat) (nP lS cM dS dG : Int) (dK : List Int) (bS : List (List UInt8)) (bI a8 bA bB bC bJ : Int) (aO : List (Int × Int)) (bD bE bF aS aT aU aV aW aX aY aZ a7 : Int) (aP : List (Int × Int)) (bG : Int) : Option Bool :=
 Option.bind (tD N nP lS cM dS dG dK bS bI a8 bA bB bC bJ aO bD bE bF aS aT aU aV aW aX aY aZ a7 aP bG) fun r2 =>
 Option.bind (lX N nP lS cM dS dG dK bS bI a8 bA bB bC bJ aO bD bE bF aS aT aU aV aW aX aY aZ a7 aP bG) fun r3 =>
 Option.bind (nR N ) fun r4 =>
 cond (r4) (
 Option.bind (rD N nP lS cM dS dG dK bS bI a8 bA bB bC bJ aO bD bE bF aS aT aU aV aW aX aY aZ a7 aP bG) fun r5 =>
 cond (decide (r5 = r3.2.2.2)) (
 cond (decide (r2.2.2.2 = r3.2.2.2)) (
 Option.bind (jU N r2.1 r2.2.1 r2.2.2.1 r3.1 r3.2.1 r3.2.2.1) fun r6 =>
 some r6) (
 some false)) (
 some false)) (
 some false)
end
section
open Go
theorem iV {x : Int} (h : -9223372036854775808 ≤ x ∧ x ≤ 9223372036854775807) : IntKind.i64.wrap x = x := IntWalk.i64_in x h
theorem iK {α : Type} (xs : List α) (k : Nat) : idx xs (k : Int) = xs[k]? := by simp [idx]
theorem Iv {α : Type} {xs : List α} {p q : Int} (h : 0 ≤ p ∧ p ≤ q ∧ q ≤ xs.length) : B5 xs p q = some ((xs.take q.toNat).drop p.toNat) := by unfold B5; rw [if_pos h]
theorem sG {α : Type} {b : Nat} {xs ys : List α} (h : (xs.length + ys.length) * b ≤ 140737488355328) : app b xs ys = some (xs ++ ys) := by unfold app; rw [if_pos h]
theorem mk_eq {α : Type} {b : Nat} {n : Int} {z : α} (h : 0 ≤ n ∧ n * b ≤ 281474976710656) : mk b n z = some (List.replicate n.toNat z) := by unfold mk; rw [if_pos h]
theorem CP {α : Type} {xs : List α} {i : Int} {x : α} (h : 0 ≤ i ∧ i < xs.length) : uU xs i x = some (xs.set i.toNat x) := by unfold uU; rw [if_pos h]
theorem Jy {n : Int} (h : n ≠ 0) : nz n = some () := by unfold nz; rw [if_neg h]
theorem aL {α β : Type} (x : α) (f : α → Option β) : Option.bind (some x) f = f x := rfl
theorem cT {α : Type} {b : Bool} (h : b = true) (x y : α) : cond b x y = x := by rw [h]; rfl
theorem cF {α : Type} {b : Bool} (h : b = false) (x y : α) : cond b x y = y := by rw [h]; rfl
theorem dT {p : Prop} [Decidable p] (h : p) : decide p = true := decide_eq_true h
theorem dF {p : Prop} [Decidable p] (h : ¬ p) : decide p = false := decide_eq_false h
def Bv (W H : Int) (n : Nat) : Prop := 1 ≤ W ∧ W ≤ 64 ∧ 1 ≤ H ∧ H ≤ 64 ∧ (n : Int) = W * H
instance (W H : Int) (n : Nat) : Decidable (Bv W H n) := by unfold Bv; infer_instance
theorem TY {W H : Int} (h : 1 ≤ W ∧ W ≤ 64 ∧ 1 ≤ H ∧ H ≤ 64) : 1 ≤ W * H ∧ W * H ≤ 4096 := by
 obtain ⟨h1, h2, h3, h4⟩ := h;have a := Int.mul_le_mul h2 h4 (by omega) (by omega);have b := Int.mul_le_mul h1 h3 (by omega) (by omega)
 omega
abbrev Px := Int × Int × Int
theorem dm {W x : Nat} (y : Nat) (h : x < W) : (y * W + x) % W = x ∧ (y * W + x) / W = y := by
 have h1 : (y * W + x) % W = x := by rw [Nat.add_comm, Nat.add_mul_mod_self_right, Nat.mod_eq_of_lt h]
 have h2 : (y * W + x) / W = y := by rw [Nat.add_comm, Nat.add_mul_div_right _ _ (by omega), Nat.div_eq_of_lt h, Nat.zero_add]
 exact ⟨h1, h2⟩
theorem OH {W H x y : Nat} (hx : x < W) (hy : y < H) : y * W + x < W * H := by
 have := Nat.mul_le_mul_right W (show y + 1 ≤ H from hy);rw [Nat.add_mul, Nat.one_mul, Nat.mul_comm H W] at this
 omega
theorem tdm {W : Nat} (k : Nat) (hW : 0 < W) : Int.tmod (k : Int) (W : Int) = ((k % W : Nat) : Int) ∧ Int.tdiv (k : Int) (W : Int) = ((k / W : Nat) : Int) := by
 constructor
 ·rw [Int.tmod_eq_emod_of_nonneg (by omega)]; rfl
 ·rw [Int.tdiv_eq_ediv_of_nonneg (by omega)]; rfl
def pre {α : Type} (W : Nat) (f : Nat → Nat → α) (n : Nat) : List α := (List.range n).map fun k => f (k % W) (k / W)
theorem TZ {x y : Int} {a b : Nat} (hx : -(a : Int) ≤ x ∧ x ≤ a) (hy : -(b : Int) ≤ y ∧ y ≤ b) : -((a * b : Nat) : Int) ≤ x * y ∧ x * y ≤ ((a * b : Nat) : Int) := by
 have h1 : x.natAbs ≤ a := by omega
 have h2 : y.natAbs ≤ b := by omega
 have h3 := Nat.mul_le_mul h1 h2;rw [← Int.natAbs_mul] at h3
 omega
theorem T0 (m : Int) (n : Nat) (hn : n ≤ 64) : jN .i64 m (n : Int) = m / 2 ^ n := by
 unfold jN;rw [Int.toNat_natCast, show min n IntKind.i64.bits = n from Nat.min_eq_left hn];exact Int.fdiv_eq_ediv_of_nonneg _ (Int.le_of_lt (Int.pow_pos (by decide)))
theorem sE (N : Nat) (n lo hi : Int) : bU N n lo hi = some (decide (lo ≤ n ∧ n ≤ hi)) := by
 unfold bU
 by_cases h1 : lo ≤ n
 ·rw [cT (dT h1)]; simp [h1]
 ·rw [cF (dF h1)]; simp [h1]
def upTo (P : List Int) (top : Int) : Prop := ∀ i : Nat, 0 ≤ P.getD i 0 ∧ P.getD i 0 ≤ top
theorem FF (N : Nat) {n b : Int} (hb : 1 ≤ b ∧ b ≤ 1000000) (hn : -4611686018427387904 ≤ n ∧ n ≤ 4611686018427387904) : eD N n b = some (n / b) := by
 have hd := Int.mul_ediv_add_emod n b;have hr0 := Int.emod_nonneg n (show b ≠ 0 by omega);have hr1 := Int.emod_lt_of_pos n (show 0 < b by omega);obtain ⟨q, hq⟩ : ∃ q, n / b = q := ⟨_, rfl⟩
 obtain ⟨r, hr⟩ : ∃ r, n % b = r := ⟨_, rfl⟩
 rw [hq, hr] at hd;rw [hr] at hr0 hr1
 have hqb : -4611686018427387905 ≤ q ∧ q ≤ 4611686018427387904 := by
  have h1 : q ≤ 4611686018427387904 := by
   rw [← hq];exact Int.le_trans (Int.ediv_le_ediv (by omega) hn.2) (Int.ediv_le_of_le_mul (by omega) (by omega))
  have h2 : -4611686018427387905 ≤ q := by
   rw [← hq];exact Int.le_ediv_of_mul_le (by omega) (by omega)
  exact ⟨h2, h1⟩
 unfold eD;rw [Jy (by omega), aL, aL, Int.tdiv_eq_ediv, hq]
 by_cases h : 0 ≤ n ∨ b ∣ n
 ·rw [if_pos h, Int.add_zero, iV (x := q) (by omega), Int.mul_comm q b, iV (x := b * q) (by omega), cF (dF (by omega))]
 ·rw [if_neg h, Int.sign_eq_one_of_pos (by omega), iV (x := q + 1) (by omega), Int.mul_comm (q + 1) b, Int.mul_add, Int.mul_one, iV (x := b * q + b) (by omega), cT (dT (by omega)), aL, iV (by omega), Int.add_sub_cancel]
def aAN (b0 b1 b2 b3 w : Int) : Prop := (0 ≤ b0 ∧ b0 < w) ∧ (0 ≤ b1 ∧ b1 < w) ∧ (0 ≤ b2 ∧ b2 < w) ∧ (0 ≤ b3 ∧ b3 < w)
theorem OJ {i : Int} {n : Nat} (h : 0 ≤ i ∧ i < n) : inr i n = some () := by unfold inr; rw [if_pos h]
def aAQ (g0 g1 g2 : Int) : Prop := (0 ≤ g0 ∧ g0 ≤ 65535) ∧ (0 ≤ g1 ∧ g1 ≤ 65535) ∧ (0 ≤ g2 ∧ g2 ≤ 65535)
def YJ (m : Int) : Bool := decide (-32768 ≤ m ∧ m ≤ 32768)
section
variable (N : Nat) (m0 m1 m2 m3 m4 m5 m6 m7 m8 : Int)
theorem Lk (kk) : ∀ (d k fuel : Nat), k + d = 9 → d < fuel →
  jQ N m0 m1 m2 m3 m4 m5 m6 m7 m8 kk fuel (k : Int) = if ([m0, m1, m2, m3, m4, m5, m6, m7, m8].drop k).all YJ then kk 9 else some false := by
 intro d
 induction d with
 | zero =>
  intro k fuel hk hf;obtain ⟨fuel, rfl⟩ : ∃ m, fuel = m + 1 := ⟨fuel - 1, by omega⟩
  obtain rfl : k = 9 := by omega
  unfold jQ;rw [cF (dF (by omega))]
  simp
 | succ d ih =>
  intro k fuel hk hf;obtain ⟨fuel, rfl⟩ : ∃ m, fuel = m + 1 := ⟨fuel - 1, by omega⟩
  have hlt : k < [m0, m1, m2, m3, m4, m5, m6, m7, m8].length := by show k < 9; omega
  unfold jQ;rw [cT (dT (by omega)), show inr (k : Int) 9 = some () from by unfold inr; rw [if_pos (by omega)], aL, iK, List.getElem?_eq_getElem hlt, aL, sE, aL, List.drop_eq_getElem_cons hlt, List.all_cons];obtain ⟨e, he⟩ : ∃ e, [m0, m1, m2, m3, m4, m5, m6, m7, m8][k] = e := ⟨_, rfl⟩
  rw [he];have hih := ih (k + 1) fuel (by omega) (by omega)
  by_cases h : -32768 ≤ e ∧ e ≤ 32768
  ·rw [cF (by simp [h]), aL, iV (by omega), YJ, dT h, Bool.true_and];exact hih
  ·rw [cT (by simp only [Bool.not_eq_true', decide_eq_false_iff_not]; exact h), YJ, dF h]; simp
def Dq : Bool := [m0, m1, m2, m3, m4, m5, m6, m7, m8].all YJ
theorem Ll (hN : 5000 ≤ N) : mH N m0 m1 m2 m3 m4 m5 m6 m7 m8 = some (Dq m0 m1 m2 m3 m4 m5 m6 m7 m8) := by
 unfold mH;refine (Lk N m0 m1 m2 m3 m4 m5 m6 m7 m8 _ 9 0 N (by omega) (by omega)).trans ?_;rw [List.drop_zero, ← Dq]
 cases Dq m0 m1 m2 m3 m4 m5 m6 m7 m8 <;> rfl
end
abbrev Pt := Int × Int
def cX (l : List Pt) (i : Nat) : Int := (l.getD i (0, 0)).1
def cY (l : List Pt) (i : Nat) : Int := (l.getD i (0, 0)).2
def Iw (l : List Pt) (i : Nat) : Prop := cX l i < cX l (i + 1) ∧ cY l i ≤ cY l (i + 1)
structure uW (l : List Pt) : Prop where
 len : 2 ≤ l.length ∧ l.length ≤ 16
 x0 : cX l 0 = 0
 xn : cX l (l.length - 1) = 65535
 y0 : 0 ≤ cY l 0
 yn : cY l (l.length - 1) ≤ 65535
 step : ∀ i, i + 1 < l.length → Iw l i
theorem qV (l : List Pt) {k : Nat} (h : k < l.length) : idx l (k : Int) = some (l.getD k (0, 0)) := by
 rw [iK, List.getD_eq_getElem?_getD, List.getElem?_eq_getElem h]; rfl
theorem Gf (l : List Pt) (h : 1 ≤ l.length ∧ l.length ≤ 1000000) : idx l (IntKind.i64.wrap ((l.length : Int) - 1)) = some (l.getD (l.length - 1) (0, 0)) := by
 rw [iV (by omega), show (l.length : Int) - 1 = ((l.length - 1 : Nat) : Int) by omega, qV l (by omega)]
theorem Lm {l : List Pt} {j : Nat} (h : ∀ i, i < j → Iw l i) {i : Nat} (hij : i ≤ j) : cX l i ≤ cX l j ∧ cY l i ≤ cY l j ∧ (i < j → cX l i < cX l j) := by
  induction j with
  | zero => obtain rfl : i = 0 := by omega
            exact ⟨Int.le_refl _, Int.le_refl _, fun h => by omega⟩
  | succ j ih =>
    by_cases e : i = j + 1
    · subst e; exact ⟨Int.le_refl _, Int.le_refl _, fun h => by omega⟩
    · obtain ⟨a, b, _⟩ := ih (fun i hi => h i (by omega)) (by omega)
      obtain ⟨c, d⟩ := h j (by omega)
      exact ⟨by omega, by omega, fun _ => by omega⟩
theorem uW.mono {l : List Pt} (h : uW l) {i j : Nat} (hij : i ≤ j) (hj : j < l.length) : cX l i ≤ cX l j ∧ cY l i ≤ cY l j ∧ (i < j → cX l i < cX l j) := Lm (fun i hi => h.step i (by omega)) hij
theorem uW.bd {l : List Pt} (h : uW l) {i : Nat} (hi : i < l.length) : 0 ≤ cX l i ∧ cX l i ≤ 65535 ∧ 0 ≤ cY l i ∧ cY l i ≤ 65535 := by
 obtain ⟨a, b, _⟩ := h.mono (i := 0) (j := i) (by omega) hi;obtain ⟨c, d, _⟩ := h.mono (i := i) (j := l.length - 1) (by omega) (by omega);have := h.x0;have := h.xn;have := h.y0;have := h.yn
 omega
theorem OK (N : Nat) (l l2 : List Pt) (hl : l2.length + 1 = l.length) (hb : l.length ≤ 16) : ∀ (d k fuel : Nat), k + d = l2.length → d < fuel →
  ∃ b, pK N l l2 (fun _ => some true) fuel (k : Int) = some b ∧ (b = true ↔ ∀ i, k ≤ i → i + 1 < l.length → Iw l i) := by
 intro d
 induction d with
 | zero =>
  intro k fuel hk hf;obtain ⟨fuel, rfl⟩ : ∃ m, fuel = m + 1 := ⟨fuel - 1, by omega⟩
  refine ⟨true, ?_, by simp only [true_iff]; intro i h1 h2; omega⟩;unfold pK;rw [cF (dF (by omega))]
 | succ d ih =>
  intro k fuel hk hf;obtain ⟨fuel, rfl⟩ : ∃ m, fuel = m + 1 := ⟨fuel - 1, by omega⟩
  unfold pK;rw [cT (dT (by omega)), iV (by omega), show (k : Int) + 1 = ((k + 1 : Nat) : Int) by omega];simp only [qV l (show k < l.length by omega), qV l (show k + 1 < l.length by omega), aL]
  by_cases h1 : (l.getD (k + 1) (0, 0)).1 ≤ (l.getD k (0, 0)).1
  ·rw [cT (dT h1)];refine ⟨false, rfl, by simp only [Bool.false_eq_true, false_iff]; intro h; have := (h k (Nat.le_refl _) (by omega)).1; simp only [cX] at this; omega⟩
  rw [cF (dF h1)]
  by_cases h2 : (l.getD (k + 1) (0, 0)).2 < (l.getD k (0, 0)).2
  ·rw [cT (dT h2)];refine ⟨false, rfl, by simp only [Bool.false_eq_true, false_iff]; intro h; have := (h k (Nat.le_refl _) (by omega)).2; simp only [cY] at this; omega⟩
  rw [cF (dF h2)];obtain ⟨b, e, hb'⟩ := ih (k + 1) fuel (by omega) (by omega);refine ⟨b, e, hb'.trans ⟨fun h i hi hn => ?_, fun h i hi hn => h i (by omega) hn⟩⟩
  by_cases hik : i = k
  ·subst hik; exact ⟨by simp only [cX]; omega, by simp only [cY]; omega⟩
  ·exact h i (by omega) hn
theorem right_eq (N : Nat) (l : List Pt) (hN : 5000 ≤ N) : ∃ b, mF N l = some b ∧ (b = true ↔ uW l) := by
 unfold mF
 by_cases h1 : (l.length : Int) < 2
 ·rw [cT (dT h1)]; exact ⟨false, rfl, by simp only [Bool.false_eq_true, false_iff]; intro h; have := h.len; omega⟩
 rw [cF (dF h1)]
 by_cases h2 : 16 < (l.length : Int)
 ·rw [cT (dT h2)]; exact ⟨false, rfl, by simp only [Bool.false_eq_true, false_iff]; intro h; have := h.len; omega⟩
 rw [cF (dF h2)];have i0 : idx l 0 = some (l.getD 0 (0, 0)) := qV l (k := 0) (by omega);have il := Gf l (by omega);simp only [i0, il, aL]
 by_cases h3 : cX l 0 = 0
 rotate_left
 ·rw [cT (by simp only [cX] at h3; rw [dF h3]; rfl)]; exact ⟨false, rfl, by simp only [Bool.false_eq_true, false_iff]; intro h; exact h3 h.x0⟩
 rw [cF (by simp only [cX] at h3; rw [dT h3]; rfl)]
 by_cases h4 : cX l (l.length - 1) = 65535
 rotate_left
 ·rw [cT (by simp only [cX] at h4; rw [dF h4]; rfl)]; exact ⟨false, rfl, by simp only [Bool.false_eq_true, false_iff]; intro h; exact h4 h.xn⟩
 rw [cF (by simp only [cX] at h4; rw [dT h4]; rfl)]
 by_cases h5 : (l.getD 0 (0, 0)).2 < 0
 ·rw [cT (dT h5)]; exact ⟨false, rfl, by simp only [Bool.false_eq_true, false_iff]; intro h; have := h.y0; simp only [cY] at this; omega⟩
 rw [cF (dF h5)]
 by_cases h6 : 65535 < (l.getD (l.length - 1) (0, 0)).2
 ·rw [cT (dT h6)]; exact ⟨false, rfl, by simp only [Bool.false_eq_true, false_iff]; intro h; have := h.yn; simp only [cY] at this; omega⟩
 rw [cF (dF h6), Iv (by omega), aL];obtain ⟨b, e, hb⟩ := OK N l ((l.take (l.length : Int).toNat).drop (1 : Int).toNat) (by simp; omega) (by omega) (l.length - 1) 0 N (by simp) (by omega);refine ⟨b, e, hb.trans ⟨fun h => ⟨by omega, h3, h4, by simp only [cY]; omega, by simp only [cY]; omega, fun i hi => h i (Nat.zero_le _) hi⟩, fun h i _ hi => h.step i hi⟩⟩
theorem Ix (N : Nat) (l : List Pt) (hb : l.length ≤ 16) : ∀ (d k fuel : Nat), k + d = l.length → d < fuel →
  ∃ b, hG N l (fun _ => some true) fuel (k : Int) = some b ∧ (b = true ↔ ∀ i, k ≤ i → i < l.length → (0 ≤ cY l i ∧ cY l i ≤ 65535) ∧ (0 < i → Iw l (i - 1))) := by
 intro d
 induction d with
 | zero =>
  intro k fuel hk hf;obtain ⟨fuel, rfl⟩ : ∃ m, fuel = m + 1 := ⟨fuel - 1, by omega⟩
  refine ⟨true, ?_, by simp only [true_iff]; intro i h1 h2; omega⟩;unfold hG;rw [cF (dF (by omega))]
 | succ d ih =>
  intro k fuel hk hf;obtain ⟨fuel, rfl⟩ : ∃ m, fuel = m + 1 := ⟨fuel - 1, by omega⟩
  have no : ∀ {Q : Prop}, ¬ Q → ∃ b, some false = some b ∧ (b = true ↔ Q) := fun h => ⟨false, rfl, by simp [h]⟩
  unfold hG;rw [cT (dT (by omega)), qV l (show k < l.length by omega), aL, sE, aL];obtain ⟨b, e, hb'⟩ := ih (k + 1) fuel (by omega) (by omega)
  by_cases h1 : 0 ≤ cY l k ∧ cY l k ≤ 65535
  rotate_left
  ·rw [cT (by simp only [cY] at h1; rw [dF h1]; rfl)];exact no fun h => h1 (h k (Nat.le_refl _) (by omega)).1
  rw [cF (by simp only [cY] at h1; rw [dT h1]; rfl)]
  by_cases h2 : 0 < k
  ·rw [cT (dT (by omega)), aL, iV (x := (k : Int) - 1) (by omega), show (k : Int) - 1 = ((k - 1 : Nat) : Int) by omega, qV l (show k - 1 < l.length by omega)];simp only [aL];have hk1 : k - 1 + 1 = k := by omega
   by_cases h3 : (l.getD k (0, 0)).1 ≤ (l.getD (k - 1) (0, 0)).1
   ·rw [cT (dT h3)];exact no fun h => by have := ((h k (Nat.le_refl _) (by omega)).2 h2).1; rw [hk1] at this; simp only [cX] at this; omega
   rw [cF (dF h3)]
   by_cases h4 : (l.getD k (0, 0)).2 < (l.getD (k - 1) (0, 0)).2
   ·rw [cT (dT h4)];exact no fun h => by have := ((h k (Nat.le_refl _) (by omega)).2 h2).2; rw [hk1] at this; simp only [cY] at this; omega
   rw [cF (dF h4), iV (by omega)];refine ⟨b, e, hb'.trans ⟨fun h i hi hn => ?_, fun h i hi hn => h i (by omega) hn⟩⟩
   by_cases hik : i = k
   ·subst hik; exact ⟨h1, fun _ => ⟨by rw [hk1]; simp only [cX]; omega, by rw [hk1]; simp only [cY]; omega⟩⟩
   ·exact h i (by omega) hn
  ·rw [cF (dF (by omega)), aL, iV (by omega)];refine ⟨b, e, hb'.trans ⟨fun h i hi hn => ?_, fun h i hi hn => h i (by omega) hn⟩⟩
   by_cases hik : i = k
   ·subst hik; exact ⟨h1, fun h => absurd h h2⟩
   ·exact h i (by omega) hn
theorem Iy (N : Nat) (l : List Pt) (hN : 5000 ≤ N) : ∃ b, gR N l = some b ∧ (b = true ↔ uW l) := by
 unfold gR;have no : ∀ {Q : Prop}, ¬ Q → ∃ b, some false = some b ∧ (b = true ↔ Q) := fun h => ⟨false, rfl, by simp [h]⟩
 rw [sE, aL]
 by_cases h1 : (2 : Int) ≤ l.length ∧ (l.length : Int) ≤ 16
 rotate_left
 ·rw [cT (by rw [dF h1]; rfl)];exact no fun h => h1 (by have := h.len; omega)
 rw [cF (by rw [dT h1]; rfl)];have i0 : idx l 0 = some (l.getD 0 (0, 0)) := qV l (k := 0) (by omega);have il := Gf l (by omega);simp only [i0, il, aL]
 by_cases h3 : cX l 0 = 0
 rotate_left
 ·rw [cT (by simp only [cX] at h3; rw [dF h3]; rfl)]; exact no fun h => h3 h.x0
 rw [cF (by simp only [cX] at h3; rw [dT h3]; rfl)]
 by_cases h4 : cX l (l.length - 1) = 65535
 rotate_left
 ·rw [cT (by simp only [cX] at h4; rw [dF h4]; rfl)]; exact no fun h => h4 h.xn
 rw [cF (by simp only [cX] at h4; rw [dT h4]; rfl)];obtain ⟨b, e, hb⟩ := Ix N l (by omega) l.length 0 N (by omega) (by omega);refine ⟨b, e, hb.trans ⟨fun h => ⟨by omega, h3, h4, (h 0 (Nat.le_refl _) (by omega)).1.1, (h (l.length - 1) (Nat.zero_le _) (by omega)).1.2, fun i hi => (h (i + 1) (Nat.zero_le _) hi).2 (by omega)⟩, fun h i _ hi => ⟨(h.bd hi).2.2, fun h0 => h.step (i - 1) (by omega)⟩⟩⟩
def seg (l : List Pt) (i : Nat) (x : Int) : Int := cY l (i - 1) + ((cY l i - cY l (i - 1)) * (x - cX l (i - 1))) / (cX l i - cX l (i - 1))
section
variable {l : List Pt}
theorem OL {i : Nat} : seg l i (cX l (i - 1)) = cY l (i - 1) := by
 unfold seg;rw [Int.sub_self, Int.mul_zero, Int.zero_ediv, Int.add_zero]
variable (h : uW l)
include h
theorem MO {i : Nat} (hi : 1 ≤ i ∧ i < l.length) {x : Int} (hx : cX l (i - 1) ≤ x ∧ x ≤ cX l i) : cY l (i - 1) ≤ seg l i x ∧ seg l i x ≤ cY l i := by
 obtain ⟨s1, s2⟩ := h.step (i - 1) (by omega);rw [show i - 1 + 1 = i by omega] at s1 s2;unfold seg;have h0 : 0 ≤ (cY l i - cY l (i - 1)) * (x - cX l (i - 1)) := Int.mul_nonneg (by omega) (by omega);have h1 := Int.ediv_nonneg h0 (show 0 ≤ cX l i - cX l (i - 1) by omega);have h2 : (cY l i - cY l (i - 1)) * (x - cX l (i - 1)) ≤ (cY l i - cY l (i - 1)) * (cX l i - cX l (i - 1)) := Int.mul_le_mul_of_nonneg_left (by omega) (by omega);have h3 := Int.ediv_le_of_le_mul (show 0 < cX l i - cX l (i - 1) by omega) h2
 omega
theorem Hw {i : Nat} (hi : 1 ≤ i ∧ i < l.length) : seg l i (cX l i) = cY l i := by
 obtain ⟨s1, s2⟩ := h.step (i - 1) (by omega);rw [show i - 1 + 1 = i by omega] at s1 s2;unfold seg;rw [Int.mul_ediv_cancel _ (by omega)]
 omega
theorem Ra {i j : Nat} (hi : 1 ≤ i ∧ i < l.length) (hj : 1 ≤ j ∧ j < l.length) {x : Int} (hx : cX l (i - 1) ≤ x ∧ x ≤ cX l i) (hx' : cX l (j - 1) ≤ x ∧ x ≤ cX l j) : seg l i x = seg l j x := by
 have key : ∀ {i j : Nat}, 1 ≤ i → i < j → j < l.length → x ≤ cX l i → cX l (j - 1) ≤ x → seg l i x = seg l j x := by
  intro i j h1 h2 h3 h4 h5;have m1 := h.mono (i := i) (j := j - 1) (by omega) (by omega);have e : x = cX l i := by omega
  have e2 : i = j - 1 := by
   by_cases e2 : i = j - 1
   ·exact e2
   ·have := m1.2.2 (by omega); omega
  subst e;rw [Hw h ⟨h1, by omega⟩];subst e2;rw [OL]
 rcases Nat.lt_trichotomy i j with hij | hij | hij
 ·exact key hi.1 hij hj.2 hx.2 hx'.1
 ·rw [hij]
 ·exact (key hj.1 hij hi.2 hx'.2 hx.1).symm
theorem Jz {i : Nat} (hi : 1 ≤ i ∧ i < l.length) {x : Int} (hx : cX l (i - 1) ≤ x ∧ x ≤ cX l i) :
  (Option.bind (nz (IntKind.i64.wrap (cX l i - cX l (i - 1)))) fun _ => Option.bind (some (IntKind.i64.wrap (cY l (i - 1) + IntKind.i64.wrap (Int.tdiv (IntKind.i64.wrap (IntKind.i64.wrap (cY l i - cY l (i - 1)) * IntKind.i64.wrap (x - cX l (i - 1)))) (IntKind.i64.wrap (cX l i - cX l (i - 1))))))) fun x3 => some x3) = some (seg l i x) := by
 obtain ⟨s1, s2⟩ := h.step (i - 1) (by omega);rw [show i - 1 + 1 = i by omega] at s1 s2;have b1 := h.bd hi.2;have b2 := h.bd (i := i - 1) (by omega);have sf := MO h hi hx;unfold seg at sf ⊢;have h0 : 0 ≤ (cY l i - cY l (i - 1)) * (x - cX l (i - 1)) := Int.mul_nonneg (by omega) (by omega);have h2 := TZ (a := 65535) (b := 65535) (x := cY l i - cY l (i - 1)) (y := x - cX l (i - 1)) (by omega) (by omega);rw [iV (x := cX l i - cX l (i - 1)) (by omega), iV (x := cY l i - cY l (i - 1)) (by omega), iV (x := x - cX l (i - 1)) (by omega), iV (x := (cY l i - cY l (i - 1)) * (x - cX l (i - 1))) (by omega)];rw [Int.tdiv_eq_ediv_of_nonneg h0, iV (x := _ / _) (by omega), iV (by omega), Jy (by omega)]
 rfl
theorem MP (N : Nat) (x : Int) (kk) : ∀ (d i j fuel : Nat), j - i ≤ d → i ≤ j → j ≤ l.length → d < fuel → (∀ k, k < i → cX l k ≤ x) → (∀ k, j ≤ k → k < l.length → x < cX l k) →
  ∃ r : Nat, r ≤ l.length ∧ (∀ k, k < r → cX l k ≤ x) ∧ (∀ k, r ≤ k → k < l.length → x < cX l k) ∧ fH N l x kk fuel ((i : Int), (j : Int)) = kk ((r : Int), (r : Int)) := by
 have hlen := h.len;intro d
 induction d with
 | zero =>
  intro i j fuel hd hij hj hf h1 h2;obtain ⟨fuel, rfl⟩ : ∃ m, fuel = m + 1 := ⟨fuel - 1, by omega⟩
  obtain rfl : i = j := by omega
  refine ⟨i, hj, h1, h2, ?_⟩;unfold fH;rw [cF (dF (by omega))]
 | succ d ih =>
  intro i j fuel hd hij hj hf h1 h2;obtain ⟨fuel, rfl⟩ : ∃ m, fuel = m + 1 := ⟨fuel - 1, by omega⟩
  by_cases hlt : i < j
  ·unfold fH
   have hh : IntKind.i64.wrap (jN .u64 (IntKind.u64.wrap (IntKind.i64.wrap ((i : Int) + j))) 1) = (((i + j) / 2 : Nat) : Int) := by
    rw [iV (x := (i : Int) + j) (by omega), IntWalk.u64_in _ (by omega)]
    have : jN .u64 ((i : Int) + j) 1 = ((i : Int) + j) / 2 := by
     unfold jN;exact Int.fdiv_eq_ediv_of_nonneg _ (by decide)
    rw [this, iV (by omega)]
    omega
   rw [cT (dT (by omega)), hh, aL];obtain ⟨m, hm⟩ : ∃ m, (i + j) / 2 = m := ⟨_, rfl⟩
   have hm1 : i ≤ m ∧ m < j := by omega
   rw [hm];unfold Af;rw [qV l (show m < l.length by omega), aL, aL]
   by_cases hc : x < cX l m
   ·rw [cF (by simp only [cX] at hc; rw [dT hc]; rfl)]
    exact ih i m fuel (by omega) (by omega) (by omega) (by omega) h1 fun k hk hk' => by
     have := (h.mono hk hk').1; omega
   ·rw [cT (by simp only [cX] at hc; rw [dF hc]; rfl), aL, iV (by omega)]
    exact ih (m + 1) j fuel (by omega) (by omega) (by omega) (by omega) (fun k hk => by
     have := (h.mono (i := k) (j := m) (by omega) (by omega)).1; omega) h2
  ·obtain rfl : i = j := by omega
   refine ⟨i, hj, h1, h2, ?_⟩;unfold fH;rw [cF (dF (by omega))]
theorem WH (N : Nat) (hN : 5000 ≤ N) {x : Int} (hx : 0 ≤ x ∧ x ≤ 65535) : ∃ i, (1 ≤ i ∧ i < l.length) ∧ (cX l (i - 1) ≤ x ∧ x ≤ cX l i) ∧ u3 N l x = some (seg l i x) := by
 have hlen := h.len;have hx0 := h.x0;have hxn := h.xn;unfold u3 nD;obtain ⟨r, hr, h1, h2, e⟩ := MP h N x (fun (i4, j2) => some i4) l.length 0 l.length N (by omega) (by omega) (Nat.le_refl _) (by omega) (fun k hk => by omega) (fun k hk hk' => by omega);have e' : fH N l x (fun (i4, j2) => some i4) N (0, (l.length : Int)) = some (r : Int) := e
 have hr1 : 1 ≤ r := by
  by_cases h0 : r = 0
  ·have := h2 0 (by omega) (by omega); omega
  ·omega
 rw [e', aL];have il := Gf l (by omega)
 by_cases hn : r = l.length
 ·subst hn;rw [cT (dT rfl), il, aL];have hle := h1 (l.length - 1) (by omega);have hxe : x = cX l (l.length - 1) := by omega
  have hm := (h.mono (i := l.length - 1 - 1) (j := l.length - 1) (by omega) (by omega)).1;refine ⟨l.length - 1, by omega, by omega, ?_⟩;rw [hxe, Hw h (by omega)]
  rfl
 ·rw [cF (dF (by omega)), iV (x := (r : Int) - 1) (by omega), show (r : Int) - 1 = ((r - 1 : Nat) : Int) by omega, qV l (show r - 1 < l.length by omega), qV l (show r < l.length by omega), aL, aL];have hx' : cX l (r - 1) ≤ x ∧ x ≤ cX l r := ⟨h1 _ (by omega), by have := h2 r (Nat.le_refl _) (by omega); omega⟩
  exact ⟨r, by omega, hx', Jz h (by omega) hx'⟩
theorem Ln (N : Nat) {x : Int} (hx : 0 ≤ x ∧ x ≤ 65535) (kk) : ∀ (d i fuel : Nat), i + d = l.length → d ≤ fuel → 1 ≤ i → i < l.length → (cX l (i - 1) ≤ x) →
  ∃ r : Nat, (1 ≤ r ∧ r < l.length) ∧ (cX l (r - 1) ≤ x ∧ x ≤ cX l r) ∧ mO N l x kk fuel (i : Int) = kk (r : Int) := by
 have hlen := h.len;have hxn := h.xn;intro d
 induction d with
 | zero => intro i fuel hd hf h1 h2 h3; omega
 | succ d ih =>
  intro i fuel hd hf h1 h2 h3;obtain ⟨fuel, rfl⟩ : ∃ m, fuel = m + 1 := ⟨fuel - 1, by omega⟩
  unfold mO;rw [qV l h2, aL]
  by_cases hc : cX l i < x
  ·rw [cT (by simp only [cX] at hc; rw [dT hc]), aL, iV (by omega)];have hne : i ≠ l.length - 1 := fun e => by rw [e] at hc; omega
   exact ih (i + 1) fuel (by omega) (by omega) (by omega) (by omega) (by show cX l i ≤ x; omega)
  ·rw [cF (by simp only [cX] at hc; rw [dF hc])];exact ⟨i, ⟨h1, h2⟩, ⟨h3, by omega⟩, rfl⟩
theorem Lo (N : Nat) (hN : 5000 ≤ N) {x : Int} (hx : 0 ≤ x ∧ x ≤ 65535) : ∃ i, (1 ≤ i ∧ i < l.length) ∧ (cX l (i - 1) ≤ x ∧ x ≤ cX l i) ∧ oF N l x = some (seg l i x) := by
 have hlen := h.len;unfold oF
 obtain ⟨r, hr, hx', e⟩ := Ln h N hx (fun i4 => Option.bind (idx l (IntKind.i64.wrap (i4 - 1))) fun e3 =>
  Option.bind (idx l i4) fun e4 => Option.bind (nz (IntKind.i64.wrap (e4.1 - e3.1))) fun _ =>
  Option.bind (some (IntKind.i64.wrap (e3.2 + (IntKind.i64.wrap (Int.tdiv (IntKind.i64.wrap ((IntKind.i64.wrap (e4.2 - e3.2)) * (IntKind.i64.wrap (x - e3.1)))) (IntKind.i64.wrap (e4.1 - e3.1))))))) fun x3 => some x3) (l.length - 1) 1 N (by omega) (by omega) (by omega) (by omega) (by show cX l 0 ≤ x; rw [h.x0]; exact hx.1)
 refine ⟨r, hr, hx', e.trans ?_⟩;rw [iV (x := (r : Int) - 1) (by omega), show (r : Int) - 1 = ((r - 1 : Nat) : Int) by omega, qV l (show r - 1 < l.length by omega), qV l (show r < l.length by omega), aL, aL];exact Jz h hr hx'
end
theorem Rb {l : List Pt} (h : uW l) {x : Int} (hx : 0 ≤ x ∧ x ≤ 65535) : ∃ v, u3 8589934592 l x = some v ∧ oF 8589934592 l x = some v := by
 obtain ⟨i, a, b, e⟩ := WH h 8589934592 (by omega) hx;obtain ⟨j, a', b', e'⟩ := Lo h 8589934592 (by omega) hx;exact ⟨_, e, by rw [e', Ra h a' a b' b]⟩
def YK (l : List Pt) (x : Int) : Int := (u3 8589934592 l x).getD 0
theorem OM {l : List Pt} (h : uW l) {x : Int} (hx : 0 ≤ x ∧ x ≤ 65535) : u3 8589934592 l x = some (YK l x) ∧ oF 8589934592 l x = some (YK l x) := by
 obtain ⟨v, e, e'⟩ := Rb h hx;unfold YK;rw [e, e'];exact ⟨rfl, rfl⟩
theorem ON {l : List Pt} {b : Bool} (hb : mF 8589934592 l = some b) (hc : b = true ↔ uW l) (x : Int) : vK 8589934592 l x = some (if b = false then (0, 1) else if 0 ≤ x ∧ x ≤ 65535 then (YK l x, 0) else (0, 3)) := by
 unfold vK;rw [hb, aL];cases b
 ·rfl
 have h := hc.1 rfl;rw [cF (by rfl), if_neg (by simp)]
 by_cases h1 : x < 0
 ·rw [cT (dT h1), if_neg (by omega)]
 rw [cF (dF h1)]
 by_cases h2 : 65535 < x
 ·rw [cT (dT h2), if_neg (by omega)]
 rw [cF (dF h2), (OM h (by omega)).1, if_pos (by omega)]; rfl
theorem Lp (l : List Pt) : ∃ b, mF 8589934592 l = some b ∧ gR 8589934592 l = some b ∧ (b = true ↔ uW l) := by
 obtain ⟨b, hb, hc⟩ := right_eq 8589934592 l (by omega);obtain ⟨b', hb', hc'⟩ := Iy 8589934592 l (by omega);have : b' = b := Bool.eq_iff_iff.2 (hc'.trans hc.symm);exact ⟨b, hb, by rw [hb', this], hc⟩
def yM (lo hi n : Int) : Bool := decide (lo ≤ n ∧ n ≤ hi)
theorem WI (N : Nat) (s : List Int) (lo hi : Int) (hl : s.length ≤ 4096) : ∀ (d k fuel : Nat), k + d = s.length → d < fuel →
  ∃ r, eW N s lo hi (fun _ => some (-1)) fuel (k : Int) = some r ∧ decide (0 ≤ r) = !((s.drop k).all (yM lo hi)) := by
 intro d
 induction d with
 | zero =>
  intro k fuel hk hf;obtain ⟨fuel, rfl⟩ : ∃ m, fuel = m + 1 := ⟨fuel - 1, by omega⟩
  obtain rfl : k = s.length := by omega
  unfold eW;rw [cF (dF (by omega))];exact ⟨_, rfl, by simp⟩
 | succ d ih =>
  intro k fuel hk hf;obtain ⟨fuel, rfl⟩ : ∃ m, fuel = m + 1 := ⟨fuel - 1, by omega⟩
  have hlt : k < s.length := by omega
  unfold eW Ae;rw [cT (dT (by omega)), iK, List.getElem?_eq_getElem hlt, aL, List.drop_eq_getElem_cons hlt, List.all_cons]
  by_cases h1 : s[k] < lo
  ·rw [cT (dT h1), aL, cT (by rfl)];refine ⟨_, rfl, ?_⟩;have : yM lo hi s[k] = false := dF (by omega);rw [this, dT (by omega)]; rfl
  rw [cF (dF h1), aL]
  by_cases h2 : hi < s[k]
  ·rw [cT (dT h2)];refine ⟨_, rfl, ?_⟩;have : yM lo hi s[k] = false := dF (by omega);rw [this, dT (by omega)]; rfl
  rw [cF (dF h2), iV (by omega)];have : yM lo hi s[k] = true := dT (by omega);rw [this, Bool.true_and];exact ih (k + 1) fuel (by omega) (by omega)
theorem Ck (lo hi : Int) (s : List Int) (hl : s.length ≤ 4096) : pH 8589934592 lo hi s = some (s.all (yM lo hi)) := by
 obtain ⟨r, hr, hd⟩ := WI 8589934592 s lo hi hl s.length 0 8589934592 (by omega) (by omega);unfold pH iA iQ;rw [show (0 : Int) = ((0 : Nat) : Int) from rfl] ;rw [hr, aL, aL];rw [List.drop_zero] at hd;have hd' : decide (((0 : Nat) : Int) ≤ r) = !(s.all (yM lo hi)) := hd;rw [hd', Bool.not_not]
theorem OO {W H : Int} (hW : -1000 ≤ W ∧ W ≤ 1000) (hH : -1000 ≤ H ∧ H ≤ 1000) (x y : Int) : sX 8589934592 x y W H = some (!(kU W H (x, y))) := by
 unfold sX;rw [iV (by omega), iV (by omega), Ck _ _ _ (by simp), aL, Ck _ _ _ (by simp)];simp only [List.all_cons, List.all_nil, Bool.and_true]
 by_cases h1 : 0 ≤ x ∧ x ≤ W - 1
 ·have e1 : yM 0 (W - 1) x = true := dT h1;rw [e1, cF (by rfl), aL]
  congr 2
  unfold kU yM;rw [dT (show (0 : Int) ≤ x by omega), dT (show x < W by omega), Bool.true_and, Bool.true_and]
  by_cases h2 : 0 ≤ y ∧ y ≤ H - 1
  ·rw [dT h2, dT (show (0 : Int) ≤ y by omega), dT (show y < H by omega)]; rfl
  ·rw [dF h2]
   by_cases h3 : 0 ≤ y
   ·rw [dF (show ¬ y < H by omega)]; simp
   ·rw [dF h3]; rfl
 ·have e1 : yM 0 (W - 1) x = false := dF h1;rw [e1, cT (by rfl)]
  congr 1
  unfold kU
  by_cases h3 : 0 ≤ x
  ·rw [dF (show ¬ x < W by omega)]; simp
  ·rw [dF h3]; rfl
theorem OP (s : List (Int × Int)) {W H : Int} (hW : -1000 ≤ W ∧ W ≤ 1000) (hH : -1000 ≤ H ∧ H ≤ 1000) (hl : s.length ≤ 4096) : ∀ (d k fuel : Nat), k + d = s.length → d < fuel →
  ∃ r, dQ 8589934592 s W H (fun _ => some (-1)) fuel (k : Int) = some r ∧ decide (0 ≤ r) = !((s.drop k).all (kU W H)) := by
 intro d
 induction d with
 | zero =>
  intro k fuel hk hf;obtain ⟨fuel, rfl⟩ : ∃ m, fuel = m + 1 := ⟨fuel - 1, by omega⟩
  obtain rfl : k = s.length := by omega
  unfold dQ;rw [cF (dF (by omega))];exact ⟨_, rfl, by simp⟩
 | succ d ih =>
  intro k fuel hk hf;obtain ⟨fuel, rfl⟩ : ∃ m, fuel = m + 1 := ⟨fuel - 1, by omega⟩
  have hlt : k < s.length := by omega
  unfold dQ;rw [cT (dT (by omega)), iK, List.getElem?_eq_getElem hlt, aL, List.drop_eq_getElem_cons hlt, List.all_cons, OO hW hH, aL];cases h : kU W H s[k]
  ·rw [cT (by rfl)];refine ⟨_, rfl, ?_⟩;rw [dT (by omega)]; rfl
  ·rw [cF (by rfl), iV (by omega), Bool.true_and];exact ih (k + 1) fuel (by omega) (by omega)
theorem MQ (s : List (Int × Int)) {W H : Int} (hW : -1000 ≤ W ∧ W ≤ 1000) (hH : -1000 ≤ H ∧ H ≤ 1000) (hl : s.length ≤ 4096) : vJ 8589934592 s W H = some (s.all (kU W H)) := by
 obtain ⟨r, hr, hd⟩ := OP s hW hH hl s.length 0 8589934592 (by omega) (by omega);have hr' : dQ 8589934592 s W H (fun _ => some (-1)) 8589934592 0 = some r := hr;unfold vJ fA fT;rw [hr', aL, aL, hd, List.drop_zero, Bool.not_not]
theorem Lq (s : List (Int × Int)) {W H : Int} (hW : -1000 ≤ W ∧ W ≤ 1000) (hH : -1000 ≤ H ∧ H ≤ 1000) (hl : s.length ≤ 4096) : ∀ (d k fuel : Nat), k + d = s.length → d < fuel →
  jP 8589934592 s W H (fun _ => some true) fuel (k : Int) = some ((s.drop k).all (kU W H)) := by
 intro d
 induction d with
 | zero =>
  intro k fuel hk hf;obtain ⟨fuel, rfl⟩ : ∃ m, fuel = m + 1 := ⟨fuel - 1, by omega⟩
  obtain rfl : k = s.length := by omega
  unfold jP;rw [cF (dF (by omega))]
  simp
 | succ d ih =>
  intro k fuel hk hf;obtain ⟨fuel, rfl⟩ : ∃ m, fuel = m + 1 := ⟨fuel - 1, by omega⟩
  have hlt : k < s.length := by omega
  unfold jP;rw [cT (dT (by omega)), iK, List.getElem?_eq_getElem hlt, aL, aL, aL, List.drop_eq_getElem_cons hlt, List.all_cons, iV (x := W - 1) (by omega), iV (x := H - 1) (by omega), sE, aL, sE, aL]
  by_cases h1 : 0 ≤ s[k].1 ∧ s[k].1 ≤ W - 1
  ·rw [cF (by rw [dT h1]; rfl)]
   by_cases h2 : 0 ≤ s[k].2 ∧ s[k].2 ≤ H - 1
   ·rw [cF (by rw [dT h2]; rfl), iV (by omega)]
    have : kU W H s[k] = true := by
     unfold kU;simp only [Bool.and_eq_true, decide_eq_true_eq]; omega
    rw [this, Bool.true_and];exact ih (k + 1) fuel (by omega) (by omega)
   ·rw [cT (by rw [dF h2]; rfl)]
    have : kU W H s[k] = false := by
     unfold kU;simp only [Bool.and_eq_false_iff, decide_eq_false_iff_not]; omega
    rw [this]; rfl
  ·rw [cT (by rw [dF h1]; rfl)]
   have : kU W H s[k] = false := by
    unfold kU;simp only [Bool.and_eq_false_iff, decide_eq_false_iff_not]; omega
   rw [this]; rfl
theorem Gg (s : List (Int × Int)) {W H : Int} (hW : -1000 ≤ W ∧ W ≤ 1000) (hH : -1000 ≤ H ∧ H ≤ 1000) (hl : s.length ≤ 4096) : mG 8589934592 s W H = some (s.all (kU W H)) := by
 have := Lq s hW hH hl s.length 0 8589934592 (by omega) (by omega);rw [List.drop_zero] at this;exact this
section
variable (ph b0 b1 b2 b3 w : Int) (sp : List (Int × Int)) (g0 g1 g2 m0 m1 m2 m3 m4 m5 m6 m7 m8 : Int) (cv : List (Int × Int)) (am : Int)
def DY : Bool := yM 0 3 ph && (yM 1 65535 w && ([b0, b1, b2, b3].all (yM 0 (w - 1)) && (decide (sp.length ≤ 64) && (sp.all (kU 64 64) && ([g0, g1, g2].all (yM 0 65535) && (Dq m0 m1 m2 m3 m4 m5 m6 m7 m8 && yM 0 1024 am))))))
theorem OQ {b : Bool} (hb : mF 8589934592 cv = some b) (hc : b = true ↔ uW cv) : vL 8589934592 ph b0 b1 b2 b3 w sp g0 g1 g2 m0 m1 m2 m3 m4 m5 m6 m7 m8 cv am = some (if DY ph b0 b1 b2 b3 w sp g0 g1 g2 m0 m1 m2 m3 m4 m5 m6 m7 m8 am = false then 3 else if b = false then 1 else 0) := by
 unfold vL DY;rw [Ck _ _ _ (by simp), aL];simp only [List.all_cons, List.all_nil, Bool.and_true];cases h1 : yM 0 3 ph
 ·rfl
 rw [cF (by rfl), Ck _ _ _ (by simp), aL];simp only [List.all_cons, List.all_nil, Bool.and_true, Bool.true_and];cases h2 : yM 1 65535 w
 ·rfl
 have h2' : 1 ≤ w ∧ w ≤ 65535 := of_decide_eq_true h2;rw [cF (by rfl), iV (by omega), Ck _ _ _ (by simp), aL];simp only [List.all_cons, List.all_nil, Bool.and_true, Bool.true_and];cases h3 : (yM 0 (w - 1) b0 && (yM 0 (w - 1) b1 && (yM 0 (w - 1) b2 && yM 0 (w - 1) b3)))
 ·rfl
 rw [cF (by rfl)]
 by_cases h4 : sp.length ≤ 64
 rotate_left
 ·rw [cT (dT (by omega)), dF h4]; rfl
 rw [cF (dF (by omega)), dT h4, MQ sp (by omega) (by omega) (by omega), aL];simp only [Bool.true_and];cases h5 : sp.all (kU 64 64)
 ·rfl
 rw [cF (by rfl), Ck _ _ _ (by simp), aL];simp only [List.all_cons, List.all_nil, Bool.and_true, Bool.true_and];cases h6 : (yM 0 65535 g0 && (yM 0 65535 g1 && yM 0 65535 g2))
 ·rfl
 rw [cF (by rfl), Ck _ _ _ (by simp), aL, show [m0, m1, m2, m3, m4, m5, m6, m7, m8].all (yM (-32768) 32768) = Dq m0 m1 m2 m3 m4 m5 m6 m7 m8 from rfl];simp only [Bool.true_and];cases h7 : Dq m0 m1 m2 m3 m4 m5 m6 m7 m8
 ·rfl
 rw [cF (by rfl), Ck _ _ _ (by simp), aL];simp only [List.all_cons, List.all_nil, Bool.and_true, Bool.true_and];cases h8 : yM 0 1024 am
 ·rfl
 rw [cF (by rfl), ON hb hc 0, aL]
 cases b <;> rfl
theorem MR (hw : 1 ≤ w ∧ w ≤ 65535) (kk : Int → Option Int) : eV 8589934592 b0 b1 b2 b3 w kk 8589934592 0 = if [b0, b1, b2, b3].all (yM 0 (w - 1)) then kk 4 else some 3 := by
 have one : ∀ (fuel : Nat) (i : Nat) (b : Int), i < 4 → idx [b0, b1, b2, b3] (i : Int) = some b → eV 8589934592 b0 b1 b2 b3 w kk (fuel + 1) (i : Int) = if yM 0 (w - 1) b then eV 8589934592 b0 b1 b2 b3 w kk fuel ((i + 1 : Nat) : Int) else some 3 := fun fuel i b hi hx => by
  conv => lhs; unfold eV
  rw [cT (dT (by omega)), OJ (by omega), aL, hx, aL, iV (x := w - 1) (by omega), sE, aL, iV (by omega), aL, show decide (0 ≤ b ∧ b ≤ w - 1) = yM 0 (w - 1) b from rfl]
  cases yM 0 (w - 1) b <;> rfl
 have h0 := one 8589934591 0 b0 (by decide) rfl;have h1 := one 8589934590 1 b1 (by decide) rfl;have h2 := one 8589934589 2 b2 (by decide) rfl;have h3 := one 8589934588 3 b3 (by decide) rfl
 have h4 : eV 8589934592 b0 b1 b2 b3 w kk 8589934588 ((3 + 1 : Nat) : Int) = kk 4 := by
  show eV 8589934592 b0 b1 b2 b3 w kk (8589934587 + 1) 4 = kk 4;unfold eV;rw [cF (by decide)]
 refine h0.trans ?_;simp only [List.all_cons, List.all_nil, Bool.and_true];cases yM 0 (w - 1) b0
 ·rfl
 refine h1.trans ?_;cases yM 0 (w - 1) b1
 ·rfl
 refine h2.trans ?_;cases yM 0 (w - 1) b2
 ·rfl
 refine h3.trans ?_;cases yM 0 (w - 1) b3
 ·rfl
 exact h4
theorem OR (kk : Int → Option Int) : eU 8589934592 g0 g1 g2 kk 8589934592 0 = if [g0, g1, g2].all (yM 0 65535) then kk 3 else some 3 := by
 have one : ∀ (fuel : Nat) (i : Nat) (b : Int), i < 3 → idx [g0, g1, g2] (i : Int) = some b → eU 8589934592 g0 g1 g2 kk (fuel + 1) (i : Int) = if yM 0 65535 b then eU 8589934592 g0 g1 g2 kk fuel ((i + 1 : Nat) : Int) else some 3 := fun fuel i b hi hx => by
  conv => lhs; unfold eU
  rw [cT (dT (by omega)), OJ (by omega), aL, hx, aL, sE, aL, iV (by omega), aL, show decide (0 ≤ b ∧ b ≤ 65535) = yM 0 65535 b from rfl]
  cases yM 0 65535 b <;> rfl
 have h0 := one 8589934591 0 g0 (by decide) rfl;have h1 := one 8589934590 1 g1 (by decide) rfl;have h2 := one 8589934589 2 g2 (by decide) rfl
 have h3 : eU 8589934592 g0 g1 g2 kk 8589934589 ((2 + 1 : Nat) : Int) = kk 3 := by
  show eU 8589934592 g0 g1 g2 kk (8589934588 + 1) 3 = kk 3;unfold eU;rw [cF (by decide)]
 refine h0.trans ?_;simp only [List.all_cons, List.all_nil, Bool.and_true];cases yM 0 65535 g0
 ·rfl
 refine h1.trans ?_;cases yM 0 65535 g1
 ·rfl
 refine h2.trans ?_;cases yM 0 65535 g2
 ·rfl
 exact h3
theorem Iz {b : Bool} (hb : gR 8589934592 cv = some b) : lL 8589934592 ph b0 b1 b2 b3 w sp g0 g1 g2 m0 m1 m2 m3 m4 m5 m6 m7 m8 cv am = some (if DY ph b0 b1 b2 b3 w sp g0 g1 g2 m0 m1 m2 m3 m4 m5 m6 m7 m8 am = false then 3 else if b = false then 1 else 0) := by
 unfold lL DY;rw [sE, aL, show decide (0 ≤ ph ∧ ph ≤ 3) = yM 0 3 ph from rfl];cases h1 : yM 0 3 ph
 ·rfl
 rw [cF (by rfl), sE, aL, show decide (1 ≤ w ∧ w ≤ 65535) = yM 1 65535 w from rfl];simp only [Bool.true_and];cases h2 : yM 1 65535 w
 ·rfl
 have h2' : 1 ≤ w ∧ w ≤ 65535 := of_decide_eq_true h2;rw [cF (by rfl)]
 by_cases h4 : sp.length ≤ 64
 rotate_left
 ·rw [cT (dT (by omega)), dF h4]; simp
 rw [cF (dF (by omega)), dT h4, Gg sp (by omega) (by omega) (by omega), aL];cases h5 : sp.all (kU 64 64)
 ·simp
 rw [cF (by rfl), Ll 8589934592 m0 m1 m2 m3 m4 m5 m6 m7 m8 (by omega), aL];cases h7 : Dq m0 m1 m2 m3 m4 m5 m6 m7 m8
 ·simp
 rw [cF (by rfl), sE, aL, show decide (0 ≤ am ∧ am ≤ 1024) = yM 0 1024 am from rfl];cases h8 : yM 0 1024 am
 ·simp
 rw [cF (by rfl), MR b0 b1 b2 b3 w h2'];cases h3 : [b0, b1, b2, b3].all (yM 0 (w - 1))
 ·rfl
 rw [if_pos rfl, OR g0 g1 g2];cases h6 : [g0, g1, g2].all (yM 0 65535)
 ·rfl
 rw [if_pos rfl, hb, aL]
 cases b <;> rfl
end
theorem ways {o : Int} (h : 1 ≤ o ∧ o ≤ 8) : o = 1 ∨ o = 2 ∨ o = 3 ∨ o = 4 ∨ o = 5 ∨ o = 6 ∨ o = 7 ∨ o = 8 := by omega
end
end Go.Proofs.YtpmnfhifmmfglacGreatDoor
