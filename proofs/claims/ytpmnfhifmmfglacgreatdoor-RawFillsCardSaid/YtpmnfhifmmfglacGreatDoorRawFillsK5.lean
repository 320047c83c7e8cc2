/- Texts of the claim RawFills, joined and made small by a program. -/
import Derived.Test.YtpmnfhifmmfglacGreatDoorRawFillsK3
import Derived.Test.YtpmnfhifmmfglacGreatDoorRawFillsK4
set_option linter.unusedVariables false
set_option linter.unusedSimpArgs false
set_option linter.unusedSectionVars false
set_option maxRecDepth 100000
set_option maxHeartbeats 8000000
namespace Go.Proofs.YtpmnfhifmmfglacGreatDoor
section
def zH (N : Nat) (n v0 v1 : Int) : Option Bool :=
 cond (decide (n < v0)) (
 some true) (
 some (decide (v1 < n)))
def fB (N : Nat) (s : List Int) (wN wO : Int) (kk : Int → Option Int) : Nat → Int → Option Int
 | 0, _ => none
 | fuel + 1, i =>
  cond (decide (i < (s.length : Int))) (
  Option.bind (idx s i) fun e2 =>
  Option.bind (zH N e2 wN wO) fun r3 =>
  cond (r3) (
  some i) (
  fB N s wN wO kk fuel (IntKind.i64.wrap (i + 1)))) (
  kk i)
def iM (N : Nat) (s : List Int) (wN wO : Int) : Option Int :=
 fB N s wN wO (fun i2 =>
 some ((-1))) N 0
def iC (N : Nat) (s : List Int) (wN wO : Int) : Option Bool :=
 Option.bind (iM N s wN wO) fun r2 =>
 some (decide (0 ≤ r2))
def oI (N : Nat) (low high : Int) (l2 : List Int) : Option Bool :=
 Option.bind (iC N l2 low high) fun r2 =>
 some (!(r2))
def rZ (N : Nat) (J4 Ld v0 v1 : Int) : Option Bool :=
 Option.bind (oI N 0 (IntKind.i64.wrap (v0 - 1)) ([J4] : List Int)) fun r2 =>
 cond (!(r2)) (
 some true) (
 Option.bind (oI N 0 (IntKind.i64.wrap (v1 - 1)) ([Ld] : List Int)) fun r3 =>
 some (!(r3)))
def dN (N : Nat) (s : List (Int × Int)) (oJ oK : Int) (kk : Int → Option Int) : Nat → Int → Option Int
 | 0, _ => none
 | fuel + 1, i =>
  cond (decide (i < (s.length : Int))) (
  Option.bind (idx s i) fun e2 =>
  Option.bind (rZ N e2.1 e2.2 oJ oK) fun r3 =>
  cond (r3) (
  some i) (
  dN N s oJ oK kk fuel (IntKind.i64.wrap (i + 1)))) (
  kk i)
def fU (N : Nat) (s : List (Int × Int)) (oJ oK : Int) : Option Int :=
 dN N s oJ oK (fun i2 =>
 some ((-1))) N 0
def fD (N : Nat) (s : List (Int × Int)) (oJ oK : Int) : Option Bool :=
 Option.bind (fU N s oJ oK) fun r2 =>
 some (decide (0 ≤ r2))
def uF (N : Nat) (l2 : List (Int × Int)) (w2 h2 : Int) : Option Bool :=
 Option.bind (fD N l2 w2 h2) fun r2 =>
 some (!(r2))
def oL (N : Nat) (d l2 : List (Int × Int)) (kk : Int → Option Bool) : Nat → Int → Option Bool
 | 0, _ => none
 | fuel + 1, i =>
  cond (decide (i < (l2.length : Int))) (
  Option.bind (idx d i) fun e9 =>
  Option.bind (idx d (IntKind.i64.wrap (i + 1))) fun e10 =>
  cond (decide (e10.1 ≤ e9.1)) (
  some false) (
  Option.bind (idx d i) fun e11 =>
  Option.bind (idx d (IntKind.i64.wrap (i + 1))) fun e12 =>
  cond (decide (e12.2 < e11.2)) (
  some false) (
  oL N d l2 kk fuel (IntKind.i64.wrap (i + 1))))) (
  kk i)
def mR (N : Nat) (d : List (Int × Int)) : Option Bool :=
 cond (decide ((d.length : Int) < 2)) (
 some false) (
 cond (decide (16 < (d.length : Int))) (
 some false) (
 Option.bind (idx d 0) fun e =>
 cond (!decide (e.1 = 0)) (
 some false) (
 Option.bind (idx d (IntKind.i64.wrap ((d.length : Int) - 1))) fun e2 =>
 cond (!decide (e2.1 = 65535)) (
 some false) (
 Option.bind (idx d 0) fun e3 =>
 cond (decide (e3.2 < 0)) (
 some false) (
 Option.bind (idx d (IntKind.i64.wrap ((d.length : Int) - 1))) fun e4 =>
 cond (decide (65535 < e4.2)) (
 some false) (
 Option.bind (DQ d 1 (d.length : Int)) fun l2 =>
 oL N d l2 (fun i2 =>
 some true) N 0))))))
def zI (N : Nat) (i : Int) (v0 : List (Int × Int)) (v1 : Int) : Option Bool :=
 Option.bind (idx v0 i) fun e =>
 some (decide (v1 < e.1))
def fI (N : Nat) (zS : List (Int × Int)) (BH : Int) (kk : (Int × Int) → Option Int) : Nat → (Int × Int) → Option Int
 | 0, _ => none
 | fuel + 1, (i, j) =>
  cond (decide (i < j)) (
  Option.bind (some (IntKind.i64.wrap (j0 .u64 (IntKind.u64.wrap (IntKind.i64.wrap (i + j))) 1))) fun h3 =>
  Option.bind (zI N h3 zS BH) fun r3 =>
  cond (!(r3)) (
  Option.bind (some (IntKind.i64.wrap (h3 + 1))) fun i3 =>
  fI N zS BH kk fuel (i3, j)) (
  fI N zS BH kk fuel (i, h3))) (
  kk (i, j))
def mS (N : Nat) (n : Int) (zS : List (Int × Int)) (BH : Int) : Option Int :=
 fI N zS BH (fun (i4, j2) =>
 some i4) N (0, n)
def tT (N : Nat) (l2 : List (Int × Int)) (x2 : Int) : Option Int :=
 Option.bind (mS N (l2.length : Int) l2 x2) fun r2 =>
 cond (decide (r2 = (l2.length : Int))) (
 Option.bind (idx l2 (IntKind.i64.wrap (r2 - 1))) fun e =>
 some e.2) (
 Option.bind (idx l2 (IntKind.i64.wrap (r2 - 1))) fun e2 =>
 Option.bind (idx l2 r2) fun e3 =>
 Option.bind (nz (IntKind.i64.wrap (e3.1 - e2.1))) fun _ =>
 Option.bind (some (IntKind.i64.wrap (e2.2 + (IntKind.i64.wrap (Int.tdiv (IntKind.i64.wrap ((IntKind.i64.wrap (e3.2 - e2.2)) * (IntKind.i64.wrap (x2 - e2.1)))) (IntKind.i64.wrap (e3.1 - e2.1))))))) fun x3 =>
 some x3)
def uG (N : Nat) (l2 : List (Int × Int)) (x2 : Int) : Option (Int × Int) :=
 Option.bind (mR N l2) fun r2 =>
 cond (!(r2)) (
 some (0, 1)) (
 cond (decide (x2 < 0)) (
 some (0, 3)) (
 cond (decide (65535 < x2)) (
 some (0, 3)) (
 Option.bind (tT N l2 x2) fun r3 =>
 some (r3, 0))))
def uH (N : Nat) (na nb0 TS TT TU nc : Int) (nd : List (Int × Int)) (Sy ne1 TV TW TX TY TZ T0 T1 T2 T3 nf8 : Int) (ng : List (Int × Int)) (nh : Int) : Option Int :=
 Option.bind (oI N 0 3 ([na] : List Int)) fun r2 =>
 cond (!(r2)) (
 some 3) (
 Option.bind (oI N 1 65535 ([nc] : List Int)) fun r3 =>
 cond (!(r3)) (
 some 3) (
 Option.bind (oI N 0 (IntKind.i64.wrap (nc - 1)) ([nb0, TS, TT, TU])) fun r4 =>
 cond (!(r4)) (
 some 3) (
 cond (decide (64 < (nd.length : Int))) (
 some 3) (
 Option.bind (uF N nd 64 64) fun r5 =>
 cond (!(r5)) (
 some 3) (
 Option.bind (oI N 0 65535 ([Sy, ne1, TV])) fun r6 =>
 cond (!(r6)) (
 some 3) (
 Option.bind (oI N (-32768) 32768 ([TW, TX, TY, TZ, T0, T1, T2, T3, nf8])) fun r7 =>
 cond (!(r7)) (
 some 3) (
 Option.bind (oI N 0 1024 ([nh] : List Int)) fun r8 =>
 cond (!(r8)) (
 some 3) (
 Option.bind (uG N ng 0) fun r9 =>
 some r9.2))))))))
def nB (N : Nat) (lens : List Int) (kk : (Int × Int) → Option Int) : Nat → (Int × Int) → Option Int
 | 0, _ => none
 | fuel + 1, (room, i) =>
  cond (decide (i < (lens.length : Int))) (
  Option.bind (idx lens i) fun e2 =>
  cond (decide (e2 < 0)) (
  some 3) (
  cond (decide (15 < e2)) (
  some 3) (
  cond (decide (0 < e2)) (
  Option.bind (nn (IntKind.i64.wrap (15 - e2))) fun _ =>
  Option.bind (some (IntKind.i64.wrap (room - (qF .i64 1 (IntKind.i64.wrap (15 - e2)))))) fun Nu =>
  nB N lens kk fuel (Nu, IntKind.i64.wrap (i + 1))) (
  nB N lens kk fuel (room, IntKind.i64.wrap (i + 1)))))) (
  kk (room, i))
def qI (N : Nat) (lens : List Int) : Option Int :=
 cond (decide ((lens.length : Int) < 1)) (
 some 2) (
 cond (decide (17 < (lens.length : Int))) (
 some 2) (
 nB N lens (fun (Fs, i2) =>
 cond (decide (Fs < 0)) (
 some 1) (
 cond (decide (Fs = 32768)) (
 some 1) (
 some 0))) N (32768, 0)))
def vR (N : Nat) (mV dJ : Int) (xQ : Bool → Option Int) : Option Int :=
  cond (decide (dJ < 1)) (
  xQ (decide (dJ < 1))) (
  xQ (decide (mV < dJ)))
def vS (N : Nat) (mV dG dJ : Int) (xR : Bool → Option Int) : Option Int :=
  cond (decide (16 < dG)) (
  xR (decide (16 < dG))) (
  vR N mV dJ (fun UZ =>
  xR UZ))
def vT (N : Nat) (mV dG dJ : Int) (xS : Bool → Option Int) : Option Int :=
  cond (decide (dG < 1)) (
  xS (decide (dG < 1))) (
  vS N mV dG dJ (fun i12 =>
  xS i12))
def vU (N : Nat) (mV dG dJ : Int) (xT : Bool → Option Int) : Option Int :=
  cond (decide (64 < mV)) (
  xT (decide (64 < mV))) (
  vT N mV dG dJ (fun EC =>
  xT EC))
def vV (N : Nat) (mV dG dJ : Int) (xU : Bool → Option Int) : Option Int :=
  cond (decide (mV < 1)) (
  xU (decide (mV < 1))) (
  vU N mV dG dJ (fun i8 =>
  xU i8))
def vW (N : Nat) (pO mV dG dJ : Int) (xV : Bool → Option Int) : Option Int :=
  cond (decide (64 < pO)) (
  xV (decide (64 < pO))) (
  vV N mV dG dJ (fun i6 =>
  xV i6))
def vX (N : Nat) (eC : Int) (xW : Bool → Option Int) : Option Int :=
  cond (decide (eC < 0)) (
  xW (decide (eC < 0))) (
  xW (decide (7 < eC)))
def vY (N : Nat) (pO mV dG dJ : Int) (xX : Bool → Option Int) : Option Int :=
  cond (decide (pO < 1)) (
  xX (decide (pO < 1))) (
  vW N pO mV dG dJ (fun i4 =>
  xX i4))
def vF (N : Nat) (pO mV dG eC dJ : Int) (dR : List Int) (cV : List (List UInt8)) (bW bB bC bD bE bX : Int) (aQ : List (Int × Int)) (bF bG bH aT aU aV aW aX aY aZ a7 a8 : Int) (aR : List (Int × Int)) (bI : Int) : Option Int :=
 vY N pO mV dG dJ (fun i2 =>
 cond (i2) (
 some 3) (
 vX N eC (fun i16 =>
 cond (i16) (
 some 6) (
 cond (decide (0 < eC)) (
 Option.bind (qI N dR) fun r2 =>
 some r2) (
 cond (decide (0 < (dR.length : Int))) (
 some 1) (
 some 0))))))
def xE (N : Nat) (J4 Ld Nv PN Ft G1 G2 : Int) (Dm : List Int) (Al : List (List UInt8)) (zT xY xZ yA yB zU : Int) (s7 : List (Int × Int)) (yC yD yE wP wQ wR wS wT wU wV wW wX : Int) (s8 : List (Int × Int)) (yF : Int) : Option Bool :=
 cond (decide (Nv ≤ J4)) (
 some true) (
 some (decide (PN ≤ Ld)))
def dQ (N : Nat) (s : List (Int × Int)) (nC nD jV kI kJ : Int) (iH : List Int) (gO : List (List UInt8)) (gP f6 f7 f8 f9 gQ : Int) (eS : List (Int × Int)) (gA gB gC fK fL fM fN fO fP fQ fR fS : Int) (eU : List (Int × Int)) (gD : Int) (kk : Int → Option Int) : Nat → Int → Option Int
 | 0, _ => none
 | fuel + 1, i =>
  cond (decide (i < (s.length : Int))) (
  Option.bind (idx s i) fun e2 =>
  Option.bind (xE N e2.1 e2.2 nC nD jV kI kJ iH gO gP f6 f7 f8 f9 gQ eS gA gB gC fK fL fM fN fO fP fQ fR fS eU gD) fun r3 =>
  cond (r3) (
  some i) (
  dQ N s nC nD jV kI kJ iH gO gP f6 f7 f8 f9 gQ eS gA gB gC fK fL fM fN fO fP fQ fR fS eU gD kk fuel (IntKind.i64.wrap (i + 1)))) (
  kk i)
def f4 (N : Nat) (s : List (Int × Int)) (nC nD jV kI kJ : Int) (iH : List Int) (gO : List (List UInt8)) (gP f6 f7 f8 f9 gQ : Int) (eS : List (Int × Int)) (gA gB gC fK fL fM fN fO fP fQ fR fS : Int) (eU : List (Int × Int)) (gD : Int) : Option Int :=
 dQ N s nC nD jV kI kJ iH gO gP f6 f7 f8 f9 gQ eS gA gB gC fK fL fM fN fO fP fQ fR fS eU gD (fun i2 =>
 some ((-1))) N 0
def eN (N : Nat) (s : List (Int × Int)) (nC nD jV kI kJ : Int) (iH : List Int) (gO : List (List UInt8)) (gP f6 f7 f8 f9 gQ : Int) (eS : List (Int × Int)) (gA gB gC fK fL fM fN fO fP fQ fR fS : Int) (eU : List (Int × Int)) (gD : Int) : Option Bool :=
 Option.bind (f4 N s nC nD jV kI kJ iH gO gP f6 f7 f8 f9 gQ eS gA gB gC fK fL fM fN fO fP fQ fR fS eU gD) fun r2 =>
 some (decide (0 ≤ r2))
def vG (N : Nat) (pO mV dG eC dJ : Int) (dR : List Int) (cV : List (List UInt8)) (bW bB bC bD bE bX : Int) (aQ : List (Int × Int)) (bF bG bH aT aU aV aW aX aY aZ a7 a8 : Int) (aR : List (Int × Int)) (bI : Int) : Option Int :=
 Option.bind (uH N bW bB bC bD bE bX aQ bF bG bH aT aU aV aW aX aY aZ a7 a8 aR bI) fun r2 =>
 cond (!decide (r2 = 0)) (
 some r2) (
 Option.bind (eN N aQ pO mV dG eC dJ dR cV bW bB bC bD bE bX aQ bF bG bH aT aU aV aW aX aY aZ a7 a8 aR bI) fun r3 =>
 cond (r3) (
 some 3) (
 some 0))
def jY (N : Nat) (x2 : List Int) (kk : (Int × Int) → Option Int) : Nat → (Int × Int) → Option Int
 | 0, _ => none
 | fuel + 1, (m, i) =>
  cond (decide (i < (x2.length : Int))) (
  Option.bind (idx x2 i) fun e3 =>
  Option.bind (some (max m e3)) fun m3 =>
  Option.bind (some (IntKind.i64.wrap (i + 1))) fun i3 =>
  jY N x2 kk fuel (m3, i3)) (
  kk (m, i))
def kU (N : Nat) (x2 : List Int) : Option Int :=
 cond (decide ((x2.length : Int) < 1)) (
 none) (
 Option.bind (idx x2 0) fun e =>
 jY N x2 (fun (m4, i4) =>
 some m4) N (e, 1))
def lI (N : Nat) (s : List Int) : Option (List Int) :=
 Option.bind (app 8 ([] : List Int) s) fun l2 =>
 some l2
def iI (N : Nat) (s : List (Int × Int)) : Option (List (Int × Int)) :=
 Option.bind (app 16 (([] : List (Int × Int))) s) fun l2 =>
 some l2
def iA (N : Nat) (s : List (Int × Int)) : Option (List (Int × Int)) :=
 Option.bind (app 16 (([] : List (Int × Int))) s) fun l2 =>
 some l2
def oM (N : Nat) (mV dJ : Int) (kk : (List (Int × Int) × Int) → Option (List (Int × Int))) : Nat → (List (Int × Int) × Int) → Option (List (Int × Int))
 | 0, _ => none
 | fuel + 1, (l3, y2) =>
  cond (decide (y2 < mV)) (
  Option.bind (app 16 l3 (([(y2, min dJ (IntKind.i64.wrap (mV - y2)))] : List (Int × Int)))) fun l5 =>
  Option.bind (some (IntKind.i64.wrap (y2 + dJ))) fun y4 =>
  oM N mV dJ kk fuel (l5, y4)) (
  kk (l3, y2))
def uI (N : Nat) (pO mV dG eC dJ : Int) (dR : List Int) (cV : List (List UInt8)) (bW bB bC bD bE bX : Int) (aQ : List (Int × Int)) (bF bG bH aT aU aV aW aX aY aZ a7 a8 : Int) (aR : List (Int × Int)) (bI : Int) : Option (List (Int × Int)) :=
 oM N mV dJ (fun (l6, y5) =>
 some l6) N (([] : List (Int × Int)), 0)
def q9 (N : Nat) (n : Int) : Option Bool :=
 cond (decide (1 ≤ n)) (
 some (decide (n ≤ 16))) (
 some false)
def pP (N : Nat) (x6 : Int) (kk : (List Int × Int) → Option (List UInt8 × Int)) : Nat → (List Int × Int) → Option (List UInt8 × Int)
 | 0, _ => none
 | fuel + 1, (l5, i5) =>
  cond (decide (8 ≤ i5)) (
  Option.bind (some (IntKind.i64.wrap (i5 - 8))) fun x9 =>
  Option.bind (nn x9) fun _ =>
  Option.bind (app 1 l5 (([IntKind.u8.wrap (j0 .i64 x6 x9)] : List Int))) fun l7 =>
  pP N x6 kk fuel (l7, x9)) (
  kk (l5, i5))
def pQ (N : Nat) (d : List Int) (o : Int) (kk : (List Int × Int × Int × Int) → Option (List UInt8 × Int)) : Nat → (List Int × Int × Int × Int) → Option (List UInt8 × Int)
 | 0, _ => none
 | fuel + 1, (l2, i, i2, i3) =>
  cond (decide (i3 < (d.length : Int))) (
  Option.bind (idx d i3) fun e2 =>
  cond (decide (e2 < 0)) (
  some (([] : List UInt8), 3)) (
  Option.bind (nn o) fun _ =>
  cond (decide ((qF .i64 1 o) ≤ e2)) (
  some (([] : List UInt8), 3)) (
  Option.bind (nn o) fun _ =>
  Option.bind (some (LP .i64 (qF .i64 i o) e2)) fun x6 =>
  Option.bind (some (IntKind.i64.wrap (i2 + o))) fun x7 =>
  pP N x6 (fun (l8, i6) =>
  Option.bind (nn i6) fun _ =>
  Option.bind (some (GP .i64 x6 (IntKind.i64.wrap ((qF .i64 1 i6) - 1)))) fun x10 =>
  pQ N d o kk fuel (l8, x10, i6, IntKind.i64.wrap (i3 + 1))) N (l2, x7)))) (
  kk (l2, i, i2, i3))
def wB (N : Nat) (d : List Int) (o : Int) : Option (List UInt8 × Int) :=
 Option.bind (q9 N o) fun r2 =>
 cond (!(r2)) (
 some (([] : List UInt8), 3)) (
 cond (decide (4096 < (d.length : Int))) (
 some (([] : List UInt8), 2)) (
 Option.bind (QC 1 (IntKind.i64.wrap (Int.tdiv (IntKind.i64.wrap ((IntKind.i64.wrap ((d.length : Int) * o)) + 7)) 8))) fun _ =>
 pQ N d o (fun (l9, i7, i8, i9) =>
 cond (decide (0 < i8)) (
 Option.bind (nn (IntKind.i64.wrap (8 - i8))) fun _ =>
 Option.bind (app 1 l9 (([IntKind.u8.wrap (qF .i64 i7 (IntKind.i64.wrap (8 - i8)))] : List Int))) fun l10 =>
 some (toB l10, 0)) (
 some (toB l9, 0))) N (([] : List Int), 0, 0, 0)))
def pR (N : Nat) (qP : List Int) (kk : Int → Option Bool) : Nat → Int → Option Bool
 | 0, _ => none
 | fuel + 1, i =>
  cond (decide (i < (qP.length : Int))) (
  Option.bind (idx qP i) fun e2 =>
  cond (decide (e2 < 0)) (
  some false) (
  cond (decide (65535 < e2)) (
  some false) (
  pR N qP kk fuel (IntKind.i64.wrap (i + 1))))) (
  kk i)
def wC (N : Nat) (vZ wD : Int) (qP : List Int) : Option Bool :=
 cond (decide (vZ < 1)) (
 some false) (
 cond (decide (64 < vZ)) (
 some false) (
 cond (decide (wD < 1)) (
 some false) (
 cond (decide (64 < wD)) (
 some false) (
 cond (!decide ((qP.length : Int) = (IntKind.i64.wrap (vZ * wD)))) (
 some false) (
 pR N qP (fun i2 =>
 some true) N 0)))))
def qV (N : Nat) (x2 : Int) : Option Bool :=
 some (!decide (x2 = x2))
def rP (N : Nat) (x2 y : Int) : Option Int :=
 Option.bind (qV N x2) fun r2 =>
 Option.bind (qV N y) fun r3 =>
 cond (r2) (
 cond (r3) (
 some 0) (
 some ((-1)))) (
 cond (r3) (
 some 1) (
 cond (decide (x2 < y)) (
 some ((-1))) (
 cond (decide (y < x2)) (
 some 1) (
 some 0))))
def sA (N : Nat) (a2 b : Int) (v0 : List Int) : Option Int :=
 Option.bind (idx v0 a2) fun e =>
 Option.bind (idx v0 b) fun e2 =>
 Option.bind (rP N e e2) fun r2 =>
 some r2
def nV (N : Nat) (n size : Int) (kk : (List Int × Int × Int) → Option (List UInt8)) : Nat → (List Int × Int × Int) → Option (List UInt8)
 | 0, _ => none
 | fuel + 1, (l3, i, i2) =>
  cond (decide (i2 < i)) (
  Option.bind (nn (IntKind.i64.wrap ((IntKind.i64.wrap (size - 1)) - i2))) fun _ =>
  Option.bind (idx ([48, 49] : List UInt8) (GP .i64 (j0 .i64 n (IntKind.i64.wrap ((IntKind.i64.wrap (size - 1)) - i2))) 1)) fun b2 =>
  Option.bind (idx l3 i2) fun e2 =>
  Option.bind (xC l3 i2 (b2.toNat : Int)) fun l5 =>
  nV N n size kk fuel (l5, i, IntKind.i64.wrap (i2 + 1))) (
  kk (l3, i, i2))
def rA (N : Nat) (n size : Int) : Option (List UInt8) :=
 Option.bind (mk 1 size (0 : Int)) fun l2 =>
 nV N n size (fun (l6, i3, i4) =>
 some (toB l6)) N (l2, (l2.length : Int), 0)
def kV (N : Nat) (n size : Int) : Option (List UInt8 × Int) :=
 cond (decide (size < 0)) (
 some (([] : List UInt8), 3)) (
 cond (decide (16 < size)) (
 some (([] : List UInt8), 3)) (
 cond (decide (n < 0)) (
 some (([] : List UInt8), 3)) (
 Option.bind (nn size) fun _ =>
 cond (decide ((qF .i64 1 size) ≤ n)) (
 some (([] : List UInt8), 3)) (
 Option.bind (rA N n size) fun r2 =>
 some (r2, 0)))))
def oN (N : Nat) (d : List Int) (kk : (List Int × Int) → Option (List (List UInt8) × Int)) : Nat → (List Int × Int) → Option (List (List UInt8) × Int)
 | 0, _ => none
 | fuel + 1, (J5, j4) =>
  cond (decide (0 < j4)) (
  Option.bind (idx J5 j4) fun e20 =>
  Option.bind (idx J5 (IntKind.i64.wrap (j4 - 1))) fun e21 =>
  Option.bind (sA N e20 e21 d) fun r5 =>
  cond (decide (r5 < 0)) (
  Option.bind (idx J5 (IntKind.i64.wrap (j4 - 1))) fun e22 =>
  Option.bind (idx J5 j4) fun e23 =>
  Option.bind (idx J5 j4) fun e24 =>
  Option.bind (xC J5 j4 e22) fun Yz =>
  Option.bind (idx Yz (IntKind.i64.wrap (j4 - 1))) fun e25 =>
  Option.bind (xC Yz (IntKind.i64.wrap (j4 - 1)) e23) fun YA =>
  Option.bind (some (IntKind.i64.wrap (j4 - 1))) fun j7 =>
  oN N d kk fuel (YA, j7)) (
  kk (J5, j4))) (
  kk (J5, j4))
def mC (N : Nat) (d Ej : List Int) (kk : (List (List UInt8) × Int × Int) → Option (List (List UInt8) × Int)) : Nat → (List (List UInt8) × Int × Int) → Option (List (List UInt8) × Int)
 | 0, _ => none
 | fuel + 1, (PO, i8, i9) =>
  cond (decide (i9 < (Ej.length : Int))) (
  Option.bind (idx Ej i9) fun e33 =>
  Option.bind (idx d e33) fun e34 =>
  Option.bind (nn (IntKind.i64.wrap (15 - e34))) fun _ =>
  Option.bind (idx d e33) fun e35 =>
  Option.bind (kV N (j0 .i64 i8 (IntKind.i64.wrap (15 - e34))) e35) fun r7 =>
  Option.bind (idx PO e33) fun e36 =>
  Option.bind (xC PO e33 r7.1) fun YB =>
  Option.bind (idx d e33) fun e37 =>
  Option.bind (nn (IntKind.i64.wrap (15 - e37))) fun _ =>
  Option.bind (some (IntKind.i64.wrap (i8 + (qF .i64 1 (IntKind.i64.wrap (15 - e37)))))) fun x4 =>
  mC N d Ej kk fuel (YB, x4, IntKind.i64.wrap (i9 + 1))) (
  kk (PO, i8, i9))
def k8 (N : Nat) (d : List Int) (kk : (List Int × Int × Int) → Option (List (List UInt8) × Int)) : Nat → (List Int × Int × Int) → Option (List (List UInt8) × Int)
 | 0, _ => none
 | fuel + 1, (l7, b, i4) =>
  cond (decide (i4 < b)) (
  oN N d (fun (U0, j9) =>
  Option.bind (some (IntKind.i64.wrap (i4 + 1))) fun i6 =>
  k8 N d kk fuel (U0, b, i6)) N (l7, i4)) (
  kk (l7, b, i4))
def nE (N : Nat) (d : List Int) (kk : (List Int × Int) → Option (List (List UInt8) × Int)) : Nat → (List Int × Int) → Option (List (List UInt8) × Int)
 | 0, _ => none
 | fuel + 1, (l3, i) =>
  cond (decide (i < (d.length : Int))) (
  Option.bind (idx d i) fun e3 =>
  cond (decide (0 < e3)) (
  Option.bind (app 8 l3 ([i] : List Int)) fun l5 =>
  nE N d kk fuel (l5, IntKind.i64.wrap (i + 1))) (
  nE N d kk fuel (l3, IntKind.i64.wrap (i + 1)))) (
  kk (l3, i))
def oQ (N : Nat) (d : List Int) : Option (List (List UInt8) × Int) :=
 Option.bind (qI N d) fun r2 =>
 cond (!decide (r2 = 0)) (
 some (([] : List (List UInt8)), r2)) (
 nE N d (fun (l6, i2) =>
 cond (decide (20 ≤ (l6.length : Int))) none (
 Option.bind (some (IntKind.i64.wrap (0 + 1))) fun i3 =>
 k8 N d (fun (Ej, b2, i7) =>
 Option.bind (Ak l6 Ej) fun _ =>
 cond (decide (20 < (Ej.length : Int))) none (
 Option.bind (Ak l6 Ej) fun _ =>
 Option.bind (Ak l6 Ej) fun _ =>
 Option.bind (some ((d.length : Int))) fun x2 =>
 Option.bind (mk 16 x2 (([] : List UInt8) : List UInt8)) fun T4 =>
 mC N d Ej (fun (QF, EC, i11) =>
 some (QF, 0)) N (T4, 0, 0))) N (l6, (l6.length : Int), i3))) N (([] : List Int), 0))
def nN (N : Nat) (jP lN : Int) (sX : List Int) (o p2 : Int) : Option Int :=
 Option.bind (nz jP) fun _ =>
 Option.bind (nz jP) fun _ =>
 cond (decide (p2 = 0)) (
 some 32768) (
 cond (decide ((IntKind.i64.wrap (Int.tdiv p2 jP)) = 0)) (
 Option.bind (idx sX (IntKind.i64.wrap (p2 - 1))) fun e =>
 some e) (
 cond (decide ((Int.tmod p2 jP) = 0)) (
 Option.bind (idx sX (IntKind.i64.wrap (p2 - jP))) fun e2 =>
 some e2) (
 Option.bind (idx sX (IntKind.i64.wrap (p2 - 1))) fun e3 =>
 Option.bind (idx sX (IntKind.i64.wrap (p2 - jP))) fun e4 =>
 Option.bind (idx sX (IntKind.i64.wrap ((IntKind.i64.wrap (p2 - jP)) - 1))) fun e5 =>
 Option.bind (idx [0, e3, e4, e5, IntKind.i64.wrap ((IntKind.i64.wrap (e3 + e4)) - e5), IntKind.i64.wrap (e3 + (j0 .i64 (IntKind.i64.wrap (e4 - e5)) 1)), IntKind.i64.wrap (e4 + (j0 .i64 (IntKind.i64.wrap (e3 - e5)) 1)), j0 .i64 (IntKind.i64.wrap (e3 + e4)) 1] o) fun e6 =>
 some e6)))
def rQ (N : Nat) (x2 : Int) : Option Int :=
 cond (decide (4294967296 ≤ x2)) (
 Option.bind (some (j0 .u64 x2 32)) fun x3 =>
 cond (decide (65536 ≤ x3)) (
 Option.bind (some (j0 .u64 x3 16)) fun x4 =>
 Option.bind (some (IntKind.i64.wrap (32 + 16))) fun n =>
 cond (decide (256 ≤ x4)) (
 Option.bind (some (j0 .u64 x4 8)) fun x5 =>
 Option.bind (some (IntKind.i64.wrap (n + 8))) fun n2 =>
 Option.bind (idx Gc (IntKind.u8.wrap x5)) fun b =>
 Option.bind (some (IntKind.i64.wrap (n2 + (IntKind.i64.wrap (b.toNat : Int))))) fun n3 =>
 some n3) (
 Option.bind (idx Gc (IntKind.u8.wrap x4)) fun b2 =>
 Option.bind (some (IntKind.i64.wrap (n + (IntKind.i64.wrap (b2.toNat : Int))))) fun n4 =>
 some n4)) (
 cond (decide (256 ≤ x3)) (
 Option.bind (some (j0 .u64 x3 8)) fun x6 =>
 Option.bind (some (IntKind.i64.wrap (32 + 8))) fun n5 =>
 Option.bind (idx Gc (IntKind.u8.wrap x6)) fun b3 =>
 Option.bind (some (IntKind.i64.wrap (n5 + (IntKind.i64.wrap (b3.toNat : Int))))) fun n6 =>
 some n6) (
 Option.bind (idx Gc (IntKind.u8.wrap x3)) fun b4 =>
 Option.bind (some (IntKind.i64.wrap (32 + (IntKind.i64.wrap (b4.toNat : Int))))) fun n7 =>
 some n7))) (
 cond (decide (65536 ≤ x2)) (
 Option.bind (some (j0 .u64 x2 16)) fun x7 =>
 Option.bind (some (IntKind.i64.wrap (0 + 16))) fun n8 =>
 cond (decide (256 ≤ x7)) (
 Option.bind (some (j0 .u64 x7 8)) fun x8 =>
 Option.bind (some (IntKind.i64.wrap (n8 + 8))) fun n9 =>
 Option.bind (idx Gc (IntKind.u8.wrap x8)) fun b5 =>
 Option.bind (some (IntKind.i64.wrap (n9 + (IntKind.i64.wrap (b5.toNat : Int))))) fun n10 =>
 some n10) (
 Option.bind (idx Gc (IntKind.u8.wrap x7)) fun b6 =>
 Option.bind (some (IntKind.i64.wrap (n8 + (IntKind.i64.wrap (b6.toNat : Int))))) fun n11 =>
 some n11)) (
 cond (decide (256 ≤ x2)) (
 Option.bind (some (j0 .u64 x2 8)) fun x9 =>
 Option.bind (some (IntKind.i64.wrap (0 + 8))) fun n12 =>
 Option.bind (idx Gc (IntKind.u8.wrap x9)) fun b7 =>
 Option.bind (some (IntKind.i64.wrap (n12 + (IntKind.i64.wrap (b7.toNat : Int))))) fun n13 =>
 some n13) (
 Option.bind (idx Gc (IntKind.u8.wrap x2)) fun b8 =>
 Option.bind (some (IntKind.i64.wrap (0 + (IntKind.i64.wrap (b8.toNat : Int))))) fun n14 =>
 some n14)))
def nF (N : Nat) (x2 : Int) : Option Int :=
 Option.bind (rQ N x2) fun r2 =>
 some r2
def vH (N : Nat) (b : List UInt8) : Option Bool :=
 Option.bind (rY N b ([48, 49] : List UInt8)) fun r2 =>
 cond (decide (r2 = ([] : List UInt8))) (
 Option.bind (oG N b ([48] : List UInt8)) fun r3 =>
 Option.bind (oG N b ([49] : List UInt8)) fun r4 =>
 some (decide ((IntKind.i64.wrap (r3 + r4)) = (b.length : Int)))) (
 some false)
def oO (N : Nat) (b : List UInt8) (kk : (List Int × Int) → Option (List UInt8 × Int)) : Nat → (List Int × Int) → Option (List UInt8 × Int)
 | 0, _ => none
 | fuel + 1, (l3, i) =>
  cond (decide (i < (b.length : Int))) (
  Option.bind (some (IntKind.i64.wrap (Int.tdiv i 8))) fun x4 =>
  Option.bind (idx l3 x4) fun e3 =>
  Option.bind (idx b i) fun b3 =>
  Option.bind (nn (IntKind.i64.wrap (7 - (Int.tmod i 8)))) fun _ =>
  Option.bind (idx l3 x4) fun e4 =>
  Option.bind (xC l3 x4 (LP .u8 e3 (qF .u8 (IntKind.u8.wrap ((b3.toNat : Int) - 48)) (IntKind.i64.wrap (7 - (Int.tmod i 8)))))) fun l5 =>
  oO N b kk fuel (l5, IntKind.i64.wrap (i + 1))) (
  kk (l3, i))
def qJ (N : Nat) (b : List UInt8) : Option (List UInt8 × Int) :=
 Option.bind (vH N b) fun r2 =>
 cond (!(r2)) (
 some (([] : List UInt8), 1)) (
 Option.bind (some (IntKind.i64.wrap (Int.tdiv (IntKind.i64.wrap ((b.length : Int) + 7)) 8))) fun x2 =>
 Option.bind (mk 1 x2 (0 : Int)) fun l2 =>
 oO N b (fun (l6, i2) =>
 some (toB l6, 0)) N (l2, 0))
def gR (N : Nat) (jP lN : Int) (sX : List Int) (o : Int) (r3 : List (List UInt8) × Int) (kk : (List UInt8 × Int) → Option (List UInt8 × Int)) : Nat → (List UInt8 × Int) → Option (List UInt8 × Int)
 | 0, _ => none
 | fuel + 1, (l2, i) =>
  cond (decide (i < (sX.length : Int))) (
  Option.bind (idx sX i) fun e6 =>
  Option.bind (nN N jP lN sX o i) fun Df =>
  Option.bind (some (IntKind.i64.wrap (IntKind.u16.wrap (IntKind.i64.wrap (e6 - Df))))) fun x6 =>
  cond (decide (32768 < x6)) (
  Option.bind (some (IntKind.i64.wrap (x6 - 65536))) fun x7 =>
  Option.bind (nF N (IntKind.u64.wrap (max x7 (IntKind.i64.wrap (0 - x7))))) fun pS =>
  cond (decide ((r3.1.length : Int) ≤ pS)) (
  some (([] : List UInt8), 4)) (
  Option.bind (idx r3.1 pS) fun e7 =>
  cond (decide (e7 = ([] : List UInt8))) (
  some (([] : List UInt8), 4)) (
  Option.bind (idx r3.1 pS) fun e8 =>
  Option.bind (J3 l2 e8) fun b7 =>
  cond (decide (0 < pS)) (
  cond (decide (pS < 16)) (
  cond (decide (x7 < 0)) (
  Option.bind (nn pS) fun _ =>
  Option.bind (some (IntKind.i64.wrap (x7 + (IntKind.i64.wrap ((qF .i64 1 pS) - 1))))) fun x8 =>
  Option.bind (kV N x8 pS) fun yZ =>
  Option.bind (J3 b7 yZ.1) fun b8 =>
  gR N jP lN sX o r3 kk fuel (b8, IntKind.i64.wrap (i + 1))) (
  Option.bind (kV N x7 pS) fun Ip =>
  Option.bind (J3 b7 Ip.1) fun b9 =>
  gR N jP lN sX o r3 kk fuel (b9, IntKind.i64.wrap (i + 1)))) (
  gR N jP lN sX o r3 kk fuel (b7, IntKind.i64.wrap (i + 1)))) (
  gR N jP lN sX o r3 kk fuel (b7, IntKind.i64.wrap (i + 1)))))) (
  Option.bind (nF N (IntKind.u64.wrap (max x6 (IntKind.i64.wrap (0 - x6))))) fun Dg =>
  cond (decide ((r3.1.length : Int) ≤ Dg)) (
  some (([] : List UInt8), 4)) (
  Option.bind (idx r3.1 Dg) fun e9 =>
  cond (decide (e9 = ([] : List UInt8))) (
  some (([] : List UInt8), 4)) (
  Option.bind (idx r3.1 Dg) fun e10 =>
  Option.bind (J3 l2 e10) fun b10 =>
  cond (decide (0 < Dg)) (
  cond (decide (Dg < 16)) (
  cond (decide (x6 < 0)) (
  Option.bind (nn Dg) fun _ =>
  Option.bind (some (IntKind.i64.wrap (x6 + (IntKind.i64.wrap ((qF .i64 1 Dg) - 1))))) fun x9 =>
  Option.bind (kV N x9 Dg) fun r16 =>
  Option.bind (J3 b10 r16.1) fun b11 =>
  gR N jP lN sX o r3 kk fuel (b11, IntKind.i64.wrap (i + 1))) (
  Option.bind (kV N x6 Dg) fun CC =>
  Option.bind (J3 b10 CC.1) fun b12 =>
  gR N jP lN sX o r3 kk fuel (b12, IntKind.i64.wrap (i + 1)))) (
  gR N jP lN sX o r3 kk fuel (b10, IntKind.i64.wrap (i + 1)))) (
  gR N jP lN sX o r3 kk fuel (b10, IntKind.i64.wrap (i + 1))))))) (
  kk (l2, i))
def uJ (N : Nat) (jP lN : Int) (sX : List Int) (o : Int) (p2 : List Int) : Option (List UInt8 × Int) :=
 Option.bind (wC N jP lN sX) fun r2 =>
 cond (!(r2)) (
 some (([] : List UInt8), 1)) (
 cond (decide (o < 1)) (
 some (([] : List UInt8), 6)) (
 cond (decide (7 < o)) (
 some (([] : List UInt8), 6)) (
 Option.bind (oQ N p2) fun r3 =>
 cond (!decide (r3.2 = 0)) (
 some (([] : List UInt8), r3.2)) (
 gR N jP lN sX o r3 (fun (l3, i2) =>
 Option.bind (qJ N l3) fun BC =>
 some (BC.1, 0)) N (([] : List UInt8), 0)))))
def o9 (N : Nat) (d7 eY : Int) (eO : List Int) (AM : Int) (CS : List Int) (r9 : List (Int × Int)) (kk : (List (List UInt8) × Int) → Option (Int × Int × Int × Int × Int × List Int × List (List UInt8) × Int × Int × Int × Int × Int × Int × List (Int × Int) × Int × Int × Int × Int × Int × Int × Int × Int × Int × Int × Int × Int × List (Int × Int) × Int × Int)) : Nat → (List (List UInt8) × Int) → Option (Int × Int × Int × Int × Int × List Int × List (List UInt8) × Int × Int × Int × Int × Int × Int × List (Int × Int) × Int × Int × Int × Int × Int × Int × Int × Int × Int × Int × Int × Int × List (Int × Int) × Int × Int)
 | 0, _ => none
 | fuel + 1, (jA, i) =>
  cond (decide (i < (r9.length : Int))) (
  Option.bind (idx r9 i) fun e2 =>
  Option.bind (DQ CS (IntKind.i64.wrap (e2.1 * AM)) (IntKind.i64.wrap ((IntKind.i64.wrap (e2.1 + e2.2)) * AM))) fun l3 =>
  Option.bind (wB N l3 d7) fun pS =>
  cond (decide (0 < eY)) (
  Option.bind (uJ N AM e2.2 l3 eY eO) fun yZ =>
  cond (!decide (yZ.2 = 0)) (
  some (0, 0, 0, 0, 0, ([] : List Int), ([] : List (List UInt8)), 0, 0, 0, 0, 0, 0, ([] : List (Int × Int)), 0, 0, 0, 0, 0, 0, 0, 0, 0, 0, 0, 0, ([] : List (Int × Int)), 0, yZ.2)) (
  Option.bind (app 16 jA (([yZ.1] : List (List UInt8)))) fun DW =>
  o9 N d7 eY eO AM CS r9 kk fuel (DW, IntKind.i64.wrap (i + 1)))) (
  cond (!decide (pS.2 = 0)) (
  some (0, 0, 0, 0, 0, ([] : List Int), ([] : List (List UInt8)), 0, 0, 0, 0, 0, 0, ([] : List (Int × Int)), 0, 0, 0, 0, 0, 0, 0, 0, 0, 0, 0, 0, ([] : List (Int × Int)), 0, pS.2)) (
  Option.bind (app 16 jA (([pS.1] : List (List UInt8)))) fun DX =>
  o9 N d7 eY eO AM CS r9 kk fuel (DX, IntKind.i64.wrap (i + 1))))) (
  kk (jA, i))
def vI (N : Nat) (jP lN d7 eY eI : Int) (eO : List Int) (dB : List (List UInt8)) (cN cD cE cG cH cO : Int) (bJ : List (Int × Int)) (cJ cK cL bL bM bN bO bP bQ bR bS bT : Int) (bK : List (Int × Int)) (bY AM DY : Int) (CS : List Int) : Option (Int × Int × Int × Int × Int × List Int × List (List UInt8) × Int × Int × Int × Int × Int × Int × List (Int × Int) × Int × Int × Int × Int × Int × Int × Int × Int × Int × Int × Int × Int × List (Int × Int) × Int × Int) :=
 Option.bind (vF N jP lN d7 eY eI eO dB cN cD cE cG cH cO bJ cJ cK cL bL bM bN bO bP bQ bR bS bT bK bY) fun r2 =>
 cond (!decide (r2 = 0)) (
 some (0, 0, 0, 0, 0, ([] : List Int), ([] : List (List UInt8)), 0, 0, 0, 0, 0, 0, ([] : List (Int × Int)), 0, 0, 0, 0, 0, 0, 0, 0, 0, 0, 0, 0, ([] : List (Int × Int)), 0, r2)) (
 Option.bind (vG N jP lN d7 eY eI eO dB cN cD cE cG cH cO bJ cJ cK cL bL bM bN bO bP bQ bR bS bT bK bY) fun r3 =>
 cond (!decide (r3 = 0)) (
 some (0, 0, 0, 0, 0, ([] : List Int), ([] : List (List UInt8)), 0, 0, 0, 0, 0, 0, ([] : List (Int × Int)), 0, 0, 0, 0, 0, 0, 0, 0, 0, 0, 0, 0, ([] : List (Int × Int)), 0, r3)) (
 Option.bind (qU N AM DY CS (([] : List (Int × Int)))) fun r4 =>
 cond (!decide (r4.2.2.2 = 0)) (
 some (0, 0, 0, 0, 0, ([] : List Int), ([] : List (List UInt8)), 0, 0, 0, 0, 0, 0, ([] : List (Int × Int)), 0, 0, 0, 0, 0, 0, 0, 0, 0, 0, 0, 0, ([] : List (Int × Int)), 0, 1)) (
 cond (!decide (AM = jP)) (
 some (0, 0, 0, 0, 0, ([] : List Int), ([] : List (List UInt8)), 0, 0, 0, 0, 0, 0, ([] : List (Int × Int)), 0, 0, 0, 0, 0, 0, 0, 0, 0, 0, 0, 0, ([] : List (Int × Int)), 0, 1)) (
 cond (!decide (DY = lN)) (
 some (0, 0, 0, 0, 0, ([] : List Int), ([] : List (List UInt8)), 0, 0, 0, 0, 0, 0, ([] : List (Int × Int)), 0, 0, 0, 0, 0, 0, 0, 0, 0, 0, 0, 0, ([] : List (Int × Int)), 0, 1)) (
 Option.bind (kU N CS) fun r5 =>
 Option.bind (nn d7) fun _ =>
 cond (decide (0 < (j0 .i64 r5 d7))) (
 some (0, 0, 0, 0, 0, ([] : List Int), ([] : List (List UInt8)), 0, 0, 0, 0, 0, 0, ([] : List (Int × Int)), 0, 0, 0, 0, 0, 0, 0, 0, 0, 0, 0, 0, ([] : List (Int × Int)), 0, 1)) (
 Option.bind (lI N eO) fun r6 =>
 Option.bind (iI N bJ) fun r7 =>
 Option.bind (iA N bK) fun r8 =>
 Option.bind (uI N jP lN d7 eY eI eO dB cN cD cE cG cH cO bJ cJ cK cL bL bM bN bO bP bQ bR bS bT bK bY) fun r9 =>
 o9 N d7 eY eO AM CS r9 (fun (Am, i2) =>
 some (jP, lN, d7, eY, eI, r6, Am, cN, cD, cE, cG, cH, cO, r7, cJ, cK, cL, bL, bM, bN, bO, bP, bQ, bR, bS, bT, r8, bY, 0)) N (([] : List (List UInt8)), 0)))))))
def cZ (N : Nat) (n low high : Int) : Option Bool :=
 cond (decide (low ≤ n)) (
 some (decide (n ≤ high))) (
 some false)
def hG (N : Nat) (lens : List Int) (kk : (Int × Bool × Int) → Option Int) : Nat → (Int × Bool × Int) → Option Int
 | 0, _ => none
 | fuel + 1, (sum, used, i) =>
  cond (decide (i < (lens.length : Int))) (
  Option.bind (idx lens i) fun e4 =>
  Option.bind (cZ N e4 0 15) fun r4 =>
  cond (!(r4)) (
  some 3) (
  Option.bind (idx lens i) fun e5 =>
  cond (decide (0 < e5)) (
  Option.bind (idx lens i) fun e6 =>
  Option.bind (nn (IntKind.i64.wrap (15 - e6))) fun _ =>
  Option.bind (some (IntKind.i64.wrap (sum + (qF .i64 1 (IntKind.i64.wrap (15 - e6)))))) fun Sz =>
  Option.bind (some (IntKind.i64.wrap (i + 1))) fun i4 =>
  hG N lens kk fuel (Sz, true, i4)) (
  Option.bind (some (IntKind.i64.wrap (i + 1))) fun i5 =>
  hG N lens kk fuel (sum, used, i5)))) (
  kk (sum, used, i))
def iQ (N : Nat) (lens : List Int) : Option Int :=
 Option.bind (cZ N (lens.length : Int) 1 17) fun r2 =>
 cond (!(r2)) (
 some 2) (
 hG N lens (fun (PP, Iq, i6) =>
 cond (!(Iq)) (
 some 1) (
 cond (decide (32768 < PP)) (
 some 1) (
 some 0))) N (0, false, 0))
def kW (N : Nat) (pO mV dG eC dJ : Int) (dR : List Int) (cV : List (List UInt8)) (bW bB bC bD bE bX : Int) (aQ : List (Int × Int)) (bF bG bH aT aU aV aW aX aY aZ a7 a8 : Int) (aR : List (Int × Int)) (bI : Int) : Option Int :=
 Option.bind (cZ N pO 1 64) fun r2 =>
 cond (!(r2)) (
 some 3) (
 Option.bind (cZ N mV 1 64) fun r3 =>
 cond (!(r3)) (
 some 3) (
 Option.bind (cZ N dG 1 16) fun r4 =>
 cond (!(r4)) (
 some 3) (
 Option.bind (cZ N dJ 1 mV) fun r5 =>
 cond (!(r5)) (
 some 3) (
 Option.bind (cZ N eC 0 7) fun r6 =>
 cond (!(r6)) (
 some 6) (
 cond (decide (eC = 0)) (
 cond (decide (0 < (dR.length : Int))) (
 some 1) (
 cond (decide (0 < eC)) (
 Option.bind (iQ N dR) fun r7 =>
 some r7) (
 some 0))) (
 cond (decide (0 < eC)) (
 Option.bind (iQ N dR) fun r8 =>
 some r8) (
 some 0)))))))
def jK (N : Nat) (l2 : List (Int × Int)) (w2 h2 : Int) (kk : Int → Option Bool) : Nat → Int → Option Bool
 | 0, _ => none
 | fuel + 1, i =>
  cond (decide (i < (l2.length : Int))) (
  Option.bind (idx l2 i) fun e3 =>
  Option.bind (cZ N e3.1 0 (IntKind.i64.wrap (w2 - 1))) fun r4 =>
  cond (!(r4)) (
  some false) (
  Option.bind (idx l2 i) fun e4 =>
  Option.bind (cZ N e4.2 0 (IntKind.i64.wrap (h2 - 1))) fun r5 =>
  cond (!(r5)) (
  some false) (
  Option.bind (some (IntKind.i64.wrap (i + 1))) fun i3 =>
  jK N l2 w2 h2 kk fuel i3))) (
  kk i)
def lR (N : Nat) (l2 : List (Int × Int)) (w2 h2 : Int) : Option Bool :=
 jK N l2 w2 h2 (fun i4 =>
 some true) N 0
def jL (N : Nat) (m0 m1 m2 m3 m4 m5 m6 m7 m8 : Int) (kk : Int → Option Bool) : Nat → Int → Option Bool
 | 0, _ => none
 | fuel + 1, i =>
  cond (decide (i < 9)) (
  Option.bind (inr i 9) fun _ =>
  Option.bind (idx [m0, m1, m2, m3, m4, m5, m6, m7, m8] i) fun e2 =>
  Option.bind (cZ N e2 (-32768) 32768) fun r3 =>
  cond (!(r3)) (
  some false) (
  Option.bind (some (IntKind.i64.wrap (i + 1))) fun i3 =>
  jL N m0 m1 m2 m3 m4 m5 m6 m7 m8 kk fuel i3)) (
  kk i)
def lS (N : Nat) (m0 m1 m2 m3 m4 m5 m6 m7 m8 : Int) : Option Bool :=
 jL N m0 m1 m2 m3 m4 m5 m6 m7 m8 (fun i4 =>
 some true) N 0
def hJ (N : Nat) (d : List (Int × Int)) (kk : Int → Option Bool) : Nat → Int → Option Bool
 | 0, _ => none
 | fuel + 1, i =>
  cond (decide (i < (d.length : Int))) (
  Option.bind (idx d i) fun e8 =>
  Option.bind (cZ N e8.2 0 65535) fun r4 =>
  cond (!(r4)) (
  some false) (
  cond (decide (0 < i)) (
  Option.bind (idx d i) fun e9 =>
  Option.bind (idx d (IntKind.i64.wrap (i - 1))) fun e10 =>
  cond (decide (e9.1 ≤ e10.1)) (
  some false) (
  Option.bind (idx d i) fun e11 =>
  Option.bind (idx d (IntKind.i64.wrap (i - 1))) fun e12 =>
  cond (decide (e11.2 < e12.2)) (
  some false) (
  Option.bind (some (IntKind.i64.wrap (i + 1))) fun x4 =>
  hJ N d kk fuel x4))) (
  Option.bind (some (IntKind.i64.wrap (i + 1))) fun x5 =>
  hJ N d kk fuel x5))) (
  kk i)
def gT (N : Nat) (d : List (Int × Int)) : Option Bool :=
 Option.bind (cZ N (d.length : Int) 2 16) fun r2 =>
 cond (!(r2)) (
 some false) (
 Option.bind (idx d 0) fun e =>
 cond (!decide (e.1 = 0)) (
 some false) (
 Option.bind (idx d (IntKind.i64.wrap ((d.length : Int) - 1))) fun e2 =>
 cond (!decide (e2.1 = 65535)) (
 some false) (
 hJ N d (fun i2 =>
 some true) N 0)))
def eZ (N : Nat) (G3 G4 G5 : Int) (kk : Int → Option Int) : Nat → Int → Option Int
 | 0, _ => none
 | fuel + 1, i3 =>
  cond (decide (i3 < 3)) (
  Option.bind (inr i3 3) fun _ =>
  Option.bind (idx [G3, G4, G5] i3) fun e4 =>
  Option.bind (cZ N e4 0 65535) fun LU =>
  cond (!(LU)) (
  some 3) (
  Option.bind (some (IntKind.i64.wrap (i3 + 1))) fun x5 =>
  eZ N G3 G4 G5 kk fuel x5)) (
  kk i3)
def fA (N : Nat) (G6 G7 G8 G9 dc : Int) (kk : Int → Option Int) : Nat → Int → Option Int
 | 0, _ => none
 | fuel + 1, i =>
  cond (decide (i < 4)) (
  Option.bind (inr i 4) fun _ =>
  Option.bind (idx [G6, G7, G8, G9] i) fun e2 =>
  Option.bind (cZ N e2 0 (IntKind.i64.wrap (dc - 1))) fun r8 =>
  cond (!(r8)) (
  some 3) (
  Option.bind (some (IntKind.i64.wrap (i + 1))) fun x3 =>
  fA N G6 G7 G8 G9 dc kk fuel x3)) (
  kk i)
def kX (N : Nat) (da G6 G7 G8 G9 dc : Int) (dd : List (Int × Int)) (G3 G4 G5 JH JI df2 JJ JK JL JM JN JO : Int) (dg : List (Int × Int)) (dh : Int) : Option Int :=
 Option.bind (cZ N da 0 3) fun r2 =>
 cond (!(r2)) (
 some 3) (
 Option.bind (cZ N dc 1 65535) fun r3 =>
 cond (!(r3)) (
 some 3) (
 cond (decide (64 < (dd.length : Int))) (
 some 3) (
 Option.bind (lR N dd 64 64) fun r4 =>
 cond (!(r4)) (
 some 3) (
 Option.bind (lS N JH JI df2 JJ JK JL JM JN JO) fun r5 =>
 cond (!(r5)) (
 some 3) (
 Option.bind (cZ N dh 0 1024) fun r6 =>
 cond (!(r6)) (
 some 3) (
 fA N G6 G7 G8 G9 dc (fun i2 =>
 eZ N G3 G4 G5 (fun i4 =>
 Option.bind (gT N dg) fun Df =>
 cond (!(Df)) (
 some 1) (
 some 0)) N 0) N 0))))))
def kY (N : Nat) (pO mV dG eC dJ : Int) (dR : List Int) (cV : List (List UInt8)) (bW bB bC bD bE bX : Int) (aQ : List (Int × Int)) (bF bG bH aT aU aV aW aX aY aZ a7 a8 : Int) (aR : List (Int × Int)) (bI : Int) : Option Int :=
 Option.bind (kX N bW bB bC bD bE bX aQ bF bG bH aT aU aV aW aX aY aZ a7 a8 aR bI) fun r2 =>
 cond (!decide (r2 = 0)) (
 some r2) (
 Option.bind (lR N aQ pO mV) fun r3 =>
 cond (!(r3)) (
 some 3) (
 some 0))
def fJ (N : Nat) (qP : List Int) (kk : Int → Option Bool) : Nat → Int → Option Bool
 | 0, _ => none
 | fuel + 1, i =>
  cond (decide (i < (qP.length : Int))) (
  Option.bind (idx qP i) fun e2 =>
  Option.bind (cZ N e2 0 65535) fun r5 =>
  cond (!(r5)) (
  some false) (
  Option.bind (some (IntKind.i64.wrap (i + 1))) fun i3 =>
  fJ N qP kk fuel i3)) (
  kk i)
def iB (N : Nat) (vZ wD : Int) (qP : List Int) : Option Bool :=
 Option.bind (cZ N vZ 1 64) fun r2 =>
 cond (!(r2)) (
 some false) (
 Option.bind (cZ N wD 1 64) fun r3 =>
 cond (!(r3)) (
 some false) (
 cond (!decide ((qP.length : Int) = (IntKind.i64.wrap (vZ * wD)))) (
 some false) (
 fJ N qP (fun i4 =>
 some true) N 0)))
def jM (N : Nat) (l2 : List Int) (depth : Int) (kk : Int → Option Bool) : Nat → Int → Option Bool
 | 0, _ => none
 | fuel + 1, i =>
  cond (decide (i < (l2.length : Int))) (
  Option.bind (idx l2 i) fun e2 =>
  Option.bind (nn depth) fun _ =>
  cond (decide ((IntKind.i64.wrap ((qF .i64 1 depth) - 1)) < e2)) (
  some false) (
  Option.bind (some (IntKind.i64.wrap (i + 1))) fun i3 =>
  jM N l2 depth kk fuel i3)) (
  kk i)
def lT (N : Nat) (l2 : List Int) (depth : Int) : Option Bool :=
 jM N l2 depth (fun i4 =>
 some true) N 0
def mG (N : Nat) (pO mV dG eC dJ : Int) (dR : List Int) (cV : List (List UInt8)) (bW bB bC bD bE bX : Int) (aQ : List (Int × Int)) (bF bG bH aT aU aV aW aX aY aZ a7 a8 : Int) (aR : List (Int × Int)) (bI : Int) : Option (Int × Int × Int × Int × Int × List Int × List (List UInt8) × Int × Int × Int × Int × Int × Int × List (Int × Int) × Int × Int × Int × Int × Int × Int × Int × Int × Int × Int × Int × Int × List (Int × Int) × Int) :=
 Option.bind (app 8 ([] : List Int) dR) fun l2 =>
 Option.bind (app 16 (([] : List (List UInt8))) cV) fun l3 =>
 Option.bind (app 16 (([] : List (Int × Int))) aQ) fun l4 =>
 Option.bind (app 16 (([] : List (Int × Int))) aR) fun l5 =>
 some (pO, mV, dG, eC, dJ, l2, l3, bW, bB, bC, bD, bE, bX, l4, bF, bG, bH, aT, aU, aV, aW, aX, aY, aZ, a7, a8, l5, bI)
def mW (N : Nat) (pO mV dG eC dJ : Int) (dR : List Int) (cV : List (List UInt8)) (bW bB bC bD bE bX : Int) (aQ : List (Int × Int)) (bF bG bH aT aU aV aW aX aY aZ a7 a8 : Int) (aR : List (Int × Int)) (bI : Int) : Option Int :=
 Option.bind (nz dJ) fun _ =>
 some (IntKind.i64.wrap (Int.tdiv (IntKind.i64.wrap ((IntKind.i64.wrap (mV + dJ)) - 1)) dJ))
def mH (N : Nat) (pO mV dG eC dJ : Int) (dR : List Int) (cV : List (List UInt8)) (bW bB bC bD bE bX : Int) (aQ : List (Int × Int)) (bF bG bH aT aU aV aW aX aY aZ a7 a8 : Int) (aR : List (Int × Int)) (bI strip : Int) : Option Int :=
 some (min dJ (IntKind.i64.wrap (mV - (IntKind.i64.wrap (strip * dJ)))))
def iE (N : Nat) : Nat → Int → Int → Option (List UInt8)
 | 0, _, _ => none
 | fu + 1, n, size =>
  cond (decide (size = 0)) (
  some (([] : List UInt8))) (
  Option.bind (iE N fu (IntKind.i64.wrap (Int.tdiv n 2)) (IntKind.i64.wrap (size - 1))) fun r2 =>
  Option.bind (G0 r2 (toB (([IntKind.u8.wrap (48 + (IntKind.u8.wrap (Int.tmod n 2)))] : List Int)))) fun s =>
  some s)
def j1 (N : Nat) (n size : Int) : Option (List UInt8) := iE N N n size
def iF (N : Nat) (b : List UInt8) (i : Int) (kk : (Int × Int) → Option (List UInt8)) : Nat → (Int × Int) → Option (List UInt8)
 | 0, _ => none
 | fuel + 1, (n4, k5) =>
  cond (decide (k5 < (IntKind.i64.wrap (i + 8)))) (
  Option.bind (some (IntKind.i64.wrap (2 * n4))) fun n7 =>
  cond (decide (k5 < (b.length : Int))) (
  Option.bind (idx b k5) fun b4 =>
  cond (decide ((b4.toNat : Int) = 49)) (
  Option.bind (some (IntKind.i64.wrap (n7 + 1))) fun n8 =>
  Option.bind (some (IntKind.i64.wrap (k5 + 1))) fun k9 =>
  iF N b i kk fuel (n8, k9)) (
  Option.bind (some (IntKind.i64.wrap (k5 + 1))) fun k10 =>
  iF N b i kk fuel (n7, k10))) (
  Option.bind (some (IntKind.i64.wrap (k5 + 1))) fun k11 =>
  iF N b i kk fuel (n7, k11))) (
  kk (n4, k5))
def jB (N : Nat) (b : List UInt8) (kk : (List Int × Int) → Option (List UInt8)) : Nat → (List Int × Int) → Option (List UInt8)
 | 0, _ => none
 | fuel + 1, (l2, i) =>
  cond (decide (i < (b.length : Int))) (
  iF N b i (fun (n9, k12) =>
  Option.bind (app 1 l2 ([IntKind.u8.wrap n9] : List Int)) fun l4 =>
  Option.bind (some (IntKind.i64.wrap (i + 8))) fun i3 =>
  jB N b kk fuel (l4, i3)) N (0, i)) (
  kk (l2, i))
def iN (N : Nat) (b : List UInt8) : Option (List UInt8) :=
 Option.bind (QC 1 (IntKind.i64.wrap ((IntKind.i64.wrap (Int.tdiv (b.length : Int) 8)) + 1))) fun _ =>
 jB N b (fun (l5, i4) =>
 some (toB l5)) N (([] : List Int), 0)
def jZ (N : Nat) (l2 : List Int) (depth : Int) (kk : (List Int × Int) → Option (List UInt8)) : Nat → (List Int × Int) → Option (List UInt8)
 | 0, _ => none
 | fuel + 1, (l4, i2) =>
  cond (decide (i2 < (l2.length : Int))) (
  Option.bind (idx l2 i2) fun e3 =>
  Option.bind (j1 N e3 depth) fun r4 =>
  Option.bind (app 1 l4 (pN r4)) fun l6 =>
  Option.bind (some (IntKind.i64.wrap (i2 + 1))) fun i4 =>
  jZ N l2 depth kk fuel (l6, i4)) (
  kk (l4, i2))
def mI (N : Nat) (l2 : List Int) (depth : Int) : Option (List UInt8) :=
 jZ N l2 depth (fun (l7, i5) =>
 Option.bind (iN N (toB l7)) fun r5 =>
 some r5) N (([] : List Int), 0)
def iK (N : Nat) (lens : List Int) (size : Int) (kk : (List (List UInt8) × Int × Int × Int) → Option (List (List UInt8))) : Nat → (List (List UInt8) × Int × Int × Int) → Option (List (List UInt8))
 | 0, _ => none
 | fuel + 1, (l6, Ek, last3, i4) =>
  cond (decide (i4 < (lens.length : Int))) (
  Option.bind (idx lens i4) fun e5 =>
  cond (!decide (e5 = size)) (
  Option.bind (some (IntKind.i64.wrap (i4 + 1))) fun i7 =>
  iK N lens size kk fuel (l6, Ek, last3, i7)) (
  Option.bind (nn (IntKind.i64.wrap (size - last3))) fun _ =>
  Option.bind (some (qF .i64 Ek (IntKind.i64.wrap (size - last3)))) fun Nw =>
  Option.bind (j1 N Nw size) fun r4 =>
  Option.bind (idx l6 i4) fun e6 =>
  Option.bind (xC l6 i4 r4) fun l8 =>
  Option.bind (some (IntKind.i64.wrap (Nw + 1))) fun Nx =>
  Option.bind (some (IntKind.i64.wrap (i4 + 1))) fun i8 =>
  iK N lens size kk fuel (l8, Nx, size, i8))) (
  kk (l6, Ek, last3, i4))
def jN (N : Nat) (lens : List Int) (kk : (List (List UInt8) × Int × Int × Int) → Option (List (List UInt8))) : Nat → (List (List UInt8) × Int × Int × Int) → Option (List (List UInt8))
 | 0, _ => none
 | fuel + 1, (l3, next, last, size) =>
  cond (decide (size ≤ 15)) (
  iK N lens size (fun (l9, J6, Ny, i9) =>
  Option.bind (some (IntKind.i64.wrap (size + 1))) fun Nz =>
  jN N lens kk fuel (l9, J6, Ny, Nz)) N (l3, next, last, 0)) (
  kk (l3, next, last, size))
def kK (N : Nat) (lens : List Int) : Option (List (List UInt8)) :=
 Option.bind (some ((lens.length : Int))) fun x2 =>
 Option.bind (mk 16 x2 (([] : List UInt8) : List UInt8)) fun l2 =>
 jN N lens (fun (l10, SA, U1, U2) =>
 some l10) N (l2, 0, 0, 1)
def fW (N : Nat) (vZ wD : Int) (qP : List Int) (x2 y : Int) : Option Int :=
 Option.bind (idx qP (IntKind.i64.wrap ((IntKind.i64.wrap (y * vZ)) + x2))) fun e =>
 some e
def fZ (N : Nat) (n T5 : Int) : Option Int :=
 Option.bind (nz T5) fun _ =>
 Option.bind (some (IntKind.i64.wrap (Int.tdiv n T5))) fun q =>
 cond (decide (n < (IntKind.i64.wrap (q * T5)))) (
 Option.bind (some (IntKind.i64.wrap (q - 1))) fun q2 =>
 some q2) (
 some q)
def lU (N : Nat) (jP lN : Int) (sX : List Int) (o p2 p3 : Int) : Option Int :=
 cond (decide (p2 = 0)) (
 cond (decide (p3 = 0)) (
 some 32768) (
 cond (decide (p3 = 0)) (
 Option.bind (fW N jP lN sX (IntKind.i64.wrap (p2 - 1)) 0) fun r2 =>
 some r2) (
 cond (decide (p2 = 0)) (
 Option.bind (fW N jP lN sX 0 (IntKind.i64.wrap (p3 - 1))) fun r3 =>
 some r3) (
 Option.bind (fW N jP lN sX (IntKind.i64.wrap (p2 - 1)) p3) fun r4 =>
 Option.bind (fW N jP lN sX p2 (IntKind.i64.wrap (p3 - 1))) fun r5 =>
 Option.bind (fW N jP lN sX (IntKind.i64.wrap (p2 - 1)) (IntKind.i64.wrap (p3 - 1))) fun r6 =>
 cond (decide (o = 1)) (
 some r4) (
 cond (decide (o = 2)) (
 some r5) (
 cond (decide (o = 3)) (
 some r6) (
 cond (decide (o = 4)) (
 some (IntKind.i64.wrap ((IntKind.i64.wrap (r4 + r5)) - r6))) (
 cond (decide (o = 5)) (
 Option.bind (fZ N (IntKind.i64.wrap (r5 - r6)) 2) fun r7 =>
 some (IntKind.i64.wrap (r4 + r7))) (
 cond (decide (o = 6)) (
 Option.bind (fZ N (IntKind.i64.wrap (r4 - r6)) 2) fun r8 =>
 some (IntKind.i64.wrap (r5 + r8))) (
 Option.bind (fZ N (IntKind.i64.wrap (r4 + r5)) 2) fun r9 =>
 some r9)))))))))) (
 cond (decide (p3 = 0)) (
 Option.bind (fW N jP lN sX (IntKind.i64.wrap (p2 - 1)) 0) fun LU =>
 some LU) (
 cond (decide (p2 = 0)) (
 Option.bind (fW N jP lN sX 0 (IntKind.i64.wrap (p3 - 1))) fun Df =>
 some Df) (
 Option.bind (fW N jP lN sX (IntKind.i64.wrap (p2 - 1)) p3) fun pS =>
 Option.bind (fW N jP lN sX p2 (IntKind.i64.wrap (p3 - 1))) fun yZ =>
 Option.bind (fW N jP lN sX (IntKind.i64.wrap (p2 - 1)) (IntKind.i64.wrap (p3 - 1))) fun Ip =>
 cond (decide (o = 1)) (
 some pS) (
 cond (decide (o = 2)) (
 some yZ) (
 cond (decide (o = 3)) (
 some Ip) (
 cond (decide (o = 4)) (
 some (IntKind.i64.wrap ((IntKind.i64.wrap (pS + yZ)) - Ip))) (
 cond (decide (o = 5)) (
 Option.bind (fZ N (IntKind.i64.wrap (yZ - Ip)) 2) fun Dg =>
 some (IntKind.i64.wrap (pS + Dg))) (
 cond (decide (o = 6)) (
 Option.bind (fZ N (IntKind.i64.wrap (pS - Ip)) 2) fun r16 =>
 some (IntKind.i64.wrap (yZ + r16))) (
 Option.bind (fZ N (IntKind.i64.wrap (pS + yZ)) 2) fun CC =>
 some CC)))))))))
def fE (N : Nat)  (kk : Int → Option Int) : Nat → Int → Option Int
 | 0, _ => none
 | fuel + 1, d6 =>
  cond (decide (d6 ≤ (-32768))) (
  Option.bind (some (IntKind.i64.wrap (d6 + 65536))) fun d8 =>
  fE N  kk fuel d8) (
  kk d6)
def gE (N : Nat)  (kk : Int → Option Int) : Nat → Int → Option Int
 | 0, _ => none
 | fuel + 1, d2 =>
  cond (decide (32768 < d2)) (
  Option.bind (some (IntKind.i64.wrap (d2 - 65536))) fun d4 =>
  gE N  kk fuel d4) (
  kk d2)
def kQ (N : Nat) (Ha guess : Int) : Option Int :=
 Option.bind (some (IntKind.i64.wrap (Ha - guess))) fun d =>
 gE N  (fun d5 =>
 fE N  (fun d9 =>
 some d9) N d5) N d
def iG (N : Nat) (vZ wD : Int) (qP : List Int) (kind y2 : Int) (kk : (List Int × Int) → Option (List Int)) : Nat → (List Int × Int) → Option (List Int)
 | 0, _ => none
 | fuel + 1, (l8, x7) =>
  cond (decide (x7 < vZ)) (
  Option.bind (fW N vZ wD qP x7 y2) fun Ip =>
  Option.bind (lU N vZ wD qP kind x7 y2) fun Dg =>
  Option.bind (kQ N Ip Dg) fun r16 =>
  Option.bind (app 8 l8 ([r16] : List Int)) fun l10 =>
  Option.bind (some (IntKind.i64.wrap (x7 + 1))) fun x9 =>
  iG N vZ wD qP kind y2 kk fuel (l10, x9)) (
  kk (l8, x7))
def gX (N : Nat) (vZ wD : Int) (qP : List Int) (kind : Int) (kk : (List Int × Int) → Option (List Int)) : Nat → (List Int × Int) → Option (List Int)
 | 0, _ => none
 | fuel + 1, (l5, y2) =>
  cond (decide (y2 < wD)) (
  iG N vZ wD qP kind y2 (fun (PQ, x10) =>
  Option.bind (some (IntKind.i64.wrap (y2 + 1))) fun y4 =>
  gX N vZ wD qP kind kk fuel (PQ, y4)) N (l5, 0)) (
  kk (l5, y2))
def lV (N : Nat) (vZ wD : Int) (qP : List Int) (kind : Int) : Option (List Int) :=
 gX N vZ wD qP kind (fun (PR, y5) =>
 some PR) N (([] : List Int), 0)
def jO (N : Nat)  (kk : (Int × Int) → Option Int) : Nat → (Int × Int) → Option Int
 | 0, _ => none
 | fuel + 1, (n, k2) =>
  cond (decide (0 < k2)) (
  Option.bind (some (IntKind.i64.wrap (n + 1))) fun n3 =>
  Option.bind (some (IntKind.i64.wrap (Int.tdiv k2 2))) fun k4 =>
  jO N  kk fuel (n3, k4)) (
  kk (n, k2))
def kL (N : Nat) (d : Int) : Option Int :=
 Option.bind (some (max d (IntKind.i64.wrap (0 - d)))) fun k =>
 jO N  (fun (n4, k5) =>
 some n4) N (0, k)
def nI (N : Nat) (d : Int) : Option (List UInt8) :=
 Option.bind (kL N d) fun r2 =>
 cond (decide (r2 = 0)) (
 some (([] : List UInt8))) (
 cond (decide (r2 = 16)) (
 some (([] : List UInt8))) (
 cond (decide (0 < d)) (
 Option.bind (j1 N d r2) fun r3 =>
 some r3) (
 Option.bind (nn r2) fun _ =>
 Option.bind (j1 N (IntKind.i64.wrap ((IntKind.i64.wrap (d + (qF .i64 1 r2))) - 1)) r2) fun r4 =>
 some r4)))
def iT (N : Nat) (r5 : List (List UInt8)) (r6 : List Int) (kk : (List Int × Int) → Option (List UInt8 × Int)) : Nat → (List Int × Int) → Option (List UInt8 × Int)
 | 0, _ => none
 | fuel + 1, (l4, i) =>
  cond (decide (i < (r6.length : Int))) (
  Option.bind (idx r6 i) fun e9 =>
  Option.bind (kL N e9) fun Df =>
  cond (decide ((r5.length : Int) ≤ Df)) (
  some (([] : List UInt8), 4)) (
  Option.bind (idx r5 Df) fun e10 =>
  cond (decide (e10 = ([] : List UInt8))) (
  some (([] : List UInt8), 4)) (
  Option.bind (idx r5 Df) fun e11 =>
  Option.bind (app 1 l4 (pN e11)) fun l7 =>
  Option.bind (idx r6 i) fun e12 =>
  Option.bind (nI N e12) fun pS =>
  Option.bind (app 1 l7 (pN pS)) fun l8 =>
  Option.bind (some (IntKind.i64.wrap (i + 1))) fun x4 =>
  iT N r5 r6 kk fuel (l8, x4)))) (
  kk (l4, i))
def kZ (N : Nat) (jP lN : Int) (sX : List Int) (o : Int) (p2 : List Int) : Option (List UInt8 × Int) :=
 Option.bind (iB N jP lN sX) fun r2 =>
 cond (!(r2)) (
 some (([] : List UInt8), 1)) (
 Option.bind (cZ N o 1 7) fun r3 =>
 cond (!(r3)) (
 some (([] : List UInt8), 6)) (
 Option.bind (iQ N p2) fun r4 =>
 cond (!decide (r4 = 0)) (
 some (([] : List UInt8), r4)) (
 Option.bind (kK N p2) fun r5 =>
 Option.bind (lV N jP lN sX o) fun r6 =>
 iT N r5 r6 (fun (l9, i2) =>
 Option.bind (iN N (toB l9)) fun yZ =>
 some (yZ, 0)) N (([] : List Int), 0))))
def iL (N : Nat) (jP lN d7 eY eI : Int) (eO : List Int) (dB : List (List UInt8)) (cN cD cE cG cH cO : Int) (bJ : List (Int × Int)) (cJ cK cL bL bM bN bO bP bQ bR bS bT : Int) (bK : List (Int × Int)) (bY : Int) (CS : List Int) (kk : (List (List UInt8) × Int) → Option (Int × Int × Int × Int × Int × List Int × List (List UInt8) × Int × Int × Int × Int × Int × Int × List (Int × Int) × Int × Int × Int × Int × Int × Int × Int × Int × Int × Int × Int × Int × List (Int × Int) × Int × Int)) : Nat → (List (List UInt8) × Int) → Option (Int × Int × Int × Int × Int × List Int × List (List UInt8) × Int × Int × Int × Int × Int × Int × List (Int × Int) × Int × Int × Int × Int × Int × Int × Int × Int × Int × Int × Int × Int × List (Int × Int) × Int × Int)
 | 0, _ => none
 | fuel + 1, (jA, i) =>
  Option.bind (mW N jP lN d7 eY eI eO dB cN cD cE cG cH cO bJ cJ cK cL bL bM bN bO bP bQ bR bS bT bK bY) fun Cj =>
  cond (decide (i < Cj)) (
  Option.bind (mH N jP lN d7 eY eI eO dB cN cD cE cG cH cO bJ cJ cK cL bL bM bN bO bP bQ bR bS bT bK bY i) fun BI =>
  Option.bind (mH N jP lN d7 eY eI eO dB cN cD cE cG cH cO bJ cJ cK cL bL bM bN bO bP bQ bR bS bT bK bY i) fun DL =>
  Option.bind (DQ CS (IntKind.i64.wrap ((IntKind.i64.wrap (i * eI)) * jP)) (IntKind.i64.wrap ((IntKind.i64.wrap ((IntKind.i64.wrap (i * eI)) + DL)) * jP))) fun l5 =>
  Option.bind (mI N l5 d7) fun Dh =>
  cond (decide (0 < eY)) (
  Option.bind (kZ N jP BI l5 eY eO) fun EX =>
  cond (!decide (EX.2 = 0)) (
  some (0, 0, 0, 0, 0, ([] : List Int), ([] : List (List UInt8)), 0, 0, 0, 0, 0, 0, ([] : List (Int × Int)), 0, 0, 0, 0, 0, 0, 0, 0, 0, 0, 0, 0, ([] : List (Int × Int)), 0, EX.2)) (
  Option.bind (app 16 jA (([EX.1] : List (List UInt8)))) fun DZ =>
  Option.bind (some (IntKind.i64.wrap (i + 1))) fun x8 =>
  iL N jP lN d7 eY eI eO dB cN cD cE cG cH cO bJ cJ cK cL bL bM bN bO bP bQ bR bS bT bK bY CS kk fuel (DZ, x8))) (
  Option.bind (app 16 jA (([Dh] : List (List UInt8)))) fun D0 =>
  Option.bind (some (IntKind.i64.wrap (i + 1))) fun x9 =>
  iL N jP lN d7 eY eI eO dB cN cD cE cG cH cO bJ cJ cK cL bL bM bN bO bP bQ bR bS bT bK bY CS kk fuel (D0, x9))) (
  kk (jA, i))
def lW (N : Nat) (jP lN d7 eY eI : Int) (eO : List Int) (dB : List (List UInt8)) (cN cD cE cG cH cO : Int) (bJ : List (Int × Int)) (cJ cK cL bL bM bN bO bP bQ bR bS bT : Int) (bK : List (Int × Int)) (bY AM DY : Int) (CS : List Int) : Option (Int × Int × Int × Int × Int × List Int × List (List UInt8) × Int × Int × Int × Int × Int × Int × List (Int × Int) × Int × Int × Int × Int × Int × Int × Int × Int × Int × Int × Int × Int × List (Int × Int) × Int × Int) :=
 Option.bind (kW N jP lN d7 eY eI eO dB cN cD cE cG cH cO bJ cJ cK cL bL bM bN bO bP bQ bR bS bT bK bY) fun r2 =>
 cond (!decide (r2 = 0)) (
 some (0, 0, 0, 0, 0, ([] : List Int), ([] : List (List UInt8)), 0, 0, 0, 0, 0, 0, ([] : List (Int × Int)), 0, 0, 0, 0, 0, 0, 0, 0, 0, 0, 0, 0, ([] : List (Int × Int)), 0, r2)) (
 Option.bind (kY N jP lN d7 eY eI eO dB cN cD cE cG cH cO bJ cJ cK cL bL bM bN bO bP bQ bR bS bT bK bY) fun r3 =>
 cond (!decide (r3 = 0)) (
 some (0, 0, 0, 0, 0, ([] : List Int), ([] : List (List UInt8)), 0, 0, 0, 0, 0, 0, ([] : List (Int × Int)), 0, 0, 0, 0, 0, 0, 0, 0, 0, 0, 0, 0, ([] : List (Int × Int)), 0, r3)) (
 Option.bind (iB N AM DY CS) fun r4 =>
 cond (!(r4)) (
 some (0, 0, 0, 0, 0, ([] : List Int), ([] : List (List UInt8)), 0, 0, 0, 0, 0, 0, ([] : List (Int × Int)), 0, 0, 0, 0, 0, 0, 0, 0, 0, 0, 0, 0, ([] : List (Int × Int)), 0, 1)) (
 cond (!decide (AM = jP)) (
 some (0, 0, 0, 0, 0, ([] : List Int), ([] : List (List UInt8)), 0, 0, 0, 0, 0, 0, ([] : List (Int × Int)), 0, 0, 0, 0, 0, 0, 0, 0, 0, 0, 0, 0, ([] : List (Int × Int)), 0, 1)) (
 cond (!decide (DY = lN)) (
 some (0, 0, 0, 0, 0, ([] : List Int), ([] : List (List UInt8)), 0, 0, 0, 0, 0, 0, ([] : List (Int × Int)), 0, 0, 0, 0, 0, 0, 0, 0, 0, 0, 0, 0, ([] : List (Int × Int)), 0, 1)) (
 Option.bind (lT N CS d7) fun r5 =>
 cond (!(r5)) (
 some (0, 0, 0, 0, 0, ([] : List Int), ([] : List (List UInt8)), 0, 0, 0, 0, 0, 0, ([] : List (Int × Int)), 0, 0, 0, 0, 0, 0, 0, 0, 0, 0, 0, 0, ([] : List (Int × Int)), 0, 1)) (
 Option.bind (mG N jP lN d7 eY eI eO dB cN cD cE cG cH cO bJ cJ cK cL bL bM bN bO bP bQ bR bS bT bK bY) fun r6 =>
 iL N jP lN d7 eY eI eO dB cN cD cE cG cH cO bJ cJ cK cL bL bM bN bO bP bQ bR bS bT bK bY CS (fun (yG, i2) =>
 some (r6.1, r6.2.1, r6.2.2.1, r6.2.2.2.1, r6.2.2.2.2.1, r6.2.2.2.2.2.1, yG, r6.2.2.2.2.2.2.2.1, r6.2.2.2.2.2.2.2.2.1, r6.2.2.2.2.2.2.2.2.2.1, r6.2.2.2.2.2.2.2.2.2.2.1, r6.2.2.2.2.2.2.2.2.2.2.2.1, r6.2.2.2.2.2.2.2.2.2.2.2.2.1, r6.2.2.2.2.2.2.2.2.2.2.2.2.2.1, r6.2.2.2.2.2.2.2.2.2.2.2.2.2.2.1, r6.2.2.2.2.2.2.2.2.2.2.2.2.2.2.2.1, r6.2.2.2.2.2.2.2.2.2.2.2.2.2.2.2.2.1, r6.2.2.2.2.2.2.2.2.2.2.2.2.2.2.2.2.2.1, r6.2.2.2.2.2.2.2.2.2.2.2.2.2.2.2.2.2.2.1, r6.2.2.2.2.2.2.2.2.2.2.2.2.2.2.2.2.2.2.2.1, r6.2.2.2.2.2.2.2.2.2.2.2.2.2.2.2.2.2.2.2.2.1, r6.2.2.2.2.2.2.2.2.2.2.2.2.2.2.2.2.2.2.2.2.2.1, r6.2.2.2.2.2.2.2.2.2.2.2.2.2.2.2.2.2.2.2.2.2.2.1, r6.2.2.2.2.2.2.2.2.2.2.2.2.2.2.2.2.2.2.2.2.2.2.2.1, r6.2.2.2.2.2.2.2.2.2.2.2.2.2.2.2.2.2.2.2.2.2.2.2.2.1, r6.2.2.2.2.2.2.2.2.2.2.2.2.2.2.2.2.2.2.2.2.2.2.2.2.2.1, r6.2.2.2.2.2.2.2.2.2.2.2.2.2.2.2.2.2.2.2.2.2.2.2.2.2.2.1, r6.2.2.2.2.2.2.2.2.2.2.2.2.2.2.2.2.2.2.2.2.2.2.2.2.2.2.2, 0)) N (([] : List (List UInt8)), 0)))))))
def jC (N : Nat) (a2 b : List Int) (kk : Int → Option Bool) : Nat → Int → Option Bool
 | 0, _ => none
 | fuel + 1, i =>
  cond (decide (i < (a2.length : Int))) (
  Option.bind (idx a2 i) fun e3 =>
  Option.bind (idx b i) fun e4 =>
  cond (!decide (e3 = e4)) (
  some false) (
  Option.bind (some (IntKind.i64.wrap (i + 1))) fun i3 =>
  jC N a2 b kk fuel i3)) (
  kk i)
def kC (N : Nat) (a2 b : List Int) : Option Bool :=
 cond (!decide ((a2.length : Int) = (b.length : Int))) (
 some false) (
 jC N a2 b (fun i4 =>
 some true) N 0)
def iU (N : Nat) (dg og : List (Int × Int)) (kk : Int → Option Bool) : Nat → Int → Option Bool
 | 0, _ => none
 | fuel + 1, i3 =>
  cond (decide (i3 < (dg.length : Int))) (
  Option.bind (idx dg i3) fun e7 =>
  Option.bind (idx og i3) fun e8 =>
  cond (!(decide (e7.1 = e8.1) && decide (e7.2 = e8.2))) (
  some false) (
  Option.bind (some (IntKind.i64.wrap (i3 + 1))) fun x5 =>
  iU N dg og kk fuel x5)) (
  kk i3)
def iV (N : Nat) (dd od : List (Int × Int)) (kk : Int → Option Bool) : Nat → Int → Option Bool
 | 0, _ => none
 | fuel + 1, i =>
  cond (decide (i < (dd.length : Int))) (
  Option.bind (idx dd i) fun e3 =>
  Option.bind (idx od i) fun e4 =>
  cond (!(decide (e3.1 = e4.1) && decide (e3.2 = e4.2))) (
  some false) (
  Option.bind (some (IntKind.i64.wrap (i + 1))) fun x3 =>
  iV N dd od kk fuel x3)) (
  kk i)
def k6 (N : Nat) (da G6 G7 G8 G9 dc : Int) (dd : List (Int × Int)) (G3 G4 G5 JH JI df2 JJ JK JL JM JN JO : Int) (dg : List (Int × Int)) (dh oa QG Ir Pu QH oc : Int) (od : List (Int × Int)) (QI QJ QK QL QM QN QO QP QQ QR QS QT : Int) (og : List (Int × Int)) (oh : Int) : Option Bool :=
 cond (!decide (da = oa)) (
 some false) (
 cond (!(decide ([G6, G7, G8, G9] = [QG, Ir, Pu, QH]))) (
 some false) (
 cond (!decide (dc = oc)) (
 some false) (
 cond (!(decide ([G3, G4, G5] = [QI, QJ, QK]))) (
 some false) (
 cond (!(decide ([JH, JI, df2, JJ, JK, JL, JM, JN, JO] = [QL, QM, QN, QO, QP, QQ, QR, QS, QT]))) (
 some false) (
 cond (!decide (dh = oh)) (
 some false) (
 cond (!decide ((dd.length : Int) = (od.length : Int))) (
 some false) (
 cond (!decide ((dg.length : Int) = (og.length : Int))) (
 some false) (
 iV N dd od (fun i2 =>
 iU N dg og (fun i4 =>
 some true) N 0) N 0))))))))
def jD (N : Nat) (dB pT : List (List UInt8)) (kk : Int → Option Bool) : Nat → Int → Option Bool
 | 0, _ => none
 | fuel + 1, i =>
  cond (decide (i < (dB.length : Int))) (
  Option.bind (idx dB i) fun e3 =>
  Option.bind (idx pT i) fun e4 =>
  cond (!decide (e3 = e4)) (
  some false) (
  Option.bind (some (IntKind.i64.wrap (i + 1))) fun x3 =>
  jD N dB pT kk fuel x3)) (
  kk i)
def jE (N : Nat) (jP lN d7 eY eI : Int) (eO : List Int) (dB : List (List UInt8)) (cN cD cE cG cH cO : Int) (bJ : List (Int × Int)) (cJ cK cL bL bM bN bO bP bQ bR bS bT : Int) (bK : List (Int × Int)) (bY AM DY AR CT CU : Int) (BJ : List Int) (pT : List (List UInt8)) (sR rB rC rD rE sS : Int) (oR : List (Int × Int)) (rF rG rH pU pV pW pX pY pZ p5 p6 p7 : Int) (oS : List (Int × Int)) (rI : Int) : Option Bool :=
 cond (!decide (jP = AM)) (
 some false) (
 cond (!decide (lN = DY)) (
 some false) (
 cond (!decide (d7 = AR)) (
 some false) (
 cond (!decide (eY = CT)) (
 some false) (
 cond (!decide (eI = CU)) (
 some false) (
 Option.bind (kC N eO BJ) fun r2 =>
 cond (!(r2)) (
 some false) (
 cond (!decide ((dB.length : Int) = (pT.length : Int))) (
 some false) (
 Option.bind (k6 N cN cD cE cG cH cO bJ cJ cK cL bL bM bN bO bP bQ bR bS bT bK bY sR rB rC rD rE sS oR rF rG rH pU pV pW pX pY pZ p5 p6 p7 oS rI) fun r3 =>
 cond (!(r3)) (
 some false) (
 jD N dB pT (fun i2 =>
 some true) N 0))))))))
def mE (N : Nat) (l2 : List (Int × Int)) (x2 : Int) (kk : Int → Option Int) : Nat → Int → Option Int
 | 0, _ => none
 | fuel + 1, i =>
  Option.bind (idx l2 i) fun e2 =>
  cond (decide (e2.1 < x2)) (
  Option.bind (some (IntKind.i64.wrap (i + 1))) fun i3 =>
  mE N l2 x2 kk fuel i3) (
  kk i)
def nO (N : Nat) (l2 : List (Int × Int)) (x2 : Int) : Option Int :=
 mE N l2 x2 (fun i4 =>
 Option.bind (idx l2 (IntKind.i64.wrap (i4 - 1))) fun e3 =>
 Option.bind (idx l2 i4) fun e4 =>
 Option.bind (nz (IntKind.i64.wrap (e4.1 - e3.1))) fun _ =>
 Option.bind (some (IntKind.i64.wrap (e3.2 + (IntKind.i64.wrap (Int.tdiv (IntKind.i64.wrap ((IntKind.i64.wrap (e4.2 - e3.2)) * (IntKind.i64.wrap (x2 - e3.1)))) (IntKind.i64.wrap (e4.1 - e3.1))))))) fun x3 =>
 some x3) N 1
def sB (N : Nat)  : Option (List (Int × Int)) :=
 some (([(0, 0), (65535, 65535)] : List (Int × Int)))
def sC (N : Nat)  : Option (Int × Int × Int × Int × Int × Int × List (Int × Int) × Int × Int × Int × Int × Int × Int × Int × Int × Int × Int × Int × Int × List (Int × Int) × Int) :=
 Option.bind (sB N ) fun r2 =>
 some (0, 0, 0, 0, 0, 65535, ([] : List (Int × Int)), 256, 256, 256, 4096, 0, 0, 0, 4096, 0, 0, 0, 4096, r2, 64)
def vJ (N : Nat) (o p2 : Int) (kk : (List Int × Int × Int) → Option (List Int × Int)) : Nat → (List Int × Int × Int) → Option (List Int × Int)
 | 0, _ => none
 | fuel + 1, (l8, i8, i9) =>
  cond (decide (o ≤ i9)) (
  cond (decide ((l8.length : Int) < p2)) (
  Option.bind (some (IntKind.i64.wrap (i9 - o))) fun DK =>
  Option.bind (nn DK) fun _ =>
  Option.bind (app 8 l8 ([j0 .i64 i8 DK] : List Int)) fun l10 =>
  Option.bind (nn DK) fun _ =>
  Option.bind (some (GP .i64 i8 (IntKind.i64.wrap ((qF .i64 1 DK) - 1)))) fun Gf =>
  vJ N o p2 kk fuel (l10, Gf, DK)) (
  kk (l8, i8, i9))) (
  kk (l8, i8, i9))
def vK (N : Nat) (d : List UInt8) (o p2 : Int) (kk : (List Int × Int × Int × Int) → Option (List Int × Int)) : Nat → (List Int × Int × Int × Int) → Option (List Int × Int)
 | 0, _ => none
 | fuel + 1, (l5, i3, i4, i5) =>
  cond (decide (i5 < (d.length : Int))) (
  Option.bind (idx d i5) fun b3 =>
  Option.bind (some (LP .i64 (qF .i64 i3 8) (IntKind.i64.wrap (b3.toNat : Int)))) fun Il =>
  Option.bind (some (IntKind.i64.wrap (i4 + 8))) fun GY =>
  vJ N o p2 (fun (PQ, EC, i11) =>
  vK N d o p2 kk fuel (PQ, EC, i11, IntKind.i64.wrap (i5 + 1))) N (l5, Il, GY)) (
  kk (l5, i3, i4, i5))
def zV (N : Nat) (d : List UInt8) (o p2 : Int) : Option (List Int × Int) :=
 Option.bind (q9 N o) fun r2 =>
 cond (!(r2)) (
 some (([] : List Int), 3)) (
 cond (decide (p2 < 0)) (
 some (([] : List Int), 3)) (
 cond (decide (4096 < p2)) (
 some (([] : List Int), 2)) (
 cond (!decide ((d.length : Int) = (IntKind.i64.wrap (Int.tdiv (IntKind.i64.wrap ((IntKind.i64.wrap (p2 * o)) + 7)) 8)))) (
 some (([] : List Int), 1)) (
 vK N d o p2 (fun (PR, i12, Pv, UZ) =>
 cond (!decide (i12 = 0)) (
 some (([] : List Int), 1)) (
 some (PR, 0))) N (([] : List Int), 0, 0, 0)))))
def uK (N : Nat) (e2 : List UInt8) (kk : (List (List UInt8 × Int) × Int) → Option (List Int × List UInt8 × Int)) : Nat → (List (List UInt8 × Int) × Int) → Option (List Int × List UInt8 × Int)
 | 0, _ => none
 | fuel + 1, (m5, i3) =>
  cond (decide (i3 < (e2.length : Int))) (
  Option.bind (DQ e2 0 i3) fun s5 =>
  Option.bind (Ig m5 s5) fun q3 =>
  cond (!(q3.2)) (
  Option.bind (DQ e2 0 i3) fun s6 =>
  Option.bind (Nc m5 s6 (-1)) fun m7 =>
  uK N e2 kk fuel (m7, IntKind.i64.wrap (i3 + 1))) (
  uK N e2 kk fuel (m5, IntKind.i64.wrap (i3 + 1)))) (
  kk (m5, i3))
def uL (N : Nat) (m10 : List (List UInt8 × Int)) (o2 : List UInt8) (kk : (Int × Int) → Option (List Int × List UInt8 × Int)) : Nat → (Int × Int) → Option (List Int × List UInt8 × Int)
 | 0, _ => none
 | fuel + 1, (EC, i11) =>
  cond (decide (i11 < 0)) (
  Option.bind (DQ o2 0 EC) fun s12 =>
  Option.bind (Ig m10 s12) fun q7 =>
  cond (!(q7.2)) (
  some (([] : List Int), ([] : List UInt8), 4)) (
  cond (decide (0 ≤ q7.1)) (
  uL N m10 o2 kk fuel (EC, q7.1)) (
  cond (decide (EC = (o2.length : Int))) (
  some (([] : List Int), ([] : List UInt8), 5)) (
  Option.bind (some (IntKind.i64.wrap (EC + 1))) fun x5 =>
  uL N m10 o2 kk fuel (x5, i11))))) (
  kk (EC, i11))
def yH (N : Nat) (p2 : Int) (m10 : List (List UInt8 × Int)) (kk : (List Int × List UInt8) → Option (List Int × List UInt8 × Int)) : Nat → (List Int × List UInt8) → Option (List Int × List UInt8 × Int)
 | 0, _ => none
 | fuel + 1, (l3, o2) =>
  cond (decide ((l3.length : Int) < p2)) (
  uL N m10 o2 (fun (i12, Pv) =>
  Option.bind (app 8 l3 ([Pv] : List Int)) fun l5 =>
  Option.bind (DQ o2 i12 (o2.length : Int)) fun s13 =>
  yH N p2 m10 kk fuel (l5, s13)) N (0, (-1))) (
  kk (l3, o2))
def uM (N : Nat) (r2 : List (List UInt8) × Int) (kk : (List (List UInt8 × Int) × Int) → Option (List Int × List UInt8 × Int)) : Nat → (List (List UInt8 × Int) × Int) → Option (List Int × List UInt8 × Int)
 | 0, _ => none
 | fuel + 1, (m, i) =>
  cond (decide (i < (r2.1.length : Int))) (
  Option.bind (idx r2.1 i) fun e2 =>
  uK N e2 (fun (m8, i4) =>
  cond (!decide (e2 = ([] : List UInt8))) (
  Option.bind (Nc m8 e2 i) fun m9 =>
  uM N r2 kk fuel (m9, IntKind.i64.wrap (i + 1))) (
  uM N r2 kk fuel (m8, IntKind.i64.wrap (i + 1)))) N (m, 0)) (
  kk (m, i))
def BL (N : Nat) (d : List Int) (o : List UInt8) (p2 : Int) : Option (List Int × List UInt8 × Int) :=
 Option.bind (oQ N d) fun r2 =>
 cond (!decide (r2.2 = 0)) (
 some (([] : List Int), ([] : List UInt8), r2.2)) (
 cond (decide (p2 < 0)) (
 some (([] : List Int), ([] : List UInt8), 3)) (
 cond (decide (4096 < p2)) (
 some (([] : List Int), ([] : List UInt8), 3)) (
 Option.bind (qJ N o) fun r3 =>
 cond (!decide (r3.2 = 0)) (
 some (([] : List Int), ([] : List UInt8), 1)) (
 uM N r2 (fun (m10, i5) =>
 yH N p2 m10 (fun (l6, o3) =>
 some (l6, o3, 0)) N (([] : List Int), o)) N (([] : List (List UInt8 × Int)), 0)))))
def yI (N : Nat) (s : List UInt8) (kk : (List UInt8 × Int) → Option (List UInt8)) : Nat → (List UInt8 × Int) → Option (List UInt8)
 | 0, _ => none
 | fuel + 1, (l2, i) =>
  cond (decide (i < (s.length : Int))) (
  Option.bind (idx s i) fun b3 =>
  Option.bind (rA N (IntKind.i64.wrap (b3.toNat : Int)) 8) fun r3 =>
  Option.bind (J3 l2 r3) fun b4 =>
  Option.bind (some (IntKind.i64.wrap (i + 1))) fun i3 =>
  yI N s kk fuel (b4, i3)) (
  kk (l2, i))
def zJ (N : Nat) (s : List UInt8) : Option (List UInt8) :=
 yI N s (fun (l3, i4) =>
 some l3) N (([] : List UInt8), 0)
def wY (N : Nat) (b : List UInt8) (kk : (Int × Int) → Option (Int × Int)) : Nat → (Int × Int) → Option (Int × Int)
 | 0, _ => none
 | fuel + 1, (n, i) =>
  cond (decide (i < (b.length : Int))) (
  Option.bind (idx b i) fun b3 =>
  Option.bind (some (IntKind.i64.wrap ((qF .i64 n 1) + (IntKind.i64.wrap (GP .u8 (b3.toNat : Int) 1))))) fun n3 =>
  wY N b kk fuel (n3, IntKind.i64.wrap (i + 1))) (
  kk (n, i))
def AS (N : Nat) (b : List UInt8) : Option (Int × Int) :=
 Option.bind (vH N b) fun r2 =>
 cond (!(r2)) (
 some (0, 1)) (
 cond (decide (16 < (b.length : Int))) (
 some (0, 3)) (
 wY N b (fun (n4, i2) =>
 some (n4, 0)) N (0, 0)))
def yJ (N : Nat)  (kk : (List UInt8 × List UInt8) → Option (Int × Int × List Int × Int)) : Nat → (List UInt8 × List UInt8) → Option (Int × Int × List Int × Int)
 | 0, _ => none
 | fuel + 1, (DK, Gf) =>
  cond (decide ((DK.length : Int) < 1)) (
  cond (!decide (Gf = ([] : List UInt8))) (
  Option.bind (DQ Gf 0 1) fun ZT =>
  Option.bind (zJ N ZT) fun Dg =>
  Option.bind (G0 DK Dg) fun YC =>
  Option.bind (DQ Gf 1 (Gf.length : Int)) fun YD =>
  yJ N  kk fuel (YC, YD)) (
  kk (DK, Gf))) (
  kk (DK, Gf))
def yK (N : Nat) (i6 : Int) (kk : (List UInt8 × List UInt8) → Option (Int × Int × List Int × Int)) : Nat → (List UInt8 × List UInt8) → Option (Int × Int × List Int × Int)
 | 0, _ => none
 | fuel + 1, (LS, x23) =>
  cond (decide ((LS.length : Int) < i6)) (
  cond (!decide (x23 = ([] : List UInt8))) (
  Option.bind (DQ x23 0 1) fun ZU =>
  Option.bind (zJ N ZU) fun BC =>
  Option.bind (G0 LS BC) fun YE =>
  Option.bind (DQ x23 1 (x23.length : Int)) fun YF =>
  yK N i6 kk fuel (YE, YF)) (
  kk (LS, x23))) (
  kk (LS, x23))
def yL (N : Nat) (p4 : List Int) (kk : (List UInt8 × List UInt8 × Int × Int × List UInt8) → Option (Int × Int × List Int × Int)) : Nat → (List UInt8 × List UInt8 × Int × Int × List UInt8) → Option (Int × Int × List Int × Int)
 | 0, _ => none
 | fuel + 1, (Il, GY, i4, i5, w3) =>
  Option.bind (BL N p4 w3 1) fun yZ =>
  cond (decide (yZ.2.2 = 0)) (
  Option.bind (idx yZ.1 0) fun e7 =>
  kk (Il, GY, e7, yZ.2.2, w3)) (
  yJ N  (fun (x18, Im) =>
  cond (decide ((x18.length : Int) < 1)) (
  cond (!decide (yZ.2.2 = 5)) (
  kk (x18, Im, 0, 1, w3)) (
  kk (x18, Im, 0, 1, w3))) (
  Option.bind (DQ x18 0 1) fun s24 =>
  Option.bind (DQ x18 1 (x18.length : Int)) fun U3 =>
  cond (!decide (yZ.2.2 = 5)) (
  kk (U3, Im, 0, 1, w3)) (
  Option.bind (G0 w3 s24) fun YG =>
  yL N p4 kk fuel (U3, Im, i4, i5, YG)))) N (Il, GY))
def p8 (N : Nat) (o p2 p3 : Int) (p4 : List Int) (kk : (List Int × List UInt8 × List UInt8 × Int) → Option (Int × Int × List Int × Int)) : Nat → (List Int × List UInt8 × List UInt8 × Int) → Option (Int × Int × List Int × Int)
 | 0, _ => none
 | fuel + 1, (Hb, x3, x4, i) =>
  cond (decide (i < (IntKind.i64.wrap (o * p2)))) (
  Option.bind (app 8 Hb ([0] : List Int)) fun wE =>
  yL N p4 (fun (x20, x21, i6, i7, w4) =>
  cond (!decide (i7 = 0)) (
  some (0, 0, ([] : List Int), 1)) (
  cond (decide (i6 = 16)) (
  Option.bind (nN N o p2 wE p3 i) fun r16 =>
  Option.bind (idx wE i) fun e8 =>
  Option.bind (xC wE i (IntKind.i64.wrap (IntKind.u16.wrap (IntKind.i64.wrap (r16 + 32768))))) fun l6 =>
  p8 N o p2 p3 p4 kk fuel (l6, x20, x21, IntKind.i64.wrap (i + 1))) (
  cond (decide (0 < i6)) (
  yK N i6 (fun (x24, x25) =>
  cond (decide ((x24.length : Int) < i6)) (
  some (0, 0, ([] : List Int), 1)) (
  Option.bind (DQ x24 0 i6) fun YH =>
  Option.bind (DQ x24 i6 (x24.length : Int)) fun U4 =>
  Option.bind (AS N YH) fun Cj =>
  Option.bind (idx YH 0) fun b2 =>
  cond (decide ((b2.toNat : Int) = 48)) (
  Option.bind (nn i6) fun _ =>
  Option.bind (some (IntKind.i64.wrap (Cj.1 - (IntKind.i64.wrap ((qF .i64 1 i6) - 1))))) fun QE =>
  Option.bind (nN N o p2 wE p3 i) fun BI =>
  Option.bind (idx wE i) fun e9 =>
  Option.bind (xC wE i (IntKind.i64.wrap (IntKind.u16.wrap (IntKind.i64.wrap (BI + QE))))) fun l7 =>
  p8 N o p2 p3 p4 kk fuel (l7, U4, x25, IntKind.i64.wrap (i + 1))) (
  Option.bind (nN N o p2 wE p3 i) fun DL =>
  Option.bind (idx wE i) fun e10 =>
  Option.bind (xC wE i (IntKind.i64.wrap (IntKind.u16.wrap (IntKind.i64.wrap (DL + Cj.1))))) fun l8 =>
  p8 N o p2 p3 p4 kk fuel (l8, U4, x25, IntKind.i64.wrap (i + 1))))) N (x20, x21)) (
  Option.bind (nN N o p2 wE p3 i) fun Dh =>
  Option.bind (idx wE i) fun e11 =>
  Option.bind (xC wE i (IntKind.i64.wrap (IntKind.u16.wrap (IntKind.i64.wrap (Dh + 0))))) fun l9 =>
  p8 N o p2 p3 p4 kk fuel (l9, x20, x21, IntKind.i64.wrap (i + 1)))))) N (x3, x4, 0, 0, ([] : List UInt8))) (
  kk (Hb, x3, x4, i))
def BM (N : Nat) (d : List UInt8) (o p2 p3 : Int) (p4 : List Int) : Option (Int × Int × List Int × Int) :=
 cond (decide (o < 1)) (
 some (0, 0, ([] : List Int), 3)) (
 cond (decide (64 < o)) (
 some (0, 0, ([] : List Int), 3)) (
 cond (decide (p2 < 1)) (
 some (0, 0, ([] : List Int), 3)) (
 cond (decide (64 < p2)) (
 some (0, 0, ([] : List Int), 3)) (
 cond (decide (p3 < 1)) (
 some (0, 0, ([] : List Int), 6)) (
 cond (decide (7 < p3)) (
 some (0, 0, ([] : List Int), 6)) (
 Option.bind (qI N p4) fun r2 =>
 cond (!decide (r2 = 0)) (
 some (0, 0, ([] : List Int), r2)) (
 p8 N o p2 p3 p4 (fun (J7, x27, x28, i8) =>
 cond (!decide (x28 = ([] : List UInt8))) (
 some (0, 0, ([] : List Int), 1)) (
 Option.bind (tK N x27 ([49] : List UInt8)) fun EX =>
 cond (EX) (
 some (0, 0, ([] : List Int), 1)) (
 some (o, p2, J7, 0)))) N (([] : List Int), ([] : List UInt8), d, 0))))))))
def zW (N : Nat) (pO mV dG eC dJ : Int) (dR : List Int) (cV : List (List UInt8)) (bW bB bC bD bE bX : Int) (aQ : List (Int × Int)) (bF bG bH aT aU aV aW aX aY aZ a7 a8 : Int) (aR : List (Int × Int)) (bI : Int) (s : List UInt8) (rows : Int) : Option (List Int × Int) :=
 cond (decide (eC = 0)) (
 Option.bind (zV N s dG (IntKind.i64.wrap (pO * rows))) fun r2 =>
 some (r2.1, r2.2)) (
 Option.bind (BM N s pO rows eC dR) fun r3 =>
 cond (decide (r3.2.2.2 = 0)) (
 Option.bind (kU N r3.2.2.1) fun r4 =>
 Option.bind (nn dG) fun _ =>
 cond (decide (0 < (j0 .i64 r4 dG))) (
 some (r3.2.2.1, 1)) (
 some (r3.2.2.1, r3.2.2.2))) (
 some (r3.2.2.1, r3.2.2.2)))
def yM (N : Nat) (jP lN d7 eY eI : Int) (eO : List Int) (dB : List (List UInt8)) (cN cD cE cG cH cO : Int) (bJ : List (Int × Int)) (cJ cK cL bL bM bN bO bP bQ bR bS bT : Int) (bK : List (Int × Int)) (bY : Int) (r3 : List (Int × Int)) (kk : (List Int × Int) → Option (Int × Int × List Int × Int)) : Nat → (List Int × Int) → Option (Int × Int × List Int × Int)
 | 0, _ => none
 | fuel + 1, (Hb, i) =>
  cond (decide (i < (dB.length : Int))) (
  Option.bind (idx dB i) fun e3 =>
  Option.bind (idx r3 i) fun e4 =>
  Option.bind (zW N jP lN d7 eY eI eO dB cN cD cE cG cH cO bJ cJ cK cL bL bM bN bO bP bQ bR bS bT bK bY e3 e4.2) fun r6 =>
  cond (!decide (r6.2 = 0)) (
  some (0, 0, ([] : List Int), 1)) (
  Option.bind (app 8 Hb r6.1) fun wE =>
  yM N jP lN d7 eY eI eO dB cN cD cE cG cH cO bJ cJ cK cL bL bM bN bO bP bQ bR bS bT bK bY r3 kk fuel (wE, IntKind.i64.wrap (i + 1)))) (
  kk (Hb, i))
def zK (N : Nat) (jP lN d7 eY eI : Int) (eO : List Int) (dB : List (List UInt8)) (cN cD cE cG cH cO : Int) (bJ : List (Int × Int)) (cJ cK cL bL bM bN bO bP bQ bR bS bT : Int) (bK : List (Int × Int)) (bY : Int) : Option (Int × Int × List Int × Int) :=
 Option.bind (vF N jP lN d7 eY eI eO dB cN cD cE cG cH cO bJ cJ cK cL bL bM bN bO bP bQ bR bS bT bK bY) fun r2 =>
 cond (!decide (r2 = 0)) (
 some (0, 0, ([] : List Int), r2)) (
 Option.bind (uI N jP lN d7 eY eI eO dB cN cD cE cG cH cO bJ cJ cK cL bL bM bN bO bP bQ bR bS bT bK bY) fun r3 =>
 cond (!decide ((dB.length : Int) = (r3.length : Int))) (
 some (0, 0, ([] : List Int), 2)) (
 Option.bind (vG N jP lN d7 eY eI eO dB cN cD cE cG cH cO bJ cJ cK cL bL bM bN bO bP bQ bR bS bT bK bY) fun r4 =>
 cond (!decide (r4 = 0)) (
 some (0, 0, ([] : List Int), r4)) (
 yM N jP lN d7 eY eI eO dB cN cD cE cG cH cO bJ cJ cK cL bL bM bN bO bP bQ bR bS bT bK bY r3 (fun (J7, i2) =>
 some (jP, lN, J7, 0)) N (([] : List Int), 0))))
def tL (N : Nat)  : Option (List Int) :=
 some (([2, 3, 3, 4, 4, 4, 5, 5, 5, 6, 6, 6, 7, 7, 7, 8, 8] : List Int))
def oT (N : Nat)  : Option (Int × Int × List Int) :=
 some (2, 2, ([10, 65535, 0, 7] : List Int))
def kS (N : Nat)  : Option (Int × Int × Int × Int × Int × List Int × List (List UInt8) × Int × Int × Int × Int × Int × Int × List (Int × Int) × Int × Int × Int × Int × Int × Int × Int × Int × Int × Int × Int × Int × List (Int × Int) × Int) :=
 Option.bind (tL N ) fun r2 =>
 Option.bind (sC N ) fun r3 =>
 Option.bind (oT N ) fun r4 =>
 Option.bind (vI N 2 2 16 7 1 r2 (([] : List (List UInt8))) r3.1 r3.2.1 r3.2.2.1 r3.2.2.2.1 r3.2.2.2.2.1 r3.2.2.2.2.2.1 r3.2.2.2.2.2.2.1 r3.2.2.2.2.2.2.2.1 r3.2.2.2.2.2.2.2.2.1 r3.2.2.2.2.2.2.2.2.2.1 r3.2.2.2.2.2.2.2.2.2.2.1 r3.2.2.2.2.2.2.2.2.2.2.2.1 r3.2.2.2.2.2.2.2.2.2.2.2.2.1 r3.2.2.2.2.2.2.2.2.2.2.2.2.2.1 r3.2.2.2.2.2.2.2.2.2.2.2.2.2.2.1 r3.2.2.2.2.2.2.2.2.2.2.2.2.2.2.2.1 r3.2.2.2.2.2.2.2.2.2.2.2.2.2.2.2.2.1 r3.2.2.2.2.2.2.2.2.2.2.2.2.2.2.2.2.2.1 r3.2.2.2.2.2.2.2.2.2.2.2.2.2.2.2.2.2.2.1 r3.2.2.2.2.2.2.2.2.2.2.2.2.2.2.2.2.2.2.2.1 r3.2.2.2.2.2.2.2.2.2.2.2.2.2.2.2.2.2.2.2.2 r4.1 r4.2.1 r4.2.2) fun r5 =>
 some (r5.1, r5.2.1, r5.2.2.1, r5.2.2.2.1, r5.2.2.2.2.1, r5.2.2.2.2.2.1, r5.2.2.2.2.2.2.1, r5.2.2.2.2.2.2.2.1, r5.2.2.2.2.2.2.2.2.1, r5.2.2.2.2.2.2.2.2.2.1, r5.2.2.2.2.2.2.2.2.2.2.1, r5.2.2.2.2.2.2.2.2.2.2.2.1, r5.2.2.2.2.2.2.2.2.2.2.2.2.1, r5.2.2.2.2.2.2.2.2.2.2.2.2.2.1, r5.2.2.2.2.2.2.2.2.2.2.2.2.2.2.1, r5.2.2.2.2.2.2.2.2.2.2.2.2.2.2.2.1, r5.2.2.2.2.2.2.2.2.2.2.2.2.2.2.2.2.1, r5.2.2.2.2.2.2.2.2.2.2.2.2.2.2.2.2.2.1, r5.2.2.2.2.2.2.2.2.2.2.2.2.2.2.2.2.2.2.1, r5.2.2.2.2.2.2.2.2.2.2.2.2.2.2.2.2.2.2.2.1, r5.2.2.2.2.2.2.2.2.2.2.2.2.2.2.2.2.2.2.2.2.1, r5.2.2.2.2.2.2.2.2.2.2.2.2.2.2.2.2.2.2.2.2.2.1, r5.2.2.2.2.2.2.2.2.2.2.2.2.2.2.2.2.2.2.2.2.2.2.1, r5.2.2.2.2.2.2.2.2.2.2.2.2.2.2.2.2.2.2.2.2.2.2.2.1, r5.2.2.2.2.2.2.2.2.2.2.2.2.2.2.2.2.2.2.2.2.2.2.2.2.1, r5.2.2.2.2.2.2.2.2.2.2.2.2.2.2.2.2.2.2.2.2.2.2.2.2.2.1, r5.2.2.2.2.2.2.2.2.2.2.2.2.2.2.2.2.2.2.2.2.2.2.2.2.2.2.1, r5.2.2.2.2.2.2.2.2.2.2.2.2.2.2.2.2.2.2.2.2.2.2.2.2.2.2.2.1)
def wF (N : Nat) (pO mV dG eC dJ : Int) (dR : List Int) (cV : List (List UInt8)) (bW bB bC bD bE bX : Int) (aQ : List (Int × Int)) (bF bG bH aT aU aV aW aX aY aZ a7 a8 : Int) (aR : List (Int × Int)) (bI : Int) : Option Int :=
 Option.bind (zK N pO mV dG eC dJ dR cV bW bB bC bD bE bX aQ bF bG bH aT aU aV aW aX aY aZ a7 a8 aR bI) fun r2 =>
 some r2.2.2.2
def sD (N : Nat) (e2 : Int) (kk : (List Int × Int) → Option (List Int)) : Nat → (List Int × Int) → Option (List Int)
 | 0, _ => none
 | fuel + 1, (tY, i5) =>
  cond (decide (0 ≤ i5)) (
  Option.bind (nn (IntKind.i64.wrap (8 * i5))) fun _ =>
  Option.bind (app 1 tY (([IntKind.u8.wrap (j0 .i64 e2 (IntKind.i64.wrap (8 * i5)))] : List Int))) fun Fu =>
  Option.bind (some (IntKind.i64.wrap (i5 - 1))) fun i8 =>
  sD N e2 kk fuel (Fu, i8)) (
  kk (tY, i5))
def sE (N : Nat) (l2 : List Int) (kk : (List Int × Int) → Option (List Int)) : Nat → (List Int × Int) → Option (List Int)
 | 0, _ => none
 | fuel + 1, (An, i) =>
  cond (decide (i < (l2.length : Int))) (
  Option.bind (idx l2 i) fun e2 =>
  sD N e2 (fun (Gz, EC) =>
  sE N l2 kk fuel (Gz, IntKind.i64.wrap (i + 1))) N (An, 3)) (
  kk (An, i))
def fX (N : Nat) (JP l2 : List Int) : Option (List Int) :=
 sE N l2 (fun (Is, i11) =>
 some Is) N (JP, 0)
def uN (N : Nat) (JP : List Int) (s : List UInt8) : Option (List Int) :=
 Option.bind (fX N JP (([(s.length : Int)] : List Int))) fun r2 =>
 Option.bind (app 1 r2 (pN s)) fun An =>
 some An
def yN (N : Nat) (bK : List (Int × Int)) (kk : (List Int × Int) → Option (List UInt8 × Int)) : Nat → (List Int × Int) → Option (List UInt8 × Int)
 | 0, _ => none
 | fuel + 1, (It, i5) =>
  cond (decide (i5 < (bK.length : Int))) (
  Option.bind (idx bK i5) fun e6 =>
  Option.bind (fX N It ([e6.1, e6.2] : List Int)) fun BC =>
  yN N bK kk fuel (BC, IntKind.i64.wrap (i5 + 1))) (
  kk (It, i5))
def yO (N : Nat) (bJ : List (Int × Int)) (kk : (List Int × Int) → Option (List UInt8 × Int)) : Nat → (List Int × Int) → Option (List UInt8 × Int)
 | 0, _ => none
 | fuel + 1, (Iu, i3) =>
  cond (decide (i3 < (bJ.length : Int))) (
  Option.bind (idx bJ i3) fun e4 =>
  Option.bind (fX N Iu ([e4.1, e4.2] : List Int)) fun yZ =>
  yO N bJ kk fuel (yZ, IntKind.i64.wrap (i3 + 1))) (
  kk (Iu, i3))
def yP (N : Nat) (dB : List (List UInt8)) (kk : (List Int × Int) → Option (List UInt8 × Int)) : Nat → (List Int × Int) → Option (List UInt8 × Int)
 | 0, _ => none
 | fuel + 1, (QU, i) =>
  cond (decide (i < (dB.length : Int))) (
  Option.bind (idx dB i) fun e2 =>
  Option.bind (uN N QU e2) fun r8 =>
  yP N dB kk fuel (r8, IntKind.i64.wrap (i + 1))) (
  kk (QU, i))
def BN (N : Nat) (jP lN d7 eY eI : Int) (eO : List Int) (dB : List (List UInt8)) (cN cD cE cG cH cO : Int) (bJ : List (Int × Int)) (cJ cK cL bL bM bN bO bP bQ bR bS bT : Int) (bK : List (Int × Int)) (bY : Int) : Option (List UInt8 × Int) :=
 Option.bind (wF N jP lN d7 eY eI eO dB cN cD cE cG cH cO bJ cJ cK cL bL bM bN bO bP bQ bR bS bT bK bY) fun r2 =>
 cond (!decide (r2 = 0)) (
 some (([] : List UInt8), r2)) (
 Option.bind (uN N ([] : List Int) ([100, 97, 114, 107] : List UInt8)) fun r3 =>
 Option.bind (fX N r3 (([jP, lN, d7, eY, eI, (eO.length : Int)] : List Int))) fun r4 =>
 Option.bind (fX N r4 eO) fun r5 =>
 Option.bind (fX N r5 (([(dB.length : Int)] : List Int))) fun r6 =>
 yP N dB (fun (U5, i2) =>
 Option.bind (fX N U5 ([cN] : List Int)) fun r9 =>
 Option.bind (fX N r9 ([cD, cE, cG, cH])) fun LU =>
 Option.bind (fX N LU (([cO, (bJ.length : Int)] : List Int))) fun Df =>
 yO N bJ (fun (U6, i4) =>
 Option.bind (fX N U6 ([cJ, cK, cL])) fun Ip =>
 Option.bind (fX N Ip ([bL, bM, bN, bO, bP, bQ, bR, bS, bT])) fun Dg =>
 Option.bind (fX N Dg (([(bK.length : Int)] : List Int))) fun r16 =>
 yN N bK (fun (U7, i6) =>
 Option.bind (fX N U7 ([bY] : List Int)) fun Cj =>
 some (toB Cj, 0)) N (r16, 0)) N (Df, 0)) N (r6, 0))
def mP (N : Nat) (H6 : List UInt8) (n : Int) : Option (Option (List UInt8 × List UInt8)) :=
 cond (decide (n < 0)) (
 some none) (
 cond (decide ((H6.length : Int) < n)) (
 some none) (
 Option.bind (DQ H6 0 n) fun s =>
 Option.bind (DQ H6 n (H6.length : Int)) fun s2 =>
 some (some (s, s2))))
def nY (N : Nat) (r2 : List UInt8 × List UInt8) (kk : (Int × Int) → Option (Option (Int × List UInt8))) : Nat → (Int × Int) → Option (Option (Int × List UInt8))
 | 0, _ => none
 | fuel + 1, (n, i) =>
  cond (decide (i < (((pN r2.1).length : Int)))) (
  Option.bind (idx (pN r2.1) i) fun e2 =>
  Option.bind (some (LP .i64 (qF .i64 n 8) (IntKind.i64.wrap e2))) fun n3 =>
  nY N r2 kk fuel (n3, IntKind.i64.wrap (i + 1))) (
  kk (n, i))
def cM (N : Nat) (H6 : List UInt8) : Option (Option (Int × List UInt8)) :=
 Option.bind (mP N H6 4) fun q => AL q (
 some none) fun r2 =>
 nY N r2 (fun (n4, i2) =>
 some (some (IntKind.i64.wrap (IntKind.i32.wrap n4), r2.2))) N (0, 0)
def zX (N : Nat) (NA : Int × List UInt8) (kk : (List (Int × Int) × List UInt8 × Int) → Option (Int × Int × Int × Int × Int × List Int × List (List UInt8) × Int × Int × Int × Int × Int × Int × List (Int × Int) × Int × Int × Int × Int × Int × Int × Int × Int × Int × Int × Int × Int × List (Int × Int) × Int × Int)) : Nat → (List (Int × Int) × List UInt8 × Int) → Option (Int × Int × Int × Int × Int × List Int × List (List UInt8) × Int × Int × Int × Int × Int × Int × List (Int × Int) × Int × Int × Int × Int × Int × Int × Int × Int × Int × Int × Int × Int × List (Int × Int) × Int × Int)
 | 0, _ => none
 | fuel + 1, (l8, GA, i7) =>
  cond (decide (i7 < NA.1)) (
  Option.bind (cM N GA) fun YI => AL YI (
  some (0, 0, 0, 0, 0, ([] : List Int), ([] : List (List UInt8)), 0, 0, 0, 0, 0, 0, ([] : List (Int × Int)), 0, 0, 0, 0, 0, 0, 0, 0, 0, 0, 0, 0, ([] : List (Int × Int)), 0, 1)) fun Hc =>
  Option.bind (cM N Hc.2) fun YJ => AL YJ (
  some (0, 0, 0, 0, 0, ([] : List Int), ([] : List (List UInt8)), 0, 0, 0, 0, 0, 0, ([] : List (Int × Int)), 0, 0, 0, 0, 0, 0, 0, 0, 0, 0, 0, 0, ([] : List (Int × Int)), 0, 1)) fun Pw =>
  Option.bind (app 16 l8 (([(Hc.1, Pw.1)] : List (Int × Int)))) fun zY =>
  zX N NA kk fuel (zY, Pw.2, IntKind.i64.wrap (i7 + 1))) (
  kk (l8, GA, i7))
def zZ (N : Nat) (EX : Int × List UInt8) (kk : (List (Int × Int) × List UInt8 × Int) → Option (Int × Int × Int × Int × Int × List Int × List (List UInt8) × Int × Int × Int × Int × Int × Int × List (Int × Int) × Int × Int × Int × Int × Int × Int × Int × Int × Int × Int × Int × Int × List (Int × Int) × Int × Int)) : Nat → (List (Int × Int) × List UInt8 × Int) → Option (Int × Int × Int × Int × Int × List Int × List (List UInt8) × Int × Int × Int × Int × Int × Int × List (Int × Int) × Int × Int × Int × Int × Int × Int × Int × Int × Int × Int × Int × Int × List (Int × Int) × Int × Int)
 | 0, _ => none
 | fuel + 1, (l6, LV, i5) =>
  cond (decide (i5 < EX.1)) (
  Option.bind (cM N LV) fun YK => AL YK (
  some (0, 0, 0, 0, 0, ([] : List Int), ([] : List (List UInt8)), 0, 0, 0, 0, 0, 0, ([] : List (Int × Int)), 0, 0, 0, 0, 0, 0, 0, 0, 0, 0, 0, 0, ([] : List (Int × Int)), 0, 1)) fun Fv =>
  Option.bind (cM N Fv.2) fun YL => AL YL (
  some (0, 0, 0, 0, 0, ([] : List Int), ([] : List (List UInt8)), 0, 0, 0, 0, 0, 0, ([] : List (Int × Int)), 0, 0, 0, 0, 0, 0, 0, 0, 0, 0, 0, 0, ([] : List (Int × Int)), 0, 1)) fun NB =>
  Option.bind (app 16 l6 (([(Fv.1, NB.1)] : List (Int × Int)))) fun z6 =>
  zZ N EX kk fuel (z6, NB.2, IntKind.i64.wrap (i5 + 1))) (
  kk (l6, LV, i5))
def z7 (N : Nat) (pS : Int × List UInt8) (kk : (List (List UInt8) × List UInt8 × Int) → Option (Int × Int × Int × Int × Int × List Int × List (List UInt8) × Int × Int × Int × Int × Int × Int × List (Int × Int) × Int × Int × Int × Int × Int × Int × Int × Int × Int × Int × Int × Int × List (Int × Int) × Int × Int)) : Nat → (List (List UInt8) × List UInt8 × Int) → Option (Int × Int × Int × Int × Int × List Int × List (List UInt8) × Int × Int × Int × Int × Int × Int × List (Int × Int) × Int × Int × Int × Int × Int × Int × Int × Int × Int × Int × Int × Int × List (Int × Int) × Int × Int)
 | 0, _ => none
 | fuel + 1, (l4, LW, i3) =>
  cond (decide (i3 < pS.1)) (
  Option.bind (cM N LW) fun YM => AL YM (
  some (0, 0, 0, 0, 0, ([] : List Int), ([] : List (List UInt8)), 0, 0, 0, 0, 0, 0, ([] : List (Int × Int)), 0, 0, 0, 0, 0, 0, 0, 0, 0, 0, 0, 0, ([] : List (Int × Int)), 0, 1)) fun Dg =>
  Option.bind (mP N Dg.2 Dg.1) fun YN => AL YN (
  some (0, 0, 0, 0, 0, ([] : List Int), ([] : List (List UInt8)), 0, 0, 0, 0, 0, 0, ([] : List (Int × Int)), 0, 0, 0, 0, 0, 0, 0, 0, 0, 0, 0, 0, ([] : List (Int × Int)), 0, 1)) fun r16 =>
  Option.bind (app 16 l4 (([r16.1] : List (List UInt8)))) fun D1 =>
  z7 N pS kk fuel (D1, r16.2, IntKind.i64.wrap (i3 + 1))) (
  kk (l4, LW, i3))
def z8 (N : Nat) (r9 : Int × List UInt8) (kk : (List Int × List UInt8 × Int) → Option (Int × Int × Int × Int × Int × List Int × List (List UInt8) × Int × Int × Int × Int × Int × Int × List (Int × Int) × Int × Int × Int × Int × Int × Int × Int × Int × Int × Int × Int × Int × List (Int × Int) × Int × Int)) : Nat → (List Int × List UInt8 × Int) → Option (Int × Int × Int × Int × Int × List Int × List (List UInt8) × Int × Int × Int × Int × Int × Int × List (Int × Int) × Int × Int × Int × Int × Int × Int × Int × Int × Int × Int × Int × Int × List (Int × Int) × Int × Int)
 | 0, _ => none
 | fuel + 1, (l2, LX, i) =>
  cond (decide (i < r9.1)) (
  Option.bind (cM N LX) fun YO => AL YO (
  some (0, 0, 0, 0, 0, ([] : List Int), ([] : List (List UInt8)), 0, 0, 0, 0, 0, 0, ([] : List (Int × Int)), 0, 0, 0, 0, 0, 0, 0, 0, 0, 0, 0, 0, ([] : List (Int × Int)), 0, 1)) fun Df =>
  Option.bind (app 8 l2 ([Df.1] : List Int)) fun Hd =>
  z8 N r9 kk fuel (Hd, Df.2, IntKind.i64.wrap (i + 1))) (
  kk (l2, LX, i))
def CV (N : Nat) (d : List UInt8) : Option (Int × Int × Int × Int × Int × List Int × List (List UInt8) × Int × Int × Int × Int × Int × Int × List (Int × Int) × Int × Int × Int × Int × Int × Int × Int × Int × Int × Int × Int × Int × List (Int × Int) × Int × Int) :=
 Option.bind (cM N d) fun q => AL q (
 some (0, 0, 0, 0, 0, ([] : List Int), ([] : List (List UInt8)), 0, 0, 0, 0, 0, 0, ([] : List (Int × Int)), 0, 0, 0, 0, 0, 0, 0, 0, 0, 0, 0, 0, ([] : List (Int × Int)), 0, 1)) fun r2 =>
 Option.bind (mP N r2.2 r2.1) fun q2 => AL q2 (
 some (0, 0, 0, 0, 0, ([] : List Int), ([] : List (List UInt8)), 0, 0, 0, 0, 0, 0, ([] : List (Int × Int)), 0, 0, 0, 0, 0, 0, 0, 0, 0, 0, 0, 0, ([] : List (Int × Int)), 0, 1)) fun r3 =>
 cond (!decide (r3.1 = ([100, 97, 114, 107] : List UInt8))) (
 some (0, 0, 0, 0, 0, ([] : List Int), ([] : List (List UInt8)), 0, 0, 0, 0, 0, 0, ([] : List (Int × Int)), 0, 0, 0, 0, 0, 0, 0, 0, 0, 0, 0, 0, ([] : List (Int × Int)), 0, 1)) (
 Option.bind (cM N r3.2) fun q3 => AL q3 (
 some (0, 0, 0, 0, 0, ([] : List Int), ([] : List (List UInt8)), 0, 0, 0, 0, 0, 0, ([] : List (Int × Int)), 0, 0, 0, 0, 0, 0, 0, 0, 0, 0, 0, 0, ([] : List (Int × Int)), 0, 1)) fun r4 =>
 Option.bind (cM N r4.2) fun q4 => AL q4 (
 some (0, 0, 0, 0, 0, ([] : List Int), ([] : List (List UInt8)), 0, 0, 0, 0, 0, 0, ([] : List (Int × Int)), 0, 0, 0, 0, 0, 0, 0, 0, 0, 0, 0, 0, ([] : List (Int × Int)), 0, 1)) fun r5 =>
 Option.bind (cM N r5.2) fun q5 => AL q5 (
 some (0, 0, 0, 0, 0, ([] : List Int), ([] : List (List UInt8)), 0, 0, 0, 0, 0, 0, ([] : List (Int × Int)), 0, 0, 0, 0, 0, 0, 0, 0, 0, 0, 0, 0, ([] : List (Int × Int)), 0, 1)) fun r6 =>
 Option.bind (cM N r6.2) fun q6 => AL q6 (
 some (0, 0, 0, 0, 0, ([] : List Int), ([] : List (List UInt8)), 0, 0, 0, 0, 0, 0, ([] : List (Int × Int)), 0, 0, 0, 0, 0, 0, 0, 0, 0, 0, 0, 0, ([] : List (Int × Int)), 0, 1)) fun r7 =>
 Option.bind (cM N r7.2) fun q7 => AL q7 (
 some (0, 0, 0, 0, 0, ([] : List Int), ([] : List (List UInt8)), 0, 0, 0, 0, 0, 0, ([] : List (Int × Int)), 0, 0, 0, 0, 0, 0, 0, 0, 0, 0, 0, 0, ([] : List (Int × Int)), 0, 1)) fun r8 =>
 Option.bind (cM N r8.2) fun q8 => AL q8 (
 some (0, 0, 0, 0, 0, ([] : List Int), ([] : List (List UInt8)), 0, 0, 0, 0, 0, 0, ([] : List (Int × Int)), 0, 0, 0, 0, 0, 0, 0, 0, 0, 0, 0, 0, ([] : List (Int × Int)), 0, 1)) fun r9 =>
 cond (decide (r9.1 < 0)) (
 some (0, 0, 0, 0, 0, ([] : List Int), ([] : List (List UInt8)), 0, 0, 0, 0, 0, 0, ([] : List (Int × Int)), 0, 0, 0, 0, 0, 0, 0, 0, 0, 0, 0, 0, ([] : List (Int × Int)), 0, 1)) (
 cond (decide ((r9.2.length : Int) < r9.1)) (
 some (0, 0, 0, 0, 0, ([] : List Int), ([] : List (List UInt8)), 0, 0, 0, 0, 0, 0, ([] : List (Int × Int)), 0, 0, 0, 0, 0, 0, 0, 0, 0, 0, 0, 0, ([] : List (Int × Int)), 0, 1)) (
 z8 N r9 (fun (l3, U8, i2) =>
 Option.bind (cM N U8) fun YP => AL YP (
 some (0, 0, 0, 0, 0, ([] : List Int), ([] : List (List UInt8)), 0, 0, 0, 0, 0, 0, ([] : List (Int × Int)), 0, 0, 0, 0, 0, 0, 0, 0, 0, 0, 0, 0, ([] : List (Int × Int)), 0, 1)) fun pS =>
 cond (decide (pS.1 < 0)) (
 some (0, 0, 0, 0, 0, ([] : List Int), ([] : List (List UInt8)), 0, 0, 0, 0, 0, 0, ([] : List (Int × Int)), 0, 0, 0, 0, 0, 0, 0, 0, 0, 0, 0, 0, ([] : List (Int × Int)), 0, 1)) (
 cond (decide ((pS.2.length : Int) < pS.1)) (
 some (0, 0, 0, 0, 0, ([] : List Int), ([] : List (List UInt8)), 0, 0, 0, 0, 0, 0, ([] : List (Int × Int)), 0, 0, 0, 0, 0, 0, 0, 0, 0, 0, 0, 0, ([] : List (Int × Int)), 0, 1)) (
 z7 N pS (fun (l5, U9, i4) =>
 Option.bind (cM N U9) fun q16 => AL q16 (
 some (0, 0, 0, 0, 0, ([] : List Int), ([] : List (List UInt8)), 0, 0, 0, 0, 0, 0, ([] : List (Int × Int)), 0, 0, 0, 0, 0, 0, 0, 0, 0, 0, 0, 0, ([] : List (Int × Int)), 0, 1)) fun CC =>
 Option.bind (cM N CC.2) fun YQ => AL YQ (
 some (0, 0, 0, 0, 0, ([] : List Int), ([] : List (List UInt8)), 0, 0, 0, 0, 0, 0, ([] : List (Int × Int)), 0, 0, 0, 0, 0, 0, 0, 0, 0, 0, 0, 0, ([] : List (Int × Int)), 0, 1)) fun BC =>
 Option.bind (cM N BC.2) fun YR => AL YR (
 some (0, 0, 0, 0, 0, ([] : List Int), ([] : List (List UInt8)), 0, 0, 0, 0, 0, 0, ([] : List (Int × Int)), 0, 0, 0, 0, 0, 0, 0, 0, 0, 0, 0, 0, ([] : List (Int × Int)), 0, 1)) fun Cj =>
 Option.bind (cM N Cj.2) fun YS => AL YS (
 some (0, 0, 0, 0, 0, ([] : List Int), ([] : List (List UInt8)), 0, 0, 0, 0, 0, 0, ([] : List (Int × Int)), 0, 0, 0, 0, 0, 0, 0, 0, 0, 0, 0, 0, ([] : List (Int × Int)), 0, 1)) fun BI =>
 Option.bind (cM N BI.2) fun YT => AL YT (
 some (0, 0, 0, 0, 0, ([] : List Int), ([] : List (List UInt8)), 0, 0, 0, 0, 0, 0, ([] : List (Int × Int)), 0, 0, 0, 0, 0, 0, 0, 0, 0, 0, 0, 0, ([] : List (Int × Int)), 0, 1)) fun DL =>
 Option.bind (cM N DL.2) fun YU => AL YU (
 some (0, 0, 0, 0, 0, ([] : List Int), ([] : List (List UInt8)), 0, 0, 0, 0, 0, 0, ([] : List (Int × Int)), 0, 0, 0, 0, 0, 0, 0, 0, 0, 0, 0, 0, ([] : List (Int × Int)), 0, 1)) fun Dh =>
 Option.bind (cM N Dh.2) fun q22 => AL q22 (
 some (0, 0, 0, 0, 0, ([] : List Int), ([] : List (List UInt8)), 0, 0, 0, 0, 0, 0, ([] : List (Int × Int)), 0, 0, 0, 0, 0, 0, 0, 0, 0, 0, 0, 0, ([] : List (Int × Int)), 0, 1)) fun EX =>
 cond (decide (EX.1 < 0)) (
 some (0, 0, 0, 0, 0, ([] : List Int), ([] : List (List UInt8)), 0, 0, 0, 0, 0, 0, ([] : List (Int × Int)), 0, 0, 0, 0, 0, 0, 0, 0, 0, 0, 0, 0, ([] : List (Int × Int)), 0, 1)) (
 cond (decide ((EX.2.length : Int) < EX.1)) (
 some (0, 0, 0, 0, 0, ([] : List Int), ([] : List (List UInt8)), 0, 0, 0, 0, 0, 0, ([] : List (Int × Int)), 0, 0, 0, 0, 0, 0, 0, 0, 0, 0, 0, 0, ([] : List (Int × Int)), 0, 1)) (
 zZ N EX (fun (l7, Va, i6) =>
 Option.bind (cM N Va) fun YV => AL YV (
 some (0, 0, 0, 0, 0, ([] : List Int), ([] : List (List UInt8)), 0, 0, 0, 0, 0, 0, ([] : List (Int × Int)), 0, 0, 0, 0, 0, 0, 0, 0, 0, 0, 0, 0, ([] : List (Int × Int)), 0, 1)) fun EY =>
 Option.bind (cM N EY.2) fun YW => AL YW (
 some (0, 0, 0, 0, 0, ([] : List Int), ([] : List (List UInt8)), 0, 0, 0, 0, 0, 0, ([] : List (Int × Int)), 0, 0, 0, 0, 0, 0, 0, 0, 0, 0, 0, 0, ([] : List (Int × Int)), 0, 1)) fun H7 =>
 Option.bind (cM N H7.2) fun YX => AL YX (
 some (0, 0, 0, 0, 0, ([] : List Int), ([] : List (List UInt8)), 0, 0, 0, 0, 0, 0, ([] : List (Int × Int)), 0, 0, 0, 0, 0, 0, 0, 0, 0, 0, 0, 0, ([] : List (Int × Int)), 0, 1)) fun r32 =>
 Option.bind (cM N r32.2) fun q32 => AL q32 (
 some (0, 0, 0, 0, 0, ([] : List Int), ([] : List (List UInt8)), 0, 0, 0, 0, 0, 0, ([] : List (Int × Int)), 0, 0, 0, 0, 0, 0, 0, 0, 0, 0, 0, 0, ([] : List (Int × Int)), 0, 1)) fun JQ =>
 Option.bind (cM N JQ.2) fun YY => AL YY (
 some (0, 0, 0, 0, 0, ([] : List Int), ([] : List (List UInt8)), 0, 0, 0, 0, 0, 0, ([] : List (Int × Int)), 0, 0, 0, 0, 0, 0, 0, 0, 0, 0, 0, 0, ([] : List (Int × Int)), 0, 1)) fun J8 =>
 Option.bind (cM N J8.2) fun YZ => AL YZ (
 some (0, 0, 0, 0, 0, ([] : List Int), ([] : List (List UInt8)), 0, 0, 0, 0, 0, 0, ([] : List (Int × Int)), 0, 0, 0, 0, 0, 0, 0, 0, 0, 0, 0, 0, ([] : List (Int × Int)), 0, 1)) fun Le =>
 Option.bind (cM N Le.2) fun Y0 => AL Y0 (
 some (0, 0, 0, 0, 0, ([] : List Int), ([] : List (List UInt8)), 0, 0, 0, 0, 0, 0, ([] : List (Int × Int)), 0, 0, 0, 0, 0, 0, 0, 0, 0, 0, 0, 0, ([] : List (Int × Int)), 0, 1)) fun LY =>
 Option.bind (cM N LY.2) fun Y1 => AL Y1 (
 some (0, 0, 0, 0, 0, ([] : List Int), ([] : List (List UInt8)), 0, 0, 0, 0, 0, 0, ([] : List (Int × Int)), 0, 0, 0, 0, 0, 0, 0, 0, 0, 0, 0, 0, ([] : List (Int × Int)), 0, 1)) fun ML =>
 Option.bind (cM N ML.2) fun Y2 => AL Y2 (
 some (0, 0, 0, 0, 0, ([] : List Int), ([] : List (List UInt8)), 0, 0, 0, 0, 0, 0, ([] : List (Int × Int)), 0, 0, 0, 0, 0, 0, 0, 0, 0, 0, 0, 0, ([] : List (Int × Int)), 0, 1)) fun NC =>
 Option.bind (cM N NC.2) fun Y3 => AL Y3 (
 some (0, 0, 0, 0, 0, ([] : List Int), ([] : List (List UInt8)), 0, 0, 0, 0, 0, 0, ([] : List (Int × Int)), 0, 0, 0, 0, 0, 0, 0, 0, 0, 0, 0, 0, ([] : List (Int × Int)), 0, 1)) fun Py =>
 Option.bind (cM N Py.2) fun Y4 => AL Y4 (
 some (0, 0, 0, 0, 0, ([] : List Int), ([] : List (List UInt8)), 0, 0, 0, 0, 0, 0, ([] : List (Int × Int)), 0, 0, 0, 0, 0, 0, 0, 0, 0, 0, 0, 0, ([] : List (Int × Int)), 0, 1)) fun PS =>
 Option.bind (cM N PS.2) fun Y5 => AL Y5 (
 some (0, 0, 0, 0, 0, ([] : List Int), ([] : List (List UInt8)), 0, 0, 0, 0, 0, 0, ([] : List (Int × Int)), 0, 0, 0, 0, 0, 0, 0, 0, 0, 0, 0, 0, ([] : List (Int × Int)), 0, 1)) fun QV =>
 Option.bind (cM N QV.2) fun Y6 => AL Y6 (
 some (0, 0, 0, 0, 0, ([] : List Int), ([] : List (List UInt8)), 0, 0, 0, 0, 0, 0, ([] : List (Int × Int)), 0, 0, 0, 0, 0, 0, 0, 0, 0, 0, 0, 0, ([] : List (Int × Int)), 0, 1)) fun NA =>
 cond (decide (NA.1 < 0)) (
 some (0, 0, 0, 0, 0, ([] : List Int), ([] : List (List UInt8)), 0, 0, 0, 0, 0, 0, ([] : List (Int × Int)), 0, 0, 0, 0, 0, 0, 0, 0, 0, 0, 0, 0, ([] : List (Int × Int)), 0, 1)) (
 cond (decide ((NA.2.length : Int) < NA.1)) (
 some (0, 0, 0, 0, 0, ([] : List Int), ([] : List (List UInt8)), 0, 0, 0, 0, 0, 0, ([] : List (Int × Int)), 0, 0, 0, 0, 0, 0, 0, 0, 0, 0, 0, 0, ([] : List (Int × Int)), 0, 1)) (
 zX N NA (fun (l9, QW, i8) =>
 Option.bind (cM N QW) fun Y7 => AL Y7 (
 some (0, 0, 0, 0, 0, ([] : List Int), ([] : List (List UInt8)), 0, 0, 0, 0, 0, 0, ([] : List (Int × Int)), 0, 0, 0, 0, 0, 0, 0, 0, 0, 0, 0, 0, ([] : List (Int × Int)), 0, 1)) fun T6 =>
 cond (!decide (T6.2 = ([] : List UInt8))) (
 some (0, 0, 0, 0, 0, ([] : List Int), ([] : List (List UInt8)), 0, 0, 0, 0, 0, 0, ([] : List (Int × Int)), 0, 0, 0, 0, 0, 0, 0, 0, 0, 0, 0, 0, ([] : List (Int × Int)), 0, 1)) (
 Option.bind (wF N r4.1 r5.1 r6.1 r7.1 r8.1 l3 l5 CC.1 BC.1 Cj.1 BI.1 DL.1 Dh.1 l7 EY.1 H7.1 r32.1 JQ.1 J8.1 Le.1 LY.1 ML.1 NC.1 Py.1 PS.1 QV.1 l9 T6.1) fun ZV =>
 cond (!decide (ZV = 0)) (
 some (0, 0, 0, 0, 0, ([] : List Int), ([] : List (List UInt8)), 0, 0, 0, 0, 0, 0, ([] : List (Int × Int)), 0, 0, 0, 0, 0, 0, 0, 0, 0, 0, 0, 0, ([] : List (Int × Int)), 0, 1)) (
 some (r4.1, r5.1, r6.1, r7.1, r8.1, l3, l5, CC.1, BC.1, Cj.1, BI.1, DL.1, Dh.1, l7, EY.1, H7.1, r32.1, JQ.1, J8.1, Le.1, LY.1, ML.1, NC.1, Py.1, PS.1, QV.1, l9, T6.1, 0)))) N (([] : List (Int × Int)), NA.2, 0)))) N (([] : List (Int × Int)), EX.2, 0)))) N (([] : List (List UInt8)), pS.2, 0)))) N (([] : List Int), r9.2, 0))))
def oE (N : Nat) (T7 T8 : Int) (SB : List Int) (T9 Ua : Int) (SC : List Int) : Option Bool :=
 cond (decide (T7 = T9)) (
 cond (decide (T8 = Ua)) (
 Option.bind (kC N SB SC) fun r2 =>
 some r2) (
 some false)) (
 some false)
def mY (N : Nat)  : Option Bool :=
 Option.bind (kS N ) fun r2 =>
 Option.bind (zK N r2.1 r2.2.1 r2.2.2.1 r2.2.2.2.1 r2.2.2.2.2.1 r2.2.2.2.2.2.1 r2.2.2.2.2.2.2.1 r2.2.2.2.2.2.2.2.1 r2.2.2.2.2.2.2.2.2.1 r2.2.2.2.2.2.2.2.2.2.1 r2.2.2.2.2.2.2.2.2.2.2.1 r2.2.2.2.2.2.2.2.2.2.2.2.1 r2.2.2.2.2.2.2.2.2.2.2.2.2.1 r2.2.2.2.2.2.2.2.2.2.2.2.2.2.1 r2.2.2.2.2.2.2.2.2.2.2.2.2.2.2.1 r2.2.2.2.2.2.2.2.2.2.2.2.2.2.2.2.1 r2.2.2.2.2.2.2.2.2.2.2.2.2.2.2.2.2.1 r2.2.2.2.2.2.2.2.2.2.2.2.2.2.2.2.2.2.1 r2.2.2.2.2.2.2.2.2.2.2.2.2.2.2.2.2.2.2.1 r2.2.2.2.2.2.2.2.2.2.2.2.2.2.2.2.2.2.2.2.1 r2.2.2.2.2.2.2.2.2.2.2.2.2.2.2.2.2.2.2.2.2.1 r2.2.2.2.2.2.2.2.2.2.2.2.2.2.2.2.2.2.2.2.2.2.1 r2.2.2.2.2.2.2.2.2.2.2.2.2.2.2.2.2.2.2.2.2.2.2.1 r2.2.2.2.2.2.2.2.2.2.2.2.2.2.2.2.2.2.2.2.2.2.2.2.1 r2.2.2.2.2.2.2.2.2.2.2.2.2.2.2.2.2.2.2.2.2.2.2.2.2.1 r2.2.2.2.2.2.2.2.2.2.2.2.2.2.2.2.2.2.2.2.2.2.2.2.2.2.1 r2.2.2.2.2.2.2.2.2.2.2.2.2.2.2.2.2.2.2.2.2.2.2.2.2.2.2.1 r2.2.2.2.2.2.2.2.2.2.2.2.2.2.2.2.2.2.2.2.2.2.2.2.2.2.2.2) fun r3 =>
 Option.bind (kS N ) fun r4 =>
 Option.bind (BN N r4.1 r4.2.1 r4.2.2.1 r4.2.2.2.1 r4.2.2.2.2.1 r4.2.2.2.2.2.1 r4.2.2.2.2.2.2.1 r4.2.2.2.2.2.2.2.1 r4.2.2.2.2.2.2.2.2.1 r4.2.2.2.2.2.2.2.2.2.1 r4.2.2.2.2.2.2.2.2.2.2.1 r4.2.2.2.2.2.2.2.2.2.2.2.1 r4.2.2.2.2.2.2.2.2.2.2.2.2.1 r4.2.2.2.2.2.2.2.2.2.2.2.2.2.1 r4.2.2.2.2.2.2.2.2.2.2.2.2.2.2.1 r4.2.2.2.2.2.2.2.2.2.2.2.2.2.2.2.1 r4.2.2.2.2.2.2.2.2.2.2.2.2.2.2.2.2.1 r4.2.2.2.2.2.2.2.2.2.2.2.2.2.2.2.2.2.1 r4.2.2.2.2.2.2.2.2.2.2.2.2.2.2.2.2.2.2.1 r4.2.2.2.2.2.2.2.2.2.2.2.2.2.2.2.2.2.2.2.1 r4.2.2.2.2.2.2.2.2.2.2.2.2.2.2.2.2.2.2.2.2.1 r4.2.2.2.2.2.2.2.2.2.2.2.2.2.2.2.2.2.2.2.2.2.1 r4.2.2.2.2.2.2.2.2.2.2.2.2.2.2.2.2.2.2.2.2.2.2.1 r4.2.2.2.2.2.2.2.2.2.2.2.2.2.2.2.2.2.2.2.2.2.2.2.1 r4.2.2.2.2.2.2.2.2.2.2.2.2.2.2.2.2.2.2.2.2.2.2.2.2.1 r4.2.2.2.2.2.2.2.2.2.2.2.2.2.2.2.2.2.2.2.2.2.2.2.2.2.1 r4.2.2.2.2.2.2.2.2.2.2.2.2.2.2.2.2.2.2.2.2.2.2.2.2.2.2.1 r4.2.2.2.2.2.2.2.2.2.2.2.2.2.2.2.2.2.2.2.2.2.2.2.2.2.2.2) fun r5 =>
 Option.bind (CV N r5.1) fun r6 =>
 cond (decide (r3.2.2.2 = 0)) (
 cond (decide (r5.2 = 0)) (
 cond (decide (r6.2.2.2.2.2.2.2.2.2.2.2.2.2.2.2.2.2.2.2.2.2.2.2.2.2.2.2.2 = 0)) (
 Option.bind (kS N ) fun r7 =>
 Option.bind (wF N r7.1 r7.2.1 r7.2.2.1 r7.2.2.2.1 r7.2.2.2.2.1 r7.2.2.2.2.2.1 r7.2.2.2.2.2.2.1 r7.2.2.2.2.2.2.2.1 r7.2.2.2.2.2.2.2.2.1 r7.2.2.2.2.2.2.2.2.2.1 r7.2.2.2.2.2.2.2.2.2.2.1 r7.2.2.2.2.2.2.2.2.2.2.2.1 r7.2.2.2.2.2.2.2.2.2.2.2.2.1 r7.2.2.2.2.2.2.2.2.2.2.2.2.2.1 r7.2.2.2.2.2.2.2.2.2.2.2.2.2.2.1 r7.2.2.2.2.2.2.2.2.2.2.2.2.2.2.2.1 r7.2.2.2.2.2.2.2.2.2.2.2.2.2.2.2.2.1 r7.2.2.2.2.2.2.2.2.2.2.2.2.2.2.2.2.2.1 r7.2.2.2.2.2.2.2.2.2.2.2.2.2.2.2.2.2.2.1 r7.2.2.2.2.2.2.2.2.2.2.2.2.2.2.2.2.2.2.2.1 r7.2.2.2.2.2.2.2.2.2.2.2.2.2.2.2.2.2.2.2.2.1 r7.2.2.2.2.2.2.2.2.2.2.2.2.2.2.2.2.2.2.2.2.2.1 r7.2.2.2.2.2.2.2.2.2.2.2.2.2.2.2.2.2.2.2.2.2.2.1 r7.2.2.2.2.2.2.2.2.2.2.2.2.2.2.2.2.2.2.2.2.2.2.2.1 r7.2.2.2.2.2.2.2.2.2.2.2.2.2.2.2.2.2.2.2.2.2.2.2.2.1 r7.2.2.2.2.2.2.2.2.2.2.2.2.2.2.2.2.2.2.2.2.2.2.2.2.2.1 r7.2.2.2.2.2.2.2.2.2.2.2.2.2.2.2.2.2.2.2.2.2.2.2.2.2.2.1 r7.2.2.2.2.2.2.2.2.2.2.2.2.2.2.2.2.2.2.2.2.2.2.2.2.2.2.2) fun r8 =>
 cond (decide (r8 = 0)) (
 Option.bind (kS N ) fun r9 =>
 cond (decide ((r9.2.2.2.2.2.2.1.length : Int) = 2)) (
 Option.bind (oT N ) fun LU =>
 Option.bind (oE N r3.1 r3.2.1 r3.2.2.1 LU.1 LU.2.1 LU.2.2) fun Df =>
 cond (Df) (
 Option.bind (kS N ) fun pS =>
 Option.bind (jE N r6.1 r6.2.1 r6.2.2.1 r6.2.2.2.1 r6.2.2.2.2.1 r6.2.2.2.2.2.1 r6.2.2.2.2.2.2.1 r6.2.2.2.2.2.2.2.1 r6.2.2.2.2.2.2.2.2.1 r6.2.2.2.2.2.2.2.2.2.1 r6.2.2.2.2.2.2.2.2.2.2.1 r6.2.2.2.2.2.2.2.2.2.2.2.1 r6.2.2.2.2.2.2.2.2.2.2.2.2.1 r6.2.2.2.2.2.2.2.2.2.2.2.2.2.1 r6.2.2.2.2.2.2.2.2.2.2.2.2.2.2.1 r6.2.2.2.2.2.2.2.2.2.2.2.2.2.2.2.1 r6.2.2.2.2.2.2.2.2.2.2.2.2.2.2.2.2.1 r6.2.2.2.2.2.2.2.2.2.2.2.2.2.2.2.2.2.1 r6.2.2.2.2.2.2.2.2.2.2.2.2.2.2.2.2.2.2.1 r6.2.2.2.2.2.2.2.2.2.2.2.2.2.2.2.2.2.2.2.1 r6.2.2.2.2.2.2.2.2.2.2.2.2.2.2.2.2.2.2.2.2.1 r6.2.2.2.2.2.2.2.2.2.2.2.2.2.2.2.2.2.2.2.2.2.1 r6.2.2.2.2.2.2.2.2.2.2.2.2.2.2.2.2.2.2.2.2.2.2.1 r6.2.2.2.2.2.2.2.2.2.2.2.2.2.2.2.2.2.2.2.2.2.2.2.1 r6.2.2.2.2.2.2.2.2.2.2.2.2.2.2.2.2.2.2.2.2.2.2.2.2.1 r6.2.2.2.2.2.2.2.2.2.2.2.2.2.2.2.2.2.2.2.2.2.2.2.2.2.1 r6.2.2.2.2.2.2.2.2.2.2.2.2.2.2.2.2.2.2.2.2.2.2.2.2.2.2.1 r6.2.2.2.2.2.2.2.2.2.2.2.2.2.2.2.2.2.2.2.2.2.2.2.2.2.2.2.1 pS.1 pS.2.1 pS.2.2.1 pS.2.2.2.1 pS.2.2.2.2.1 pS.2.2.2.2.2.1 pS.2.2.2.2.2.2.1 pS.2.2.2.2.2.2.2.1 pS.2.2.2.2.2.2.2.2.1 pS.2.2.2.2.2.2.2.2.2.1 pS.2.2.2.2.2.2.2.2.2.2.1 pS.2.2.2.2.2.2.2.2.2.2.2.1 pS.2.2.2.2.2.2.2.2.2.2.2.2.1 pS.2.2.2.2.2.2.2.2.2.2.2.2.2.1 pS.2.2.2.2.2.2.2.2.2.2.2.2.2.2.1 pS.2.2.2.2.2.2.2.2.2.2.2.2.2.2.2.1 pS.2.2.2.2.2.2.2.2.2.2.2.2.2.2.2.2.1 pS.2.2.2.2.2.2.2.2.2.2.2.2.2.2.2.2.2.1 pS.2.2.2.2.2.2.2.2.2.2.2.2.2.2.2.2.2.2.1 pS.2.2.2.2.2.2.2.2.2.2.2.2.2.2.2.2.2.2.2.1 pS.2.2.2.2.2.2.2.2.2.2.2.2.2.2.2.2.2.2.2.2.1 pS.2.2.2.2.2.2.2.2.2.2.2.2.2.2.2.2.2.2.2.2.2.1 pS.2.2.2.2.2.2.2.2.2.2.2.2.2.2.2.2.2.2.2.2.2.2.1 pS.2.2.2.2.2.2.2.2.2.2.2.2.2.2.2.2.2.2.2.2.2.2.2.1 pS.2.2.2.2.2.2.2.2.2.2.2.2.2.2.2.2.2.2.2.2.2.2.2.2.1 pS.2.2.2.2.2.2.2.2.2.2.2.2.2.2.2.2.2.2.2.2.2.2.2.2.2.1 pS.2.2.2.2.2.2.2.2.2.2.2.2.2.2.2.2.2.2.2.2.2.2.2.2.2.2.1 pS.2.2.2.2.2.2.2.2.2.2.2.2.2.2.2.2.2.2.2.2.2.2.2.2.2.2.2) fun yZ =>
 some yZ) (
 some false)) (
 some false)) (
 some false)) (
 some false)) (
 some false)) (
 some false)
def mZ (N : Nat) (pO mV dG eC dJ : Int) (dR : List Int) (cV : List (List UInt8)) (bW bB bC bD bE bX : Int) (aQ : List (Int × Int)) (bF bG bH aT aU aV aW aX aY aZ a7 a8 : Int) (aR : List (Int × Int)) (bI vZ wD : Int) (qP : List Int) : Option Bool :=
 Option.bind (vI N pO mV dG eC dJ dR cV bW bB bC bD bE bX aQ bF bG bH aT aU aV aW aX aY aZ a7 a8 aR bI vZ wD qP) fun r2 =>
 Option.bind (lW N pO mV dG eC dJ dR cV bW bB bC bD bE bX aQ bF bG bH aT aU aV aW aX aY aZ a7 a8 aR bI vZ wD qP) fun r3 =>
 Option.bind (mY N ) fun r4 =>
 cond (r4) (
 cond (decide (r2.2.2.2.2.2.2.2.2.2.2.2.2.2.2.2.2.2.2.2.2.2.2.2.2.2.2.2.2 = r3.2.2.2.2.2.2.2.2.2.2.2.2.2.2.2.2.2.2.2.2.2.2.2.2.2.2.2.2)) (
 Option.bind (jE N r2.1 r2.2.1 r2.2.2.1 r2.2.2.2.1 r2.2.2.2.2.1 r2.2.2.2.2.2.1 r2.2.2.2.2.2.2.1 r2.2.2.2.2.2.2.2.1 r2.2.2.2.2.2.2.2.2.1 r2.2.2.2.2.2.2.2.2.2.1 r2.2.2.2.2.2.2.2.2.2.2.1 r2.2.2.2.2.2.2.2.2.2.2.2.1 r2.2.2.2.2.2.2.2.2.2.2.2.2.1 r2.2.2.2.2.2.2.2.2.2.2.2.2.2.1 r2.2.2.2.2.2.2.2.2.2.2.2.2.2.2.1 r2.2.2.2.2.2.2.2.2.2.2.2.2.2.2.2.1 r2.2.2.2.2.2.2.2.2.2.2.2.2.2.2.2.2.1 r2.2.2.2.2.2.2.2.2.2.2.2.2.2.2.2.2.2.1 r2.2.2.2.2.2.2.2.2.2.2.2.2.2.2.2.2.2.2.1 r2.2.2.2.2.2.2.2.2.2.2.2.2.2.2.2.2.2.2.2.1 r2.2.2.2.2.2.2.2.2.2.2.2.2.2.2.2.2.2.2.2.2.1 r2.2.2.2.2.2.2.2.2.2.2.2.2.2.2.2.2.2.2.2.2.2.1 r2.2.2.2.2.2.2.2.2.2.2.2.2.2.2.2.2.2.2.2.2.2.2.1 r2.2.2.2.2.2.2.2.2.2.2.2.2.2.2.2.2.2.2.2.2.2.2.2.1 r2.2.2.2.2.2.2.2.2.2.2.2.2.2.2.2.2.2.2.2.2.2.2.2.2.1 r2.2.2.2.2.2.2.2.2.2.2.2.2.2.2.2.2.2.2.2.2.2.2.2.2.2.1 r2.2.2.2.2.2.2.2.2.2.2.2.2.2.2.2.2.2.2.2.2.2.2.2.2.2.2.1 r2.2.2.2.2.2.2.2.2.2.2.2.2.2.2.2.2.2.2.2.2.2.2.2.2.2.2.2.1 r3.1 r3.2.1 r3.2.2.1 r3.2.2.2.1 r3.2.2.2.2.1 r3.2.2.2.2.2.1 r3.2.2.2.2.2.2.1 r3.2.2.2.2.2.2.2.1 r3.2.2.2.2.2.2.2.2.1 r3.2.2.2.2.2.2.2.2.2.1 r3.2.2.2.2.2.2.2.2.2.2.1 r3.2.2.2.2.2.2.2.2.2.2.2.1 r3.2.2.2.2.2.2.2.2.2.2.2.2.1 r3.2.2.2.2.2.2.2.2.2.2.2.2.2.1 r3.2.2.2.2.2.2.2.2.2.2.2.2.2.2.1 r3.2.2.2.2.2.2.2.2.2.2.2.2.2.2.2.1 r3.2.2.2.2.2.2.2.2.2.2.2.2.2.2.2.2.1 r3.2.2.2.2.2.2.2.2.2.2.2.2.2.2.2.2.2.1 r3.2.2.2.2.2.2.2.2.2.2.2.2.2.2.2.2.2.2.1 r3.2.2.2.2.2.2.2.2.2.2.2.2.2.2.2.2.2.2.2.1 r3.2.2.2.2.2.2.2.2.2.2.2.2.2.2.2.2.2.2.2.2.1 r3.2.2.2.2.2.2.2.2.2.2.2.2.2.2.2.2.2.2.2.2.2.1 r3.2.2.2.2.2.2.2.2.2.2.2.2.2.2.2.2.2.2.2.2.2.2.1 r3.2.2.2.2.2.2.2.2.2.2.2.2.2.2.2.2.2.2.2.2.2.2.2.1 r3.2.2.2.2.2.2.2.2.2.2.2.2.2.2.2.2.2.2.2.2.2.2.2.2.1 r3.2.2.2.2.2.2.2.2.2.2.2.2.2.2.2.2.2.2.2.2.2.2.2.2.2.1 r3.2.2.2.2.2.2.2.2.2.2.2.2.2.2.2.2.2.2.2.2.2.2.2.2.2.2.1 r3.2.2.2.2.2.2.2.2.2.2.2.2.2.2.2.2.2.2.2.2.2.2.2.2.2.2.2.1) fun r5 =>
 some r5) (
 some false)) (
 some false)
end
section
open Go
theorem jR {x : Int} (h : -9223372036854775808 ≤ x ∧ x ≤ 9223372036854775807) : IntKind.i64.wrap x = x := IntWalk.i64_in x h
theorem jG {α : Type} (xs : List α) (k : Nat) : idx xs (k : Int) = xs[k]? := by simp [idx]
theorem J9 {α : Type} {xs : List α} {p q : Int} (h : 0 ≤ p ∧ p ≤ q ∧ q ≤ xs.length) : DQ xs p q = some ((xs.take q.toNat).drop p.toNat) := by unfold DQ; rw [if_pos h]
theorem p9 {α : Type} {b : Nat} {xs ys : List α} (h : (xs.length + ys.length) * b ≤ 140737488355328) : app b xs ys = some (xs ++ ys) := by unfold app; rw [if_pos h]
theorem mk_eq {α : Type} {b : Nat} {n : Int} {z : α} (h : 0 ≤ n ∧ n * b ≤ 281474976710656) : mk b n z = some (List.replicate n.toNat z) := by unfold mk; rw [if_pos h]
theorem EZ {α : Type} {xs : List α} {i : Int} {x : α} (h : 0 ≤ i ∧ i < xs.length) : xC xs i x = some (xs.set i.toNat x) := by unfold xC; rw [if_pos h]
theorem Iv {n : Int} (h : n ≠ 0) : nz n = some () := by unfold nz; rw [if_neg h]
theorem aN {α β : Type} (x : α) (f : α → Option β) : Option.bind (some x) f = f x := rfl
theorem cT {α : Type} {b : Bool} (h : b = true) (x y : α) : cond b x y = x := by rw [h]; rfl
theorem cF {α : Type} {b : Bool} (h : b = false) (x y : α) : cond b x y = y := by rw [h]; rfl
theorem dT {p : Prop} [Decidable p] (h : p) : decide p = true := decide_eq_true h
theorem dF {p : Prop} [Decidable p] (h : ¬ p) : decide p = false := decide_eq_false h
def uO (W H : Int) (n : Nat) : Prop := 1 ≤ W ∧ W ≤ 64 ∧ 1 ≤ H ∧ H ≤ 64 ∧ (n : Int) = W * H
instance (W H : Int) (n : Nat) : Decidable (uO W H n) := by unfold uO; infer_instance
theorem Ka {W H : Int} (h : 1 ≤ W ∧ W ≤ 64 ∧ 1 ≤ H ∧ H ≤ 64) : 1 ≤ W * H ∧ W * H ≤ 4096 := by
 obtain ⟨h1, h2, h3, h4⟩ := h;have a := Int.mul_le_mul h2 h4 (by omega) (by omega);have b := Int.mul_le_mul h1 h3 (by omega) (by omega)
 omega
abbrev Px := Int × Int × Int
theorem dm {W x : Nat} (y : Nat) (h : x < W) : (y * W + x) % W = x ∧ (y * W + x) / W = y := by
 have h1 : (y * W + x) % W = x := by rw [Nat.add_comm, Nat.add_mul_mod_self_right, Nat.mod_eq_of_lt h]
 have h2 : (y * W + x) / W = y := by rw [Nat.add_comm, Nat.add_mul_div_right _ _ (by omega), Nat.div_eq_of_lt h, Nat.zero_add]
 exact ⟨h1, h2⟩
theorem ND {W H x y : Nat} (hx : x < W) (hy : y < H) : y * W + x < W * H := by
 have := Nat.mul_le_mul_right W (show y + 1 ≤ H from hy);rw [Nat.add_mul, Nat.one_mul, Nat.mul_comm H W] at this
 omega
theorem tdm {W : Nat} (k : Nat) (hW : 0 < W) : Int.tmod (k : Int) (W : Int) = ((k % W : Nat) : Int) ∧ Int.tdiv (k : Int) (W : Int) = ((k / W : Nat) : Int) := by
 constructor
 ·rw [Int.tmod_eq_emod_of_nonneg (by omega)]; rfl
 ·rw [Int.tdiv_eq_ediv_of_nonneg (by omega)]; rfl
def pre {α : Type} (W : Nat) (f : Nat → Nat → α) (n : Nat) : List α := (List.range n).map fun k => f (k % W) (k / W)
theorem SD {x y : Int} {a b : Nat} (hx : -(a : Int) ≤ x ∧ x ≤ a) (hy : -(b : Int) ≤ y ∧ y ≤ b) : -((a * b : Nat) : Int) ≤ x * y ∧ x * y ≤ ((a * b : Nat) : Int) := by
 have h1 : x.natAbs ≤ a := by omega
 have h2 : y.natAbs ≤ b := by omega
 have h3 := Nat.mul_le_mul h1 h2;rw [← Int.natAbs_mul] at h3
 omega
theorem SE (m : Int) (n : Nat) (hn : n ≤ 64) : j0 .i64 m (n : Int) = m / 2 ^ n := by
 unfold j0;rw [Int.toNat_natCast, show min n IntKind.i64.bits = n from Nat.min_eq_left hn];exact Int.fdiv_eq_ediv_of_nonneg _ (Int.le_of_lt (Int.pow_pos (by decide)))
theorem nW (N : Nat) (n lo hi : Int) : cZ N n lo hi = some (decide (lo ≤ n ∧ n ≤ hi)) := by
 unfold cZ
 by_cases h1 : lo ≤ n
 ·rw [cT (dT h1)]; simp [h1]
 ·rw [cF (dF h1)]; simp [h1]
theorem SF (N : Nat) (P : List Int) (kk : Int → Option Bool) (hP : P.length ≤ 4096) : ∀ (d k fuel : Nat), k + d = P.length → d < fuel → fJ N P kk fuel (k : Int) = if (P.drop k).all Ga then kk P.length else some false := by
 intro d
 induction d with
 | zero =>
  intro k fuel hk hf;obtain ⟨fuel, rfl⟩ : ∃ m, fuel = m + 1 := ⟨fuel - 1, by omega⟩
  obtain rfl : k = P.length := by omega
  unfold fJ;rw [cF (dF (by omega))]
  simp
 | succ d ih =>
  intro k fuel hk hf;obtain ⟨fuel, rfl⟩ : ∃ m, fuel = m + 1 := ⟨fuel - 1, by omega⟩
  have hlt : k < P.length := by omega
  unfold fJ;rw [cT (dT (by omega)), jG, List.getElem?_eq_getElem hlt, aN, nW, aN, List.drop_eq_getElem_cons hlt, List.all_cons];have hih := ih (k + 1) fuel (by omega) (by omega)
  by_cases h1 : 0 ≤ P[k] ∧ P[k] ≤ 65535
  ·rw [cF (by simp [h1]), aN, jR (by omega)];have : Ga P[k] = true := by simp [Ga, h1]
   rw [this, Bool.true_and, ← hih]
   rfl
  ·rw [cT (by simp only [Bool.not_eq_true', decide_eq_false_iff_not]; exact h1)];have : Ga P[k] = false := by simp only [Ga, Bool.and_eq_false_iff, decide_eq_false_iff_not]; omega
   simp [this]
theorem He (N : Nat) (W H : Int) (P : List Int) (hN : 5000 ≤ N) : iB N W H P = some (jJ W H P) := by
 unfold iB
 have no : ¬ (wM W H ∧ (P.length : Int) = W * H) → jJ W H P = false := fun h => by
  cases hq : jJ W H P
  ·rfl
  ·obtain ⟨a, b, _⟩ := vQ.1 hq; exact absurd ⟨a, b⟩ h
 rw [nW, aN]
 by_cases h1 : 1 ≤ W ∧ W ≤ 64
 rotate_left
 ·rw [cT (by rw [dF h1]; rfl), no (fun h => by unfold wM at h; omega)]
 rw [cF (by rw [dT h1]; rfl), nW, aN]
 by_cases h2 : 1 ≤ H ∧ H ≤ 64
 rotate_left
 ·rw [cT (by rw [dF h2]; rfl), no (fun h => by unfold wM at h; omega)]
 have hb := Ka (W := W) (H := H) (by omega);rw [cF (by rw [dT h2]; rfl), jR (by omega)]
 by_cases h3 : (P.length : Int) = W * H
 rotate_left
 ·rw [cT (by rw [dF h3]; rfl), no (fun h => h3 h.2)]
 rw [cF (by rw [dT h3]; rfl)];refine (SF N P _ (by omega) P.length 0 N (by omega) (by omega)).trans ?_;have hs : wM W H := ⟨by omega, by omega, by omega, by omega⟩
 simp only [jJ, hs, h3, decide_true, Bool.true_and, List.drop_zero]
 cases P.all Ga <;> rfl
def upTo (P : List Int) (top : Int) : Prop := ∀ i : Nat, 0 ≤ P.getD i 0 ∧ P.getD i 0 ≤ top
theorem Kb (N : Nat) (W H : Int) (P : List Int) (hl : P.length ≤ 9223372036854775807) : qU N W H P [] = some (if jJ W H P = false then (0, 0, [], 1) else (W, H, (List.range P.length).map (AQ W H [] P), 0)) := by
 unfold qU;rw [if_neg (by omega)];cases jJ W H P
 ·rfl
 ·rw [if_neg (by simp), if_neg (by simp), if_neg (by simp), if_neg (by simp)]
theorem Hf (N : Nat) {n b : Int} (hb : 1 ≤ b ∧ b ≤ 1000000) (hn : -4611686018427387904 ≤ n ∧ n ≤ 4611686018427387904) : fZ N n b = some (n / b) := by
 have hd := Int.mul_ediv_add_emod n b;have hr0 := Int.emod_nonneg n (show b ≠ 0 by omega);have hr1 := Int.emod_lt_of_pos n (show 0 < b by omega);obtain ⟨q, hq⟩ : ∃ q, n / b = q := ⟨_, rfl⟩
 obtain ⟨r, hr⟩ : ∃ r, n % b = r := ⟨_, rfl⟩
 rw [hq, hr] at hd;rw [hr] at hr0 hr1
 have ZR : -4611686018427387905 ≤ q ∧ q ≤ 4611686018427387904 := by
  have h1 : q ≤ 4611686018427387904 := by
   rw [← hq];exact Int.le_trans (Int.ediv_le_ediv (by omega) hn.2) (Int.ediv_le_of_le_mul (by omega) (by omega))
  have h2 : -4611686018427387905 ≤ q := by
   rw [← hq];exact Int.le_ediv_of_mul_le (by omega) (by omega)
  exact ⟨h2, h1⟩
 unfold fZ;rw [Iv (by omega), aN, aN, Int.tdiv_eq_ediv, hq]
 by_cases h : 0 ≤ n ∨ b ∣ n
 ·rw [if_pos h, Int.add_zero, jR (x := q) (by omega), Int.mul_comm q b, jR (x := b * q) (by omega), cF (dF (by omega))]
 ·rw [if_neg h, Int.sign_eq_one_of_pos (by omega), jR (x := q + 1) (by omega), Int.mul_comm (q + 1) b, Int.mul_add, Int.mul_one, jR (x := b * q + b) (by omega), cT (dT (by omega)), aN, jR (by omega), Int.add_sub_cancel]
def ZW (b0 b1 b2 b3 w : Int) : Prop := (0 ≤ b0 ∧ b0 < w) ∧ (0 ≤ b1 ∧ b1 < w) ∧ (0 ≤ b2 ∧ b2 < w) ∧ (0 ≤ b3 ∧ b3 < w)
theorem NE {i : Int} {n : Nat} (h : 0 ≤ i ∧ i < n) : inr i n = some () := by unfold inr; rw [if_pos h]
def aAg (g0 g1 g2 : Int) : Prop := (0 ≤ g0 ∧ g0 ≤ 65535) ∧ (0 ≤ g1 ∧ g1 ≤ 65535) ∧ (0 ≤ g2 ∧ g2 ≤ 65535)
def W8 (m : Int) : Bool := decide (-32768 ≤ m ∧ m ≤ 32768)
section
variable (N : Nat) (m0 m1 m2 m3 m4 m5 m6 m7 m8 : Int)
theorem Ke (kk) : ∀ (d k fuel : Nat), k + d = 9 → d < fuel →
  jL N m0 m1 m2 m3 m4 m5 m6 m7 m8 kk fuel (k : Int) = if ([m0, m1, m2, m3, m4, m5, m6, m7, m8].drop k).all W8 then kk 9 else some false := by
 intro d
 induction d with
 | zero =>
  intro k fuel hk hf;obtain ⟨fuel, rfl⟩ : ∃ m, fuel = m + 1 := ⟨fuel - 1, by omega⟩
  obtain rfl : k = 9 := by omega
  unfold jL;rw [cF (dF (by omega))]
  simp
 | succ d ih =>
  intro k fuel hk hf;obtain ⟨fuel, rfl⟩ : ∃ m, fuel = m + 1 := ⟨fuel - 1, by omega⟩
  have hlt : k < [m0, m1, m2, m3, m4, m5, m6, m7, m8].length := by show k < 9; omega
  unfold jL;rw [cT (dT (by omega)), show inr (k : Int) 9 = some () from by unfold inr; rw [if_pos (by omega)], aN, jG, List.getElem?_eq_getElem hlt, aN, nW, aN, List.drop_eq_getElem_cons hlt, List.all_cons];obtain ⟨e, he⟩ : ∃ e, [m0, m1, m2, m3, m4, m5, m6, m7, m8][k] = e := ⟨_, rfl⟩
  rw [he];have hih := ih (k + 1) fuel (by omega) (by omega)
  by_cases h : -32768 ≤ e ∧ e ≤ 32768
  ·rw [cF (by simp [h]), aN, jR (by omega), W8, dT h, Bool.true_and];exact hih
  ·rw [cT (by simp only [Bool.not_eq_true', decide_eq_false_iff_not]; exact h), W8, dF h]; simp
def CW : Bool := [m0, m1, m2, m3, m4, m5, m6, m7, m8].all W8
theorem Kf (hN : 5000 ≤ N) : lS N m0 m1 m2 m3 m4 m5 m6 m7 m8 = some (CW m0 m1 m2 m3 m4 m5 m6 m7 m8) := by
 unfold lS;refine (Ke N m0 m1 m2 m3 m4 m5 m6 m7 m8 _ 9 0 N (by omega) (by omega)).trans ?_;rw [List.drop_zero, ← CW]
 cases CW m0 m1 m2 m3 m4 m5 m6 m7 m8 <;> rfl
end
abbrev Pt := Int × Int
def cX (l : List Pt) (i : Nat) : Int := (l.getD i (0, 0)).1
def cY (l : List Pt) (i : Nat) : Int := (l.getD i (0, 0)).2
def Hg (l : List Pt) (i : Nat) : Prop := cX l i < cX l (i + 1) ∧ cY l i ≤ cY l (i + 1)
structure sF (l : List Pt) : Prop where
 len : 2 ≤ l.length ∧ l.length ≤ 16
 x0 : cX l 0 = 0
 xn : cX l (l.length - 1) = 65535
 y0 : 0 ≤ cY l 0
 yn : cY l (l.length - 1) ≤ 65535
 step : ∀ i, i + 1 < l.length → Hg l i
theorem qA (l : List Pt) {k : Nat} (h : k < l.length) : idx l (k : Int) = some (l.getD k (0, 0)) := by
 rw [jG, List.getD_eq_getElem?_getD, List.getElem?_eq_getElem h]; rfl
theorem Fw (l : List Pt) (h : 1 ≤ l.length ∧ l.length ≤ 1000000) : idx l (IntKind.i64.wrap ((l.length : Int) - 1)) = some (l.getD (l.length - 1) (0, 0)) := by
 rw [jR (by omega), show (l.length : Int) - 1 = ((l.length - 1 : Nat) : Int) by omega, qA l (by omega)]
theorem Kg {l : List Pt} {j : Nat} (h : ∀ i, i < j → Hg l i) {i : Nat} (hij : i ≤ j) : cX l i ≤ cX l j ∧ cY l i ≤ cY l j ∧ (i < j → cX l i < cX l j) := by
  induction j with
  | zero => obtain rfl : i = 0 := by omega
            exact ⟨Int.le_refl _, Int.le_refl _, fun h => by omega⟩
  | succ j ih =>
    by_cases e : i = j + 1
    · subst e; exact ⟨Int.le_refl _, Int.le_refl _, fun h => by omega⟩
    · obtain ⟨a, b, _⟩ := ih (fun i hi => h i (by omega)) (by omega)
      obtain ⟨c, d⟩ := h j (by omega)
      exact ⟨by omega, by omega, fun _ => by omega⟩
theorem sF.mono {l : List Pt} (h : sF l) {i j : Nat} (hij : i ≤ j) (hj : j < l.length) : cX l i ≤ cX l j ∧ cY l i ≤ cY l j ∧ (i < j → cX l i < cX l j) := Kg (fun i hi => h.step i (by omega)) hij
theorem sF.bd {l : List Pt} (h : sF l) {i : Nat} (hi : i < l.length) : 0 ≤ cX l i ∧ cX l i ≤ 65535 ∧ 0 ≤ cY l i ∧ cY l i ≤ 65535 := by
 obtain ⟨a, b, _⟩ := h.mono (i := 0) (j := i) (by omega) hi;obtain ⟨c, d, _⟩ := h.mono (i := i) (j := l.length - 1) (by omega) (by omega);have := h.x0;have := h.xn;have := h.y0;have := h.yn
 omega
theorem NF (N : Nat) (l l2 : List Pt) (hl : l2.length + 1 = l.length) (hb : l.length ≤ 16) : ∀ (d k fuel : Nat), k + d = l2.length → d < fuel →
  ∃ b, oL N l l2 (fun _ => some true) fuel (k : Int) = some b ∧ (b = true ↔ ∀ i, k ≤ i → i + 1 < l.length → Hg l i) := by
 intro d
 induction d with
 | zero =>
  intro k fuel hk hf;obtain ⟨fuel, rfl⟩ : ∃ m, fuel = m + 1 := ⟨fuel - 1, by omega⟩
  refine ⟨true, ?_, by simp only [true_iff]; intro i h1 h2; omega⟩;unfold oL;rw [cF (dF (by omega))]
 | succ d ih =>
  intro k fuel hk hf;obtain ⟨fuel, rfl⟩ : ∃ m, fuel = m + 1 := ⟨fuel - 1, by omega⟩
  unfold oL;rw [cT (dT (by omega)), jR (by omega), show (k : Int) + 1 = ((k + 1 : Nat) : Int) by omega];simp only [qA l (show k < l.length by omega), qA l (show k + 1 < l.length by omega), aN]
  by_cases h1 : (l.getD (k + 1) (0, 0)).1 ≤ (l.getD k (0, 0)).1
  ·rw [cT (dT h1)];refine ⟨false, rfl, by simp only [Bool.false_eq_true, false_iff]; intro h; have := (h k (Nat.le_refl _) (by omega)).1; simp only [cX] at this; omega⟩
  rw [cF (dF h1)]
  by_cases h2 : (l.getD (k + 1) (0, 0)).2 < (l.getD k (0, 0)).2
  ·rw [cT (dT h2)];refine ⟨false, rfl, by simp only [Bool.false_eq_true, false_iff]; intro h; have := (h k (Nat.le_refl _) (by omega)).2; simp only [cY] at this; omega⟩
  rw [cF (dF h2)];obtain ⟨b, e, hb'⟩ := ih (k + 1) fuel (by omega) (by omega);refine ⟨b, e, hb'.trans ⟨fun h i hi hn => ?_, fun h i hi hn => h i (by omega) hn⟩⟩
  by_cases hik : i = k
  ·subst hik; exact ⟨by simp only [cX]; omega, by simp only [cY]; omega⟩
  ·exact h i (by omega) hn
theorem right_eq (N : Nat) (l : List Pt) (hN : 5000 ≤ N) : ∃ b, mR N l = some b ∧ (b = true ↔ sF l) := by
 unfold mR
 by_cases h1 : (l.length : Int) < 2
 ·rw [cT (dT h1)]; exact ⟨false, rfl, by simp only [Bool.false_eq_true, false_iff]; intro h; have := h.len; omega⟩
 rw [cF (dF h1)]
 by_cases h2 : 16 < (l.length : Int)
 ·rw [cT (dT h2)]; exact ⟨false, rfl, by simp only [Bool.false_eq_true, false_iff]; intro h; have := h.len; omega⟩
 rw [cF (dF h2)];have i0 : idx l 0 = some (l.getD 0 (0, 0)) := qA l (k := 0) (by omega);have il := Fw l (by omega);simp only [i0, il, aN]
 by_cases h3 : cX l 0 = 0
 rotate_left
 ·rw [cT (by simp only [cX] at h3; rw [dF h3]; rfl)]; exact ⟨false, rfl, by simp only [Bool.false_eq_true, false_iff]; intro h; exact h3 h.x0⟩
 rw [cF (by simp only [cX] at h3; rw [dT h3]; rfl)]
 by_cases h4 : cX l (l.length - 1) = 65535
 rotate_left
 ·rw [cT (by simp only [cX] at h4; rw [dF h4]; rfl)]; exact ⟨false, rfl, by simp only [Bool.false_eq_true, false_iff]; intro h; exact h4 h.xn⟩
 rw [cF (by simp only [cX] at h4; rw [dT h4]; rfl)]
 by_cases h5 : (l.getD 0 (0, 0)).2 < 0
 ·rw [cT (dT h5)]; exact ⟨false, rfl, by simp only [Bool.false_eq_true, false_iff]; intro h; have := h.y0; simp only [cY] at this; omega⟩
 rw [cF (dF h5)]
 by_cases h6 : 65535 < (l.getD (l.length - 1) (0, 0)).2
 ·rw [cT (dT h6)]; exact ⟨false, rfl, by simp only [Bool.false_eq_true, false_iff]; intro h; have := h.yn; simp only [cY] at this; omega⟩
 rw [cF (dF h6), J9 (by omega), aN];obtain ⟨b, e, hb⟩ := NF N l ((l.take (l.length : Int).toNat).drop (1 : Int).toNat) (by simp; omega) (by omega) (l.length - 1) 0 N (by simp) (by omega);refine ⟨b, e, hb.trans ⟨fun h => ⟨by omega, h3, h4, by simp only [cY]; omega, by simp only [cY]; omega, fun i hi => h i (Nat.zero_le _) hi⟩, fun h i _ hi => h.step i hi⟩⟩
theorem Hh (N : Nat) (l : List Pt) (hb : l.length ≤ 16) : ∀ (d k fuel : Nat), k + d = l.length → d < fuel →
  ∃ b, hJ N l (fun _ => some true) fuel (k : Int) = some b ∧ (b = true ↔ ∀ i, k ≤ i → i < l.length → (0 ≤ cY l i ∧ cY l i ≤ 65535) ∧ (0 < i → Hg l (i - 1))) := by
 intro d
 induction d with
 | zero =>
  intro k fuel hk hf;obtain ⟨fuel, rfl⟩ : ∃ m, fuel = m + 1 := ⟨fuel - 1, by omega⟩
  refine ⟨true, ?_, by simp only [true_iff]; intro i h1 h2; omega⟩;unfold hJ;rw [cF (dF (by omega))]
 | succ d ih =>
  intro k fuel hk hf;obtain ⟨fuel, rfl⟩ : ∃ m, fuel = m + 1 := ⟨fuel - 1, by omega⟩
  have no : ∀ {Q : Prop}, ¬ Q → ∃ b, some false = some b ∧ (b = true ↔ Q) := fun h => ⟨false, rfl, by simp [h]⟩
  unfold hJ;rw [cT (dT (by omega)), qA l (show k < l.length by omega), aN, nW, aN];obtain ⟨b, e, hb'⟩ := ih (k + 1) fuel (by omega) (by omega)
  by_cases h1 : 0 ≤ cY l k ∧ cY l k ≤ 65535
  rotate_left
  ·rw [cT (by simp only [cY] at h1; rw [dF h1]; rfl)];exact no fun h => h1 (h k (Nat.le_refl _) (by omega)).1
  rw [cF (by simp only [cY] at h1; rw [dT h1]; rfl)]
  by_cases h2 : 0 < k
  ·rw [cT (dT (by omega)), aN, jR (x := (k : Int) - 1) (by omega), show (k : Int) - 1 = ((k - 1 : Nat) : Int) by omega, qA l (show k - 1 < l.length by omega)];simp only [aN];have hk1 : k - 1 + 1 = k := by omega
   by_cases h3 : (l.getD k (0, 0)).1 ≤ (l.getD (k - 1) (0, 0)).1
   ·rw [cT (dT h3)];exact no fun h => by have := ((h k (Nat.le_refl _) (by omega)).2 h2).1; rw [hk1] at this; simp only [cX] at this; omega
   rw [cF (dF h3)]
   by_cases h4 : (l.getD k (0, 0)).2 < (l.getD (k - 1) (0, 0)).2
   ·rw [cT (dT h4)];exact no fun h => by have := ((h k (Nat.le_refl _) (by omega)).2 h2).2; rw [hk1] at this; simp only [cY] at this; omega
   rw [cF (dF h4), jR (by omega)];refine ⟨b, e, hb'.trans ⟨fun h i hi hn => ?_, fun h i hi hn => h i (by omega) hn⟩⟩
   by_cases hik : i = k
   ·subst hik; exact ⟨h1, fun _ => ⟨by rw [hk1]; simp only [cX]; omega, by rw [hk1]; simp only [cY]; omega⟩⟩
   ·exact h i (by omega) hn
  ·rw [cF (dF (by omega)), aN, jR (by omega)];refine ⟨b, e, hb'.trans ⟨fun h i hi hn => ?_, fun h i hi hn => h i (by omega) hn⟩⟩
   by_cases hik : i = k
   ·subst hik; exact ⟨h1, fun h => absurd h h2⟩
   ·exact h i (by omega) hn
theorem Hi (N : Nat) (l : List Pt) (hN : 5000 ≤ N) : ∃ b, gT N l = some b ∧ (b = true ↔ sF l) := by
 unfold gT;have no : ∀ {Q : Prop}, ¬ Q → ∃ b, some false = some b ∧ (b = true ↔ Q) := fun h => ⟨false, rfl, by simp [h]⟩
 rw [nW, aN]
 by_cases h1 : (2 : Int) ≤ l.length ∧ (l.length : Int) ≤ 16
 rotate_left
 ·rw [cT (by rw [dF h1]; rfl)];exact no fun h => h1 (by have := h.len; omega)
 rw [cF (by rw [dT h1]; rfl)];have i0 : idx l 0 = some (l.getD 0 (0, 0)) := qA l (k := 0) (by omega);have il := Fw l (by omega);simp only [i0, il, aN]
 by_cases h3 : cX l 0 = 0
 rotate_left
 ·rw [cT (by simp only [cX] at h3; rw [dF h3]; rfl)]; exact no fun h => h3 h.x0
 rw [cF (by simp only [cX] at h3; rw [dT h3]; rfl)]
 by_cases h4 : cX l (l.length - 1) = 65535
 rotate_left
 ·rw [cT (by simp only [cX] at h4; rw [dF h4]; rfl)]; exact no fun h => h4 h.xn
 rw [cF (by simp only [cX] at h4; rw [dT h4]; rfl)];obtain ⟨b, e, hb⟩ := Hh N l (by omega) l.length 0 N (by omega) (by omega);refine ⟨b, e, hb.trans ⟨fun h => ⟨by omega, h3, h4, (h 0 (Nat.le_refl _) (by omega)).1.1, (h (l.length - 1) (Nat.zero_le _) (by omega)).1.2, fun i hi => (h (i + 1) (Nat.zero_le _) hi).2 (by omega)⟩, fun h i _ hi => ⟨(h.bd hi).2.2, fun h0 => h.step (i - 1) (by omega)⟩⟩⟩
def seg (l : List Pt) (i : Nat) (x : Int) : Int := cY l (i - 1) + ((cY l i - cY l (i - 1)) * (x - cX l (i - 1))) / (cX l i - cX l (i - 1))
section
variable {l : List Pt}
theorem NG {i : Nat} : seg l i (cX l (i - 1)) = cY l (i - 1) := by
 unfold seg;rw [Int.sub_self, Int.mul_zero, Int.zero_ediv, Int.add_zero]
variable (h : sF l)
include h
theorem LZ {i : Nat} (hi : 1 ≤ i ∧ i < l.length) {x : Int} (hx : cX l (i - 1) ≤ x ∧ x ≤ cX l i) : cY l (i - 1) ≤ seg l i x ∧ seg l i x ≤ cY l i := by
 obtain ⟨s1, s2⟩ := h.step (i - 1) (by omega);rw [show i - 1 + 1 = i by omega] at s1 s2;unfold seg;have h0 : 0 ≤ (cY l i - cY l (i - 1)) * (x - cX l (i - 1)) := Int.mul_nonneg (by omega) (by omega);have h1 := Int.ediv_nonneg h0 (show 0 ≤ cX l i - cX l (i - 1) by omega);have h2 : (cY l i - cY l (i - 1)) * (x - cX l (i - 1)) ≤ (cY l i - cY l (i - 1)) * (cX l i - cX l (i - 1)) := Int.mul_le_mul_of_nonneg_left (by omega) (by omega);have h3 := Int.ediv_le_of_le_mul (show 0 < cX l i - cX l (i - 1) by omega) h2
 omega
theorem GB {i : Nat} (hi : 1 ≤ i ∧ i < l.length) : seg l i (cX l i) = cY l i := by
 obtain ⟨s1, s2⟩ := h.step (i - 1) (by omega);rw [show i - 1 + 1 = i by omega] at s1 s2;unfold seg;rw [Int.mul_ediv_cancel _ (by omega)]
 omega
theorem PT {i j : Nat} (hi : 1 ≤ i ∧ i < l.length) (hj : 1 ≤ j ∧ j < l.length) {x : Int} (hx : cX l (i - 1) ≤ x ∧ x ≤ cX l i) (hx' : cX l (j - 1) ≤ x ∧ x ≤ cX l j) : seg l i x = seg l j x := by
 have key : ∀ {i j : Nat}, 1 ≤ i → i < j → j < l.length → x ≤ cX l i → cX l (j - 1) ≤ x → seg l i x = seg l j x := by
  intro i j h1 h2 h3 h4 h5;have m1 := h.mono (i := i) (j := j - 1) (by omega) (by omega);have e : x = cX l i := by omega
  have e2 : i = j - 1 := by
   by_cases e2 : i = j - 1
   ·exact e2
   ·have := m1.2.2 (by omega); omega
  subst e;rw [GB h ⟨h1, by omega⟩];subst e2;rw [NG]
 rcases Nat.lt_trichotomy i j with hij | hij | hij
 ·exact key hi.1 hij hj.2 hx.2 hx'.1
 ·rw [hij]
 ·exact (key hj.1 hij hi.2 hx'.2 hx.1).symm
theorem Iw {i : Nat} (hi : 1 ≤ i ∧ i < l.length) {x : Int} (hx : cX l (i - 1) ≤ x ∧ x ≤ cX l i) :
  (Option.bind (nz (IntKind.i64.wrap (cX l i - cX l (i - 1)))) fun _ => Option.bind (some (IntKind.i64.wrap (cY l (i - 1) + IntKind.i64.wrap (Int.tdiv (IntKind.i64.wrap (IntKind.i64.wrap (cY l i - cY l (i - 1)) * IntKind.i64.wrap (x - cX l (i - 1)))) (IntKind.i64.wrap (cX l i - cX l (i - 1))))))) fun x3 => some x3) = some (seg l i x) := by
 obtain ⟨s1, s2⟩ := h.step (i - 1) (by omega);rw [show i - 1 + 1 = i by omega] at s1 s2;have b1 := h.bd hi.2;have b2 := h.bd (i := i - 1) (by omega);have sf := LZ h hi hx;unfold seg at sf ⊢;have h0 : 0 ≤ (cY l i - cY l (i - 1)) * (x - cX l (i - 1)) := Int.mul_nonneg (by omega) (by omega);have h2 := SD (a := 65535) (b := 65535) (x := cY l i - cY l (i - 1)) (y := x - cX l (i - 1)) (by omega) (by omega);rw [jR (x := cX l i - cX l (i - 1)) (by omega), jR (x := cY l i - cY l (i - 1)) (by omega), jR (x := x - cX l (i - 1)) (by omega), jR (x := (cY l i - cY l (i - 1)) * (x - cX l (i - 1))) (by omega)];rw [Int.tdiv_eq_ediv_of_nonneg h0, jR (x := _ / _) (by omega), jR (by omega), Iv (by omega)]
 rfl
theorem L0 (N : Nat) (x : Int) (kk) : ∀ (d i j fuel : Nat), j - i ≤ d → i ≤ j → j ≤ l.length → d < fuel → (∀ k, k < i → cX l k ≤ x) → (∀ k, j ≤ k → k < l.length → x < cX l k) →
  ∃ r : Nat, r ≤ l.length ∧ (∀ k, k < r → cX l k ≤ x) ∧ (∀ k, r ≤ k → k < l.length → x < cX l k) ∧ fI N l x kk fuel ((i : Int), (j : Int)) = kk ((r : Int), (r : Int)) := by
 have hlen := h.len;intro d
 induction d with
 | zero =>
  intro i j fuel hd hij hj hf h1 h2;obtain ⟨fuel, rfl⟩ : ∃ m, fuel = m + 1 := ⟨fuel - 1, by omega⟩
  obtain rfl : i = j := by omega
  refine ⟨i, hj, h1, h2, ?_⟩;unfold fI;rw [cF (dF (by omega))]
 | succ d ih =>
  intro i j fuel hd hij hj hf h1 h2;obtain ⟨fuel, rfl⟩ : ∃ m, fuel = m + 1 := ⟨fuel - 1, by omega⟩
  by_cases hlt : i < j
  ·unfold fI
   have hh : IntKind.i64.wrap (j0 .u64 (IntKind.u64.wrap (IntKind.i64.wrap ((i : Int) + j))) 1) = (((i + j) / 2 : Nat) : Int) := by
    rw [jR (x := (i : Int) + j) (by omega), IntWalk.u64_in _ (by omega)]
    have : j0 .u64 ((i : Int) + j) 1 = ((i : Int) + j) / 2 := by
     unfold j0;exact Int.fdiv_eq_ediv_of_nonneg _ (by decide)
    rw [this, jR (by omega)]
    omega
   rw [cT (dT (by omega)), hh, aN];obtain ⟨m, hm⟩ : ∃ m, (i + j) / 2 = m := ⟨_, rfl⟩
   have hm1 : i ≤ m ∧ m < j := by omega
   rw [hm];unfold zI;rw [qA l (show m < l.length by omega), aN, aN]
   by_cases hc : x < cX l m
   ·rw [cF (by simp only [cX] at hc; rw [dT hc]; rfl)]
    exact ih i m fuel (by omega) (by omega) (by omega) (by omega) h1 fun k hk hk' => by
     have := (h.mono hk hk').1; omega
   ·rw [cT (by simp only [cX] at hc; rw [dF hc]; rfl), aN, jR (by omega)]
    exact ih (m + 1) j fuel (by omega) (by omega) (by omega) (by omega) (fun k hk => by
     have := (h.mono (i := k) (j := m) (by omega) (by omega)).1; omega) h2
  ·obtain rfl : i = j := by omega
   refine ⟨i, hj, h1, h2, ?_⟩;unfold fI;rw [cF (dF (by omega))]
theorem Vb (N : Nat) (hN : 5000 ≤ N) {x : Int} (hx : 0 ≤ x ∧ x ≤ 65535) : ∃ i, (1 ≤ i ∧ i < l.length) ∧ (cX l (i - 1) ≤ x ∧ x ≤ cX l i) ∧ tT N l x = some (seg l i x) := by
 have hlen := h.len;have hx0 := h.x0;have hxn := h.xn;unfold tT mS;obtain ⟨r, hr, h1, h2, e⟩ := L0 h N x (fun (i4, j2) => some i4) l.length 0 l.length N (by omega) (by omega) (Nat.le_refl _) (by omega) (fun k hk => by omega) (fun k hk hk' => by omega);have e' : fI N l x (fun (i4, j2) => some i4) N (0, (l.length : Int)) = some (r : Int) := e
 have hr1 : 1 ≤ r := by
  by_cases h0 : r = 0
  ·have := h2 0 (by omega) (by omega); omega
  ·omega
 rw [e', aN];have il := Fw l (by omega)
 by_cases hn : r = l.length
 ·subst hn;rw [cT (dT rfl), il, aN];have hle := h1 (l.length - 1) (by omega);have hxe : x = cX l (l.length - 1) := by omega
  have hm := (h.mono (i := l.length - 1 - 1) (j := l.length - 1) (by omega) (by omega)).1;refine ⟨l.length - 1, by omega, by omega, ?_⟩;rw [hxe, GB h (by omega)]
  rfl
 ·rw [cF (dF (by omega)), jR (x := (r : Int) - 1) (by omega), show (r : Int) - 1 = ((r - 1 : Nat) : Int) by omega, qA l (show r - 1 < l.length by omega), qA l (show r < l.length by omega), aN, aN];have hx' : cX l (r - 1) ≤ x ∧ x ≤ cX l r := ⟨h1 _ (by omega), by have := h2 r (Nat.le_refl _) (by omega); omega⟩
  exact ⟨r, by omega, hx', Iw h (by omega) hx'⟩
theorem Kh (N : Nat) {x : Int} (hx : 0 ≤ x ∧ x ≤ 65535) (kk) : ∀ (d i fuel : Nat), i + d = l.length → d ≤ fuel → 1 ≤ i → i < l.length → (cX l (i - 1) ≤ x) →
  ∃ r : Nat, (1 ≤ r ∧ r < l.length) ∧ (cX l (r - 1) ≤ x ∧ x ≤ cX l r) ∧ mE N l x kk fuel (i : Int) = kk (r : Int) := by
 have hlen := h.len;have hxn := h.xn;intro d
 induction d with
 | zero => intro i fuel hd hf h1 h2 h3; omega
 | succ d ih =>
  intro i fuel hd hf h1 h2 h3;obtain ⟨fuel, rfl⟩ : ∃ m, fuel = m + 1 := ⟨fuel - 1, by omega⟩
  unfold mE;rw [qA l h2, aN]
  by_cases hc : cX l i < x
  ·rw [cT (by simp only [cX] at hc; rw [dT hc]), aN, jR (by omega)];have hne : i ≠ l.length - 1 := fun e => by rw [e] at hc; omega
   exact ih (i + 1) fuel (by omega) (by omega) (by omega) (by omega) (by show cX l i ≤ x; omega)
  ·rw [cF (by simp only [cX] at hc; rw [dF hc])];exact ⟨i, ⟨h1, h2⟩, ⟨h3, by omega⟩, rfl⟩
theorem Ki (N : Nat) (hN : 5000 ≤ N) {x : Int} (hx : 0 ≤ x ∧ x ≤ 65535) : ∃ i, (1 ≤ i ∧ i < l.length) ∧ (cX l (i - 1) ≤ x ∧ x ≤ cX l i) ∧ nO N l x = some (seg l i x) := by
 have hlen := h.len;unfold nO
 obtain ⟨r, hr, hx', e⟩ := Kh h N hx (fun i4 => Option.bind (idx l (IntKind.i64.wrap (i4 - 1))) fun e3 =>
  Option.bind (idx l i4) fun e4 => Option.bind (nz (IntKind.i64.wrap (e4.1 - e3.1))) fun _ =>
  Option.bind (some (IntKind.i64.wrap (e3.2 + (IntKind.i64.wrap (Int.tdiv (IntKind.i64.wrap ((IntKind.i64.wrap (e4.2 - e3.2)) * (IntKind.i64.wrap (x - e3.1)))) (IntKind.i64.wrap (e4.1 - e3.1))))))) fun x3 => some x3) (l.length - 1) 1 N (by omega) (by omega) (by omega) (by omega) (by show cX l 0 ≤ x; rw [h.x0]; exact hx.1)
 refine ⟨r, hr, hx', e.trans ?_⟩;rw [jR (x := (r : Int) - 1) (by omega), show (r : Int) - 1 = ((r - 1 : Nat) : Int) by omega, qA l (show r - 1 < l.length by omega), qA l (show r < l.length by omega), aN, aN];exact Iw h hr hx'
end
theorem PU {l : List Pt} (h : sF l) {x : Int} (hx : 0 ≤ x ∧ x ≤ 65535) : ∃ v, tT 8589934592 l x = some v ∧ nO 8589934592 l x = some v := by
 obtain ⟨i, a, b, e⟩ := Vb h 8589934592 (by omega) hx;obtain ⟨j, a', b', e'⟩ := Ki h 8589934592 (by omega) hx;exact ⟨_, e, by rw [e', PT h a' a b' b]⟩
def W9 (l : List Pt) (x : Int) : Int := (tT 8589934592 l x).getD 0
theorem NH {l : List Pt} (h : sF l) {x : Int} (hx : 0 ≤ x ∧ x ≤ 65535) : tT 8589934592 l x = some (W9 l x) ∧ nO 8589934592 l x = some (W9 l x) := by
 obtain ⟨v, e, e'⟩ := PU h hx;unfold W9;rw [e, e'];exact ⟨rfl, rfl⟩
theorem NI {l : List Pt} {b : Bool} (hb : mR 8589934592 l = some b) (hc : b = true ↔ sF l) (x : Int) : uG 8589934592 l x = some (if b = false then (0, 1) else if 0 ≤ x ∧ x ≤ 65535 then (W9 l x, 0) else (0, 3)) := by
 unfold uG;rw [hb, aN];cases b
 ·rfl
 have h := hc.1 rfl;rw [cF (by rfl), if_neg (by simp)]
 by_cases h1 : x < 0
 ·rw [cT (dT h1), if_neg (by omega)]
 rw [cF (dF h1)]
 by_cases h2 : 65535 < x
 ·rw [cT (dT h2), if_neg (by omega)]
 rw [cF (dF h2), (NH h (by omega)).1, if_pos (by omega)]; rfl
theorem Kj (l : List Pt) : ∃ b, mR 8589934592 l = some b ∧ gT 8589934592 l = some b ∧ (b = true ↔ sF l) := by
 obtain ⟨b, hb, hc⟩ := right_eq 8589934592 l (by omega);obtain ⟨b', hb', hc'⟩ := Hi 8589934592 l (by omega);have : b' = b := Bool.eq_iff_iff.2 (hc'.trans hc.symm);exact ⟨b, hb, by rw [hb', this], hc⟩
def xJ (lo hi n : Int) : Bool := decide (lo ≤ n ∧ n ≤ hi)
theorem Vc (N : Nat) (s : List Int) (lo hi : Int) (hl : s.length ≤ 4096) : ∀ (d k fuel : Nat), k + d = s.length → d < fuel →
  ∃ r, fB N s lo hi (fun _ => some (-1)) fuel (k : Int) = some r ∧ decide (0 ≤ r) = !((s.drop k).all (xJ lo hi)) := by
 intro d
 induction d with
 | zero =>
  intro k fuel hk hf;obtain ⟨fuel, rfl⟩ : ∃ m, fuel = m + 1 := ⟨fuel - 1, by omega⟩
  obtain rfl : k = s.length := by omega
  unfold fB;rw [cF (dF (by omega))];exact ⟨_, rfl, by simp⟩
 | succ d ih =>
  intro k fuel hk hf;obtain ⟨fuel, rfl⟩ : ∃ m, fuel = m + 1 := ⟨fuel - 1, by omega⟩
  have hlt : k < s.length := by omega
  unfold fB zH;rw [cT (dT (by omega)), jG, List.getElem?_eq_getElem hlt, aN, List.drop_eq_getElem_cons hlt, List.all_cons]
  by_cases h1 : s[k] < lo
  ·rw [cT (dT h1), aN, cT (by rfl)];refine ⟨_, rfl, ?_⟩;have : xJ lo hi s[k] = false := dF (by omega);rw [this, dT (by omega)]; rfl
  rw [cF (dF h1), aN]
  by_cases h2 : hi < s[k]
  ·rw [cT (dT h2)];refine ⟨_, rfl, ?_⟩;have : xJ lo hi s[k] = false := dF (by omega);rw [this, dT (by omega)]; rfl
  rw [cF (dF h2), jR (by omega)];have : xJ lo hi s[k] = true := dT (by omega);rw [this, Bool.true_and];exact ih (k + 1) fuel (by omega) (by omega)
theorem BO (lo hi : Int) (s : List Int) (hl : s.length ≤ 4096) : oI 8589934592 lo hi s = some (s.all (xJ lo hi)) := by
 obtain ⟨r, hr, hd⟩ := Vc 8589934592 s lo hi hl s.length 0 8589934592 (by omega) (by omega);unfold oI iC iM;rw [show (0 : Int) = ((0 : Nat) : Int) from rfl] ;rw [hr, aN, aN];rw [List.drop_zero] at hd;have hd' : decide (((0 : Nat) : Int) ≤ r) = !(s.all (xJ lo hi)) := hd;rw [hd', Bool.not_not]
theorem NJ {W H : Int} (hW : -1000 ≤ W ∧ W ≤ 1000) (hH : -1000 ≤ H ∧ H ≤ 1000) (x y : Int) : rZ 8589934592 x y W H = some (!(j5 W H (x, y))) := by
 unfold rZ;rw [jR (by omega), jR (by omega), BO _ _ _ (by simp), aN, BO _ _ _ (by simp)];simp only [List.all_cons, List.all_nil, Bool.and_true]
 by_cases h1 : 0 ≤ x ∧ x ≤ W - 1
 ·have e1 : xJ 0 (W - 1) x = true := dT h1;rw [e1, cF (by rfl), aN]
  congr 2
  unfold j5 xJ;rw [dT (show (0 : Int) ≤ x by omega), dT (show x < W by omega), Bool.true_and, Bool.true_and]
  by_cases h2 : 0 ≤ y ∧ y ≤ H - 1
  ·rw [dT h2, dT (show (0 : Int) ≤ y by omega), dT (show y < H by omega)]; rfl
  ·rw [dF h2]
   by_cases h3 : 0 ≤ y
   ·rw [dF (show ¬ y < H by omega)]; simp
   ·rw [dF h3]; rfl
 ·have e1 : xJ 0 (W - 1) x = false := dF h1;rw [e1, cT (by rfl)]
  congr 1
  unfold j5
  by_cases h3 : 0 ≤ x
  ·rw [dF (show ¬ x < W by omega)]; simp
  ·rw [dF h3]; rfl
theorem NK (s : List (Int × Int)) {W H : Int} (hW : -1000 ≤ W ∧ W ≤ 1000) (hH : -1000 ≤ H ∧ H ≤ 1000) (hl : s.length ≤ 4096) : ∀ (d k fuel : Nat), k + d = s.length → d < fuel →
  ∃ r, dN 8589934592 s W H (fun _ => some (-1)) fuel (k : Int) = some r ∧ decide (0 ≤ r) = !((s.drop k).all (j5 W H)) := by
 intro d
 induction d with
 | zero =>
  intro k fuel hk hf;obtain ⟨fuel, rfl⟩ : ∃ m, fuel = m + 1 := ⟨fuel - 1, by omega⟩
  obtain rfl : k = s.length := by omega
  unfold dN;rw [cF (dF (by omega))];exact ⟨_, rfl, by simp⟩
 | succ d ih =>
  intro k fuel hk hf;obtain ⟨fuel, rfl⟩ : ∃ m, fuel = m + 1 := ⟨fuel - 1, by omega⟩
  have hlt : k < s.length := by omega
  unfold dN;rw [cT (dT (by omega)), jG, List.getElem?_eq_getElem hlt, aN, List.drop_eq_getElem_cons hlt, List.all_cons, NJ hW hH, aN];cases h : j5 W H s[k]
  ·rw [cT (by rfl)];refine ⟨_, rfl, ?_⟩;rw [dT (by omega)]; rfl
  ·rw [cF (by rfl), jR (by omega), Bool.true_and];exact ih (k + 1) fuel (by omega) (by omega)
theorem L1 (s : List (Int × Int)) {W H : Int} (hW : -1000 ≤ W ∧ W ≤ 1000) (hH : -1000 ≤ H ∧ H ≤ 1000) (hl : s.length ≤ 4096) : uF 8589934592 s W H = some (s.all (j5 W H)) := by
 obtain ⟨r, hr, hd⟩ := NK s hW hH hl s.length 0 8589934592 (by omega) (by omega);have hr' : dN 8589934592 s W H (fun _ => some (-1)) 8589934592 0 = some r := hr;unfold uF fD fU;rw [hr', aN, aN, hd, List.drop_zero, Bool.not_not]
theorem Kk (s : List (Int × Int)) {W H : Int} (hW : -1000 ≤ W ∧ W ≤ 1000) (hH : -1000 ≤ H ∧ H ≤ 1000) (hl : s.length ≤ 4096) : ∀ (d k fuel : Nat), k + d = s.length → d < fuel →
  jK 8589934592 s W H (fun _ => some true) fuel (k : Int) = some ((s.drop k).all (j5 W H)) := by
 intro d
 induction d with
 | zero =>
  intro k fuel hk hf;obtain ⟨fuel, rfl⟩ : ∃ m, fuel = m + 1 := ⟨fuel - 1, by omega⟩
  obtain rfl : k = s.length := by omega
  unfold jK;rw [cF (dF (by omega))]
  simp
 | succ d ih =>
  intro k fuel hk hf;obtain ⟨fuel, rfl⟩ : ∃ m, fuel = m + 1 := ⟨fuel - 1, by omega⟩
  have hlt : k < s.length := by omega
  unfold jK;rw [cT (dT (by omega)), jG, List.getElem?_eq_getElem hlt, aN, aN, aN, List.drop_eq_getElem_cons hlt, List.all_cons, jR (x := W - 1) (by omega), jR (x := H - 1) (by omega), nW, aN, nW, aN]
  by_cases h1 : 0 ≤ s[k].1 ∧ s[k].1 ≤ W - 1
  ·rw [cF (by rw [dT h1]; rfl)]
   by_cases h2 : 0 ≤ s[k].2 ∧ s[k].2 ≤ H - 1
   ·rw [cF (by rw [dT h2]; rfl), jR (by omega)]
    have : j5 W H s[k] = true := by
     unfold j5;simp only [Bool.and_eq_true, decide_eq_true_eq]; omega
    rw [this, Bool.true_and];exact ih (k + 1) fuel (by omega) (by omega)
   ·rw [cT (by rw [dF h2]; rfl)]
    have : j5 W H s[k] = false := by
     unfold j5;simp only [Bool.and_eq_false_iff, decide_eq_false_iff_not]; omega
    rw [this]; rfl
  ·rw [cT (by rw [dF h1]; rfl)]
   have : j5 W H s[k] = false := by
    unfold j5;simp only [Bool.and_eq_false_iff, decide_eq_false_iff_not]; omega
   rw [this]; rfl
theorem Fx (s : List (Int × Int)) {W H : Int} (hW : -1000 ≤ W ∧ W ≤ 1000) (hH : -1000 ≤ H ∧ H ≤ 1000) (hl : s.length ≤ 4096) : lR 8589934592 s W H = some (s.all (j5 W H)) := by
 have := Kk s hW hH hl s.length 0 8589934592 (by omega) (by omega);rw [List.drop_zero] at this;exact this
section
variable (ph b0 b1 b2 b3 w : Int) (sp : List (Int × Int)) (g0 g1 g2 m0 m1 m2 m3 m4 m5 m6 m7 m8 : Int) (cv : List (Int × Int)) (am : Int)
def BP : Bool := xJ 0 3 ph && (xJ 1 65535 w && ([b0, b1, b2, b3].all (xJ 0 (w - 1)) && (decide (sp.length ≤ 64) && (sp.all (j5 64 64) && ([g0, g1, g2].all (xJ 0 65535) && (CW m0 m1 m2 m3 m4 m5 m6 m7 m8 && xJ 0 1024 am))))))
theorem NL {b : Bool} (hb : mR 8589934592 cv = some b) (hc : b = true ↔ sF cv) : uH 8589934592 ph b0 b1 b2 b3 w sp g0 g1 g2 m0 m1 m2 m3 m4 m5 m6 m7 m8 cv am = some (if BP ph b0 b1 b2 b3 w sp g0 g1 g2 m0 m1 m2 m3 m4 m5 m6 m7 m8 am = false then 3 else if b = false then 1 else 0) := by
 unfold uH BP;rw [BO _ _ _ (by simp), aN];simp only [List.all_cons, List.all_nil, Bool.and_true];cases h1 : xJ 0 3 ph
 ·rfl
 rw [cF (by rfl), BO _ _ _ (by simp), aN];simp only [List.all_cons, List.all_nil, Bool.and_true, Bool.true_and];cases h2 : xJ 1 65535 w
 ·rfl
 have h2' : 1 ≤ w ∧ w ≤ 65535 := of_decide_eq_true h2;rw [cF (by rfl), jR (by omega), BO _ _ _ (by simp), aN];simp only [List.all_cons, List.all_nil, Bool.and_true, Bool.true_and];cases h3 : (xJ 0 (w - 1) b0 && (xJ 0 (w - 1) b1 && (xJ 0 (w - 1) b2 && xJ 0 (w - 1) b3)))
 ·rfl
 rw [cF (by rfl)]
 by_cases h4 : sp.length ≤ 64
 rotate_left
 ·rw [cT (dT (by omega)), dF h4]; rfl
 rw [cF (dF (by omega)), dT h4, L1 sp (by omega) (by omega) (by omega), aN];simp only [Bool.true_and];cases h5 : sp.all (j5 64 64)
 ·rfl
 rw [cF (by rfl), BO _ _ _ (by simp), aN];simp only [List.all_cons, List.all_nil, Bool.and_true, Bool.true_and];cases h6 : (xJ 0 65535 g0 && (xJ 0 65535 g1 && xJ 0 65535 g2))
 ·rfl
 rw [cF (by rfl), BO _ _ _ (by simp), aN, show [m0, m1, m2, m3, m4, m5, m6, m7, m8].all (xJ (-32768) 32768) = CW m0 m1 m2 m3 m4 m5 m6 m7 m8 from rfl];simp only [Bool.true_and];cases h7 : CW m0 m1 m2 m3 m4 m5 m6 m7 m8
 ·rfl
 rw [cF (by rfl), BO _ _ _ (by simp), aN];simp only [List.all_cons, List.all_nil, Bool.and_true, Bool.true_and];cases h8 : xJ 0 1024 am
 ·rfl
 rw [cF (by rfl), NI hb hc 0, aN]
 cases b <;> rfl
theorem L2 (hw : 1 ≤ w ∧ w ≤ 65535) (kk : Int → Option Int) : fA 8589934592 b0 b1 b2 b3 w kk 8589934592 0 = if [b0, b1, b2, b3].all (xJ 0 (w - 1)) then kk 4 else some 3 := by
 have one : ∀ (fuel : Nat) (i : Nat) (b : Int), i < 4 → idx [b0, b1, b2, b3] (i : Int) = some b → fA 8589934592 b0 b1 b2 b3 w kk (fuel + 1) (i : Int) = if xJ 0 (w - 1) b then fA 8589934592 b0 b1 b2 b3 w kk fuel ((i + 1 : Nat) : Int) else some 3 := fun fuel i b hi hx => by
  conv => lhs; unfold fA
  rw [cT (dT (by omega)), NE (by omega), aN, hx, aN, jR (x := w - 1) (by omega), nW, aN, jR (by omega), aN, show decide (0 ≤ b ∧ b ≤ w - 1) = xJ 0 (w - 1) b from rfl]
  cases xJ 0 (w - 1) b <;> rfl
 have h0 := one 8589934591 0 b0 (by decide) rfl;have h1 := one 8589934590 1 b1 (by decide) rfl;have h2 := one 8589934589 2 b2 (by decide) rfl;have h3 := one 8589934588 3 b3 (by decide) rfl
 have h4 : fA 8589934592 b0 b1 b2 b3 w kk 8589934588 ((3 + 1 : Nat) : Int) = kk 4 := by
  show fA 8589934592 b0 b1 b2 b3 w kk (8589934587 + 1) 4 = kk 4;unfold fA;rw [cF (by decide)]
 refine h0.trans ?_;simp only [List.all_cons, List.all_nil, Bool.and_true];cases xJ 0 (w - 1) b0
 ·rfl
 refine h1.trans ?_;cases xJ 0 (w - 1) b1
 ·rfl
 refine h2.trans ?_;cases xJ 0 (w - 1) b2
 ·rfl
 refine h3.trans ?_;cases xJ 0 (w - 1) b3
 ·rfl
 exact h4
theorem NM (kk : Int → Option Int) : eZ 8589934592 g0 g1 g2 kk 8589934592 0 = if [g0, g1, g2].all (xJ 0 65535) then kk 3 else some 3 := by
 have one : ∀ (fuel : Nat) (i : Nat) (b : Int), i < 3 → idx [g0, g1, g2] (i : Int) = some b → eZ 8589934592 g0 g1 g2 kk (fuel + 1) (i : Int) = if xJ 0 65535 b then eZ 8589934592 g0 g1 g2 kk fuel ((i + 1 : Nat) : Int) else some 3 := fun fuel i b hi hx => by
  conv => lhs; unfold eZ
  rw [cT (dT (by omega)), NE (by omega), aN, hx, aN, nW, aN, jR (by omega), aN, show decide (0 ≤ b ∧ b ≤ 65535) = xJ 0 65535 b from rfl]
  cases xJ 0 65535 b <;> rfl
 have h0 := one 8589934591 0 g0 (by decide) rfl;have h1 := one 8589934590 1 g1 (by decide) rfl;have h2 := one 8589934589 2 g2 (by decide) rfl
 have h3 : eZ 8589934592 g0 g1 g2 kk 8589934589 ((2 + 1 : Nat) : Int) = kk 3 := by
  show eZ 8589934592 g0 g1 g2 kk (8589934588 + 1) 3 = kk 3;unfold eZ;rw [cF (by decide)]
 refine h0.trans ?_;simp only [List.all_cons, List.all_nil, Bool.and_true];cases xJ 0 65535 g0
 ·rfl
 refine h1.trans ?_;cases xJ 0 65535 g1
 ·rfl
 refine h2.trans ?_;cases xJ 0 65535 g2
 ·rfl
 exact h3
theorem Hj {b : Bool} (hb : gT 8589934592 cv = some b) : kX 8589934592 ph b0 b1 b2 b3 w sp g0 g1 g2 m0 m1 m2 m3 m4 m5 m6 m7 m8 cv am = some (if BP ph b0 b1 b2 b3 w sp g0 g1 g2 m0 m1 m2 m3 m4 m5 m6 m7 m8 am = false then 3 else if b = false then 1 else 0) := by
 unfold kX BP;rw [nW, aN, show decide (0 ≤ ph ∧ ph ≤ 3) = xJ 0 3 ph from rfl];cases h1 : xJ 0 3 ph
 ·rfl
 rw [cF (by rfl), nW, aN, show decide (1 ≤ w ∧ w ≤ 65535) = xJ 1 65535 w from rfl];simp only [Bool.true_and];cases h2 : xJ 1 65535 w
 ·rfl
 have h2' : 1 ≤ w ∧ w ≤ 65535 := of_decide_eq_true h2;rw [cF (by rfl)]
 by_cases h4 : sp.length ≤ 64
 rotate_left
 ·rw [cT (dT (by omega)), dF h4]; simp
 rw [cF (dF (by omega)), dT h4, Fx sp (by omega) (by omega) (by omega), aN];cases h5 : sp.all (j5 64 64)
 ·simp
 rw [cF (by rfl), Kf 8589934592 m0 m1 m2 m3 m4 m5 m6 m7 m8 (by omega), aN];cases h7 : CW m0 m1 m2 m3 m4 m5 m6 m7 m8
 ·simp
 rw [cF (by rfl), nW, aN, show decide (0 ≤ am ∧ am ≤ 1024) = xJ 0 1024 am from rfl];cases h8 : xJ 0 1024 am
 ·simp
 rw [cF (by rfl), L2 b0 b1 b2 b3 w h2'];cases h3 : [b0, b1, b2, b3].all (xJ 0 (w - 1))
 ·rfl
 rw [if_pos rfl, NM g0 g1 g2];cases h6 : [g0, g1, g2].all (xJ 0 65535)
 ·rfl
 rw [if_pos rfl, hb, aN]
 cases b <;> rfl
end
theorem ways {o : Int} (h : 1 ≤ o ∧ o ≤ 8) : o = 1 ∨ o = 2 ∨ o = 3 ∨ o = 4 ∨ o = 5 ∨ o = 6 ∨ o = 7 ∨ o = 8 := by omega
end
end Go.Proofs.YtpmnfhifmmfglacGreatDoor
