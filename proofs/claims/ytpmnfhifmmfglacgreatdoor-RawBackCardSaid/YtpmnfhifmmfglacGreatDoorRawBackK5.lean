/- Texts of the claim RawBack, joined and made small by a program. -/
import Derived.Test.YtpmnfhifmmfglacGreatDoorRawBackK3
import Derived.Test.YtpmnfhifmmfglacGreatDoorRawBackK4
set_option linter.unusedVariables false
set_option linter.unusedSimpArgs false
set_option linter.unusedSectionVars false
set_option maxRecDepth 100000
set_option maxHeartbeats 8000000
namespace Go.Proofs.YtpmnfhifmmfglacGreatDoor
section
def AP (N : Nat) (n v0 v1 : Int) : Option Bool :=
 cond (decide (n < v0)) (
 some true) (
 some (decide (v1 < n)))
def eK (N : Nat) (s : List Int) (zG zH : Int) (kk : Int → Option Int) : Nat → Int → Option Int
 | 0, _ => none
 | fuel + 1, i =>
  cond (decide (i < (s.length : Int))) (
  Option.bind (idx s i) fun e2 =>
  Option.bind (AP N e2 zG zH) fun r3 =>
  cond (r3) (
  some i) (
  eK N s zG zH kk fuel (IntKind.i64.wrap (i + 1)))) (
  kk i)
def iM (N : Nat) (s : List Int) (zG zH : Int) : Option Int :=
 eK N s zG zH (fun i2 =>
 some ((-1))) N 0
def hZ (N : Nat) (s : List Int) (zG zH : Int) : Option Bool :=
 Option.bind (iM N s zG zH) fun r2 =>
 some (decide (0 ≤ r2))
def pR (N : Nat) (low high : Int) (l2 : List Int) : Option Bool :=
 Option.bind (hZ N l2 low high) fun r2 =>
 some (!(r2))
def t7 (N : Nat) (MA NC v0 v1 : Int) : Option Bool :=
 Option.bind (pR N 0 (IntKind.i64.wrap (v0 - 1)) ([MA] : List Int)) fun r2 =>
 cond (!(r2)) (
 some true) (
 Option.bind (pR N 0 (IntKind.i64.wrap (v1 - 1)) ([NC] : List Int)) fun r3 =>
 some (!(r3)))
def dH (N : Nat) (s : List (Int × Int)) (pS pT : Int) (kk : Int → Option Int) : Nat → Int → Option Int
 | 0, _ => none
 | fuel + 1, i =>
  cond (decide (i < (s.length : Int))) (
  Option.bind (idx s i) fun e2 =>
  Option.bind (t7 N e2.1 e2.2 pS pT) fun r3 =>
  cond (r3) (
  some i) (
  dH N s pS pT kk fuel (IntKind.i64.wrap (i + 1)))) (
  kk i)
def fP (N : Nat) (s : List (Int × Int)) (pS pT : Int) : Option Int :=
 dH N s pS pT (fun i2 =>
 some ((-1))) N 0
def eR (N : Nat) (s : List (Int × Int)) (pS pT : Int) : Option Bool :=
 Option.bind (fP N s pS pT) fun r2 =>
 some (decide (0 ≤ r2))
def wT (N : Nat) (l2 : List (Int × Int)) (w2 h2 : Int) : Option Bool :=
 Option.bind (eR N l2 w2 h2) fun r2 =>
 some (!(r2))
def pU (N : Nat) (d l2 : List (Int × Int)) (kk : Int → Option Bool) : Nat → Int → Option Bool
 | 0, _ => none
 | fuel + 1, i =>
  cond (decide (i < (l2.length : Int))) (
  Option.bind (idx d i) fun e9 =>
  Option.bind (idx d (IntKind.i64.wrap (i + 1))) fun e10 =>
  cond (decide (e10.1 ≤ e9.1)) (
  some false) (
  Option.bind (idx d i) fun e11 =>
  Option.bind (idx d (IntKind.i64.wrap (i + 1))) fun e12 =>
  cond (decide (e12.2 < e11.2)) (
  some false) (
  pU N d l2 kk fuel (IntKind.i64.wrap (i + 1))))) (
  kk i)
def jT (N : Nat) (d : List (Int × Int)) : Option Bool :=
 cond (decide ((d.length : Int) < 2)) (
 some false) (
 cond (decide (16 < (d.length : Int))) (
 some false) (
 Option.bind (idx d 0) fun e =>
 cond (!decide (e.1 = 0)) (
 some false) (
 Option.bind (idx d (IntKind.i64.wrap ((d.length : Int) - 1))) fun e2 =>
 cond (!decide (e2.1 = 65535)) (
 some false) (
 Option.bind (idx d 0) fun e3 =>
 cond (decide (e3.2 < 0)) (
 some false) (
 Option.bind (idx d (IntKind.i64.wrap ((d.length : Int) - 1))) fun e4 =>
 cond (decide (65535 < e4.2)) (
 some false) (
 Option.bind (Bv d 1 (d.length : Int)) fun l2 =>
 pU N d l2 (fun i2 =>
 some true) N 0))))))
def AQ (N : Nat) (i : Int) (v0 : List (Int × Int)) (v1 : Int) : Option Bool :=
 Option.bind (idx v0 i) fun e =>
 some (decide (v1 < e.1))
def fD (N : Nat) (Bb : List (Int × Int)) (CQ : Int) (kk : (Int × Int) → Option Int) : Nat → (Int × Int) → Option Int
 | 0, _ => none
 | fuel + 1, (i, j) =>
  cond (decide (i < j)) (
  Option.bind (some (IntKind.i64.wrap (iZ .u64 (IntKind.u64.wrap (IntKind.i64.wrap (i + j))) 1))) fun h3 =>
  Option.bind (AQ N h3 Bb CQ) fun r3 =>
  cond (!(r3)) (
  Option.bind (some (IntKind.i64.wrap (h3 + 1))) fun i3 =>
  fD N Bb CQ kk fuel (i3, j)) (
  fD N Bb CQ kk fuel (i, h3))) (
  kk (i, j))
def nL (N : Nat) (n : Int) (Bb : List (Int × Int)) (CQ : Int) : Option Int :=
 fD N Bb CQ (fun (i4, j2) =>
 some i4) N (0, n)
def wE (N : Nat) (l2 : List (Int × Int)) (x2 : Int) : Option Int :=
 Option.bind (nL N (l2.length : Int) l2 x2) fun r2 =>
 cond (decide (r2 = (l2.length : Int))) (
 Option.bind (idx l2 (IntKind.i64.wrap (r2 - 1))) fun e =>
 some e.2) (
 Option.bind (idx l2 (IntKind.i64.wrap (r2 - 1))) fun e2 =>
 Option.bind (idx l2 r2) fun e3 =>
 Option.bind (nz (IntKind.i64.wrap (e3.1 - e2.1))) fun _ =>
 Option.bind (some (IntKind.i64.wrap (e2.2 + (IntKind.i64.wrap (Int.tdiv (IntKind.i64.wrap ((IntKind.i64.wrap (e3.2 - e2.2)) * (IntKind.i64.wrap (x2 - e2.1)))) (IntKind.i64.wrap (e3.1 - e2.1))))))) fun x3 =>
 some x3)
def wU (N : Nat) (l2 : List (Int × Int)) (x2 : Int) : Option (Int × Int) :=
 Option.bind (jT N l2) fun r2 =>
 cond (!(r2)) (
 some (0, 1)) (
 cond (decide (x2 < 0)) (
 some (0, 3)) (
 cond (decide (65535 < x2)) (
 some (0, 3)) (
 Option.bind (wE N l2 x2) fun r3 =>
 some (r3, 0))))
def wV (N : Nat) (na nb0 XW XX XY nc : Int) (nd : List (Int × Int)) (Wr ne1 XZ X0 X1 X2 X3 X4 X5 X6 X7 nf8 : Int) (ng : List (Int × Int)) (nh : Int) : Option Int :=
 Option.bind (pR N 0 3 ([na] : List Int)) fun r2 =>
 cond (!(r2)) (
 some 3) (
 Option.bind (pR N 1 65535 ([nc] : List Int)) fun r3 =>
 cond (!(r3)) (
 some 3) (
 Option.bind (pR N 0 (IntKind.i64.wrap (nc - 1)) ([nb0, XW, XX, XY])) fun r4 =>
 cond (!(r4)) (
 some 3) (
 cond (decide (64 < (nd.length : Int))) (
 some 3) (
 Option.bind (wT N nd 64 64) fun r5 =>
 cond (!(r5)) (
 some 3) (
 Option.bind (pR N 0 65535 ([Wr, ne1, XZ])) fun r6 =>
 cond (!(r6)) (
 some 3) (
 Option.bind (pR N (-32768) 32768 ([X0, X1, X2, X3, X4, X5, X6, X7, nf8])) fun r7 =>
 cond (!(r7)) (
 some 3) (
 Option.bind (pR N 0 1024 ([nh] : List Int)) fun r8 =>
 cond (!(r8)) (
 some 3) (
 Option.bind (wU N ng 0) fun r9 =>
 some r9.2))))))))
def oA (N : Nat) (lens : List Int) (kk : (Int × Int) → Option Int) : Nat → (Int × Int) → Option Int
 | 0, _ => none
 | fuel + 1, (room, i) =>
  cond (decide (i < (lens.length : Int))) (
  Option.bind (idx lens i) fun e2 =>
  cond (decide (e2 < 0)) (
  some 3) (
  cond (decide (15 < e2)) (
  some 3) (
  cond (decide (0 < e2)) (
  Option.bind (nn (IntKind.i64.wrap (15 - e2))) fun _ =>
  Option.bind (some (IntKind.i64.wrap (room - (nX .i64 1 (IntKind.i64.wrap (15 - e2)))))) fun QE =>
  oA N lens kk fuel (QE, IntKind.i64.wrap (i + 1))) (
  oA N lens kk fuel (room, IntKind.i64.wrap (i + 1)))))) (
  kk (room, i))
def sG (N : Nat) (lens : List Int) : Option Int :=
 cond (decide ((lens.length : Int) < 1)) (
 some 2) (
 cond (decide (17 < (lens.length : Int))) (
 some 2) (
 oA N lens (fun (G5, i2) =>
 cond (decide (G5 < 0)) (
 some 1) (
 cond (decide (G5 = 32768)) (
 some 1) (
 some 0))) N (32768, 0)))
def xZ (N : Nat) (qG dW : Int) (Ak : Bool → Option Int) : Option Int :=
  cond (decide (dW < 1)) (
  Ak (decide (dW < 1))) (
  Ak (decide (qG < dW)))
def yA (N : Nat) (qG dP dW : Int) (Al : Bool → Option Int) : Option Int :=
  cond (decide (16 < dP)) (
  Al (decide (16 < dP))) (
  xZ N qG dW (fun X8 =>
  Al X8))
def yB (N : Nat) (qG dP dW : Int) (Am : Bool → Option Int) : Option Int :=
  cond (decide (dP < 1)) (
  Am (decide (dP < 1))) (
  yA N qG dP dW (fun i12 =>
  Am i12))
def yC (N : Nat) (qG dP dW : Int) (An : Bool → Option Int) : Option Int :=
  cond (decide (64 < qG)) (
  An (decide (64 < qG))) (
  yB N qG dP dW (fun FV =>
  An FV))
def yD (N : Nat) (qG dP dW : Int) (Ao : Bool → Option Int) : Option Int :=
  cond (decide (qG < 1)) (
  Ao (decide (qG < 1))) (
  yC N qG dP dW (fun i8 =>
  Ao i8))
def yE (N : Nat) (vC qG dP dW : Int) (Ap : Bool → Option Int) : Option Int :=
  cond (decide (64 < vC)) (
  Ap (decide (64 < vC))) (
  yD N qG dP dW (fun i6 =>
  Ap i6))
def yF (N : Nat) (eO : Int) (Aq : Bool → Option Int) : Option Int :=
  cond (decide (eO < 0)) (
  Aq (decide (eO < 0))) (
  Aq (decide (7 < eO)))
def yG (N : Nat) (vC qG dP dW : Int) (Ar : Bool → Option Int) : Option Int :=
  cond (decide (vC < 1)) (
  Ar (decide (vC < 1))) (
  yE N vC qG dP dW (fun i4 =>
  Ar i4))
def xP (N : Nat) (vC qG dP eO dW : Int) (eN : List Int) (dJ : List (List UInt8)) (cQ bU bV bW bX cR : Int) (aX : List (Int × Int)) (bY bZ cA aY aZ bA bB bC bD bE bF bG : Int) (bH : List (Int × Int)) (cB : Int) : Option Int :=
 yG N vC qG dP dW (fun i2 =>
 cond (i2) (
 some 3) (
 yF N eO (fun i16 =>
 cond (i16) (
 some 6) (
 cond (decide (0 < eO)) (
 Option.bind (sG N eN) fun r2 =>
 some r2) (
 cond (decide (0 < (eN.length : Int))) (
 some 1) (
 some 0))))))
def z6 (N : Nat) (MA NC QF Tn G6 JE JF : Int) (EO : List Int) (Bx : List (List UInt8)) (Bc As At Au Av Bd : Int) (vE : List (Int × Int)) (Aw Ax Ay zI zJ zK zL zM zN zO zP zQ : Int) (vF : List (Int × Int)) (Az : Int) : Option Bool :=
 cond (decide (QF ≤ MA)) (
 some true) (
 some (decide (Tn ≤ NC)))
def dI (N : Nat) (s : List (Int × Int)) (oB oC j0 kR kS : Int) (iG : List Int) (gI : List (List UInt8)) (gJ fT fU fV fW gK : Int) (eG : List (Int × Int)) (fX fY fZ fG fH fI fJ fK fL fM fN fO : Int) (eH : List (Int × Int)) (f5 : Int) (kk : Int → Option Int) : Nat → Int → Option Int
 | 0, _ => none
 | fuel + 1, i =>
  cond (decide (i < (s.length : Int))) (
  Option.bind (idx s i) fun e2 =>
  Option.bind (z6 N e2.1 e2.2 oB oC j0 kR kS iG gI gJ fT fU fV fW gK eG fX fY fZ fG fH fI fJ fK fL fM fN fO eH f5) fun r3 =>
  cond (r3) (
  some i) (
  dI N s oB oC j0 kR kS iG gI gJ fT fU fV fW gK eG fX fY fZ fG fH fI fJ fK fL fM fN fO eH f5 kk fuel (IntKind.i64.wrap (i + 1)))) (
  kk i)
def fS (N : Nat) (s : List (Int × Int)) (oB oC j0 kR kS : Int) (iG : List Int) (gI : List (List UInt8)) (gJ fT fU fV fW gK : Int) (eG : List (Int × Int)) (fX fY fZ fG fH fI fJ fK fL fM fN fO : Int) (eH : List (Int × Int)) (f5 : Int) : Option Int :=
 dI N s oB oC j0 kR kS iG gI gJ fT fU fV fW gK eG fX fY fZ fG fH fI fJ fK fL fM fN fO eH f5 (fun i2 =>
 some ((-1))) N 0
def eC (N : Nat) (s : List (Int × Int)) (oB oC j0 kR kS : Int) (iG : List Int) (gI : List (List UInt8)) (gJ fT fU fV fW gK : Int) (eG : List (Int × Int)) (fX fY fZ fG fH fI fJ fK fL fM fN fO : Int) (eH : List (Int × Int)) (f5 : Int) : Option Bool :=
 Option.bind (fS N s oB oC j0 kR kS iG gI gJ fT fU fV fW gK eG fX fY fZ fG fH fI fJ fK fL fM fN fO eH f5) fun r2 =>
 some (decide (0 ≤ r2))
def xQ (N : Nat) (vC qG dP eO dW : Int) (eN : List Int) (dJ : List (List UInt8)) (cQ bU bV bW bX cR : Int) (aX : List (Int × Int)) (bY bZ cA aY aZ bA bB bC bD bE bF bG : Int) (bH : List (Int × Int)) (cB : Int) : Option Int :=
 Option.bind (wV N cQ bU bV bW bX cR aX bY bZ cA aY aZ bA bB bC bD bE bF bG bH cB) fun r2 =>
 cond (!decide (r2 = 0)) (
 some r2) (
 Option.bind (eC N aX vC qG dP eO dW eN dJ cQ bU bV bW bX cR aX bY bZ cA aY aZ bA bB bC bD bE bF bG bH cB) fun r3 =>
 cond (r3) (
 some 3) (
 some 0))
def j6 (N : Nat) (x2 : List Int) (kk : (Int × Int) → Option Int) : Nat → (Int × Int) → Option Int
 | 0, _ => none
 | fuel + 1, (m, i) =>
  cond (decide (i < (x2.length : Int))) (
  Option.bind (idx x2 i) fun e3 =>
  Option.bind (some (max m e3)) fun m3 =>
  Option.bind (some (IntKind.i64.wrap (i + 1))) fun i3 =>
  j6 N x2 kk fuel (m3, i3)) (
  kk (m, i))
def lG (N : Nat) (x2 : List Int) : Option Int :=
 cond (decide ((x2.length : Int) < 1)) (
 none) (
 Option.bind (idx x2 0) fun e =>
 j6 N x2 (fun (m4, i4) =>
 some m4) N (e, 1))
def lR (N : Nat) (s : List Int) : Option (List Int) :=
 Option.bind (app 8 ([] : List Int) s) fun l2 =>
 some l2
def iI (N : Nat) (s : List (Int × Int)) : Option (List (Int × Int)) :=
 Option.bind (app 16 (([] : List (Int × Int))) s) fun l2 =>
 some l2
def hJ (N : Nat) (s : List (Int × Int)) : Option (List (Int × Int)) :=
 Option.bind (app 16 (([] : List (Int × Int))) s) fun l2 =>
 some l2
def pV (N : Nat) (qG dW : Int) (kk : (List (Int × Int) × Int) → Option (List (Int × Int))) : Nat → (List (Int × Int) × Int) → Option (List (Int × Int))
 | 0, _ => none
 | fuel + 1, (l3, y2) =>
  cond (decide (y2 < qG)) (
  Option.bind (app 16 l3 (([(y2, min dW (IntKind.i64.wrap (qG - y2)))] : List (Int × Int)))) fun l5 =>
  Option.bind (some (IntKind.i64.wrap (y2 + dW))) fun y4 =>
  pV N qG dW kk fuel (l5, y4)) (
  kk (l3, y2))
def uT (N : Nat) (vC qG dP eO dW : Int) (eN : List Int) (dJ : List (List UInt8)) (cQ bU bV bW bX cR : Int) (aX : List (Int × Int)) (bY bZ cA aY aZ bA bB bC bD bE bF bG : Int) (bH : List (Int × Int)) (cB : Int) : Option (List (Int × Int)) :=
 pV N qG dW (fun (l6, y5) =>
 some l6) N (([] : List (Int × Int)), 0)
def sX (N : Nat) (n : Int) : Option Bool :=
 cond (decide (1 ≤ n)) (
 some (decide (n ≤ 16))) (
 some false)
def rD (N : Nat) (x6 : Int) (kk : (List Int × Int) → Option (List UInt8 × Int)) : Nat → (List Int × Int) → Option (List UInt8 × Int)
 | 0, _ => none
 | fuel + 1, (l5, i5) =>
  cond (decide (8 ≤ i5)) (
  Option.bind (some (IntKind.i64.wrap (i5 - 8))) fun x9 =>
  Option.bind (nn x9) fun _ =>
  Option.bind (app 1 l5 (([IntKind.u8.wrap (iZ .i64 x6 x9)] : List Int))) fun l7 =>
  rD N x6 kk fuel (l7, x9)) (
  kk (l5, i5))
def rE (N : Nat) (d : List Int) (o : Int) (kk : (List Int × Int × Int × Int) → Option (List UInt8 × Int)) : Nat → (List Int × Int × Int × Int) → Option (List UInt8 × Int)
 | 0, _ => none
 | fuel + 1, (l2, i, i2, i3) =>
  cond (decide (i3 < (d.length : Int))) (
  Option.bind (idx d i3) fun e2 =>
  cond (decide (e2 < 0)) (
  some (([] : List UInt8), 3)) (
  Option.bind (nn o) fun _ =>
  cond (decide ((nX .i64 1 o) ≤ e2)) (
  some (([] : List UInt8), 3)) (
  Option.bind (nn o) fun _ =>
  Option.bind (some (Iu .i64 (nX .i64 i o) e2)) fun x6 =>
  Option.bind (some (IntKind.i64.wrap (i2 + o))) fun x7 =>
  rD N x6 (fun (l8, i6) =>
  Option.bind (nn i6) fun _ =>
  Option.bind (some (Fz .i64 x6 (IntKind.i64.wrap ((nX .i64 1 i6) - 1)))) fun x10 =>
  rE N d o kk fuel (l8, x10, i6, IntKind.i64.wrap (i3 + 1))) N (l2, x7)))) (
  kk (l2, i, i2, i3))
def yU (N : Nat) (d : List Int) (o : Int) : Option (List UInt8 × Int) :=
 Option.bind (sX N o) fun r2 =>
 cond (!(r2)) (
 some (([] : List UInt8), 3)) (
 cond (decide (4096 < (d.length : Int))) (
 some (([] : List UInt8), 2)) (
 Option.bind (Qe 1 (IntKind.i64.wrap (Int.tdiv (IntKind.i64.wrap ((IntKind.i64.wrap ((d.length : Int) * o)) + 7)) 8))) fun _ =>
 rE N d o (fun (l9, i7, i8, i9) =>
 cond (decide (0 < i8)) (
 Option.bind (nn (IntKind.i64.wrap (8 - i8))) fun _ =>
 Option.bind (app 1 l9 (([IntKind.u8.wrap (nX .i64 i7 (IntKind.i64.wrap (8 - i8)))] : List Int))) fun l10 =>
 some (toB l10, 0)) (
 some (toB l9, 0))) N (([] : List Int), 0, 0, 0)))
def rF (N : Nat) (zR : List Int) (kk : Int → Option Bool) : Nat → Int → Option Bool
 | 0, _ => none
 | fuel + 1, i =>
  cond (decide (i < (zR.length : Int))) (
  Option.bind (idx zR i) fun e2 =>
  cond (decide (e2 < 0)) (
  some false) (
  cond (decide (65535 < e2)) (
  some false) (
  rF N zR kk fuel (IntKind.i64.wrap (i + 1))))) (
  kk i)
def yV (N : Nat) (DU Eg : Int) (zR : List Int) : Option Bool :=
 cond (decide (DU < 1)) (
 some false) (
 cond (decide (64 < DU)) (
 some false) (
 cond (decide (Eg < 1)) (
 some false) (
 cond (decide (64 < Eg)) (
 some false) (
 cond (!decide ((zR.length : Int) = (IntKind.i64.wrap (DU * Eg)))) (
 some false) (
 rF N zR (fun i2 =>
 some true) N 0)))))
def sS (N : Nat) (x2 : Int) : Option Bool :=
 some (!decide (x2 = x2))
def tP (N : Nat) (x2 y : Int) : Option Int :=
 Option.bind (sS N x2) fun r2 =>
 Option.bind (sS N y) fun r3 =>
 cond (r2) (
 cond (r3) (
 some 0) (
 some ((-1)))) (
 cond (r3) (
 some 1) (
 cond (decide (x2 < y)) (
 some ((-1))) (
 cond (decide (y < x2)) (
 some 1) (
 some 0))))
def t8 (N : Nat) (a2 b : Int) (v0 : List Int) : Option Int :=
 Option.bind (idx v0 a2) fun e =>
 Option.bind (idx v0 b) fun e2 =>
 Option.bind (tP N e e2) fun r2 =>
 some r2
def oX (N : Nat) (n size : Int) (kk : (List Int × Int × Int) → Option (List UInt8)) : Nat → (List Int × Int × Int) → Option (List UInt8)
 | 0, _ => none
 | fuel + 1, (l3, i, i2) =>
  cond (decide (i2 < i)) (
  Option.bind (nn (IntKind.i64.wrap ((IntKind.i64.wrap (size - 1)) - i2))) fun _ =>
  Option.bind (idx ([48, 49] : List UInt8) (Fz .i64 (iZ .i64 n (IntKind.i64.wrap ((IntKind.i64.wrap (size - 1)) - i2))) 1)) fun b2 =>
  Option.bind (idx l3 i2) fun e2 =>
  Option.bind (v6 l3 i2 (b2.toNat : Int)) fun l5 =>
  oX N n size kk fuel (l5, i, IntKind.i64.wrap (i2 + 1))) (
  kk (l3, i, i2))
def qJ (N : Nat) (n size : Int) : Option (List UInt8) :=
 Option.bind (mk 1 size (0 : Int)) fun l2 =>
 oX N n size (fun (l6, i3, i4) =>
 some (toB l6)) N (l2, (l2.length : Int), 0)
def lJ (N : Nat) (n size : Int) : Option (List UInt8 × Int) :=
 cond (decide (size < 0)) (
 some (([] : List UInt8), 3)) (
 cond (decide (16 < size)) (
 some (([] : List UInt8), 3)) (
 cond (decide (n < 0)) (
 some (([] : List UInt8), 3)) (
 Option.bind (nn size) fun _ =>
 cond (decide ((nX .i64 1 size) ≤ n)) (
 some (([] : List UInt8), 3)) (
 Option.bind (qJ N n size) fun r2 =>
 some (r2, 0)))))
def pW (N : Nat) (d : List Int) (kk : (List Int × Int) → Option (List (List UInt8) × Int)) : Nat → (List Int × Int) → Option (List (List UInt8) × Int)
 | 0, _ => none
 | fuel + 1, (MB, j4) =>
  cond (decide (0 < j4)) (
  Option.bind (idx MB j4) fun e20 =>
  Option.bind (idx MB (IntKind.i64.wrap (j4 - 1))) fun e21 =>
  Option.bind (t8 N e20 e21 d) fun r5 =>
  cond (decide (r5 < 0)) (
  Option.bind (idx MB (IntKind.i64.wrap (j4 - 1))) fun e22 =>
  Option.bind (idx MB j4) fun e23 =>
  Option.bind (idx MB j4) fun e24 =>
  Option.bind (v6 MB j4 e22) fun l18 =>
  Option.bind (idx l18 (IntKind.i64.wrap (j4 - 1))) fun e25 =>
  Option.bind (v6 l18 (IntKind.i64.wrap (j4 - 1)) e23) fun l19 =>
  Option.bind (some (IntKind.i64.wrap (j4 - 1))) fun j7 =>
  pW N d kk fuel (l19, j7)) (
  kk (MB, j4))) (
  kk (MB, j4))
def mQ (N : Nat) (d FW : List Int) (kk : (List (List UInt8) × Int × Int) → Option (List (List UInt8) × Int)) : Nat → (List (List UInt8) × Int × Int) → Option (List (List UInt8) × Int)
 | 0, _ => none
 | fuel + 1, (To, i8, i9) =>
  cond (decide (i9 < (FW.length : Int))) (
  Option.bind (idx FW i9) fun e33 =>
  Option.bind (idx d e33) fun e34 =>
  Option.bind (nn (IntKind.i64.wrap (15 - e34))) fun _ =>
  Option.bind (idx d e33) fun e35 =>
  Option.bind (lJ N (iZ .i64 i8 (IntKind.i64.wrap (15 - e34))) e35) fun r7 =>
  Option.bind (idx To e33) fun e36 =>
  Option.bind (v6 To e33 r7.1) fun l27 =>
  Option.bind (idx d e33) fun e37 =>
  Option.bind (nn (IntKind.i64.wrap (15 - e37))) fun _ =>
  Option.bind (some (IntKind.i64.wrap (i8 + (nX .i64 1 (IntKind.i64.wrap (15 - e37)))))) fun x4 =>
  mQ N d FW kk fuel (l27, x4, IntKind.i64.wrap (i9 + 1))) (
  kk (To, i8, i9))
def lN (N : Nat) (d : List Int) (kk : (List Int × Int × Int) → Option (List (List UInt8) × Int)) : Nat → (List Int × Int × Int) → Option (List (List UInt8) × Int)
 | 0, _ => none
 | fuel + 1, (l7, b, i4) =>
  cond (decide (i4 < b)) (
  pW N d (fun (Y0, j9) =>
  Option.bind (some (IntKind.i64.wrap (i4 + 1))) fun i6 =>
  lN N d kk fuel (Y0, b, i6)) N (l7, i4)) (
  kk (l7, b, i4))
def oD (N : Nat) (d : List Int) (kk : (List Int × Int) → Option (List (List UInt8) × Int)) : Nat → (List Int × Int) → Option (List (List UInt8) × Int)
 | 0, _ => none
 | fuel + 1, (l3, i) =>
  cond (decide (i < (d.length : Int))) (
  Option.bind (idx d i) fun e3 =>
  cond (decide (0 < e3)) (
  Option.bind (app 8 l3 ([i] : List Int)) fun l5 =>
  oD N d kk fuel (l5, IntKind.i64.wrap (i + 1))) (
  oD N d kk fuel (l3, IntKind.i64.wrap (i + 1)))) (
  kk (l3, i))
def p6 (N : Nat) (d : List Int) : Option (List (List UInt8) × Int) :=
 Option.bind (sG N d) fun r2 =>
 cond (!decide (r2 = 0)) (
 some (([] : List (List UInt8)), r2)) (
 oD N d (fun (l6, i2) =>
 cond (decide (20 ≤ (l6.length : Int))) none (
 Option.bind (some (IntKind.i64.wrap (0 + 1))) fun i3 =>
 lN N d (fun (FW, b2, i7) =>
 Option.bind (Bw l6 FW) fun _ =>
 cond (decide (20 < (FW.length : Int))) none (
 Option.bind (Bw l6 FW) fun _ =>
 Option.bind (Bw l6 FW) fun _ =>
 Option.bind (some ((d.length : Int))) fun x2 =>
 Option.bind (mk 16 x2 (([] : List UInt8) : List UInt8)) fun X9 =>
 mQ N d FW (fun (Uz, FV, i11) =>
 some (Uz, 0)) N (X9, 0, 0))) N (l6, (l6.length : Int), i3))) N (([] : List Int), 0))
def nM (N : Nat) (nN oI : Int) (xI : List Int) (o p2 : Int) : Option Int :=
 Option.bind (nz nN) fun _ =>
 Option.bind (nz nN) fun _ =>
 cond (decide (p2 = 0)) (
 some 32768) (
 cond (decide ((IntKind.i64.wrap (Int.tdiv p2 nN)) = 0)) (
 Option.bind (idx xI (IntKind.i64.wrap (p2 - 1))) fun e =>
 some e) (
 cond (decide ((Int.tmod p2 nN) = 0)) (
 Option.bind (idx xI (IntKind.i64.wrap (p2 - nN))) fun e2 =>
 some e2) (
 Option.bind (idx xI (IntKind.i64.wrap (p2 - 1))) fun e3 =>
 Option.bind (idx xI (IntKind.i64.wrap (p2 - nN))) fun e4 =>
 Option.bind (idx xI (IntKind.i64.wrap ((IntKind.i64.wrap (p2 - nN)) - 1))) fun e5 =>
 Option.bind (idx [0, e3, e4, e5, IntKind.i64.wrap ((IntKind.i64.wrap (e3 + e4)) - e5), IntKind.i64.wrap (e3 + (iZ .i64 (IntKind.i64.wrap (e4 - e5)) 1)), IntKind.i64.wrap (e4 + (iZ .i64 (IntKind.i64.wrap (e3 - e5)) 1)), iZ .i64 (IntKind.i64.wrap (e3 + e4)) 1] o) fun e6 =>
 some e6)))
def tQ (N : Nat) (x2 : Int) : Option Int :=
 cond (decide (4294967296 ≤ x2)) (
 Option.bind (some (iZ .u64 x2 32)) fun x3 =>
 cond (decide (65536 ≤ x3)) (
 Option.bind (some (iZ .u64 x3 16)) fun x4 =>
 Option.bind (some (IntKind.i64.wrap (32 + 16))) fun n =>
 cond (decide (256 ≤ x4)) (
 Option.bind (some (iZ .u64 x4 8)) fun x5 =>
 Option.bind (some (IntKind.i64.wrap (n + 8))) fun n2 =>
 Option.bind (idx Iv (IntKind.u8.wrap x5)) fun b =>
 Option.bind (some (IntKind.i64.wrap (n2 + (IntKind.i64.wrap (b.toNat : Int))))) fun n3 =>
 some n3) (
 Option.bind (idx Iv (IntKind.u8.wrap x4)) fun b2 =>
 Option.bind (some (IntKind.i64.wrap (n + (IntKind.i64.wrap (b2.toNat : Int))))) fun n4 =>
 some n4)) (
 cond (decide (256 ≤ x3)) (
 Option.bind (some (iZ .u64 x3 8)) fun x6 =>
 Option.bind (some (IntKind.i64.wrap (32 + 8))) fun n5 =>
 Option.bind (idx Iv (IntKind.u8.wrap x6)) fun b3 =>
 Option.bind (some (IntKind.i64.wrap (n5 + (IntKind.i64.wrap (b3.toNat : Int))))) fun n6 =>
 some n6) (
 Option.bind (idx Iv (IntKind.u8.wrap x3)) fun b4 =>
 Option.bind (some (IntKind.i64.wrap (32 + (IntKind.i64.wrap (b4.toNat : Int))))) fun n7 =>
 some n7))) (
 cond (decide (65536 ≤ x2)) (
 Option.bind (some (iZ .u64 x2 16)) fun x7 =>
 Option.bind (some (IntKind.i64.wrap (0 + 16))) fun n8 =>
 cond (decide (256 ≤ x7)) (
 Option.bind (some (iZ .u64 x7 8)) fun x8 =>
 Option.bind (some (IntKind.i64.wrap (n8 + 8))) fun n9 =>
 Option.bind (idx Iv (IntKind.u8.wrap x8)) fun b5 =>
 Option.bind (some (IntKind.i64.wrap (n9 + (IntKind.i64.wrap (b5.toNat : Int))))) fun n10 =>
 some n10) (
 Option.bind (idx Iv (IntKind.u8.wrap x7)) fun b6 =>
 Option.bind (some (IntKind.i64.wrap (n8 + (IntKind.i64.wrap (b6.toNat : Int))))) fun n11 =>
 some n11)) (
 cond (decide (256 ≤ x2)) (
 Option.bind (some (iZ .u64 x2 8)) fun x9 =>
 Option.bind (some (IntKind.i64.wrap (0 + 8))) fun n12 =>
 Option.bind (idx Iv (IntKind.u8.wrap x9)) fun b7 =>
 Option.bind (some (IntKind.i64.wrap (n12 + (IntKind.i64.wrap (b7.toNat : Int))))) fun n13 =>
 some n13) (
 Option.bind (idx Iv (IntKind.u8.wrap x2)) fun b8 =>
 Option.bind (some (IntKind.i64.wrap (0 + (IntKind.i64.wrap (b8.toNat : Int))))) fun n14 =>
 some n14)))
def oE (N : Nat) (x2 : Int) : Option Int :=
 Option.bind (tQ N x2) fun r2 =>
 some r2
def xR (N : Nat) (b : List UInt8) : Option Bool :=
 Option.bind (t6 N b ([48, 49] : List UInt8)) fun r2 =>
 cond (decide (r2 = ([] : List UInt8))) (
 Option.bind (pQ N b ([48] : List UInt8)) fun r3 =>
 Option.bind (pQ N b ([49] : List UInt8)) fun r4 =>
 some (decide ((IntKind.i64.wrap (r3 + r4)) = (b.length : Int)))) (
 some false)
def pX (N : Nat) (b : List UInt8) (kk : (List Int × Int) → Option (List UInt8 × Int)) : Nat → (List Int × Int) → Option (List UInt8 × Int)
 | 0, _ => none
 | fuel + 1, (l3, i) =>
  cond (decide (i < (b.length : Int))) (
  Option.bind (some (IntKind.i64.wrap (Int.tdiv i 8))) fun x4 =>
  Option.bind (idx l3 x4) fun e3 =>
  Option.bind (idx b i) fun b3 =>
  Option.bind (nn (IntKind.i64.wrap (7 - (Int.tmod i 8)))) fun _ =>
  Option.bind (idx l3 x4) fun e4 =>
  Option.bind (v6 l3 x4 (Iu .u8 e3 (nX .u8 (IntKind.u8.wrap ((b3.toNat : Int) - 48)) (IntKind.i64.wrap (7 - (Int.tmod i 8)))))) fun l5 =>
  pX N b kk fuel (l5, IntKind.i64.wrap (i + 1))) (
  kk (l3, i))
def sH (N : Nat) (b : List UInt8) : Option (List UInt8 × Int) :=
 Option.bind (xR N b) fun r2 =>
 cond (!(r2)) (
 some (([] : List UInt8), 1)) (
 Option.bind (some (IntKind.i64.wrap (Int.tdiv (IntKind.i64.wrap ((b.length : Int) + 7)) 8))) fun x2 =>
 Option.bind (mk 1 x2 (0 : Int)) fun l2 =>
 pX N b (fun (l6, i2) =>
 some (toB l6, 0)) N (l2, 0))
def gL (N : Nat) (nN oI : Int) (xI : List Int) (o : Int) (r3 : List (List UInt8) × Int) (kk : (List UInt8 × Int) → Option (List UInt8 × Int)) : Nat → (List UInt8 × Int) → Option (List UInt8 × Int)
 | 0, _ => none
 | fuel + 1, (l2, i) =>
  cond (decide (i < (xI.length : Int))) (
  Option.bind (idx xI i) fun e6 =>
  Option.bind (nM N nN oI xI o i) fun DB =>
  Option.bind (some (IntKind.i64.wrap (IntKind.u16.wrap (IntKind.i64.wrap (e6 - DB))))) fun x6 =>
  cond (decide (32768 < x6)) (
  Option.bind (some (IntKind.i64.wrap (x6 - 65536))) fun x7 =>
  Option.bind (oE N (IntKind.u64.wrap (max x7 (IntKind.i64.wrap (0 - x7))))) fun jA =>
  cond (decide ((r3.1.length : Int) ≤ jA)) (
  some (([] : List UInt8), 4)) (
  Option.bind (idx r3.1 jA) fun e7 =>
  cond (decide (e7 = ([] : List UInt8))) (
  some (([] : List UInt8), 4)) (
  Option.bind (idx r3.1 jA) fun e8 =>
  Option.bind (K9 l2 e8) fun b7 =>
  cond (decide (0 < jA)) (
  cond (decide (jA < 16)) (
  cond (decide (x7 < 0)) (
  Option.bind (nn jA) fun _ =>
  Option.bind (some (IntKind.i64.wrap (x7 + (IntKind.i64.wrap ((nX .i64 1 jA) - 1))))) fun x8 =>
  Option.bind (lJ N x8 jA) fun zE =>
  Option.bind (K9 b7 zE.1) fun b8 =>
  gL N nN oI xI o r3 kk fuel (b8, IntKind.i64.wrap (i + 1))) (
  Option.bind (lJ N x7 jA) fun Ft =>
  Option.bind (K9 b7 Ft.1) fun b9 =>
  gL N nN oI xI o r3 kk fuel (b9, IntKind.i64.wrap (i + 1)))) (
  gL N nN oI xI o r3 kk fuel (b7, IntKind.i64.wrap (i + 1)))) (
  gL N nN oI xI o r3 kk fuel (b7, IntKind.i64.wrap (i + 1)))))) (
  Option.bind (oE N (IntKind.u64.wrap (max x6 (IntKind.i64.wrap (0 - x6))))) fun DC =>
  cond (decide ((r3.1.length : Int) ≤ DC)) (
  some (([] : List UInt8), 4)) (
  Option.bind (idx r3.1 DC) fun e9 =>
  cond (decide (e9 = ([] : List UInt8))) (
  some (([] : List UInt8), 4)) (
  Option.bind (idx r3.1 DC) fun e10 =>
  Option.bind (K9 l2 e10) fun b10 =>
  cond (decide (0 < DC)) (
  cond (decide (DC < 16)) (
  cond (decide (x6 < 0)) (
  Option.bind (nn DC) fun _ =>
  Option.bind (some (IntKind.i64.wrap (x6 + (IntKind.i64.wrap ((nX .i64 1 DC) - 1))))) fun x9 =>
  Option.bind (lJ N x9 DC) fun r16 =>
  Option.bind (K9 b10 r16.1) fun b11 =>
  gL N nN oI xI o r3 kk fuel (b11, IntKind.i64.wrap (i + 1))) (
  Option.bind (lJ N x6 DC) fun Cj =>
  Option.bind (K9 b10 Cj.1) fun b12 =>
  gL N nN oI xI o r3 kk fuel (b12, IntKind.i64.wrap (i + 1)))) (
  gL N nN oI xI o r3 kk fuel (b10, IntKind.i64.wrap (i + 1)))) (
  gL N nN oI xI o r3 kk fuel (b10, IntKind.i64.wrap (i + 1))))))) (
  kk (l2, i))
def wW (N : Nat) (nN oI : Int) (xI : List Int) (o : Int) (p2 : List Int) : Option (List UInt8 × Int) :=
 Option.bind (yV N nN oI xI) fun r2 =>
 cond (!(r2)) (
 some (([] : List UInt8), 1)) (
 cond (decide (o < 1)) (
 some (([] : List UInt8), 6)) (
 cond (decide (7 < o)) (
 some (([] : List UInt8), 6)) (
 Option.bind (p6 N p2) fun r3 =>
 cond (!decide (r3.2 = 0)) (
 some (([] : List UInt8), r3.2)) (
 gL N nN oI xI o r3 (fun (l3, i2) =>
 Option.bind (sH N l3) fun Bu =>
 some (Bu.1, 0)) N (([] : List UInt8), 0)))))
def qK (N : Nat) (eF gD : Int) (eV : List Int) (Ck : Int) (Gb : List Int) (r9 : List (Int × Int)) (kk : (List (List UInt8) × Int) → Option (Int × Int × Int × Int × Int × List Int × List (List UInt8) × Int × Int × Int × Int × Int × Int × List (Int × Int) × Int × Int × Int × Int × Int × Int × Int × Int × Int × Int × Int × Int × List (Int × Int) × Int × Int)) : Nat → (List (List UInt8) × Int) → Option (Int × Int × Int × Int × Int × List Int × List (List UInt8) × Int × Int × Int × Int × Int × Int × List (Int × Int) × Int × Int × Int × Int × Int × Int × Int × Int × Int × Int × Int × Int × List (Int × Int) × Int × Int)
 | 0, _ => none
 | fuel + 1, (pA, i) =>
  cond (decide (i < (r9.length : Int))) (
  Option.bind (idx r9 i) fun e2 =>
  Option.bind (Bv Gb (IntKind.i64.wrap (e2.1 * Ck)) (IntKind.i64.wrap ((IntKind.i64.wrap (e2.1 + e2.2)) * Ck))) fun l3 =>
  Option.bind (yU N l3 eF) fun jA =>
  cond (decide (0 < gD)) (
  Option.bind (wW N Ck e2.2 l3 gD eV) fun zE =>
  cond (!decide (zE.2 = 0)) (
  some (0, 0, 0, 0, 0, ([] : List Int), ([] : List (List UInt8)), 0, 0, 0, 0, 0, 0, ([] : List (Int × Int)), 0, 0, 0, 0, 0, 0, 0, 0, 0, 0, 0, 0, ([] : List (Int × Int)), 0, zE.2)) (
  Option.bind (app 16 pA (([zE.1] : List (List UInt8)))) fun Ad =>
  qK N eF gD eV Ck Gb r9 kk fuel (Ad, IntKind.i64.wrap (i + 1)))) (
  cond (!decide (jA.2 = 0)) (
  some (0, 0, 0, 0, 0, ([] : List Int), ([] : List (List UInt8)), 0, 0, 0, 0, 0, 0, ([] : List (Int × Int)), 0, 0, 0, 0, 0, 0, 0, 0, 0, 0, 0, 0, ([] : List (Int × Int)), 0, jA.2)) (
  Option.bind (app 16 pA (([jA.1] : List (List UInt8)))) fun FF =>
  qK N eF gD eV Ck Gb r9 kk fuel (FF, IntKind.i64.wrap (i + 1))))) (
  kk (pA, i))
def xS (N : Nat) (nN oI eF gD g9 : Int) (eV : List Int) (cZ : List (List UInt8)) (cO cD cE cG cH cP : Int) (aV : List (Int × Int)) (cJ cK cL bI bJ bK bL bM bN bO bP bQ : Int) (aW : List (Int × Int)) (bT Ck Gc : Int) (Gb : List Int) : Option (Int × Int × Int × Int × Int × List Int × List (List UInt8) × Int × Int × Int × Int × Int × Int × List (Int × Int) × Int × Int × Int × Int × Int × Int × Int × Int × Int × Int × Int × Int × List (Int × Int) × Int × Int) :=
 Option.bind (xP N nN oI eF gD g9 eV cZ cO cD cE cG cH cP aV cJ cK cL bI bJ bK bL bM bN bO bP bQ aW bT) fun r2 =>
 cond (!decide (r2 = 0)) (
 some (0, 0, 0, 0, 0, ([] : List Int), ([] : List (List UInt8)), 0, 0, 0, 0, 0, 0, ([] : List (Int × Int)), 0, 0, 0, 0, 0, 0, 0, 0, 0, 0, 0, 0, ([] : List (Int × Int)), 0, r2)) (
 Option.bind (xQ N nN oI eF gD g9 eV cZ cO cD cE cG cH cP aV cJ cK cL bI bJ bK bL bM bN bO bP bQ aW bT) fun r3 =>
 cond (!decide (r3 = 0)) (
 some (0, 0, 0, 0, 0, ([] : List Int), ([] : List (List UInt8)), 0, 0, 0, 0, 0, 0, ([] : List (Int × Int)), 0, 0, 0, 0, 0, 0, 0, 0, 0, 0, 0, 0, ([] : List (Int × Int)), 0, r3)) (
 Option.bind (sR N Ck Gc Gb (([] : List (Int × Int)))) fun r4 =>
 cond (!decide (r4.2.2.2 = 0)) (
 some (0, 0, 0, 0, 0, ([] : List Int), ([] : List (List UInt8)), 0, 0, 0, 0, 0, 0, ([] : List (Int × Int)), 0, 0, 0, 0, 0, 0, 0, 0, 0, 0, 0, 0, ([] : List (Int × Int)), 0, 1)) (
 cond (!decide (Ck = nN)) (
 some (0, 0, 0, 0, 0, ([] : List Int), ([] : List (List UInt8)), 0, 0, 0, 0, 0, 0, ([] : List (Int × Int)), 0, 0, 0, 0, 0, 0, 0, 0, 0, 0, 0, 0, ([] : List (Int × Int)), 0, 1)) (
 cond (!decide (Gc = oI)) (
 some (0, 0, 0, 0, 0, ([] : List Int), ([] : List (List UInt8)), 0, 0, 0, 0, 0, 0, ([] : List (Int × Int)), 0, 0, 0, 0, 0, 0, 0, 0, 0, 0, 0, 0, ([] : List (Int × Int)), 0, 1)) (
 Option.bind (lG N Gb) fun r5 =>
 Option.bind (nn eF) fun _ =>
 cond (decide (0 < (iZ .i64 r5 eF))) (
 some (0, 0, 0, 0, 0, ([] : List Int), ([] : List (List UInt8)), 0, 0, 0, 0, 0, 0, ([] : List (Int × Int)), 0, 0, 0, 0, 0, 0, 0, 0, 0, 0, 0, 0, ([] : List (Int × Int)), 0, 1)) (
 Option.bind (lR N eV) fun r6 =>
 Option.bind (iI N aV) fun r7 =>
 Option.bind (hJ N aW) fun r8 =>
 Option.bind (uT N nN oI eF gD g9 eV cZ cO cD cE cG cH cP aV cJ cK cL bI bJ bK bL bM bN bO bP bQ aW bT) fun r9 =>
 qK N eF gD eV Ck Gb r9 (fun (By, i2) =>
 some (nN, oI, eF, gD, g9, r6, By, cO, cD, cE, cG, cH, cP, r7, cJ, cK, cL, bI, bJ, bK, bL, bM, bN, bO, bP, bQ, r8, bT, 0)) N (([] : List (List UInt8)), 0)))))))
def cC (N : Nat) (n low high : Int) : Option Bool :=
 cond (decide (low ≤ n)) (
 some (decide (n ≤ high))) (
 some false)
def iS (N : Nat) (lens : List Int) (kk : (Int × Bool × Int) → Option Int) : Nat → (Int × Bool × Int) → Option Int
 | 0, _ => none
 | fuel + 1, (sum, used, i) =>
  cond (decide (i < (lens.length : Int))) (
  Option.bind (idx lens i) fun e4 =>
  Option.bind (cC N e4 0 15) fun r4 =>
  cond (!(r4)) (
  some 3) (
  Option.bind (idx lens i) fun e5 =>
  cond (decide (0 < e5)) (
  Option.bind (idx lens i) fun e6 =>
  Option.bind (nn (IntKind.i64.wrap (15 - e6))) fun _ =>
  Option.bind (some (IntKind.i64.wrap (sum + (nX .i64 1 (IntKind.i64.wrap (15 - e6)))))) fun aC0 =>
  Option.bind (some (IntKind.i64.wrap (i + 1))) fun i4 =>
  iS N lens kk fuel (aC0, true, i4)) (
  Option.bind (some (IntKind.i64.wrap (i + 1))) fun i5 =>
  iS N lens kk fuel (sum, used, i5)))) (
  kk (sum, used, i))
def kA (N : Nat) (lens : List Int) : Option Int :=
 Option.bind (cC N (lens.length : Int) 1 17) fun r2 =>
 cond (!(r2)) (
 some 2) (
 iS N lens (fun (Ws, QG, i6) =>
 cond (!(QG)) (
 some 1) (
 cond (decide (32768 < Ws)) (
 some 1) (
 some 0))) N (0, false, 0))
def qL (N : Nat) (vC qG dP eO dW : Int) (eN : List Int) (dJ : List (List UInt8)) (cQ bU bV bW bX cR : Int) (aX : List (Int × Int)) (bY bZ cA aY aZ bA bB bC bD bE bF bG : Int) (bH : List (Int × Int)) (cB : Int) : Option Int :=
 Option.bind (cC N vC 1 64) fun r2 =>
 cond (!(r2)) (
 some 3) (
 Option.bind (cC N qG 1 64) fun r3 =>
 cond (!(r3)) (
 some 3) (
 Option.bind (cC N dP 1 16) fun r4 =>
 cond (!(r4)) (
 some 3) (
 Option.bind (cC N dW 1 qG) fun r5 =>
 cond (!(r5)) (
 some 3) (
 Option.bind (cC N eO 0 7) fun r6 =>
 cond (!(r6)) (
 some 6) (
 cond (decide (eO = 0)) (
 cond (decide (0 < (eN.length : Int))) (
 some 1) (
 cond (decide (0 < eO)) (
 Option.bind (kA N eN) fun r7 =>
 some r7) (
 some 0))) (
 cond (decide (0 < eO)) (
 Option.bind (kA N eN) fun r8 =>
 some r8) (
 some 0)))))))
def kY (N : Nat) (l2 : List (Int × Int)) (w2 h2 : Int) (kk : Int → Option Bool) : Nat → Int → Option Bool
 | 0, _ => none
 | fuel + 1, i =>
  cond (decide (i < (l2.length : Int))) (
  Option.bind (idx l2 i) fun e3 =>
  Option.bind (cC N e3.1 0 (IntKind.i64.wrap (w2 - 1))) fun r4 =>
  cond (!(r4)) (
  some false) (
  Option.bind (idx l2 i) fun e4 =>
  Option.bind (cC N e4.2 0 (IntKind.i64.wrap (h2 - 1))) fun r5 =>
  cond (!(r5)) (
  some false) (
  Option.bind (some (IntKind.i64.wrap (i + 1))) fun i3 =>
  kY N l2 w2 h2 kk fuel i3))) (
  kk i)
def sI (N : Nat) (l2 : List (Int × Int)) (w2 h2 : Int) : Option Bool :=
 kY N l2 w2 h2 (fun i4 =>
 some true) N 0
def kZ (N : Nat) (m0 m1 m2 m3 m4 m5 m6 m7 m8 : Int) (kk : Int → Option Bool) : Nat → Int → Option Bool
 | 0, _ => none
 | fuel + 1, i =>
  cond (decide (i < 9)) (
  Option.bind (inr i 9) fun _ =>
  Option.bind (idx [m0, m1, m2, m3, m4, m5, m6, m7, m8] i) fun e2 =>
  Option.bind (cC N e2 (-32768) 32768) fun r3 =>
  cond (!(r3)) (
  some false) (
  Option.bind (some (IntKind.i64.wrap (i + 1))) fun i3 =>
  kZ N m0 m1 m2 m3 m4 m5 m6 m7 m8 kk fuel i3)) (
  kk i)
def sJ (N : Nat) (m0 m1 m2 m3 m4 m5 m6 m7 m8 : Int) : Option Bool :=
 kZ N m0 m1 m2 m3 m4 m5 m6 m7 m8 (fun i4 =>
 some true) N 0
def iT (N : Nat) (d : List (Int × Int)) (kk : Int → Option Bool) : Nat → Int → Option Bool
 | 0, _ => none
 | fuel + 1, i =>
  cond (decide (i < (d.length : Int))) (
  Option.bind (idx d i) fun e8 =>
  Option.bind (cC N e8.2 0 65535) fun r4 =>
  cond (!(r4)) (
  some false) (
  cond (decide (0 < i)) (
  Option.bind (idx d i) fun e9 =>
  Option.bind (idx d (IntKind.i64.wrap (i - 1))) fun e10 =>
  cond (decide (e9.1 ≤ e10.1)) (
  some false) (
  Option.bind (idx d i) fun e11 =>
  Option.bind (idx d (IntKind.i64.wrap (i - 1))) fun e12 =>
  cond (decide (e11.2 < e12.2)) (
  some false) (
  Option.bind (some (IntKind.i64.wrap (i + 1))) fun x4 =>
  iT N d kk fuel x4))) (
  Option.bind (some (IntKind.i64.wrap (i + 1))) fun x5 =>
  iT N d kk fuel x5))) (
  kk i)
def iQ (N : Nat) (d : List (Int × Int)) : Option Bool :=
 Option.bind (cC N (d.length : Int) 2 16) fun r2 =>
 cond (!(r2)) (
 some false) (
 Option.bind (idx d 0) fun e =>
 cond (!decide (e.1 = 0)) (
 some false) (
 Option.bind (idx d (IntKind.i64.wrap ((d.length : Int) - 1))) fun e2 =>
 cond (!decide (e2.1 = 65535)) (
 some false) (
 iT N d (fun i2 =>
 some true) N 0)))
def fE (N : Nat) (Oy Oz OA : Int) (kk : Int → Option Int) : Nat → Int → Option Int
 | 0, _ => none
 | fuel + 1, i3 =>
  cond (decide (i3 < 3)) (
  Option.bind (inr i3 3) fun _ =>
  Option.bind (idx [Oy, Oz, OA] i3) fun e4 =>
  Option.bind (cC N e4 0 65535) fun IS =>
  cond (!(IS)) (
  some 3) (
  Option.bind (some (IntKind.i64.wrap (i3 + 1))) fun x5 =>
  fE N Oy Oz OA kk fuel x5)) (
  kk i3)
def fF (N : Nat) (OB OC OD OE dc : Int) (kk : Int → Option Int) : Nat → Int → Option Int
 | 0, _ => none
 | fuel + 1, i =>
  cond (decide (i < 4)) (
  Option.bind (inr i 4) fun _ =>
  Option.bind (idx [OB, OC, OD, OE] i) fun e2 =>
  Option.bind (cC N e2 0 (IntKind.i64.wrap (dc - 1))) fun r8 =>
  cond (!(r8)) (
  some 3) (
  Option.bind (some (IntKind.i64.wrap (i + 1))) fun x3 =>
  fF N OB OC OD OE dc kk fuel x3)) (
  kk i)
def qM (N : Nat) (da OB OC OD OE dc : Int) (dd : List (Int × Int)) (Oy Oz OA SY SZ df2 S0 S1 S2 S3 S4 S5 : Int) (dg : List (Int × Int)) (dh : Int) : Option Int :=
 Option.bind (cC N da 0 3) fun r2 =>
 cond (!(r2)) (
 some 3) (
 Option.bind (cC N dc 1 65535) fun r3 =>
 cond (!(r3)) (
 some 3) (
 cond (decide (64 < (dd.length : Int))) (
 some 3) (
 Option.bind (sI N dd 64 64) fun r4 =>
 cond (!(r4)) (
 some 3) (
 Option.bind (sJ N SY SZ df2 S0 S1 S2 S3 S4 S5) fun r5 =>
 cond (!(r5)) (
 some 3) (
 Option.bind (cC N dh 0 1024) fun r6 =>
 cond (!(r6)) (
 some 3) (
 fF N OB OC OD OE dc (fun i2 =>
 fE N Oy Oz OA (fun i4 =>
 Option.bind (iQ N dg) fun DB =>
 cond (!(DB)) (
 some 1) (
 some 0)) N 0) N 0))))))
def qN (N : Nat) (vC qG dP eO dW : Int) (eN : List Int) (dJ : List (List UInt8)) (cQ bU bV bW bX cR : Int) (aX : List (Int × Int)) (bY bZ cA aY aZ bA bB bC bD bE bF bG : Int) (bH : List (Int × Int)) (cB : Int) : Option Int :=
 Option.bind (qM N cQ bU bV bW bX cR aX bY bZ cA aY aZ bA bB bC bD bE bF bG bH cB) fun r2 =>
 cond (!decide (r2 = 0)) (
 some r2) (
 Option.bind (sI N aX vC qG) fun r3 =>
 cond (!(r3)) (
 some 3) (
 some 0))
def gF (N : Nat) (zR : List Int) (kk : Int → Option Bool) : Nat → Int → Option Bool
 | 0, _ => none
 | fuel + 1, i =>
  cond (decide (i < (zR.length : Int))) (
  Option.bind (idx zR i) fun e2 =>
  Option.bind (cC N e2 0 65535) fun r5 =>
  cond (!(r5)) (
  some false) (
  Option.bind (some (IntKind.i64.wrap (i + 1))) fun i3 =>
  gF N zR kk fuel i3)) (
  kk i)
def lK (N : Nat) (DU Eg : Int) (zR : List Int) : Option Bool :=
 Option.bind (cC N DU 1 64) fun r2 =>
 cond (!(r2)) (
 some false) (
 Option.bind (cC N Eg 1 64) fun r3 =>
 cond (!(r3)) (
 some false) (
 cond (!decide ((zR.length : Int) = (IntKind.i64.wrap (DU * Eg)))) (
 some false) (
 gF N zR (fun i4 =>
 some true) N 0)))
def k7 (N : Nat) (l2 : List Int) (depth : Int) (kk : Int → Option Bool) : Nat → Int → Option Bool
 | 0, _ => none
 | fuel + 1, i =>
  cond (decide (i < (l2.length : Int))) (
  Option.bind (idx l2 i) fun e2 =>
  Option.bind (nn depth) fun _ =>
  cond (decide ((IntKind.i64.wrap ((nX .i64 1 depth) - 1)) < e2)) (
  some false) (
  Option.bind (some (IntKind.i64.wrap (i + 1))) fun i3 =>
  k7 N l2 depth kk fuel i3)) (
  kk i)
def sK (N : Nat) (l2 : List Int) (depth : Int) : Option Bool :=
 k7 N l2 depth (fun i4 =>
 some true) N 0
def uA (N : Nat) (vC qG dP eO dW : Int) (eN : List Int) (dJ : List (List UInt8)) (cQ bU bV bW bX cR : Int) (aX : List (Int × Int)) (bY bZ cA aY aZ bA bB bC bD bE bF bG : Int) (bH : List (Int × Int)) (cB : Int) : Option Int :=
 Option.bind (nz dW) fun _ =>
 some (IntKind.i64.wrap (Int.tdiv (IntKind.i64.wrap ((IntKind.i64.wrap (qG + dW)) - 1)) dW))
def xJ (N : Nat) (vC qG dP eO dW : Int) (eN : List Int) (dJ : List (List UInt8)) (cQ bU bV bW bX cR : Int) (aX : List (Int × Int)) (bY bZ cA aY aZ bA bB bC bD bE bF bG : Int) (bH : List (Int × Int)) (cB strip : Int) : Option Int :=
 some (min dW (IntKind.i64.wrap (qG - (IntKind.i64.wrap (strip * dW)))))
def lS (N : Nat) : Nat → Int → Int → Option (List UInt8)
 | 0, _, _ => none
 | fu + 1, n, size =>
  cond (decide (size = 0)) (
  some (([] : List UInt8))) (
  Option.bind (lS N fu (IntKind.i64.wrap (Int.tdiv n 2)) (IntKind.i64.wrap (size - 1))) fun r2 =>
  Option.bind (G4 r2 (toB (([IntKind.u8.wrap (48 + (IntKind.u8.wrap (Int.tmod n 2)))] : List Int)))) fun s =>
  some s)
def lH (N : Nat) (n size : Int) : Option (List UInt8) := lS N N n size
def jD (N : Nat) (b : List UInt8) (i : Int) (kk : (Int × Int) → Option (List UInt8)) : Nat → (Int × Int) → Option (List UInt8)
 | 0, _ => none
 | fuel + 1, (n4, k5) =>
  cond (decide (k5 < (IntKind.i64.wrap (i + 8)))) (
  Option.bind (some (IntKind.i64.wrap (2 * n4))) fun n7 =>
  cond (decide (k5 < (b.length : Int))) (
  Option.bind (idx b k5) fun b4 =>
  cond (decide ((b4.toNat : Int) = 49)) (
  Option.bind (some (IntKind.i64.wrap (n7 + 1))) fun n8 =>
  Option.bind (some (IntKind.i64.wrap (k5 + 1))) fun k9 =>
  jD N b i kk fuel (n8, k9)) (
  Option.bind (some (IntKind.i64.wrap (k5 + 1))) fun k10 =>
  jD N b i kk fuel (n7, k10))) (
  Option.bind (some (IntKind.i64.wrap (k5 + 1))) fun k11 =>
  jD N b i kk fuel (n7, k11))) (
  kk (n4, k5))
def kG (N : Nat) (b : List UInt8) (kk : (List Int × Int) → Option (List UInt8)) : Nat → (List Int × Int) → Option (List UInt8)
 | 0, _ => none
 | fuel + 1, (l2, i) =>
  cond (decide (i < (b.length : Int))) (
  jD N b i (fun (n9, k12) =>
  Option.bind (app 1 l2 ([IntKind.u8.wrap n9] : List Int)) fun l4 =>
  Option.bind (some (IntKind.i64.wrap (i + 8))) fun i3 =>
  kG N b kk fuel (l4, i3)) N (0, i)) (
  kk (l2, i))
def kL (N : Nat) (b : List UInt8) : Option (List UInt8) :=
 Option.bind (Qe 1 (IntKind.i64.wrap ((IntKind.i64.wrap (Int.tdiv (b.length : Int) 8)) + 1))) fun _ =>
 kG N b (fun (l5, i4) =>
 some (toB l5)) N (([] : List Int), 0)
def lL (N : Nat) (l2 : List Int) (depth : Int) (kk : (List Int × Int) → Option (List UInt8)) : Nat → (List Int × Int) → Option (List UInt8)
 | 0, _ => none
 | fuel + 1, (l4, i2) =>
  cond (decide (i2 < (l2.length : Int))) (
  Option.bind (idx l2 i2) fun e3 =>
  Option.bind (lH N e3 depth) fun r4 =>
  Option.bind (app 1 l4 (qX r4)) fun l6 =>
  Option.bind (some (IntKind.i64.wrap (i2 + 1))) fun i4 =>
  lL N l2 depth kk fuel (l6, i4)) (
  kk (l4, i2))
def pJ (N : Nat) (l2 : List Int) (depth : Int) : Option (List UInt8) :=
 lL N l2 depth (fun (l7, i5) =>
 Option.bind (kL N (toB l7)) fun r5 =>
 some r5) N (([] : List Int), 0)
def jR (N : Nat) (lens : List Int) (size : Int) (kk : (List (List UInt8) × Int × Int × Int) → Option (List (List UInt8))) : Nat → (List (List UInt8) × Int × Int × Int) → Option (List (List UInt8))
 | 0, _ => none
 | fuel + 1, (l6, QH, last3, i4) =>
  cond (decide (i4 < (lens.length : Int))) (
  Option.bind (idx lens i4) fun e5 =>
  cond (!decide (e5 = size)) (
  Option.bind (some (IntKind.i64.wrap (i4 + 1))) fun i7 =>
  jR N lens size kk fuel (l6, QH, last3, i7)) (
  Option.bind (nn (IntKind.i64.wrap (size - last3))) fun _ =>
  Option.bind (some (nX .i64 QH (IntKind.i64.wrap (size - last3)))) fun UA =>
  Option.bind (lH N UA size) fun r4 =>
  Option.bind (idx l6 i4) fun e6 =>
  Option.bind (v6 l6 i4 r4) fun l8 =>
  Option.bind (some (IntKind.i64.wrap (UA + 1))) fun Y1 =>
  Option.bind (some (IntKind.i64.wrap (i4 + 1))) fun i8 =>
  jR N lens size kk fuel (l8, Y1, size, i8))) (
  kk (l6, QH, last3, i4))
def k8 (N : Nat) (lens : List Int) (kk : (List (List UInt8) × Int × Int × Int) → Option (List (List UInt8))) : Nat → (List (List UInt8) × Int × Int × Int) → Option (List (List UInt8))
 | 0, _ => none
 | fuel + 1, (l3, next, last, size) =>
  cond (decide (size ≤ 15)) (
  jR N lens size (fun (l9, Wt, Y2, i9) =>
  Option.bind (some (IntKind.i64.wrap (size + 1))) fun Y3 =>
  k8 N lens kk fuel (l9, Wt, Y2, Y3)) N (l3, next, last, 0)) (
  kk (l3, next, last, size))
def mC (N : Nat) (lens : List Int) : Option (List (List UInt8)) :=
 Option.bind (some ((lens.length : Int))) fun x2 =>
 Option.bind (mk 16 x2 (([] : List UInt8) : List UInt8)) fun l2 =>
 k8 N lens (fun (l10, aC1, aDQ, aDR) =>
 some l10) N (l2, 0, 0, 1)
def gU (N : Nat) (DU Eg : Int) (zR : List Int) (x2 y : Int) : Option Int :=
 Option.bind (idx zR (IntKind.i64.wrap ((IntKind.i64.wrap (y * DU)) + x2))) fun e =>
 some e
def eI (N : Nat) (n byA : Int) : Option Int :=
 Option.bind (nz byA) fun _ =>
 Option.bind (some (IntKind.i64.wrap (Int.tdiv n byA))) fun q =>
 cond (decide (n < (IntKind.i64.wrap (q * byA)))) (
 Option.bind (some (IntKind.i64.wrap (q - 1))) fun q2 =>
 some q2) (
 some q)
def jU (N : Nat) (nN oI : Int) (xI : List Int) (o p2 p3 : Int) : Option Int :=
 cond (decide (p2 = 0)) (
 cond (decide (p3 = 0)) (
 some 32768) (
 cond (decide (p3 = 0)) (
 Option.bind (gU N nN oI xI (IntKind.i64.wrap (p2 - 1)) 0) fun r2 =>
 some r2) (
 cond (decide (p2 = 0)) (
 Option.bind (gU N nN oI xI 0 (IntKind.i64.wrap (p3 - 1))) fun r3 =>
 some r3) (
 Option.bind (gU N nN oI xI (IntKind.i64.wrap (p2 - 1)) p3) fun r4 =>
 Option.bind (gU N nN oI xI p2 (IntKind.i64.wrap (p3 - 1))) fun r5 =>
 Option.bind (gU N nN oI xI (IntKind.i64.wrap (p2 - 1)) (IntKind.i64.wrap (p3 - 1))) fun r6 =>
 cond (decide (o = 1)) (
 some r4) (
 cond (decide (o = 2)) (
 some r5) (
 cond (decide (o = 3)) (
 some r6) (
 cond (decide (o = 4)) (
 some (IntKind.i64.wrap ((IntKind.i64.wrap (r4 + r5)) - r6))) (
 cond (decide (o = 5)) (
 Option.bind (eI N (IntKind.i64.wrap (r5 - r6)) 2) fun r7 =>
 some (IntKind.i64.wrap (r4 + r7))) (
 cond (decide (o = 6)) (
 Option.bind (eI N (IntKind.i64.wrap (r4 - r6)) 2) fun r8 =>
 some (IntKind.i64.wrap (r5 + r8))) (
 Option.bind (eI N (IntKind.i64.wrap (r4 + r5)) 2) fun r9 =>
 some r9)))))))))) (
 cond (decide (p3 = 0)) (
 Option.bind (gU N nN oI xI (IntKind.i64.wrap (p2 - 1)) 0) fun IS =>
 some IS) (
 cond (decide (p2 = 0)) (
 Option.bind (gU N nN oI xI 0 (IntKind.i64.wrap (p3 - 1))) fun DB =>
 some DB) (
 Option.bind (gU N nN oI xI (IntKind.i64.wrap (p2 - 1)) p3) fun jA =>
 Option.bind (gU N nN oI xI p2 (IntKind.i64.wrap (p3 - 1))) fun zE =>
 Option.bind (gU N nN oI xI (IntKind.i64.wrap (p2 - 1)) (IntKind.i64.wrap (p3 - 1))) fun Ft =>
 cond (decide (o = 1)) (
 some jA) (
 cond (decide (o = 2)) (
 some zE) (
 cond (decide (o = 3)) (
 some Ft) (
 cond (decide (o = 4)) (
 some (IntKind.i64.wrap ((IntKind.i64.wrap (jA + zE)) - Ft))) (
 cond (decide (o = 5)) (
 Option.bind (eI N (IntKind.i64.wrap (zE - Ft)) 2) fun DC =>
 some (IntKind.i64.wrap (jA + DC))) (
 cond (decide (o = 6)) (
 Option.bind (eI N (IntKind.i64.wrap (jA - Ft)) 2) fun r16 =>
 some (IntKind.i64.wrap (zE + r16))) (
 Option.bind (eI N (IntKind.i64.wrap (jA + zE)) 2) fun Cj =>
 some Cj)))))))))
def f6 (N : Nat)  (kk : Int → Option Int) : Nat → Int → Option Int
 | 0, _ => none
 | fuel + 1, d6 =>
  cond (decide (d6 ≤ (-32768))) (
  Option.bind (some (IntKind.i64.wrap (d6 + 65536))) fun d8 =>
  f6 N  kk fuel d8) (
  kk d6)
def gX (N : Nat)  (kk : Int → Option Int) : Nat → Int → Option Int
 | 0, _ => none
 | fuel + 1, d2 =>
  cond (decide (32768 < d2)) (
  Option.bind (some (IntKind.i64.wrap (d2 - 65536))) fun d4 =>
  gX N  kk fuel d4) (
  kk d2)
def pP (N : Nat) (Wu guess : Int) : Option Int :=
 Option.bind (some (IntKind.i64.wrap (Wu - guess))) fun d =>
 gX N  (fun d5 =>
 f6 N  (fun d9 =>
 some d9) N d5) N d
def jN (N : Nat) (DU Eg : Int) (zR : List Int) (kind y2 : Int) (kk : (List Int × Int) → Option (List Int)) : Nat → (List Int × Int) → Option (List Int)
 | 0, _ => none
 | fuel + 1, (l8, x7) =>
  cond (decide (x7 < DU)) (
  Option.bind (gU N DU Eg zR x7 y2) fun Ft =>
  Option.bind (jU N DU Eg zR kind x7 y2) fun DC =>
  Option.bind (pP N Ft DC) fun r16 =>
  Option.bind (app 8 l8 ([r16] : List Int)) fun l10 =>
  Option.bind (some (IntKind.i64.wrap (x7 + 1))) fun x9 =>
  jN N DU Eg zR kind y2 kk fuel (l10, x9)) (
  kk (l8, x7))
def iD (N : Nat) (DU Eg : Int) (zR : List Int) (kind : Int) (kk : (List Int × Int) → Option (List Int)) : Nat → (List Int × Int) → Option (List Int)
 | 0, _ => none
 | fuel + 1, (l5, y2) =>
  cond (decide (y2 < Eg)) (
  jN N DU Eg zR kind y2 (fun (Wv, x10) =>
  Option.bind (some (IntKind.i64.wrap (y2 + 1))) fun y4 =>
  iD N DU Eg zR kind kk fuel (Wv, y4)) N (l5, 0)) (
  kk (l5, y2))
def uB (N : Nat) (DU Eg : Int) (zR : List Int) (kind : Int) : Option (List Int) :=
 iD N DU Eg zR kind (fun (UB, y5) =>
 some UB) N (([] : List Int), 0)
def lA (N : Nat)  (kk : (Int × Int) → Option Int) : Nat → (Int × Int) → Option Int
 | 0, _ => none
 | fuel + 1, (n, k2) =>
  cond (decide (0 < k2)) (
  Option.bind (some (IntKind.i64.wrap (n + 1))) fun n3 =>
  Option.bind (some (IntKind.i64.wrap (Int.tdiv k2 2))) fun k4 =>
  lA N  kk fuel (n3, k4)) (
  kk (n, k2))
def oO (N : Nat) (d : Int) : Option Int :=
 Option.bind (some (max d (IntKind.i64.wrap (0 - d)))) fun k =>
 lA N  (fun (n4, k5) =>
 some n4) N (0, k)
def u6 (N : Nat) (d : Int) : Option (List UInt8) :=
 Option.bind (oO N d) fun r2 =>
 cond (decide (r2 = 0)) (
 some (([] : List UInt8))) (
 cond (decide (r2 = 16)) (
 some (([] : List UInt8))) (
 cond (decide (0 < d)) (
 Option.bind (lH N d r2) fun r3 =>
 some r3) (
 Option.bind (nn r2) fun _ =>
 Option.bind (lH N (IntKind.i64.wrap ((IntKind.i64.wrap (d + (nX .i64 1 r2))) - 1)) r2) fun r4 =>
 some r4)))
def kF (N : Nat) (r5 : List (List UInt8)) (r6 : List Int) (kk : (List Int × Int) → Option (List UInt8 × Int)) : Nat → (List Int × Int) → Option (List UInt8 × Int)
 | 0, _ => none
 | fuel + 1, (l4, i) =>
  cond (decide (i < (r6.length : Int))) (
  Option.bind (idx r6 i) fun e9 =>
  Option.bind (oO N e9) fun DB =>
  cond (decide ((r5.length : Int) ≤ DB)) (
  some (([] : List UInt8), 4)) (
  Option.bind (idx r5 DB) fun e10 =>
  cond (decide (e10 = ([] : List UInt8))) (
  some (([] : List UInt8), 4)) (
  Option.bind (idx r5 DB) fun e11 =>
  Option.bind (app 1 l4 (qX e11)) fun l7 =>
  Option.bind (idx r6 i) fun e12 =>
  Option.bind (u6 N e12) fun jA =>
  Option.bind (app 1 l7 (qX jA)) fun l8 =>
  Option.bind (some (IntKind.i64.wrap (i + 1))) fun x4 =>
  kF N r5 r6 kk fuel (l8, x4)))) (
  kk (l4, i))
def nO (N : Nat) (nN oI : Int) (xI : List Int) (o : Int) (p2 : List Int) : Option (List UInt8 × Int) :=
 Option.bind (lK N nN oI xI) fun r2 =>
 cond (!(r2)) (
 some (([] : List UInt8), 1)) (
 Option.bind (cC N o 1 7) fun r3 =>
 cond (!(r3)) (
 some (([] : List UInt8), 6)) (
 Option.bind (kA N p2) fun r4 =>
 cond (!decide (r4 = 0)) (
 some (([] : List UInt8), r4)) (
 Option.bind (mC N p2) fun r5 =>
 Option.bind (uB N nN oI xI o) fun r6 =>
 kF N r5 r6 (fun (l9, i2) =>
 Option.bind (kL N (toB l9)) fun zE =>
 some (zE, 0)) N (([] : List Int), 0))))
def jE (N : Nat) (a2 b : List Int) (kk : Int → Option Bool) : Nat → Int → Option Bool
 | 0, _ => none
 | fuel + 1, i =>
  cond (decide (i < (a2.length : Int))) (
  Option.bind (idx a2 i) fun e3 =>
  Option.bind (idx b i) fun e4 =>
  cond (!decide (e3 = e4)) (
  some false) (
  Option.bind (some (IntKind.i64.wrap (i + 1))) fun i3 =>
  jE N a2 b kk fuel i3)) (
  kk i)
def kH (N : Nat) (a2 b : List Int) : Option Bool :=
 cond (!decide ((a2.length : Int) = (b.length : Int))) (
 some false) (
 jE N a2 b (fun i4 =>
 some true) N 0)
def iU (N : Nat) (dg og : List (Int × Int)) (kk : Int → Option Bool) : Nat → Int → Option Bool
 | 0, _ => none
 | fuel + 1, i3 =>
  cond (decide (i3 < (dg.length : Int))) (
  Option.bind (idx dg i3) fun e7 =>
  Option.bind (idx og i3) fun e8 =>
  cond (!(decide (e7.1 = e8.1) && decide (e7.2 = e8.2))) (
  some false) (
  Option.bind (some (IntKind.i64.wrap (i3 + 1))) fun x5 =>
  iU N dg og kk fuel x5)) (
  kk i3)
def iV (N : Nat) (dd od : List (Int × Int)) (kk : Int → Option Bool) : Nat → Int → Option Bool
 | 0, _ => none
 | fuel + 1, i =>
  cond (decide (i < (dd.length : Int))) (
  Option.bind (idx dd i) fun e3 =>
  Option.bind (idx od i) fun e4 =>
  cond (!(decide (e3.1 = e4.1) && decide (e3.2 = e4.2))) (
  some false) (
  Option.bind (some (IntKind.i64.wrap (i + 1))) fun x3 =>
  iV N dd od kk fuel x3)) (
  kk i)
def lM (N : Nat) (da OB OC OD OE dc : Int) (dd : List (Int × Int)) (Oy Oz OA SY SZ df2 S0 S1 S2 S3 S4 S5 : Int) (dg : List (Int × Int)) (dh oa UC La S6 UD oc : Int) (od : List (Int × Int)) (UE UF UG UH UI UJ UK UL UM UN UO UP : Int) (og : List (Int × Int)) (oh : Int) : Option Bool :=
 cond (!decide (da = oa)) (
 some false) (
 cond (!(decide ([OB, OC, OD, OE] = [UC, La, S6, UD]))) (
 some false) (
 cond (!decide (dc = oc)) (
 some false) (
 cond (!(decide ([Oy, Oz, OA] = [UE, UF, UG]))) (
 some false) (
 cond (!(decide ([SY, SZ, df2, S0, S1, S2, S3, S4, S5] = [UH, UI, UJ, UK, UL, UM, UN, UO, UP]))) (
 some false) (
 cond (!decide (dh = oh)) (
 some false) (
 cond (!decide ((dd.length : Int) = (od.length : Int))) (
 some false) (
 cond (!decide ((dg.length : Int) = (og.length : Int))) (
 some false) (
 iV N dd od (fun i2 =>
 iU N dg og (fun i4 =>
 some true) N 0) N 0))))))))
def jF (N : Nat) (cZ rG : List (List UInt8)) (kk : Int → Option Bool) : Nat → Int → Option Bool
 | 0, _ => none
 | fuel + 1, i =>
  cond (decide (i < (cZ.length : Int))) (
  Option.bind (idx cZ i) fun e3 =>
  Option.bind (idx rG i) fun e4 =>
  cond (!decide (e3 = e4)) (
  some false) (
  Option.bind (some (IntKind.i64.wrap (i + 1))) fun x3 =>
  jF N cZ rG kk fuel x3)) (
  kk i)
def kI (N : Nat) (nN oI eF gD g9 : Int) (eV : List Int) (cZ : List (List UInt8)) (cO cD cE cG cH cP : Int) (aV : List (Int × Int)) (cJ cK cL bI bJ bK bL bM bN bO bP bQ : Int) (aW : List (Int × Int)) (bT Ck Gc B3 Eh Ei : Int) (CR : List Int) (rG : List (List UInt8)) (uU sY sZ tA tC uV : Int) (p7 : List (Int × Int)) (tD tE tF rH rI rJ rK rL rM rN rO rP : Int) (p8 : List (Int × Int)) (tG : Int) : Option Bool :=
 cond (!decide (nN = Ck)) (
 some false) (
 cond (!decide (oI = Gc)) (
 some false) (
 cond (!decide (eF = B3)) (
 some false) (
 cond (!decide (gD = Eh)) (
 some false) (
 cond (!decide (g9 = Ei)) (
 some false) (
 Option.bind (kH N eV CR) fun r2 =>
 cond (!(r2)) (
 some false) (
 cond (!decide ((cZ.length : Int) = (rG.length : Int))) (
 some false) (
 Option.bind (lM N cO cD cE cG cH cP aV cJ cK cL bI bJ bK bL bM bN bO bP bQ aW bT uU sY sZ tA tC uV p7 tD tE tF rH rI rJ rK rL rM rN rO rP p8 tG) fun r3 =>
 cond (!(r3)) (
 some false) (
 jF N cZ rG (fun i2 =>
 some true) N 0))))))))
def mV (N : Nat) (l2 : List (Int × Int)) (x2 : Int) (kk : Int → Option Int) : Nat → Int → Option Int
 | 0, _ => none
 | fuel + 1, i =>
  Option.bind (idx l2 i) fun e2 =>
  cond (decide (e2.1 < x2)) (
  Option.bind (some (IntKind.i64.wrap (i + 1))) fun i3 =>
  mV N l2 x2 kk fuel i3) (
  kk i)
def oP (N : Nat) (l2 : List (Int × Int)) (x2 : Int) : Option Int :=
 mV N l2 x2 (fun i4 =>
 Option.bind (idx l2 (IntKind.i64.wrap (i4 - 1))) fun e3 =>
 Option.bind (idx l2 i4) fun e4 =>
 Option.bind (nz (IntKind.i64.wrap (e4.1 - e3.1))) fun _ =>
 Option.bind (some (IntKind.i64.wrap (e3.2 + (IntKind.i64.wrap (Int.tdiv (IntKind.i64.wrap ((IntKind.i64.wrap (e4.2 - e3.2)) * (IntKind.i64.wrap (x2 - e3.1)))) (IntKind.i64.wrap (e4.1 - e3.1))))))) fun x3 =>
 some x3) N 1
def uC (N : Nat)  : Option (List (Int × Int)) :=
 some (([(0, 0), (65535, 65535)] : List (Int × Int)))
def uD (N : Nat)  : Option (Int × Int × Int × Int × Int × Int × List (Int × Int) × Int × Int × Int × Int × Int × Int × Int × Int × Int × Int × Int × Int × List (Int × Int) × Int) :=
 Option.bind (uC N ) fun r2 =>
 some (0, 0, 0, 0, 0, 65535, ([] : List (Int × Int)), 256, 256, 256, 4096, 0, 0, 0, 4096, 0, 0, 0, 4096, r2, 64)
def oY (N : Nat) (o p2 : Int) (kk : (List Int × Int × Int) → Option (List Int × Int)) : Nat → (List Int × Int × Int) → Option (List Int × Int)
 | 0, _ => none
 | fuel + 1, (l8, i8, i9) =>
  cond (decide (o ≤ i9)) (
  cond (decide ((l8.length : Int) < p2)) (
  Option.bind (some (IntKind.i64.wrap (i9 - o))) fun EH =>
  Option.bind (nn EH) fun _ =>
  Option.bind (app 8 l8 ([iZ .i64 i8 EH] : List Int)) fun l10 =>
  Option.bind (nn EH) fun _ =>
  Option.bind (some (Fz .i64 i8 (IntKind.i64.wrap ((nX .i64 1 EH) - 1)))) fun Ix =>
  oY N o p2 kk fuel (l10, Ix, EH)) (
  kk (l8, i8, i9))) (
  kk (l8, i8, i9))
def oZ (N : Nat) (d : List UInt8) (o p2 : Int) (kk : (List Int × Int × Int × Int) → Option (List Int × Int)) : Nat → (List Int × Int × Int × Int) → Option (List Int × Int)
 | 0, _ => none
 | fuel + 1, (l5, i3, i4, i5) =>
  cond (decide (i5 < (d.length : Int))) (
  Option.bind (idx d i5) fun b3 =>
  Option.bind (some (Iu .i64 (nX .i64 i3 8) (IntKind.i64.wrap (b3.toNat : Int)))) fun JB =>
  Option.bind (some (IntKind.i64.wrap (i4 + 8))) fun Ip =>
  oY N o p2 (fun (Wv, FV, i11) =>
  oZ N d o p2 kk fuel (Wv, FV, i11, IntKind.i64.wrap (i5 + 1))) N (l5, JB, Ip)) (
  kk (l5, i3, i4, i5))
def vG (N : Nat) (d : List UInt8) (o p2 : Int) : Option (List Int × Int) :=
 Option.bind (sX N o) fun r2 =>
 cond (!(r2)) (
 some (([] : List Int), 3)) (
 cond (decide (p2 < 0)) (
 some (([] : List Int), 3)) (
 cond (decide (4096 < p2)) (
 some (([] : List Int), 2)) (
 cond (!decide ((d.length : Int) = (IntKind.i64.wrap (Int.tdiv (IntKind.i64.wrap ((IntKind.i64.wrap (p2 * o)) + 7)) 8)))) (
 some (([] : List Int), 1)) (
 oZ N d o p2 (fun (UB, i12, JG, X8) =>
 cond (!decide (i12 = 0)) (
 some (([] : List Int), 1)) (
 some (UB, 0))) N (([] : List Int), 0, 0, 0)))))
def pC (N : Nat) (e2 : List UInt8) (kk : (List (List UInt8 × Int) × Int) → Option (List Int × List UInt8 × Int)) : Nat → (List (List UInt8 × Int) × Int) → Option (List Int × List UInt8 × Int)
 | 0, _ => none
 | fuel + 1, (m5, i3) =>
  cond (decide (i3 < (e2.length : Int))) (
  Option.bind (Bv e2 0 i3) fun s5 =>
  Option.bind (GS m5 s5) fun q3 =>
  cond (!(q3.2)) (
  Option.bind (Bv e2 0 i3) fun s6 =>
  Option.bind (Mt m5 s6 (-1)) fun m7 =>
  pC N e2 kk fuel (m7, IntKind.i64.wrap (i3 + 1))) (
  pC N e2 kk fuel (m5, IntKind.i64.wrap (i3 + 1)))) (
  kk (m5, i3))
def j1 (N : Nat) (m10 : List (List UInt8 × Int)) (o2 : List UInt8) (kk : (Int × Int) → Option (List Int × List UInt8 × Int)) : Nat → (Int × Int) → Option (List Int × List UInt8 × Int)
 | 0, _ => none
 | fuel + 1, (FV, i11) =>
  cond (decide (i11 < 0)) (
  Option.bind (Bv o2 0 FV) fun s12 =>
  Option.bind (GS m10 s12) fun q7 =>
  cond (!(q7.2)) (
  some (([] : List Int), ([] : List UInt8), 4)) (
  cond (decide (0 ≤ q7.1)) (
  j1 N m10 o2 kk fuel (FV, q7.1)) (
  cond (decide (FV = (o2.length : Int))) (
  some (([] : List Int), ([] : List UInt8), 5)) (
  Option.bind (some (IntKind.i64.wrap (FV + 1))) fun x5 =>
  j1 N m10 o2 kk fuel (x5, i11))))) (
  kk (FV, i11))
def nQ (N : Nat) (p2 : Int) (m10 : List (List UInt8 × Int)) (kk : (List Int × List UInt8) → Option (List Int × List UInt8 × Int)) : Nat → (List Int × List UInt8) → Option (List Int × List UInt8 × Int)
 | 0, _ => none
 | fuel + 1, (l3, o2) =>
  cond (decide ((l3.length : Int) < p2)) (
  j1 N m10 o2 (fun (i12, JG) =>
  Option.bind (app 8 l3 ([JG] : List Int)) fun l5 =>
  Option.bind (Bv o2 i12 (o2.length : Int)) fun s13 =>
  nQ N p2 m10 kk fuel (l5, s13)) N (0, (-1))) (
  kk (l3, o2))
def pD (N : Nat) (r2 : List (List UInt8) × Int) (kk : (List (List UInt8 × Int) × Int) → Option (List Int × List UInt8 × Int)) : Nat → (List (List UInt8 × Int) × Int) → Option (List Int × List UInt8 × Int)
 | 0, _ => none
 | fuel + 1, (m, i) =>
  cond (decide (i < (r2.1.length : Int))) (
  Option.bind (idx r2.1 i) fun e2 =>
  pC N e2 (fun (m8, i4) =>
  cond (!decide (e2 = ([] : List UInt8))) (
  Option.bind (Mt m8 e2 i) fun m9 =>
  pD N r2 kk fuel (m9, IntKind.i64.wrap (i + 1))) (
  pD N r2 kk fuel (m8, IntKind.i64.wrap (i + 1)))) N (m, 0)) (
  kk (m, i))
def uE (N : Nat) (d : List Int) (o : List UInt8) (p2 : Int) : Option (List Int × List UInt8 × Int) :=
 Option.bind (p6 N d) fun r2 =>
 cond (!decide (r2.2 = 0)) (
 some (([] : List Int), ([] : List UInt8), r2.2)) (
 cond (decide (p2 < 0)) (
 some (([] : List Int), ([] : List UInt8), 3)) (
 cond (decide (4096 < p2)) (
 some (([] : List Int), ([] : List UInt8), 3)) (
 Option.bind (sH N o) fun r3 =>
 cond (!decide (r3.2 = 0)) (
 some (([] : List Int), ([] : List UInt8), 1)) (
 pD N r2 (fun (m10, i5) =>
 nQ N p2 m10 (fun (l6, o3) =>
 some (l6, o3, 0)) N (([] : List Int), o)) N (([] : List (List UInt8 × Int)), 0)))))
def rQ (N : Nat) (s : List UInt8) (kk : (List UInt8 × Int) → Option (List UInt8)) : Nat → (List UInt8 × Int) → Option (List UInt8)
 | 0, _ => none
 | fuel + 1, (l2, i) =>
  cond (decide (i < (s.length : Int))) (
  Option.bind (idx s i) fun b3 =>
  Option.bind (qJ N (IntKind.i64.wrap (b3.toNat : Int)) 8) fun r3 =>
  Option.bind (K9 l2 r3) fun b4 =>
  Option.bind (some (IntKind.i64.wrap (i + 1))) fun i3 =>
  rQ N s kk fuel (b4, i3)) (
  kk (l2, i))
def uF (N : Nat) (s : List UInt8) : Option (List UInt8) :=
 rQ N s (fun (l3, i4) =>
 some l3) N (([] : List UInt8), 0)
def pY (N : Nat) (b : List UInt8) (kk : (Int × Int) → Option (Int × Int)) : Nat → (Int × Int) → Option (Int × Int)
 | 0, _ => none
 | fuel + 1, (n, i) =>
  cond (decide (i < (b.length : Int))) (
  Option.bind (idx b i) fun b3 =>
  Option.bind (some (IntKind.i64.wrap ((nX .i64 n 1) + (IntKind.i64.wrap (Fz .u8 (b3.toNat : Int) 1))))) fun n3 =>
  pY N b kk fuel (n3, IntKind.i64.wrap (i + 1))) (
  kk (n, i))
def wX (N : Nat) (b : List UInt8) : Option (Int × Int) :=
 Option.bind (xR N b) fun r2 =>
 cond (!(r2)) (
 some (0, 1)) (
 cond (decide (16 < (b.length : Int))) (
 some (0, 3)) (
 pY N b (fun (n4, i2) =>
 some (n4, 0)) N (0, 0)))
def uG (N : Nat)  (kk : (List UInt8 × List UInt8) → Option (Int × Int × List Int × Int)) : Nat → (List UInt8 × List UInt8) → Option (Int × Int × List Int × Int)
 | 0, _ => none
 | fuel + 1, (EH, Ix) =>
  cond (decide ((EH.length : Int) < 1)) (
  cond (!decide (Ix = ([] : List UInt8))) (
  Option.bind (Bv Ix 0 1) fun s21 =>
  Option.bind (uF N s21) fun DC =>
  Option.bind (G4 EH DC) fun s22 =>
  Option.bind (Bv Ix 1 (Ix.length : Int)) fun s23 =>
  uG N  kk fuel (s22, s23)) (
  kk (EH, Ix))) (
  kk (EH, Ix))
def j3 (N : Nat) (i6 : Int) (kk : (List UInt8 × List UInt8) → Option (Int × Int × List Int × Int)) : Nat → (List UInt8 × List UInt8) → Option (Int × Int × List Int × Int)
 | 0, _ => none
 | fuel + 1, (Ov, x23) =>
  cond (decide ((Ov.length : Int) < i6)) (
  cond (!decide (x23 = ([] : List UInt8))) (
  Option.bind (Bv x23 0 1) fun s30 =>
  Option.bind (uF N s30) fun Bu =>
  Option.bind (G4 Ov Bu) fun s31 =>
  Option.bind (Bv x23 1 (x23.length : Int)) fun s32 =>
  j3 N i6 kk fuel (s31, s32)) (
  kk (Ov, x23))) (
  kk (Ov, x23))
def jG (N : Nat) (p4 : List Int) (kk : (List UInt8 × List UInt8 × Int × Int × List UInt8) → Option (Int × Int × List Int × Int)) : Nat → (List UInt8 × List UInt8 × Int × Int × List UInt8) → Option (Int × Int × List Int × Int)
 | 0, _ => none
 | fuel + 1, (JB, Ip, i4, i5, w3) =>
  Option.bind (uE N p4 w3 1) fun zE =>
  cond (decide (zE.2.2 = 0)) (
  Option.bind (idx zE.1 0) fun e7 =>
  kk (JB, Ip, e7, zE.2.2, w3)) (
  uG N  (fun (x18, K5) =>
  cond (decide ((x18.length : Int) < 1)) (
  cond (!decide (zE.2.2 = 5)) (
  kk (x18, K5, 0, 1, w3)) (
  kk (x18, K5, 0, 1, w3))) (
  Option.bind (Bv x18 0 1) fun s24 =>
  Option.bind (Bv x18 1 (x18.length : Int)) fun XV =>
  cond (!decide (zE.2.2 = 5)) (
  kk (XV, K5, 0, 1, w3)) (
  Option.bind (G4 w3 s24) fun s26 =>
  jG N p4 kk fuel (XV, K5, i4, i5, s26)))) N (JB, Ip))
def fB (N : Nat) (o p2 p3 : Int) (p4 : List Int) (kk : (List Int × List UInt8 × List UInt8 × Int) → Option (Int × Int × List Int × Int)) : Nat → (List Int × List UInt8 × List UInt8 × Int) → Option (Int × Int × List Int × Int)
 | 0, _ => none
 | fuel + 1, (EI, x3, x4, i) =>
  cond (decide (i < (IntKind.i64.wrap (o * p2)))) (
  Option.bind (app 8 EI ([0] : List Int)) fun yW =>
  jG N p4 (fun (x20, x21, i6, i7, w4) =>
  cond (!decide (i7 = 0)) (
  some (0, 0, ([] : List Int), 1)) (
  cond (decide (i6 = 16)) (
  Option.bind (nM N o p2 yW p3 i) fun r16 =>
  Option.bind (idx yW i) fun e8 =>
  Option.bind (v6 yW i (IntKind.i64.wrap (IntKind.u16.wrap (IntKind.i64.wrap (r16 + 32768))))) fun l6 =>
  fB N o p2 p3 p4 kk fuel (l6, x20, x21, IntKind.i64.wrap (i + 1))) (
  cond (decide (0 < i6)) (
  j3 N i6 (fun (x24, x25) =>
  cond (decide ((x24.length : Int) < i6)) (
  some (0, 0, ([] : List Int), 1)) (
  Option.bind (Bv x24 0 i6) fun s33 =>
  Option.bind (Bv x24 i6 (x24.length : Int)) fun Y4 =>
  Option.bind (wX N s33) fun CS =>
  Option.bind (idx s33 0) fun b2 =>
  cond (decide ((b2.toNat : Int) = 48)) (
  Option.bind (nn i6) fun _ =>
  Option.bind (some (IntKind.i64.wrap (CS.1 - (IntKind.i64.wrap ((nX .i64 1 i6) - 1))))) fun SX =>
  Option.bind (nM N o p2 yW p3 i) fun Fu =>
  Option.bind (idx yW i) fun e9 =>
  Option.bind (v6 yW i (IntKind.i64.wrap (IntKind.u16.wrap (IntKind.i64.wrap (Fu + SX))))) fun l7 =>
  fB N o p2 p3 p4 kk fuel (l7, Y4, x25, IntKind.i64.wrap (i + 1))) (
  Option.bind (nM N o p2 yW p3 i) fun FG =>
  Option.bind (idx yW i) fun e10 =>
  Option.bind (v6 yW i (IntKind.i64.wrap (IntKind.u16.wrap (IntKind.i64.wrap (FG + CS.1))))) fun l8 =>
  fB N o p2 p3 p4 kk fuel (l8, Y4, x25, IntKind.i64.wrap (i + 1))))) N (x20, x21)) (
  Option.bind (nM N o p2 yW p3 i) fun Gd =>
  Option.bind (idx yW i) fun e11 =>
  Option.bind (v6 yW i (IntKind.i64.wrap (IntKind.u16.wrap (IntKind.i64.wrap (Gd + 0))))) fun l9 =>
  fB N o p2 p3 p4 kk fuel (l9, x20, x21, IntKind.i64.wrap (i + 1)))))) N (x3, x4, 0, 0, ([] : List UInt8))) (
  kk (EI, x3, x4, i))
def yX (N : Nat) (d : List UInt8) (o p2 p3 : Int) (p4 : List Int) : Option (Int × Int × List Int × Int) :=
 cond (decide (o < 1)) (
 some (0, 0, ([] : List Int), 3)) (
 cond (decide (64 < o)) (
 some (0, 0, ([] : List Int), 3)) (
 cond (decide (p2 < 1)) (
 some (0, 0, ([] : List Int), 3)) (
 cond (decide (64 < p2)) (
 some (0, 0, ([] : List Int), 3)) (
 cond (decide (p3 < 1)) (
 some (0, 0, ([] : List Int), 6)) (
 cond (decide (7 < p3)) (
 some (0, 0, ([] : List Int), 6)) (
 Option.bind (sG N p4) fun r2 =>
 cond (!decide (r2 = 0)) (
 some (0, 0, ([] : List Int), r2)) (
 fB N o p2 p3 p4 (fun (G7, x27, x28, i8) =>
 cond (!decide (x28 = ([] : List UInt8))) (
 some (0, 0, ([] : List Int), 1)) (
 Option.bind (o9 N x27 ([49] : List UInt8)) fun JH =>
 cond (JH) (
 some (0, 0, ([] : List Int), 1)) (
 some (o, p2, G7, 0)))) N (([] : List Int), ([] : List UInt8), d, 0))))))))
def vH (N : Nat) (vC qG dP eO dW : Int) (eN : List Int) (dJ : List (List UInt8)) (cQ bU bV bW bX cR : Int) (aX : List (Int × Int)) (bY bZ cA aY aZ bA bB bC bD bE bF bG : Int) (bH : List (Int × Int)) (cB : Int) (s : List UInt8) (rows : Int) : Option (List Int × Int) :=
 cond (decide (eO = 0)) (
 Option.bind (vG N s dP (IntKind.i64.wrap (vC * rows))) fun r2 =>
 some (r2.1, r2.2)) (
 Option.bind (yX N s vC rows eO eN) fun r3 =>
 cond (decide (r3.2.2.2 = 0)) (
 Option.bind (lG N r3.2.2.1) fun r4 =>
 Option.bind (nn dP) fun _ =>
 cond (decide (0 < (iZ .i64 r4 dP))) (
 some (r3.2.2.1, 1)) (
 some (r3.2.2.1, r3.2.2.2))) (
 some (r3.2.2.1, r3.2.2.2)))
def rR (N : Nat) (nN oI eF gD g9 : Int) (eV : List Int) (cZ : List (List UInt8)) (cO cD cE cG cH cP : Int) (aV : List (Int × Int)) (cJ cK cL bI bJ bK bL bM bN bO bP bQ : Int) (aW : List (Int × Int)) (bT : Int) (r3 : List (Int × Int)) (kk : (List Int × Int) → Option (Int × Int × List Int × Int)) : Nat → (List Int × Int) → Option (Int × Int × List Int × Int)
 | 0, _ => none
 | fuel + 1, (EI, i) =>
  cond (decide (i < (cZ.length : Int))) (
  Option.bind (idx cZ i) fun e3 =>
  Option.bind (idx r3 i) fun e4 =>
  Option.bind (vH N nN oI eF gD g9 eV cZ cO cD cE cG cH cP aV cJ cK cL bI bJ bK bL bM bN bO bP bQ aW bT e3 e4.2) fun r6 =>
  cond (!decide (r6.2 = 0)) (
  some (0, 0, ([] : List Int), 1)) (
  Option.bind (app 8 EI r6.1) fun yW =>
  rR N nN oI eF gD g9 eV cZ cO cD cE cG cH cP aV cJ cK cL bI bJ bK bL bM bN bO bP bQ aW bT r3 kk fuel (yW, IntKind.i64.wrap (i + 1)))) (
  kk (EI, i))
def uH (N : Nat) (nN oI eF gD g9 : Int) (eV : List Int) (cZ : List (List UInt8)) (cO cD cE cG cH cP : Int) (aV : List (Int × Int)) (cJ cK cL bI bJ bK bL bM bN bO bP bQ : Int) (aW : List (Int × Int)) (bT : Int) : Option (Int × Int × List Int × Int) :=
 Option.bind (xP N nN oI eF gD g9 eV cZ cO cD cE cG cH cP aV cJ cK cL bI bJ bK bL bM bN bO bP bQ aW bT) fun r2 =>
 cond (!decide (r2 = 0)) (
 some (0, 0, ([] : List Int), r2)) (
 Option.bind (uT N nN oI eF gD g9 eV cZ cO cD cE cG cH cP aV cJ cK cL bI bJ bK bL bM bN bO bP bQ aW bT) fun r3 =>
 cond (!decide ((cZ.length : Int) = (r3.length : Int))) (
 some (0, 0, ([] : List Int), 2)) (
 Option.bind (xQ N nN oI eF gD g9 eV cZ cO cD cE cG cH cP aV cJ cK cL bI bJ bK bL bM bN bO bP bQ aW bT) fun r4 =>
 cond (!decide (r4 = 0)) (
 some (0, 0, ([] : List Int), r4)) (
 rR N nN oI eF gD g9 eV cZ cO cD cE cG cH cP aV cJ cK cL bI bJ bK bL bM bN bO bP bQ aW bT r3 (fun (G7, i2) =>
 some (nN, oI, G7, 0)) N (([] : List Int), 0))))
def nA (N : Nat) (s : List UInt8) (i : Int) (kk : (List Int × Int) → Option (List UInt8)) : Nat → (List Int × Int) → Option (List UInt8)
 | 0, _ => none
 | fuel + 1, (l5, k3) =>
  cond (decide (0 ≤ k3)) (
  Option.bind (idx s i) fun b3 =>
  Option.bind (nn k3) fun _ =>
  Option.bind (app 1 l5 (([IntKind.u8.wrap (48 + (Fz .u8 (iZ .u8 (b3.toNat : Int) k3) 1))] : List Int))) fun l7 =>
  Option.bind (some (IntKind.i64.wrap (k3 - 1))) fun k5 =>
  nA N s i kk fuel (l7, k5)) (
  kk (l5, k3))
def lI (N : Nat) (s : List UInt8) (kk : (List Int × Int) → Option (List UInt8)) : Nat → (List Int × Int) → Option (List UInt8)
 | 0, _ => none
 | fuel + 1, (l2, i) =>
  cond (decide (i < (s.length : Int))) (
  nA N s i (fun (l8, k6) =>
  Option.bind (some (IntKind.i64.wrap (i + 1))) fun i3 =>
  lI N s kk fuel (l8, i3)) N (l2, 7)) (
  kk (l2, i))
def sL (N : Nat) (s : List UInt8) : Option (List UInt8) :=
 Option.bind (Qe 1 (IntKind.i64.wrap (8 * (s.length : Int)))) fun _ =>
 lI N s (fun (l9, i4) =>
 some (toB l9)) N (([] : List Int), 0)
def lT (N : Nat) (b : List UInt8) (kk : (Int × Int) → Option Int) : Nat → (Int × Int) → Option Int
 | 0, _ => none
 | fuel + 1, (n, i) =>
  cond (decide (i < (b.length : Int))) (
  Option.bind (idx b i) fun b3 =>
  Option.bind (some (IntKind.i64.wrap ((IntKind.i64.wrap (2 * n)) + (IntKind.i64.wrap (IntKind.u8.wrap ((b3.toNat : Int) - 48)))))) fun n3 =>
  Option.bind (some (IntKind.i64.wrap (i + 1))) fun i3 =>
  lT N b kk fuel (n3, i3)) (
  kk (n, i))
def nR (N : Nat) (b : List UInt8) : Option Int :=
 lT N b (fun (n4, i4) =>
 some n4) N (0, 0)
def kN (N : Nat) (depth n : Int) (r3 : List UInt8) (kk : (List Int × Int) → Option (List Int × Int)) : Nat → (List Int × Int) → Option (List Int × Int)
 | 0, _ => none
 | fuel + 1, (l3, i2) =>
  cond (decide (i2 < n)) (
  Option.bind (Bv r3 (IntKind.i64.wrap (i2 * depth)) (IntKind.i64.wrap ((IntKind.i64.wrap (i2 + 1)) * depth))) fun s4 =>
  Option.bind (nR N s4) fun r6 =>
  Option.bind (app 8 l3 ([r6] : List Int)) fun l5 =>
  Option.bind (some (IntKind.i64.wrap (i2 + 1))) fun i4 =>
  kN N depth n r3 kk fuel (l5, i4)) (
  kk (l3, i2))
def rS (N : Nat) (s : List UInt8) (depth n : Int) : Option (List Int × Int) :=
 Option.bind (cC N depth 1 16) fun r2 =>
 cond (!(r2)) (
 some (([] : List Int), 3)) (
 cond (decide (n < 0)) (
 some (([] : List Int), 3)) (
 cond (decide (4096 < n)) (
 some (([] : List Int), 2)) (
 cond (!decide ((s.length : Int) = (IntKind.i64.wrap (Int.tdiv (IntKind.i64.wrap ((IntKind.i64.wrap (n * depth)) + 7)) 8)))) (
 some (([] : List Int), 1)) (
 Option.bind (sL N s) fun r3 =>
 kN N depth n r3 (fun (l6, i5) =>
 Option.bind (pJ N l6 depth) fun r7 =>
 cond (!decide (r7 = s)) (
 some (([] : List Int), 1)) (
 some (l6, 0))) N (([] : List Int), 0)))))
def pK (N : Nat) (s QI : List UInt8) : Option Bool :=
 cond (decide ((QI.length : Int) ≤ (s.length : Int))) (
 Option.bind (Bv s 0 (QI.length : Int)) fun s2 =>
 some (decide (s2 = QI))) (
 some false)
def jH (N : Nat) (w2 : List (List UInt8)) (b : List UInt8) (kk : (Bool × Int) → Option (Int × Int)) : Nat → (Bool × Int) → Option (Int × Int)
 | 0, _ => none
 | fuel + 1, (short, i) =>
  cond (decide (i < (w2.length : Int))) (
  Option.bind (idx w2 i) fun e4 =>
  cond (decide (e4 = ([] : List UInt8))) (
  Option.bind (some (IntKind.i64.wrap (i + 1))) fun i5 =>
  jH N w2 b kk fuel (short, i5)) (
  Option.bind (idx w2 i) fun e5 =>
  Option.bind (pK N b e5) fun r4 =>
  cond (r4) (
  some (i, 0)) (
  cond (short) (
  Option.bind (some (IntKind.i64.wrap (i + 1))) fun i6 =>
  jH N w2 b kk fuel (true, i6)) (
  Option.bind (idx w2 i) fun e6 =>
  Option.bind (pK N e6 b) fun r5 =>
  Option.bind (some (IntKind.i64.wrap (i + 1))) fun i7 =>
  jH N w2 b kk fuel (r5, i7))))) (
  kk (short, i))
def uI (N : Nat) (w2 : List (List UInt8)) (b : List UInt8) : Option (Int × Int) :=
 jH N w2 b (fun (MC, i8) =>
 cond (MC) (
 some (0, 5)) (
 some (0, 4))) N (false, 0)
def fR (N : Nat) (o p2 p3 : Int) (r6 : List (List UInt8)) (kk : (List Int × List UInt8 × Int) → Option (Int × Int × List Int × Int)) : Nat → (List Int × List UInt8 × Int) → Option (Int × Int × List Int × Int)
 | 0, _ => none
 | fuel + 1, (EI, i, i2) =>
  cond (decide (i2 < (IntKind.i64.wrap (o * p2)))) (
  Option.bind (uI N r6 i) fun r16 =>
  cond (!decide (r16.2 = 0)) (
  some (0, 0, ([] : List Int), 1)) (
  Option.bind (idx r6 r16.1) fun e5 =>
  Option.bind (Bv i (e5.length : Int) (i.length : Int)) fun s5 =>
  cond (decide (r16.1 = 16)) (
  Option.bind (nz o) fun _ =>
  Option.bind (nz o) fun _ =>
  Option.bind (jU N o p2 EI p3 (Int.tmod i2 o) (IntKind.i64.wrap (Int.tdiv i2 o))) fun Cj =>
  Option.bind (some (IntKind.i64.wrap (Cj + 32768))) fun x10 =>
  Option.bind (eI N x10 65536) fun Bu =>
  Option.bind (idx EI i2) fun e6 =>
  Option.bind (v6 EI i2 (IntKind.i64.wrap (x10 - (IntKind.i64.wrap (65536 * Bu))))) fun l6 =>
  Option.bind (some (IntKind.i64.wrap (i2 + 1))) fun Ou =>
  fR N o p2 p3 r6 kk fuel (l6, s5, Ou)) (
  cond (decide ((s5.length : Int) < r16.1)) (
  some (0, 0, ([] : List Int), 1)) (
  Option.bind (Bv s5 0 r16.1) fun s6 =>
  Option.bind (nR N s6) fun CS =>
  Option.bind (nn r16.1) fun _ =>
  cond (decide (CS < (IntKind.i64.wrap (Int.tdiv (nX .i64 1 r16.1) 2)))) (
  Option.bind (nn r16.1) fun _ =>
  Option.bind (some (IntKind.i64.wrap ((IntKind.i64.wrap (CS - (nX .i64 1 r16.1))) + 1))) fun JB =>
  Option.bind (Bv s5 r16.1 (s5.length : Int)) fun s7 =>
  Option.bind (nz o) fun _ =>
  Option.bind (nz o) fun _ =>
  Option.bind (jU N o p2 EI p3 (Int.tmod i2 o) (IntKind.i64.wrap (Int.tdiv i2 o))) fun Fu =>
  Option.bind (some (IntKind.i64.wrap (Fu + JB))) fun Ip =>
  Option.bind (eI N Ip 65536) fun FG =>
  Option.bind (idx EI i2) fun e7 =>
  Option.bind (v6 EI i2 (IntKind.i64.wrap (Ip - (IntKind.i64.wrap (65536 * FG))))) fun l7 =>
  Option.bind (some (IntKind.i64.wrap (i2 + 1))) fun Wj =>
  fR N o p2 p3 r6 kk fuel (l7, s7, Wj)) (
  Option.bind (Bv s5 r16.1 (s5.length : Int)) fun s8 =>
  Option.bind (nz o) fun _ =>
  Option.bind (nz o) fun _ =>
  Option.bind (jU N o p2 EI p3 (Int.tmod i2 o) (IntKind.i64.wrap (Int.tdiv i2 o))) fun Gd =>
  Option.bind (some (IntKind.i64.wrap (Gd + CS))) fun Uy =>
  Option.bind (eI N Uy 65536) fun JH =>
  Option.bind (idx EI i2) fun e8 =>
  Option.bind (v6 EI i2 (IntKind.i64.wrap (Uy - (IntKind.i64.wrap (65536 * JH))))) fun l8 =>
  Option.bind (some (IntKind.i64.wrap (i2 + 1))) fun EH =>
  fR N o p2 p3 r6 kk fuel (l8, s8, EH)))))) (
  kk (EI, i, i2))
def rT (N : Nat) (d : List UInt8) (o p2 p3 : Int) (p4 : List Int) : Option (Int × Int × List Int × Int) :=
 Option.bind (cC N o 1 64) fun r2 =>
 cond (!(r2)) (
 some (0, 0, ([] : List Int), 3)) (
 Option.bind (cC N p2 1 64) fun r3 =>
 cond (!(r3)) (
 some (0, 0, ([] : List Int), 3)) (
 Option.bind (cC N p3 1 7) fun r4 =>
 cond (!(r4)) (
 some (0, 0, ([] : List Int), 6)) (
 Option.bind (kA N p4) fun r5 =>
 cond (!decide (r5 = 0)) (
 some (0, 0, ([] : List Int), r5)) (
 Option.bind (mC N p4) fun r6 =>
 cond (decide (32768 < (d.length : Int))) (
 some (0, 0, ([] : List Int), 1)) (
 Option.bind (sL N d) fun r7 =>
 Option.bind (some (IntKind.i64.wrap (o * p2))) fun x2 =>
 Option.bind (mk 8 x2 (0 : Int)) fun l2 =>
 fR N o p2 p3 r6 (fun (QJ, i3, i4) =>
 Option.bind (nO N o p2 QJ p3 p4) fun Tp =>
 cond (!decide (Tp.2 = 0)) (
 some (0, 0, ([] : List Int), 1)) (
 cond (!decide (Tp.1 = d)) (
 some (0, 0, ([] : List Int), 1)) (
 some (o, p2, QJ, 0)))) N (l2, r7, 0))))))
def uJ (N : Nat) (vC qG dP eO dW : Int) (eN : List Int) (dJ : List (List UInt8)) (cQ bU bV bW bX cR : Int) (aX : List (Int × Int)) (bY bZ cA aY aZ bA bB bC bD bE bF bG : Int) (bH : List (Int × Int)) (cB i : Int) : Option (List Int × Bool) :=
 Option.bind (xJ N vC qG dP eO dW eN dJ cQ bU bV bW bX cR aX bY bZ cA aY aZ bA bB bC bD bE bF bG bH cB i) fun r2 =>
 cond (decide (eO = 0)) (
 Option.bind (idx dJ i) fun e =>
 Option.bind (rS N e dP (IntKind.i64.wrap (vC * r2))) fun r3 =>
 some (r3.1, decide (r3.2 = 0))) (
 Option.bind (idx dJ i) fun e2 =>
 Option.bind (rT N e2 vC r2 eO eN) fun r4 =>
 cond (decide (r4.2.2.2 = 0)) (
 Option.bind (sK N r4.2.2.1 dP) fun r5 =>
 some (r4.2.2.1, r5)) (
 some (r4.2.2.1, false)))
def kO (N : Nat) (vC qG dP eO dW : Int) (eN : List Int) (dJ : List (List UInt8)) (cQ bU bV bW bX cR : Int) (aX : List (Int × Int)) (bY bZ cA aY aZ bA bB bC bD bE bF bG : Int) (bH : List (Int × Int)) (cB : Int) (kk : (List Int × Int) → Option (Int × Int × List Int × Int)) : Nat → (List Int × Int) → Option (Int × Int × List Int × Int)
 | 0, _ => none
 | fuel + 1, (zR, i) =>
  cond (decide (i < (dJ.length : Int))) (
  Option.bind (uJ N vC qG dP eO dW eN dJ cQ bU bV bW bX cR aX bY bZ cA aY aZ bA bB bC bD bE bF bG bH cB i) fun r6 =>
  cond (!(r6.2)) (
  some (0, 0, ([] : List Int), 1)) (
  Option.bind (app 8 zR r6.1) fun aC2 =>
  Option.bind (some (IntKind.i64.wrap (i + 1))) fun i3 =>
  kO N vC qG dP eO dW eN dJ cQ bU bV bW bX cR aX bY bZ cA aY aZ bA bB bC bD bE bF bG bH cB kk fuel (aC2, i3))) (
  kk (zR, i))
def nY (N : Nat) (vC qG dP eO dW : Int) (eN : List Int) (dJ : List (List UInt8)) (cQ bU bV bW bX cR : Int) (aX : List (Int × Int)) (bY bZ cA aY aZ bA bB bC bD bE bF bG : Int) (bH : List (Int × Int)) (cB : Int) : Option (Int × Int × List Int × Int) :=
 Option.bind (qL N vC qG dP eO dW eN dJ cQ bU bV bW bX cR aX bY bZ cA aY aZ bA bB bC bD bE bF bG bH cB) fun r2 =>
 cond (!decide (r2 = 0)) (
 some (0, 0, ([] : List Int), r2)) (
 Option.bind (uA N vC qG dP eO dW eN dJ cQ bU bV bW bX cR aX bY bZ cA aY aZ bA bB bC bD bE bF bG bH cB) fun r3 =>
 cond (!decide ((dJ.length : Int) = r3)) (
 some (0, 0, ([] : List Int), 2)) (
 Option.bind (qN N vC qG dP eO dW eN dJ cQ bU bV bW bX cR aX bY bZ cA aY aZ bA bB bC bD bE bF bG bH cB) fun r4 =>
 cond (!decide (r4 = 0)) (
 some (0, 0, ([] : List Int), r4)) (
 kO N vC qG dP eO dW eN dJ cQ bU bV bW bX cR aX bY bZ cA aY aZ bA bB bC bD bE bF bG bH cB (fun (Ww, i4) =>
 some (vC, qG, Ww, 0)) N (([] : List Int), 0))))
def v7 (N : Nat)  : Option (List Int) :=
 some (([2, 3, 3, 4, 4, 4, 5, 5, 5, 6, 6, 6, 7, 7, 7, 8, 8] : List Int))
def p9 (N : Nat)  : Option (Int × Int × List Int) :=
 some (2, 2, ([10, 65535, 0, 7] : List Int))
def lD (N : Nat)  : Option (Int × Int × Int × Int × Int × List Int × List (List UInt8) × Int × Int × Int × Int × Int × Int × List (Int × Int) × Int × Int × Int × Int × Int × Int × Int × Int × Int × Int × Int × Int × List (Int × Int) × Int) :=
 Option.bind (v7 N ) fun r2 =>
 Option.bind (uD N ) fun r3 =>
 Option.bind (p9 N ) fun r4 =>
 Option.bind (xS N 2 2 16 7 1 r2 (([] : List (List UInt8))) r3.1 r3.2.1 r3.2.2.1 r3.2.2.2.1 r3.2.2.2.2.1 r3.2.2.2.2.2.1 r3.2.2.2.2.2.2.1 r3.2.2.2.2.2.2.2.1 r3.2.2.2.2.2.2.2.2.1 r3.2.2.2.2.2.2.2.2.2.1 r3.2.2.2.2.2.2.2.2.2.2.1 r3.2.2.2.2.2.2.2.2.2.2.2.1 r3.2.2.2.2.2.2.2.2.2.2.2.2.1 r3.2.2.2.2.2.2.2.2.2.2.2.2.2.1 r3.2.2.2.2.2.2.2.2.2.2.2.2.2.2.1 r3.2.2.2.2.2.2.2.2.2.2.2.2.2.2.2.1 r3.2.2.2.2.2.2.2.2.2.2.2.2.2.2.2.2.1 r3.2.2.2.2.2.2.2.2.2.2.2.2.2.2.2.2.2.1 r3.2.2.2.2.2.2.2.2.2.2.2.2.2.2.2.2.2.2.1 r3.2.2.2.2.2.2.2.2.2.2.2.2.2.2.2.2.2.2.2.1 r3.2.2.2.2.2.2.2.2.2.2.2.2.2.2.2.2.2.2.2.2 r4.1 r4.2.1 r4.2.2) fun r5 =>
 some (r5.1, r5.2.1, r5.2.2.1, r5.2.2.2.1, r5.2.2.2.2.1, r5.2.2.2.2.2.1, r5.2.2.2.2.2.2.1, r5.2.2.2.2.2.2.2.1, r5.2.2.2.2.2.2.2.2.1, r5.2.2.2.2.2.2.2.2.2.1, r5.2.2.2.2.2.2.2.2.2.2.1, r5.2.2.2.2.2.2.2.2.2.2.2.1, r5.2.2.2.2.2.2.2.2.2.2.2.2.1, r5.2.2.2.2.2.2.2.2.2.2.2.2.2.1, r5.2.2.2.2.2.2.2.2.2.2.2.2.2.2.1, r5.2.2.2.2.2.2.2.2.2.2.2.2.2.2.2.1, r5.2.2.2.2.2.2.2.2.2.2.2.2.2.2.2.2.1, r5.2.2.2.2.2.2.2.2.2.2.2.2.2.2.2.2.2.1, r5.2.2.2.2.2.2.2.2.2.2.2.2.2.2.2.2.2.2.1, r5.2.2.2.2.2.2.2.2.2.2.2.2.2.2.2.2.2.2.2.1, r5.2.2.2.2.2.2.2.2.2.2.2.2.2.2.2.2.2.2.2.2.1, r5.2.2.2.2.2.2.2.2.2.2.2.2.2.2.2.2.2.2.2.2.2.1, r5.2.2.2.2.2.2.2.2.2.2.2.2.2.2.2.2.2.2.2.2.2.2.1, r5.2.2.2.2.2.2.2.2.2.2.2.2.2.2.2.2.2.2.2.2.2.2.2.1, r5.2.2.2.2.2.2.2.2.2.2.2.2.2.2.2.2.2.2.2.2.2.2.2.2.1, r5.2.2.2.2.2.2.2.2.2.2.2.2.2.2.2.2.2.2.2.2.2.2.2.2.2.1, r5.2.2.2.2.2.2.2.2.2.2.2.2.2.2.2.2.2.2.2.2.2.2.2.2.2.2.1, r5.2.2.2.2.2.2.2.2.2.2.2.2.2.2.2.2.2.2.2.2.2.2.2.2.2.2.2.1)
def qA (N : Nat) (vC qG dP eO dW : Int) (eN : List Int) (dJ : List (List UInt8)) (cQ bU bV bW bX cR : Int) (aX : List (Int × Int)) (bY bZ cA aY aZ bA bB bC bD bE bF bG : Int) (bH : List (Int × Int)) (cB : Int) : Option Int :=
 Option.bind (uH N vC qG dP eO dW eN dJ cQ bU bV bW bX cR aX bY bZ cA aY aZ bA bB bC bD bE bF bG bH cB) fun r2 =>
 some r2.2.2.2
def iN (N : Nat) (e2 : Int) (kk : (List Int × Int) → Option (List Int)) : Nat → (List Int × Int) → Option (List Int)
 | 0, _ => none
 | fuel + 1, (wL, i5) =>
  cond (decide (0 ≤ i5)) (
  Option.bind (nn (IntKind.i64.wrap (8 * i5))) fun _ =>
  Option.bind (app 1 wL (([IntKind.u8.wrap (iZ .i64 e2 (IntKind.i64.wrap (8 * i5)))] : List Int))) fun G8 =>
  Option.bind (some (IntKind.i64.wrap (i5 - 1))) fun i8 =>
  iN N e2 kk fuel (G8, i8)) (
  kk (wL, i5))
def lU (N : Nat) (l2 : List Int) (kk : (List Int × Int) → Option (List Int)) : Nat → (List Int × Int) → Option (List Int)
 | 0, _ => none
 | fuel + 1, (Bz, i) =>
  cond (decide (i < (l2.length : Int))) (
  Option.bind (idx l2 i) fun e2 =>
  iN N e2 (fun (IT, FV) =>
  lU N l2 kk fuel (IT, IntKind.i64.wrap (i + 1))) N (Bz, 3)) (
  kk (Bz, i))
def eM (N : Nat) (Mo l2 : List Int) : Option (List Int) :=
 lU N l2 (fun (Lb, i11) =>
 some Lb) N (Mo, 0)
def pE (N : Nat) (Mo : List Int) (s : List UInt8) : Option (List Int) :=
 Option.bind (eM N Mo (([(s.length : Int)] : List Int))) fun r2 =>
 Option.bind (app 1 r2 (qX s)) fun Bz =>
 some Bz
def rU (N : Nat) (aW : List (Int × Int)) (kk : (List Int × Int) → Option (List UInt8 × Int)) : Nat → (List Int × Int) → Option (List UInt8 × Int)
 | 0, _ => none
 | fuel + 1, (Lc, i5) =>
  cond (decide (i5 < (aW.length : Int))) (
  Option.bind (idx aW i5) fun e6 =>
  Option.bind (eM N Lc ([e6.1, e6.2] : List Int)) fun Bu =>
  rU N aW kk fuel (Bu, IntKind.i64.wrap (i5 + 1))) (
  kk (Lc, i5))
def rV (N : Nat) (aV : List (Int × Int)) (kk : (List Int × Int) → Option (List UInt8 × Int)) : Nat → (List Int × Int) → Option (List UInt8 × Int)
 | 0, _ => none
 | fuel + 1, (Ld, i3) =>
  cond (decide (i3 < (aV.length : Int))) (
  Option.bind (idx aV i3) fun e4 =>
  Option.bind (eM N Ld ([e4.1, e4.2] : List Int)) fun zE =>
  rV N aV kk fuel (zE, IntKind.i64.wrap (i3 + 1))) (
  kk (Ld, i3))
def rW (N : Nat) (cZ : List (List UInt8)) (kk : (List Int × Int) → Option (List UInt8 × Int)) : Nat → (List Int × Int) → Option (List UInt8 × Int)
 | 0, _ => none
 | fuel + 1, (UQ, i) =>
  cond (decide (i < (cZ.length : Int))) (
  Option.bind (idx cZ i) fun e2 =>
  Option.bind (pE N UQ e2) fun r8 =>
  rW N cZ kk fuel (r8, IntKind.i64.wrap (i + 1))) (
  kk (UQ, i))
def nS (N : Nat) (nN oI eF gD g9 : Int) (eV : List Int) (cZ : List (List UInt8)) (cO cD cE cG cH cP : Int) (aV : List (Int × Int)) (cJ cK cL bI bJ bK bL bM bN bO bP bQ : Int) (aW : List (Int × Int)) (bT : Int) : Option (List UInt8 × Int) :=
 Option.bind (qA N nN oI eF gD g9 eV cZ cO cD cE cG cH cP aV cJ cK cL bI bJ bK bL bM bN bO bP bQ aW bT) fun r2 =>
 cond (!decide (r2 = 0)) (
 some (([] : List UInt8), r2)) (
 Option.bind (pE N ([] : List Int) ([100, 97, 114, 107] : List UInt8)) fun r3 =>
 Option.bind (eM N r3 (([nN, oI, eF, gD, g9, (eV.length : Int)] : List Int))) fun r4 =>
 Option.bind (eM N r4 eV) fun r5 =>
 Option.bind (eM N r5 (([(cZ.length : Int)] : List Int))) fun r6 =>
 rW N cZ (fun (Y5, i2) =>
 Option.bind (eM N Y5 ([cO] : List Int)) fun r9 =>
 Option.bind (eM N r9 ([cD, cE, cG, cH])) fun IS =>
 Option.bind (eM N IS (([cP, (aV.length : Int)] : List Int))) fun DB =>
 rV N aV (fun (Y6, i4) =>
 Option.bind (eM N Y6 ([cJ, cK, cL])) fun Ft =>
 Option.bind (eM N Ft ([bI, bJ, bK, bL, bM, bN, bO, bP, bQ])) fun DC =>
 Option.bind (eM N DC (([(aW.length : Int)] : List Int))) fun r16 =>
 rU N aW (fun (Y7, i6) =>
 Option.bind (eM N Y7 ([bT] : List Int)) fun CS =>
 some (toB CS, 0)) N (r16, 0)) N (DB, 0)) N (r6, 0))
def iK (N : Nat) (KJ : List UInt8) (n : Int) : Option (Option (List UInt8 × List UInt8)) :=
 cond (decide (n < 0)) (
 some none) (
 cond (decide ((KJ.length : Int) < n)) (
 some none) (
 Option.bind (Bv KJ 0 n) fun s =>
 Option.bind (Bv KJ n (KJ.length : Int)) fun s2 =>
 some (some (s, s2))))
def jB (N : Nat) (r2 : List UInt8 × List UInt8) (kk : (Int × Int) → Option (Option (Int × List UInt8))) : Nat → (Int × Int) → Option (Option (Int × List UInt8))
 | 0, _ => none
 | fuel + 1, (n, i) =>
  cond (decide (i < (((qX r2.1).length : Int)))) (
  Option.bind (idx (qX r2.1) i) fun e2 =>
  Option.bind (some (Iu .i64 (nX .i64 n 8) (IntKind.i64.wrap e2))) fun n3 =>
  jB N r2 kk fuel (n3, IntKind.i64.wrap (i + 1))) (
  kk (n, i))
def aS (N : Nat) (KJ : List UInt8) : Option (Option (Int × List UInt8)) :=
 Option.bind (iK N KJ 4) fun q => Ab q (
 some none) fun r2 =>
 jB N r2 (fun (n4, i2) =>
 some (some (IntKind.i64.wrap (IntKind.i32.wrap n4), r2.2))) N (0, 0)
def qO (N : Nat) (QK : Int × List UInt8) (kk : (List (Int × Int) × List UInt8 × Int) → Option (Int × Int × Int × Int × Int × List Int × List (List UInt8) × Int × Int × Int × Int × Int × Int × List (Int × Int) × Int × Int × Int × Int × Int × Int × Int × Int × Int × Int × Int × Int × List (Int × Int) × Int × Int)) : Nat → (List (Int × Int) × List UInt8 × Int) → Option (Int × Int × Int × Int × Int × List Int × List (List UInt8) × Int × Int × Int × Int × Int × Int × List (Int × Int) × Int × Int × Int × Int × Int × Int × Int × Int × Int × Int × Int × Int × List (Int × Int) × Int × Int)
 | 0, _ => none
 | fuel + 1, (l8, IU, i7) =>
  cond (decide (i7 < QK.1)) (
  Option.bind (aS N IU) fun q45 => Ab q45 (
  some (0, 0, 0, 0, 0, ([] : List Int), ([] : List (List UInt8)), 0, 0, 0, 0, 0, 0, ([] : List (Int × Int)), 0, 0, 0, 0, 0, 0, 0, 0, 0, 0, 0, 0, ([] : List (Int × Int)), 0, 1)) fun JI =>
  Option.bind (aS N JI.2) fun q46 => Ab q46 (
  some (0, 0, 0, 0, 0, ([] : List Int), ([] : List (List UInt8)), 0, 0, 0, 0, 0, 0, ([] : List (Int × Int)), 0, 0, 0, 0, 0, 0, 0, 0, 0, 0, 0, 0, ([] : List (Int × Int)), 0, 1)) fun S7 =>
  Option.bind (app 16 l8 (([(JI.1, S7.1)] : List (Int × Int)))) fun Be =>
  qO N QK kk fuel (Be, S7.2, IntKind.i64.wrap (i7 + 1))) (
  kk (l8, IU, i7))
def qP (N : Nat) (JH : Int × List UInt8) (kk : (List (Int × Int) × List UInt8 × Int) → Option (Int × Int × Int × Int × Int × List Int × List (List UInt8) × Int × Int × Int × Int × Int × Int × List (Int × Int) × Int × Int × Int × Int × Int × Int × Int × Int × Int × Int × Int × Int × List (Int × Int) × Int × Int)) : Nat → (List (Int × Int) × List UInt8 × Int) → Option (Int × Int × Int × Int × Int × List Int × List (List UInt8) × Int × Int × Int × Int × Int × Int × List (Int × Int) × Int × Int × Int × Int × Int × Int × Int × Int × Int × Int × Int × Int × List (Int × Int) × Int × Int)
 | 0, _ => none
 | fuel + 1, (l6, OF, i5) =>
  cond (decide (i5 < JH.1)) (
  Option.bind (aS N OF) fun q26 => Ab q26 (
  some (0, 0, 0, 0, 0, ([] : List Int), ([] : List (List UInt8)), 0, 0, 0, 0, 0, 0, ([] : List (Int × Int)), 0, 0, 0, 0, 0, 0, 0, 0, 0, 0, 0, 0, ([] : List (Int × Int)), 0, 1)) fun JJ =>
  Option.bind (aS N JJ.2) fun Wx => Ab Wx (
  some (0, 0, 0, 0, 0, ([] : List Int), ([] : List (List UInt8)), 0, 0, 0, 0, 0, 0, ([] : List (Int × Int)), 0, 0, 0, 0, 0, 0, 0, 0, 0, 0, 0, 0, ([] : List (Int × Int)), 0, 1)) fun S8 =>
  Option.bind (app 16 l6 (([(JJ.1, S8.1)] : List (Int × Int)))) fun Bf =>
  qP N JH kk fuel (Bf, S8.2, IntKind.i64.wrap (i5 + 1))) (
  kk (l6, OF, i5))
def qQ (N : Nat) (jA : Int × List UInt8) (kk : (List (List UInt8) × List UInt8 × Int) → Option (Int × Int × Int × Int × Int × List Int × List (List UInt8) × Int × Int × Int × Int × Int × Int × List (Int × Int) × Int × Int × Int × Int × Int × Int × Int × Int × Int × Int × Int × Int × List (Int × Int) × Int × Int)) : Nat → (List (List UInt8) × List UInt8 × Int) → Option (Int × Int × Int × Int × Int × List Int × List (List UInt8) × Int × Int × Int × Int × Int × Int × List (Int × Int) × Int × Int × Int × Int × Int × Int × Int × Int × Int × Int × Int × Int × List (Int × Int) × Int × Int)
 | 0, _ => none
 | fuel + 1, (l4, OG, i3) =>
  cond (decide (i3 < jA.1)) (
  Option.bind (aS N OG) fun q14 => Ab q14 (
  some (0, 0, 0, 0, 0, ([] : List Int), ([] : List (List UInt8)), 0, 0, 0, 0, 0, 0, ([] : List (Int × Int)), 0, 0, 0, 0, 0, 0, 0, 0, 0, 0, 0, 0, ([] : List (Int × Int)), 0, 1)) fun DC =>
  Option.bind (iK N DC.2 DC.1) fun Y8 => Ab Y8 (
  some (0, 0, 0, 0, 0, ([] : List Int), ([] : List (List UInt8)), 0, 0, 0, 0, 0, 0, ([] : List (Int × Int)), 0, 0, 0, 0, 0, 0, 0, 0, 0, 0, 0, 0, ([] : List (Int × Int)), 0, 1)) fun r16 =>
  Option.bind (app 16 l4 (([r16.1] : List (List UInt8)))) fun FH =>
  qQ N jA kk fuel (FH, r16.2, IntKind.i64.wrap (i3 + 1))) (
  kk (l4, OG, i3))
def qR (N : Nat) (r9 : Int × List UInt8) (kk : (List Int × List UInt8 × Int) → Option (Int × Int × Int × Int × Int × List Int × List (List UInt8) × Int × Int × Int × Int × Int × Int × List (Int × Int) × Int × Int × Int × Int × Int × Int × Int × Int × Int × Int × Int × Int × List (Int × Int) × Int × Int)) : Nat → (List Int × List UInt8 × Int) → Option (Int × Int × Int × Int × Int × List Int × List (List UInt8) × Int × Int × Int × Int × Int × Int × List (Int × Int) × Int × Int × Int × Int × Int × Int × Int × Int × Int × Int × Int × Int × List (Int × Int) × Int × Int)
 | 0, _ => none
 | fuel + 1, (l2, OH, i) =>
  cond (decide (i < r9.1)) (
  Option.bind (aS N OH) fun q10 => Ab q10 (
  some (0, 0, 0, 0, 0, ([] : List Int), ([] : List (List UInt8)), 0, 0, 0, 0, 0, 0, ([] : List (Int × Int)), 0, 0, 0, 0, 0, 0, 0, 0, 0, 0, 0, 0, ([] : List (Int × Int)), 0, 1)) fun DB =>
  Option.bind (app 8 l2 ([DB.1] : List Int)) fun JK =>
  qR N r9 kk fuel (JK, DB.2, IntKind.i64.wrap (i + 1))) (
  kk (l2, OH, i))
def oF (N : Nat) (d : List UInt8) : Option (Int × Int × Int × Int × Int × List Int × List (List UInt8) × Int × Int × Int × Int × Int × Int × List (Int × Int) × Int × Int × Int × Int × Int × Int × Int × Int × Int × Int × Int × Int × List (Int × Int) × Int × Int) :=
 Option.bind (aS N d) fun q => Ab q (
 some (0, 0, 0, 0, 0, ([] : List Int), ([] : List (List UInt8)), 0, 0, 0, 0, 0, 0, ([] : List (Int × Int)), 0, 0, 0, 0, 0, 0, 0, 0, 0, 0, 0, 0, ([] : List (Int × Int)), 0, 1)) fun r2 =>
 Option.bind (iK N r2.2 r2.1) fun q2 => Ab q2 (
 some (0, 0, 0, 0, 0, ([] : List Int), ([] : List (List UInt8)), 0, 0, 0, 0, 0, 0, ([] : List (Int × Int)), 0, 0, 0, 0, 0, 0, 0, 0, 0, 0, 0, 0, ([] : List (Int × Int)), 0, 1)) fun r3 =>
 cond (!decide (r3.1 = ([100, 97, 114, 107] : List UInt8))) (
 some (0, 0, 0, 0, 0, ([] : List Int), ([] : List (List UInt8)), 0, 0, 0, 0, 0, 0, ([] : List (Int × Int)), 0, 0, 0, 0, 0, 0, 0, 0, 0, 0, 0, 0, ([] : List (Int × Int)), 0, 1)) (
 Option.bind (aS N r3.2) fun q3 => Ab q3 (
 some (0, 0, 0, 0, 0, ([] : List Int), ([] : List (List UInt8)), 0, 0, 0, 0, 0, 0, ([] : List (Int × Int)), 0, 0, 0, 0, 0, 0, 0, 0, 0, 0, 0, 0, ([] : List (Int × Int)), 0, 1)) fun r4 =>
 Option.bind (aS N r4.2) fun q4 => Ab q4 (
 some (0, 0, 0, 0, 0, ([] : List Int), ([] : List (List UInt8)), 0, 0, 0, 0, 0, 0, ([] : List (Int × Int)), 0, 0, 0, 0, 0, 0, 0, 0, 0, 0, 0, 0, ([] : List (Int × Int)), 0, 1)) fun r5 =>
 Option.bind (aS N r5.2) fun q5 => Ab q5 (
 some (0, 0, 0, 0, 0, ([] : List Int), ([] : List (List UInt8)), 0, 0, 0, 0, 0, 0, ([] : List (Int × Int)), 0, 0, 0, 0, 0, 0, 0, 0, 0, 0, 0, 0, ([] : List (Int × Int)), 0, 1)) fun r6 =>
 Option.bind (aS N r6.2) fun q6 => Ab q6 (
 some (0, 0, 0, 0, 0, ([] : List Int), ([] : List (List UInt8)), 0, 0, 0, 0, 0, 0, ([] : List (Int × Int)), 0, 0, 0, 0, 0, 0, 0, 0, 0, 0, 0, 0, ([] : List (Int × Int)), 0, 1)) fun r7 =>
 Option.bind (aS N r7.2) fun q7 => Ab q7 (
 some (0, 0, 0, 0, 0, ([] : List Int), ([] : List (List UInt8)), 0, 0, 0, 0, 0, 0, ([] : List (Int × Int)), 0, 0, 0, 0, 0, 0, 0, 0, 0, 0, 0, 0, ([] : List (Int × Int)), 0, 1)) fun r8 =>
 Option.bind (aS N r8.2) fun q8 => Ab q8 (
 some (0, 0, 0, 0, 0, ([] : List Int), ([] : List (List UInt8)), 0, 0, 0, 0, 0, 0, ([] : List (Int × Int)), 0, 0, 0, 0, 0, 0, 0, 0, 0, 0, 0, 0, ([] : List (Int × Int)), 0, 1)) fun r9 =>
 cond (decide (r9.1 < 0)) (
 some (0, 0, 0, 0, 0, ([] : List Int), ([] : List (List UInt8)), 0, 0, 0, 0, 0, 0, ([] : List (Int × Int)), 0, 0, 0, 0, 0, 0, 0, 0, 0, 0, 0, 0, ([] : List (Int × Int)), 0, 1)) (
 cond (decide ((r9.2.length : Int) < r9.1)) (
 some (0, 0, 0, 0, 0, ([] : List Int), ([] : List (List UInt8)), 0, 0, 0, 0, 0, 0, ([] : List (Int × Int)), 0, 0, 0, 0, 0, 0, 0, 0, 0, 0, 0, 0, ([] : List (Int × Int)), 0, 1)) (
 qR N r9 (fun (l3, Y9, i2) =>
 Option.bind (aS N Y9) fun q11 => Ab q11 (
 some (0, 0, 0, 0, 0, ([] : List Int), ([] : List (List UInt8)), 0, 0, 0, 0, 0, 0, ([] : List (Int × Int)), 0, 0, 0, 0, 0, 0, 0, 0, 0, 0, 0, 0, ([] : List (Int × Int)), 0, 1)) fun jA =>
 cond (decide (jA.1 < 0)) (
 some (0, 0, 0, 0, 0, ([] : List Int), ([] : List (List UInt8)), 0, 0, 0, 0, 0, 0, ([] : List (Int × Int)), 0, 0, 0, 0, 0, 0, 0, 0, 0, 0, 0, 0, ([] : List (Int × Int)), 0, 1)) (
 cond (decide ((jA.2.length : Int) < jA.1)) (
 some (0, 0, 0, 0, 0, ([] : List Int), ([] : List (List UInt8)), 0, 0, 0, 0, 0, 0, ([] : List (Int × Int)), 0, 0, 0, 0, 0, 0, 0, 0, 0, 0, 0, 0, ([] : List (Int × Int)), 0, 1)) (
 qQ N jA (fun (l5, Za, i4) =>
 Option.bind (aS N Za) fun q16 => Ab q16 (
 some (0, 0, 0, 0, 0, ([] : List Int), ([] : List (List UInt8)), 0, 0, 0, 0, 0, 0, ([] : List (Int × Int)), 0, 0, 0, 0, 0, 0, 0, 0, 0, 0, 0, 0, ([] : List (Int × Int)), 0, 1)) fun Cj =>
 Option.bind (aS N Cj.2) fun q17 => Ab q17 (
 some (0, 0, 0, 0, 0, ([] : List Int), ([] : List (List UInt8)), 0, 0, 0, 0, 0, 0, ([] : List (Int × Int)), 0, 0, 0, 0, 0, 0, 0, 0, 0, 0, 0, 0, ([] : List (Int × Int)), 0, 1)) fun Bu =>
 Option.bind (aS N Bu.2) fun q18 => Ab q18 (
 some (0, 0, 0, 0, 0, ([] : List Int), ([] : List (List UInt8)), 0, 0, 0, 0, 0, 0, ([] : List (Int × Int)), 0, 0, 0, 0, 0, 0, 0, 0, 0, 0, 0, 0, ([] : List (Int × Int)), 0, 1)) fun CS =>
 Option.bind (aS N CS.2) fun q19 => Ab q19 (
 some (0, 0, 0, 0, 0, ([] : List Int), ([] : List (List UInt8)), 0, 0, 0, 0, 0, 0, ([] : List (Int × Int)), 0, 0, 0, 0, 0, 0, 0, 0, 0, 0, 0, 0, ([] : List (Int × Int)), 0, 1)) fun Fu =>
 Option.bind (aS N Fu.2) fun q20 => Ab q20 (
 some (0, 0, 0, 0, 0, ([] : List Int), ([] : List (List UInt8)), 0, 0, 0, 0, 0, 0, ([] : List (Int × Int)), 0, 0, 0, 0, 0, 0, 0, 0, 0, 0, 0, 0, ([] : List (Int × Int)), 0, 1)) fun FG =>
 Option.bind (aS N FG.2) fun q21 => Ab q21 (
 some (0, 0, 0, 0, 0, ([] : List Int), ([] : List (List UInt8)), 0, 0, 0, 0, 0, 0, ([] : List (Int × Int)), 0, 0, 0, 0, 0, 0, 0, 0, 0, 0, 0, 0, ([] : List (Int × Int)), 0, 1)) fun Gd =>
 Option.bind (aS N Gd.2) fun q22 => Ab q22 (
 some (0, 0, 0, 0, 0, ([] : List Int), ([] : List (List UInt8)), 0, 0, 0, 0, 0, 0, ([] : List (Int × Int)), 0, 0, 0, 0, 0, 0, 0, 0, 0, 0, 0, 0, ([] : List (Int × Int)), 0, 1)) fun JH =>
 cond (decide (JH.1 < 0)) (
 some (0, 0, 0, 0, 0, ([] : List Int), ([] : List (List UInt8)), 0, 0, 0, 0, 0, 0, ([] : List (Int × Int)), 0, 0, 0, 0, 0, 0, 0, 0, 0, 0, 0, 0, ([] : List (Int × Int)), 0, 1)) (
 cond (decide ((JH.2.length : Int) < JH.1)) (
 some (0, 0, 0, 0, 0, ([] : List Int), ([] : List (List UInt8)), 0, 0, 0, 0, 0, 0, ([] : List (Int × Int)), 0, 0, 0, 0, 0, 0, 0, 0, 0, 0, 0, 0, ([] : List (Int × Int)), 0, 1)) (
 qP N JH (fun (l7, Zb, i6) =>
 Option.bind (aS N Zb) fun q29 => Ab q29 (
 some (0, 0, 0, 0, 0, ([] : List Int), ([] : List (List UInt8)), 0, 0, 0, 0, 0, 0, ([] : List (Int × Int)), 0, 0, 0, 0, 0, 0, 0, 0, 0, 0, 0, 0, ([] : List (Int × Int)), 0, 1)) fun EP =>
 Option.bind (aS N EP.2) fun q30 => Ab q30 (
 some (0, 0, 0, 0, 0, ([] : List Int), ([] : List (List UInt8)), 0, 0, 0, 0, 0, 0, ([] : List (Int × Int)), 0, 0, 0, 0, 0, 0, 0, 0, 0, 0, 0, 0, ([] : List (Int × Int)), 0, 1)) fun KK =>
 Option.bind (aS N KK.2) fun q31 => Ab q31 (
 some (0, 0, 0, 0, 0, ([] : List Int), ([] : List (List UInt8)), 0, 0, 0, 0, 0, 0, ([] : List (Int × Int)), 0, 0, 0, 0, 0, 0, 0, 0, 0, 0, 0, 0, ([] : List (Int × Int)), 0, 1)) fun r32 =>
 Option.bind (aS N r32.2) fun q32 => Ab q32 (
 some (0, 0, 0, 0, 0, ([] : List Int), ([] : List (List UInt8)), 0, 0, 0, 0, 0, 0, ([] : List (Int × Int)), 0, 0, 0, 0, 0, 0, 0, 0, 0, 0, 0, 0, ([] : List (Int × Int)), 0, 1)) fun IV =>
 Option.bind (aS N IV.2) fun q33 => Ab q33 (
 some (0, 0, 0, 0, 0, ([] : List Int), ([] : List (List UInt8)), 0, 0, 0, 0, 0, 0, ([] : List (Int × Int)), 0, 0, 0, 0, 0, 0, 0, 0, 0, 0, 0, 0, ([] : List (Int × Int)), 0, 1)) fun MD =>
 Option.bind (aS N MD.2) fun q34 => Ab q34 (
 some (0, 0, 0, 0, 0, ([] : List Int), ([] : List (List UInt8)), 0, 0, 0, 0, 0, 0, ([] : List (Int × Int)), 0, 0, 0, 0, 0, 0, 0, 0, 0, 0, 0, 0, ([] : List (Int × Int)), 0, 1)) fun ND =>
 Option.bind (aS N ND.2) fun q35 => Ab q35 (
 some (0, 0, 0, 0, 0, ([] : List Int), ([] : List (List UInt8)), 0, 0, 0, 0, 0, 0, ([] : List (Int × Int)), 0, 0, 0, 0, 0, 0, 0, 0, 0, 0, 0, 0, ([] : List (Int × Int)), 0, 1)) fun OJ =>
 Option.bind (aS N OJ.2) fun q36 => Ab q36 (
 some (0, 0, 0, 0, 0, ([] : List Int), ([] : List (List UInt8)), 0, 0, 0, 0, 0, 0, ([] : List (Int × Int)), 0, 0, 0, 0, 0, 0, 0, 0, 0, 0, 0, 0, ([] : List (Int × Int)), 0, 1)) fun PQ =>
 Option.bind (aS N PQ.2) fun q37 => Ab q37 (
 some (0, 0, 0, 0, 0, ([] : List Int), ([] : List (List UInt8)), 0, 0, 0, 0, 0, 0, ([] : List (Int × Int)), 0, 0, 0, 0, 0, 0, 0, 0, 0, 0, 0, 0, ([] : List (Int × Int)), 0, 1)) fun QL =>
 Option.bind (aS N QL.2) fun q38 => Ab q38 (
 some (0, 0, 0, 0, 0, ([] : List Int), ([] : List (List UInt8)), 0, 0, 0, 0, 0, 0, ([] : List (Int × Int)), 0, 0, 0, 0, 0, 0, 0, 0, 0, 0, 0, 0, ([] : List (Int × Int)), 0, 1)) fun NE =>
 Option.bind (aS N NE.2) fun q39 => Ab q39 (
 some (0, 0, 0, 0, 0, ([] : List Int), ([] : List (List UInt8)), 0, 0, 0, 0, 0, 0, ([] : List (Int × Int)), 0, 0, 0, 0, 0, 0, 0, 0, 0, 0, 0, 0, ([] : List (Int × Int)), 0, 1)) fun OK =>
 Option.bind (aS N OK.2) fun q40 => Ab q40 (
 some (0, 0, 0, 0, 0, ([] : List Int), ([] : List (List UInt8)), 0, 0, 0, 0, 0, 0, ([] : List (Int × Int)), 0, 0, 0, 0, 0, 0, 0, 0, 0, 0, 0, 0, ([] : List (Int × Int)), 0, 1)) fun UR =>
 Option.bind (aS N UR.2) fun q41 => Ab q41 (
 some (0, 0, 0, 0, 0, ([] : List Int), ([] : List (List UInt8)), 0, 0, 0, 0, 0, 0, ([] : List (Int × Int)), 0, 0, 0, 0, 0, 0, 0, 0, 0, 0, 0, 0, ([] : List (Int × Int)), 0, 1)) fun QK =>
 cond (decide (QK.1 < 0)) (
 some (0, 0, 0, 0, 0, ([] : List Int), ([] : List (List UInt8)), 0, 0, 0, 0, 0, 0, ([] : List (Int × Int)), 0, 0, 0, 0, 0, 0, 0, 0, 0, 0, 0, 0, ([] : List (Int × Int)), 0, 1)) (
 cond (decide ((QK.2.length : Int) < QK.1)) (
 some (0, 0, 0, 0, 0, ([] : List Int), ([] : List (List UInt8)), 0, 0, 0, 0, 0, 0, ([] : List (Int × Int)), 0, 0, 0, 0, 0, 0, 0, 0, 0, 0, 0, 0, ([] : List (Int × Int)), 0, 1)) (
 qO N QK (fun (l9, US, i8) =>
 Option.bind (aS N US) fun q48 => Ab q48 (
 some (0, 0, 0, 0, 0, ([] : List Int), ([] : List (List UInt8)), 0, 0, 0, 0, 0, 0, ([] : List (Int × Int)), 0, 0, 0, 0, 0, 0, 0, 0, 0, 0, 0, 0, ([] : List (Int × Int)), 0, 1)) fun Ya =>
 cond (!decide (Ya.2 = ([] : List UInt8))) (
 some (0, 0, 0, 0, 0, ([] : List Int), ([] : List (List UInt8)), 0, 0, 0, 0, 0, 0, ([] : List (Int × Int)), 0, 0, 0, 0, 0, 0, 0, 0, 0, 0, 0, 0, ([] : List (Int × Int)), 0, 1)) (
 Option.bind (qA N r4.1 r5.1 r6.1 r7.1 r8.1 l3 l5 Cj.1 Bu.1 CS.1 Fu.1 FG.1 Gd.1 l7 EP.1 KK.1 r32.1 IV.1 MD.1 ND.1 OJ.1 PQ.1 QL.1 NE.1 OK.1 UR.1 l9 Ya.1) fun r50 =>
 cond (!decide (r50 = 0)) (
 some (0, 0, 0, 0, 0, ([] : List Int), ([] : List (List UInt8)), 0, 0, 0, 0, 0, 0, ([] : List (Int × Int)), 0, 0, 0, 0, 0, 0, 0, 0, 0, 0, 0, 0, ([] : List (Int × Int)), 0, 1)) (
 some (r4.1, r5.1, r6.1, r7.1, r8.1, l3, l5, Cj.1, Bu.1, CS.1, Fu.1, FG.1, Gd.1, l7, EP.1, KK.1, r32.1, IV.1, MD.1, ND.1, OJ.1, PQ.1, QL.1, NE.1, OK.1, UR.1, l9, Ya.1, 0)))) N (([] : List (Int × Int)), QK.2, 0)))) N (([] : List (Int × Int)), JH.2, 0)))) N (([] : List (List UInt8)), jA.2, 0)))) N (([] : List Int), r9.2, 0))))
def jS (N : Nat) (Yb Yc : Int) (Wy : List Int) (Yd Ye : Int) (Wz : List Int) : Option Bool :=
 cond (decide (Yb = Yd)) (
 cond (decide (Yc = Ye)) (
 Option.bind (kH N Wy Wz) fun r2 =>
 some r2) (
 some false)) (
 some false)
def gV (N : Nat)  : Option Bool :=
 Option.bind (lD N ) fun r2 =>
 Option.bind (uH N r2.1 r2.2.1 r2.2.2.1 r2.2.2.2.1 r2.2.2.2.2.1 r2.2.2.2.2.2.1 r2.2.2.2.2.2.2.1 r2.2.2.2.2.2.2.2.1 r2.2.2.2.2.2.2.2.2.1 r2.2.2.2.2.2.2.2.2.2.1 r2.2.2.2.2.2.2.2.2.2.2.1 r2.2.2.2.2.2.2.2.2.2.2.2.1 r2.2.2.2.2.2.2.2.2.2.2.2.2.1 r2.2.2.2.2.2.2.2.2.2.2.2.2.2.1 r2.2.2.2.2.2.2.2.2.2.2.2.2.2.2.1 r2.2.2.2.2.2.2.2.2.2.2.2.2.2.2.2.1 r2.2.2.2.2.2.2.2.2.2.2.2.2.2.2.2.2.1 r2.2.2.2.2.2.2.2.2.2.2.2.2.2.2.2.2.2.1 r2.2.2.2.2.2.2.2.2.2.2.2.2.2.2.2.2.2.2.1 r2.2.2.2.2.2.2.2.2.2.2.2.2.2.2.2.2.2.2.2.1 r2.2.2.2.2.2.2.2.2.2.2.2.2.2.2.2.2.2.2.2.2.1 r2.2.2.2.2.2.2.2.2.2.2.2.2.2.2.2.2.2.2.2.2.2.1 r2.2.2.2.2.2.2.2.2.2.2.2.2.2.2.2.2.2.2.2.2.2.2.1 r2.2.2.2.2.2.2.2.2.2.2.2.2.2.2.2.2.2.2.2.2.2.2.2.1 r2.2.2.2.2.2.2.2.2.2.2.2.2.2.2.2.2.2.2.2.2.2.2.2.2.1 r2.2.2.2.2.2.2.2.2.2.2.2.2.2.2.2.2.2.2.2.2.2.2.2.2.2.1 r2.2.2.2.2.2.2.2.2.2.2.2.2.2.2.2.2.2.2.2.2.2.2.2.2.2.2.1 r2.2.2.2.2.2.2.2.2.2.2.2.2.2.2.2.2.2.2.2.2.2.2.2.2.2.2.2) fun r3 =>
 Option.bind (lD N ) fun r4 =>
 Option.bind (nS N r4.1 r4.2.1 r4.2.2.1 r4.2.2.2.1 r4.2.2.2.2.1 r4.2.2.2.2.2.1 r4.2.2.2.2.2.2.1 r4.2.2.2.2.2.2.2.1 r4.2.2.2.2.2.2.2.2.1 r4.2.2.2.2.2.2.2.2.2.1 r4.2.2.2.2.2.2.2.2.2.2.1 r4.2.2.2.2.2.2.2.2.2.2.2.1 r4.2.2.2.2.2.2.2.2.2.2.2.2.1 r4.2.2.2.2.2.2.2.2.2.2.2.2.2.1 r4.2.2.2.2.2.2.2.2.2.2.2.2.2.2.1 r4.2.2.2.2.2.2.2.2.2.2.2.2.2.2.2.1 r4.2.2.2.2.2.2.2.2.2.2.2.2.2.2.2.2.1 r4.2.2.2.2.2.2.2.2.2.2.2.2.2.2.2.2.2.1 r4.2.2.2.2.2.2.2.2.2.2.2.2.2.2.2.2.2.2.1 r4.2.2.2.2.2.2.2.2.2.2.2.2.2.2.2.2.2.2.2.1 r4.2.2.2.2.2.2.2.2.2.2.2.2.2.2.2.2.2.2.2.2.1 r4.2.2.2.2.2.2.2.2.2.2.2.2.2.2.2.2.2.2.2.2.2.1 r4.2.2.2.2.2.2.2.2.2.2.2.2.2.2.2.2.2.2.2.2.2.2.1 r4.2.2.2.2.2.2.2.2.2.2.2.2.2.2.2.2.2.2.2.2.2.2.2.1 r4.2.2.2.2.2.2.2.2.2.2.2.2.2.2.2.2.2.2.2.2.2.2.2.2.1 r4.2.2.2.2.2.2.2.2.2.2.2.2.2.2.2.2.2.2.2.2.2.2.2.2.2.1 r4.2.2.2.2.2.2.2.2.2.2.2.2.2.2.2.2.2.2.2.2.2.2.2.2.2.2.1 r4.2.2.2.2.2.2.2.2.2.2.2.2.2.2.2.2.2.2.2.2.2.2.2.2.2.2.2) fun r5 =>
 Option.bind (oF N r5.1) fun r6 =>
 cond (decide (r3.2.2.2 = 0)) (
 cond (decide (r5.2 = 0)) (
 cond (decide (r6.2.2.2.2.2.2.2.2.2.2.2.2.2.2.2.2.2.2.2.2.2.2.2.2.2.2.2.2 = 0)) (
 Option.bind (lD N ) fun r7 =>
 Option.bind (qA N r7.1 r7.2.1 r7.2.2.1 r7.2.2.2.1 r7.2.2.2.2.1 r7.2.2.2.2.2.1 r7.2.2.2.2.2.2.1 r7.2.2.2.2.2.2.2.1 r7.2.2.2.2.2.2.2.2.1 r7.2.2.2.2.2.2.2.2.2.1 r7.2.2.2.2.2.2.2.2.2.2.1 r7.2.2.2.2.2.2.2.2.2.2.2.1 r7.2.2.2.2.2.2.2.2.2.2.2.2.1 r7.2.2.2.2.2.2.2.2.2.2.2.2.2.1 r7.2.2.2.2.2.2.2.2.2.2.2.2.2.2.1 r7.2.2.2.2.2.2.2.2.2.2.2.2.2.2.2.1 r7.2.2.2.2.2.2.2.2.2.2.2.2.2.2.2.2.1 r7.2.2.2.2.2.2.2.2.2.2.2.2.2.2.2.2.2.1 r7.2.2.2.2.2.2.2.2.2.2.2.2.2.2.2.2.2.2.1 r7.2.2.2.2.2.2.2.2.2.2.2.2.2.2.2.2.2.2.2.1 r7.2.2.2.2.2.2.2.2.2.2.2.2.2.2.2.2.2.2.2.2.1 r7.2.2.2.2.2.2.2.2.2.2.2.2.2.2.2.2.2.2.2.2.2.1 r7.2.2.2.2.2.2.2.2.2.2.2.2.2.2.2.2.2.2.2.2.2.2.1 r7.2.2.2.2.2.2.2.2.2.2.2.2.2.2.2.2.2.2.2.2.2.2.2.1 r7.2.2.2.2.2.2.2.2.2.2.2.2.2.2.2.2.2.2.2.2.2.2.2.2.1 r7.2.2.2.2.2.2.2.2.2.2.2.2.2.2.2.2.2.2.2.2.2.2.2.2.2.1 r7.2.2.2.2.2.2.2.2.2.2.2.2.2.2.2.2.2.2.2.2.2.2.2.2.2.2.1 r7.2.2.2.2.2.2.2.2.2.2.2.2.2.2.2.2.2.2.2.2.2.2.2.2.2.2.2) fun r8 =>
 cond (decide (r8 = 0)) (
 Option.bind (lD N ) fun r9 =>
 cond (decide ((r9.2.2.2.2.2.2.1.length : Int) = 2)) (
 Option.bind (p9 N ) fun IS =>
 Option.bind (jS N r3.1 r3.2.1 r3.2.2.1 IS.1 IS.2.1 IS.2.2) fun DB =>
 cond (DB) (
 Option.bind (lD N ) fun jA =>
 Option.bind (kI N r6.1 r6.2.1 r6.2.2.1 r6.2.2.2.1 r6.2.2.2.2.1 r6.2.2.2.2.2.1 r6.2.2.2.2.2.2.1 r6.2.2.2.2.2.2.2.1 r6.2.2.2.2.2.2.2.2.1 r6.2.2.2.2.2.2.2.2.2.1 r6.2.2.2.2.2.2.2.2.2.2.1 r6.2.2.2.2.2.2.2.2.2.2.2.1 r6.2.2.2.2.2.2.2.2.2.2.2.2.1 r6.2.2.2.2.2.2.2.2.2.2.2.2.2.1 r6.2.2.2.2.2.2.2.2.2.2.2.2.2.2.1 r6.2.2.2.2.2.2.2.2.2.2.2.2.2.2.2.1 r6.2.2.2.2.2.2.2.2.2.2.2.2.2.2.2.2.1 r6.2.2.2.2.2.2.2.2.2.2.2.2.2.2.2.2.2.1 r6.2.2.2.2.2.2.2.2.2.2.2.2.2.2.2.2.2.2.1 r6.2.2.2.2.2.2.2.2.2.2.2.2.2.2.2.2.2.2.2.1 r6.2.2.2.2.2.2.2.2.2.2.2.2.2.2.2.2.2.2.2.2.1 r6.2.2.2.2.2.2.2.2.2.2.2.2.2.2.2.2.2.2.2.2.2.1 r6.2.2.2.2.2.2.2.2.2.2.2.2.2.2.2.2.2.2.2.2.2.2.1 r6.2.2.2.2.2.2.2.2.2.2.2.2.2.2.2.2.2.2.2.2.2.2.2.1 r6.2.2.2.2.2.2.2.2.2.2.2.2.2.2.2.2.2.2.2.2.2.2.2.2.1 r6.2.2.2.2.2.2.2.2.2.2.2.2.2.2.2.2.2.2.2.2.2.2.2.2.2.1 r6.2.2.2.2.2.2.2.2.2.2.2.2.2.2.2.2.2.2.2.2.2.2.2.2.2.2.1 r6.2.2.2.2.2.2.2.2.2.2.2.2.2.2.2.2.2.2.2.2.2.2.2.2.2.2.2.1 jA.1 jA.2.1 jA.2.2.1 jA.2.2.2.1 jA.2.2.2.2.1 jA.2.2.2.2.2.1 jA.2.2.2.2.2.2.1 jA.2.2.2.2.2.2.2.1 jA.2.2.2.2.2.2.2.2.1 jA.2.2.2.2.2.2.2.2.2.1 jA.2.2.2.2.2.2.2.2.2.2.1 jA.2.2.2.2.2.2.2.2.2.2.2.1 jA.2.2.2.2.2.2.2.2.2.2.2.2.1 jA.2.2.2.2.2.2.2.2.2.2.2.2.2.1 jA.2.2.2.2.2.2.2.2.2.2.2.2.2.2.1 jA.2.2.2.2.2.2.2.2.2.2.2.2.2.2.2.1 jA.2.2.2.2.2.2.2.2.2.2.2.2.2.2.2.2.1 jA.2.2.2.2.2.2.2.2.2.2.2.2.2.2.2.2.2.1 jA.2.2.2.2.2.2.2.2.2.2.2.2.2.2.2.2.2.2.1 jA.2.2.2.2.2.2.2.2.2.2.2.2.2.2.2.2.2.2.2.1 jA.2.2.2.2.2.2.2.2.2.2.2.2.2.2.2.2.2.2.2.2.1 jA.2.2.2.2.2.2.2.2.2.2.2.2.2.2.2.2.2.2.2.2.2.1 jA.2.2.2.2.2.2.2.2.2.2.2.2.2.2.2.2.2.2.2.2.2.2.1 jA.2.2.2.2.2.2.2.2.2.2.2.2.2.2.2.2.2.2.2.2.2.2.2.1 jA.2.2.2.2.2.2.2.2.2.2.2.2.2.2.2.2.2.2.2.2.2.2.2.2.1 jA.2.2.2.2.2.2.2.2.2.2.2.2.2.2.2.2.2.2.2.2.2.2.2.2.2.1 jA.2.2.2.2.2.2.2.2.2.2.2.2.2.2.2.2.2.2.2.2.2.2.2.2.2.2.1 jA.2.2.2.2.2.2.2.2.2.2.2.2.2.2.2.2.2.2.2.2.2.2.2.2.2.2.2) fun zE =>
 some zE) (
 some false)) (
 some false)) (
 some false)) (
 some false)) (
 some false)) (
 some false)
def aG (N : Nat) (OL : List UInt8) (G9 : Bool) : Option (Int × List UInt8 × Bool) :=
 cond (G9) (
 some (0, OL, true)) (
 cond (decide ((OL.length : Int) < 4)) (
 some (0, OL, true)) (
 Option.bind (idx OL 0) fun b =>
 Option.bind (idx OL 1) fun b2 =>
 Option.bind (idx OL 2) fun b3 =>
 Option.bind (some (Iu .i64 (Iu .i64 (nX .i64 (IntKind.i64.wrap (b.toNat : Int)) 24) (nX .i64 (IntKind.i64.wrap (b2.toNat : Int)) 16)) (nX .i64 (IntKind.i64.wrap (b3.toNat : Int)) 8))) fun x2 =>
 Option.bind (idx OL 3) fun b4 =>
 Option.bind (some (Iu .i64 x2 (IntKind.i64.wrap (b4.toNat : Int)))) fun n =>
 Option.bind (Bv OL 4 (OL.length : Int)) fun s =>
 cond (decide (2147483648 ≤ n)) (
 Option.bind (some (IntKind.i64.wrap (n - 4294967296))) fun n2 =>
 some (n2, s, G9)) (
 some (n, s, G9))))
def fQ (N : Nat) (OL : List UInt8) (G9 : Bool) : Option (Int × List UInt8 × Bool) :=
 Option.bind (aG N OL G9) fun r2 =>
 cond (decide (r2.1 < 0)) (
 some (0, r2.2.1, true)) (
 cond (decide ((r2.2.1.length : Int) < r2.1)) (
 some (0, r2.2.1, true)) (
 cond (r2.2.2) (
 some (0, r2.2.1, r2.2.2)) (
 some (r2.1, r2.2.1, r2.2.2))))
def iE (N : Nat) (OL : List UInt8) (G9 : Bool) : Option (List UInt8 × List UInt8 × Bool) :=
 Option.bind (fQ N OL G9) fun r2 =>
 cond (!(r2.2.2)) (
 Option.bind (Bv r2.2.1 0 r2.1) fun s =>
 Option.bind (Bv r2.2.1 r2.1 (r2.2.1.length : Int)) fun s2 =>
 some (s, s2, r2.2.2)) (
 some (([] : List UInt8), r2.2.1, r2.2.2))
def gY (N : Nat)  (kk : (List (Int × Int) × List UInt8 × Bool × Int) → Option (Int × Int × Int × Int × Int × List Int × List (List UInt8) × Int × Int × Int × Int × Int × Int × List (Int × Int) × Int × Int × Int × Int × Int × Int × Int × Int × Int × Int × Int × Int × List (Int × Int) × Int × Bool)) : Nat → (List (Int × Int) × List UInt8 × Bool × Int) → Option (Int × Int × Int × Int × Int × List Int × List (List UInt8) × Int × Int × Int × Int × Int × Int × List (Int × Int) × Int × Int × Int × Int × Int × Int × Int × Int × Int × Int × Int × Int × List (Int × Int) × Int × Bool)
 | 0, _ => none
 | fuel + 1, (B4, QM, Gw, JG) =>
  cond (decide (0 < JG)) (
  cond (!(Gw)) (
  Option.bind (aG N QM Gw) fun NE =>
  Option.bind (aG N NE.2.1 NE.2.2) fun OK =>
  Option.bind (app 16 B4 (([(NE.1, OK.1)] : List (Int × Int)))) fun Bg =>
  Option.bind (some (IntKind.i64.wrap (JG - 1))) fun x50 =>
  gY N  kk fuel (Bg, OK.2.1, OK.2.2, x50)) (
  kk (B4, QM, Gw, JG))) (
  kk (B4, QM, Gw, JG))
def aK (N : Nat)  (kk : (List UInt8 × Bool × Int × Int × Int × Int × Int × Int × Int × Int × Int × Int) → Option (Int × Int × Int × Int × Int × List Int × List (List UInt8) × Int × Int × Int × Int × Int × Int × List (Int × Int) × Int × Int × Int × Int × Int × Int × Int × Int × Int × Int × Int × Int × List (Int × Int) × Int × Bool)) : Nat → (List UInt8 × Bool × Int × Int × Int × Int × Int × Int × Int × Int × Int × Int) → Option (Int × Int × Int × Int × Int × List Int × List (List UInt8) × Int × Int × Int × Int × Int × Int × List (Int × Int) × Int × Int × Int × Int × Int × Int × Int × Int × Int × Int × Int × Int × List (Int × Int) × Int × Bool)
 | 0, _ => none
 | fuel + 1, (UT, NF, mD, mE, mF, mG, mH, mI, mJ, mK, mL, i11) =>
  cond (decide (i11 < 9)) (
  Option.bind (aG N UT NF) fun r32 =>
  cond (decide (i11 = 0)) (
  Option.bind (some (IntKind.i64.wrap (i11 + 1))) fun x37 =>
  aK N  kk fuel (r32.2.1, r32.2.2, r32.1, mE, mF, mG, mH, mI, mJ, mK, mL, x37)) (
  cond (decide (i11 = 1)) (
  Option.bind (some (IntKind.i64.wrap (i11 + 1))) fun x38 =>
  aK N  kk fuel (r32.2.1, r32.2.2, mD, r32.1, mF, mG, mH, mI, mJ, mK, mL, x38)) (
  cond (decide (i11 = 2)) (
  Option.bind (some (IntKind.i64.wrap (i11 + 1))) fun x39 =>
  aK N  kk fuel (r32.2.1, r32.2.2, mD, mE, r32.1, mG, mH, mI, mJ, mK, mL, x39)) (
  cond (decide (i11 = 3)) (
  Option.bind (some (IntKind.i64.wrap (i11 + 1))) fun x40 =>
  aK N  kk fuel (r32.2.1, r32.2.2, mD, mE, mF, r32.1, mH, mI, mJ, mK, mL, x40)) (
  cond (decide (i11 = 4)) (
  Option.bind (some (IntKind.i64.wrap (i11 + 1))) fun x41 =>
  aK N  kk fuel (r32.2.1, r32.2.2, mD, mE, mF, mG, r32.1, mI, mJ, mK, mL, x41)) (
  cond (decide (i11 = 5)) (
  Option.bind (some (IntKind.i64.wrap (i11 + 1))) fun x42 =>
  aK N  kk fuel (r32.2.1, r32.2.2, mD, mE, mF, mG, mH, r32.1, mJ, mK, mL, x42)) (
  cond (decide (i11 = 6)) (
  Option.bind (some (IntKind.i64.wrap (i11 + 1))) fun x43 =>
  aK N  kk fuel (r32.2.1, r32.2.2, mD, mE, mF, mG, mH, mI, r32.1, mK, mL, x43)) (
  cond (decide (i11 = 7)) (
  Option.bind (some (IntKind.i64.wrap (i11 + 1))) fun x44 =>
  aK N  kk fuel (r32.2.1, r32.2.2, mD, mE, mF, mG, mH, mI, mJ, r32.1, mL, x44)) (
  cond (decide (i11 = 8)) (
  Option.bind (some (IntKind.i64.wrap (i11 + 1))) fun x45 =>
  aK N  kk fuel (r32.2.1, r32.2.2, mD, mE, mF, mG, mH, mI, mJ, mK, r32.1, x45)) (
  none)))))))))) (
  kk (UT, NF, mD, mE, mF, mG, mH, mI, mJ, mK, mL, i11))
def cV (N : Nat)  (kk : (List UInt8 × Bool × Int × Int × Int × Int) → Option (Int × Int × Int × Int × Int × List Int × List (List UInt8) × Int × Int × Int × Int × Int × Int × List (Int × Int) × Int × Int × Int × Int × Int × Int × Int × Int × Int × Int × Int × Int × List (Int × Int) × Int × Bool)) : Nat → (List UInt8 × Bool × Int × Int × Int × Int) → Option (Int × Int × Int × Int × Int × List Int × List (List UInt8) × Int × Int × Int × Int × Int × Int × List (Int × Int) × Int × Int × Int × Int × Int × Int × Int × Int × Int × Int × Int × Int × List (Int × Int) × Int × Bool)
 | 0, _ => none
 | fuel + 1, (UU, NG, Bh, Bi, Bj, i9) =>
  cond (decide (i9 < 3)) (
  Option.bind (aG N UU NG) fun EP =>
  cond (decide (i9 = 0)) (
  Option.bind (some (IntKind.i64.wrap (i9 + 1))) fun x25 =>
  cV N  kk fuel (EP.2.1, EP.2.2, EP.1, Bi, Bj, x25)) (
  cond (decide (i9 = 1)) (
  Option.bind (some (IntKind.i64.wrap (i9 + 1))) fun SX =>
  cV N  kk fuel (EP.2.1, EP.2.2, Bh, EP.1, Bj, SX)) (
  cond (decide (i9 = 2)) (
  Option.bind (some (IntKind.i64.wrap (i9 + 1))) fun x27 =>
  cV N  kk fuel (EP.2.1, EP.2.2, Bh, Bi, EP.1, x27)) (
  none)))) (
  kk (UU, NG, Bh, Bi, Bj, i9))
def gZ (N : Nat)  (kk : (List (Int × Int) × List UInt8 × Bool × Int) → Option (Int × Int × Int × Int × Int × List Int × List (List UInt8) × Int × Int × Int × Int × Int × Int × List (Int × Int) × Int × Int × Int × Int × Int × Int × Int × Int × Int × Int × Int × Int × List (Int × Int) × Int × Bool)) : Nat → (List (Int × Int) × List UInt8 × Bool × Int) → Option (Int × Int × Int × Int × Int × List Int × List (List UInt8) × Int × Int × Int × Int × Int × Int × List (Int × Int) × Int × Int × Int × Int × Int × Int × Int × Int × Int × Int × Int × Int × List (Int × Int) × Int × Bool)
 | 0, _ => none
 | fuel + 1, (B5, QN, Gx, i7) =>
  cond (decide (0 < i7)) (
  cond (!(Gx)) (
  Option.bind (aG N QN Gx) fun Tp =>
  Option.bind (aG N Tp.2.1 Tp.2.2) fun r25 =>
  Option.bind (app 16 B5 (([(Tp.1, r25.1)] : List (Int × Int)))) fun Bl =>
  Option.bind (some (IntKind.i64.wrap (i7 - 1))) fun x18 =>
  gZ N  kk fuel (Bl, r25.2.1, r25.2.2, x18)) (
  kk (B5, QN, Gx, i7))) (
  kk (B5, QN, Gx, i7))
def cM (N : Nat)  (kk : (List UInt8 × Bool × Int × Int × Int × Int × Int) → Option (Int × Int × Int × Int × Int × List Int × List (List UInt8) × Int × Int × Int × Int × Int × Int × List (Int × Int) × Int × Int × Int × Int × Int × Int × Int × Int × Int × Int × Int × Int × List (Int × Int) × Int × Bool)) : Nat → (List UInt8 × Bool × Int × Int × Int × Int × Int) → Option (Int × Int × Int × Int × Int × List Int × List (List UInt8) × Int × Int × Int × Int × Int × Int × List (Int × Int) × Int × Int × Int × Int × Int × Int × Int × Int × Int × Int × Int × Int × List (Int × Int) × Int × Bool)
 | 0, _ => none
 | fuel + 1, (Zc, QO, yH, yI, yJ, yK, i5) =>
  cond (decide (i5 < 4)) (
  Option.bind (aG N Zc QO) fun r16 =>
  cond (decide (i5 = 0)) (
  Option.bind (some (IntKind.i64.wrap (i5 + 1))) fun x10 =>
  cM N  kk fuel (r16.2.1, r16.2.2, r16.1, yI, yJ, yK, x10)) (
  cond (decide (i5 = 1)) (
  Option.bind (some (IntKind.i64.wrap (i5 + 1))) fun Ou =>
  cM N  kk fuel (r16.2.1, r16.2.2, yH, r16.1, yJ, yK, Ou)) (
  cond (decide (i5 = 2)) (
  Option.bind (some (IntKind.i64.wrap (i5 + 1))) fun JB =>
  cM N  kk fuel (r16.2.1, r16.2.2, yH, yI, r16.1, yK, JB)) (
  cond (decide (i5 = 3)) (
  Option.bind (some (IntKind.i64.wrap (i5 + 1))) fun Ip =>
  cM N  kk fuel (r16.2.1, r16.2.2, yH, yI, yJ, r16.1, Ip)) (
  none))))) (
  kk (Zc, QO, yH, yI, yJ, yK, i5))
def g7 (N : Nat)  (kk : (List (List UInt8) × List UInt8 × Bool × Int) → Option (Int × Int × Int × Int × Int × List Int × List (List UInt8) × Int × Int × Int × Int × Int × Int × List (Int × Int) × Int × Int × Int × Int × Int × Int × Int × Int × Int × Int × Int × Int × List (Int × Int) × Int × Bool)) : Nat → (List (List UInt8) × List UInt8 × Bool × Int) → Option (Int × Int × Int × Int × Int × List Int × List (List UInt8) × Int × Int × Int × Int × Int × Int × List (Int × Int) × Int × Int × Int × Int × Int × Int × Int × Int × Int × Int × Int × Int × List (Int × Int) × Int × Bool)
 | 0, _ => none
 | fuel + 1, (pA, WA, JL, i3) =>
  cond (decide (0 < i3)) (
  cond (!(JL)) (
  Option.bind (iE N WA JL) fun zE =>
  Option.bind (app 16 pA (([zE.1] : List (List UInt8)))) fun OM =>
  Option.bind (some (IntKind.i64.wrap (i3 - 1))) fun x5 =>
  g7 N  kk fuel (OM, zE.2.1, zE.2.2, x5)) (
  kk (pA, WA, JL, i3))) (
  kk (pA, WA, JL, i3))
def g8 (N : Nat)  (kk : (List Int × List UInt8 × Bool × Int) → Option (Int × Int × Int × Int × Int × List Int × List (List UInt8) × Int × Int × Int × Int × Int × Int × List (Int × Int) × Int × Int × Int × Int × Int × Int × Int × Int × Int × Int × Int × Int × List (Int × Int) × Int × Bool)) : Nat → (List Int × List UInt8 × Bool × Int) → Option (Int × Int × Int × Int × Int × List Int × List (List UInt8) × Int × Int × Int × Int × Int × Int × List (Int × Int) × Int × Int × Int × Int × Int × Int × Int × Int × Int × Int × Int × Int × List (Int × Int) × Int × Bool)
 | 0, _ => none
 | fuel + 1, (ME, WB, JM, i) =>
  cond (decide (0 < i)) (
  cond (!(JM)) (
  Option.bind (aG N WB JM) fun IS =>
  Option.bind (app 8 ME ([IS.1] : List Int)) fun Tq =>
  Option.bind (some (IntKind.i64.wrap (i - 1))) fun x3 =>
  g8 N  kk fuel (Tq, IS.2.1, IS.2.2, x3)) (
  kk (ME, WB, JM, i))) (
  kk (ME, WB, JM, i))
def oQ (N : Nat) (d : List UInt8) : Option (Int × Int × Int × Int × Int × List Int × List (List UInt8) × Int × Int × Int × Int × Int × Int × List (Int × Int) × Int × Int × Int × Int × Int × Int × Int × Int × Int × Int × Int × Int × List (Int × Int) × Int × Bool) :=
 Option.bind (iE N d false) fun r2 =>
 cond (!decide (r2.1 = ([100, 97, 114, 107] : List UInt8))) (
 some (0, 0, 0, 0, 0, ([] : List Int), ([] : List (List UInt8)), 0, 0, 0, 0, 0, 0, ([] : List (Int × Int)), 0, 0, 0, 0, 0, 0, 0, 0, 0, 0, 0, 0, ([] : List (Int × Int)), 0, false)) (
 Option.bind (aG N r2.2.1 r2.2.2) fun r3 =>
 Option.bind (aG N r3.2.1 r3.2.2) fun r4 =>
 Option.bind (aG N r4.2.1 r4.2.2) fun r5 =>
 Option.bind (aG N r5.2.1 r5.2.2) fun r6 =>
 Option.bind (aG N r6.2.1 r6.2.2) fun r7 =>
 Option.bind (fQ N r7.2.1 r7.2.2) fun r8 =>
 g8 N  (fun (NH, aC3, WC, i2) =>
 Option.bind (fQ N aC3 WC) fun DB =>
 g7 N  (fun (Ad, aC4, WD, i4) =>
 Option.bind (aG N aC4 WD) fun Ft =>
 cM N  (fun (aC5, WE, CT, CU, CV, CW, i6) =>
 Option.bind (aG N aC5 WE) fun Cj =>
 Option.bind (fQ N Cj.2.1 Cj.2.2) fun Bu =>
 gZ N  (fun (CX, Zd, Tr, i8) =>
 cV N  (fun (Ze, Ts, CY, CZ, C0, FV) =>
 aK N  (fun (Zf, Tt, Cl, Cm, Cn, Co, Cp, Cq, Cr, Cs, Ct, i12) =>
 Option.bind (fQ N Zf Tt) fun IV =>
 gY N  (fun (C1, Zg, Tu, X8) =>
 Option.bind (aG N Zg Tu) fun r44 =>
 cond (r44.2.2) (
 some (0, 0, 0, 0, 0, ([] : List Int), ([] : List (List UInt8)), 0, 0, 0, 0, 0, 0, ([] : List (Int × Int)), 0, 0, 0, 0, 0, 0, 0, 0, 0, 0, 0, 0, ([] : List (Int × Int)), 0, false)) (
 cond (!decide (r44.2.1 = ([] : List UInt8))) (
 some (0, 0, 0, 0, 0, ([] : List Int), ([] : List (List UInt8)), 0, 0, 0, 0, 0, 0, ([] : List (Int × Int)), 0, 0, 0, 0, 0, 0, 0, 0, 0, 0, 0, 0, ([] : List (Int × Int)), 0, false)) (
 Option.bind (nY N r3.1 r4.1 r5.1 r6.1 r7.1 NH Ad Ft.1 CT CU CV CW Cj.1 CX CY CZ C0 Cl Cm Cn Co Cp Cq Cr Cs Ct C1 r44.1) fun r45 =>
 cond (!decide (r45.2.2.2 = 0)) (
 some (0, 0, 0, 0, 0, ([] : List Int), ([] : List (List UInt8)), 0, 0, 0, 0, 0, 0, ([] : List (Int × Int)), 0, 0, 0, 0, 0, 0, 0, 0, 0, 0, 0, 0, ([] : List (Int × Int)), 0, false)) (
 some (r3.1, r4.1, r5.1, r6.1, r7.1, NH, Ad, Ft.1, CT, CU, CV, CW, Cj.1, CX, CY, CZ, C0, Cl, Cm, Cn, Co, Cp, Cq, Cr, Cs, Ct, C1, r44.1, true))))) N (([] : List (Int × Int)), IV.2.1, IV.2.2, IV.1)) N (Ze, Ts, 0, 0, 0, 0, 0, 0, 0, 0, 0, 0)) N (Zd, Tr, 0, 0, 0, 0)) N (([] : List (Int × Int)), Bu.2.1, Bu.2.2, Bu.1)) N (Ft.2.1, Ft.2.2, 0, 0, 0, 0, 0)) N (([] : List (List UInt8)), DB.2.1, DB.2.2, DB.1)) N (([] : List Int), r8.2.1, r8.2.2, r8.1))
def oR (N : Nat) (nN oI eF gD g9 : Int) (eV : List Int) (cZ : List (List UInt8)) (cO cD cE cG cH cP : Int) (aV : List (Int × Int)) (cJ cK cL bI bJ bK bL bM bN bO bP bQ : Int) (aW : List (Int × Int)) (bT Ck Gc : Int) (Gb : List Int) (p2 : List UInt8) : Option Bool :=
 Option.bind (xS N nN oI eF gD g9 eV cZ cO cD cE cG cH cP aV cJ cK cL bI bJ bK bL bM bN bO bP bQ aW bT Ck Gc Gb) fun r2 =>
 cond (decide (r2.2.2.2.2.2.2.2.2.2.2.2.2.2.2.2.2.2.2.2.2.2.2.2.2.2.2.2.2 = 0)) (
 Option.bind (uH N r2.1 r2.2.1 r2.2.2.1 r2.2.2.2.1 r2.2.2.2.2.1 r2.2.2.2.2.2.1 r2.2.2.2.2.2.2.1 r2.2.2.2.2.2.2.2.1 r2.2.2.2.2.2.2.2.2.1 r2.2.2.2.2.2.2.2.2.2.1 r2.2.2.2.2.2.2.2.2.2.2.1 r2.2.2.2.2.2.2.2.2.2.2.2.1 r2.2.2.2.2.2.2.2.2.2.2.2.2.1 r2.2.2.2.2.2.2.2.2.2.2.2.2.2.1 r2.2.2.2.2.2.2.2.2.2.2.2.2.2.2.1 r2.2.2.2.2.2.2.2.2.2.2.2.2.2.2.2.1 r2.2.2.2.2.2.2.2.2.2.2.2.2.2.2.2.2.1 r2.2.2.2.2.2.2.2.2.2.2.2.2.2.2.2.2.2.1 r2.2.2.2.2.2.2.2.2.2.2.2.2.2.2.2.2.2.2.1 r2.2.2.2.2.2.2.2.2.2.2.2.2.2.2.2.2.2.2.2.1 r2.2.2.2.2.2.2.2.2.2.2.2.2.2.2.2.2.2.2.2.2.1 r2.2.2.2.2.2.2.2.2.2.2.2.2.2.2.2.2.2.2.2.2.2.1 r2.2.2.2.2.2.2.2.2.2.2.2.2.2.2.2.2.2.2.2.2.2.2.1 r2.2.2.2.2.2.2.2.2.2.2.2.2.2.2.2.2.2.2.2.2.2.2.2.1 r2.2.2.2.2.2.2.2.2.2.2.2.2.2.2.2.2.2.2.2.2.2.2.2.2.1 r2.2.2.2.2.2.2.2.2.2.2.2.2.2.2.2.2.2.2.2.2.2.2.2.2.2.1 r2.2.2.2.2.2.2.2.2.2.2.2.2.2.2.2.2.2.2.2.2.2.2.2.2.2.2.1 r2.2.2.2.2.2.2.2.2.2.2.2.2.2.2.2.2.2.2.2.2.2.2.2.2.2.2.2.1) fun r3 =>
 Option.bind (nS N r2.1 r2.2.1 r2.2.2.1 r2.2.2.2.1 r2.2.2.2.2.1 r2.2.2.2.2.2.1 r2.2.2.2.2.2.2.1 r2.2.2.2.2.2.2.2.1 r2.2.2.2.2.2.2.2.2.1 r2.2.2.2.2.2.2.2.2.2.1 r2.2.2.2.2.2.2.2.2.2.2.1 r2.2.2.2.2.2.2.2.2.2.2.2.1 r2.2.2.2.2.2.2.2.2.2.2.2.2.1 r2.2.2.2.2.2.2.2.2.2.2.2.2.2.1 r2.2.2.2.2.2.2.2.2.2.2.2.2.2.2.1 r2.2.2.2.2.2.2.2.2.2.2.2.2.2.2.2.1 r2.2.2.2.2.2.2.2.2.2.2.2.2.2.2.2.2.1 r2.2.2.2.2.2.2.2.2.2.2.2.2.2.2.2.2.2.1 r2.2.2.2.2.2.2.2.2.2.2.2.2.2.2.2.2.2.2.1 r2.2.2.2.2.2.2.2.2.2.2.2.2.2.2.2.2.2.2.2.1 r2.2.2.2.2.2.2.2.2.2.2.2.2.2.2.2.2.2.2.2.2.1 r2.2.2.2.2.2.2.2.2.2.2.2.2.2.2.2.2.2.2.2.2.2.1 r2.2.2.2.2.2.2.2.2.2.2.2.2.2.2.2.2.2.2.2.2.2.2.1 r2.2.2.2.2.2.2.2.2.2.2.2.2.2.2.2.2.2.2.2.2.2.2.2.1 r2.2.2.2.2.2.2.2.2.2.2.2.2.2.2.2.2.2.2.2.2.2.2.2.2.1 r2.2.2.2.2.2.2.2.2.2.2.2.2.2.2.2.2.2.2.2.2.2.2.2.2.2.1 r2.2.2.2.2.2.2.2.2.2.2.2.2.2.2.2.2.2.2.2.2.2.2.2.2.2.2.1 r2.2.2.2.2.2.2.2.2.2.2.2.2.2.2.2.2.2.2.2.2.2.2.2.2.2.2.2.1) fun r4 =>
 Option.bind (oF N r4.1) fun r5 =>
 cond (!decide (r3.2.2.2 = 0)) (
 some false) (
 cond (!decide (r4.2 = 0)) (
 some false) (
 cond (!decide (r5.2.2.2.2.2.2.2.2.2.2.2.2.2.2.2.2.2.2.2.2.2.2.2.2.2.2.2.2 = 0)) (
 some false) (
 Option.bind (jS N r3.1 r3.2.1 r3.2.2.1 Ck Gc Gb) fun r6 =>
 cond (!(r6)) (
 some false) (
 Option.bind (kI N r5.1 r5.2.1 r5.2.2.1 r5.2.2.2.1 r5.2.2.2.2.1 r5.2.2.2.2.2.1 r5.2.2.2.2.2.2.1 r5.2.2.2.2.2.2.2.1 r5.2.2.2.2.2.2.2.2.1 r5.2.2.2.2.2.2.2.2.2.1 r5.2.2.2.2.2.2.2.2.2.2.1 r5.2.2.2.2.2.2.2.2.2.2.2.1 r5.2.2.2.2.2.2.2.2.2.2.2.2.1 r5.2.2.2.2.2.2.2.2.2.2.2.2.2.1 r5.2.2.2.2.2.2.2.2.2.2.2.2.2.2.1 r5.2.2.2.2.2.2.2.2.2.2.2.2.2.2.2.1 r5.2.2.2.2.2.2.2.2.2.2.2.2.2.2.2.2.1 r5.2.2.2.2.2.2.2.2.2.2.2.2.2.2.2.2.2.1 r5.2.2.2.2.2.2.2.2.2.2.2.2.2.2.2.2.2.2.1 r5.2.2.2.2.2.2.2.2.2.2.2.2.2.2.2.2.2.2.2.1 r5.2.2.2.2.2.2.2.2.2.2.2.2.2.2.2.2.2.2.2.2.1 r5.2.2.2.2.2.2.2.2.2.2.2.2.2.2.2.2.2.2.2.2.2.1 r5.2.2.2.2.2.2.2.2.2.2.2.2.2.2.2.2.2.2.2.2.2.2.1 r5.2.2.2.2.2.2.2.2.2.2.2.2.2.2.2.2.2.2.2.2.2.2.2.1 r5.2.2.2.2.2.2.2.2.2.2.2.2.2.2.2.2.2.2.2.2.2.2.2.2.1 r5.2.2.2.2.2.2.2.2.2.2.2.2.2.2.2.2.2.2.2.2.2.2.2.2.2.1 r5.2.2.2.2.2.2.2.2.2.2.2.2.2.2.2.2.2.2.2.2.2.2.2.2.2.2.1 r5.2.2.2.2.2.2.2.2.2.2.2.2.2.2.2.2.2.2.2.2.2.2.2.2.2.2.2.1 r2.1 r2.2.1 r2.2.2.1 r2.2.2.2.1 r2.2.2.2.2.1 r2.2.2.2.2.2.1 r2.2.2.2.2.2.2.1 r2.2.2.2.2.2.2.2.1 r2.2.2.2.2.2.2.2.2.1 r2.2.2.2.2.2.2.2.2.2.1 r2.2.2.2.2.2.2.2.2.2.2.1 r2.2.2.2.2.2.2.2.2.2.2.2.1 r2.2.2.2.2.2.2.2.2.2.2.2.2.1 r2.2.2.2.2.2.2.2.2.2.2.2.2.2.1 r2.2.2.2.2.2.2.2.2.2.2.2.2.2.2.1 r2.2.2.2.2.2.2.2.2.2.2.2.2.2.2.2.1 r2.2.2.2.2.2.2.2.2.2.2.2.2.2.2.2.2.1 r2.2.2.2.2.2.2.2.2.2.2.2.2.2.2.2.2.2.1 r2.2.2.2.2.2.2.2.2.2.2.2.2.2.2.2.2.2.2.1 r2.2.2.2.2.2.2.2.2.2.2.2.2.2.2.2.2.2.2.2.1 r2.2.2.2.2.2.2.2.2.2.2.2.2.2.2.2.2.2.2.2.2.1 r2.2.2.2.2.2.2.2.2.2.2.2.2.2.2.2.2.2.2.2.2.2.1 r2.2.2.2.2.2.2.2.2.2.2.2.2.2.2.2.2.2.2.2.2.2.2.1 r2.2.2.2.2.2.2.2.2.2.2.2.2.2.2.2.2.2.2.2.2.2.2.2.1 r2.2.2.2.2.2.2.2.2.2.2.2.2.2.2.2.2.2.2.2.2.2.2.2.2.1 r2.2.2.2.2.2.2.2.2.2.2.2.2.2.2.2.2.2.2.2.2.2.2.2.2.2.1 r2.2.2.2.2.2.2.2.2.2.2.2.2.2.2.2.2.2.2.2.2.2.2.2.2.2.2.1 r2.2.2.2.2.2.2.2.2.2.2.2.2.2.2.2.2.2.2.2.2.2.2.2.2.2.2.2.1) fun r7 =>
 cond (!(r7)) (
 some false) (
 Option.bind (oF N p2) fun r8 =>
 cond (!decide (r8.2.2.2.2.2.2.2.2.2.2.2.2.2.2.2.2.2.2.2.2.2.2.2.2.2.2.2.2 = 0)) (
 Option.bind (gV N ) fun r9 =>
 some r9) (
 Option.bind (nS N r8.1 r8.2.1 r8.2.2.1 r8.2.2.2.1 r8.2.2.2.2.1 r8.2.2.2.2.2.1 r8.2.2.2.2.2.2.1 r8.2.2.2.2.2.2.2.1 r8.2.2.2.2.2.2.2.2.1 r8.2.2.2.2.2.2.2.2.2.1 r8.2.2.2.2.2.2.2.2.2.2.1 r8.2.2.2.2.2.2.2.2.2.2.2.1 r8.2.2.2.2.2.2.2.2.2.2.2.2.1 r8.2.2.2.2.2.2.2.2.2.2.2.2.2.1 r8.2.2.2.2.2.2.2.2.2.2.2.2.2.2.1 r8.2.2.2.2.2.2.2.2.2.2.2.2.2.2.2.1 r8.2.2.2.2.2.2.2.2.2.2.2.2.2.2.2.2.1 r8.2.2.2.2.2.2.2.2.2.2.2.2.2.2.2.2.2.1 r8.2.2.2.2.2.2.2.2.2.2.2.2.2.2.2.2.2.2.1 r8.2.2.2.2.2.2.2.2.2.2.2.2.2.2.2.2.2.2.2.1 r8.2.2.2.2.2.2.2.2.2.2.2.2.2.2.2.2.2.2.2.2.1 r8.2.2.2.2.2.2.2.2.2.2.2.2.2.2.2.2.2.2.2.2.2.1 r8.2.2.2.2.2.2.2.2.2.2.2.2.2.2.2.2.2.2.2.2.2.2.1 r8.2.2.2.2.2.2.2.2.2.2.2.2.2.2.2.2.2.2.2.2.2.2.2.1 r8.2.2.2.2.2.2.2.2.2.2.2.2.2.2.2.2.2.2.2.2.2.2.2.2.1 r8.2.2.2.2.2.2.2.2.2.2.2.2.2.2.2.2.2.2.2.2.2.2.2.2.2.1 r8.2.2.2.2.2.2.2.2.2.2.2.2.2.2.2.2.2.2.2.2.2.2.2.2.2.2.1 r8.2.2.2.2.2.2.2.2.2.2.2.2.2.2.2.2.2.2.2.2.2.2.2.2.2.2.2.1) fun IS =>
 Option.bind (gV N ) fun DB =>
 cond (DB) (
 cond (decide (IS.2 = 0)) (
 some (decide (IS.1 = p2))) (
 some false)) (
 some false)))))))) (
 Option.bind (oF N p2) fun jA =>
 cond (!decide (jA.2.2.2.2.2.2.2.2.2.2.2.2.2.2.2.2.2.2.2.2.2.2.2.2.2.2.2.2 = 0)) (
 Option.bind (gV N ) fun zE =>
 some zE) (
 Option.bind (nS N jA.1 jA.2.1 jA.2.2.1 jA.2.2.2.1 jA.2.2.2.2.1 jA.2.2.2.2.2.1 jA.2.2.2.2.2.2.1 jA.2.2.2.2.2.2.2.1 jA.2.2.2.2.2.2.2.2.1 jA.2.2.2.2.2.2.2.2.2.1 jA.2.2.2.2.2.2.2.2.2.2.1 jA.2.2.2.2.2.2.2.2.2.2.2.1 jA.2.2.2.2.2.2.2.2.2.2.2.2.1 jA.2.2.2.2.2.2.2.2.2.2.2.2.2.1 jA.2.2.2.2.2.2.2.2.2.2.2.2.2.2.1 jA.2.2.2.2.2.2.2.2.2.2.2.2.2.2.2.1 jA.2.2.2.2.2.2.2.2.2.2.2.2.2.2.2.2.1 jA.2.2.2.2.2.2.2.2.2.2.2.2.2.2.2.2.2.1 jA.2.2.2.2.2.2.2.2.2.2.2.2.2.2.2.2.2.2.1 jA.2.2.2.2.2.2.2.2.2.2.2.2.2.2.2.2.2.2.2.1 jA.2.2.2.2.2.2.2.2.2.2.2.2.2.2.2.2.2.2.2.2.1 jA.2.2.2.2.2.2.2.2.2.2.2.2.2.2.2.2.2.2.2.2.2.1 jA.2.2.2.2.2.2.2.2.2.2.2.2.2.2.2.2.2.2.2.2.2.2.1 jA.2.2.2.2.2.2.2.2.2.2.2.2.2.2.2.2.2.2.2.2.2.2.2.1 jA.2.2.2.2.2.2.2.2.2.2.2.2.2.2.2.2.2.2.2.2.2.2.2.2.1 jA.2.2.2.2.2.2.2.2.2.2.2.2.2.2.2.2.2.2.2.2.2.2.2.2.2.1 jA.2.2.2.2.2.2.2.2.2.2.2.2.2.2.2.2.2.2.2.2.2.2.2.2.2.2.1 jA.2.2.2.2.2.2.2.2.2.2.2.2.2.2.2.2.2.2.2.2.2.2.2.2.2.2.2.1) fun Ft =>
 Option.bind (gV N ) fun DC =>
 cond (DC) (
 cond (decide (Ft.2 = 0)) (
 some (decide (Ft.1 = p2))) (
 some false)) (
 some false)))
end
section
open Go
theorem gE {x : Int} (h : -9223372036854775808 ≤ x ∧ x ≤ 9223372036854775807) : IntKind.i64.wrap x = x := IntWalk.i64_in x h
theorem eX {α : Type} (xs : List α) (k : Nat) : idx xs (k : Int) = xs[k]? := by simp [idx]
theorem Bm {α : Type} {xs : List α} {p q : Int} (h : 0 ≤ p ∧ p ≤ q ∧ q ≤ xs.length) : Bv xs p q = some ((xs.take q.toNat).drop p.toNat) := by unfold Bv; rw [if_pos h]
theorem iO {α : Type} {b : Nat} {xs ys : List α} (h : (xs.length + ys.length) * b ≤ 140737488355328) : app b xs ys = some (xs ++ ys) := by unfold app; rw [if_pos h]
theorem mk_eq {α : Type} {b : Nat} {n : Int} {z : α} (h : 0 ≤ n ∧ n * b ≤ 281474976710656) : mk b n z = some (List.replicate n.toNat z) := by unfold mk; rw [if_pos h]
theorem DD {α : Type} {xs : List α} {i : Int} {x : α} (h : 0 ≤ i ∧ i < xs.length) : v6 xs i x = some (xs.set i.toNat x) := by unfold v6; rw [if_pos h]
theorem Le {n : Int} (h : n ≠ 0) : nz n = some () := by unfold nz; rw [if_neg h]
theorem aD {α β : Type} (x : α) (f : α → Option β) : Option.bind (some x) f = f x := rfl
theorem cT {α : Type} {b : Bool} (h : b = true) (x y : α) : cond b x y = x := by rw [h]; rfl
theorem cF {α : Type} {b : Bool} (h : b = false) (x y : α) : cond b x y = y := by rw [h]; rfl
theorem dT {p : Prop} [Decidable p] (h : p) : decide p = true := decide_eq_true h
theorem dF {p : Prop} [Decidable p] (h : ¬ p) : decide p = false := decide_eq_false h
def v8 (W H : Int) (n : Nat) : Prop := 1 ≤ W ∧ W ≤ 64 ∧ 1 ≤ H ∧ H ≤ 64 ∧ (n : Int) = W * H
instance (W H : Int) (n : Nat) : Decidable (v8 W H n) := by unfold v8; infer_instance
theorem MF {W H : Int} (h : 1 ≤ W ∧ W ≤ 64 ∧ 1 ≤ H ∧ H ≤ 64) : 1 ≤ W * H ∧ W * H ≤ 4096 := by
 obtain ⟨h1, h2, h3, h4⟩ := h;have a := Int.mul_le_mul h2 h4 (by omega) (by omega);have b := Int.mul_le_mul h1 h3 (by omega) (by omega)
 omega
abbrev Px := Int × Int × Int
theorem dm {W x : Nat} (y : Nat) (h : x < W) : (y * W + x) % W = x ∧ (y * W + x) / W = y := by
 have h1 : (y * W + x) % W = x := by rw [Nat.add_comm, Nat.add_mul_mod_self_right, Nat.mod_eq_of_lt h]
 have h2 : (y * W + x) / W = y := by rw [Nat.add_comm, Nat.add_mul_div_right _ _ (by omega), Nat.div_eq_of_lt h, Nat.zero_add]
 exact ⟨h1, h2⟩
theorem QP {W H x y : Nat} (hx : x < W) (hy : y < H) : y * W + x < W * H := by
 have := Nat.mul_le_mul_right W (show y + 1 ≤ H from hy);rw [Nat.add_mul, Nat.one_mul, Nat.mul_comm H W] at this
 omega
theorem tdm {W : Nat} (k : Nat) (hW : 0 < W) : Int.tmod (k : Int) (W : Int) = ((k % W : Nat) : Int) ∧ Int.tdiv (k : Int) (W : Int) = ((k / W : Nat) : Int) := by
 constructor
 ·rw [Int.tmod_eq_emod_of_nonneg (by omega)]; rfl
 ·rw [Int.tdiv_eq_ediv_of_nonneg (by omega)]; rfl
def pre {α : Type} (W : Nat) (f : Nat → Nat → α) (n : Nat) : List α := (List.range n).map fun k => f (k % W) (k / W)
theorem WF {x y : Int} {a b : Nat} (hx : -(a : Int) ≤ x ∧ x ≤ a) (hy : -(b : Int) ≤ y ∧ y ≤ b) : -((a * b : Nat) : Int) ≤ x * y ∧ x * y ≤ ((a * b : Nat) : Int) := by
 have h1 : x.natAbs ≤ a := by omega
 have h2 : y.natAbs ≤ b := by omega
 have h3 := Nat.mul_le_mul h1 h2;rw [← Int.natAbs_mul] at h3
 omega
theorem WG (m : Int) (n : Nat) (hn : n ≤ 64) : iZ .i64 m (n : Int) = m / 2 ^ n := by
 unfold iZ;rw [Int.toNat_natCast, show min n IntKind.i64.bits = n from Nat.min_eq_left hn];exact Int.fdiv_eq_ediv_of_nonneg _ (Int.le_of_lt (Int.pow_pos (by decide)))
theorem o6 (N : Nat) (n lo hi : Int) : cC N n lo hi = some (decide (lo ≤ n ∧ n ≤ hi)) := by
 unfold cC
 by_cases h1 : lo ≤ n
 ·rw [cT (dT h1)]; simp [h1]
 ·rw [cF (dF h1)]; simp [h1]
theorem WH (N : Nat) (P : List Int) (kk : Int → Option Bool) (hP : P.length ≤ 4096) : ∀ (d k fuel : Nat), k + d = P.length → d < fuel → gF N P kk fuel (k : Int) = if (P.drop k).all Ir then kk P.length else some false := by
 intro d
 induction d with
 | zero =>
  intro k fuel hk hf;obtain ⟨fuel, rfl⟩ : ∃ m, fuel = m + 1 := ⟨fuel - 1, by omega⟩
  obtain rfl : k = P.length := by omega
  unfold gF;rw [cF (dF (by omega))]
  simp
 | succ d ih =>
  intro k fuel hk hf;obtain ⟨fuel, rfl⟩ : ∃ m, fuel = m + 1 := ⟨fuel - 1, by omega⟩
  have hlt : k < P.length := by omega
  unfold gF;rw [cT (dT (by omega)), eX, List.getElem?_eq_getElem hlt, aD, o6, aD, List.drop_eq_getElem_cons hlt, List.all_cons];have hih := ih (k + 1) fuel (by omega) (by omega)
  by_cases h1 : 0 ≤ P[k] ∧ P[k] ≤ 65535
  ·rw [cF (by simp [h1]), aD, gE (by omega)];have : Ir P[k] = true := by simp [Ir, h1]
   rw [this, Bool.true_and, ← hih]
   rfl
  ·rw [cT (by simp only [Bool.not_eq_true', decide_eq_false_iff_not]; exact h1)];have : Ir P[k] = false := by simp only [Ir, Bool.and_eq_false_iff, decide_eq_false_iff_not]; omega
   simp [this]
theorem JN (N : Nat) (W H : Int) (P : List Int) (hN : 5000 ≤ N) : lK N W H P = some (jQ W H P) := by
 unfold lK
 have no : ¬ (zF W H ∧ (P.length : Int) = W * H) → jQ W H P = false := fun h => by
  cases hq : jQ W H P
  ·rfl
  ·obtain ⟨a, b, _⟩ := xY.1 hq; exact absurd ⟨a, b⟩ h
 rw [o6, aD]
 by_cases h1 : 1 ≤ W ∧ W ≤ 64
 rotate_left
 ·rw [cT (by rw [dF h1]; rfl), no (fun h => by unfold zF at h; omega)]
 rw [cF (by rw [dT h1]; rfl), o6, aD]
 by_cases h2 : 1 ≤ H ∧ H ≤ 64
 rotate_left
 ·rw [cT (by rw [dF h2]; rfl), no (fun h => by unfold zF at h; omega)]
 have hb := MF (W := W) (H := H) (by omega);rw [cF (by rw [dT h2]; rfl), gE (by omega)]
 by_cases h3 : (P.length : Int) = W * H
 rotate_left
 ·rw [cT (by rw [dF h3]; rfl), no (fun h => h3 h.2)]
 rw [cF (by rw [dT h3]; rfl)];refine (WH N P _ (by omega) P.length 0 N (by omega) (by omega)).trans ?_;have hs : zF W H := ⟨by omega, by omega, by omega, by omega⟩
 simp only [jQ, hs, h3, decide_true, Bool.true_and, List.drop_zero]
 cases P.all Ir <;> rfl
def upTo (P : List Int) (top : Int) : Prop := ∀ i : Nat, 0 ≤ P.getD i 0 ∧ P.getD i 0 ≤ top
theorem MG (N : Nat) (W H : Int) (P : List Int) (hl : P.length ≤ 9223372036854775807) : sR N W H P [] = some (if jQ W H P = false then (0, 0, [], 1) else (W, H, (List.range P.length).map (B1 W H [] P), 0)) := by
 unfold sR;rw [if_neg (by omega)];cases jQ W H P
 ·rfl
 ·rw [if_neg (by simp), if_neg (by simp), if_neg (by simp), if_neg (by simp)]
theorem Gy (N : Nat) {n b : Int} (hb : 1 ≤ b ∧ b ≤ 1000000) (hn : -4611686018427387904 ≤ n ∧ n ≤ 4611686018427387904) : eI N n b = some (n / b) := by
 have hd := Int.mul_ediv_add_emod n b;have hr0 := Int.emod_nonneg n (show b ≠ 0 by omega);have hr1 := Int.emod_lt_of_pos n (show 0 < b by omega);obtain ⟨q, hq⟩ : ∃ q, n / b = q := ⟨_, rfl⟩
 obtain ⟨r, hr⟩ : ∃ r, n % b = r := ⟨_, rfl⟩
 rw [hq, hr] at hd;rw [hr] at hr0 hr1
 have hqb : -4611686018427387905 ≤ q ∧ q ≤ 4611686018427387904 := by
  have h1 : q ≤ 4611686018427387904 := by
   rw [← hq];exact Int.le_trans (Int.ediv_le_ediv (by omega) hn.2) (Int.ediv_le_of_le_mul (by omega) (by omega))
  have h2 : -4611686018427387905 ≤ q := by
   rw [← hq];exact Int.le_ediv_of_mul_le (by omega) (by omega)
  exact ⟨h2, h1⟩
 unfold eI;rw [Le (by omega), aD, aD, Int.tdiv_eq_ediv, hq]
 by_cases h : 0 ≤ n ∨ b ∣ n
 ·rw [if_pos h, Int.add_zero, gE (x := q) (by omega), Int.mul_comm q b, gE (x := b * q) (by omega), cF (dF (by omega))]
 ·rw [if_neg h, Int.sign_eq_one_of_pos (by omega), gE (x := q + 1) (by omega), Int.mul_comm (q + 1) b, Int.mul_add, Int.mul_one, gE (x := b * q + b) (by omega), cT (dT (by omega)), aD, gE (by omega), Int.add_sub_cancel]
def aDS (b0 b1 b2 b3 w : Int) : Prop := (0 ≤ b0 ∧ b0 < w) ∧ (0 ≤ b1 ∧ b1 < w) ∧ (0 ≤ b2 ∧ b2 < w) ∧ (0 ≤ b3 ∧ b3 < w)
theorem QQ {i : Int} {n : Nat} (h : 0 ≤ i ∧ i < n) : inr i n = some () := by unfold inr; rw [if_pos h]
def aDX (g0 g1 g2 : Int) : Prop := (0 ≤ g0 ∧ g0 ≤ 65535) ∧ (0 ≤ g1 ∧ g1 ≤ 65535) ∧ (0 ≤ g2 ∧ g2 ≤ 65535)
def Zh (m : Int) : Bool := decide (-32768 ≤ m ∧ m ≤ 32768)
section
variable (N : Nat) (m0 m1 m2 m3 m4 m5 m6 m7 m8 : Int)
theorem MH (kk) : ∀ (d k fuel : Nat), k + d = 9 → d < fuel →
  kZ N m0 m1 m2 m3 m4 m5 m6 m7 m8 kk fuel (k : Int) = if ([m0, m1, m2, m3, m4, m5, m6, m7, m8].drop k).all Zh then kk 9 else some false := by
 intro d
 induction d with
 | zero =>
  intro k fuel hk hf;obtain ⟨fuel, rfl⟩ : ∃ m, fuel = m + 1 := ⟨fuel - 1, by omega⟩
  obtain rfl : k = 9 := by omega
  unfold kZ;rw [cF (dF (by omega))]
  simp
 | succ d ih =>
  intro k fuel hk hf;obtain ⟨fuel, rfl⟩ : ∃ m, fuel = m + 1 := ⟨fuel - 1, by omega⟩
  have hlt : k < [m0, m1, m2, m3, m4, m5, m6, m7, m8].length := by show k < 9; omega
  unfold kZ;rw [cT (dT (by omega)), show inr (k : Int) 9 = some () from by unfold inr; rw [if_pos (by omega)], aD, eX, List.getElem?_eq_getElem hlt, aD, o6, aD, List.drop_eq_getElem_cons hlt, List.all_cons];obtain ⟨e, he⟩ : ∃ e, [m0, m1, m2, m3, m4, m5, m6, m7, m8][k] = e := ⟨_, rfl⟩
  rw [he];have hih := ih (k + 1) fuel (by omega) (by omega)
  by_cases h : -32768 ≤ e ∧ e ≤ 32768
  ·rw [cF (by simp [h]), aD, gE (by omega), Zh, dT h, Bool.true_and];exact hih
  ·rw [cT (by simp only [Bool.not_eq_true', decide_eq_false_iff_not]; exact h), Zh, dF h]; simp
def C2 : Bool := [m0, m1, m2, m3, m4, m5, m6, m7, m8].all Zh
theorem MI (hN : 5000 ≤ N) : sJ N m0 m1 m2 m3 m4 m5 m6 m7 m8 = some (C2 m0 m1 m2 m3 m4 m5 m6 m7 m8) := by
 unfold sJ;refine (MH N m0 m1 m2 m3 m4 m5 m6 m7 m8 _ 9 0 N (by omega) (by omega)).trans ?_;rw [List.drop_zero, ← C2]
 cases C2 m0 m1 m2 m3 m4 m5 m6 m7 m8 <;> rfl
end
end
end Go.Proofs.YtpmnfhifmmfglacGreatDoor
