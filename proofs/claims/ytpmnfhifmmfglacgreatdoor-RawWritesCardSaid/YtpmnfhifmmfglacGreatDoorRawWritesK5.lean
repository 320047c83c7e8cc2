/- Texts of the claim RawWrites, joined and made small by a program. -/
import Derived.Test.YtpmnfhifmmfglacGreatDoorRawWritesK3
import Derived.Test.YtpmnfhifmmfglacGreatDoorRawWritesK4
set_option linter.unusedVariables false
set_option linter.unusedSimpArgs false
set_option linter.unusedSectionVars false
set_option maxRecDepth 100000
set_option maxHeartbeats 8000000
namespace Go.Proofs.YtpmnfhifmmfglacGreatDoor
section
def CF (N : Nat) (n v0 v1 : Int) : Option Bool :=
 cond (decide (n < v0)) (
 some true) (
 some (decide (v1 < n)))
def eR (N : Nat) (s : List Int) (AL AM : Int) (kk : Int → Option Int) : Nat → Int → Option Int
 | 0, _ => none
 | fuel + 1, i =>
  cond (decide (i < (s.length : Int))) (
  (idx s i).bind fun e2 =>
  (CF N e2 AL AM).bind fun r3 =>
  cond (r3) (
  some i) (
  eR N s AL AM kk fuel (IntKind.i64.wrap (i + 1)))) (
  kk i)
def jC (N : Nat) (s : List Int) (AL AM : Int) : Option Int :=
 eR N s AL AM (fun i2 =>
 some ((-1))) N 0
def iL (N : Nat) (s : List Int) (AL AM : Int) : Option Bool :=
 (jC N s AL AM).bind fun r2 =>
 some (decide (0 ≤ r2))
def rV (N : Nat) (low high : Int) (l2 : List Int) : Option Bool :=
 (iL N l2 low high).bind fun r2 =>
 some (!(r2))
def vE (N : Nat) (Sm Sn v0 v1 : Int) : Option Bool :=
 (rV N 0 (IntKind.i64.wrap (v0 - 1)) ([Sm] : List Int)).bind fun r2 =>
 cond (!(r2)) (
 some true) (
 (rV N 0 (IntKind.i64.wrap (v1 - 1)) ([Sn] : List Int)).bind fun r3 =>
 some (!(r3)))
def dE (N : Nat) (s : List (Int × Int)) (rW rX : Int) (kk : Int → Option Int) : Nat → Int → Option Int
 | 0, _ => none
 | fuel + 1, i =>
  cond (decide (i < (s.length : Int))) (
  (idx s i).bind fun e2 =>
  (vE N e2.1 e2.2 rW rX).bind fun r3 =>
  cond (r3) (
  some i) (
  dE N s rW rX kk fuel (IntKind.i64.wrap (i + 1)))) (
  kk i)
def gA (N : Nat) (s : List (Int × Int)) (rW rX : Int) : Option Int :=
 dE N s rW rX (fun i2 =>
 some ((-1))) N 0
def fL (N : Nat) (s : List (Int × Int)) (rW rX : Int) : Option Bool :=
 (gA N s rW rX).bind fun r2 =>
 some (decide (0 ≤ r2))
def zA (N : Nat) (l2 : List (Int × Int)) (w2 h2 : Int) : Option Bool :=
 (fL N l2 w2 h2).bind fun r2 =>
 some (!(r2))
def rY (N : Nat) (d l2 : List (Int × Int)) (kk : Int → Option Bool) : Nat → Int → Option Bool
 | 0, _ => none
 | fuel + 1, i =>
  cond (decide (i < (l2.length : Int))) (
  (idx d i).bind fun e9 =>
  (idx d (IntKind.i64.wrap (i + 1))).bind fun e10 =>
  cond (decide (e10.1 ≤ e9.1)) (
  some false) (
  (idx d i).bind fun e11 =>
  (idx d (IntKind.i64.wrap (i + 1))).bind fun e12 =>
  cond (decide (e12.2 < e11.2)) (
  some false) (
  rY N d l2 kk fuel (IntKind.i64.wrap (i + 1))))) (
  kk i)
def mJ (N : Nat) (d : List (Int × Int)) : Option Bool :=
 cond (decide ((d.length : Int) < 2)) (
 some false) (
 cond (decide (16 < (d.length : Int))) (
 some false) (
 (idx d 0).bind fun e =>
 cond (!decide (e.1 = 0)) (
 some false) (
 (idx d (IntKind.i64.wrap ((d.length : Int) - 1))).bind fun e2 =>
 cond (!decide (e2.1 = 65535)) (
 some false) (
 (idx d 0).bind fun e3 =>
 cond (decide (e3.2 < 0)) (
 some false) (
 (idx d (IntKind.i64.wrap ((d.length : Int) - 1))).bind fun e4 =>
 cond (decide (65535 < e4.2)) (
 some false) (
 (Dw d 1 (d.length : Int)).bind fun l2 =>
 rY N d l2 (fun i2 =>
 some true) N 0))))))
def CG (N : Nat) (i : Int) (v0 : List (Int × Int)) (v1 : Int) : Option Bool :=
 (idx v0 i).bind fun e =>
 some (decide (v1 < e.1))
def fT (N : Nat) (CM : List (Int × Int)) (Ey : Int) (kk : (Int × Int) → Option Int) : Nat → (Int × Int) → Option Int
 | 0, _ => none
 | fuel + 1, (i, j) =>
  cond (decide (i < j)) (
  (some (IntKind.i64.wrap (dP .u64 (IntKind.u64.wrap (IntKind.i64.wrap (i + j))) 1))).bind fun h3 =>
  (CG N h3 CM Ey).bind fun r3 =>
  cond (!(r3)) (
  (some (IntKind.i64.wrap (h3 + 1))).bind fun i3 =>
  fT N CM Ey kk fuel (i3, j)) (
  fT N CM Ey kk fuel (i, h3))) (
  kk (i, j))
def pC (N : Nat) (n : Int) (CM : List (Int × Int)) (Ey : Int) : Option Int :=
 fT N CM Ey (fun (i4, j2) =>
 some i4) N (0, n)
def yF (N : Nat) (l2 : List (Int × Int)) (x2 : Int) : Option Int :=
 (pC N (l2.length : Int) l2 x2).bind fun r2 =>
 cond (decide (r2 = (l2.length : Int))) (
 (idx l2 (IntKind.i64.wrap (r2 - 1))).bind fun e =>
 some e.2) (
 (idx l2 (IntKind.i64.wrap (r2 - 1))).bind fun e2 =>
 (idx l2 r2).bind fun e3 =>
 (nz (IntKind.i64.wrap (e3.1 - e2.1))).bind fun _ =>
 (some (IntKind.i64.wrap (e2.2 + (IntKind.i64.wrap (Int.tdiv (IntKind.i64.wrap ((IntKind.i64.wrap (e3.2 - e2.2)) * (IntKind.i64.wrap (x2 - e2.1)))) (IntKind.i64.wrap (e3.1 - e2.1))))))).bind fun x3 =>
 some x3)
def zB (N : Nat) (l2 : List (Int × Int)) (x2 : Int) : Option (Int × Int) :=
 (mJ N l2).bind fun r2 =>
 cond (!(r2)) (
 some (0, 1)) (
 cond (decide (x2 < 0)) (
 some (0, 3)) (
 cond (decide (65535 < x2)) (
 some (0, 3)) (
 (yF N l2 x2).bind fun r3 =>
 some (r3, 0))))
def zC (N : Nat) (na nb0 nb1 nb2 nb3 nc : Int) (nd : List (Int × Int)) (Zx ne1 ne2 nf0 nf1 nf2 nf3 nf4 nf5 nf6 nf7 nf8 : Int) (ng : List (Int × Int)) (nh : Int) : Option Int :=
 (rV N 0 3 ([na] : List Int)).bind fun r2 =>
 cond (!(r2)) (
 some 3) (
 (rV N 1 65535 ([nc] : List Int)).bind fun r3 =>
 cond (!(r3)) (
 some 3) (
 (rV N 0 (IntKind.i64.wrap (nc - 1)) ([nb0, nb1, nb2, nb3])).bind fun r4 =>
 cond (!(r4)) (
 some 3) (
 cond (decide (64 < (nd.length : Int))) (
 some 3) (
 (zA N nd 64 64).bind fun r5 =>
 cond (!(r5)) (
 some 3) (
 (rV N 0 65535 ([Zx, ne1, ne2])).bind fun r6 =>
 cond (!(r6)) (
 some 3) (
 (rV N (-32768) 32768 ([nf0, nf1, nf2, nf3, nf4, nf5, nf6, nf7, nf8])).bind fun r7 =>
 cond (!(r7)) (
 some 3) (
 (rV N 0 1024 ([nh] : List Int)).bind fun r8 =>
 cond (!(r8)) (
 some 3) (
 (zB N ng 0).bind fun r9 =>
 some r9.2))))))))
def qD (N : Nat) (lens : List Int) (kk : (Int × Int) → Option Int) : Nat → (Int × Int) → Option Int
 | 0, _ => none
 | fuel + 1, (room, i) =>
  cond (decide (i < (lens.length : Int))) (
  (idx lens i).bind fun e2 =>
  cond (decide (e2 < 0)) (
  some 3) (
  cond (decide (15 < e2)) (
  some 3) (
  cond (decide (0 < e2)) (
  (nn (IntKind.i64.wrap (15 - e2))).bind fun _ =>
  (some (IntKind.i64.wrap (room - (rE .i64 1 (IntKind.i64.wrap (15 - e2)))))).bind fun S9 =>
  qD N lens kk fuel (S9, IntKind.i64.wrap (i + 1))) (
  qD N lens kk fuel (room, IntKind.i64.wrap (i + 1)))))) (
  kk (room, i))
def tV (N : Nat) (lens : List Int) : Option Int :=
 cond (decide ((lens.length : Int) < 1)) (
 some 2) (
 cond (decide (17 < (lens.length : Int))) (
 some 2) (
 qD N lens (fun (KZ, i2) =>
 cond (decide (KZ < 0)) (
 some 1) (
 cond (decide (KZ = 32768)) (
 some 1) (
 some 0))) N (32768, 0)))
def Am (N : Nat) (oM dA : Int) (BU : Bool → Option Int) : Option Int :=
  cond (decide (dA < 1)) (
  BU (decide (dA < 1))) (
  BU (decide (oM < dA)))
def An (N : Nat) (oM cQ dA : Int) (BV : Bool → Option Int) : Option Int :=
  cond (decide (16 < cQ)) (
  BV (decide (16 < cQ))) (
  Am N oM dA (fun Yo =>
  BV Yo))
def Ao (N : Nat) (oM cQ dA : Int) (BW : Bool → Option Int) : Option Int :=
  cond (decide (cQ < 1)) (
  BW (decide (cQ < 1))) (
  An N oM cQ dA (fun i12 =>
  BW i12))
def Ap (N : Nat) (oM cQ dA : Int) (BX : Bool → Option Int) : Option Int :=
  cond (decide (64 < oM)) (
  BX (decide (64 < oM))) (
  Ao N oM cQ dA (fun G4 =>
  BX G4))
def Aq (N : Nat) (oM cQ dA : Int) (BY : Bool → Option Int) : Option Int :=
  cond (decide (oM < 1)) (
  BY (decide (oM < 1))) (
  Ap N oM cQ dA (fun i8 =>
  BY i8))
def Ar (N : Nat) (rH oM cQ dA : Int) (BZ : Bool → Option Int) : Option Int :=
  cond (decide (64 < rH)) (
  BZ (decide (64 < rH))) (
  Aq N oM cQ dA (fun i6 =>
  BZ i6))
def As (N : Nat) (dN : Int) (B1 : Bool → Option Int) : Option Int :=
  cond (decide (dN < 0)) (
  B1 (decide (dN < 0))) (
  B1 (decide (7 < dN)))
def At (N : Nat) (rH oM cQ dA : Int) (B3 : Bool → Option Int) : Option Int :=
  cond (decide (rH < 1)) (
  B3 (decide (rH < 1))) (
  Ar N rH oM cQ dA (fun i4 =>
  B3 i4))
def Af (N : Nat) (rH oM cQ dN dA : Int) (dB : List Int) (bJ : List (List UInt8)) (bB aT aU aV aW bC : Int) (aG : List (Int × Int)) (aX aY aZ aK aL aM aN aO aP aQ aR aS : Int) (aI : List (Int × Int)) (bA : Int) : Option Int :=
 At N rH oM cQ dA (fun i2 =>
 cond (i2) (
 some 3) (
 As N dN (fun i16 =>
 cond (i16) (
 some 6) (
 cond (decide (0 < dN)) (
 (tV N dB).bind fun r2 =>
 some r2) (
 cond (decide (0 < (dB.length : Int))) (
 some 1) (
 some 0))))))
def BC (N : Nat) (Sm Sn Vz VA Jf LK LL : Int) (Gg : List Int) (C6 : List (List UInt8)) (CN B4 B5 B6 B7 CO : Int) (wV : List (Int × Int)) (B8 B9 Ca AN AO AP AQ AR AS AT AU AV : Int) (wW : List (Int × Int)) (Cb : Int) : Option Bool :=
 cond (decide (Vz ≤ Sm)) (
 some true) (
 some (decide (VA ≤ Sn)))
def dK (N : Nat) (s : List (Int × Int)) (qE qF lC mG mH : Int) (iU : List Int) (gZ : List (List UInt8)) (g7 gI gJ gK gL g8 : Int) (eJ : List (Int × Int)) (gM gN gO fV fW fX fY fZ f5 f7 f8 f9 : Int) (eK : List (Int × Int)) (gP : Int) (kk : Int → Option Int) : Nat → Int → Option Int
 | 0, _ => none
 | fuel + 1, i =>
  cond (decide (i < (s.length : Int))) (
  (idx s i).bind fun e2 =>
  (BC N e2.1 e2.2 qE qF lC mG mH iU gZ g7 gI gJ gK gL g8 eJ gM gN gO fV fW fX fY fZ f5 f7 f8 f9 eK gP).bind fun r3 =>
  cond (r3) (
  some i) (
  dK N s qE qF lC mG mH iU gZ g7 gI gJ gK gL g8 eJ gM gN gO fV fW fX fY fZ f5 f7 f8 f9 eK gP kk fuel (IntKind.i64.wrap (i + 1)))) (
  kk i)
def gH (N : Nat) (s : List (Int × Int)) (qE qF lC mG mH : Int) (iU : List Int) (gZ : List (List UInt8)) (g7 gI gJ gK gL g8 : Int) (eJ : List (Int × Int)) (gM gN gO fV fW fX fY fZ f5 f7 f8 f9 : Int) (eK : List (Int × Int)) (gP : Int) : Option Int :=
 dK N s qE qF lC mG mH iU gZ g7 gI gJ gK gL g8 eJ gM gN gO fV fW fX fY fZ f5 f7 f8 f9 eK gP (fun i2 =>
 some ((-1))) N 0
def eE (N : Nat) (s : List (Int × Int)) (qE qF lC mG mH : Int) (iU : List Int) (gZ : List (List UInt8)) (g7 gI gJ gK gL g8 : Int) (eJ : List (Int × Int)) (gM gN gO fV fW fX fY fZ f5 f7 f8 f9 : Int) (eK : List (Int × Int)) (gP : Int) : Option Bool :=
 (gH N s qE qF lC mG mH iU gZ g7 gI gJ gK gL g8 eJ gM gN gO fV fW fX fY fZ f5 f7 f8 f9 eK gP).bind fun r2 =>
 some (decide (0 ≤ r2))
def Ag (N : Nat) (rH oM cQ dN dA : Int) (dB : List Int) (bJ : List (List UInt8)) (bB aT aU aV aW bC : Int) (aG : List (Int × Int)) (aX aY aZ aK aL aM aN aO aP aQ aR aS : Int) (aI : List (Int × Int)) (bA : Int) : Option Int :=
 (zC N bB aT aU aV aW bC aG aX aY aZ aK aL aM aN aO aP aQ aR aS aI bA).bind fun r2 =>
 cond (!decide (r2 = 0)) (
 some r2) (
 (eE N aG rH oM cQ dN dA dB bJ bB aT aU aV aW bC aG aX aY aZ aK aL aM aN aO aP aQ aR aS aI bA).bind fun r3 =>
 cond (r3) (
 some 3) (
 some 0))
def lG (N : Nat) (x2 : List Int) (kk : (Int × Int) → Option Int) : Nat → (Int × Int) → Option Int
 | 0, _ => none
 | fuel + 1, (m, i) =>
  cond (decide (i < (x2.length : Int))) (
  (idx x2 i).bind fun e3 =>
  (some (max m e3)).bind fun m3 =>
  (some (IntKind.i64.wrap (i + 1))).bind fun i3 =>
  lG N x2 kk fuel (m3, i3)) (
  kk (m, i))
def mU (N : Nat) (x2 : List Int) : Option Int :=
 cond (decide ((x2.length : Int) < 1)) (
 none) (
 (idx x2 0).bind fun e =>
 lG N x2 (fun (m4, i4) =>
 some m4) N (e, 1))
def tC (N : Nat) (s : List Int) : Option (List Int) :=
 (app 8 ([] : List Int) s).bind fun l2 =>
 some l2
def oA (N : Nat) (s : List (Int × Int)) : Option (List (Int × Int)) :=
 (app 16 (([] : List (Int × Int))) s).bind fun l2 =>
 some l2
def mY (N : Nat) (s : List (Int × Int)) : Option (List (Int × Int)) :=
 (app 16 (([] : List (Int × Int))) s).bind fun l2 =>
 some l2
def rZ (N : Nat) (oM dA : Int) (kk : (List (Int × Int) × Int) → Option (List (Int × Int))) : Nat → (List (Int × Int) × Int) → Option (List (Int × Int))
 | 0, _ => none
 | fuel + 1, (l3, y2) =>
  cond (decide (y2 < oM)) (
  (app 16 l3 (([(y2, min dA (IntKind.i64.wrap (oM - y2)))] : List (Int × Int)))).bind fun l5 =>
  (some (IntKind.i64.wrap (y2 + dA))).bind fun y4 =>
  rZ N oM dA kk fuel (l5, y4)) (
  kk (l3, y2))
def zD (N : Nat) (rH oM cQ dN dA : Int) (dB : List Int) (bJ : List (List UInt8)) (bB aT aU aV aW bC : Int) (aG : List (Int × Int)) (aX aY aZ aK aL aM aN aO aP aQ aR aS : Int) (aI : List (Int × Int)) (bA : Int) : Option (List (Int × Int)) :=
 rZ N oM dA (fun (l6, y5) =>
 some l6) N (([] : List (Int × Int)), 0)
def uO (N : Nat) (n : Int) : Option Bool :=
 cond (decide (1 ≤ n)) (
 some (decide (n ≤ 16))) (
 some false)
def Cc (N : Nat) (x6 : Int) (kk : (List Int × Int) → Option (List UInt8 × Int)) : Nat → (List Int × Int) → Option (List UInt8 × Int)
 | 0, _ => none
 | fuel + 1, (l5, i5) =>
  cond (decide (8 ≤ i5)) (
  (some (IntKind.i64.wrap (i5 - 8))).bind fun x9 =>
  (nn x9).bind fun _ =>
  (app 1 l5 (([IntKind.u8.wrap (dP .i64 x6 x9)] : List Int))).bind fun l7 =>
  Cc N x6 kk fuel (l7, x9)) (
  kk (l5, i5))
def Cd (N : Nat) (d : List Int) (o : Int) (kk : (List Int × Int × Int × Int) → Option (List UInt8 × Int)) : Nat → (List Int × Int × Int × Int) → Option (List UInt8 × Int)
 | 0, _ => none
 | fuel + 1, (l2, i, i2, i3) =>
  cond (decide (i3 < (d.length : Int))) (
  (idx d i3).bind fun e2 =>
  cond (decide (e2 < 0)) (
  some (([] : List UInt8), 3)) (
  (nn o).bind fun _ =>
  cond (decide ((rE .i64 1 o) ≤ e2)) (
  some (([] : List UInt8), 3)) (
  (nn o).bind fun _ =>
  (some (KT .i64 (rE .i64 i o) e2)).bind fun x6 =>
  (some (IntKind.i64.wrap (i2 + o))).bind fun x7 =>
  Cc N x6 (fun (l8, i6) =>
  (nn i6).bind fun _ =>
  (some (Es .i64 x6 (IntKind.i64.wrap ((rE .i64 1 i6) - 1)))).bind fun x10 =>
  Cd N d o kk fuel (l8, x10, i6, IntKind.i64.wrap (i3 + 1))) N (l2, x7)))) (
  kk (l2, i, i2, i3))
def Ez (N : Nat) (d : List Int) (o : Int) : Option (List UInt8 × Int) :=
 (uO N o).bind fun r2 =>
 cond (!(r2)) (
 some (([] : List UInt8), 3)) (
 cond (decide (4096 < (d.length : Int))) (
 some (([] : List UInt8), 2)) (
 (Vo 1 (IntKind.i64.wrap (Int.tdiv (IntKind.i64.wrap ((IntKind.i64.wrap ((d.length : Int) * o)) + 7)) 8))).bind fun _ =>
 Cd N d o (fun (l9, i7, i8, i9) =>
 cond (decide (0 < i8)) (
 (nn (IntKind.i64.wrap (8 - i8))).bind fun _ =>
 (app 1 l9 (([IntKind.u8.wrap (rE .i64 i7 (IntKind.i64.wrap (8 - i8)))] : List Int))).bind fun l10 =>
 some (toB l10, 0)) (
 some (toB l9, 0))) N (([] : List Int), 0, 0, 0)))
def Ce (N : Nat) (uQ : List Int) (kk : Int → Option Bool) : Nat → Int → Option Bool
 | 0, _ => none
 | fuel + 1, i =>
  cond (decide (i < (uQ.length : Int))) (
  (idx uQ i).bind fun e2 =>
  cond (decide (e2 < 0)) (
  some false) (
  cond (decide (65535 < e2)) (
  some false) (
  Ce N uQ kk fuel (IntKind.i64.wrap (i + 1))))) (
  kk i)
def EA (N : Nat) (C7 Dx : Int) (uQ : List Int) : Option Bool :=
 cond (decide (C7 < 1)) (
 some false) (
 cond (decide (64 < C7)) (
 some false) (
 cond (decide (Dx < 1)) (
 some false) (
 cond (decide (64 < Dx)) (
 some false) (
 cond (!decide ((uQ.length : Int) = (IntKind.i64.wrap (C7 * Dx)))) (
 some false) (
 Ce N uQ (fun i2 =>
 some true) N 0)))))
def uA (N : Nat) (x2 : Int) : Option Bool :=
 some (!decide (x2 = x2))
def uW (N : Nat) (x2 y : Int) : Option Int :=
 (uA N x2).bind fun r2 =>
 (uA N y).bind fun r3 =>
 cond (r2) (
 cond (r3) (
 some 0) (
 some ((-1)))) (
 cond (r3) (
 some 1) (
 cond (decide (x2 < y)) (
 some ((-1))) (
 cond (decide (y < x2)) (
 some 1) (
 some 0))))
def vF (N : Nat) (a2 b : Int) (v0 : List Int) : Option Int :=
 (idx v0 a2).bind fun e =>
 (idx v0 b).bind fun e2 =>
 (uW N e e2).bind fun r2 =>
 some r2
def qZ (N : Nat) (n size : Int) (kk : (List Int × Int × Int) → Option (List UInt8)) : Nat → (List Int × Int × Int) → Option (List UInt8)
 | 0, _ => none
 | fuel + 1, (l3, i, i2) =>
  cond (decide (i2 < i)) (
  (nn (IntKind.i64.wrap ((IntKind.i64.wrap (size - 1)) - i2))).bind fun _ =>
  (idx ([48, 49] : List UInt8) (Es .i64 (dP .i64 n (IntKind.i64.wrap ((IntKind.i64.wrap (size - 1)) - i2))) 1)).bind fun b2 =>
  (idx l3 i2).bind fun e2 =>
  (xX l3 i2 (b2.toNat : Int)).bind fun l5 =>
  qZ N n size kk fuel (l5, i, IntKind.i64.wrap (i2 + 1))) (
  kk (l3, i, i2))
def sO (N : Nat) (n size : Int) : Option (List UInt8) :=
 (mk 1 size (0 : Int)).bind fun l2 =>
 qZ N n size (fun (l6, i3, i4) =>
 some (toB l6)) N (l2, (l2.length : Int), 0)
def pD (N : Nat) (n size : Int) : Option (List UInt8 × Int) :=
 cond (decide (size < 0)) (
 some (([] : List UInt8), 3)) (
 cond (decide (16 < size)) (
 some (([] : List UInt8), 3)) (
 cond (decide (n < 0)) (
 some (([] : List UInt8), 3)) (
 (nn size).bind fun _ =>
 cond (decide ((rE .i64 1 size) ≤ n)) (
 some (([] : List UInt8), 3)) (
 (sO N n size).bind fun r2 =>
 some (r2, 0)))))
def sA (N : Nat) (d : List Int) (kk : (List Int × Int) → Option (List (List UInt8) × Int)) : Nat → (List Int × Int) → Option (List (List UInt8) × Int)
 | 0, _ => none
 | fuel + 1, (OX, j4) =>
  cond (decide (0 < j4)) (
  (idx OX j4).bind fun e20 =>
  (idx OX (IntKind.i64.wrap (j4 - 1))).bind fun e21 =>
  (vF N e20 e21 d).bind fun r5 =>
  cond (decide (r5 < 0)) (
  (idx OX (IntKind.i64.wrap (j4 - 1))).bind fun e22 =>
  (idx OX j4).bind fun e23 =>
  (idx OX j4).bind fun e24 =>
  (xX OX j4 e22).bind fun l18 =>
  (idx l18 (IntKind.i64.wrap (j4 - 1))).bind fun e25 =>
  (xX l18 (IntKind.i64.wrap (j4 - 1)) e23).bind fun l19 =>
  (some (IntKind.i64.wrap (j4 - 1))).bind fun j7 =>
  sA N d kk fuel (l19, j7)) (
  kk (OX, j4))) (
  kk (OX, j4))
def oN (N : Nat) (d Hz : List Int) (kk : (List (List UInt8) × Int × Int) → Option (List (List UInt8) × Int)) : Nat → (List (List UInt8) × Int × Int) → Option (List (List UInt8) × Int)
 | 0, _ => none
 | fuel + 1, (VB, i8, i9) =>
  cond (decide (i9 < (Hz.length : Int))) (
  (idx Hz i9).bind fun e33 =>
  (idx d e33).bind fun e34 =>
  (nn (IntKind.i64.wrap (15 - e34))).bind fun _ =>
  (idx d e33).bind fun e35 =>
  (pD N (dP .i64 i8 (IntKind.i64.wrap (15 - e34))) e35).bind fun r7 =>
  (idx VB e33).bind fun e36 =>
  (xX VB e33 r7.1).bind fun l27 =>
  (idx d e33).bind fun e37 =>
  (nn (IntKind.i64.wrap (15 - e37))).bind fun _ =>
  (some (IntKind.i64.wrap (i8 + (rE .i64 1 (IntKind.i64.wrap (15 - e37)))))).bind fun x4 =>
  oN N d Hz kk fuel (l27, x4, IntKind.i64.wrap (i9 + 1))) (
  kk (VB, i8, i9))
def nM (N : Nat) (d : List Int) (kk : (List Int × Int × Int) → Option (List (List UInt8) × Int)) : Nat → (List Int × Int × Int) → Option (List (List UInt8) × Int)
 | 0, _ => none
 | fuel + 1, (l7, b, i4) =>
  cond (decide (i4 < b)) (
  sA N d (fun (l22, j9) =>
  (some (IntKind.i64.wrap (i4 + 1))).bind fun i6 =>
  nM N d kk fuel (l22, b, i6)) N (l7, i4)) (
  kk (l7, b, i4))
def qG (N : Nat) (d : List Int) (kk : (List Int × Int) → Option (List (List UInt8) × Int)) : Nat → (List Int × Int) → Option (List (List UInt8) × Int)
 | 0, _ => none
 | fuel + 1, (l3, i) =>
  cond (decide (i < (d.length : Int))) (
  (idx d i).bind fun e3 =>
  cond (decide (0 < e3)) (
  (app 8 l3 ([i] : List Int)).bind fun l5 =>
  qG N d kk fuel (l5, IntKind.i64.wrap (i + 1))) (
  qG N d kk fuel (l3, IntKind.i64.wrap (i + 1)))) (
  kk (l3, i))
def sD (N : Nat) (d : List Int) : Option (List (List UInt8) × Int) :=
 (tV N d).bind fun r2 =>
 cond (!decide (r2 = 0)) (
 some (([] : List (List UInt8)), r2)) (
 qG N d (fun (l6, i2) =>
 cond (decide (20 ≤ (l6.length : Int))) none (
 (some (IntKind.i64.wrap (0 + 1))).bind fun i3 =>
 nM N d (fun (Hz, b2, i7) =>
 (C5 l6 Hz).bind fun _ =>
 cond (decide (20 < (Hz.length : Int))) none (
 (C5 l6 Hz).bind fun _ =>
 (C5 l6 Hz).bind fun _ =>
 (some ((d.length : Int))).bind fun x2 =>
 (mk 16 x2 (([] : List UInt8) : List UInt8)).bind fun Zy =>
 oN N d Hz (fun (WO, G4, i11) =>
 some (WO, 0)) N (Zy, 0, 0))) N (l6, (l6.length : Int), i3))) N (([] : List Int), 0))
def pE (N : Nat) (p7 qS : Int) (xS : List Int) (o p2 : Int) : Option Int :=
 (nz p7).bind fun _ =>
 (nz p7).bind fun _ =>
 cond (decide (p2 = 0)) (
 some 32768) (
 cond (decide ((IntKind.i64.wrap (Int.tdiv p2 p7)) = 0)) (
 (idx xS (IntKind.i64.wrap (p2 - 1))).bind fun e =>
 some e) (
 cond (decide ((Int.tmod p2 p7) = 0)) (
 (idx xS (IntKind.i64.wrap (p2 - p7))).bind fun e2 =>
 some e2) (
 (idx xS (IntKind.i64.wrap (p2 - 1))).bind fun e3 =>
 (idx xS (IntKind.i64.wrap (p2 - p7))).bind fun e4 =>
 (idx xS (IntKind.i64.wrap ((IntKind.i64.wrap (p2 - p7)) - 1))).bind fun e5 =>
 (idx [0, e3, e4, e5, IntKind.i64.wrap ((IntKind.i64.wrap (e3 + e4)) - e5), IntKind.i64.wrap (e3 + (dP .i64 (IntKind.i64.wrap (e4 - e5)) 1)), IntKind.i64.wrap (e4 + (dP .i64 (IntKind.i64.wrap (e3 - e5)) 1)), dP .i64 (IntKind.i64.wrap (e3 + e4)) 1] o).bind fun e6 =>
 some e6)))
def zE (N : Nat) (x2 : Int) : Option Int :=
 cond (decide (4294967296 ≤ x2)) (
 (some (dP .u64 x2 32)).bind fun x3 =>
 cond (decide (65536 ≤ x3)) (
 (some (dP .u64 x3 16)).bind fun x4 =>
 (some (IntKind.i64.wrap (32 + 16))).bind fun n =>
 cond (decide (256 ≤ x4)) (
 (some (dP .u64 x4 8)).bind fun x5 =>
 (some (IntKind.i64.wrap (n + 8))).bind fun n2 =>
 (idx MX (IntKind.u8.wrap x5)).bind fun b =>
 (some (IntKind.i64.wrap (n2 + (IntKind.i64.wrap (b.toNat : Int))))).bind fun n3 =>
 some n3) (
 (idx MX (IntKind.u8.wrap x4)).bind fun b2 =>
 (some (IntKind.i64.wrap (n + (IntKind.i64.wrap (b2.toNat : Int))))).bind fun n4 =>
 some n4)) (
 cond (decide (256 ≤ x3)) (
 (some (dP .u64 x3 8)).bind fun x6 =>
 (some (IntKind.i64.wrap (32 + 8))).bind fun n5 =>
 (idx MX (IntKind.u8.wrap x6)).bind fun b3 =>
 (some (IntKind.i64.wrap (n5 + (IntKind.i64.wrap (b3.toNat : Int))))).bind fun n6 =>
 some n6) (
 (idx MX (IntKind.u8.wrap x3)).bind fun b4 =>
 (some (IntKind.i64.wrap (32 + (IntKind.i64.wrap (b4.toNat : Int))))).bind fun n7 =>
 some n7))) (
 cond (decide (65536 ≤ x2)) (
 (some (dP .u64 x2 16)).bind fun x7 =>
 (some (IntKind.i64.wrap (0 + 16))).bind fun n8 =>
 cond (decide (256 ≤ x7)) (
 (some (dP .u64 x7 8)).bind fun x8 =>
 (some (IntKind.i64.wrap (n8 + 8))).bind fun n9 =>
 (idx MX (IntKind.u8.wrap x8)).bind fun b5 =>
 (some (IntKind.i64.wrap (n9 + (IntKind.i64.wrap (b5.toNat : Int))))).bind fun n10 =>
 some n10) (
 (idx MX (IntKind.u8.wrap x7)).bind fun b6 =>
 (some (IntKind.i64.wrap (n8 + (IntKind.i64.wrap (b6.toNat : Int))))).bind fun n11 =>
 some n11)) (
 cond (decide (256 ≤ x2)) (
 (some (dP .u64 x2 8)).bind fun x9 =>
 (some (IntKind.i64.wrap (0 + 8))).bind fun n12 =>
 (idx MX (IntKind.u8.wrap x9)).bind fun b7 =>
 (some (IntKind.i64.wrap (n12 + (IntKind.i64.wrap (b7.toNat : Int))))).bind fun n13 =>
 some n13) (
 (idx MX (IntKind.u8.wrap x2)).bind fun b8 =>
 (some (IntKind.i64.wrap (0 + (IntKind.i64.wrap (b8.toNat : Int))))).bind fun n14 =>
 some n14)))
def xT (N : Nat) (x2 : Int) : Option Int :=
 (zE N x2).bind fun r2 =>
 some r2
def Ah (N : Nat) (b : List UInt8) : Option Bool :=
 (vD N b ([48, 49] : List UInt8)).bind fun r2 =>
 cond (decide (r2 = ([] : List UInt8))) (
 (rU N b ([48] : List UInt8)).bind fun r3 =>
 (rU N b ([49] : List UInt8)).bind fun r4 =>
 some (decide ((IntKind.i64.wrap (r3 + r4)) = (b.length : Int)))) (
 some false)
def sB (N : Nat) (b : List UInt8) (kk : (List Int × Int) → Option (List UInt8 × Int)) : Nat → (List Int × Int) → Option (List UInt8 × Int)
 | 0, _ => none
 | fuel + 1, (l3, i) =>
  cond (decide (i < (b.length : Int))) (
  (some (IntKind.i64.wrap (Int.tdiv i 8))).bind fun x4 =>
  (idx l3 x4).bind fun e3 =>
  (idx b i).bind fun b3 =>
  (nn (IntKind.i64.wrap (7 - (Int.tmod i 8)))).bind fun _ =>
  (idx l3 x4).bind fun e4 =>
  (xX l3 x4 (KT .u8 e3 (rE .u8 (IntKind.u8.wrap ((b3.toNat : Int) - 48)) (IntKind.i64.wrap (7 - (Int.tmod i 8)))))).bind fun l5 =>
  sB N b kk fuel (l5, IntKind.i64.wrap (i + 1))) (
  kk (l3, i))
def wD (N : Nat) (b : List UInt8) : Option (List UInt8 × Int) :=
 (Ah N b).bind fun r2 =>
 cond (!(r2)) (
 some (([] : List UInt8), 1)) (
 (some (IntKind.i64.wrap (Int.tdiv (IntKind.i64.wrap ((b.length : Int) + 7)) 8))).bind fun x2 =>
 (mk 1 x2 (0 : Int)).bind fun l2 =>
 sB N b (fun (l6, i2) =>
 some (toB l6, 0)) N (l2, 0))
def mI (N : Nat) (p7 qS : Int) (xS : List Int) (o : Int) (r3 : List (List UInt8) × Int) (kk : (List UInt8 × Int) → Option (List UInt8 × Int)) : Nat → (List UInt8 × Int) → Option (List UInt8 × Int)
 | 0, _ => none
 | fuel + 1, (l2, i) =>
  cond (decide (i < (xS.length : Int))) (
  (idx xS i).bind fun e6 =>
  (pE N p7 qS xS o i).bind fun Eo =>
  (some (IntKind.i64.wrap (IntKind.u16.wrap (IntKind.i64.wrap (e6 - Eo))))).bind fun x6 =>
  cond (decide (32768 < x6)) (
  (some (IntKind.i64.wrap (x6 - 65536))).bind fun x7 =>
  (xT N (IntKind.u64.wrap (max x7 (IntKind.i64.wrap (0 - x7))))).bind fun vG =>
  cond (decide ((r3.1.length : Int) ≤ vG)) (
  some (([] : List UInt8), 4)) (
  (idx r3.1 vG).bind fun e7 =>
  cond (decide (e7 = ([] : List UInt8))) (
  some (([] : List UInt8), 4)) (
  (idx r3.1 vG).bind fun e8 =>
  (Sl l2 e8).bind fun b7 =>
  cond (decide (0 < vG)) (
  cond (decide (vG < 16)) (
  cond (decide (x7 < 0)) (
  (nn vG).bind fun _ =>
  (some (IntKind.i64.wrap (x7 + (IntKind.i64.wrap ((rE .i64 1 vG) - 1))))).bind fun x8 =>
  (pD N x8 vG).bind fun z7 =>
  (Sl b7 z7.1).bind fun b8 =>
  mI N p7 qS xS o r3 kk fuel (b8, IntKind.i64.wrap (i + 1))) (
  (pD N x7 vG).bind fun F5 =>
  (Sl b7 F5.1).bind fun b9 =>
  mI N p7 qS xS o r3 kk fuel (b9, IntKind.i64.wrap (i + 1)))) (
  mI N p7 qS xS o r3 kk fuel (b7, IntKind.i64.wrap (i + 1)))) (
  mI N p7 qS xS o r3 kk fuel (b7, IntKind.i64.wrap (i + 1)))))) (
  (xT N (IntKind.u64.wrap (max x6 (IntKind.i64.wrap (0 - x6))))).bind fun GO =>
  cond (decide ((r3.1.length : Int) ≤ GO)) (
  some (([] : List UInt8), 4)) (
  (idx r3.1 GO).bind fun e9 =>
  cond (decide (e9 = ([] : List UInt8))) (
  some (([] : List UInt8), 4)) (
  (idx r3.1 GO).bind fun e10 =>
  (Sl l2 e10).bind fun b10 =>
  cond (decide (0 < GO)) (
  cond (decide (GO < 16)) (
  cond (decide (x6 < 0)) (
  (nn GO).bind fun _ =>
  (some (IntKind.i64.wrap (x6 + (IntKind.i64.wrap ((rE .i64 1 GO) - 1))))).bind fun x9 =>
  (pD N x9 GO).bind fun r16 =>
  (Sl b10 r16.1).bind fun b11 =>
  mI N p7 qS xS o r3 kk fuel (b11, IntKind.i64.wrap (i + 1))) (
  (pD N x6 GO).bind fun BD =>
  (Sl b10 BD.1).bind fun b12 =>
  mI N p7 qS xS o r3 kk fuel (b12, IntKind.i64.wrap (i + 1)))) (
  mI N p7 qS xS o r3 kk fuel (b10, IntKind.i64.wrap (i + 1)))) (
  mI N p7 qS xS o r3 kk fuel (b10, IntKind.i64.wrap (i + 1))))))) (
  kk (l2, i))
def DG (N : Nat) (p7 qS : Int) (xS : List Int) (o : Int) (p2 : List Int) : Option (List UInt8 × Int) :=
 (EA N p7 qS xS).bind fun r2 =>
 cond (!(r2)) (
 some (([] : List UInt8), 1)) (
 cond (decide (o < 1)) (
 some (([] : List UInt8), 6)) (
 cond (decide (7 < o)) (
 some (([] : List UInt8), 6)) (
 (sD N p2).bind fun r3 =>
 cond (!decide (r3.2 = 0)) (
 some (([] : List UInt8), r3.2)) (
 mI N p7 qS xS o r3 (fun (l3, i2) =>
 (wD N l3).bind fun CP =>
 some (CP.1, 0)) N (([] : List UInt8), 0)))))
def Au (N : Nat) (eT hZ : Int) (fP : List Int) (HD : Int) (PV : List Int) (r9 : List (Int × Int)) (kk : (List (List UInt8) × Int) → Option (Int × Int × Int × Int × Int × List Int × List (List UInt8) × Int × Int × Int × Int × Int × Int × List (Int × Int) × Int × Int × Int × Int × Int × Int × Int × Int × Int × Int × Int × Int × List (Int × Int) × Int × Int)) : Nat → (List (List UInt8) × Int) → Option (Int × Int × Int × Int × Int × List Int × List (List UInt8) × Int × Int × Int × Int × Int × Int × List (Int × Int) × Int × Int × Int × Int × Int × Int × Int × Int × Int × Int × Int × Int × List (Int × Int) × Int × Int)
 | 0, _ => none
 | fuel + 1, (mE, i) =>
  cond (decide (i < (r9.length : Int))) (
  (idx r9 i).bind fun e2 =>
  (Dw PV (IntKind.i64.wrap (e2.1 * HD)) (IntKind.i64.wrap ((IntKind.i64.wrap (e2.1 + e2.2)) * HD))).bind fun l3 =>
  (Ez N l3 eT).bind fun vG =>
  cond (decide (0 < hZ)) (
  (DG N HD e2.2 l3 hZ fP).bind fun z7 =>
  cond (!decide (z7.2 = 0)) (
  some (0, 0, 0, 0, 0, ([] : List Int), ([] : List (List UInt8)), 0, 0, 0, 0, 0, 0, ([] : List (Int × Int)), 0, 0, 0, 0, 0, 0, 0, 0, 0, 0, 0, 0, ([] : List (Int × Int)), 0, z7.2)) (
  (app 16 mE (([z7.1] : List (List UInt8)))).bind fun jW =>
  Au N eT hZ fP HD PV r9 kk fuel (jW, IntKind.i64.wrap (i + 1)))) (
  cond (!decide (vG.2 = 0)) (
  some (0, 0, 0, 0, 0, ([] : List Int), ([] : List (List UInt8)), 0, 0, 0, 0, 0, 0, ([] : List (Int × Int)), 0, 0, 0, 0, 0, 0, 0, 0, 0, 0, 0, 0, ([] : List (Int × Int)), 0, vG.2)) (
  (app 16 mE (([vG.1] : List (List UInt8)))).bind fun G5 =>
  Au N eT hZ fP HD PV r9 kk fuel (G5, IntKind.i64.wrap (i + 1))))) (
  kk (mE, i))
def FI (N : Nat) (p7 qS eT hZ iT : Int) (fP : List Int) (cV : List (List UInt8)) (cO cE cG cH cJ cP : Int) (bF : List (Int × Int)) (cK cL cM bQ bR bS bT bU bV bW bX bY : Int) (bG : List (Int × Int)) (cB HD QQ : Int) (PV : List Int) : Option (Int × Int × Int × Int × Int × List Int × List (List UInt8) × Int × Int × Int × Int × Int × Int × List (Int × Int) × Int × Int × Int × Int × Int × Int × Int × Int × Int × Int × Int × Int × List (Int × Int) × Int × Int) :=
 (Af N p7 qS eT hZ iT fP cV cO cE cG cH cJ cP bF cK cL cM bQ bR bS bT bU bV bW bX bY bG cB).bind fun r2 =>
 cond (!decide (r2 = 0)) (
 some (0, 0, 0, 0, 0, ([] : List Int), ([] : List (List UInt8)), 0, 0, 0, 0, 0, 0, ([] : List (Int × Int)), 0, 0, 0, 0, 0, 0, 0, 0, 0, 0, 0, 0, ([] : List (Int × Int)), 0, r2)) (
 (Ag N p7 qS eT hZ iT fP cV cO cE cG cH cJ cP bF cK cL cM bQ bR bS bT bU bV bW bX bY bG cB).bind fun r3 =>
 cond (!decide (r3 = 0)) (
 some (0, 0, 0, 0, 0, ([] : List Int), ([] : List (List UInt8)), 0, 0, 0, 0, 0, 0, ([] : List (Int × Int)), 0, 0, 0, 0, 0, 0, 0, 0, 0, 0, 0, 0, ([] : List (Int × Int)), 0, r3)) (
 (AK N HD QQ PV (([] : List (Int × Int)))).bind fun r4 =>
 cond (!decide (r4.2.2.2 = 0)) (
 some (0, 0, 0, 0, 0, ([] : List Int), ([] : List (List UInt8)), 0, 0, 0, 0, 0, 0, ([] : List (Int × Int)), 0, 0, 0, 0, 0, 0, 0, 0, 0, 0, 0, 0, ([] : List (Int × Int)), 0, 1)) (
 cond (!decide (HD = p7)) (
 some (0, 0, 0, 0, 0, ([] : List Int), ([] : List (List UInt8)), 0, 0, 0, 0, 0, 0, ([] : List (Int × Int)), 0, 0, 0, 0, 0, 0, 0, 0, 0, 0, 0, 0, ([] : List (Int × Int)), 0, 1)) (
 cond (!decide (QQ = qS)) (
 some (0, 0, 0, 0, 0, ([] : List Int), ([] : List (List UInt8)), 0, 0, 0, 0, 0, 0, ([] : List (Int × Int)), 0, 0, 0, 0, 0, 0, 0, 0, 0, 0, 0, 0, ([] : List (Int × Int)), 0, 1)) (
 (mU N PV).bind fun r5 =>
 (nn eT).bind fun _ =>
 cond (decide (0 < (dP .i64 r5 eT))) (
 some (0, 0, 0, 0, 0, ([] : List Int), ([] : List (List UInt8)), 0, 0, 0, 0, 0, 0, ([] : List (Int × Int)), 0, 0, 0, 0, 0, 0, 0, 0, 0, 0, 0, 0, ([] : List (Int × Int)), 0, 1)) (
 (tC N fP).bind fun r6 =>
 (oA N bF).bind fun r7 =>
 (mY N bG).bind fun r8 =>
 (zD N p7 qS eT hZ iT fP cV cO cE cG cH cJ cP bF cK cL cM bQ bR bS bT bU bV bW bX bY bG cB).bind fun r9 =>
 Au N eT hZ fP HD PV r9 (fun (K3, i2) =>
 some (p7, qS, eT, hZ, iT, r6, K3, cO, cE, cG, cH, cJ, cP, r7, cK, cL, cM, bQ, bR, bS, bT, bU, bV, bW, bX, bY, r8, cB, 0)) N (([] : List (List UInt8)), 0)))))))
def bO (N : Nat) (n low high : Int) : Option Bool :=
 cond (decide (low ≤ n)) (
 some (decide (n ≤ high))) (
 some false)
def iH (N : Nat) (lens : List Int) (kk : (Int × Bool × Int) → Option Int) : Nat → (Int × Bool × Int) → Option Int
 | 0, _ => none
 | fuel + 1, (sum, used, i) =>
  cond (decide (i < (lens.length : Int))) (
  (idx lens i).bind fun e4 =>
  (bO N e4 0 15).bind fun r4 =>
  cond (!(r4)) (
  some 3) (
  (idx lens i).bind fun e5 =>
  cond (decide (0 < e5)) (
  (idx lens i).bind fun e6 =>
  (nn (IntKind.i64.wrap (15 - e6))).bind fun _ =>
  (some (IntKind.i64.wrap (sum + (rE .i64 1 (IntKind.i64.wrap (15 - e6)))))).bind fun Yp =>
  (some (IntKind.i64.wrap (i + 1))).bind fun i4 =>
  iH N lens kk fuel (Yp, true, i4)) (
  (some (IntKind.i64.wrap (i + 1))).bind fun i5 =>
  iH N lens kk fuel (sum, used, i5)))) (
  kk (sum, used, i))
def iK (N : Nat) (lens : List Int) : Option Int :=
 (bO N (lens.length : Int) 1 17).bind fun r2 =>
 cond (!(r2)) (
 some 2) (
 iH N lens (fun (VC, PW, i6) =>
 cond (!(PW)) (
 some 1) (
 cond (decide (32768 < VC)) (
 some 1) (
 some 0))) N (0, false, 0))
def mZ (N : Nat) (rH oM cQ dN dA : Int) (dB : List Int) (bJ : List (List UInt8)) (bB aT aU aV aW bC : Int) (aG : List (Int × Int)) (aX aY aZ aK aL aM aN aO aP aQ aR aS : Int) (aI : List (Int × Int)) (bA : Int) : Option Int :=
 (bO N rH 1 64).bind fun r2 =>
 cond (!(r2)) (
 some 3) (
 (bO N oM 1 64).bind fun r3 =>
 cond (!(r3)) (
 some 3) (
 (bO N cQ 1 16).bind fun r4 =>
 cond (!(r4)) (
 some 3) (
 (bO N dA 1 oM).bind fun r5 =>
 cond (!(r5)) (
 some 3) (
 (bO N dN 0 7).bind fun r6 =>
 cond (!(r6)) (
 some 6) (
 cond (decide (dN = 0)) (
 cond (decide (0 < (dB.length : Int))) (
 some 1) (
 cond (decide (0 < dN)) (
 (iK N dB).bind fun r7 =>
 some r7) (
 some 0))) (
 cond (decide (0 < dN)) (
 (iK N dB).bind fun r8 =>
 some r8) (
 some 0)))))))
def kS (N : Nat) (l2 : List (Int × Int)) (w2 h2 : Int) (kk : Int → Option Bool) : Nat → Int → Option Bool
 | 0, _ => none
 | fuel + 1, i =>
  cond (decide (i < (l2.length : Int))) (
  (idx l2 i).bind fun e3 =>
  (bO N e3.1 0 (IntKind.i64.wrap (w2 - 1))).bind fun r4 =>
  cond (!(r4)) (
  some false) (
  (idx l2 i).bind fun e4 =>
  (bO N e4.2 0 (IntKind.i64.wrap (h2 - 1))).bind fun r5 =>
  cond (!(r5)) (
  some false) (
  (some (IntKind.i64.wrap (i + 1))).bind fun i3 =>
  kS N l2 w2 h2 kk fuel i3))) (
  kk i)
def oE (N : Nat) (l2 : List (Int × Int)) (w2 h2 : Int) : Option Bool :=
 kS N l2 w2 h2 (fun i4 =>
 some true) N 0
def kT (N : Nat) (m0 m1 m2 m3 m4 m5 m6 m7 m8 : Int) (kk : Int → Option Bool) : Nat → Int → Option Bool
 | 0, _ => none
 | fuel + 1, i =>
  cond (decide (i < 9)) (
  (inr i 9).bind fun _ =>
  (idx [m0, m1, m2, m3, m4, m5, m6, m7, m8] i).bind fun e2 =>
  (bO N e2 (-32768) 32768).bind fun r3 =>
  cond (!(r3)) (
  some false) (
  (some (IntKind.i64.wrap (i + 1))).bind fun i3 =>
  kT N m0 m1 m2 m3 m4 m5 m6 m7 m8 kk fuel i3)) (
  kk i)
def oF (N : Nat) (m0 m1 m2 m3 m4 m5 m6 m7 m8 : Int) : Option Bool :=
 kT N m0 m1 m2 m3 m4 m5 m6 m7 m8 (fun i4 =>
 some true) N 0
def iI (N : Nat) (d : List (Int × Int)) (kk : Int → Option Bool) : Nat → Int → Option Bool
 | 0, _ => none
 | fuel + 1, i =>
  cond (decide (i < (d.length : Int))) (
  (idx d i).bind fun e8 =>
  (bO N e8.2 0 65535).bind fun r4 =>
  cond (!(r4)) (
  some false) (
  cond (decide (0 < i)) (
  (idx d i).bind fun e9 =>
  (idx d (IntKind.i64.wrap (i - 1))).bind fun e10 =>
  cond (decide (e9.1 ≤ e10.1)) (
  some false) (
  (idx d i).bind fun e11 =>
  (idx d (IntKind.i64.wrap (i - 1))).bind fun e12 =>
  cond (decide (e11.2 < e12.2)) (
  some false) (
  (some (IntKind.i64.wrap (i + 1))).bind fun x4 =>
  iI N d kk fuel x4))) (
  (some (IntKind.i64.wrap (i + 1))).bind fun x5 =>
  iI N d kk fuel x5))) (
  kk i)
def g9 (N : Nat) (d : List (Int × Int)) : Option Bool :=
 (bO N (d.length : Int) 2 16).bind fun r2 =>
 cond (!(r2)) (
 some false) (
 (idx d 0).bind fun e =>
 cond (!decide (e.1 = 0)) (
 some false) (
 (idx d (IntKind.i64.wrap ((d.length : Int) - 1))).bind fun e2 =>
 cond (!decide (e2.1 = 65535)) (
 some false) (
 iI N d (fun i2 =>
 some true) N 0)))
def eP (N : Nat) (Oy Oz OA : Int) (kk : Int → Option Int) : Nat → Int → Option Int
 | 0, _ => none
 | fuel + 1, i3 =>
  cond (decide (i3 < 3)) (
  (inr i3 3).bind fun _ =>
  (idx [Oy, Oz, OA] i3).bind fun e4 =>
  (bO N e4 0 65535).bind fun GP =>
  cond (!(GP)) (
  some 3) (
  (some (IntKind.i64.wrap (i3 + 1))).bind fun x5 =>
  eP N Oy Oz OA kk fuel x5)) (
  kk i3)
def eQ (N : Nat) (OB OC OD OE dc : Int) (kk : Int → Option Int) : Nat → Int → Option Int
 | 0, _ => none
 | fuel + 1, i =>
  cond (decide (i < 4)) (
  (inr i 4).bind fun _ =>
  (idx [OB, OC, OD, OE] i).bind fun e2 =>
  (bO N e2 0 (IntKind.i64.wrap (dc - 1))).bind fun r8 =>
  cond (!(r8)) (
  some 3) (
  (some (IntKind.i64.wrap (i + 1))).bind fun x3 =>
  eQ N OB OC OD OE dc kk fuel x3)) (
  kk i)
def nA (N : Nat) (da OB OC OD OE dc : Int) (dd : List (Int × Int)) (Oy Oz OA QR QS df2 QT QU QV QW QX QY : Int) (dg : List (Int × Int)) (dh : Int) : Option Int :=
 (bO N da 0 3).bind fun r2 =>
 cond (!(r2)) (
 some 3) (
 (bO N dc 1 65535).bind fun r3 =>
 cond (!(r3)) (
 some 3) (
 cond (decide (64 < (dd.length : Int))) (
 some 3) (
 (oE N dd 64 64).bind fun r4 =>
 cond (!(r4)) (
 some 3) (
 (oF N QR QS df2 QT QU QV QW QX QY).bind fun r5 =>
 cond (!(r5)) (
 some 3) (
 (bO N dh 0 1024).bind fun r6 =>
 cond (!(r6)) (
 some 3) (
 eQ N OB OC OD OE dc (fun i2 =>
 eP N Oy Oz OA (fun i4 =>
 (g9 N dg).bind fun Eo =>
 cond (!(Eo)) (
 some 1) (
 some 0)) N 0) N 0))))))
def nC (N : Nat) (rH oM cQ dN dA : Int) (dB : List Int) (bJ : List (List UInt8)) (bB aT aU aV aW bC : Int) (aG : List (Int × Int)) (aX aY aZ aK aL aM aN aO aP aQ aR aS : Int) (aI : List (Int × Int)) (bA : Int) : Option Int :=
 (nA N bB aT aU aV aW bC aG aX aY aZ aK aL aM aN aO aP aQ aR aS aI bA).bind fun r2 =>
 cond (!decide (r2 = 0)) (
 some r2) (
 (oE N aG rH oM).bind fun r3 =>
 cond (!(r3)) (
 some 3) (
 some 0))
def jN (N : Nat) (uQ : List Int) (kk : Int → Option Bool) : Nat → Int → Option Bool
 | 0, _ => none
 | fuel + 1, i =>
  cond (decide (i < (uQ.length : Int))) (
  (idx uQ i).bind fun e2 =>
  (bO N e2 0 65535).bind fun r5 =>
  cond (!(r5)) (
  some false) (
  (some (IntKind.i64.wrap (i + 1))).bind fun i3 =>
  jN N uQ kk fuel i3)) (
  kk i)
def nD (N : Nat) (C7 Dx : Int) (uQ : List Int) : Option Bool :=
 (bO N C7 1 64).bind fun r2 =>
 cond (!(r2)) (
 some false) (
 (bO N Dx 1 64).bind fun r3 =>
 cond (!(r3)) (
 some false) (
 cond (!decide ((uQ.length : Int) = (IntKind.i64.wrap (C7 * Dx)))) (
 some false) (
 jN N uQ (fun i4 =>
 some true) N 0)))
def kU (N : Nat) (l2 : List Int) (depth : Int) (kk : Int → Option Bool) : Nat → Int → Option Bool
 | 0, _ => none
 | fuel + 1, i =>
  cond (decide (i < (l2.length : Int))) (
  (idx l2 i).bind fun e2 =>
  (nn depth).bind fun _ =>
  cond (decide ((IntKind.i64.wrap ((rE .i64 1 depth) - 1)) < e2)) (
  some false) (
  (some (IntKind.i64.wrap (i + 1))).bind fun i3 =>
  kU N l2 depth kk fuel i3)) (
  kk i)
def oG (N : Nat) (l2 : List Int) (depth : Int) : Option Bool :=
 kU N l2 depth (fun i4 =>
 some true) N 0
def pN (N : Nat) (rH oM cQ dN dA : Int) (dB : List Int) (bJ : List (List UInt8)) (bB aT aU aV aW bC : Int) (aG : List (Int × Int)) (aX aY aZ aK aL aM aN aO aP aQ aR aS : Int) (aI : List (Int × Int)) (bA : Int) : Option Int :=
 (nz dA).bind fun _ =>
 some (IntKind.i64.wrap (Int.tdiv (IntKind.i64.wrap ((IntKind.i64.wrap (oM + dA)) - 1)) dA))
def rO (N : Nat) (rH oM cQ dN dA : Int) (dB : List Int) (bJ : List (List UInt8)) (bB aT aU aV aW bC : Int) (aG : List (Int × Int)) (aX aY aZ aK aL aM aN aO aP aQ aR aS : Int) (aI : List (Int × Int)) (bA strip : Int) : Option Int :=
 some (min dA (IntKind.i64.wrap (oM - (IntKind.i64.wrap (strip * dA)))))
def iO (N : Nat) : Nat → Int → Int → Option (List UInt8)
 | 0, _, _ => none
 | fu + 1, n, size =>
  cond (decide (size = 0)) (
  some (([] : List UInt8))) (
  (iO N fu (IntKind.i64.wrap (Int.tdiv n 2)) (IntKind.i64.wrap (size - 1))).bind fun r2 =>
  (Je r2 (toB (([IntKind.u8.wrap (48 + (IntKind.u8.wrap (Int.tmod n 2)))] : List Int)))).bind fun s =>
  some s)
def lM (N : Nat) (n size : Int) : Option (List UInt8) := iO N N n size
def iP (N : Nat) (b : List UInt8) (i : Int) (kk : (Int × Int) → Option (List UInt8)) : Nat → (Int × Int) → Option (List UInt8)
 | 0, _ => none
 | fuel + 1, (n4, k5) =>
  cond (decide (k5 < (IntKind.i64.wrap (i + 8)))) (
  (some (IntKind.i64.wrap (2 * n4))).bind fun n7 =>
  cond (decide (k5 < (b.length : Int))) (
  (idx b k5).bind fun b4 =>
  cond (decide ((b4.toNat : Int) = 49)) (
  (some (IntKind.i64.wrap (n7 + 1))).bind fun n8 =>
  (some (IntKind.i64.wrap (k5 + 1))).bind fun k9 =>
  iP N b i kk fuel (n8, k9)) (
  (some (IntKind.i64.wrap (k5 + 1))).bind fun k10 =>
  iP N b i kk fuel (n7, k10))) (
  (some (IntKind.i64.wrap (k5 + 1))).bind fun k11 =>
  iP N b i kk fuel (n7, k11))) (
  kk (n4, k5))
def jX (N : Nat) (b : List UInt8) (kk : (List Int × Int) → Option (List UInt8)) : Nat → (List Int × Int) → Option (List UInt8)
 | 0, _ => none
 | fuel + 1, (l2, i) =>
  cond (decide (i < (b.length : Int))) (
  iP N b i (fun (n9, k12) =>
  (app 1 l2 ([IntKind.u8.wrap n9] : List Int)).bind fun l4 =>
  (some (IntKind.i64.wrap (i + 8))).bind fun i3 =>
  jX N b kk fuel (l4, i3)) N (0, i)) (
  kk (l2, i))
def jD (N : Nat) (b : List UInt8) : Option (List UInt8) :=
 (Vo 1 (IntKind.i64.wrap ((IntKind.i64.wrap (Int.tdiv (b.length : Int) 8)) + 1))).bind fun _ =>
 jX N b (fun (l5, i4) =>
 some (toB l5)) N (([] : List Int), 0)
def lH (N : Nat) (l2 : List Int) (depth : Int) (kk : (List Int × Int) → Option (List UInt8)) : Nat → (List Int × Int) → Option (List UInt8)
 | 0, _ => none
 | fuel + 1, (l4, i2) =>
  cond (decide (i2 < (l2.length : Int))) (
  (idx l2 i2).bind fun e3 =>
  (lM N e3 depth).bind fun r4 =>
  (app 1 l4 (sN r4)).bind fun l6 =>
  (some (IntKind.i64.wrap (i2 + 1))).bind fun i4 =>
  lH N l2 depth kk fuel (l6, i4)) (
  kk (l4, i2))
def mV (N : Nat) (l2 : List Int) (depth : Int) : Option (List UInt8) :=
 lH N l2 depth (fun (l7, i5) =>
 (jD N (toB l7)).bind fun r5 =>
 some r5) N (([] : List Int), 0)
def iW (N : Nat) (lens : List Int) (size : Int) (kk : (List (List UInt8) × Int × Int × Int) → Option (List (List UInt8))) : Nat → (List (List UInt8) × Int × Int × Int) → Option (List (List UInt8))
 | 0, _ => none
 | fuel + 1, (l6, HG, last3, i4) =>
  cond (decide (i4 < (lens.length : Int))) (
  (idx lens i4).bind fun e5 =>
  cond (!decide (e5 = size)) (
  (some (IntKind.i64.wrap (i4 + 1))).bind fun i7 =>
  iW N lens size kk fuel (l6, HG, last3, i7)) (
  (nn (IntKind.i64.wrap (size - last3))).bind fun _ =>
  (some (rE .i64 HG (IntKind.i64.wrap (size - last3)))).bind fun Ta =>
  (lM N Ta size).bind fun r4 =>
  (idx l6 i4).bind fun e6 =>
  (xX l6 i4 r4).bind fun l8 =>
  (some (IntKind.i64.wrap (Ta + 1))).bind fun Tb =>
  (some (IntKind.i64.wrap (i4 + 1))).bind fun i8 =>
  iW N lens size kk fuel (l8, Tb, size, i8))) (
  kk (l6, HG, last3, i4))
def kV (N : Nat) (lens : List Int) (kk : (List (List UInt8) × Int × Int × Int) → Option (List (List UInt8))) : Nat → (List (List UInt8) × Int × Int × Int) → Option (List (List UInt8))
 | 0, _ => none
 | fuel + 1, (l3, next, last, size) =>
  cond (decide (size ≤ 15)) (
  iW N lens size (fun (l9, OY, Tc, i9) =>
  (some (IntKind.i64.wrap (size + 1))).bind fun Td =>
  kV N lens kk fuel (l9, OY, Tc, Td)) N (l3, next, last, 0)) (
  kk (l3, next, last, size))
def kX (N : Nat) (lens : List Int) : Option (List (List UInt8)) :=
 (some ((lens.length : Int))).bind fun x2 =>
 (mk 16 x2 (([] : List UInt8) : List UInt8)).bind fun l2 =>
 kV N lens (fun (l10, Yq, aAG, aAH) =>
 some l10) N (l2, 0, 0, 1)
def gG (N : Nat) (C7 Dx : Int) (uQ : List Int) (x2 y : Int) : Option Int :=
 (idx uQ (IntKind.i64.wrap ((IntKind.i64.wrap (y * C7)) + x2))).bind fun e =>
 some e
def dS (N : Nat) (n Zz : Int) : Option Int :=
 (nz Zz).bind fun _ =>
 (some (IntKind.i64.wrap (Int.tdiv n Zz))).bind fun q =>
 cond (decide (n < (IntKind.i64.wrap (q * Zz)))) (
 (some (IntKind.i64.wrap (q - 1))).bind fun q2 =>
 some q2) (
 some q)
def iJ (N : Nat) (p7 qS : Int) (xS : List Int) (o p2 p3 : Int) : Option Int :=
 cond (decide (p2 = 0)) (
 cond (decide (p3 = 0)) (
 some 32768) (
 cond (decide (p3 = 0)) (
 (gG N p7 qS xS (IntKind.i64.wrap (p2 - 1)) 0).bind fun r2 =>
 some r2) (
 cond (decide (p2 = 0)) (
 (gG N p7 qS xS 0 (IntKind.i64.wrap (p3 - 1))).bind fun r3 =>
 some r3) (
 (gG N p7 qS xS (IntKind.i64.wrap (p2 - 1)) p3).bind fun r4 =>
 (gG N p7 qS xS p2 (IntKind.i64.wrap (p3 - 1))).bind fun r5 =>
 (gG N p7 qS xS (IntKind.i64.wrap (p2 - 1)) (IntKind.i64.wrap (p3 - 1))).bind fun r6 =>
 cond (decide (o = 1)) (
 some r4) (
 cond (decide (o = 2)) (
 some r5) (
 cond (decide (o = 3)) (
 some r6) (
 cond (decide (o = 4)) (
 some (IntKind.i64.wrap ((IntKind.i64.wrap (r4 + r5)) - r6))) (
 cond (decide (o = 5)) (
 (dS N (IntKind.i64.wrap (r5 - r6)) 2).bind fun r7 =>
 some (IntKind.i64.wrap (r4 + r7))) (
 cond (decide (o = 6)) (
 (dS N (IntKind.i64.wrap (r4 - r6)) 2).bind fun r8 =>
 some (IntKind.i64.wrap (r5 + r8))) (
 (dS N (IntKind.i64.wrap (r4 + r5)) 2).bind fun r9 =>
 some r9)))))))))) (
 cond (decide (p3 = 0)) (
 (gG N p7 qS xS (IntKind.i64.wrap (p2 - 1)) 0).bind fun GP =>
 some GP) (
 cond (decide (p2 = 0)) (
 (gG N p7 qS xS 0 (IntKind.i64.wrap (p3 - 1))).bind fun Eo =>
 some Eo) (
 (gG N p7 qS xS (IntKind.i64.wrap (p2 - 1)) p3).bind fun vG =>
 (gG N p7 qS xS p2 (IntKind.i64.wrap (p3 - 1))).bind fun z7 =>
 (gG N p7 qS xS (IntKind.i64.wrap (p2 - 1)) (IntKind.i64.wrap (p3 - 1))).bind fun F5 =>
 cond (decide (o = 1)) (
 some vG) (
 cond (decide (o = 2)) (
 some z7) (
 cond (decide (o = 3)) (
 some F5) (
 cond (decide (o = 4)) (
 some (IntKind.i64.wrap ((IntKind.i64.wrap (vG + z7)) - F5))) (
 cond (decide (o = 5)) (
 (dS N (IntKind.i64.wrap (z7 - F5)) 2).bind fun GO =>
 some (IntKind.i64.wrap (vG + GO))) (
 cond (decide (o = 6)) (
 (dS N (IntKind.i64.wrap (vG - F5)) 2).bind fun r16 =>
 some (IntKind.i64.wrap (z7 + r16))) (
 (dS N (IntKind.i64.wrap (vG + z7)) 2).bind fun BD =>
 some BD)))))))))
def fM (N : Nat)  (kk : Int → Option Int) : Nat → Int → Option Int
 | 0, _ => none
 | fuel + 1, d6 =>
  cond (decide (d6 ≤ (-32768))) (
  (some (IntKind.i64.wrap (d6 + 65536))).bind fun d8 =>
  fM N  kk fuel d8) (
  kk d6)
def gQ (N : Nat)  (kk : Int → Option Int) : Nat → Int → Option Int
 | 0, _ => none
 | fuel + 1, d2 =>
  cond (decide (32768 < d2)) (
  (some (IntKind.i64.wrap (d2 - 65536))).bind fun d4 =>
  gQ N  kk fuel d4) (
  kk d2)
def mO (N : Nat) (LM guess : Int) : Option Int :=
 (some (IntKind.i64.wrap (LM - guess))).bind fun d =>
 gQ N  (fun d5 =>
 fM N  (fun d9 =>
 some d9) N d5) N d
def iQ (N : Nat) (C7 Dx : Int) (uQ : List Int) (kind y2 : Int) (kk : (List Int × Int) → Option (List Int)) : Nat → (List Int × Int) → Option (List Int)
 | 0, _ => none
 | fuel + 1, (l8, x7) =>
  cond (decide (x7 < C7)) (
  (gG N C7 Dx uQ x7 y2).bind fun F5 =>
  (iJ N C7 Dx uQ kind x7 y2).bind fun GO =>
  (mO N F5 GO).bind fun r16 =>
  (app 8 l8 ([r16] : List Int)).bind fun l10 =>
  (some (IntKind.i64.wrap (x7 + 1))).bind fun x9 =>
  iQ N C7 Dx uQ kind y2 kk fuel (l10, x9)) (
  kk (l8, x7))
def hG (N : Nat) (C7 Dx : Int) (uQ : List Int) (kind : Int) (kk : (List Int × Int) → Option (List Int)) : Nat → (List Int × Int) → Option (List Int)
 | 0, _ => none
 | fuel + 1, (l5, y2) =>
  cond (decide (y2 < Dx)) (
  iQ N C7 Dx uQ kind y2 (fun (VD, x10) =>
  (some (IntKind.i64.wrap (y2 + 1))).bind fun y4 =>
  hG N C7 Dx uQ kind kk fuel (VD, y4)) N (l5, 0)) (
  kk (l5, y2))
def oH (N : Nat) (C7 Dx : Int) (uQ : List Int) (kind : Int) : Option (List Int) :=
 hG N C7 Dx uQ kind (fun (VE, y5) =>
 some VE) N (([] : List Int), 0)
def kW (N : Nat)  (kk : (Int × Int) → Option Int) : Nat → (Int × Int) → Option Int
 | 0, _ => none
 | fuel + 1, (n, k2) =>
  cond (decide (0 < k2)) (
  (some (IntKind.i64.wrap (n + 1))).bind fun n3 =>
  (some (IntKind.i64.wrap (Int.tdiv k2 2))).bind fun k4 =>
  kW N  kk fuel (n3, k4)) (
  kk (n, k2))
def mK (N : Nat) (d : Int) : Option Int :=
 (some (max d (IntKind.i64.wrap (0 - d)))).bind fun k =>
 kW N  (fun (n4, k5) =>
 some n4) N (0, k)
def qN (N : Nat) (d : Int) : Option (List UInt8) :=
 (mK N d).bind fun r2 =>
 cond (decide (r2 = 0)) (
 some (([] : List UInt8))) (
 cond (decide (r2 = 16)) (
 some (([] : List UInt8))) (
 cond (decide (0 < d)) (
 (lM N d r2).bind fun r3 =>
 some r3) (
 (nn r2).bind fun _ =>
 (lM N (IntKind.i64.wrap ((IntKind.i64.wrap (d + (rE .i64 1 r2))) - 1)) r2).bind fun r4 =>
 some r4)))
def jO (N : Nat) (r5 : List (List UInt8)) (r6 : List Int) (kk : (List Int × Int) → Option (List UInt8 × Int)) : Nat → (List Int × Int) → Option (List UInt8 × Int)
 | 0, _ => none
 | fuel + 1, (l4, i) =>
  cond (decide (i < (r6.length : Int))) (
  (idx r6 i).bind fun e9 =>
  (mK N e9).bind fun Eo =>
  cond (decide ((r5.length : Int) ≤ Eo)) (
  some (([] : List UInt8), 4)) (
  (idx r5 Eo).bind fun e10 =>
  cond (decide (e10 = ([] : List UInt8))) (
  some (([] : List UInt8), 4)) (
  (idx r5 Eo).bind fun e11 =>
  (app 1 l4 (sN e11)).bind fun l7 =>
  (idx r6 i).bind fun e12 =>
  (qN N e12).bind fun vG =>
  (app 1 l7 (sN vG)).bind fun l8 =>
  (some (IntKind.i64.wrap (i + 1))).bind fun x4 =>
  jO N r5 r6 kk fuel (l8, x4)))) (
  kk (l4, i))
def lI (N : Nat) (p7 qS : Int) (xS : List Int) (o : Int) (p2 : List Int) : Option (List UInt8 × Int) :=
 (nD N p7 qS xS).bind fun r2 =>
 cond (!(r2)) (
 some (([] : List UInt8), 1)) (
 (bO N o 1 7).bind fun r3 =>
 cond (!(r3)) (
 some (([] : List UInt8), 6)) (
 (iK N p2).bind fun r4 =>
 cond (!decide (r4 = 0)) (
 some (([] : List UInt8), r4)) (
 (kX N p2).bind fun r5 =>
 (oH N p7 qS xS o).bind fun r6 =>
 jO N r5 r6 (fun (l9, i2) =>
 (jD N (toB l9)).bind fun z7 =>
 some (z7, 0)) N (([] : List Int), 0))))
def jY (N : Nat) (a2 b : List Int) (kk : Int → Option Bool) : Nat → Int → Option Bool
 | 0, _ => none
 | fuel + 1, i =>
  cond (decide (i < (a2.length : Int))) (
  (idx a2 i).bind fun e3 =>
  (idx b i).bind fun e4 =>
  cond (!decide (e3 = e4)) (
  some false) (
  (some (IntKind.i64.wrap (i + 1))).bind fun i3 =>
  jY N a2 b kk fuel i3)) (
  kk i)
def lV (N : Nat) (a2 b : List Int) : Option Bool :=
 cond (!decide ((a2.length : Int) = (b.length : Int))) (
 some false) (
 jY N a2 b (fun i4 =>
 some true) N 0)
def jP (N : Nat) (dg og : List (Int × Int)) (kk : Int → Option Bool) : Nat → Int → Option Bool
 | 0, _ => none
 | fuel + 1, i3 =>
  cond (decide (i3 < (dg.length : Int))) (
  (idx dg i3).bind fun e7 =>
  (idx og i3).bind fun e8 =>
  cond (!(decide (e7.1 = e8.1) && decide (e7.2 = e8.2))) (
  some false) (
  (some (IntKind.i64.wrap (i3 + 1))).bind fun x5 =>
  jP N dg og kk fuel x5)) (
  kk i3)
def jQ (N : Nat) (dd od : List (Int × Int)) (kk : Int → Option Bool) : Nat → Int → Option Bool
 | 0, _ => none
 | fuel + 1, i =>
  cond (decide (i < (dd.length : Int))) (
  (idx dd i).bind fun e3 =>
  (idx od i).bind fun e4 =>
  cond (!(decide (e3.1 = e4.1) && decide (e3.2 = e4.2))) (
  some false) (
  (some (IntKind.i64.wrap (i + 1))).bind fun x3 =>
  jQ N dd od kk fuel x3)) (
  kk i)
def nE (N : Nat) (da OB OC OD OE dc : Int) (dd : List (Int × Int)) (Oy Oz OA QR QS df2 QT QU QV QW QX QY : Int) (dg : List (Int × Int)) (dh oa ZA OZ WP ZB oc : Int) (od : List (Int × Int)) (ZC ZD ZE ZF ZG ZH ZI ZJ ZK ZL ZM ZN : Int) (og : List (Int × Int)) (oh : Int) : Option Bool :=
 cond (!decide (da = oa)) (
 some false) (
 cond (!(decide ([OB, OC, OD, OE] = [ZA, OZ, WP, ZB]))) (
 some false) (
 cond (!decide (dc = oc)) (
 some false) (
 cond (!(decide ([Oy, Oz, OA] = [ZC, ZD, ZE]))) (
 some false) (
 cond (!(decide ([QR, QS, df2, QT, QU, QV, QW, QX, QY] = [ZF, ZG, ZH, ZI, ZJ, ZK, ZL, ZM, ZN]))) (
 some false) (
 cond (!decide (dh = oh)) (
 some false) (
 cond (!decide ((dd.length : Int) = (od.length : Int))) (
 some false) (
 cond (!decide ((dg.length : Int) = (og.length : Int))) (
 some false) (
 jQ N dd od (fun i2 =>
 jP N dg og (fun i4 =>
 some true) N 0) N 0))))))))
def jZ (N : Nat) (cV vH : List (List UInt8)) (kk : Int → Option Bool) : Nat → Int → Option Bool
 | 0, _ => none
 | fuel + 1, i =>
  cond (decide (i < (cV.length : Int))) (
  (idx cV i).bind fun e3 =>
  (idx vH i).bind fun e4 =>
  cond (!decide (e3 = e4)) (
  some false) (
  (some (IntKind.i64.wrap (i + 1))).bind fun x3 =>
  jZ N cV vH kk fuel x3)) (
  kk i)
def lW (N : Nat) (p7 qS eT hZ iT : Int) (fP : List Int) (cV : List (List UInt8)) (cO cE cG cH cJ cP : Int) (bF : List (Int × Int)) (cK cL cM bQ bR bS bT bU bV bW bX bY : Int) (bG : List (Int × Int)) (cB HD QQ Gh Jg Jh : Int) (FJ : List Int) (vH : List (List UInt8)) (zF wX wY wZ w5 zG : Int) (tW : List (Int × Int)) (w6 w7 w8 vI vJ vK vL vM vN vO vP vQ : Int) (tX : List (Int × Int)) (w9 : Int) : Option Bool :=
 cond (!decide (p7 = HD)) (
 some false) (
 cond (!decide (qS = QQ)) (
 some false) (
 cond (!decide (eT = Gh)) (
 some false) (
 cond (!decide (hZ = Jg)) (
 some false) (
 cond (!decide (iT = Jh)) (
 some false) (
 (lV N fP FJ).bind fun r2 =>
 cond (!(r2)) (
 some false) (
 cond (!decide ((cV.length : Int) = (vH.length : Int))) (
 some false) (
 (nE N cO cE cG cH cJ cP bF cK cL cM bQ bR bS bT bU bV bW bX bY bG cB zF wX wY wZ w5 zG tW w6 w7 w8 vI vJ vK vL vM vN vO vP vQ tX w9).bind fun r3 =>
 cond (!(r3)) (
 some false) (
 jZ N cV vH (fun i2 =>
 some true) N 0))))))))
def oO (N : Nat) (l2 : List (Int × Int)) (x2 : Int) (kk : Int → Option Int) : Nat → Int → Option Int
 | 0, _ => none
 | fuel + 1, i =>
  (idx l2 i).bind fun e2 =>
  cond (decide (e2.1 < x2)) (
  (some (IntKind.i64.wrap (i + 1))).bind fun i3 =>
  oO N l2 x2 kk fuel i3) (
  kk i)
def qT (N : Nat) (l2 : List (Int × Int)) (x2 : Int) : Option Int :=
 oO N l2 x2 (fun i4 =>
 (idx l2 (IntKind.i64.wrap (i4 - 1))).bind fun e3 =>
 (idx l2 i4).bind fun e4 =>
 (nz (IntKind.i64.wrap (e4.1 - e3.1))).bind fun _ =>
 (some (IntKind.i64.wrap (e3.2 + (IntKind.i64.wrap (Int.tdiv (IntKind.i64.wrap ((IntKind.i64.wrap (e4.2 - e3.2)) * (IntKind.i64.wrap (x2 - e3.1)))) (IntKind.i64.wrap (e4.1 - e3.1))))))).bind fun x3 =>
 some x3) N 1
def vR (N : Nat)  : Option (List (Int × Int)) :=
 some (([(0, 0), (65535, 65535)] : List (Int × Int)))
def vS (N : Nat)  : Option (Int × Int × Int × Int × Int × Int × List (Int × Int) × Int × Int × Int × Int × Int × Int × Int × Int × Int × Int × Int × Int × List (Int × Int) × Int) :=
 (vR N ).bind fun r2 =>
 some (0, 0, 0, 0, 0, 65535, ([] : List (Int × Int)), 256, 256, 256, 4096, 0, 0, 0, 4096, 0, 0, 0, 4096, r2, 64)
def q9 (N : Nat) (o p2 : Int) (kk : (List Int × Int × Int) → Option (List Int × Int)) : Nat → (List Int × Int × Int) → Option (List Int × Int)
 | 0, _ => none
 | fuel + 1, (l8, i8, i9) =>
  cond (decide (o ≤ i9)) (
  cond (decide ((l8.length : Int) < p2)) (
  (some (IntKind.i64.wrap (i9 - o))).bind fun FH =>
  (nn FH).bind fun _ =>
  (app 8 l8 ([dP .i64 i8 FH] : List Int)).bind fun l10 =>
  (nn FH).bind fun _ =>
  (some (Es .i64 i8 (IntKind.i64.wrap ((rE .i64 1 FH) - 1)))).bind fun Ko =>
  q9 N o p2 kk fuel (l10, Ko, FH)) (
  kk (l8, i8, i9))) (
  kk (l8, i8, i9))
def rA (N : Nat) (d : List UInt8) (o p2 : Int) (kk : (List Int × Int × Int × Int) → Option (List Int × Int)) : Nat → (List Int × Int × Int × Int) → Option (List Int × Int)
 | 0, _ => none
 | fuel + 1, (l5, i3, i4, i5) =>
  cond (decide (i5 < (d.length : Int))) (
  (idx d i5).bind fun b3 =>
  (some (KT .i64 (rE .i64 i3 8) (IntKind.i64.wrap (b3.toNat : Int)))).bind fun Ki =>
  (some (IntKind.i64.wrap (i4 + 8))).bind fun Hy =>
  q9 N o p2 (fun (VD, G4, i11) =>
  rA N d o p2 kk fuel (VD, G4, i11, IntKind.i64.wrap (i5 + 1))) N (l5, Ki, Hy)) (
  kk (l5, i3, i4, i5))
def xA (N : Nat) (d : List UInt8) (o p2 : Int) : Option (List Int × Int) :=
 (uO N o).bind fun r2 =>
 cond (!(r2)) (
 some (([] : List Int), 3)) (
 cond (decide (p2 < 0)) (
 some (([] : List Int), 3)) (
 cond (decide (4096 < p2)) (
 some (([] : List Int), 2)) (
 cond (!decide ((d.length : Int) = (IntKind.i64.wrap (Int.tdiv (IntKind.i64.wrap ((IntKind.i64.wrap (p2 * o)) + 7)) 8)))) (
 some (([] : List Int), 1)) (
 rA N d o p2 (fun (VE, i12, Ih, Yo) =>
 cond (!decide (i12 = 0)) (
 some (([] : List Int), 1)) (
 some (VE, 0))) N (([] : List Int), 0, 0, 0)))))
def rI (N : Nat) (e2 : List UInt8) (kk : (List (List UInt8 × Int) × Int) → Option (List Int × List UInt8 × Int)) : Nat → (List (List UInt8 × Int) × Int) → Option (List Int × List UInt8 × Int)
 | 0, _ => none
 | fuel + 1, (m5, i3) =>
  cond (decide (i3 < (e2.length : Int))) (
  (Dw e2 0 i3).bind fun s5 =>
  (I5 m5 s5).bind fun q3 =>
  cond (!(q3.2)) (
  (Dw e2 0 i3).bind fun s6 =>
  (OP m5 s6 (-1)).bind fun m7 =>
  rI N e2 kk fuel (m7, IntKind.i64.wrap (i3 + 1))) (
  rI N e2 kk fuel (m5, IntKind.i64.wrap (i3 + 1)))) (
  kk (m5, i3))
def lD (N : Nat) (m10 : List (List UInt8 × Int)) (o2 : List UInt8) (kk : (Int × Int) → Option (List Int × List UInt8 × Int)) : Nat → (Int × Int) → Option (List Int × List UInt8 × Int)
 | 0, _ => none
 | fuel + 1, (G4, i11) =>
  cond (decide (i11 < 0)) (
  (Dw o2 0 G4).bind fun s12 =>
  (I5 m10 s12).bind fun q7 =>
  cond (!(q7.2)) (
  some (([] : List Int), ([] : List UInt8), 4)) (
  cond (decide (0 ≤ q7.1)) (
  lD N m10 o2 kk fuel (G4, q7.1)) (
  cond (decide (G4 = (o2.length : Int))) (
  some (([] : List Int), ([] : List UInt8), 5)) (
  (some (IntKind.i64.wrap (G4 + 1))).bind fun x5 =>
  lD N m10 o2 kk fuel (x5, i11))))) (
  kk (G4, i11))
def pO (N : Nat) (p2 : Int) (m10 : List (List UInt8 × Int)) (kk : (List Int × List UInt8) → Option (List Int × List UInt8 × Int)) : Nat → (List Int × List UInt8) → Option (List Int × List UInt8 × Int)
 | 0, _ => none
 | fuel + 1, (l3, o2) =>
  cond (decide ((l3.length : Int) < p2)) (
  lD N m10 o2 (fun (i12, Ih) =>
  (app 8 l3 ([Ih] : List Int)).bind fun l5 =>
  (Dw o2 i12 (o2.length : Int)).bind fun s13 =>
  pO N p2 m10 kk fuel (l5, s13)) N (0, (-1))) (
  kk (l3, o2))
def rJ (N : Nat) (r2 : List (List UInt8) × Int) (kk : (List (List UInt8 × Int) × Int) → Option (List Int × List UInt8 × Int)) : Nat → (List (List UInt8 × Int) × Int) → Option (List Int × List UInt8 × Int)
 | 0, _ => none
 | fuel + 1, (m, i) =>
  cond (decide (i < (r2.1.length : Int))) (
  (idx r2.1 i).bind fun e2 =>
  rI N e2 (fun (m8, i4) =>
  cond (!decide (e2 = ([] : List UInt8))) (
  (OP m8 e2 i).bind fun m9 =>
  rJ N r2 kk fuel (m9, IntKind.i64.wrap (i + 1))) (
  rJ N r2 kk fuel (m8, IntKind.i64.wrap (i + 1)))) N (m, 0)) (
  kk (m, i))
def vT (N : Nat) (d : List Int) (o : List UInt8) (p2 : Int) : Option (List Int × List UInt8 × Int) :=
 (sD N d).bind fun r2 =>
 cond (!decide (r2.2 = 0)) (
 some (([] : List Int), ([] : List UInt8), r2.2)) (
 cond (decide (p2 < 0)) (
 some (([] : List Int), ([] : List UInt8), 3)) (
 cond (decide (4096 < p2)) (
 some (([] : List Int), ([] : List UInt8), 3)) (
 (wD N o).bind fun r3 =>
 cond (!decide (r3.2 = 0)) (
 some (([] : List Int), ([] : List UInt8), 1)) (
 rJ N r2 (fun (m10, i5) =>
 pO N p2 m10 (fun (l6, o3) =>
 some (l6, o3, 0)) N (([] : List Int), o)) N (([] : List (List UInt8 × Int)), 0)))))
def tD (N : Nat) (s : List UInt8) (kk : (List UInt8 × Int) → Option (List UInt8)) : Nat → (List UInt8 × Int) → Option (List UInt8)
 | 0, _ => none
 | fuel + 1, (l2, i) =>
  cond (decide (i < (s.length : Int))) (
  (idx s i).bind fun b3 =>
  (sO N (IntKind.i64.wrap (b3.toNat : Int)) 8).bind fun r3 =>
  (Sl l2 r3).bind fun b4 =>
  (some (IntKind.i64.wrap (i + 1))).bind fun i3 =>
  tD N s kk fuel (b4, i3)) (
  kk (l2, i))
def vU (N : Nat) (s : List UInt8) : Option (List UInt8) :=
 tD N s (fun (l3, i4) =>
 some l3) N (([] : List UInt8), 0)
def sC (N : Nat) (b : List UInt8) (kk : (Int × Int) → Option (Int × Int)) : Nat → (Int × Int) → Option (Int × Int)
 | 0, _ => none
 | fuel + 1, (n, i) =>
  cond (decide (i < (b.length : Int))) (
  (idx b i).bind fun b3 =>
  (some (IntKind.i64.wrap ((rE .i64 n 1) + (IntKind.i64.wrap (Es .u8 (b3.toNat : Int) 1))))).bind fun n3 =>
  sC N b kk fuel (n3, IntKind.i64.wrap (i + 1))) (
  kk (n, i))
def zH (N : Nat) (b : List UInt8) : Option (Int × Int) :=
 (Ah N b).bind fun r2 =>
 cond (!(r2)) (
 some (0, 1)) (
 cond (decide (16 < (b.length : Int))) (
 some (0, 3)) (
 sC N b (fun (n4, i2) =>
 some (n4, 0)) N (0, 0)))
def vV (N : Nat)  (kk : (List UInt8 × List UInt8) → Option (Int × Int × List Int × Int)) : Nat → (List UInt8 × List UInt8) → Option (Int × Int × List Int × Int)
 | 0, _ => none
 | fuel + 1, (FH, Ko) =>
  cond (decide ((FH.length : Int) < 1)) (
  cond (!decide (Ko = ([] : List UInt8))) (
  (Dw Ko 0 1).bind fun s21 =>
  (vU N s21).bind fun GO =>
  (Je FH GO).bind fun s22 =>
  (Dw Ko 1 (Ko.length : Int)).bind fun s23 =>
  vV N  kk fuel (s22, s23)) (
  kk (FH, Ko))) (
  kk (FH, Ko))
def lE (N : Nat) (i6 : Int) (kk : (List UInt8 × List UInt8) → Option (Int × Int × List Int × Int)) : Nat → (List UInt8 × List UInt8) → Option (Int × Int × List Int × Int)
 | 0, _ => none
 | fuel + 1, (Sj, x23) =>
  cond (decide ((Sj.length : Int) < i6)) (
  cond (!decide (x23 = ([] : List UInt8))) (
  (Dw x23 0 1).bind fun s30 =>
  (vU N s30).bind fun CP =>
  (Je Sj CP).bind fun s31 =>
  (Dw x23 1 (x23.length : Int)).bind fun s32 =>
  lE N i6 kk fuel (s31, s32)) (
  kk (Sj, x23))) (
  kk (Sj, x23))
def j0 (N : Nat) (p4 : List Int) (kk : (List UInt8 × List UInt8 × Int × Int × List UInt8) → Option (Int × Int × List Int × Int)) : Nat → (List UInt8 × List UInt8 × Int × Int × List UInt8) → Option (Int × Int × List Int × Int)
 | 0, _ => none
 | fuel + 1, (Ki, Hy, i4, i5, w3) =>
  (vT N p4 w3 1).bind fun z7 =>
  cond (decide (z7.2.2 = 0)) (
  (idx z7.1 0).bind fun e7 =>
  kk (Ki, Hy, e7, z7.2.2, w3)) (
  vV N  (fun (x18, LH) =>
  cond (decide ((x18.length : Int) < 1)) (
  cond (!decide (z7.2.2 = 5)) (
  kk (x18, LH, 0, 1, w3)) (
  kk (x18, LH, 0, 1, w3))) (
  (Dw x18 0 1).bind fun s24 =>
  (Dw x18 1 (x18.length : Int)).bind fun Zw =>
  cond (!decide (z7.2.2 = 5)) (
  kk (Zw, LH, 0, 1, w3)) (
  (Je w3 s24).bind fun s26 =>
  j0 N p4 kk fuel (Zw, LH, i4, i5, s26)))) N (Ki, Hy))
def fQ (N : Nat) (o p2 p3 : Int) (p4 : List Int) (kk : (List Int × List UInt8 × List UInt8 × Int) → Option (Int × Int × List Int × Int)) : Nat → (List Int × List UInt8 × List UInt8 × Int) → Option (Int × Int × List Int × Int)
 | 0, _ => none
 | fuel + 1, (Ep, x3, x4, i) =>
  cond (decide (i < (IntKind.i64.wrap (o * p2)))) (
  (app 8 Ep ([0] : List Int)).bind fun Ay =>
  j0 N p4 (fun (x20, x21, i6, i7, w4) =>
  cond (!decide (i7 = 0)) (
  some (0, 0, ([] : List Int), 1)) (
  cond (decide (i6 = 16)) (
  (pE N o p2 Ay p3 i).bind fun r16 =>
  (idx Ay i).bind fun e8 =>
  (xX Ay i (IntKind.i64.wrap (IntKind.u16.wrap (IntKind.i64.wrap (r16 + 32768))))).bind fun l6 =>
  fQ N o p2 p3 p4 kk fuel (l6, x20, x21, IntKind.i64.wrap (i + 1))) (
  cond (decide (0 < i6)) (
  lE N i6 (fun (x24, x25) =>
  cond (decide ((x24.length : Int) < i6)) (
  some (0, 0, ([] : List Int), 1)) (
  (Dw x24 0 i6).bind fun s33 =>
  (Dw x24 i6 (x24.length : Int)).bind fun s34 =>
  (zH N s33).bind fun Er =>
  (idx s33 0).bind fun b2 =>
  cond (decide ((b2.toNat : Int) = 48)) (
  (nn i6).bind fun _ =>
  (some (IntKind.i64.wrap (Er.1 - (IntKind.i64.wrap ((rE .i64 1 i6) - 1))))).bind fun Sk =>
  (pE N o p2 Ay p3 i).bind fun Gi =>
  (idx Ay i).bind fun e9 =>
  (xX Ay i (IntKind.i64.wrap (IntKind.u16.wrap (IntKind.i64.wrap (Gi + Sk))))).bind fun l7 =>
  fQ N o p2 p3 p4 kk fuel (l7, s34, x25, IntKind.i64.wrap (i + 1))) (
  (pE N o p2 Ay p3 i).bind fun Gj =>
  (idx Ay i).bind fun e10 =>
  (xX Ay i (IntKind.i64.wrap (IntKind.u16.wrap (IntKind.i64.wrap (Gj + Er.1))))).bind fun l8 =>
  fQ N o p2 p3 p4 kk fuel (l8, s34, x25, IntKind.i64.wrap (i + 1))))) N (x20, x21)) (
  (pE N o p2 Ay p3 i).bind fun HH =>
  (idx Ay i).bind fun e11 =>
  (xX Ay i (IntKind.i64.wrap (IntKind.u16.wrap (IntKind.i64.wrap (HH + 0))))).bind fun l9 =>
  fQ N o p2 p3 p4 kk fuel (l9, x20, x21, IntKind.i64.wrap (i + 1)))))) N (x3, x4, 0, 0, ([] : List UInt8))) (
  kk (Ep, x3, x4, i))
def Az (N : Nat) (d : List UInt8) (o p2 p3 : Int) (p4 : List Int) : Option (Int × Int × List Int × Int) :=
 cond (decide (o < 1)) (
 some (0, 0, ([] : List Int), 3)) (
 cond (decide (64 < o)) (
 some (0, 0, ([] : List Int), 3)) (
 cond (decide (p2 < 1)) (
 some (0, 0, ([] : List Int), 3)) (
 cond (decide (64 < p2)) (
 some (0, 0, ([] : List Int), 3)) (
 cond (decide (p3 < 1)) (
 some (0, 0, ([] : List Int), 6)) (
 cond (decide (7 < p3)) (
 some (0, 0, ([] : List Int), 6)) (
 (tV N p4).bind fun r2 =>
 cond (!decide (r2 = 0)) (
 some (0, 0, ([] : List Int), r2)) (
 fQ N o p2 p3 p4 (fun (LN, x27, x28, i8) =>
 cond (!decide (x28 = ([] : List UInt8))) (
 some (0, 0, ([] : List Int), 1)) (
 (rG N x27 ([49] : List UInt8)).bind fun Ks =>
 cond (Ks) (
 some (0, 0, ([] : List Int), 1)) (
 some (o, p2, LN, 0)))) N (([] : List Int), ([] : List UInt8), d, 0))))))))
def xB (N : Nat) (rH oM cQ dN dA : Int) (dB : List Int) (bJ : List (List UInt8)) (bB aT aU aV aW bC : Int) (aG : List (Int × Int)) (aX aY aZ aK aL aM aN aO aP aQ aR aS : Int) (aI : List (Int × Int)) (bA : Int) (s : List UInt8) (rows : Int) : Option (List Int × Int) :=
 cond (decide (dN = 0)) (
 (xA N s cQ (IntKind.i64.wrap (rH * rows))).bind fun r2 =>
 some (r2.1, r2.2)) (
 (Az N s rH rows dN dB).bind fun r3 =>
 cond (decide (r3.2.2.2 = 0)) (
 (mU N r3.2.2.1).bind fun r4 =>
 (nn cQ).bind fun _ =>
 cond (decide (0 < (dP .i64 r4 cQ))) (
 some (r3.2.2.1, 1)) (
 some (r3.2.2.1, r3.2.2.2))) (
 some (r3.2.2.1, r3.2.2.2)))
def tE (N : Nat) (p7 qS eT hZ iT : Int) (fP : List Int) (cV : List (List UInt8)) (cO cE cG cH cJ cP : Int) (bF : List (Int × Int)) (cK cL cM bQ bR bS bT bU bV bW bX bY : Int) (bG : List (Int × Int)) (cB : Int) (r3 : List (Int × Int)) (kk : (List Int × Int) → Option (Int × Int × List Int × Int)) : Nat → (List Int × Int) → Option (Int × Int × List Int × Int)
 | 0, _ => none
 | fuel + 1, (Ep, i) =>
  cond (decide (i < (cV.length : Int))) (
  (idx cV i).bind fun e3 =>
  (idx r3 i).bind fun e4 =>
  (xB N p7 qS eT hZ iT fP cV cO cE cG cH cJ cP bF cK cL cM bQ bR bS bT bU bV bW bX bY bG cB e3 e4.2).bind fun r6 =>
  cond (!decide (r6.2 = 0)) (
  some (0, 0, ([] : List Int), 1)) (
  (app 8 Ep r6.1).bind fun Ay =>
  tE N p7 qS eT hZ iT fP cV cO cE cG cH cJ cP bF cK cL cM bQ bR bS bT bU bV bW bX bY bG cB r3 kk fuel (Ay, IntKind.i64.wrap (i + 1)))) (
  kk (Ep, i))
def yG (N : Nat) (p7 qS eT hZ iT : Int) (fP : List Int) (cV : List (List UInt8)) (cO cE cG cH cJ cP : Int) (bF : List (Int × Int)) (cK cL cM bQ bR bS bT bU bV bW bX bY : Int) (bG : List (Int × Int)) (cB : Int) : Option (Int × Int × List Int × Int) :=
 (Af N p7 qS eT hZ iT fP cV cO cE cG cH cJ cP bF cK cL cM bQ bR bS bT bU bV bW bX bY bG cB).bind fun r2 =>
 cond (!decide (r2 = 0)) (
 some (0, 0, ([] : List Int), r2)) (
 (zD N p7 qS eT hZ iT fP cV cO cE cG cH cJ cP bF cK cL cM bQ bR bS bT bU bV bW bX bY bG cB).bind fun r3 =>
 cond (!decide ((cV.length : Int) = (r3.length : Int))) (
 some (0, 0, ([] : List Int), 2)) (
 (Ag N p7 qS eT hZ iT fP cV cO cE cG cH cJ cP bF cK cL cM bQ bR bS bT bU bV bW bX bY bG cB).bind fun r4 =>
 cond (!decide (r4 = 0)) (
 some (0, 0, ([] : List Int), r4)) (
 tE N p7 qS eT hZ iT fP cV cO cE cG cH cJ cP bF cK cL cM bQ bR bS bT bU bV bW bX bY bG cB r3 (fun (LN, i2) =>
 some (p7, qS, LN, 0)) N (([] : List Int), 0))))
def mW (N : Nat) (s : List UInt8) (i : Int) (kk : (List Int × Int) → Option (List UInt8)) : Nat → (List Int × Int) → Option (List UInt8)
 | 0, _ => none
 | fuel + 1, (l5, k3) =>
  cond (decide (0 ≤ k3)) (
  (idx s i).bind fun b3 =>
  (nn k3).bind fun _ =>
  (app 1 l5 (([IntKind.u8.wrap (48 + (Es .u8 (dP .u8 (b3.toNat : Int) k3) 1))] : List Int))).bind fun l7 =>
  (some (IntKind.i64.wrap (k3 - 1))).bind fun k5 =>
  mW N s i kk fuel (l7, k5)) (
  kk (l5, k3))
def lN (N : Nat) (s : List UInt8) (kk : (List Int × Int) → Option (List UInt8)) : Nat → (List Int × Int) → Option (List UInt8)
 | 0, _ => none
 | fuel + 1, (l2, i) =>
  cond (decide (i < (s.length : Int))) (
  mW N s i (fun (l8, k6) =>
  (some (IntKind.i64.wrap (i + 1))).bind fun i3 =>
  lN N s kk fuel (l8, i3)) N (l2, 7)) (
  kk (l2, i))
def o7 (N : Nat) (s : List UInt8) : Option (List UInt8) :=
 (Vo 1 (IntKind.i64.wrap (8 * (s.length : Int)))).bind fun _ =>
 lN N s (fun (l9, i4) =>
 some (toB l9)) N (([] : List Int), 0)
def lX (N : Nat) (b : List UInt8) (kk : (Int × Int) → Option Int) : Nat → (Int × Int) → Option Int
 | 0, _ => none
 | fuel + 1, (n, i) =>
  cond (decide (i < (b.length : Int))) (
  (idx b i).bind fun b3 =>
  (some (IntKind.i64.wrap ((IntKind.i64.wrap (2 * n)) + (IntKind.i64.wrap (IntKind.u8.wrap ((b3.toNat : Int) - 48)))))).bind fun n3 =>
  (some (IntKind.i64.wrap (i + 1))).bind fun i3 =>
  lX N b kk fuel (n3, i3)) (
  kk (n, i))
def mF (N : Nat) (b : List UInt8) : Option Int :=
 lX N b (fun (n4, i4) =>
 some n4) N (0, 0)
def j1 (N : Nat) (depth n : Int) (r3 : List UInt8) (kk : (List Int × Int) → Option (List Int × Int)) : Nat → (List Int × Int) → Option (List Int × Int)
 | 0, _ => none
 | fuel + 1, (l3, i2) =>
  cond (decide (i2 < n)) (
  (Dw r3 (IntKind.i64.wrap (i2 * depth)) (IntKind.i64.wrap ((IntKind.i64.wrap (i2 + 1)) * depth))).bind fun s4 =>
  (mF N s4).bind fun r6 =>
  (app 8 l3 ([r6] : List Int)).bind fun l5 =>
  (some (IntKind.i64.wrap (i2 + 1))).bind fun i4 =>
  j1 N depth n r3 kk fuel (l5, i4)) (
  kk (l3, i2))
def nS (N : Nat) (s : List UInt8) (depth n : Int) : Option (List Int × Int) :=
 (bO N depth 1 16).bind fun r2 =>
 cond (!(r2)) (
 some (([] : List Int), 3)) (
 cond (decide (n < 0)) (
 some (([] : List Int), 3)) (
 cond (decide (4096 < n)) (
 some (([] : List Int), 2)) (
 cond (!decide ((s.length : Int) = (IntKind.i64.wrap (Int.tdiv (IntKind.i64.wrap ((IntKind.i64.wrap (n * depth)) + 7)) 8)))) (
 some (([] : List Int), 1)) (
 (o7 N s).bind fun r3 =>
 j1 N depth n r3 (fun (l6, i5) =>
 (mV N l6 depth).bind fun r7 =>
 cond (!decide (r7 = s)) (
 some (([] : List Int), 1)) (
 some (l6, 0))) N (([] : List Int), 0)))))
def mX (N : Nat) (s K4 : List UInt8) : Option Bool :=
 cond (decide ((K4.length : Int) ≤ (s.length : Int))) (
 (Dw s 0 (K4.length : Int)).bind fun s2 =>
 some (decide (s2 = K4))) (
 some false)
def iR (N : Nat) (w2 : List (List UInt8)) (b : List UInt8) (kk : (Bool × Int) → Option (Int × Int)) : Nat → (Bool × Int) → Option (Int × Int)
 | 0, _ => none
 | fuel + 1, (short, i) =>
  cond (decide (i < (w2.length : Int))) (
  (idx w2 i).bind fun e4 =>
  cond (decide (e4 = ([] : List UInt8))) (
  (some (IntKind.i64.wrap (i + 1))).bind fun i5 =>
  iR N w2 b kk fuel (short, i5)) (
  (idx w2 i).bind fun e5 =>
  (mX N b e5).bind fun r4 =>
  cond (r4) (
  some (i, 0)) (
  cond (short) (
  (some (IntKind.i64.wrap (i + 1))).bind fun i6 =>
  iR N w2 b kk fuel (true, i6)) (
  (idx w2 i).bind fun e6 =>
  (mX N e6 b).bind fun r5 =>
  (some (IntKind.i64.wrap (i + 1))).bind fun i7 =>
  iR N w2 b kk fuel (r5, i7))))) (
  kk (short, i))
def pP (N : Nat) (w2 : List (List UInt8)) (b : List UInt8) : Option (Int × Int) :=
 iR N w2 b (fun (LO, i8) =>
 cond (LO) (
 some (0, 5)) (
 some (0, 4))) N (false, 0)
def eY (N : Nat) (o p2 p3 : Int) (r6 : List (List UInt8)) (kk : (List Int × List UInt8 × Int) → Option (Int × Int × List Int × Int)) : Nat → (List Int × List UInt8 × Int) → Option (Int × Int × List Int × Int)
 | 0, _ => none
 | fuel + 1, (Ep, i, i2) =>
  cond (decide (i2 < (IntKind.i64.wrap (o * p2)))) (
  (pP N r6 i).bind fun r16 =>
  cond (!decide (r16.2 = 0)) (
  some (0, 0, ([] : List Int), 1)) (
  (idx r6 r16.1).bind fun e5 =>
  (Dw i (e5.length : Int) (i.length : Int)).bind fun s5 =>
  cond (decide (r16.1 = 16)) (
  (nz o).bind fun _ =>
  (nz o).bind fun _ =>
  (iJ N o p2 Ep p3 (Int.tmod i2 o) (IntKind.i64.wrap (Int.tdiv i2 o))).bind fun BD =>
  (some (IntKind.i64.wrap (BD + 32768))).bind fun x10 =>
  (dS N x10 65536).bind fun CP =>
  (idx Ep i2).bind fun e6 =>
  (xX Ep i2 (IntKind.i64.wrap (x10 - (IntKind.i64.wrap (65536 * CP))))).bind fun l6 =>
  (some (IntKind.i64.wrap (i2 + 1))).bind fun M5 =>
  eY N o p2 p3 r6 kk fuel (l6, s5, M5)) (
  cond (decide ((s5.length : Int) < r16.1)) (
  some (0, 0, ([] : List Int), 1)) (
  (Dw s5 0 r16.1).bind fun s6 =>
  (mF N s6).bind fun Er =>
  (nn r16.1).bind fun _ =>
  cond (decide (Er < (IntKind.i64.wrap (Int.tdiv (rE .i64 1 r16.1) 2)))) (
  (nn r16.1).bind fun _ =>
  (some (IntKind.i64.wrap ((IntKind.i64.wrap (Er - (rE .i64 1 r16.1))) + 1))).bind fun Ki =>
  (Dw s5 r16.1 (s5.length : Int)).bind fun s7 =>
  (nz o).bind fun _ =>
  (nz o).bind fun _ =>
  (iJ N o p2 Ep p3 (Int.tmod i2 o) (IntKind.i64.wrap (Int.tdiv i2 o))).bind fun Gi =>
  (some (IntKind.i64.wrap (Gi + Ki))).bind fun Hy =>
  (dS N Hy 65536).bind fun Gj =>
  (idx Ep i2).bind fun e7 =>
  (xX Ep i2 (IntKind.i64.wrap (Hy - (IntKind.i64.wrap (65536 * Gj))))).bind fun l7 =>
  (some (IntKind.i64.wrap (i2 + 1))).bind fun Vw =>
  eY N o p2 p3 r6 kk fuel (l7, s7, Vw)) (
  (Dw s5 r16.1 (s5.length : Int)).bind fun s8 =>
  (nz o).bind fun _ =>
  (nz o).bind fun _ =>
  (iJ N o p2 Ep p3 (Int.tmod i2 o) (IntKind.i64.wrap (Int.tdiv i2 o))).bind fun HH =>
  (some (IntKind.i64.wrap (HH + Er))).bind fun Ve =>
  (dS N Ve 65536).bind fun Ks =>
  (idx Ep i2).bind fun e8 =>
  (xX Ep i2 (IntKind.i64.wrap (Ve - (IntKind.i64.wrap (65536 * Ks))))).bind fun l8 =>
  (some (IntKind.i64.wrap (i2 + 1))).bind fun FH =>
  eY N o p2 p3 r6 kk fuel (l8, s8, FH)))))) (
  kk (Ep, i, i2))
def nT (N : Nat) (d : List UInt8) (o p2 p3 : Int) (p4 : List Int) : Option (Int × Int × List Int × Int) :=
 (bO N o 1 64).bind fun r2 =>
 cond (!(r2)) (
 some (0, 0, ([] : List Int), 3)) (
 (bO N p2 1 64).bind fun r3 =>
 cond (!(r3)) (
 some (0, 0, ([] : List Int), 3)) (
 (bO N p3 1 7).bind fun r4 =>
 cond (!(r4)) (
 some (0, 0, ([] : List Int), 6)) (
 (iK N p4).bind fun r5 =>
 cond (!decide (r5 = 0)) (
 some (0, 0, ([] : List Int), r5)) (
 (kX N p4).bind fun r6 =>
 cond (decide (32768 < (d.length : Int))) (
 some (0, 0, ([] : List Int), 1)) (
 (o7 N d).bind fun r7 =>
 (some (IntKind.i64.wrap (o * p2))).bind fun x2 =>
 (mk 8 x2 (0 : Int)).bind fun l2 =>
 eY N o p2 p3 r6 (fun (QZ, i3, i4) =>
 (lI N o p2 QZ p3 p4).bind fun Na =>
 cond (!decide (Na.2 = 0)) (
 some (0, 0, ([] : List Int), 1)) (
 cond (!decide (Na.1 = d)) (
 some (0, 0, ([] : List Int), 1)) (
 some (o, p2, QZ, 0)))) N (l2, r7, 0))))))
def pQ (N : Nat) (rH oM cQ dN dA : Int) (dB : List Int) (bJ : List (List UInt8)) (bB aT aU aV aW bC : Int) (aG : List (Int × Int)) (aX aY aZ aK aL aM aN aO aP aQ aR aS : Int) (aI : List (Int × Int)) (bA i : Int) : Option (List Int × Bool) :=
 (rO N rH oM cQ dN dA dB bJ bB aT aU aV aW bC aG aX aY aZ aK aL aM aN aO aP aQ aR aS aI bA i).bind fun r2 =>
 cond (decide (dN = 0)) (
 (idx bJ i).bind fun e =>
 (nS N e cQ (IntKind.i64.wrap (rH * r2))).bind fun r3 =>
 some (r3.1, decide (r3.2 = 0))) (
 (idx bJ i).bind fun e2 =>
 (nT N e2 rH r2 dN dB).bind fun r4 =>
 cond (decide (r4.2.2.2 = 0)) (
 (oG N r4.2.2.1 cQ).bind fun r5 =>
 some (r4.2.2.1, r5)) (
 some (r4.2.2.1, false)))
def j3 (N : Nat) (rH oM cQ dN dA : Int) (dB : List Int) (bJ : List (List UInt8)) (bB aT aU aV aW bC : Int) (aG : List (Int × Int)) (aX aY aZ aK aL aM aN aO aP aQ aR aS : Int) (aI : List (Int × Int)) (bA : Int) (kk : (List Int × Int) → Option (Int × Int × List Int × Int)) : Nat → (List Int × Int) → Option (Int × Int × List Int × Int)
 | 0, _ => none
 | fuel + 1, (uQ, i) =>
  cond (decide (i < (bJ.length : Int))) (
  (pQ N rH oM cQ dN dA dB bJ bB aT aU aV aW bC aG aX aY aZ aK aL aM aN aO aP aQ aR aS aI bA i).bind fun r6 =>
  cond (!(r6.2)) (
  some (0, 0, ([] : List Int), 1)) (
  (app 8 uQ r6.1).bind fun Yr =>
  (some (IntKind.i64.wrap (i + 1))).bind fun i3 =>
  j3 N rH oM cQ dN dA dB bJ bB aT aU aV aW bC aG aX aY aZ aK aL aM aN aO aP aQ aR aS aI bA kk fuel (Yr, i3))) (
  kk (uQ, i))
def j5 (N : Nat) (rH oM cQ dN dA : Int) (dB : List Int) (bJ : List (List UInt8)) (bB aT aU aV aW bC : Int) (aG : List (Int × Int)) (aX aY aZ aK aL aM aN aO aP aQ aR aS : Int) (aI : List (Int × Int)) (bA : Int) : Option (Int × Int × List Int × Int) :=
 (mZ N rH oM cQ dN dA dB bJ bB aT aU aV aW bC aG aX aY aZ aK aL aM aN aO aP aQ aR aS aI bA).bind fun r2 =>
 cond (!decide (r2 = 0)) (
 some (0, 0, ([] : List Int), r2)) (
 (pN N rH oM cQ dN dA dB bJ bB aT aU aV aW bC aG aX aY aZ aK aL aM aN aO aP aQ aR aS aI bA).bind fun r3 =>
 cond (!decide ((bJ.length : Int) = r3)) (
 some (0, 0, ([] : List Int), 2)) (
 (nC N rH oM cQ dN dA dB bJ bB aT aU aV aW bC aG aX aY aZ aK aL aM aN aO aP aQ aR aS aI bA).bind fun r4 =>
 cond (!decide (r4 = 0)) (
 some (0, 0, ([] : List Int), r4)) (
 j3 N rH oM cQ dN dA dB bJ bB aT aU aV aW bC aG aX aY aZ aK aL aM aN aO aP aQ aR aS aI bA (fun (VF, i4) =>
 some (rH, oM, VF, 0)) N (([] : List Int), 0))))
def xY (N : Nat)  : Option (List Int) :=
 some (([2, 3, 3, 4, 4, 4, 5, 5, 5, 6, 6, 6, 7, 7, 7, 8, 8] : List Int))
def sE (N : Nat)  : Option (Int × Int × List Int) :=
 some (2, 2, ([10, 65535, 0, 7] : List Int))
def mQ (N : Nat)  : Option (Int × Int × Int × Int × Int × List Int × List (List UInt8) × Int × Int × Int × Int × Int × Int × List (Int × Int) × Int × Int × Int × Int × Int × Int × Int × Int × Int × Int × Int × Int × List (Int × Int) × Int) :=
 (xY N ).bind fun r2 =>
 (vS N ).bind fun r3 =>
 (sE N ).bind fun r4 =>
 (FI N 2 2 16 7 1 r2 (([] : List (List UInt8))) r3.1 r3.2.1 r3.2.2.1 r3.2.2.2.1 r3.2.2.2.2.1 r3.2.2.2.2.2.1 r3.2.2.2.2.2.2.1 r3.2.2.2.2.2.2.2.1 r3.2.2.2.2.2.2.2.2.1 r3.2.2.2.2.2.2.2.2.2.1 r3.2.2.2.2.2.2.2.2.2.2.1 r3.2.2.2.2.2.2.2.2.2.2.2.1 r3.2.2.2.2.2.2.2.2.2.2.2.2.1 r3.2.2.2.2.2.2.2.2.2.2.2.2.2.1 r3.2.2.2.2.2.2.2.2.2.2.2.2.2.2.1 r3.2.2.2.2.2.2.2.2.2.2.2.2.2.2.2.1 r3.2.2.2.2.2.2.2.2.2.2.2.2.2.2.2.2.1 r3.2.2.2.2.2.2.2.2.2.2.2.2.2.2.2.2.2.1 r3.2.2.2.2.2.2.2.2.2.2.2.2.2.2.2.2.2.2.1 r3.2.2.2.2.2.2.2.2.2.2.2.2.2.2.2.2.2.2.2.1 r3.2.2.2.2.2.2.2.2.2.2.2.2.2.2.2.2.2.2.2.2 r4.1 r4.2.1 r4.2.2).bind fun r5 =>
 some (r5.1, r5.2.1, r5.2.2.1, r5.2.2.2.1, r5.2.2.2.2.1, r5.2.2.2.2.2.1, r5.2.2.2.2.2.2.1, r5.2.2.2.2.2.2.2.1, r5.2.2.2.2.2.2.2.2.1, r5.2.2.2.2.2.2.2.2.2.1, r5.2.2.2.2.2.2.2.2.2.2.1, r5.2.2.2.2.2.2.2.2.2.2.2.1, r5.2.2.2.2.2.2.2.2.2.2.2.2.1, r5.2.2.2.2.2.2.2.2.2.2.2.2.2.1, r5.2.2.2.2.2.2.2.2.2.2.2.2.2.2.1, r5.2.2.2.2.2.2.2.2.2.2.2.2.2.2.2.1, r5.2.2.2.2.2.2.2.2.2.2.2.2.2.2.2.2.1, r5.2.2.2.2.2.2.2.2.2.2.2.2.2.2.2.2.2.1, r5.2.2.2.2.2.2.2.2.2.2.2.2.2.2.2.2.2.2.1, r5.2.2.2.2.2.2.2.2.2.2.2.2.2.2.2.2.2.2.2.1, r5.2.2.2.2.2.2.2.2.2.2.2.2.2.2.2.2.2.2.2.2.1, r5.2.2.2.2.2.2.2.2.2.2.2.2.2.2.2.2.2.2.2.2.2.1, r5.2.2.2.2.2.2.2.2.2.2.2.2.2.2.2.2.2.2.2.2.2.2.1, r5.2.2.2.2.2.2.2.2.2.2.2.2.2.2.2.2.2.2.2.2.2.2.2.1, r5.2.2.2.2.2.2.2.2.2.2.2.2.2.2.2.2.2.2.2.2.2.2.2.2.1, r5.2.2.2.2.2.2.2.2.2.2.2.2.2.2.2.2.2.2.2.2.2.2.2.2.2.1, r5.2.2.2.2.2.2.2.2.2.2.2.2.2.2.2.2.2.2.2.2.2.2.2.2.2.2.1, r5.2.2.2.2.2.2.2.2.2.2.2.2.2.2.2.2.2.2.2.2.2.2.2.2.2.2.2.1)
def sF (N : Nat) (rH oM cQ dN dA : Int) (dB : List Int) (bJ : List (List UInt8)) (bB aT aU aV aW bC : Int) (aG : List (Int × Int)) (aX aY aZ aK aL aM aN aO aP aQ aR aS : Int) (aI : List (Int × Int)) (bA : Int) : Option Int :=
 (yG N rH oM cQ dN dA dB bJ bB aT aU aV aW bC aG aX aY aZ aK aL aM aN aO aP aQ aR aS aI bA).bind fun r2 =>
 some r2.2.2.2
def jE (N : Nat) (e2 : Int) (kk : (List Int × Int) → Option (List Int)) : Nat → (List Int × Int) → Option (List Int)
 | 0, _ => none
 | fuel + 1, (yS, i5) =>
  cond (decide (0 ≤ i5)) (
  (nn (IntKind.i64.wrap (8 * i5))).bind fun _ =>
  (app 1 yS (([IntKind.u8.wrap (dP .i64 e2 (IntKind.i64.wrap (8 * i5)))] : List Int))).bind fun Ji =>
  (some (IntKind.i64.wrap (i5 - 1))).bind fun i8 =>
  jE N e2 kk fuel (Ji, i8)) (
  kk (yS, i5))
def nU (N : Nat) (l2 : List Int) (kk : (List Int × Int) → Option (List Int)) : Nat → (List Int × Int) → Option (List Int)
 | 0, _ => none
 | fuel + 1, (C8, i) =>
  cond (decide (i < (l2.length : Int))) (
  (idx l2 i).bind fun e2 =>
  jE N e2 (fun (K5, G4) =>
  nU N l2 kk fuel (K5, IntKind.i64.wrap (i + 1))) N (C8, 3)) (
  kk (C8, i))
def eU (N : Nat) (OF l2 : List Int) : Option (List Int) :=
 nU N l2 (fun (Nb, i11) =>
 some Nb) N (OF, 0)
def rK (N : Nat) (OF : List Int) (s : List UInt8) : Option (List Int) :=
 (eU N OF (([(s.length : Int)] : List Int))).bind fun r2 =>
 (app 1 r2 (sN s)).bind fun C8 =>
 some C8
def tF (N : Nat) (bG : List (Int × Int)) (kk : (List Int × Int) → Option (List UInt8 × Int)) : Nat → (List Int × Int) → Option (List UInt8 × Int)
 | 0, _ => none
 | fuel + 1, (Nc, i5) =>
  cond (decide (i5 < (bG.length : Int))) (
  (idx bG i5).bind fun e6 =>
  (eU N Nc ([e6.1, e6.2] : List Int)).bind fun CP =>
  tF N bG kk fuel (CP, IntKind.i64.wrap (i5 + 1))) (
  kk (Nc, i5))
def tG (N : Nat) (bF : List (Int × Int)) (kk : (List Int × Int) → Option (List UInt8 × Int)) : Nat → (List Int × Int) → Option (List UInt8 × Int)
 | 0, _ => none
 | fuel + 1, (Nd, i3) =>
  cond (decide (i3 < (bF.length : Int))) (
  (idx bF i3).bind fun e4 =>
  (eU N Nd ([e4.1, e4.2] : List Int)).bind fun z7 =>
  tG N bF kk fuel (z7, IntKind.i64.wrap (i3 + 1))) (
  kk (Nd, i3))
def tH (N : Nat) (cV : List (List UInt8)) (kk : (List Int × Int) → Option (List UInt8 × Int)) : Nat → (List Int × Int) → Option (List UInt8 × Int)
 | 0, _ => none
 | fuel + 1, (WQ, i) =>
  cond (decide (i < (cV.length : Int))) (
  (idx cV i).bind fun e2 =>
  (rK N WQ e2).bind fun r8 =>
  tH N cV kk fuel (r8, IntKind.i64.wrap (i + 1))) (
  kk (WQ, i))
def tS (N : Nat) (p7 qS eT hZ iT : Int) (fP : List Int) (cV : List (List UInt8)) (cO cE cG cH cJ cP : Int) (bF : List (Int × Int)) (cK cL cM bQ bR bS bT bU bV bW bX bY : Int) (bG : List (Int × Int)) (cB : Int) : Option (List UInt8 × Int) :=
 (sF N p7 qS eT hZ iT fP cV cO cE cG cH cJ cP bF cK cL cM bQ bR bS bT bU bV bW bX bY bG cB).bind fun r2 =>
 cond (!decide (r2 = 0)) (
 some (([] : List UInt8), r2)) (
 (rK N ([] : List Int) ([100, 97, 114, 107] : List UInt8)).bind fun r3 =>
 (eU N r3 (([p7, qS, eT, hZ, iT, (fP.length : Int)] : List Int))).bind fun r4 =>
 (eU N r4 fP).bind fun r5 =>
 (eU N r5 (([(cV.length : Int)] : List Int))).bind fun r6 =>
 tH N cV (fun (aAI, i2) =>
 (eU N aAI ([cO] : List Int)).bind fun r9 =>
 (eU N r9 ([cE, cG, cH, cJ])).bind fun GP =>
 (eU N GP (([cP, (bF.length : Int)] : List Int))).bind fun Eo =>
 tG N bF (fun (aAJ, i4) =>
 (eU N aAJ ([cK, cL, cM])).bind fun F5 =>
 (eU N F5 ([bQ, bR, bS, bT, bU, bV, bW, bX, bY])).bind fun GO =>
 (eU N GO (([(bG.length : Int)] : List Int))).bind fun r16 =>
 tF N bG (fun (aAK, i6) =>
 (eU N aAK ([cB] : List Int)).bind fun Er =>
 some (toB Er, 0)) N (r16, 0)) N (Eo, 0)) N (r6, 0))
def iX (N : Nat) (MO : List UInt8) (n : Int) : Option (Option (List UInt8 × List UInt8)) :=
 cond (decide (n < 0)) (
 some none) (
 cond (decide ((MO.length : Int) < n)) (
 some none) (
 (Dw MO 0 n).bind fun s =>
 (Dw MO n (MO.length : Int)).bind fun s2 =>
 some (some (s, s2))))
def jT (N : Nat) (r2 : List UInt8 × List UInt8) (kk : (Int × Int) → Option (Option (Int × List UInt8))) : Nat → (Int × Int) → Option (Option (Int × List UInt8))
 | 0, _ => none
 | fuel + 1, (n, i) =>
  cond (decide (i < (((sN r2.1).length : Int)))) (
  (idx (sN r2.1) i).bind fun e2 =>
  (some (KT .i64 (rE .i64 n 8) (IntKind.i64.wrap e2))).bind fun n3 =>
  jT N r2 kk fuel (n3, IntKind.i64.wrap (i + 1))) (
  kk (n, i))
def bD (N : Nat) (MO : List UInt8) : Option (Option (Int × List UInt8)) :=
 (iX N MO 4).bind fun q => BL q (
 some none) fun r2 =>
 jT N r2 (fun (n4, i2) =>
 some (some (IntKind.i64.wrap (IntKind.i32.wrap n4), r2.2))) N (0, 0)
def sP (N : Nat) (K6 : Int × List UInt8) (kk : (List (Int × Int) × List UInt8 × Int) → Option (Int × Int × Int × Int × Int × List Int × List (List UInt8) × Int × Int × Int × Int × Int × Int × List (Int × Int) × Int × Int × Int × Int × Int × Int × Int × Int × Int × Int × Int × Int × List (Int × Int) × Int × Int)) : Nat → (List (Int × Int) × List UInt8 × Int) → Option (Int × Int × Int × Int × Int × List Int × List (List UInt8) × Int × Int × Int × Int × Int × Int × List (Int × Int) × Int × Int × Int × Int × Int × Int × Int × Int × Int × Int × Int × Int × List (Int × Int) × Int × Int)
 | 0, _ => none
 | fuel + 1, (l8, K7, i7) =>
  cond (decide (i7 < K6.1)) (
  (bD N K7).bind fun q45 => BL q45 (
  some (0, 0, 0, 0, 0, ([] : List Int), ([] : List (List UInt8)), 0, 0, 0, 0, 0, 0, ([] : List (Int × Int)), 0, 0, 0, 0, 0, 0, 0, 0, 0, 0, 0, 0, ([] : List (Int × Int)), 0, 1)) fun LP =>
  (bD N LP.2).bind fun q46 => BL q46 (
  some (0, 0, 0, 0, 0, ([] : List Int), ([] : List (List UInt8)), 0, 0, 0, 0, 0, 0, ([] : List (Int × Int)), 0, 0, 0, 0, 0, 0, 0, 0, 0, 0, 0, 0, ([] : List (Int × Int)), 0, 1)) fun Vg =>
  (app 16 l8 (([(LP.1, Vg.1)] : List (Int × Int)))).bind fun CQ =>
  sP N K6 kk fuel (CQ, Vg.2, IntKind.i64.wrap (i7 + 1))) (
  kk (l8, K7, i7))
def sQ (N : Nat) (Ks : Int × List UInt8) (kk : (List (Int × Int) × List UInt8 × Int) → Option (Int × Int × Int × Int × Int × List Int × List (List UInt8) × Int × Int × Int × Int × Int × Int × List (Int × Int) × Int × Int × Int × Int × Int × Int × Int × Int × Int × Int × Int × Int × List (Int × Int) × Int × Int)) : Nat → (List (Int × Int) × List UInt8 × Int) → Option (Int × Int × Int × Int × Int × List Int × List (List UInt8) × Int × Int × Int × Int × Int × Int × List (Int × Int) × Int × Int × Int × Int × Int × Int × Int × Int × Int × Int × Int × Int × List (Int × Int) × Int × Int)
 | 0, _ => none
 | fuel + 1, (l6, Q4, i5) =>
  cond (decide (i5 < Ks.1)) (
  (bD N Q4).bind fun q26 => BL q26 (
  some (0, 0, 0, 0, 0, ([] : List Int), ([] : List (List UInt8)), 0, 0, 0, 0, 0, 0, ([] : List (Int × Int)), 0, 0, 0, 0, 0, 0, 0, 0, 0, 0, 0, 0, ([] : List (Int × Int)), 0, 1)) fun GQ =>
  (bD N GQ.2).bind fun Ys => BL Ys (
  some (0, 0, 0, 0, 0, ([] : List Int), ([] : List (List UInt8)), 0, 0, 0, 0, 0, 0, ([] : List (Int × Int)), 0, 0, 0, 0, 0, 0, 0, 0, 0, 0, 0, 0, ([] : List (Int × Int)), 0, 1)) fun Ii =>
  (app 16 l6 (([(GQ.1, Ii.1)] : List (Int × Int)))).bind fun CR =>
  sQ N Ks kk fuel (CR, Ii.2, IntKind.i64.wrap (i5 + 1))) (
  kk (l6, Q4, i5))
def sR (N : Nat) (vG : Int × List UInt8) (kk : (List (List UInt8) × List UInt8 × Int) → Option (Int × Int × Int × Int × Int × List Int × List (List UInt8) × Int × Int × Int × Int × Int × Int × List (Int × Int) × Int × Int × Int × Int × Int × Int × Int × Int × Int × Int × Int × Int × List (Int × Int) × Int × Int)) : Nat → (List (List UInt8) × List UInt8 × Int) → Option (Int × Int × Int × Int × Int × List Int × List (List UInt8) × Int × Int × Int × Int × Int × Int × List (Int × Int) × Int × Int × Int × Int × Int × Int × Int × Int × Int × Int × Int × Int × List (Int × Int) × Int × Int)
 | 0, _ => none
 | fuel + 1, (l4, Q5, i3) =>
  cond (decide (i3 < vG.1)) (
  (bD N Q5).bind fun q14 => BL q14 (
  some (0, 0, 0, 0, 0, ([] : List Int), ([] : List (List UInt8)), 0, 0, 0, 0, 0, 0, ([] : List (Int × Int)), 0, 0, 0, 0, 0, 0, 0, 0, 0, 0, 0, 0, ([] : List (Int × Int)), 0, 1)) fun GO =>
  (iX N GO.2 GO.1).bind fun q15 => BL q15 (
  some (0, 0, 0, 0, 0, ([] : List Int), ([] : List (List UInt8)), 0, 0, 0, 0, 0, 0, ([] : List (Int × Int)), 0, 0, 0, 0, 0, 0, 0, 0, 0, 0, 0, 0, ([] : List (Int × Int)), 0, 1)) fun r16 =>
  (app 16 l4 (([r16.1] : List (List UInt8)))).bind fun G6 =>
  sR N vG kk fuel (G6, r16.2, IntKind.i64.wrap (i3 + 1))) (
  kk (l4, Q5, i3))
def sS (N : Nat) (r9 : Int × List UInt8) (kk : (List Int × List UInt8 × Int) → Option (Int × Int × Int × Int × Int × List Int × List (List UInt8) × Int × Int × Int × Int × Int × Int × List (Int × Int) × Int × Int × Int × Int × Int × Int × Int × Int × Int × Int × Int × Int × List (Int × Int) × Int × Int)) : Nat → (List Int × List UInt8 × Int) → Option (Int × Int × Int × Int × Int × List Int × List (List UInt8) × Int × Int × Int × Int × Int × Int × List (Int × Int) × Int × Int × Int × Int × Int × Int × Int × Int × Int × Int × Int × Int × List (Int × Int) × Int × Int)
 | 0, _ => none
 | fuel + 1, (l2, Q6, i) =>
  cond (decide (i < r9.1)) (
  (bD N Q6).bind fun q10 => BL q10 (
  some (0, 0, 0, 0, 0, ([] : List Int), ([] : List (List UInt8)), 0, 0, 0, 0, 0, 0, ([] : List (Int × Int)), 0, 0, 0, 0, 0, 0, 0, 0, 0, 0, 0, 0, ([] : List (Int × Int)), 0, 1)) fun Eo =>
  (app 8 l2 ([Eo.1] : List Int)).bind fun LQ =>
  sS N r9 kk fuel (LQ, Eo.2, IntKind.i64.wrap (i + 1))) (
  kk (l2, Q6, i))
def tY (N : Nat) (d : List UInt8) : Option (Int × Int × Int × Int × Int × List Int × List (List UInt8) × Int × Int × Int × Int × Int × Int × List (Int × Int) × Int × Int × Int × Int × Int × Int × Int × Int × Int × Int × Int × Int × List (Int × Int) × Int × Int) :=
 (bD N d).bind fun q => BL q (
 some (0, 0, 0, 0, 0, ([] : List Int), ([] : List (List UInt8)), 0, 0, 0, 0, 0, 0, ([] : List (Int × Int)), 0, 0, 0, 0, 0, 0, 0, 0, 0, 0, 0, 0, ([] : List (Int × Int)), 0, 1)) fun r2 =>
 (iX N r2.2 r2.1).bind fun q2 => BL q2 (
 some (0, 0, 0, 0, 0, ([] : List Int), ([] : List (List UInt8)), 0, 0, 0, 0, 0, 0, ([] : List (Int × Int)), 0, 0, 0, 0, 0, 0, 0, 0, 0, 0, 0, 0, ([] : List (Int × Int)), 0, 1)) fun r3 =>
 cond (!decide (r3.1 = ([100, 97, 114, 107] : List UInt8))) (
 some (0, 0, 0, 0, 0, ([] : List Int), ([] : List (List UInt8)), 0, 0, 0, 0, 0, 0, ([] : List (Int × Int)), 0, 0, 0, 0, 0, 0, 0, 0, 0, 0, 0, 0, ([] : List (Int × Int)), 0, 1)) (
 (bD N r3.2).bind fun q3 => BL q3 (
 some (0, 0, 0, 0, 0, ([] : List Int), ([] : List (List UInt8)), 0, 0, 0, 0, 0, 0, ([] : List (Int × Int)), 0, 0, 0, 0, 0, 0, 0, 0, 0, 0, 0, 0, ([] : List (Int × Int)), 0, 1)) fun r4 =>
 (bD N r4.2).bind fun q4 => BL q4 (
 some (0, 0, 0, 0, 0, ([] : List Int), ([] : List (List UInt8)), 0, 0, 0, 0, 0, 0, ([] : List (Int × Int)), 0, 0, 0, 0, 0, 0, 0, 0, 0, 0, 0, 0, ([] : List (Int × Int)), 0, 1)) fun r5 =>
 (bD N r5.2).bind fun q5 => BL q5 (
 some (0, 0, 0, 0, 0, ([] : List Int), ([] : List (List UInt8)), 0, 0, 0, 0, 0, 0, ([] : List (Int × Int)), 0, 0, 0, 0, 0, 0, 0, 0, 0, 0, 0, 0, ([] : List (Int × Int)), 0, 1)) fun r6 =>
 (bD N r6.2).bind fun q6 => BL q6 (
 some (0, 0, 0, 0, 0, ([] : List Int), ([] : List (List UInt8)), 0, 0, 0, 0, 0, 0, ([] : List (Int × Int)), 0, 0, 0, 0, 0, 0, 0, 0, 0, 0, 0, 0, ([] : List (Int × Int)), 0, 1)) fun r7 =>
 (bD N r7.2).bind fun q7 => BL q7 (
 some (0, 0, 0, 0, 0, ([] : List Int), ([] : List (List UInt8)), 0, 0, 0, 0, 0, 0, ([] : List (Int × Int)), 0, 0, 0, 0, 0, 0, 0, 0, 0, 0, 0, 0, ([] : List (Int × Int)), 0, 1)) fun r8 =>
 (bD N r8.2).bind fun q8 => BL q8 (
 some (0, 0, 0, 0, 0, ([] : List Int), ([] : List (List UInt8)), 0, 0, 0, 0, 0, 0, ([] : List (Int × Int)), 0, 0, 0, 0, 0, 0, 0, 0, 0, 0, 0, 0, ([] : List (Int × Int)), 0, 1)) fun r9 =>
 cond (decide (r9.1 < 0)) (
 some (0, 0, 0, 0, 0, ([] : List Int), ([] : List (List UInt8)), 0, 0, 0, 0, 0, 0, ([] : List (Int × Int)), 0, 0, 0, 0, 0, 0, 0, 0, 0, 0, 0, 0, ([] : List (Int × Int)), 0, 1)) (
 cond (decide ((r9.2.length : Int) < r9.1)) (
 some (0, 0, 0, 0, 0, ([] : List Int), ([] : List (List UInt8)), 0, 0, 0, 0, 0, 0, ([] : List (Int × Int)), 0, 0, 0, 0, 0, 0, 0, 0, 0, 0, 0, 0, ([] : List (Int × Int)), 0, 1)) (
 sS N r9 (fun (l3, aAL, i2) =>
 (bD N aAL).bind fun q11 => BL q11 (
 some (0, 0, 0, 0, 0, ([] : List Int), ([] : List (List UInt8)), 0, 0, 0, 0, 0, 0, ([] : List (Int × Int)), 0, 0, 0, 0, 0, 0, 0, 0, 0, 0, 0, 0, ([] : List (Int × Int)), 0, 1)) fun vG =>
 cond (decide (vG.1 < 0)) (
 some (0, 0, 0, 0, 0, ([] : List Int), ([] : List (List UInt8)), 0, 0, 0, 0, 0, 0, ([] : List (Int × Int)), 0, 0, 0, 0, 0, 0, 0, 0, 0, 0, 0, 0, ([] : List (Int × Int)), 0, 1)) (
 cond (decide ((vG.2.length : Int) < vG.1)) (
 some (0, 0, 0, 0, 0, ([] : List Int), ([] : List (List UInt8)), 0, 0, 0, 0, 0, 0, ([] : List (Int × Int)), 0, 0, 0, 0, 0, 0, 0, 0, 0, 0, 0, 0, ([] : List (Int × Int)), 0, 1)) (
 sR N vG (fun (l5, aAM, i4) =>
 (bD N aAM).bind fun q16 => BL q16 (
 some (0, 0, 0, 0, 0, ([] : List Int), ([] : List (List UInt8)), 0, 0, 0, 0, 0, 0, ([] : List (Int × Int)), 0, 0, 0, 0, 0, 0, 0, 0, 0, 0, 0, 0, ([] : List (Int × Int)), 0, 1)) fun BD =>
 (bD N BD.2).bind fun q17 => BL q17 (
 some (0, 0, 0, 0, 0, ([] : List Int), ([] : List (List UInt8)), 0, 0, 0, 0, 0, 0, ([] : List (Int × Int)), 0, 0, 0, 0, 0, 0, 0, 0, 0, 0, 0, 0, ([] : List (Int × Int)), 0, 1)) fun CP =>
 (bD N CP.2).bind fun q18 => BL q18 (
 some (0, 0, 0, 0, 0, ([] : List Int), ([] : List (List UInt8)), 0, 0, 0, 0, 0, 0, ([] : List (Int × Int)), 0, 0, 0, 0, 0, 0, 0, 0, 0, 0, 0, 0, ([] : List (Int × Int)), 0, 1)) fun Er =>
 (bD N Er.2).bind fun q19 => BL q19 (
 some (0, 0, 0, 0, 0, ([] : List Int), ([] : List (List UInt8)), 0, 0, 0, 0, 0, 0, ([] : List (Int × Int)), 0, 0, 0, 0, 0, 0, 0, 0, 0, 0, 0, 0, ([] : List (Int × Int)), 0, 1)) fun Gi =>
 (bD N Gi.2).bind fun q20 => BL q20 (
 some (0, 0, 0, 0, 0, ([] : List Int), ([] : List (List UInt8)), 0, 0, 0, 0, 0, 0, ([] : List (Int × Int)), 0, 0, 0, 0, 0, 0, 0, 0, 0, 0, 0, 0, ([] : List (Int × Int)), 0, 1)) fun Gj =>
 (bD N Gj.2).bind fun q21 => BL q21 (
 some (0, 0, 0, 0, 0, ([] : List Int), ([] : List (List UInt8)), 0, 0, 0, 0, 0, 0, ([] : List (Int × Int)), 0, 0, 0, 0, 0, 0, 0, 0, 0, 0, 0, 0, ([] : List (Int × Int)), 0, 1)) fun HH =>
 (bD N HH.2).bind fun q22 => BL q22 (
 some (0, 0, 0, 0, 0, ([] : List Int), ([] : List (List UInt8)), 0, 0, 0, 0, 0, 0, ([] : List (Int × Int)), 0, 0, 0, 0, 0, 0, 0, 0, 0, 0, 0, 0, ([] : List (Int × Int)), 0, 1)) fun Ks =>
 cond (decide (Ks.1 < 0)) (
 some (0, 0, 0, 0, 0, ([] : List Int), ([] : List (List UInt8)), 0, 0, 0, 0, 0, 0, ([] : List (Int × Int)), 0, 0, 0, 0, 0, 0, 0, 0, 0, 0, 0, 0, ([] : List (Int × Int)), 0, 1)) (
 cond (decide ((Ks.2.length : Int) < Ks.1)) (
 some (0, 0, 0, 0, 0, ([] : List Int), ([] : List (List UInt8)), 0, 0, 0, 0, 0, 0, ([] : List (Int × Int)), 0, 0, 0, 0, 0, 0, 0, 0, 0, 0, 0, 0, ([] : List (Int × Int)), 0, 1)) (
 sQ N Ks (fun (l7, aAN, i6) =>
 (bD N aAN).bind fun q29 => BL q29 (
 some (0, 0, 0, 0, 0, ([] : List Int), ([] : List (List UInt8)), 0, 0, 0, 0, 0, 0, ([] : List (Int × Int)), 0, 0, 0, 0, 0, 0, 0, 0, 0, 0, 0, 0, ([] : List (Int × Int)), 0, 1)) fun DH =>
 (bD N DH.2).bind fun q30 => BL q30 (
 some (0, 0, 0, 0, 0, ([] : List Int), ([] : List (List UInt8)), 0, 0, 0, 0, 0, 0, ([] : List (Int × Int)), 0, 0, 0, 0, 0, 0, 0, 0, 0, 0, 0, 0, ([] : List (Int × Int)), 0, 1)) fun MP =>
 (bD N MP.2).bind fun q31 => BL q31 (
 some (0, 0, 0, 0, 0, ([] : List Int), ([] : List (List UInt8)), 0, 0, 0, 0, 0, 0, ([] : List (Int × Int)), 0, 0, 0, 0, 0, 0, 0, 0, 0, 0, 0, 0, ([] : List (Int × Int)), 0, 1)) fun r32 =>
 (bD N r32.2).bind fun q32 => BL q32 (
 some (0, 0, 0, 0, 0, ([] : List Int), ([] : List (List UInt8)), 0, 0, 0, 0, 0, 0, ([] : List (Int × Int)), 0, 0, 0, 0, 0, 0, 0, 0, 0, 0, 0, 0, ([] : List (Int × Int)), 0, 1)) fun Kt =>
 (bD N Kt.2).bind fun q33 => BL q33 (
 some (0, 0, 0, 0, 0, ([] : List Int), ([] : List (List UInt8)), 0, 0, 0, 0, 0, 0, ([] : List (Int × Int)), 0, 0, 0, 0, 0, 0, 0, 0, 0, 0, 0, 0, ([] : List (Int × Int)), 0, 1)) fun O0 =>
 (bD N O0.2).bind fun q34 => BL q34 (
 some (0, 0, 0, 0, 0, ([] : List Int), ([] : List (List UInt8)), 0, 0, 0, 0, 0, 0, ([] : List (Int × Int)), 0, 0, 0, 0, 0, 0, 0, 0, 0, 0, 0, 0, ([] : List (Int × Int)), 0, 1)) fun PX =>
 (bD N PX.2).bind fun q35 => BL q35 (
 some (0, 0, 0, 0, 0, ([] : List Int), ([] : List (List UInt8)), 0, 0, 0, 0, 0, 0, ([] : List (Int × Int)), 0, 0, 0, 0, 0, 0, 0, 0, 0, 0, 0, 0, ([] : List (Int × Int)), 0, 1)) fun Q7 =>
 (bD N Q7.2).bind fun q36 => BL q36 (
 some (0, 0, 0, 0, 0, ([] : List Int), ([] : List (List UInt8)), 0, 0, 0, 0, 0, 0, ([] : List (Int × Int)), 0, 0, 0, 0, 0, 0, 0, 0, 0, 0, 0, 0, ([] : List (Int × Int)), 0, 1)) fun So =>
 (bD N So.2).bind fun q37 => BL q37 (
 some (0, 0, 0, 0, 0, ([] : List Int), ([] : List (List UInt8)), 0, 0, 0, 0, 0, 0, ([] : List (Int × Int)), 0, 0, 0, 0, 0, 0, 0, 0, 0, 0, 0, 0, ([] : List (Int × Int)), 0, 1)) fun Te =>
 (bD N Te.2).bind fun q38 => BL q38 (
 some (0, 0, 0, 0, 0, ([] : List Int), ([] : List (List UInt8)), 0, 0, 0, 0, 0, 0, ([] : List (Int × Int)), 0, 0, 0, 0, 0, 0, 0, 0, 0, 0, 0, 0, ([] : List (Int × Int)), 0, 1)) fun Ku =>
 (bD N Ku.2).bind fun q39 => BL q39 (
 some (0, 0, 0, 0, 0, ([] : List Int), ([] : List (List UInt8)), 0, 0, 0, 0, 0, 0, ([] : List (Int × Int)), 0, 0, 0, 0, 0, 0, 0, 0, 0, 0, 0, 0, ([] : List (Int × Int)), 0, 1)) fun Kj =>
 (bD N Kj.2).bind fun q40 => BL q40 (
 some (0, 0, 0, 0, 0, ([] : List Int), ([] : List (List UInt8)), 0, 0, 0, 0, 0, 0, ([] : List (Int × Int)), 0, 0, 0, 0, 0, 0, 0, 0, 0, 0, 0, 0, ([] : List (Int × Int)), 0, 1)) fun Ij =>
 (bD N Ij.2).bind fun q41 => BL q41 (
 some (0, 0, 0, 0, 0, ([] : List Int), ([] : List (List UInt8)), 0, 0, 0, 0, 0, 0, ([] : List (Int × Int)), 0, 0, 0, 0, 0, 0, 0, 0, 0, 0, 0, 0, ([] : List (Int × Int)), 0, 1)) fun K6 =>
 cond (decide (K6.1 < 0)) (
 some (0, 0, 0, 0, 0, ([] : List Int), ([] : List (List UInt8)), 0, 0, 0, 0, 0, 0, ([] : List (Int × Int)), 0, 0, 0, 0, 0, 0, 0, 0, 0, 0, 0, 0, ([] : List (Int × Int)), 0, 1)) (
 cond (decide ((K6.2.length : Int) < K6.1)) (
 some (0, 0, 0, 0, 0, ([] : List Int), ([] : List (List UInt8)), 0, 0, 0, 0, 0, 0, ([] : List (Int × Int)), 0, 0, 0, 0, 0, 0, 0, 0, 0, 0, 0, 0, ([] : List (Int × Int)), 0, 1)) (
 sP N K6 (fun (l9, WR, i8) =>
 (bD N WR).bind fun q48 => BL q48 (
 some (0, 0, 0, 0, 0, ([] : List Int), ([] : List (List UInt8)), 0, 0, 0, 0, 0, 0, ([] : List (Int × Int)), 0, 0, 0, 0, 0, 0, 0, 0, 0, 0, 0, 0, ([] : List (Int × Int)), 0, 1)) fun ZO =>
 cond (!decide (ZO.2 = ([] : List UInt8))) (
 some (0, 0, 0, 0, 0, ([] : List Int), ([] : List (List UInt8)), 0, 0, 0, 0, 0, 0, ([] : List (Int × Int)), 0, 0, 0, 0, 0, 0, 0, 0, 0, 0, 0, 0, ([] : List (Int × Int)), 0, 1)) (
 (sF N r4.1 r5.1 r6.1 r7.1 r8.1 l3 l5 BD.1 CP.1 Er.1 Gi.1 Gj.1 HH.1 l7 DH.1 MP.1 r32.1 Kt.1 O0.1 PX.1 Q7.1 So.1 Te.1 Ku.1 Kj.1 Ij.1 l9 ZO.1).bind fun r50 =>
 cond (!decide (r50 = 0)) (
 some (0, 0, 0, 0, 0, ([] : List Int), ([] : List (List UInt8)), 0, 0, 0, 0, 0, 0, ([] : List (Int × Int)), 0, 0, 0, 0, 0, 0, 0, 0, 0, 0, 0, 0, ([] : List (Int × Int)), 0, 1)) (
 some (r4.1, r5.1, r6.1, r7.1, r8.1, l3, l5, BD.1, CP.1, Er.1, Gi.1, Gj.1, HH.1, l7, DH.1, MP.1, r32.1, Kt.1, O0.1, PX.1, Q7.1, So.1, Te.1, Ku.1, Kj.1, Ij.1, l9, ZO.1, 0)))) N (([] : List (Int × Int)), K6.2, 0)))) N (([] : List (Int × Int)), Ks.2, 0)))) N (([] : List (List UInt8)), vG.2, 0)))) N (([] : List Int), r9.2, 0))))
def rT (N : Nat) (a_W a_H : Int) (ZP : List Int) (b_W b_H : Int) (ZQ : List Int) : Option Bool :=
 cond (decide (a_W = b_W)) (
 cond (decide (a_H = b_H)) (
 (lV N ZP ZQ).bind fun r2 =>
 some r2) (
 some false)) (
 some false)
def p9 (N : Nat)  : Option Bool :=
 (mQ N ).bind fun r2 =>
 (yG N r2.1 r2.2.1 r2.2.2.1 r2.2.2.2.1 r2.2.2.2.2.1 r2.2.2.2.2.2.1 r2.2.2.2.2.2.2.1 r2.2.2.2.2.2.2.2.1 r2.2.2.2.2.2.2.2.2.1 r2.2.2.2.2.2.2.2.2.2.1 r2.2.2.2.2.2.2.2.2.2.2.1 r2.2.2.2.2.2.2.2.2.2.2.2.1 r2.2.2.2.2.2.2.2.2.2.2.2.2.1 r2.2.2.2.2.2.2.2.2.2.2.2.2.2.1 r2.2.2.2.2.2.2.2.2.2.2.2.2.2.2.1 r2.2.2.2.2.2.2.2.2.2.2.2.2.2.2.2.1 r2.2.2.2.2.2.2.2.2.2.2.2.2.2.2.2.2.1 r2.2.2.2.2.2.2.2.2.2.2.2.2.2.2.2.2.2.1 r2.2.2.2.2.2.2.2.2.2.2.2.2.2.2.2.2.2.2.1 r2.2.2.2.2.2.2.2.2.2.2.2.2.2.2.2.2.2.2.2.1 r2.2.2.2.2.2.2.2.2.2.2.2.2.2.2.2.2.2.2.2.2.1 r2.2.2.2.2.2.2.2.2.2.2.2.2.2.2.2.2.2.2.2.2.2.1 r2.2.2.2.2.2.2.2.2.2.2.2.2.2.2.2.2.2.2.2.2.2.2.1 r2.2.2.2.2.2.2.2.2.2.2.2.2.2.2.2.2.2.2.2.2.2.2.2.1 r2.2.2.2.2.2.2.2.2.2.2.2.2.2.2.2.2.2.2.2.2.2.2.2.2.1 r2.2.2.2.2.2.2.2.2.2.2.2.2.2.2.2.2.2.2.2.2.2.2.2.2.2.1 r2.2.2.2.2.2.2.2.2.2.2.2.2.2.2.2.2.2.2.2.2.2.2.2.2.2.2.1 r2.2.2.2.2.2.2.2.2.2.2.2.2.2.2.2.2.2.2.2.2.2.2.2.2.2.2.2).bind fun r3 =>
 (mQ N ).bind fun r4 =>
 (tS N r4.1 r4.2.1 r4.2.2.1 r4.2.2.2.1 r4.2.2.2.2.1 r4.2.2.2.2.2.1 r4.2.2.2.2.2.2.1 r4.2.2.2.2.2.2.2.1 r4.2.2.2.2.2.2.2.2.1 r4.2.2.2.2.2.2.2.2.2.1 r4.2.2.2.2.2.2.2.2.2.2.1 r4.2.2.2.2.2.2.2.2.2.2.2.1 r4.2.2.2.2.2.2.2.2.2.2.2.2.1 r4.2.2.2.2.2.2.2.2.2.2.2.2.2.1 r4.2.2.2.2.2.2.2.2.2.2.2.2.2.2.1 r4.2.2.2.2.2.2.2.2.2.2.2.2.2.2.2.1 r4.2.2.2.2.2.2.2.2.2.2.2.2.2.2.2.2.1 r4.2.2.2.2.2.2.2.2.2.2.2.2.2.2.2.2.2.1 r4.2.2.2.2.2.2.2.2.2.2.2.2.2.2.2.2.2.2.1 r4.2.2.2.2.2.2.2.2.2.2.2.2.2.2.2.2.2.2.2.1 r4.2.2.2.2.2.2.2.2.2.2.2.2.2.2.2.2.2.2.2.2.1 r4.2.2.2.2.2.2.2.2.2.2.2.2.2.2.2.2.2.2.2.2.2.1 r4.2.2.2.2.2.2.2.2.2.2.2.2.2.2.2.2.2.2.2.2.2.2.1 r4.2.2.2.2.2.2.2.2.2.2.2.2.2.2.2.2.2.2.2.2.2.2.2.1 r4.2.2.2.2.2.2.2.2.2.2.2.2.2.2.2.2.2.2.2.2.2.2.2.2.1 r4.2.2.2.2.2.2.2.2.2.2.2.2.2.2.2.2.2.2.2.2.2.2.2.2.2.1 r4.2.2.2.2.2.2.2.2.2.2.2.2.2.2.2.2.2.2.2.2.2.2.2.2.2.2.1 r4.2.2.2.2.2.2.2.2.2.2.2.2.2.2.2.2.2.2.2.2.2.2.2.2.2.2.2).bind fun r5 =>
 (tY N r5.1).bind fun r6 =>
 cond (decide (r3.2.2.2 = 0)) (
 cond (decide (r5.2 = 0)) (
 cond (decide (r6.2.2.2.2.2.2.2.2.2.2.2.2.2.2.2.2.2.2.2.2.2.2.2.2.2.2.2.2 = 0)) (
 (mQ N ).bind fun r7 =>
 (sF N r7.1 r7.2.1 r7.2.2.1 r7.2.2.2.1 r7.2.2.2.2.1 r7.2.2.2.2.2.1 r7.2.2.2.2.2.2.1 r7.2.2.2.2.2.2.2.1 r7.2.2.2.2.2.2.2.2.1 r7.2.2.2.2.2.2.2.2.2.1 r7.2.2.2.2.2.2.2.2.2.2.1 r7.2.2.2.2.2.2.2.2.2.2.2.1 r7.2.2.2.2.2.2.2.2.2.2.2.2.1 r7.2.2.2.2.2.2.2.2.2.2.2.2.2.1 r7.2.2.2.2.2.2.2.2.2.2.2.2.2.2.1 r7.2.2.2.2.2.2.2.2.2.2.2.2.2.2.2.1 r7.2.2.2.2.2.2.2.2.2.2.2.2.2.2.2.2.1 r7.2.2.2.2.2.2.2.2.2.2.2.2.2.2.2.2.2.1 r7.2.2.2.2.2.2.2.2.2.2.2.2.2.2.2.2.2.2.1 r7.2.2.2.2.2.2.2.2.2.2.2.2.2.2.2.2.2.2.2.1 r7.2.2.2.2.2.2.2.2.2.2.2.2.2.2.2.2.2.2.2.2.1 r7.2.2.2.2.2.2.2.2.2.2.2.2.2.2.2.2.2.2.2.2.2.1 r7.2.2.2.2.2.2.2.2.2.2.2.2.2.2.2.2.2.2.2.2.2.2.1 r7.2.2.2.2.2.2.2.2.2.2.2.2.2.2.2.2.2.2.2.2.2.2.2.1 r7.2.2.2.2.2.2.2.2.2.2.2.2.2.2.2.2.2.2.2.2.2.2.2.2.1 r7.2.2.2.2.2.2.2.2.2.2.2.2.2.2.2.2.2.2.2.2.2.2.2.2.2.1 r7.2.2.2.2.2.2.2.2.2.2.2.2.2.2.2.2.2.2.2.2.2.2.2.2.2.2.1 r7.2.2.2.2.2.2.2.2.2.2.2.2.2.2.2.2.2.2.2.2.2.2.2.2.2.2.2).bind fun r8 =>
 cond (decide (r8 = 0)) (
 (mQ N ).bind fun r9 =>
 cond (decide ((r9.2.2.2.2.2.2.1.length : Int) = 2)) (
 (sE N ).bind fun GP =>
 (rT N r3.1 r3.2.1 r3.2.2.1 GP.1 GP.2.1 GP.2.2).bind fun Eo =>
 cond (Eo) (
 (mQ N ).bind fun vG =>
 (lW N r6.1 r6.2.1 r6.2.2.1 r6.2.2.2.1 r6.2.2.2.2.1 r6.2.2.2.2.2.1 r6.2.2.2.2.2.2.1 r6.2.2.2.2.2.2.2.1 r6.2.2.2.2.2.2.2.2.1 r6.2.2.2.2.2.2.2.2.2.1 r6.2.2.2.2.2.2.2.2.2.2.1 r6.2.2.2.2.2.2.2.2.2.2.2.1 r6.2.2.2.2.2.2.2.2.2.2.2.2.1 r6.2.2.2.2.2.2.2.2.2.2.2.2.2.1 r6.2.2.2.2.2.2.2.2.2.2.2.2.2.2.1 r6.2.2.2.2.2.2.2.2.2.2.2.2.2.2.2.1 r6.2.2.2.2.2.2.2.2.2.2.2.2.2.2.2.2.1 r6.2.2.2.2.2.2.2.2.2.2.2.2.2.2.2.2.2.1 r6.2.2.2.2.2.2.2.2.2.2.2.2.2.2.2.2.2.2.1 r6.2.2.2.2.2.2.2.2.2.2.2.2.2.2.2.2.2.2.2.1 r6.2.2.2.2.2.2.2.2.2.2.2.2.2.2.2.2.2.2.2.2.1 r6.2.2.2.2.2.2.2.2.2.2.2.2.2.2.2.2.2.2.2.2.2.1 r6.2.2.2.2.2.2.2.2.2.2.2.2.2.2.2.2.2.2.2.2.2.2.1 r6.2.2.2.2.2.2.2.2.2.2.2.2.2.2.2.2.2.2.2.2.2.2.2.1 r6.2.2.2.2.2.2.2.2.2.2.2.2.2.2.2.2.2.2.2.2.2.2.2.2.1 r6.2.2.2.2.2.2.2.2.2.2.2.2.2.2.2.2.2.2.2.2.2.2.2.2.2.1 r6.2.2.2.2.2.2.2.2.2.2.2.2.2.2.2.2.2.2.2.2.2.2.2.2.2.2.1 r6.2.2.2.2.2.2.2.2.2.2.2.2.2.2.2.2.2.2.2.2.2.2.2.2.2.2.2.1 vG.1 vG.2.1 vG.2.2.1 vG.2.2.2.1 vG.2.2.2.2.1 vG.2.2.2.2.2.1 vG.2.2.2.2.2.2.1 vG.2.2.2.2.2.2.2.1 vG.2.2.2.2.2.2.2.2.1 vG.2.2.2.2.2.2.2.2.2.1 vG.2.2.2.2.2.2.2.2.2.2.1 vG.2.2.2.2.2.2.2.2.2.2.2.1 vG.2.2.2.2.2.2.2.2.2.2.2.2.1 vG.2.2.2.2.2.2.2.2.2.2.2.2.2.1 vG.2.2.2.2.2.2.2.2.2.2.2.2.2.2.1 vG.2.2.2.2.2.2.2.2.2.2.2.2.2.2.2.1 vG.2.2.2.2.2.2.2.2.2.2.2.2.2.2.2.2.1 vG.2.2.2.2.2.2.2.2.2.2.2.2.2.2.2.2.2.1 vG.2.2.2.2.2.2.2.2.2.2.2.2.2.2.2.2.2.2.1 vG.2.2.2.2.2.2.2.2.2.2.2.2.2.2.2.2.2.2.2.1 vG.2.2.2.2.2.2.2.2.2.2.2.2.2.2.2.2.2.2.2.2.1 vG.2.2.2.2.2.2.2.2.2.2.2.2.2.2.2.2.2.2.2.2.2.1 vG.2.2.2.2.2.2.2.2.2.2.2.2.2.2.2.2.2.2.2.2.2.2.1 vG.2.2.2.2.2.2.2.2.2.2.2.2.2.2.2.2.2.2.2.2.2.2.2.1 vG.2.2.2.2.2.2.2.2.2.2.2.2.2.2.2.2.2.2.2.2.2.2.2.2.1 vG.2.2.2.2.2.2.2.2.2.2.2.2.2.2.2.2.2.2.2.2.2.2.2.2.2.1 vG.2.2.2.2.2.2.2.2.2.2.2.2.2.2.2.2.2.2.2.2.2.2.2.2.2.2.1 vG.2.2.2.2.2.2.2.2.2.2.2.2.2.2.2.2.2.2.2.2.2.2.2.2.2.2.2).bind fun z7 =>
 some z7) (
 some false)) (
 some false)) (
 some false)) (
 some false)) (
 some false)) (
 some false)
def iS (N : Nat) (l2 : List Int) (kk : (List Int × Int) → Option (List Int)) : Nat → (List Int × Int) → Option (List Int)
 | 0, _ => none
 | fuel + 1, (u5, i) =>
  cond (decide (i < (l2.length : Int))) (
  (idx l2 i).bind fun e5 =>
  (idx l2 i).bind fun e6 =>
  (idx l2 i).bind fun e7 =>
  (idx l2 i).bind fun e8 =>
  (app 1 u5 (([IntKind.u8.wrap (dP .i64 e5 24), IntKind.u8.wrap (dP .i64 e6 16), IntKind.u8.wrap (dP .i64 e7 8), IntKind.u8.wrap e8] : List Int))).bind fun Jj =>
  (some (IntKind.i64.wrap (i + 1))).bind fun i4 =>
  iS N l2 kk fuel (Jj, i4)) (
  kk (u5, i))
def dM (N : Nat) (OG l2 : List Int) : Option (List Int) :=
 iS N l2 (fun (Tf, i6) =>
 some Tf) N (OG, 0)
def j6 (N : Nat) (OG : List Int) (s : List UInt8) : Option (List Int) :=
 (dM N OG (([(s.length : Int)] : List Int))).bind fun r2 =>
 (app 1 r2 (sN s)).bind fun u5 =>
 some u5
def kA (N : Nat) (bG : List (Int × Int)) (kk : (List Int × Int) → Option (List UInt8)) : Nat → (List Int × Int) → Option (List UInt8)
 | 0, _ => none
 | fuel + 1, (Nf, i7) =>
  cond (decide (i7 < (bG.length : Int))) (
  (idx bG i7).bind fun e11 =>
  (idx bG i7).bind fun e12 =>
  (dM N Nf ([e11.1, e12.2] : List Int)).bind fun r16 =>
  (some (IntKind.i64.wrap (i7 + 1))).bind fun x9 =>
  kA N bG kk fuel (r16, x9)) (
  kk (Nf, i7))
def hJ (N : Nat) (bQ bR bS bT bU bV bW bX bY : Int) (kk : (List Int × Int) → Option (List UInt8)) : Nat → (List Int × Int) → Option (List UInt8)
 | 0, _ => none
 | fuel + 1, (Ng, i5) =>
  cond (decide (i5 < 9)) (
  (inr i5 9).bind fun _ =>
  (idx [bQ, bR, bS, bT, bU, bV, bW, bX, bY] i5).bind fun e8 =>
  (dM N Ng ([e8] : List Int)).bind fun z7 =>
  (some (IntKind.i64.wrap (i5 + 1))).bind fun x7 =>
  hJ N bQ bR bS bT bU bV bW bX bY kk fuel (z7, x7)) (
  kk (Ng, i5))
def kC (N : Nat) (bF : List (Int × Int)) (kk : (List Int × Int) → Option (List UInt8)) : Nat → (List Int × Int) → Option (List UInt8)
 | 0, _ => none
 | fuel + 1, (Nh, i3) =>
  cond (decide (i3 < (bF.length : Int))) (
  (idx bF i3).bind fun e5 =>
  (idx bF i3).bind fun e6 =>
  (dM N Nh ([e5.1, e6.2] : List Int)).bind fun GP =>
  (some (IntKind.i64.wrap (i3 + 1))).bind fun x5 =>
  kC N bF kk fuel (GP, x5)) (
  kk (Nh, i3))
def kD (N : Nat) (cV : List (List UInt8)) (kk : (List Int × Int) → Option (List UInt8)) : Nat → (List Int × Int) → Option (List UInt8)
 | 0, _ => none
 | fuel + 1, (WS, i) =>
  cond (decide (i < (cV.length : Int))) (
  (idx cV i).bind fun e2 =>
  (j6 N WS e2).bind fun r7 =>
  (some (IntKind.i64.wrap (i + 1))).bind fun x3 =>
  kD N cV kk fuel (r7, x3)) (
  kk (WS, i))
def nV (N : Nat) (p7 qS eT hZ iT : Int) (fP : List Int) (cV : List (List UInt8)) (cO cE cG cH cJ cP : Int) (bF : List (Int × Int)) (cK cL cM bQ bR bS bT bU bV bW bX bY : Int) (bG : List (Int × Int)) (cB : Int) : Option (List UInt8) :=
 (j6 N ([] : List Int) ([100, 97, 114, 107] : List UInt8)).bind fun r2 =>
 (dM N r2 (([p7, qS, eT, hZ, iT, (fP.length : Int)] : List Int))).bind fun r3 =>
 (dM N r3 fP).bind fun r4 =>
 (dM N r4 (([(cV.length : Int)] : List Int))).bind fun r5 =>
 kD N cV (fun (aAO, i2) =>
 (dM N aAO (([cO, cE, cG, cH, cJ, cP, (bF.length : Int)] : List Int))).bind fun r8 =>
 kC N bF (fun (aAP, i4) =>
 (dM N aAP ([cK, cL, cM] : List Int)).bind fun Eo =>
 hJ N bQ bR bS bT bU bV bW bX bY (fun (aAQ, i6) =>
 (dM N aAQ (([(bG.length : Int)] : List Int))).bind fun F5 =>
 kA N bG (fun (aAR, i8) =>
 (dM N aAR ([cB] : List Int)).bind fun BD =>
 some (toB BD)) N (F5, 0)) N (Eo, 0)) N (r8, 0)) N (r5, 0)
def aD (N : Nat) (IG : List UInt8) (z8 : Bool) : Option (Int × List UInt8 × Bool) :=
 cond (z8) (
 some (0, IG, true)) (
 cond (decide ((IG.length : Int) < 4)) (
 some (0, IG, true)) (
 (idx IG 0).bind fun b =>
 (idx IG 1).bind fun b2 =>
 (idx IG 2).bind fun b3 =>
 (some (KT .i64 (KT .i64 (rE .i64 (IntKind.i64.wrap (b.toNat : Int)) 24) (rE .i64 (IntKind.i64.wrap (b2.toNat : Int)) 16)) (rE .i64 (IntKind.i64.wrap (b3.toNat : Int)) 8))).bind fun x2 =>
 (idx IG 3).bind fun b4 =>
 (some (KT .i64 x2 (IntKind.i64.wrap (b4.toNat : Int)))).bind fun n =>
 (Dw IG 4 (IG.length : Int)).bind fun s =>
 cond (decide (2147483648 ≤ n)) (
 (some (IntKind.i64.wrap (n - 4294967296))).bind fun n2 =>
 some (n2, s, z8)) (
 some (n, s, z8))))
def eO (N : Nat) (IG : List UInt8) (z8 : Bool) : Option (Int × List UInt8 × Bool) :=
 (aD N IG z8).bind fun r2 =>
 cond (decide (r2.1 < 0)) (
 some (0, r2.2.1, true)) (
 cond (decide ((r2.2.1.length : Int) < r2.1)) (
 some (0, r2.2.1, true)) (
 cond (r2.2.2) (
 some (0, r2.2.1, r2.2.2)) (
 some (r2.1, r2.2.1, r2.2.2))))
def gS (N : Nat) (IG : List UInt8) (z8 : Bool) : Option (List UInt8 × List UInt8 × Bool) :=
 (eO N IG z8).bind fun r2 =>
 cond (!(r2.2.2)) (
 (Dw r2.2.1 0 r2.1).bind fun s =>
 (Dw r2.2.1 r2.1 (r2.2.1.length : Int)).bind fun s2 =>
 some (s, s2, r2.2.2)) (
 some (([] : List UInt8), r2.2.1, r2.2.2))
def gT (N : Nat)  (kk : (List (Int × Int) × List UInt8 × Bool × Int) → Option (Int × Int × Int × Int × Int × List Int × List (List UInt8) × Int × Int × Int × Int × Int × Int × List (Int × Int) × Int × Int × Int × Int × Int × Int × Int × Int × Int × Int × Int × Int × List (Int × Int) × Int × Bool)) : Nat → (List (Int × Int) × List UInt8 × Bool × Int) → Option (Int × Int × Int × Int × Int × List Int × List (List UInt8) × Int × Int × Int × Int × Int × Int × List (Int × Int) × Int × Int × Int × Int × Int × Int × Int × Int × Int × Int × Int × Int × List (Int × Int) × Int × Bool)
 | 0, _ => none
 | fuel + 1, (lQ, HI, BE, Ih) =>
  cond (decide (0 < Ih)) (
  cond (!(BE)) (
  (aD N HI BE).bind fun Ku =>
  (aD N Ku.2.1 Ku.2.2).bind fun Kj =>
  (app 16 lQ (([(Ku.1, Kj.1)] : List (Int × Int)))).bind fun xC =>
  (some (IntKind.i64.wrap (Ih - 1))).bind fun x50 =>
  gT N  kk fuel (xC, Kj.2.1, Kj.2.2, x50)) (
  kk (lQ, HI, BE, Ih))) (
  kk (lQ, HI, BE, Ih))
def aH (N : Nat)  (kk : (List UInt8 × Bool × Int × Int × Int × Int × Int × Int × Int × Int × Int × Int) → Option (Int × Int × Int × Int × Int × List Int × List (List UInt8) × Int × Int × Int × Int × Int × Int × List (Int × Int) × Int × Int × Int × Int × Int × Int × Int × Int × Int × Int × Int × Int × List (Int × Int) × Int × Bool)) : Nat → (List UInt8 × Bool × Int × Int × Int × Int × Int × Int × Int × Int × Int × Int) → Option (Int × Int × Int × Int × Int × List Int × List (List UInt8) × Int × Int × Int × Int × Int × Int × List (Int × Int) × Int × Int × Int × Int × Int × Int × Int × Int × Int × Int × Int × Int × List (Int × Int) × Int × Bool)
 | 0, _ => none
 | fuel + 1, (K8, Fe, fA, fB, fC, fD, fE, fF, fG, fH, fI, i11) =>
  cond (decide (i11 < 9)) (
  (aD N K8 Fe).bind fun r32 =>
  cond (decide (i11 = 0)) (
  (some (IntKind.i64.wrap (i11 + 1))).bind fun x37 =>
  aH N  kk fuel (r32.2.1, r32.2.2, r32.1, fB, fC, fD, fE, fF, fG, fH, fI, x37)) (
  cond (decide (i11 = 1)) (
  (some (IntKind.i64.wrap (i11 + 1))).bind fun x38 =>
  aH N  kk fuel (r32.2.1, r32.2.2, fA, r32.1, fC, fD, fE, fF, fG, fH, fI, x38)) (
  cond (decide (i11 = 2)) (
  (some (IntKind.i64.wrap (i11 + 1))).bind fun x39 =>
  aH N  kk fuel (r32.2.1, r32.2.2, fA, fB, r32.1, fD, fE, fF, fG, fH, fI, x39)) (
  cond (decide (i11 = 3)) (
  (some (IntKind.i64.wrap (i11 + 1))).bind fun x40 =>
  aH N  kk fuel (r32.2.1, r32.2.2, fA, fB, fC, r32.1, fE, fF, fG, fH, fI, x40)) (
  cond (decide (i11 = 4)) (
  (some (IntKind.i64.wrap (i11 + 1))).bind fun x41 =>
  aH N  kk fuel (r32.2.1, r32.2.2, fA, fB, fC, fD, r32.1, fF, fG, fH, fI, x41)) (
  cond (decide (i11 = 5)) (
  (some (IntKind.i64.wrap (i11 + 1))).bind fun x42 =>
  aH N  kk fuel (r32.2.1, r32.2.2, fA, fB, fC, fD, fE, r32.1, fG, fH, fI, x42)) (
  cond (decide (i11 = 6)) (
  (some (IntKind.i64.wrap (i11 + 1))).bind fun x43 =>
  aH N  kk fuel (r32.2.1, r32.2.2, fA, fB, fC, fD, fE, fF, r32.1, fH, fI, x43)) (
  cond (decide (i11 = 7)) (
  (some (IntKind.i64.wrap (i11 + 1))).bind fun x44 =>
  aH N  kk fuel (r32.2.1, r32.2.2, fA, fB, fC, fD, fE, fF, fG, r32.1, fI, x44)) (
  cond (decide (i11 = 8)) (
  (some (IntKind.i64.wrap (i11 + 1))).bind fun x45 =>
  aH N  kk fuel (r32.2.1, r32.2.2, fA, fB, fC, fD, fE, fF, fG, fH, r32.1, x45)) (
  none)))))))))) (
  kk (K8, Fe, fA, fB, fC, fD, fE, fF, fG, fH, fI, i11))
def cU (N : Nat)  (kk : (List UInt8 × Bool × Int × Int × Int × Int) → Option (Int × Int × Int × Int × Int × List Int × List (List UInt8) × Int × Int × Int × Int × Int × Int × List (Int × Int) × Int × Int × Int × Int × Int × Int × Int × Int × Int × Int × Int × Int × List (Int × Int) × Int × Bool)) : Nat → (List UInt8 × Bool × Int × Int × Int × Int) → Option (Int × Int × Int × Int × Int × List Int × List (List UInt8) × Int × Int × Int × Int × Int × Int × List (Int × Int) × Int × Int × Int × Int × Int × Int × Int × Int × Int × Int × Int × Int × List (Int × Int) × Int × Bool)
 | 0, _ => none
 | fuel + 1, (K9, Ff, pF, pG, pH, i9) =>
  cond (decide (i9 < 3)) (
  (aD N K9 Ff).bind fun DH =>
  cond (decide (i9 = 0)) (
  (some (IntKind.i64.wrap (i9 + 1))).bind fun x25 =>
  cU N  kk fuel (DH.2.1, DH.2.2, DH.1, pG, pH, x25)) (
  cond (decide (i9 = 1)) (
  (some (IntKind.i64.wrap (i9 + 1))).bind fun Sk =>
  cU N  kk fuel (DH.2.1, DH.2.2, pF, DH.1, pH, Sk)) (
  cond (decide (i9 = 2)) (
  (some (IntKind.i64.wrap (i9 + 1))).bind fun x27 =>
  cU N  kk fuel (DH.2.1, DH.2.2, pF, pG, DH.1, x27)) (
  none)))) (
  kk (K9, Ff, pF, pG, pH, i9))
def gU (N : Nat)  (kk : (List (Int × Int) × List UInt8 × Bool × Int) → Option (Int × Int × Int × Int × Int × List Int × List (List UInt8) × Int × Int × Int × Int × Int × Int × List (Int × Int) × Int × Int × Int × Int × Int × Int × Int × Int × Int × Int × Int × Int × List (Int × Int) × Int × Bool)) : Nat → (List (Int × Int) × List UInt8 × Bool × Int) → Option (Int × Int × Int × Int × Int × List Int × List (List UInt8) × Int × Int × Int × Int × Int × Int × List (Int × Int) × Int × Int × Int × Int × Int × Int × Int × Int × Int × Int × Int × Int × List (Int × Int) × Int × Bool)
 | 0, _ => none
 | fuel + 1, (lR, HJ, BF, i7) =>
  cond (decide (0 < i7)) (
  cond (!(BF)) (
  (aD N HJ BF).bind fun Na =>
  (aD N Na.2.1 Na.2.2).bind fun Sp =>
  (app 16 lR (([(Na.1, Sp.1)] : List (Int × Int)))).bind fun xD =>
  (some (IntKind.i64.wrap (i7 - 1))).bind fun x18 =>
  gU N  kk fuel (xD, Sp.2.1, Sp.2.2, x18)) (
  kk (lR, HJ, BF, i7))) (
  kk (lR, HJ, BF, i7))
def bZ (N : Nat)  (kk : (List UInt8 × Bool × Int × Int × Int × Int × Int) → Option (Int × Int × Int × Int × Int × List Int × List (List UInt8) × Int × Int × Int × Int × Int × Int × List (Int × Int) × Int × Int × Int × Int × Int × Int × Int × Int × Int × Int × Int × Int × List (Int × Int) × Int × Bool)) : Nat → (List UInt8 × Bool × Int × Int × Int × Int × Int) → Option (Int × Int × Int × Int × Int × List Int × List (List UInt8) × Int × Int × Int × Int × Int × Int × List (Int × Int) × Int × Int × Int × Int × Int × Int × Int × Int × Int × Int × Int × Int × List (Int × Int) × Int × Bool)
 | 0, _ => none
 | fuel + 1, (Q8, G7, nF, nG, nH, nJ, i5) =>
  cond (decide (i5 < 4)) (
  (aD N Q8 G7).bind fun r16 =>
  cond (decide (i5 = 0)) (
  (some (IntKind.i64.wrap (i5 + 1))).bind fun x10 =>
  bZ N  kk fuel (r16.2.1, r16.2.2, r16.1, nG, nH, nJ, x10)) (
  cond (decide (i5 = 1)) (
  (some (IntKind.i64.wrap (i5 + 1))).bind fun M5 =>
  bZ N  kk fuel (r16.2.1, r16.2.2, nF, r16.1, nH, nJ, M5)) (
  cond (decide (i5 = 2)) (
  (some (IntKind.i64.wrap (i5 + 1))).bind fun Ki =>
  bZ N  kk fuel (r16.2.1, r16.2.2, nF, nG, r16.1, nJ, Ki)) (
  cond (decide (i5 = 3)) (
  (some (IntKind.i64.wrap (i5 + 1))).bind fun Hy =>
  bZ N  kk fuel (r16.2.1, r16.2.2, nF, nG, nH, r16.1, Hy)) (
  none))))) (
  kk (Q8, G7, nF, nG, nH, nJ, i5))
def gV (N : Nat)  (kk : (List (List UInt8) × List UInt8 × Bool × Int) → Option (Int × Int × Int × Int × Int × List Int × List (List UInt8) × Int × Int × Int × Int × Int × Int × List (Int × Int) × Int × Int × Int × Int × Int × Int × Int × Int × Int × Int × Int × Int × List (Int × Int) × Int × Bool)) : Nat → (List (List UInt8) × List UInt8 × Bool × Int) → Option (Int × Int × Int × Int × Int × List Int × List (List UInt8) × Int × Int × Int × Int × Int × Int × List (Int × Int) × Int × Int × Int × Int × Int × Int × Int × Int × Int × Int × Int × Int × List (Int × Int) × Int × Bool)
 | 0, _ => none
 | fuel + 1, (mE, Ni, DI, i3) =>
  cond (decide (0 < i3)) (
  cond (!(DI)) (
  (gS N Ni DI).bind fun z7 =>
  (app 16 mE (([z7.1] : List (List UInt8)))).bind fun G8 =>
  (some (IntKind.i64.wrap (i3 - 1))).bind fun x5 =>
  gV N  kk fuel (G8, z7.2.1, z7.2.2, x5)) (
  kk (mE, Ni, DI, i3))) (
  kk (mE, Ni, DI, i3))
def gW (N : Nat)  (kk : (List Int × List UInt8 × Bool × Int) → Option (Int × Int × Int × Int × Int × List Int × List (List UInt8) × Int × Int × Int × Int × Int × Int × List (Int × Int) × Int × Int × Int × Int × Int × Int × Int × Int × Int × Int × Int × Int × List (Int × Int) × Int × Bool)) : Nat → (List Int × List UInt8 × Bool × Int) → Option (Int × Int × Int × Int × Int × List Int × List (List UInt8) × Int × Int × Int × Int × Int × Int × List (Int × Int) × Int × Int × Int × Int × Int × Int × Int × Int × Int × Int × Int × Int × List (Int × Int) × Int × Bool)
 | 0, _ => none
 | fuel + 1, (Cf, Nj, DJ, i) =>
  cond (decide (0 < i)) (
  cond (!(DJ)) (
  (aD N Nj DJ).bind fun GP =>
  (app 8 Cf ([GP.1] : List Int)).bind fun LR =>
  (some (IntKind.i64.wrap (i - 1))).bind fun x3 =>
  gW N  kk fuel (LR, GP.2.1, GP.2.2, x3)) (
  kk (Cf, Nj, DJ, i))) (
  kk (Cf, Nj, DJ, i))
def jF (N : Nat) (d : List UInt8) : Option (Int × Int × Int × Int × Int × List Int × List (List UInt8) × Int × Int × Int × Int × Int × Int × List (Int × Int) × Int × Int × Int × Int × Int × Int × Int × Int × Int × Int × Int × Int × List (Int × Int) × Int × Bool) :=
 (gS N d false).bind fun r2 =>
 cond (!decide (r2.1 = ([100, 97, 114, 107] : List UInt8))) (
 some (0, 0, 0, 0, 0, ([] : List Int), ([] : List (List UInt8)), 0, 0, 0, 0, 0, 0, ([] : List (Int × Int)), 0, 0, 0, 0, 0, 0, 0, 0, 0, 0, 0, 0, ([] : List (Int × Int)), 0, false)) (
 (aD N r2.2.1 r2.2.2).bind fun r3 =>
 (aD N r3.2.1 r3.2.2).bind fun r4 =>
 (aD N r4.2.1 r4.2.2).bind fun r5 =>
 (aD N r5.2.1 r5.2.2).bind fun r6 =>
 (aD N r6.2.1 r6.2.2).bind fun r7 =>
 (eO N r7.2.1 r7.2.2).bind fun r8 =>
 gW N  (fun (oP, aAS, Tg, i2) =>
 (eO N aAS Tg).bind fun Eo =>
 gV N  (fun (jW, aAT, Th, i4) =>
 (aD N aAT Th).bind fun F5 =>
 bZ N  (fun (aAU, Ti, pR, pS, pT, pU, i6) =>
 (aD N aAU Ti).bind fun BD =>
 (eO N BD.2.1 BD.2.2).bind fun CP =>
 gU N  (fun (kE, WT, PY, i8) =>
 cU N  (fun (WU, PZ, tJ, tK, tL, G4) =>
 aH N  (fun (WV, P0, uB, uC, uD, uE, uF, uG, uH, uI, uJ, i12) =>
 (eO N WV P0).bind fun Kt =>
 gT N  (fun (zI, WW, P1, Yo) =>
 (aD N WW P1).bind fun Yt =>
 cond (Yt.2.2) (
 some (0, 0, 0, 0, 0, ([] : List Int), ([] : List (List UInt8)), 0, 0, 0, 0, 0, 0, ([] : List (Int × Int)), 0, 0, 0, 0, 0, 0, 0, 0, 0, 0, 0, 0, ([] : List (Int × Int)), 0, false)) (
 cond (!decide (Yt.2.1 = ([] : List UInt8))) (
 some (0, 0, 0, 0, 0, ([] : List Int), ([] : List (List UInt8)), 0, 0, 0, 0, 0, 0, ([] : List (Int × Int)), 0, 0, 0, 0, 0, 0, 0, 0, 0, 0, 0, 0, ([] : List (Int × Int)), 0, false)) (
 (j5 N r3.1 r4.1 r5.1 r6.1 r7.1 oP jW F5.1 pR pS pT pU BD.1 kE tJ tK tL uB uC uD uE uF uG uH uI uJ zI Yt.1).bind fun r45 =>
 cond (!decide (r45.2.2.2 = 0)) (
 some (0, 0, 0, 0, 0, ([] : List Int), ([] : List (List UInt8)), 0, 0, 0, 0, 0, 0, ([] : List (Int × Int)), 0, 0, 0, 0, 0, 0, 0, 0, 0, 0, 0, 0, ([] : List (Int × Int)), 0, false)) (
 some (r3.1, r4.1, r5.1, r6.1, r7.1, oP, jW, F5.1, pR, pS, pT, pU, BD.1, kE, tJ, tK, tL, uB, uC, uD, uE, uF, uG, uH, uI, uJ, zI, Yt.1, true))))) N (([] : List (Int × Int)), Kt.2.1, Kt.2.2, Kt.1)) N (WU, PZ, 0, 0, 0, 0, 0, 0, 0, 0, 0, 0)) N (WT, PY, 0, 0, 0, 0)) N (([] : List (Int × Int)), CP.2.1, CP.2.2, CP.1)) N (F5.2.1, F5.2.2, 0, 0, 0, 0, 0)) N (([] : List (List UInt8)), Eo.2.1, Eo.2.2, Eo.1)) N (([] : List Int), r8.2.1, r8.2.2, r8.1))
def lS (N : Nat) (r2 : List UInt8 × Int) (r3 : Int × Int × List Int × Int) (Nk : List UInt8) (r5 : Int × Int × Int × Int × Int × List Int × List (List UInt8) × Int × Int × Int × Int × Int × Int × List (Int × Int) × Int × Int × Int × Int × Int × Int × Int × Int × Int × Int × Int × Int × List (Int × Int) × Int × Int) (r6 : Int × Int × Int × Int × Int × List Int × List (List UInt8) × Int × Int × Int × Int × Int × Int × List (Int × Int) × Int × Int × Int × Int × Int × Int × Int × Int × Int × Int × Int × Int × List (Int × Int) × Int × Bool) (v2 : Int) (iY : Bool → Option Bool) : Option Bool :=
  (p9 N ).bind fun r7 =>
  cond (r7) (
  cond (decide (r2.1 = Nk)) (
  cond (decide (r2.2 = r3.2.2.2)) (
  cond (decide (r5.2.2.2.2.2.2.2.2.2.2.2.2.2.2.2.2.2.2.2.2.2.2.2.2.2.2.2.2 = v2)) (
  (lW N r5.1 r5.2.1 r5.2.2.1 r5.2.2.2.1 r5.2.2.2.2.1 r5.2.2.2.2.2.1 r5.2.2.2.2.2.2.1 r5.2.2.2.2.2.2.2.1 r5.2.2.2.2.2.2.2.2.1 r5.2.2.2.2.2.2.2.2.2.1 r5.2.2.2.2.2.2.2.2.2.2.1 r5.2.2.2.2.2.2.2.2.2.2.2.1 r5.2.2.2.2.2.2.2.2.2.2.2.2.1 r5.2.2.2.2.2.2.2.2.2.2.2.2.2.1 r5.2.2.2.2.2.2.2.2.2.2.2.2.2.2.1 r5.2.2.2.2.2.2.2.2.2.2.2.2.2.2.2.1 r5.2.2.2.2.2.2.2.2.2.2.2.2.2.2.2.2.1 r5.2.2.2.2.2.2.2.2.2.2.2.2.2.2.2.2.2.1 r5.2.2.2.2.2.2.2.2.2.2.2.2.2.2.2.2.2.2.1 r5.2.2.2.2.2.2.2.2.2.2.2.2.2.2.2.2.2.2.2.1 r5.2.2.2.2.2.2.2.2.2.2.2.2.2.2.2.2.2.2.2.2.1 r5.2.2.2.2.2.2.2.2.2.2.2.2.2.2.2.2.2.2.2.2.2.1 r5.2.2.2.2.2.2.2.2.2.2.2.2.2.2.2.2.2.2.2.2.2.2.1 r5.2.2.2.2.2.2.2.2.2.2.2.2.2.2.2.2.2.2.2.2.2.2.2.1 r5.2.2.2.2.2.2.2.2.2.2.2.2.2.2.2.2.2.2.2.2.2.2.2.2.1 r5.2.2.2.2.2.2.2.2.2.2.2.2.2.2.2.2.2.2.2.2.2.2.2.2.2.1 r5.2.2.2.2.2.2.2.2.2.2.2.2.2.2.2.2.2.2.2.2.2.2.2.2.2.2.1 r5.2.2.2.2.2.2.2.2.2.2.2.2.2.2.2.2.2.2.2.2.2.2.2.2.2.2.2.1 r6.1 r6.2.1 r6.2.2.1 r6.2.2.2.1 r6.2.2.2.2.1 r6.2.2.2.2.2.1 r6.2.2.2.2.2.2.1 r6.2.2.2.2.2.2.2.1 r6.2.2.2.2.2.2.2.2.1 r6.2.2.2.2.2.2.2.2.2.1 r6.2.2.2.2.2.2.2.2.2.2.1 r6.2.2.2.2.2.2.2.2.2.2.2.1 r6.2.2.2.2.2.2.2.2.2.2.2.2.1 r6.2.2.2.2.2.2.2.2.2.2.2.2.2.1 r6.2.2.2.2.2.2.2.2.2.2.2.2.2.2.1 r6.2.2.2.2.2.2.2.2.2.2.2.2.2.2.2.1 r6.2.2.2.2.2.2.2.2.2.2.2.2.2.2.2.2.1 r6.2.2.2.2.2.2.2.2.2.2.2.2.2.2.2.2.2.1 r6.2.2.2.2.2.2.2.2.2.2.2.2.2.2.2.2.2.2.1 r6.2.2.2.2.2.2.2.2.2.2.2.2.2.2.2.2.2.2.2.1 r6.2.2.2.2.2.2.2.2.2.2.2.2.2.2.2.2.2.2.2.2.1 r6.2.2.2.2.2.2.2.2.2.2.2.2.2.2.2.2.2.2.2.2.2.1 r6.2.2.2.2.2.2.2.2.2.2.2.2.2.2.2.2.2.2.2.2.2.2.1 r6.2.2.2.2.2.2.2.2.2.2.2.2.2.2.2.2.2.2.2.2.2.2.2.1 r6.2.2.2.2.2.2.2.2.2.2.2.2.2.2.2.2.2.2.2.2.2.2.2.2.1 r6.2.2.2.2.2.2.2.2.2.2.2.2.2.2.2.2.2.2.2.2.2.2.2.2.2.1 r6.2.2.2.2.2.2.2.2.2.2.2.2.2.2.2.2.2.2.2.2.2.2.2.2.2.2.1 r6.2.2.2.2.2.2.2.2.2.2.2.2.2.2.2.2.2.2.2.2.2.2.2.2.2.2.2.1).bind fun r8 =>
  iY r8) (
  iY false)) (
  iY false)) (
  iY false)) (
  iY false)
def lT (N : Nat) (r6 : Int × Int × Int × Int × Int × List Int × List (List UInt8) × Int × Int × Int × Int × Int × Int × List (Int × Int) × Int × Int × Int × Int × Int × Int × Int × Int × Int × Int × Int × Int × List (Int × Int) × Int × Bool) (qH : Int → Option Bool) : Option Bool :=
  cond (!(r6.2.2.2.2.2.2.2.2.2.2.2.2.2.2.2.2.2.2.2.2.2.2.2.2.2.2.2.2)) (
  qH 1) (
  qH 0)
def qU (N : Nat) (rH oM cQ dN dA : Int) (dB : List Int) (bJ : List (List UInt8)) (bB aT aU aV aW bC : Int) (aG : List (Int × Int)) (aX aY aZ aK aL aM aN aO aP aQ aR aS : Int) (aI : List (Int × Int)) (bA : Int) (r3 : Int × Int × List Int × Int) (qI : (List UInt8) → Option Bool) : Option Bool :=
  cond (decide (r3.2.2.2 = 0)) (
  (nV N rH oM cQ dN dA dB bJ bB aT aU aV aW bC aG aX aY aZ aK aL aM aN aO aP aQ aR aS aI bA).bind fun r4 =>
  qI r4) (
  qI ([] : List UInt8))
def pJ (N : Nat) (rH oM cQ dN dA : Int) (dB : List Int) (bJ : List (List UInt8)) (bB aT aU aV aW bC : Int) (aG : List (Int × Int)) (aX aY aZ aK aL aM aN aO aP aQ aR aS : Int) (aI : List (Int × Int)) (bA : Int) (s : List UInt8) : Option Bool :=
 (tS N rH oM cQ dN dA dB bJ bB aT aU aV aW bC aG aX aY aZ aK aL aM aN aO aP aQ aR aS aI bA).bind fun r2 =>
 (j5 N rH oM cQ dN dA dB bJ bB aT aU aV aW bC aG aX aY aZ aK aL aM aN aO aP aQ aR aS aI bA).bind fun r3 =>
 qU N rH oM cQ dN dA dB bJ bB aT aU aV aW bC aG aX aY aZ aK aL aM aN aO aP aQ aR aS aI bA r3 (fun Nk =>
 (tY N s).bind fun r5 =>
 (jF N s).bind fun r6 =>
 lT N r6 (fun v2 =>
 lS N r2 r3 Nk r5 r6 v2 (fun i2 =>
 some i2)))
end
section
open Go
theorem iE {x : Int} (h : -9223372036854775808 ≤ x ∧ x ≤ 9223372036854775807) : IntKind.i64.wrap x = x := IntWalk.i64_in x h
theorem gB {α : Type} (xs : List α) (k : Nat) : idx xs (k : Int) = xs[k]? := by simp [idx]
theorem DK {α : Type} {xs : List α} {p q : Int} (h : 0 ≤ p ∧ p ≤ q ∧ q ≤ xs.length) : Dw xs p q = some ((xs.take q.toNat).drop p.toNat) := by unfold Dw; rw [if_pos h]
theorem kY {α : Type} {b : Nat} {xs ys : List α} (h : (xs.length + ys.length) * b ≤ 140737488355328) : app b xs ys = some (xs ++ ys) := by unfold app; rw [if_pos h]
theorem mk_eq {α : Type} {b : Nat} {n : Int} {z : α} (h : 0 ≤ n ∧ n * b ≤ 281474976710656) : mk b n z = some (List.replicate n.toNat z) := by unfold mk; rw [if_pos h]
theorem Fg {α : Type} {xs : List α} {i : Int} {x : α} (h : 0 ≤ i ∧ i < xs.length) : xX xs i x = some (xs.set i.toNat x) := by unfold xX; rw [if_pos h]
theorem Nl {n : Int} (h : n ≠ 0) : nz n = some () := by unfold nz; rw [if_neg h]
theorem aC {α β : Type} (x : α) (f : α → Option β) : Option.bind (some x) f = f x := rfl
theorem cT {α : Type} {b : Bool} (h : b = true) (x y : α) : cond b x y = x := by rw [h]; rfl
theorem cF {α : Type} {b : Bool} (h : b = false) (x y : α) : cond b x y = y := by rw [h]; rfl
theorem dT {p : Prop} [Decidable p] (h : p) : decide p = true := decide_eq_true h
theorem dF {p : Prop} [Decidable p] (h : ¬ p) : decide p = false := decide_eq_false h
def DL (W H : Int) (n : Nat) : Prop := 1 ≤ W ∧ W ≤ 64 ∧ 1 ≤ H ∧ H ≤ 64 ∧ (n : Int) = W * H
instance (W H : Int) (n : Nat) : Decidable (DL W H n) := by unfold DL; infer_instance
theorem Yu {W H : Int} (h : 1 ≤ W ∧ W ≤ 64 ∧ 1 ≤ H ∧ H ≤ 64) : 1 ≤ W * H ∧ W * H ≤ 4096 := by
 obtain ⟨h1, h2, h3, h4⟩ := h;have a := Int.mul_le_mul h2 h4 (by omega) (by omega);have b := Int.mul_le_mul h1 h3 (by omega) (by omega)
 omega
abbrev Px := Int × Int × Int
theorem dm {W x : Nat} (y : Nat) (h : x < W) : (y * W + x) % W = x ∧ (y * W + x) / W = y := by
 have h1 : (y * W + x) % W = x := by rw [Nat.add_comm, Nat.add_mul_mod_self_right, Nat.mod_eq_of_lt h]
 have h2 : (y * W + x) / W = y := by rw [Nat.add_comm, Nat.add_mul_div_right _ _ (by omega), Nat.div_eq_of_lt h, Nat.zero_add]
 exact ⟨h1, h2⟩
theorem Tj {W H x y : Nat} (hx : x < W) (hy : y < H) : y * W + x < W * H := by
 have := Nat.mul_le_mul_right W (show y + 1 ≤ H from hy);rw [Nat.add_mul, Nat.one_mul, Nat.mul_comm H W] at this
 omega
theorem tdm {W : Nat} (k : Nat) (hW : 0 < W) : Int.tmod (k : Int) (W : Int) = ((k % W : Nat) : Int) ∧ Int.tdiv (k : Int) (W : Int) = ((k / W : Nat) : Int) := by
 constructor
 ·rw [Int.tmod_eq_emod_of_nonneg (by omega)]; rfl
 ·rw [Int.tdiv_eq_ediv_of_nonneg (by omega)]; rfl
def pre {α : Type} (W : Nat) (f : Nat → Nat → α) (n : Nat) : List α := (List.range n).map fun k => f (k % W) (k / W)
theorem Yv {x y : Int} {a b : Nat} (hx : -(a : Int) ≤ x ∧ x ≤ a) (hy : -(b : Int) ≤ y ∧ y ≤ b) : -((a * b : Nat) : Int) ≤ x * y ∧ x * y ≤ ((a * b : Nat) : Int) := by
 have h1 : x.natAbs ≤ a := by omega
 have h2 : y.natAbs ≤ b := by omega
 have h3 := Nat.mul_le_mul h1 h2;rw [← Int.natAbs_mul] at h3
 omega
theorem Yw (m : Int) (n : Nat) (hn : n ≤ 64) : dP .i64 m (n : Int) = m / 2 ^ n := by
 unfold dP;rw [Int.toNat_natCast, show min n IntKind.i64.bits = n from Nat.min_eq_left hn];exact Int.fdiv_eq_ediv_of_nonneg _ (Int.le_of_lt (Int.pow_pos (by decide)))
theorem uP (N : Nat) (n lo hi : Int) : bO N n lo hi = some (decide (lo ≤ n ∧ n ≤ hi)) := by
 unfold bO
 by_cases h1 : lo ≤ n
 ·rw [cT (dT h1)]; simp [h1]
 ·rw [cF (dF h1)]; simp [h1]
def upTo (P : List Int) (top : Int) : Prop := ∀ i : Nat, 0 ≤ P.getD i 0 ∧ P.getD i 0 ≤ top
theorem IH (N : Nat) {n b : Int} (hb : 1 ≤ b ∧ b ≤ 1000000) (hn : -4611686018427387904 ≤ n ∧ n ≤ 4611686018427387904) : dS N n b = some (n / b) := by
 have hd := Int.mul_ediv_add_emod n b;have hr0 := Int.emod_nonneg n (show b ≠ 0 by omega);have hr1 := Int.emod_lt_of_pos n (show 0 < b by omega);obtain ⟨q, hq⟩ : ∃ q, n / b = q := ⟨_, rfl⟩
 obtain ⟨r, hr⟩ : ∃ r, n % b = r := ⟨_, rfl⟩
 rw [hq, hr] at hd;rw [hr] at hr0 hr1
 have hqb : -4611686018427387905 ≤ q ∧ q ≤ 4611686018427387904 := by
  have h1 : q ≤ 4611686018427387904 := by
   rw [← hq];exact Int.le_trans (Int.ediv_le_ediv (by omega) hn.2) (Int.ediv_le_of_le_mul (by omega) (by omega))
  have h2 : -4611686018427387905 ≤ q := by
   rw [← hq];exact Int.le_ediv_of_mul_le (by omega) (by omega)
  exact ⟨h2, h1⟩
 unfold dS;rw [Nl (by omega), aC, aC, Int.tdiv_eq_ediv, hq]
 by_cases h : 0 ≤ n ∨ b ∣ n
 ·rw [if_pos h, Int.add_zero, iE (x := q) (by omega), Int.mul_comm q b, iE (x := b * q) (by omega), cF (dF (by omega))]
 ·rw [if_neg h, Int.sign_eq_one_of_pos (by omega), iE (x := q + 1) (by omega), Int.mul_comm (q + 1) b, Int.mul_add, Int.mul_one, iE (x := b * q + b) (by omega), cT (dT (by omega)), aC, iE (by omega), Int.add_sub_cancel]
def aEY (b0 b1 b2 b3 w : Int) : Prop := (0 ≤ b0 ∧ b0 < w) ∧ (0 ≤ b1 ∧ b1 < w) ∧ (0 ≤ b2 ∧ b2 < w) ∧ (0 ≤ b3 ∧ b3 < w)
theorem Tk {i : Int} {n : Nat} (h : 0 ≤ i ∧ i < n) : inr i n = some () := by unfold inr; rw [if_pos h]
def aE2 (g0 g1 g2 : Int) : Prop := (0 ≤ g0 ∧ g0 ≤ 65535) ∧ (0 ≤ g1 ∧ g1 ≤ 65535) ∧ (0 ≤ g2 ∧ g2 ≤ 65535)
def okM (m : Int) : Bool := decide (-32768 ≤ m ∧ m ≤ 32768)
section
variable (N : Nat) (m0 m1 m2 m3 m4 m5 m6 m7 m8 : Int)
theorem O1 (kk) : ∀ (d k fuel : Nat), k + d = 9 → d < fuel →
  kT N m0 m1 m2 m3 m4 m5 m6 m7 m8 kk fuel (k : Int) = if ([m0, m1, m2, m3, m4, m5, m6, m7, m8].drop k).all okM then kk 9 else some false := by
 intro d
 induction d with
 | zero =>
  intro k fuel hk hf;obtain ⟨fuel, rfl⟩ := mN fuel (by omega);obtain rfl : k = 9 := by omega
  unfold kT;rw [cF (dF (by omega))]
  simp
 | succ d ih =>
  intro k fuel hk hf;obtain ⟨fuel, rfl⟩ := mN fuel (by omega);have hlt : k < [m0, m1, m2, m3, m4, m5, m6, m7, m8].length := by show k < 9; omega
  unfold kT;rw [cT (dT (by omega)), show inr (k : Int) 9 = some () from by unfold inr; rw [if_pos (by omega)], aC, gB, List.getElem?_eq_getElem hlt, aC, uP, aC, List.drop_eq_getElem_cons hlt, List.all_cons];obtain ⟨e, he⟩ : ∃ e, [m0, m1, m2, m3, m4, m5, m6, m7, m8][k] = e := ⟨_, rfl⟩
  rw [he];have hih := ih (k + 1) fuel (by omega) (by omega)
  by_cases h : -32768 ≤ e ∧ e ≤ 32768
  ·rw [cF (by simp [h]), aC, iE (by omega), okM, dT h, Bool.true_and];exact hih
  ·rw [cT (by simp only [Bool.not_eq_true', decide_eq_false_iff_not]; exact h), okM, dF h]; simp
def EB : Bool := [m0, m1, m2, m3, m4, m5, m6, m7, m8].all okM
theorem O2 (hN : 5000 ≤ N) : oF N m0 m1 m2 m3 m4 m5 m6 m7 m8 = some (EB m0 m1 m2 m3 m4 m5 m6 m7 m8) := by
 unfold oF;refine (O1 N m0 m1 m2 m3 m4 m5 m6 m7 m8 _ 9 0 N (by omega) (by omega)).trans ?_;rw [List.drop_zero, ← EB]
 cases EB m0 m1 m2 m3 m4 m5 m6 m7 m8 <;> rfl
end
abbrev Pt := Int × Int
def cX (l : List Pt) (i : Nat) : Int := (l.getD i (0, 0)).1
def cY (l : List Pt) (i : Nat) : Int := (l.getD i (0, 0)).2
def LS (l : List Pt) (i : Nat) : Prop := cX l i < cX l (i + 1) ∧ cY l i ≤ cY l (i + 1)
structure tZ (l : List Pt) : Prop where
 len : 2 ≤ l.length ∧ l.length ≤ 16
 x0 : cX l 0 = 0
 xn : cX l (l.length - 1) = 65535
 y0 : 0 ≤ cY l 0
 yn : cY l (l.length - 1) ≤ 65535
 step : ∀ i, i + 1 < l.length → LS l i
theorem tM (l : List Pt) {k : Nat} (h : k < l.length) : idx l (k : Int) = some (l.getD k (0, 0)) := by
 rw [gB, List.getD_eq_getElem?_getD, List.getElem?_eq_getElem h]; rfl
theorem Jk (l : List Pt) (h : 1 ≤ l.length ∧ l.length ≤ 1000000) : idx l (IntKind.i64.wrap ((l.length : Int) - 1)) = some (l.getD (l.length - 1) (0, 0)) := by
 rw [iE (by omega), show (l.length : Int) - 1 = ((l.length - 1 : Nat) : Int) by omega, tM l (by omega)]
theorem O3 {l : List Pt} {j : Nat} (h : ∀ i, i < j → LS l i) {i : Nat} (hij : i ≤ j) : cX l i ≤ cX l j ∧ cY l i ≤ cY l j ∧ (i < j → cX l i < cX l j) := by
  induction j with
  | zero => obtain rfl : i = 0 := by omega
            exact ⟨Int.le_refl _, Int.le_refl _, fun h => by omega⟩
  | succ j ih =>
    by_cases e : i = j + 1
    · subst e; exact ⟨Int.le_refl _, Int.le_refl _, fun h => by omega⟩
    · obtain ⟨a, b, _⟩ := ih (fun i hi => h i (by omega)) (by omega)
      obtain ⟨c, d⟩ := h j (by omega)
      exact ⟨by omega, by omega, fun _ => by omega⟩
theorem tZ.mono {l : List Pt} (h : tZ l) {i j : Nat} (hij : i ≤ j) (hj : j < l.length) : cX l i ≤ cX l j ∧ cY l i ≤ cY l j ∧ (i < j → cX l i < cX l j) := O3 (fun i hi => h.step i (by omega)) hij
theorem tZ.bd {l : List Pt} (h : tZ l) {i : Nat} (hi : i < l.length) : 0 ≤ cX l i ∧ cX l i ≤ 65535 ∧ 0 ≤ cY l i ∧ cY l i ≤ 65535 := by
 obtain ⟨a, b, _⟩ := h.mono (i := 0) (j := i) (by omega) hi;obtain ⟨c, d, _⟩ := h.mono (i := i) (j := l.length - 1) (by omega) (by omega);have := h.x0;have := h.xn;have := h.y0;have := h.yn
 omega
theorem Tl (N : Nat) (l l2 : List Pt) (hl : l2.length + 1 = l.length) (hb : l.length ≤ 16) : ∀ (d k fuel : Nat), k + d = l2.length → d < fuel →
  ∃ b, rY N l l2 (fun _ => some true) fuel (k : Int) = some b ∧ (b = true ↔ ∀ i, k ≤ i → i + 1 < l.length → LS l i) := by
 intro d
 induction d with
 | zero =>
  intro k fuel hk hf;obtain ⟨fuel, rfl⟩ := mN fuel (by omega);refine ⟨true, ?_, by simp only [true_iff]; intro i h1 h2; omega⟩;unfold rY;rw [cF (dF (by omega))]
 | succ d ih =>
  intro k fuel hk hf;obtain ⟨fuel, rfl⟩ := mN fuel (by omega);unfold rY;rw [cT (dT (by omega)), iE (by omega), show (k : Int) + 1 = ((k + 1 : Nat) : Int) by omega];simp only [tM l (show k < l.length by omega), tM l (show k + 1 < l.length by omega), aC]
  by_cases h1 : (l.getD (k + 1) (0, 0)).1 ≤ (l.getD k (0, 0)).1
  ·rw [cT (dT h1)];refine ⟨false, rfl, by simp only [Bool.false_eq_true, false_iff]; intro h; have := (h k (Nat.le_refl _) (by omega)).1; simp only [cX] at this; omega⟩
  rw [cF (dF h1)]
  by_cases h2 : (l.getD (k + 1) (0, 0)).2 < (l.getD k (0, 0)).2
  ·rw [cT (dT h2)];refine ⟨false, rfl, by simp only [Bool.false_eq_true, false_iff]; intro h; have := (h k (Nat.le_refl _) (by omega)).2; simp only [cY] at this; omega⟩
  rw [cF (dF h2)];obtain ⟨b, e, hb'⟩ := ih (k + 1) fuel (by omega) (by omega);refine ⟨b, e, hb'.trans ⟨fun h i hi hn => ?_, fun h i hi hn => h i (by omega) hn⟩⟩
  by_cases hik : i = k
  ·subst hik; exact ⟨by simp only [cX]; omega, by simp only [cY]; omega⟩
  ·exact h i (by omega) hn
theorem right_eq (N : Nat) (l : List Pt) (hN : 5000 ≤ N) : ∃ b, mJ N l = some b ∧ (b = true ↔ tZ l) := by
 unfold mJ
 by_cases h1 : (l.length : Int) < 2
 ·rw [cT (dT h1)]; exact ⟨false, rfl, by simp only [Bool.false_eq_true, false_iff]; intro h; have := h.len; omega⟩
 rw [cF (dF h1)]
 by_cases h2 : 16 < (l.length : Int)
 ·rw [cT (dT h2)]; exact ⟨false, rfl, by simp only [Bool.false_eq_true, false_iff]; intro h; have := h.len; omega⟩
 rw [cF (dF h2)];have i0 : idx l 0 = some (l.getD 0 (0, 0)) := tM l (k := 0) (by omega);have il := Jk l (by omega);simp only [i0, il, aC]
 by_cases h3 : cX l 0 = 0
 rotate_left
 ·rw [cT (by simp only [cX] at h3; rw [dF h3]; rfl)]; exact ⟨false, rfl, by simp only [Bool.false_eq_true, false_iff]; intro h; exact h3 h.x0⟩
 rw [cF (by simp only [cX] at h3; rw [dT h3]; rfl)]
 by_cases h4 : cX l (l.length - 1) = 65535
 rotate_left
 ·rw [cT (by simp only [cX] at h4; rw [dF h4]; rfl)]; exact ⟨false, rfl, by simp only [Bool.false_eq_true, false_iff]; intro h; exact h4 h.xn⟩
 rw [cF (by simp only [cX] at h4; rw [dT h4]; rfl)]
 by_cases h5 : (l.getD 0 (0, 0)).2 < 0
 ·rw [cT (dT h5)]; exact ⟨false, rfl, by simp only [Bool.false_eq_true, false_iff]; intro h; have := h.y0; simp only [cY] at this; omega⟩
 rw [cF (dF h5)]
 by_cases h6 : 65535 < (l.getD (l.length - 1) (0, 0)).2
 ·rw [cT (dT h6)]; exact ⟨false, rfl, by simp only [Bool.false_eq_true, false_iff]; intro h; have := h.yn; simp only [cY] at this; omega⟩
 rw [cF (dF h6), DK (by omega), aC];obtain ⟨b, e, hb⟩ := Tl N l ((l.take (l.length : Int).toNat).drop (1 : Int).toNat) (by simp; omega) (by omega) (l.length - 1) 0 N (by simp) (by omega);refine ⟨b, e, hb.trans ⟨fun h => ⟨by omega, h3, h4, by simp only [cY]; omega, by simp only [cY]; omega, fun i hi => h i (Nat.zero_le _) hi⟩, fun h i _ hi => h.step i hi⟩⟩
theorem LT (N : Nat) (l : List Pt) (hb : l.length ≤ 16) : ∀ (d k fuel : Nat), k + d = l.length → d < fuel →
  ∃ b, iI N l (fun _ => some true) fuel (k : Int) = some b ∧ (b = true ↔ ∀ i, k ≤ i → i < l.length → (0 ≤ cY l i ∧ cY l i ≤ 65535) ∧ (0 < i → LS l (i - 1))) := by
 intro d
 induction d with
 | zero =>
  intro k fuel hk hf;obtain ⟨fuel, rfl⟩ := mN fuel (by omega);refine ⟨true, ?_, by simp only [true_iff]; intro i h1 h2; omega⟩;unfold iI;rw [cF (dF (by omega))]
 | succ d ih =>
  intro k fuel hk hf;obtain ⟨fuel, rfl⟩ := mN fuel (by omega);have no : ∀ {Q : Prop}, ¬ Q → ∃ b, some false = some b ∧ (b = true ↔ Q) := fun h => ⟨false, rfl, by simp [h]⟩
  unfold iI;rw [cT (dT (by omega)), tM l (show k < l.length by omega), aC, uP, aC];obtain ⟨b, e, hb'⟩ := ih (k + 1) fuel (by omega) (by omega)
  by_cases h1 : 0 ≤ cY l k ∧ cY l k ≤ 65535
  rotate_left
  ·rw [cT (by simp only [cY] at h1; rw [dF h1]; rfl)];exact no fun h => h1 (h k (Nat.le_refl _) (by omega)).1
  rw [cF (by simp only [cY] at h1; rw [dT h1]; rfl)]
  by_cases h2 : 0 < k
  ·rw [cT (dT (by omega)), aC, iE (x := (k : Int) - 1) (by omega), show (k : Int) - 1 = ((k - 1 : Nat) : Int) by omega, tM l (show k - 1 < l.length by omega)];simp only [aC];have hk1 : k - 1 + 1 = k := by omega
   by_cases h3 : (l.getD k (0, 0)).1 ≤ (l.getD (k - 1) (0, 0)).1
   ·rw [cT (dT h3)];exact no fun h => by have := ((h k (Nat.le_refl _) (by omega)).2 h2).1; rw [hk1] at this; simp only [cX] at this; omega
   rw [cF (dF h3)]
   by_cases h4 : (l.getD k (0, 0)).2 < (l.getD (k - 1) (0, 0)).2
   ·rw [cT (dT h4)];exact no fun h => by have := ((h k (Nat.le_refl _) (by omega)).2 h2).2; rw [hk1] at this; simp only [cY] at this; omega
   rw [cF (dF h4), iE (by omega)];refine ⟨b, e, hb'.trans ⟨fun h i hi hn => ?_, fun h i hi hn => h i (by omega) hn⟩⟩
   by_cases hik : i = k
   ·subst hik; exact ⟨h1, fun _ => ⟨by rw [hk1]; simp only [cX]; omega, by rw [hk1]; simp only [cY]; omega⟩⟩
   ·exact h i (by omega) hn
  ·rw [cF (dF (by omega)), aC, iE (by omega)];refine ⟨b, e, hb'.trans ⟨fun h i hi hn => ?_, fun h i hi hn => h i (by omega) hn⟩⟩
   by_cases hik : i = k
   ·subst hik; exact ⟨h1, fun h => absurd h h2⟩
   ·exact h i (by omega) hn
theorem LU (N : Nat) (l : List Pt) (hN : 5000 ≤ N) : ∃ b, g9 N l = some b ∧ (b = true ↔ tZ l) := by
 unfold g9;have no : ∀ {Q : Prop}, ¬ Q → ∃ b, some false = some b ∧ (b = true ↔ Q) := fun h => ⟨false, rfl, by simp [h]⟩
 rw [uP, aC]
 by_cases h1 : (2 : Int) ≤ l.length ∧ (l.length : Int) ≤ 16
 rotate_left
 ·rw [cT (by rw [dF h1]; rfl)];exact no fun h => h1 (by have := h.len; omega)
 rw [cF (by rw [dT h1]; rfl)];have i0 : idx l 0 = some (l.getD 0 (0, 0)) := tM l (k := 0) (by omega);have il := Jk l (by omega);simp only [i0, il, aC]
 by_cases h3 : cX l 0 = 0
 rotate_left
 ·rw [cT (by simp only [cX] at h3; rw [dF h3]; rfl)]; exact no fun h => h3 h.x0
 rw [cF (by simp only [cX] at h3; rw [dT h3]; rfl)]
 by_cases h4 : cX l (l.length - 1) = 65535
 rotate_left
 ·rw [cT (by simp only [cX] at h4; rw [dF h4]; rfl)]; exact no fun h => h4 h.xn
 rw [cF (by simp only [cX] at h4; rw [dT h4]; rfl)];obtain ⟨b, e, hb⟩ := LT N l (by omega) l.length 0 N (by omega) (by omega);refine ⟨b, e, hb.trans ⟨fun h => ⟨by omega, h3, h4, (h 0 (Nat.le_refl _) (by omega)).1.1, (h (l.length - 1) (Nat.zero_le _) (by omega)).1.2, fun i hi => (h (i + 1) (Nat.zero_le _) hi).2 (by omega)⟩, fun h i _ hi => ⟨(h.bd hi).2.2, fun h0 => h.step (i - 1) (by omega)⟩⟩⟩
def seg (l : List Pt) (i : Nat) (x : Int) : Int := cY l (i - 1) + ((cY l i - cY l (i - 1)) * (x - cX l (i - 1))) / (cX l i - cX l (i - 1))
section
variable {l : List Pt}
theorem Tm {i : Nat} : seg l i (cX l (i - 1)) = cY l (i - 1) := by
 unfold seg;rw [Int.sub_self, Int.mul_zero, Int.zero_ediv, Int.add_zero]
variable (h : tZ l)
include h
theorem Q9 {i : Nat} (hi : 1 ≤ i ∧ i < l.length) {x : Int} (hx : cX l (i - 1) ≤ x ∧ x ≤ cX l i) : cY l (i - 1) ≤ seg l i x ∧ seg l i x ≤ cY l i := by
 obtain ⟨s1, s2⟩ := h.step (i - 1) (by omega);rw [show i - 1 + 1 = i by omega] at s1 s2;unfold seg;have h0 : 0 ≤ (cY l i - cY l (i - 1)) * (x - cX l (i - 1)) := Int.mul_nonneg (by omega) (by omega);have h1 := Int.ediv_nonneg h0 (show 0 ≤ cX l i - cX l (i - 1) by omega);have h2 : (cY l i - cY l (i - 1)) * (x - cX l (i - 1)) ≤ (cY l i - cY l (i - 1)) * (cX l i - cX l (i - 1)) := Int.mul_le_mul_of_nonneg_left (by omega) (by omega);have h3 := Int.ediv_le_of_le_mul (show 0 < cX l i - cX l (i - 1) by omega) h2
 omega
theorem La {i : Nat} (hi : 1 ≤ i ∧ i < l.length) : seg l i (cX l i) = cY l i := by
 obtain ⟨s1, s2⟩ := h.step (i - 1) (by omega);rw [show i - 1 + 1 = i by omega] at s1 s2;unfold seg;rw [Int.mul_ediv_cancel _ (by omega)]
 omega
theorem VG {i j : Nat} (hi : 1 ≤ i ∧ i < l.length) (hj : 1 ≤ j ∧ j < l.length) {x : Int} (hx : cX l (i - 1) ≤ x ∧ x ≤ cX l i) (hx' : cX l (j - 1) ≤ x ∧ x ≤ cX l j) : seg l i x = seg l j x := by
 have key : ∀ {i j : Nat}, 1 ≤ i → i < j → j < l.length → x ≤ cX l i → cX l (j - 1) ≤ x → seg l i x = seg l j x := by
  intro i j h1 h2 h3 h4 h5;have m1 := h.mono (i := i) (j := j - 1) (by omega) (by omega);have e : x = cX l i := by omega
  have e2 : i = j - 1 := by
   by_cases e2 : i = j - 1
   ·exact e2
   ·have := m1.2.2 (by omega); omega
  subst e;rw [La h ⟨h1, by omega⟩];subst e2;rw [Tm]
 rcases Nat.lt_trichotomy i j with hij | hij | hij
 ·exact key hi.1 hij hj.2 hx.2 hx'.1
 ·rw [hij]
 ·exact (key hj.1 hij hi.2 hx'.2 hx.1).symm
theorem Nm {i : Nat} (hi : 1 ≤ i ∧ i < l.length) {x : Int} (hx : cX l (i - 1) ≤ x ∧ x ≤ cX l i) :
  (Option.bind (nz (IntKind.i64.wrap (cX l i - cX l (i - 1)))) fun _ => Option.bind (some (IntKind.i64.wrap (cY l (i - 1) + IntKind.i64.wrap (Int.tdiv (IntKind.i64.wrap (IntKind.i64.wrap (cY l i - cY l (i - 1)) * IntKind.i64.wrap (x - cX l (i - 1)))) (IntKind.i64.wrap (cX l i - cX l (i - 1))))))) fun x3 => some x3) = some (seg l i x) := by
 obtain ⟨s1, s2⟩ := h.step (i - 1) (by omega);rw [show i - 1 + 1 = i by omega] at s1 s2;have b1 := h.bd hi.2;have b2 := h.bd (i := i - 1) (by omega);have sf := Q9 h hi hx;unfold seg at sf ⊢;have h0 : 0 ≤ (cY l i - cY l (i - 1)) * (x - cX l (i - 1)) := Int.mul_nonneg (by omega) (by omega);have h2 := Yv (a := 65535) (b := 65535) (x := cY l i - cY l (i - 1)) (y := x - cX l (i - 1)) (by omega) (by omega);rw [iE (x := cX l i - cX l (i - 1)) (by omega), iE (x := cY l i - cY l (i - 1)) (by omega), iE (x := x - cX l (i - 1)) (by omega), iE (x := (cY l i - cY l (i - 1)) * (x - cX l (i - 1))) (by omega)];rw [Int.tdiv_eq_ediv_of_nonneg h0, iE (x := _ / _) (by omega), iE (by omega), Nl (by omega)]
 rfl
theorem Ra (N : Nat) (x : Int) (kk) : ∀ (d i j fuel : Nat), j - i ≤ d → i ≤ j → j ≤ l.length → d < fuel → (∀ k, k < i → cX l k ≤ x) → (∀ k, j ≤ k → k < l.length → x < cX l k) →
  ∃ r : Nat, r ≤ l.length ∧ (∀ k, k < r → cX l k ≤ x) ∧ (∀ k, r ≤ k → k < l.length → x < cX l k) ∧ fT N l x kk fuel ((i : Int), (j : Int)) = kk ((r : Int), (r : Int)) := by
 have hlen := h.len;intro d
 induction d with
 | zero =>
  intro i j fuel hd hij hj hf h1 h2;obtain ⟨fuel, rfl⟩ := mN fuel (by omega);obtain rfl : i = j := by omega
  refine ⟨i, hj, h1, h2, ?_⟩;unfold fT;rw [cF (dF (by omega))]
 | succ d ih =>
  intro i j fuel hd hij hj hf h1 h2;obtain ⟨fuel, rfl⟩ := mN fuel (by omega)
  by_cases hlt : i < j
  ·unfold fT
   have hh : IntKind.i64.wrap (dP .u64 (IntKind.u64.wrap (IntKind.i64.wrap ((i : Int) + j))) 1) = (((i + j) / 2 : Nat) : Int) := by
    rw [iE (x := (i : Int) + j) (by omega), IntWalk.u64_in _ (by omega)]
    have : dP .u64 ((i : Int) + j) 1 = ((i : Int) + j) / 2 := by
     unfold dP;exact Int.fdiv_eq_ediv_of_nonneg _ (by decide)
    rw [this, iE (by omega)]
    omega
   rw [cT (dT (by omega)), hh, aC];obtain ⟨m, hm⟩ : ∃ m, (i + j) / 2 = m := ⟨_, rfl⟩
   have hm1 : i ≤ m ∧ m < j := by omega
   rw [hm];unfold CG;rw [tM l (show m < l.length by omega), aC, aC]
   by_cases hc : x < cX l m
   ·rw [cF (by simp only [cX] at hc; rw [dT hc]; rfl)]
    exact ih i m fuel (by omega) (by omega) (by omega) (by omega) h1 fun k hk hk' => by
     have := (h.mono hk hk').1; omega
   ·rw [cT (by simp only [cX] at hc; rw [dF hc]; rfl), aC, iE (by omega)]
    exact ih (m + 1) j fuel (by omega) (by omega) (by omega) (by omega) (fun k hk => by
     have := (h.mono (i := k) (j := m) (by omega) (by omega)).1; omega) h2
  ·obtain rfl : i = j := by omega
   refine ⟨i, hj, h1, h2, ?_⟩;unfold fT;rw [cF (dF (by omega))]
theorem aAV (N : Nat) (hN : 5000 ≤ N) {x : Int} (hx : 0 ≤ x ∧ x ≤ 65535) : ∃ i, (1 ≤ i ∧ i < l.length) ∧ (cX l (i - 1) ≤ x ∧ x ≤ cX l i) ∧ yF N l x = some (seg l i x) := by
 have hlen := h.len;have hx0 := h.x0;have hxn := h.xn;unfold yF pC;obtain ⟨r, hr, h1, h2, e⟩ := Ra h N x (fun (i4, j2) => some i4) l.length 0 l.length N (by omega) (by omega) (Nat.le_refl _) (by omega) (fun k hk => by omega) (fun k hk hk' => by omega);have e' : fT N l x (fun (i4, j2) => some i4) N (0, (l.length : Int)) = some (r : Int) := e
 have hr1 : 1 ≤ r := by
  by_cases h0 : r = 0
  ·have := h2 0 (by omega) (by omega); omega
  ·omega
 rw [e', aC];have il := Jk l (by omega)
 by_cases hn : r = l.length
 ·subst hn;rw [cT (dT rfl), il, aC];have hle := h1 (l.length - 1) (by omega);have hxe : x = cX l (l.length - 1) := by omega
  have hm := (h.mono (i := l.length - 1 - 1) (j := l.length - 1) (by omega) (by omega)).1;refine ⟨l.length - 1, by omega, by omega, ?_⟩;rw [hxe, La h (by omega)]
  rfl
 ·rw [cF (dF (by omega)), iE (x := (r : Int) - 1) (by omega), show (r : Int) - 1 = ((r - 1 : Nat) : Int) by omega, tM l (show r - 1 < l.length by omega), tM l (show r < l.length by omega), aC, aC];have hx' : cX l (r - 1) ≤ x ∧ x ≤ cX l r := ⟨h1 _ (by omega), by have := h2 r (Nat.le_refl _) (by omega); omega⟩
  exact ⟨r, by omega, hx', Nm h (by omega) hx'⟩
theorem O4 (N : Nat) {x : Int} (hx : 0 ≤ x ∧ x ≤ 65535) (kk) : ∀ (d i fuel : Nat), i + d = l.length → d ≤ fuel → 1 ≤ i → i < l.length → (cX l (i - 1) ≤ x) →
  ∃ r : Nat, (1 ≤ r ∧ r < l.length) ∧ (cX l (r - 1) ≤ x ∧ x ≤ cX l r) ∧ oO N l x kk fuel (i : Int) = kk (r : Int) := by
 have hlen := h.len;have hxn := h.xn;intro d
 induction d with
 | zero => intro i fuel hd hf h1 h2 h3; omega
 | succ d ih =>
  intro i fuel hd hf h1 h2 h3;obtain ⟨fuel, rfl⟩ := mN fuel (by omega);unfold oO;rw [tM l h2, aC]
  by_cases hc : cX l i < x
  ·rw [cT (by simp only [cX] at hc; rw [dT hc]), aC, iE (by omega)];have hne : i ≠ l.length - 1 := fun e => by rw [e] at hc; omega
   exact ih (i + 1) fuel (by omega) (by omega) (by omega) (by omega) (by show cX l i ≤ x; omega)
  ·rw [cF (by simp only [cX] at hc; rw [dF hc])];exact ⟨i, ⟨h1, h2⟩, ⟨h3, by omega⟩, rfl⟩
theorem O5 (N : Nat) (hN : 5000 ≤ N) {x : Int} (hx : 0 ≤ x ∧ x ≤ 65535) : ∃ i, (1 ≤ i ∧ i < l.length) ∧ (cX l (i - 1) ≤ x ∧ x ≤ cX l i) ∧ qT N l x = some (seg l i x) := by
 have hlen := h.len;unfold qT
 obtain ⟨r, hr, hx', e⟩ := O4 h N hx (fun i4 => Option.bind (idx l (IntKind.i64.wrap (i4 - 1))) fun e3 =>
  Option.bind (idx l i4) fun e4 => Option.bind (nz (IntKind.i64.wrap (e4.1 - e3.1))) fun _ =>
  Option.bind (some (IntKind.i64.wrap (e3.2 + (IntKind.i64.wrap (Int.tdiv (IntKind.i64.wrap ((IntKind.i64.wrap (e4.2 - e3.2)) * (IntKind.i64.wrap (x - e3.1)))) (IntKind.i64.wrap (e4.1 - e3.1))))))) fun x3 => some x3) (l.length - 1) 1 N (by omega) (by omega) (by omega) (by omega) (by show cX l 0 ≤ x; rw [h.x0]; exact hx.1)
 refine ⟨r, hr, hx', e.trans ?_⟩;rw [iE (x := (r : Int) - 1) (by omega), show (r : Int) - 1 = ((r - 1 : Nat) : Int) by omega, tM l (show r - 1 < l.length by omega), tM l (show r < l.length by omega), aC, aC];exact Nm h hr hx'
end
theorem VH {l : List Pt} (h : tZ l) {x : Int} (hx : 0 ≤ x ∧ x ≤ 65535) : ∃ v, yF 8589934592 l x = some v ∧ qT 8589934592 l x = some v := by
 obtain ⟨i, a, b, e⟩ := aAV h 8589934592 (by omega) hx;obtain ⟨j, a', b', e'⟩ := O5 h 8589934592 (by omega) hx;exact ⟨_, e, by rw [e', VG h a' a b' b]⟩
def onV (l : List Pt) (x : Int) : Int := (yF 8589934592 l x).getD 0
theorem Tn {l : List Pt} (h : tZ l) {x : Int} (hx : 0 ≤ x ∧ x ≤ 65535) : yF 8589934592 l x = some (onV l x) ∧ qT 8589934592 l x = some (onV l x) := by
 obtain ⟨v, e, e'⟩ := VH h hx;unfold onV;rw [e, e'];exact ⟨rfl, rfl⟩
theorem To {l : List Pt} {b : Bool} (hb : mJ 8589934592 l = some b) (hc : b = true ↔ tZ l) (x : Int) : zB 8589934592 l x = some (if b = false then (0, 1) else if 0 ≤ x ∧ x ≤ 65535 then (onV l x, 0) else (0, 3)) := by
 unfold zB;rw [hb, aC];cases b
 ·rfl
 have h := hc.1 rfl;rw [cF (by rfl), if_neg (by simp)]
 by_cases h1 : x < 0
 ·rw [cT (dT h1), if_neg (by omega)]
 rw [cF (dF h1)]
 by_cases h2 : 65535 < x
 ·rw [cT (dT h2), if_neg (by omega)]
 rw [cF (dF h2), (Tn h (by omega)).1, if_pos (by omega)]; rfl
theorem Jl (l : List Pt) : ∃ b, mJ 8589934592 l = some b ∧ g9 8589934592 l = some b ∧ (b = true ↔ tZ l) := by
 obtain ⟨b, hb, hc⟩ := right_eq 8589934592 l (by omega);obtain ⟨b', hb', hc'⟩ := LU 8589934592 l (by omega);have : b' = b := Bool.eq_iff_iff.2 (hc'.trans hc.symm);exact ⟨b, hb, by rw [hb', this], hc⟩
end
end Go.Proofs.YtpmnfhifmmfglacGreatDoor
