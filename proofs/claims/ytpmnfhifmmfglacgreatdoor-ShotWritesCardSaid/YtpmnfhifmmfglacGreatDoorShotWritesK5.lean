/- Texts of the claim ShotWrites, joined and made small by a program. -/
import Derived.Test.YtpmnfhifmmfglacGreatDoorShotWritesK3
import Derived.Test.YtpmnfhifmmfglacGreatDoorShotWritesK4
set_option linter.unusedVariables false
set_option linter.unusedSimpArgs false
set_option linter.unusedSectionVars false
set_option maxRecDepth 100000
set_option maxHeartbeats 8000000
namespace Go.Proofs.YtpmnfhifmmfglacGreatDoor
section
def Ef (N : Nat) (n v0 v1 : Int) : Option Bool :=
 cond (decide (n < v0)) (
 some true) (
 some (decide (v1 < n)))
def iV (N : Nat) (s : List Int) (yT yU : Int) (kk : Int → Option Int) : Nat → Int → Option Int
 | 0, _ => none
 | fuel + 1, i =>
  cond (decide (i < (s.length : Int))) (
  (idx s i).bind fun e2 =>
  (Ef N e2 yT yU).bind fun r3 =>
  cond (r3) (
  some i) (
  iV N s yT yU kk fuel (IntKind.i64.wrap (i + 1)))) (
  kk i)
def jT (N : Nat) (s : List Int) (yT yU : Int) : Option Int :=
 iV N s yT yU (fun i2 =>
 some ((-1))) N 0
def iW (N : Nat) (s : List Int) (yT yU : Int) : Option Bool :=
 (jT N s yT yU).bind fun r2 =>
 some (decide (0 ≤ r2))
def nG (N : Nat) (low high : Int) (l2 : List Int) : Option Bool :=
 (iW N l2 low high).bind fun r2 =>
 some (!(r2))
def AI (N : Nat) (Pr Ps v0 v1 : Int) : Option Bool :=
 (nG N 0 (IntKind.i64.wrap (v0 - 1)) ([Pr] : List Int)).bind fun r2 =>
 cond (!(r2)) (
 some true) (
 (nG N 0 (IntKind.i64.wrap (v1 - 1)) ([Ps] : List Int)).bind fun r3 =>
 some (!(r3)))
def fS (N : Nat) (s : List (Int × Int)) (oY oZ : Int) (kk : Int → Option Int) : Nat → Int → Option Int
 | 0, _ => none
 | fuel + 1, i =>
  cond (decide (i < (s.length : Int))) (
  (idx s i).bind fun e2 =>
  (AI N e2.1 e2.2 oY oZ).bind fun r3 =>
  cond (r3) (
  some i) (
  fS N s oY oZ kk fuel (IntKind.i64.wrap (i + 1)))) (
  kk i)
def fZ (N : Nat) (s : List (Int × Int)) (oY oZ : Int) : Option Int :=
 fS N s oY oZ (fun i2 =>
 some ((-1))) N 0
def fT (N : Nat) (s : List (Int × Int)) (oY oZ : Int) : Option Bool :=
 (fZ N s oY oZ).bind fun r2 =>
 some (decide (0 ≤ r2))
def An (N : Nat) (l2 : List (Int × Int)) (w2 h2 : Int) : Option Bool :=
 (fT N l2 w2 h2).bind fun r2 =>
 some (!(r2))
def yV (N : Nat) (d l2 : List (Int × Int)) (kk : Int → Option Bool) : Nat → Int → Option Bool
 | 0, _ => none
 | fuel + 1, i =>
  cond (decide (i < (l2.length : Int))) (
  (idx d i).bind fun e9 =>
  (idx d (IntKind.i64.wrap (i + 1))).bind fun e10 =>
  cond (decide (e10.1 ≤ e9.1)) (
  some false) (
  (idx d i).bind fun e11 =>
  (idx d (IntKind.i64.wrap (i + 1))).bind fun e12 =>
  cond (decide (e12.2 < e11.2)) (
  some false) (
  yV N d l2 kk fuel (IntKind.i64.wrap (i + 1))))) (
  kk i)
def Ao (N : Nat) (d : List (Int × Int)) : Option Bool :=
 cond (decide ((d.length : Int) < 2)) (
 some false) (
 cond (decide (16 < (d.length : Int))) (
 some false) (
 (idx d 0).bind fun e =>
 cond (!decide (e.1 = 0)) (
 some false) (
 (idx d (IntKind.i64.wrap ((d.length : Int) - 1))).bind fun e2 =>
 cond (!decide (e2.1 = 65535)) (
 some false) (
 (idx d 0).bind fun e3 =>
 cond (decide (e3.2 < 0)) (
 some false) (
 (idx d (IntKind.i64.wrap ((d.length : Int) - 1))).bind fun e4 =>
 cond (decide (65535 < e4.2)) (
 some false) (
 (DG d 1 (d.length : Int)).bind fun l2 =>
 yV N d l2 (fun i2 =>
 some true) N 0))))))
def Eg (N : Nat) (i : Int) (v0 : List (Int × Int)) (v1 : Int) : Option Bool :=
 (idx v0 i).bind fun e =>
 some (decide (v1 < e.1))
def lB (N : Nat) (Ci : List (Int × Int)) (Eh : Int) (kk : (Int × Int) → Option Int) : Nat → (Int × Int) → Option Int
 | 0, _ => none
 | fuel + 1, (i, j) =>
  cond (decide (i < j)) (
  (some (IntKind.i64.wrap (iZ .u64 (IntKind.u64.wrap (IntKind.i64.wrap (i + j))) 1))).bind fun h3 =>
  (Eg N h3 Ci Eh).bind fun r3 =>
  cond (!(r3)) (
  (some (IntKind.i64.wrap (h3 + 1))).bind fun i3 =>
  lB N Ci Eh kk fuel (i3, j)) (
  lB N Ci Eh kk fuel (i, h3))) (
  kk (i, j))
def pH (N : Nat) (n : Int) (Ci : List (Int × Int)) (Eh : Int) : Option Int :=
 lB N Ci Eh (fun (i4, j2) =>
 some i4) N (0, n)
def AA (N : Nat) (l2 : List (Int × Int)) (x2 : Int) : Option Int :=
 (pH N (l2.length : Int) l2 x2).bind fun r2 =>
 cond (decide (r2 = (l2.length : Int))) (
 (idx l2 (IntKind.i64.wrap (r2 - 1))).bind fun e =>
 some e.2) (
 (idx l2 (IntKind.i64.wrap (r2 - 1))).bind fun e2 =>
 (idx l2 r2).bind fun e3 =>
 (nz (IntKind.i64.wrap (e3.1 - e2.1))).bind fun _ =>
 (some (IntKind.i64.wrap (e2.2 + (IntKind.i64.wrap (Int.tdiv (IntKind.i64.wrap ((IntKind.i64.wrap (e3.2 - e2.2)) * (IntKind.i64.wrap (x2 - e2.1)))) (IntKind.i64.wrap (e3.1 - e2.1))))))).bind fun x3 =>
 some x3)
def Dg (N : Nat) (l2 : List (Int × Int)) (x2 : Int) : Option (Int × Int) :=
 (Ao N l2).bind fun r2 =>
 cond (!(r2)) (
 some (0, 1)) (
 cond (decide (x2 < 0)) (
 some (0, 3)) (
 cond (decide (65535 < x2)) (
 some (0, 3)) (
 (AA N l2 x2).bind fun r3 =>
 some (r3, 0))))
def sP (N : Nat) (na nb0 lW lX lY nc : Int) (nd : List (Int × Int)) (mH ne1 mL mM mN mO mP mQ mR mS mT nf8 : Int) (ng : List (Int × Int)) (nh : Int) : Option Int :=
 (nG N 0 3 ([na] : List Int)).bind fun r2 =>
 cond (!(r2)) (
 some 3) (
 (nG N 1 65535 ([nc] : List Int)).bind fun r3 =>
 cond (!(r3)) (
 some 3) (
 (nG N 0 (IntKind.i64.wrap (nc - 1)) ([nb0, lW, lX, lY])).bind fun r4 =>
 cond (!(r4)) (
 some 3) (
 cond (decide (64 < (nd.length : Int))) (
 some 3) (
 (An N nd 64 64).bind fun r5 =>
 cond (!(r5)) (
 some 3) (
 (nG N 0 65535 ([mH, ne1, mL])).bind fun r6 =>
 cond (!(r6)) (
 some 3) (
 (nG N (-32768) 32768 ([mM, mN, mO, mP, mQ, mR, mS, mT, nf8])).bind fun r7 =>
 cond (!(r7)) (
 some 3) (
 (nG N 0 1024 ([nh] : List Int)).bind fun r8 =>
 cond (!(r8)) (
 some 3) (
 (Dg N ng 0).bind fun r9 =>
 some r9.2))))))))
def rW (N : Nat) (nd : List (Int × Int)) (top rows : Int) (kk : (List (Int × Int) × Int) → Option (Int × Int × Int × Int × Int × Int × List (Int × Int) × Int × Int × Int × Int × Int × Int × Int × Int × Int × Int × Int × Int × List (Int × Int) × Int)) : Nat → (List (Int × Int) × Int) → Option (Int × Int × Int × Int × Int × Int × List (Int × Int) × Int × Int × Int × Int × Int × Int × Int × Int × Int × Int × Int × Int × List (Int × Int) × Int)
 | 0, _ => none
 | fuel + 1, (l3, i) =>
  cond (decide (i < (nd.length : Int))) (
  (idx nd i).bind fun e3 =>
  cond (decide (top ≤ e3.2)) (
  cond (decide (e3.2 < (IntKind.i64.wrap (top + rows)))) (
  (app 16 l3 (([(e3.1, IntKind.i64.wrap (e3.2 - top))] : List (Int × Int)))).bind fun l5 =>
  rW N nd top rows kk fuel (l5, IntKind.i64.wrap (i + 1))) (
  rW N nd top rows kk fuel (l3, IntKind.i64.wrap (i + 1)))) (
  rW N nd top rows kk fuel (l3, IntKind.i64.wrap (i + 1)))) (
  kk (l3, i))
def rX (N : Nat) (nd : List (Int × Int)) (top rows : Int) (kk : (List (Int × Int) × Int) → Option (Int × Int × Int × Int × Int × Int × List (Int × Int) × Int × Int × Int × Int × Int × Int × Int × Int × Int × Int × Int × Int × List (Int × Int) × Int)) : Nat → (List (Int × Int) × Int) → Option (Int × Int × Int × Int × Int × Int × List (Int × Int) × Int × Int × Int × Int × Int × Int × Int × Int × Int × Int × Int × Int × List (Int × Int) × Int)
 | 0, _ => none
 | fuel + 1, (l8, i3) =>
  cond (decide (i3 < (nd.length : Int))) (
  (idx nd i3).bind fun e6 =>
  cond (decide (top ≤ e6.2)) (
  cond (decide (e6.2 < (IntKind.i64.wrap (top + rows)))) (
  (app 16 l8 (([(e6.1, IntKind.i64.wrap (e6.2 - top))] : List (Int × Int)))).bind fun l10 =>
  rX N nd top rows kk fuel (l10, IntKind.i64.wrap (i3 + 1))) (
  rX N nd top rows kk fuel (l8, IntKind.i64.wrap (i3 + 1)))) (
  rX N nd top rows kk fuel (l8, IntKind.i64.wrap (i3 + 1)))) (
  kk (l8, i3))
def Ei (N : Nat) (na nb0 lW lX lY nc : Int) (nd : List (Int × Int)) (mH ne1 mL mM mN mO mP mQ mR mS mT nf8 : Int) (ng : List (Int × Int)) (nh top rows : Int) : Option (Int × Int × Int × Int × Int × Int × List (Int × Int) × Int × Int × Int × Int × Int × Int × Int × Int × Int × Int × Int × Int × List (Int × Int) × Int) :=
 cond (decide ((Int.tmod top 2) = 1)) (
 rW N nd top rows (fun (l6, i2) =>
 some (PO .i64 na 2, lX, lY, nb0, lW, nc, l6, mH, ne1, mL, mM, mN, mO, mP, mQ, mR, mS, mT, nf8, ng, nh)) N (([] : List (Int × Int)), 0)) (
 rX N nd top rows (fun (Ln, i4) =>
 some (na, nb0, lW, lX, lY, nc, Ln, mH, ne1, mL, mM, mN, mO, mP, mQ, mR, mS, mT, nf8, ng, nh)) N (([] : List (Int × Int)), 0))
def w9 (N : Nat) (gL : List Int) (kk : Int → Option Bool) : Nat → Int → Option Bool
 | 0, _ => none
 | fuel + 1, i =>
  cond (decide (i < (gL.length : Int))) (
  (idx gL i).bind fun e2 =>
  cond (decide (e2 < 0)) (
  some false) (
  cond (decide (65535 < e2)) (
  some false) (
  w9 N gL kk fuel (IntKind.i64.wrap (i + 1))))) (
  kk i)
def yC (N : Nat) (iR kL : Int) (gL : List Int) : Option Bool :=
 cond (decide (iR < 1)) (
 some false) (
 cond (decide (64 < iR)) (
 some false) (
 cond (decide (kL < 1)) (
 some false) (
 cond (decide (64 < kL)) (
 some false) (
 cond (!decide ((gL.length : Int) = (IntKind.i64.wrap (iR * kL)))) (
 some false) (
 w9 N gL (fun i2 =>
 some true) N 0)))))
def xA (N : Nat) (n x2 y MG MH MI P7 v1 : Int) : Option Int :=
 (inr (FY .i64 (oG .i64 (F4 .i64 y 1) 1) (F4 .i64 x2 1)) 4).bind fun _ =>
 (idx [MG, MH, MI, P7] (FY .i64 (oG .i64 (F4 .i64 y 1) 1) (F4 .i64 x2 1))).bind fun e =>
 (nz (IntKind.i64.wrap (v1 - e))).bind fun _ =>
 some (IntKind.i64.wrap (Int.tdiv (IntKind.i64.wrap ((max (IntKind.i64.wrap (n - e)) 0) * 65535)) (IntKind.i64.wrap (v1 - e))))
def jD (N : Nat) (iR : Int) (gL : List Int) (uB uC uD uE xB : Int) (kk : (List Int × Int) → Option (Int × Int × List Int)) : Nat → (List Int × Int) → Option (Int × Int × List Int)
 | 0, _ => none
 | fuel + 1, (cP, i) =>
  cond (decide (i < (gL.length : Int))) (
  (idx gL i).bind fun e3 =>
  (nz iR).bind fun _ =>
  (nz iR).bind fun _ =>
  (xA N e3 (Int.tmod i iR) (IntKind.i64.wrap (Int.tdiv i iR)) uB uC uD uE xB).bind fun r3 =>
  (idx cP i).bind fun e4 =>
  (BW cP i (min r3 65535)).bind fun l4 =>
  jD N iR gL uB uC uD uE xB kk fuel (l4, IntKind.i64.wrap (i + 1))) (
  kk (cP, i))
def nB (N : Nat) (iR kL : Int) (gL : List Int) (uB uC uD uE xB : Int) : Option (Int × Int × List Int) :=
 (some ((gL.length : Int))).bind fun x2 =>
 (mk 8 x2 (0 : Int)).bind fun l2 =>
 jD N iR gL uB uC uD uE xB (fun (nC, i2) =>
 some (iR, kL, nC)) N (l2, 0)
def vM (N : Nat) (AJ AK AL AM white : Int) (kk : Int → Option (Int × Int × List Int × Int)) : Nat → Int → Option (Int × Int × List Int × Int)
 | 0, _ => none
 | fuel + 1, i =>
  cond (decide (i < 4)) (
  (idx [AJ, AK, AL, AM] i).bind fun e2 =>
  cond (decide (e2 < 0)) (
  some (0, 0, ([] : List Int), 3)) (
  cond (decide (white ≤ e2)) (
  some (0, 0, ([] : List Int), 3)) (
  cond (decide (65535 < white)) (
  some (0, 0, ([] : List Int), 3)) (
  vM N AJ AK AL AM white kk fuel (IntKind.i64.wrap (i + 1)))))) (
  kk i)
def AN (N : Nat) (iR kL : Int) (gL : List Int) (AJ AK AL AM white : Int) : Option (Int × Int × List Int × Int) :=
 (yC N iR kL gL).bind fun r2 =>
 cond (!(r2)) (
 some (0, 0, ([] : List Int), 1)) (
 vM N AJ AK AL AM white (fun i2 =>
 (nB N iR kL gL AJ AK AL AM white).bind fun r3 =>
 some (r3.1, r3.2.1, r3.2.2, 0)) N 0)
def vN (N : Nat) (Ga wE wF wG wH G4 : Int) (snd : List (Int × Int)) (wI wJ wK wL wM wN wO wP wQ wR wS wT : Int) (CL : List (Int × Int)) (G5 iR kL : Int) (gL : List Int) (dI fP : Int) (dQ : List (Int × Int × Int)) : Option (Int × Int × List Int × Int × Int × List (Int × Int × Int) × Int) :=
 (AN N iR kL gL wE wF wG wH G4).bind fun r2 =>
 some (r2.1, r2.2.1, r2.2.2.1, dI, fP, dQ, r2.2.2.2)
def uF (N : Nat) (Ga wE wF wG wH G4 : Int) (snd : List (Int × Int)) (wI wJ wK wL wM wN wO wP wQ wR wS wT : Int) (CL : List (Int × Int)) (G5 iR kL : Int) (gL : List Int) (dI fP : Int) (dQ : List (Int × Int × Int)) : Option (Int × Int × List Int × Int × Int × List (Int × Int × Int) × Int) :=
 (nI N iR kL gL snd).bind fun r2 =>
 some (r2.1, r2.2.1, r2.2.2.1, dI, fP, dQ, r2.2.2.2)
def tX (N : Nat) (phase x2 y : Int) : Option Int :=
 some (IntKind.i64.wrap ((F4 .i64 (IntKind.i64.wrap (x2 + phase)) 1) + (F4 .i64 (IntKind.i64.wrap (y + (iZ .i64 phase 1))) 1)))
def yW (N : Nat) (n x2 y MG MH MI v1 : Int) : Option Int :=
 (tX N v1 x2 y).bind fun r2 =>
 (inr r2 3).bind fun _ =>
 (idx [MG, MH, MI] r2).bind fun e =>
 some (iZ .i64 (IntKind.i64.wrap (n * e)) 8)
def jP (N : Nat) (iR : Int) (gL : List Int) (xC xD xE AO : Int) (kk : (List Int × Int) → Option (Int × Int × List Int)) : Nat → (List Int × Int) → Option (Int × Int × List Int)
 | 0, _ => none
 | fuel + 1, (cP, i) =>
  cond (decide (i < (gL.length : Int))) (
  (idx gL i).bind fun e3 =>
  (nz iR).bind fun _ =>
  (nz iR).bind fun _ =>
  (yW N e3 (Int.tmod i iR) (IntKind.i64.wrap (Int.tdiv i iR)) xC xD xE AO).bind fun r3 =>
  (idx cP i).bind fun e4 =>
  (BW cP i (min r3 65535)).bind fun l4 =>
  jP N iR gL xC xD xE AO kk fuel (l4, IntKind.i64.wrap (i + 1))) (
  kk (cP, i))
def nJ (N : Nat) (iR kL : Int) (gL : List Int) (xC xD xE AO : Int) : Option (Int × Int × List Int) :=
 (some ((gL.length : Int))).bind fun x2 =>
 (mk 8 x2 (0 : Int)).bind fun l2 =>
 jP N iR gL xC xD xE AO (fun (nC, i2) =>
 some (iR, kL, nC)) N (l2, 0)
def xF (N : Nat) (phase AP AQ AR : Int) (kk : Int → Option (Int × Int × List Int × Int)) : Nat → Int → Option (Int × Int × List Int × Int)
 | 0, _ => none
 | fuel + 1, i =>
  cond (decide (i < 3)) (
  (idx [AP, AQ, AR] i).bind fun e2 =>
  cond (decide (e2 < 0)) (
  some (0, 0, ([] : List Int), 3)) (
  cond (decide (65535 < e2)) (
  some (0, 0, ([] : List Int), 3)) (
  cond (decide (phase < 0)) (
  some (0, 0, ([] : List Int), 3)) (
  cond (decide (3 < phase)) (
  some (0, 0, ([] : List Int), 3)) (
  xF N phase AP AQ AR kk fuel (IntKind.i64.wrap (i + 1))))))) (
  kk i)
def Cj (N : Nat) (iR kL : Int) (gL : List Int) (phase AP AQ AR : Int) : Option (Int × Int × List Int × Int) :=
 (yC N iR kL gL).bind fun r2 =>
 cond (!(r2)) (
 some (0, 0, ([] : List Int), 1)) (
 xF N phase AP AQ AR (fun i2 =>
 (nJ N iR kL gL AP AQ AR phase).bind fun r3 =>
 some (r3.1, r3.2.1, r3.2.2, 0)) N 0)
def xG (N : Nat) (Ga wE wF wG wH G4 : Int) (snd : List (Int × Int)) (wI wJ wK wL wM wN wO wP wQ wR wS wT : Int) (CL : List (Int × Int)) (G5 iR kL : Int) (gL : List Int) (dI fP : Int) (dQ : List (Int × Int × Int)) : Option (Int × Int × List Int × Int × Int × List (Int × Int × Int) × Int) :=
 (Cj N iR kL gL Ga wI wJ wK).bind fun r2 =>
 some (r2.1, r2.2.1, r2.2.2.1, dI, fP, dQ, r2.2.2.2)
def nK (N : Nat) (phase x2 y : Int) : Option (Int × Int) :=
 cond (decide (phase < 0)) (
 some (0, 3)) (
 cond (decide (3 < phase)) (
 some (0, 3)) (
 cond (decide (x2 < 0)) (
 some (0, 3)) (
 cond (decide (y < 0)) (
 some (0, 3)) (
 (tX N phase (F4 .i64 x2 1) (F4 .i64 y 1)).bind fun r2 =>
 some (r2, 0)))))
def oB (N : Nat) (iD : Int) (jO : List Int) (o u v AS AT AU EO EP EQ : Int) : Option (Int × Int × Int × Int × Int × Int) :=
 (nK N o u v).bind fun r3 =>
 cond (decide (r3.1 = 0)) (
 (idx jO (IntKind.i64.wrap ((IntKind.i64.wrap (v * iD)) + u))).bind fun e4 =>
 cond (decide (r3.1 = 0)) (
 some (IntKind.i64.wrap (AS + 1), AT, AU, IntKind.i64.wrap (EO + e4), EP, EQ)) (
 cond (decide (r3.1 = 1)) (
 some (AS, IntKind.i64.wrap (AT + 1), AU, IntKind.i64.wrap (EO + e4), EP, EQ)) (
 some (AS, AT, IntKind.i64.wrap (AU + 1), IntKind.i64.wrap (EO + e4), EP, EQ)))) (
 cond (decide (r3.1 = 1)) (
 (idx jO (IntKind.i64.wrap ((IntKind.i64.wrap (v * iD)) + u))).bind fun e5 =>
 cond (decide (r3.1 = 0)) (
 some (IntKind.i64.wrap (AS + 1), AT, AU, EO, IntKind.i64.wrap (EP + e5), EQ)) (
 cond (decide (r3.1 = 1)) (
 some (AS, IntKind.i64.wrap (AT + 1), AU, EO, IntKind.i64.wrap (EP + e5), EQ)) (
 some (AS, AT, IntKind.i64.wrap (AU + 1), EO, IntKind.i64.wrap (EP + e5), EQ)))) (
 (idx jO (IntKind.i64.wrap ((IntKind.i64.wrap (v * iD)) + u))).bind fun e6 =>
 cond (decide (r3.1 = 0)) (
 some (IntKind.i64.wrap (AS + 1), AT, AU, EO, EP, IntKind.i64.wrap (EQ + e6))) (
 cond (decide (r3.1 = 1)) (
 some (AS, IntKind.i64.wrap (AT + 1), AU, EO, EP, IntKind.i64.wrap (EQ + e6))) (
 some (AS, AT, IntKind.i64.wrap (AU + 1), EO, EP, IntKind.i64.wrap (EQ + e6))))))
def gO (N : Nat) (iD : Int) (jO : List Int) (o : Int) (s : Int × Int × Int × Int × Int × Int) (q : Int × Int) : Int × Int × Int × Int × Int × Int := (oB N iD jO o q.1 q.2 s.1 s.2.1 s.2.2.1 s.2.2.2.1 s.2.2.2.2.1 s.2.2.2.2.2).getD s
theorem iE {W H : Int} (N : Nat) (iD : Int) (jO : List Int) (o : Int) (pre : List (Se W H)) (q : Se W H) {s r : Int × Int × Int × Int × Int × Int} (hs : List.foldl (gO N iD jO o) (0, 0, 0, 0, 0, 0) (pre.map (·.1)) = s) (hr : oB N iD jO o q.1.1 q.1.2 s.1 s.2.1 s.2.2.1 s.2.2.2.1 s.2.2.2.2.1 s.2.2.2.2.2 = some r) : List.foldl (gO N iD jO o) (0, 0, 0, 0, 0, 0) ((pre ++ [q]).map (·.1)) = r := by
 rw [List.map_append, List.foldl_append, hs];show (oB N iD jO o q.1.1 q.1.2 s.1 s.2.1 s.2.2.1 s.2.2.2.1 s.2.2.2.2.1 s.2.2.2.2.2).getD s = r;rw [hr]; rfl
def fE (N : Nat) (AS AT AU : Int) (kk : (Int × Int × Int × Int) → Option (Int × Int × Int)) : Nat → (Int × Int × Int × Int) → Option (Int × Int × Int)
 | 0, _ => none
 | fuel + 1, (q9, rA, rB, i) =>
  cond (decide (i < 3)) (
  cond (decide (i = 0)) (
  cond (decide (0 < AS)) (
  cond (decide (i = 0)) (
  (nz AS).bind fun _ =>
  fE N AS AT AU kk fuel (IntKind.i64.wrap (Int.tdiv q9 AS), rA, rB, IntKind.i64.wrap (i + 1))) (
  cond (decide (i = 1)) (
  (nz AS).bind fun _ =>
  fE N AS AT AU kk fuel (q9, IntKind.i64.wrap (Int.tdiv rA AS), rB, IntKind.i64.wrap (i + 1))) (
  (nz AS).bind fun _ =>
  fE N AS AT AU kk fuel (q9, rA, IntKind.i64.wrap (Int.tdiv rB AS), IntKind.i64.wrap (i + 1))))) (
  fE N AS AT AU kk fuel (q9, rA, rB, IntKind.i64.wrap (i + 1)))) (
  cond (decide (i = 1)) (
  cond (decide (0 < AT)) (
  cond (decide (i = 0)) (
  (nz AT).bind fun _ =>
  fE N AS AT AU kk fuel (IntKind.i64.wrap (Int.tdiv q9 AT), rA, rB, IntKind.i64.wrap (i + 1))) (
  cond (decide (i = 1)) (
  (nz AT).bind fun _ =>
  fE N AS AT AU kk fuel (q9, IntKind.i64.wrap (Int.tdiv rA AT), rB, IntKind.i64.wrap (i + 1))) (
  (nz AT).bind fun _ =>
  fE N AS AT AU kk fuel (q9, rA, IntKind.i64.wrap (Int.tdiv rB AT), IntKind.i64.wrap (i + 1))))) (
  fE N AS AT AU kk fuel (q9, rA, rB, IntKind.i64.wrap (i + 1)))) (
  cond (decide (0 < AU)) (
  cond (decide (i = 0)) (
  (nz AU).bind fun _ =>
  fE N AS AT AU kk fuel (IntKind.i64.wrap (Int.tdiv q9 AU), rA, rB, IntKind.i64.wrap (i + 1))) (
  cond (decide (i = 1)) (
  (nz AU).bind fun _ =>
  fE N AS AT AU kk fuel (q9, IntKind.i64.wrap (Int.tdiv rA AU), rB, IntKind.i64.wrap (i + 1))) (
  (nz AU).bind fun _ =>
  fE N AS AT AU kk fuel (q9, rA, IntKind.i64.wrap (Int.tdiv rB AU), IntKind.i64.wrap (i + 1))))) (
  fE N AS AT AU kk fuel (q9, rA, rB, IntKind.i64.wrap (i + 1)))))) (
  kk (q9, rA, rB, i))
def CP (N : Nat) (iD : Int) (jO : List Int) (o p2 p3 : Int) : Int × Int × Int × Int × Int × Int → Option (Int × Int × Int)
 | (AS, AT, AU, EO, EP, EQ) =>
  fE N AS AT AU (fun (Kq, Kr, Ks, i2) =>
  (nK N o p2 p3).bind fun r4 =>
  cond (decide (r4.1 = 0)) (
  (idx jO (IntKind.i64.wrap ((IntKind.i64.wrap (p3 * iD)) + p2))).bind fun e7 =>
  some (e7, Kr, Ks)) (
  cond (decide (r4.1 = 1)) (
  (idx jO (IntKind.i64.wrap ((IntKind.i64.wrap (p3 * iD)) + p2))).bind fun e8 =>
  some (Kq, e8, Ks)) (
  (idx jO (IntKind.i64.wrap ((IntKind.i64.wrap (p3 * iD)) + p2))).bind fun e9 =>
  some (Kq, Kr, e9)))) N (EO, EP, EQ, 0)
def AV (N : Nat) (iD lI : Int) (jO : List Int) (o p2 p3 : Int) : Option (Int × Int × Int) :=
 cond (decide (P2 iD lI jO p2 p3)) (CP N iD jO o p2 p3 (List.foldl (gO N iD jO o) (0, 0, 0, 0, 0, 0) (tV iD lI p2 p3))) none
def xH (N : Nat) (iR kL : Int) (gL : List Int) (phase i : Int) (kk : (List (Int × Int × Int) × Int) → Option (Int × Int × List (Int × Int × Int) × Int)) : Nat → (List (Int × Int × Int) × Int) → Option (Int × Int × List (Int × Int × Int) × Int)
 | 0, _ => none
 | fuel + 1, (rC, i3) =>
  cond (decide (i3 < iR)) (
  (AV N iR kL gL phase i3 i).bind fun r5 =>
  (app 24 rC (([(r5.1, r5.2.1, r5.2.2)] : List (Int × Int × Int)))).bind fun Fz =>
  xH N iR kL gL phase i kk fuel (Fz, IntKind.i64.wrap (i3 + 1))) (
  kk (rC, i3))
def xI (N : Nat) (iR kL : Int) (gL : List Int) (phase : Int) (kk : (List (Int × Int × Int) × Int) → Option (Int × Int × List (Int × Int × Int) × Int)) : Nat → (List (Int × Int × Int) × Int) → Option (Int × Int × List (Int × Int × Int) × Int)
 | 0, _ => none
 | fuel + 1, (cP, i) =>
  cond (decide (i < kL)) (
  xH N iR kL gL phase i (fun (FA, i4) =>
  xI N iR kL gL phase kk fuel (FA, IntKind.i64.wrap (i + 1))) N (cP, 0)) (
  kk (cP, i))
def Ck (N : Nat) (iR kL : Int) (gL : List Int) (phase : Int) : Option (Int × Int × List (Int × Int × Int) × Int) :=
 (nI N iR kL gL (([] : List (Int × Int)))).bind fun r2 =>
 cond (!decide (r2.2.2.2 = 0)) (
 some (0, 0, ([] : List (Int × Int × Int)), r2.2.2.2)) (
 cond (decide (phase < 0)) (
 some (0, 0, ([] : List (Int × Int × Int)), 3)) (
 cond (decide (3 < phase)) (
 some (0, 0, ([] : List (Int × Int × Int)), 3)) (
 xI N iR kL gL phase (fun (FB, i5) =>
 some (iR, kL, FB, 0)) N (([] : List (Int × Int × Int)), 0))))
def xJ (N : Nat) (Ga wE wF wG wH G4 : Int) (snd : List (Int × Int)) (wI wJ wK wL wM wN wO wP wQ wR wS wT : Int) (CL : List (Int × Int)) (G5 iR kL : Int) (gL : List Int) (dI fP : Int) (dQ : List (Int × Int × Int)) : Option (Int × Int × List Int × Int × Int × List (Int × Int × Int) × Int) :=
 (Ck N iR kL gL Ga).bind fun r2 =>
 some (iR, kL, gL, r2.1, r2.2.1, r2.2.2.1, r2.2.2.2)
def oC (N : Nat) (dQ : List (Int × Int × Int)) (kk : Int → Option Bool) : Nat → Int → Option Bool
 | 0, _ => none
 | fuel + 1, i =>
  cond (decide (i < (dQ.length : Int))) (
  (idx dQ i).bind fun e2 =>
  cond (decide ((min (min e2.1 e2.2.1) e2.2.2) < 0)) (
  some false) (
  cond (decide (65535 < (max (max e2.1 e2.2.1) e2.2.2))) (
  some false) (
  oC N dQ kk fuel (IntKind.i64.wrap (i + 1))))) (
  kk i)
def tK (N : Nat) (dI fP : Int) (dQ : List (Int × Int × Int)) : Option Bool :=
 cond (decide (dI < 1)) (
 some false) (
 cond (decide (64 < dI)) (
 some false) (
 cond (decide (fP < 1)) (
 some false) (
 cond (decide (64 < fP)) (
 some false) (
 cond (!decide ((dQ.length : Int) = (IntKind.i64.wrap (dI * fP)))) (
 some false) (
 oC N dQ (fun i2 =>
 some true) N 0)))))
def kF (N : Nat) (dI : Int) (dQ : List (Int × Int × Int)) (phase : Int) (kk : (List Int × Int) → Option (Int × Int × List Int × Int)) : Nat → (List Int × Int) → Option (Int × Int × List Int × Int)
 | 0, _ => none
 | fuel + 1, (cP, i) =>
  cond (decide (i < (dQ.length : Int))) (
  (nz dI).bind fun _ =>
  (nz dI).bind fun _ =>
  (nK N phase (Int.tmod i dI) (IntKind.i64.wrap (Int.tdiv i dI))).bind fun r4 =>
  (idx dQ i).bind fun e2 =>
  cond (decide (r4.1 = 0)) (
  (app 8 cP ([e2.1] : List Int)).bind fun MT =>
  kF N dI dQ phase kk fuel (MT, IntKind.i64.wrap (i + 1))) (
  cond (decide (r4.1 = 1)) (
  (app 8 cP ([e2.2.1] : List Int)).bind fun Fz =>
  kF N dI dQ phase kk fuel (Fz, IntKind.i64.wrap (i + 1))) (
  (app 8 cP ([e2.2.2] : List Int)).bind fun FA =>
  kF N dI dQ phase kk fuel (FA, IntKind.i64.wrap (i + 1))))) (
  kk (cP, i))
def lM (N : Nat) (dI fP : Int) (dQ : List (Int × Int × Int)) (phase : Int) : Option (Int × Int × List Int × Int) :=
 (tK N dI fP dQ).bind fun r2 =>
 cond (!(r2)) (
 some (0, 0, ([] : List Int), 1)) (
 cond (decide (phase < 0)) (
 some (0, 0, ([] : List Int), 3)) (
 cond (decide (3 < phase)) (
 some (0, 0, ([] : List Int), 3)) (
 kF N dI dQ phase (fun (FB, i2) =>
 some (dI, fP, FB, 0)) N (([] : List Int), 0))))
def Ap (N : Nat) (n : Int) : Option Int :=
 some (max 0 (min n 65535))
def vO (N : Nat) (Hy Hz HD k MG MH MI P7 Vv Vw Vx Vy Vz : Int) : Option Int :=
 (inr k 9).bind fun _ =>
 (idx [MG, MH, MI, P7, Vv, Vw, Vx, Vy, Vz] k).bind fun e =>
 (inr (IntKind.i64.wrap (k + 1)) 9).bind fun _ =>
 (idx [MG, MH, MI, P7, Vv, Vw, Vx, Vy, Vz] (IntKind.i64.wrap (k + 1))).bind fun e2 =>
 (inr (IntKind.i64.wrap (k + 2)) 9).bind fun _ =>
 (idx [MG, MH, MI, P7, Vv, Vw, Vx, Vy, Vz] (IntKind.i64.wrap (k + 2))).bind fun e3 =>
 (Ap N (iZ .i64 (IntKind.i64.wrap ((IntKind.i64.wrap ((IntKind.i64.wrap (e * Hy)) + (IntKind.i64.wrap (e2 * Hz)))) + (IntKind.i64.wrap (e3 * HD)))) 12)).bind fun r2 =>
 some r2
def Dh (N : Nat) (Hy Hz HD x2 y JU JV JW JX JY JZ J0 J1 J2 : Int) : Option (Int × Int × Int) :=
 (vO N Hy Hz HD 0 JU JV JW JX JY JZ J0 J1 J2).bind fun r2 =>
 (vO N Hy Hz HD 3 JU JV JW JX JY JZ J0 J1 J2).bind fun r3 =>
 (vO N Hy Hz HD 6 JU JV JW JX JY JZ J0 J1 J2).bind fun r4 =>
 some (r2, r3, r4)
def lO (N : Nat) (dI : Int) (dQ : List (Int × Int × Int)) (uG uH uI uJ uK uL uM uN uO : Int) (kk : (List (Int × Int × Int) × Int) → Option (Int × Int × List (Int × Int × Int) × Int)) : Nat → (List (Int × Int × Int) × Int) → Option (Int × Int × List (Int × Int × Int) × Int)
 | 0, _ => none
 | fuel + 1, (cP, i) =>
  cond (decide (i < (dQ.length : Int))) (
  (idx dQ i).bind fun e3 =>
  (nz dI).bind fun _ =>
  (nz dI).bind fun _ =>
  (Dh N e3.1 e3.2.1 e3.2.2 (Int.tmod i dI) (IntKind.i64.wrap (Int.tdiv i dI)) uG uH uI uJ uK uL uM uN uO).bind fun r4 =>
  (idx cP i).bind fun e4 =>
  (BW cP i (r4.1, r4.2.1, r4.2.2)).bind fun l4 =>
  lO N dI dQ uG uH uI uJ uK uL uM uN uO kk fuel (l4, IntKind.i64.wrap (i + 1))) (
  kk (cP, i))
def pZ (N : Nat) (dI fP : Int) (dQ : List (Int × Int × Int)) (uG uH uI uJ uK uL uM uN uO : Int) : Option (Int × Int × List (Int × Int × Int) × Int) :=
 (lM N dI fP dQ 0).bind fun r2 =>
 cond (!decide (r2.2.2.2 = 0)) (
 some (0, 0, ([] : List (Int × Int × Int)), r2.2.2.2)) (
 (some ((dQ.length : Int))).bind fun x2 =>
 (mk 24 x2 ((0, 0, 0) : Int × Int × Int)).bind fun l2 =>
 lO N dI dQ uG uH uI uJ uK uL uM uN uO (fun (nC, i2) =>
 some (dI, fP, nC, 0)) N (l2, 0))
def tL (N : Nat) (m0 m1 m2 m3 m4 m5 m6 m7 m8 : Int) (kk : (Bool × Int) → Option (Int × Int × List (Int × Int × Int) × Int)) : Nat → (Bool × Int) → Option (Int × Int × List (Int × Int × Int) × Int)
 | 0, _ => none
 | fuel + 1, (fine, i) =>
  cond (decide (i < 9)) (
  (idx [m0, m1, m2, m3, m4, m5, m6, m7, m8] i).bind fun e2 =>
  cond (fine) (
  cond (decide ((-32768) ≤ e2)) (
  tL N m0 m1 m2 m3 m4 m5 m6 m7 m8 kk fuel (decide (e2 ≤ 32768), IntKind.i64.wrap (i + 1))) (
  tL N m0 m1 m2 m3 m4 m5 m6 m7 m8 kk fuel (false, IntKind.i64.wrap (i + 1)))) (
  tL N m0 m1 m2 m3 m4 m5 m6 m7 m8 kk fuel (false, IntKind.i64.wrap (i + 1)))) (
  kk (fine, i))
def FC (N : Nat) (dI fP : Int) (dQ : List (Int × Int × Int)) (m0 m1 m2 m3 m4 m5 m6 m7 m8 : Int) : Option (Int × Int × List (Int × Int × Int) × Int) :=
 tL N m0 m1 m2 m3 m4 m5 m6 m7 m8 (fun (S7, i2) =>
 (pZ N dI fP dQ m0 m1 m2 m3 m4 m5 m6 m7 m8).bind fun r2 =>
 cond (decide (r2.2.2.2 = 0)) (
 cond (!(S7)) (
 some (0, 0, ([] : List (Int × Int × Int)), 3)) (
 some (r2.1, r2.2.1, r2.2.2.1, r2.2.2.2))) (
 some (r2.1, r2.2.1, r2.2.2.1, r2.2.2.2))) N (true, 0)
def yX (N : Nat) (Ga wE wF wG wH G4 : Int) (snd : List (Int × Int)) (wI wJ wK wL wM wN wO wP wQ wR wS wT : Int) (CL : List (Int × Int)) (G5 iR kL : Int) (gL : List Int) (dI fP : Int) (dQ : List (Int × Int × Int)) : Option (Int × Int × List Int × Int × Int × List (Int × Int × Int) × Int) :=
 (FC N dI fP dQ wL wM wN wO wP wQ wR wS wT).bind fun r2 =>
 some (iR, kL, gL, r2.1, r2.2.1, r2.2.2.1, r2.2.2.2)
def Cl (N : Nat) (Hy Hz HD x2 y : Int) (v0 : List (Int × Int)) : Option (Int × Int × Int) :=
 (AA N v0 Hy).bind fun r2 =>
 (AA N v0 Hz).bind fun r3 =>
 (AA N v0 HD).bind fun r4 =>
 some (r2, r3, r4)
def lC (N : Nat) (dI : Int) (dQ : List (Int × Int × Int)) (vP : List (Int × Int)) (kk : (List (Int × Int × Int) × Int) → Option (Int × Int × List (Int × Int × Int) × Int)) : Nat → (List (Int × Int × Int) × Int) → Option (Int × Int × List (Int × Int × Int) × Int)
 | 0, _ => none
 | fuel + 1, (cP, i) =>
  cond (decide (i < (dQ.length : Int))) (
  (idx dQ i).bind fun e3 =>
  (nz dI).bind fun _ =>
  (nz dI).bind fun _ =>
  (Cl N e3.1 e3.2.1 e3.2.2 (Int.tmod i dI) (IntKind.i64.wrap (Int.tdiv i dI)) vP).bind fun r4 =>
  (idx cP i).bind fun e4 =>
  (BW cP i (r4.1, r4.2.1, r4.2.2)).bind fun l4 =>
  lC N dI dQ vP kk fuel (l4, IntKind.i64.wrap (i + 1))) (
  kk (cP, i))
def pI (N : Nat) (dI fP : Int) (dQ : List (Int × Int × Int)) (vP : List (Int × Int)) : Option (Int × Int × List (Int × Int × Int) × Int) :=
 (lM N dI fP dQ 0).bind fun r2 =>
 cond (!decide (r2.2.2.2 = 0)) (
 some (0, 0, ([] : List (Int × Int × Int)), r2.2.2.2)) (
 (some ((dQ.length : Int))).bind fun x2 =>
 (mk 24 x2 ((0, 0, 0) : Int × Int × Int)).bind fun l2 =>
 lC N dI dQ vP (fun (nC, i2) =>
 some (dI, fP, nC, 0)) N (l2, 0))
def Ej (N : Nat) (dI fP : Int) (dQ : List (Int × Int × Int)) (l2 : List (Int × Int)) : Option (Int × Int × List (Int × Int × Int) × Int) :=
 (Ao N l2).bind fun r2 =>
 cond (!(r2)) (
 some (0, 0, ([] : List (Int × Int × Int)), 1)) (
 (pI N dI fP dQ l2).bind fun r3 =>
 some (r3.1, r3.2.1, r3.2.2.1, r3.2.2.2))
def xK (N : Nat) (Ga wE wF wG wH G4 : Int) (snd : List (Int × Int)) (wI wJ wK wL wM wN wO wP wQ wR wS wT : Int) (CL : List (Int × Int)) (G5 iR kL : Int) (gL : List Int) (dI fP : Int) (dQ : List (Int × Int × Int)) : Option (Int × Int × List Int × Int × Int × List (Int × Int × Int) × Int) :=
 (Ej N dI fP dQ CL).bind fun r2 =>
 some (iR, kL, gL, r2.1, r2.2.1, r2.2.2.1, r2.2.2.2)
def p6 (N : Nat) (v Sg v0 : Int) : Option Int :=
 (Ap N (IntKind.i64.wrap (v + (iZ .i64 (IntKind.i64.wrap ((IntKind.i64.wrap (v - (iZ .i64 Sg 4))) * v0)) 8)))).bind fun r2 =>
 some r2
def sW (N : Nat) (o p2 tM wU : Int) (vD : List (Int × Int × Int)) (i : Int) (kk : (Int × Int × Int × Int) → Option (Int × Int × Int)) : Nat → (Int × Int × Int × Int) → Option (Int × Int × Int)
 | 0, _ => none
 | fuel + 1, (q9, rA, rB, i3) =>
  cond (decide (i3 ≤ 1)) (
  (some (IntKind.i64.wrap ((IntKind.i64.wrap ((min (max (IntKind.i64.wrap (p2 + i)) 0) (IntKind.i64.wrap (wU - 1))) * tM)) + (min (max (IntKind.i64.wrap (o + i3)) 0) (IntKind.i64.wrap (tM - 1)))))).bind fun x9 =>
  (idx vD x9).bind fun e3 =>
  (some (IntKind.i64.wrap ((IntKind.i64.wrap (2 - (IntKind.i64.wrap (i3 * i3)))) * (IntKind.i64.wrap (2 - (IntKind.i64.wrap (i * i))))))).bind fun x10 =>
  (some (IntKind.i64.wrap (i3 + 1))).bind fun Yc =>
  sW N o p2 tM wU vD i kk fuel (IntKind.i64.wrap (q9 + (IntKind.i64.wrap (x10 * e3.1))), IntKind.i64.wrap (rA + (IntKind.i64.wrap (x10 * e3.2.1))), IntKind.i64.wrap (rB + (IntKind.i64.wrap (x10 * e3.2.2))), Yc)) (
  kk (q9, rA, rB, i3))
def sX (N : Nat) (o p2 tM wU : Int) (vD : List (Int × Int × Int)) (kk : (Int × Int × Int × Int) → Option (Int × Int × Int)) : Nat → (Int × Int × Int × Int) → Option (Int × Int × Int)
 | 0, _ => none
 | fuel + 1, (AS, AT, AU, i) =>
  cond (decide (i ≤ 1)) (
  sW N o p2 tM wU vD i (fun (Kq, Kr, Ks, i4) =>
  (some (IntKind.i64.wrap (i + 1))).bind fun ER =>
  sX N o p2 tM wU vD kk fuel (Kq, Kr, Ks, ER)) N (AS, AT, AU, (-1))) (
  kk (AS, AT, AU, i))
def xL (N : Nat) (UE UF UG o p2 tM wU : Int) (vD : List (Int × Int × Int)) (OX : Int) : Option (Int × Int × Int) :=
 sX N o p2 tM wU vD (fun (UH, UI, UJ, i5) =>
 (p6 N UE UH OX).bind fun r2 =>
 (p6 N UF UI OX).bind fun r3 =>
 (p6 N UG UJ OX).bind fun r4 =>
 some (r2, r3, r4)) N (0, 0, 0, (-1))
def kG (N : Nat) (dI : Int) (dQ : List (Int × Int × Int)) (pJ pK : Int) (mY : List (Int × Int × Int)) (pL : Int) (kk : (List (Int × Int × Int) × Int) → Option (Int × Int × List (Int × Int × Int) × Int)) : Nat → (List (Int × Int × Int) × Int) → Option (Int × Int × List (Int × Int × Int) × Int)
 | 0, _ => none
 | fuel + 1, (cP, i) =>
  cond (decide (i < (dQ.length : Int))) (
  (idx dQ i).bind fun e3 =>
  (nz dI).bind fun _ =>
  (nz dI).bind fun _ =>
  (xL N e3.1 e3.2.1 e3.2.2 (Int.tmod i dI) (IntKind.i64.wrap (Int.tdiv i dI)) pJ pK mY pL).bind fun r4 =>
  (idx cP i).bind fun e4 =>
  (BW cP i (r4.1, r4.2.1, r4.2.2)).bind fun l4 =>
  kG N dI dQ pJ pK mY pL kk fuel (l4, IntKind.i64.wrap (i + 1))) (
  kk (cP, i))
def nT (N : Nat) (dI fP : Int) (dQ : List (Int × Int × Int)) (pJ pK : Int) (mY : List (Int × Int × Int)) (pL : Int) : Option (Int × Int × List (Int × Int × Int) × Int) :=
 (lM N dI fP dQ 0).bind fun r2 =>
 cond (!decide (r2.2.2.2 = 0)) (
 some (0, 0, ([] : List (Int × Int × Int)), r2.2.2.2)) (
 (some ((dQ.length : Int))).bind fun x2 =>
 (mk 24 x2 ((0, 0, 0) : Int × Int × Int)).bind fun l2 =>
 kG N dI dQ pJ pK mY pL (fun (nC, i2) =>
 some (dI, fP, nC, 0)) N (l2, 0))
def AW (N : Nat) (dI fP : Int) (dQ : List (Int × Int × Int)) (amount : Int) : Option (Int × Int × List (Int × Int × Int) × Int) :=
 (nT N dI fP dQ dI fP dQ amount).bind fun r2 =>
 cond (decide (r2.2.2.2 = 0)) (
 cond (decide (amount < 0)) (
 some (0, 0, ([] : List (Int × Int × Int)), 3)) (
 cond (decide (1024 < amount)) (
 some (0, 0, ([] : List (Int × Int × Int)), 3)) (
 some (r2.1, r2.2.1, r2.2.2.1, r2.2.2.2)))) (
 some (r2.1, r2.2.1, r2.2.2.1, r2.2.2.2))
def sY (N : Nat) (Ga wE wF wG wH G4 : Int) (snd : List (Int × Int)) (wI wJ wK wL wM wN wO wP wQ wR wS wT : Int) (CL : List (Int × Int)) (G5 iR kL : Int) (gL : List Int) (dI fP : Int) (dQ : List (Int × Int × Int)) : Option (Int × Int × List Int × Int × Int × List (Int × Int × Int) × Int) :=
 (AW N dI fP dQ G5).bind fun r2 =>
 some (iR, kL, gL, r2.1, r2.2.1, r2.2.2.1, r2.2.2.2)
def Di (N : Nat) (na nb0 lW lX lY nc : Int) (nd : List (Int × Int)) (mH ne1 mL mM mN mO mP mQ mR mS mT nf8 : Int) (ng : List (Int × Int)) (nh iR kL : Int) (gL : List Int) : Option (Int × Int × List (Int × Int × Int) × Int) :=
 (sP N na nb0 lW lX lY nc nd mH ne1 mL mM mN mO mP mQ mR mS mT nf8 ng nh).bind fun r2 =>
 cond (!decide (r2 = 0)) (
 some (0, 0, ([] : List (Int × Int × Int)), r2)) (
 (vN N na nb0 lW lX lY nc nd mH ne1 mL mM mN mO mP mQ mR mS mT nf8 ng nh iR kL gL 0 0 (([] : List (Int × Int × Int)))).bind fun r3 =>
 cond (!decide (r3.2.2.2.2.2.2 = 0)) (
 some (0, 0, ([] : List (Int × Int × Int)), r3.2.2.2.2.2.2)) (
 (uF N na nb0 lW lX lY nc nd mH ne1 mL mM mN mO mP mQ mR mS mT nf8 ng nh r3.1 r3.2.1 r3.2.2.1 r3.2.2.2.1 r3.2.2.2.2.1 (([] : List (Int × Int × Int)))).bind fun r4 =>
 cond (!decide (r4.2.2.2.2.2.2 = 0)) (
 some (0, 0, ([] : List (Int × Int × Int)), r4.2.2.2.2.2.2)) (
 (xG N na nb0 lW lX lY nc nd mH ne1 mL mM mN mO mP mQ mR mS mT nf8 ng nh r4.1 r4.2.1 r4.2.2.1 r4.2.2.2.1 r4.2.2.2.2.1 (([] : List (Int × Int × Int)))).bind fun r5 =>
 cond (!decide (r5.2.2.2.2.2.2 = 0)) (
 some (0, 0, ([] : List (Int × Int × Int)), r5.2.2.2.2.2.2)) (
 (xJ N na nb0 lW lX lY nc nd mH ne1 mL mM mN mO mP mQ mR mS mT nf8 ng nh r5.1 r5.2.1 r5.2.2.1 r5.2.2.2.1 r5.2.2.2.2.1 (([] : List (Int × Int × Int)))).bind fun r6 =>
 cond (!decide (r6.2.2.2.2.2.2 = 0)) (
 some (0, 0, ([] : List (Int × Int × Int)), r6.2.2.2.2.2.2)) (
 (yX N na nb0 lW lX lY nc nd mH ne1 mL mM mN mO mP mQ mR mS mT nf8 ng nh r6.1 r6.2.1 r5.2.2.1 r6.2.2.2.1 r6.2.2.2.2.1 r6.2.2.2.2.2.1).bind fun r7 =>
 cond (!decide (r7.2.2.2.2.2.2 = 0)) (
 some (0, 0, ([] : List (Int × Int × Int)), r7.2.2.2.2.2.2)) (
 (xK N na nb0 lW lX lY nc nd mH ne1 mL mM mN mO mP mQ mR mS mT nf8 ng nh r7.1 r7.2.1 r5.2.2.1 r7.2.2.2.1 r7.2.2.2.2.1 r7.2.2.2.2.2.1).bind fun r8 =>
 cond (!decide (r8.2.2.2.2.2.2 = 0)) (
 some (0, 0, ([] : List (Int × Int × Int)), r8.2.2.2.2.2.2)) (
 (sY N na nb0 lW lX lY nc nd mH ne1 mL mM mN mO mP mQ mR mS mT nf8 ng nh r8.1 r8.2.1 r5.2.2.1 r8.2.2.2.1 r8.2.2.2.2.1 r8.2.2.2.2.2.1).bind fun r9 =>
 cond (!decide (r9.2.2.2.2.2.2 = 0)) (
 some (0, 0, ([] : List (Int × Int × Int)), r9.2.2.2.2.2.2)) (
 some (r9.2.2.2.1, r9.2.2.2.2.1, r9.2.2.2.2.2.1, 0)))))))))
def kR (N : Nat) (s : List (Int × Int × Int)) : Option (List (Int × Int × Int)) :=
 (app 24 (([] : List (Int × Int × Int))) s).bind fun l2 =>
 some l2
def Ek (N : Nat) (da MU MW MX MY dc : Int) (dd : List (Int × Int)) (MZ M5 M6 M7 M8 df2 M9 Na Nb Nc Nd Nf : Int) (dg : List (Int × Int)) (dh sZ yQ : Int) (D4 : List Int) (p2 p3 p4 p5 : Int) : Option (Int × Int × List (Int × Int × Int) × Int) :=
 (sP N da MU MW MX MY dc dd MZ M5 M6 M7 M8 df2 M9 Na Nb Nc Nd Nf dg dh).bind fun r2 =>
 cond (!decide (r2 = 0)) (
 some (0, 0, ([] : List (Int × Int × Int)), r2)) (
 (nI N sZ yQ D4 (([] : List (Int × Int)))).bind fun r3 =>
 cond (!decide (r3.2.2.2 = 0)) (
 some (0, 0, ([] : List (Int × Int × Int)), r3.2.2.2)) (
 (nG N 1 64 ([p3] : List Int)).bind fun r4 =>
 cond (!(r4)) (
 some (0, 0, ([] : List (Int × Int × Int)), 3)) (
 (nG N 0 (IntKind.i64.wrap (p3 - yQ)) ([p2] : List Int)).bind fun r5 =>
 cond (!(r5)) (
 some (0, 0, ([] : List (Int × Int × Int)), 3)) (
 (nG N 0 (IntKind.i64.wrap (p3 - 1)) ([p4] : List Int)).bind fun r6 =>
 cond (!(r6)) (
 some (0, 0, ([] : List (Int × Int × Int)), 3)) (
 (nG N (IntKind.i64.wrap (p4 + 1)) p3 ([p5] : List Int)).bind fun r7 =>
 cond (!(r7)) (
 some (0, 0, ([] : List (Int × Int × Int)), 3)) (
 cond (decide ((max (IntKind.i64.wrap (p4 - 4)) 0) < p2)) (
 some (0, 0, ([] : List (Int × Int × Int)), 3)) (
 cond (decide ((IntKind.i64.wrap (p2 + yQ)) < (min (IntKind.i64.wrap (p5 + 4)) p3))) (
 some (0, 0, ([] : List (Int × Int × Int)), 3)) (
 (An N dd sZ p3).bind fun r8 =>
 cond (!(r8)) (
 some (0, 0, ([] : List (Int × Int × Int)), 3)) (
 (Ei N da MU MW MX MY dc dd MZ M5 M6 M7 M8 df2 M9 Na Nb Nc Nd Nf dg dh p2 yQ).bind fun r9 =>
 (Di N r9.1 r9.2.1 r9.2.2.1 r9.2.2.2.1 r9.2.2.2.2.1 r9.2.2.2.2.2.1 r9.2.2.2.2.2.2.1 r9.2.2.2.2.2.2.2.1 r9.2.2.2.2.2.2.2.2.1 r9.2.2.2.2.2.2.2.2.2.1 r9.2.2.2.2.2.2.2.2.2.2.1 r9.2.2.2.2.2.2.2.2.2.2.2.1 r9.2.2.2.2.2.2.2.2.2.2.2.2.1 r9.2.2.2.2.2.2.2.2.2.2.2.2.2.1 r9.2.2.2.2.2.2.2.2.2.2.2.2.2.2.1 r9.2.2.2.2.2.2.2.2.2.2.2.2.2.2.2.1 r9.2.2.2.2.2.2.2.2.2.2.2.2.2.2.2.2.1 r9.2.2.2.2.2.2.2.2.2.2.2.2.2.2.2.2.2.1 r9.2.2.2.2.2.2.2.2.2.2.2.2.2.2.2.2.2.2.1 dg r9.2.2.2.2.2.2.2.2.2.2.2.2.2.2.2.2.2.2.2.2 sZ yQ D4).bind fun FZ =>
 cond (!decide (FZ.2.2.2 = 0)) (
 some (0, 0, ([] : List (Int × Int × Int)), FZ.2.2.2)) (
 (DG FZ.2.2.1 (IntKind.i64.wrap ((IntKind.i64.wrap (p4 - p2)) * FZ.1)) (IntKind.i64.wrap ((IntKind.i64.wrap (p5 - p2)) * FZ.1))).bind fun l2 =>
 (kR N l2).bind fun wZ =>
 some (FZ.1, IntKind.i64.wrap (p5 - p4), wZ, 0)))))))))))
def xM (N : Nat) (da MU MW MX MY dc : Int) (dd : List (Int × Int)) (MZ M5 M6 M7 M8 df2 M9 Na Nb Nc Nd Nf : Int) (dg : List (Int × Int)) (dh sZ yQ : Int) (D4 : List Int) (p2 : Int) (kk : (List (Int × Int × Int) × Int) → Option (Int × Int × List (Int × Int × Int) × Int)) : Nat → (List (Int × Int × Int) × Int) → Option (Int × Int × List (Int × Int × Int) × Int)
 | 0, _ => none
 | fuel + 1, (zW, i) =>
  cond (decide (i < yQ)) (
  (some (IntKind.i64.wrap (i + (min p2 (IntKind.i64.wrap (yQ - i)))))).bind fun x5 =>
  (some (max (IntKind.i64.wrap (i - 4)) 0)).bind fun x6 =>
  (some (min (IntKind.i64.wrap (x5 + 4)) yQ)).bind fun x7 =>
  (DG D4 (IntKind.i64.wrap (x6 * sZ)) (IntKind.i64.wrap (x7 * sZ))).bind fun l3 =>
  (Ek N da MU MW MX MY dc dd MZ M5 M6 M7 M8 df2 M9 Na Nb Nc Nd Nf dg dh sZ (IntKind.i64.wrap (x7 - x6)) l3 x6 yQ i x5).bind fun r6 =>
  cond (!decide (r6.2.2.2 = 0)) (
  some (0, 0, ([] : List (Int × Int × Int)), r6.2.2.2)) (
  (app 24 zW r6.2.2.1).bind fun El =>
  xM N da MU MW MX MY dc dd MZ M5 M6 M7 M8 df2 M9 Na Nb Nc Nd Nf dg dh sZ yQ D4 p2 kk fuel (El, x5))) (
  kk (zW, i))
def Cm (N : Nat) (da MU MW MX MY dc : Int) (dd : List (Int × Int)) (MZ M5 M6 M7 M8 df2 M9 Na Nb Nc Nd Nf : Int) (dg : List (Int × Int)) (dh sZ yQ : Int) (D4 : List Int) (p2 : Int) : Option (Int × Int × List (Int × Int × Int) × Int) :=
 (sP N da MU MW MX MY dc dd MZ M5 M6 M7 M8 df2 M9 Na Nb Nc Nd Nf dg dh).bind fun r2 =>
 cond (!decide (r2 = 0)) (
 some (0, 0, ([] : List (Int × Int × Int)), r2)) (
 (nI N sZ yQ D4 dd).bind fun r3 =>
 cond (!decide (r3.2.2.2 = 0)) (
 some (0, 0, ([] : List (Int × Int × Int)), r3.2.2.2)) (
 cond (decide (p2 < 1)) (
 some (0, 0, ([] : List (Int × Int × Int)), 3)) (
 xM N da MU MW MX MY dc dd MZ M5 M6 M7 M8 df2 M9 Na Nb Nc Nd Nf dg dh sZ yQ D4 p2 (fun (VT, i2) =>
 some (sZ, yQ, VT, 0)) N (([] : List (Int × Int × Int)), 0))))
def Dj (N : Nat)  : Option (Bool × Bool × Bool × Bool × Bool × Bool × Bool × Bool × Bool × Bool × Bool × Bool × Bool × Bool × Bool × Bool × Bool × Bool × Bool × Bool × Bool × Bool × Bool × Bool × Bool × Bool × Bool) :=
 some (false, false, false, false, false, false, false, true, false, false, true, true, false, false, true, true, false, false, true, true, false, true, true, true, true, false, true)
def rJ (N : Nat) (dI fP : Int) (dQ : List (Int × Int × Int)) (kk : (List (Int × Int × Int) × Int) → Option (Int × Int × List (Int × Int × Int))) : Nat → (List (Int × Int × Int) × Int) → Option (Int × Int × List (Int × Int × Int))
 | 0, _ => none
 | fuel + 1, (cP, i) =>
  cond (decide (i < (dQ.length : Int))) (
  (idx dQ i).bind fun e3 =>
  (nz dI).bind fun _ =>
  (nz dI).bind fun _ =>
  (idx cP (IntKind.i64.wrap ((IntKind.i64.wrap ((Int.tmod i dI) * fP)) + (IntKind.i64.wrap (Int.tdiv i dI))))).bind fun e4 =>
  (BW cP (IntKind.i64.wrap ((IntKind.i64.wrap ((Int.tmod i dI) * fP)) + (IntKind.i64.wrap (Int.tdiv i dI)))) (e3.1, e3.2.1, e3.2.2)).bind fun l4 =>
  rJ N dI fP dQ kk fuel (l4, IntKind.i64.wrap (i + 1))) (
  kk (cP, i))
def AX (N : Nat) (dI fP : Int) (dQ : List (Int × Int × Int)) : Option (Int × Int × List (Int × Int × Int)) :=
 (some ((dQ.length : Int))).bind fun x2 =>
 (mk 24 x2 ((0, 0, 0) : Int × Int × Int)).bind fun l2 =>
 rJ N dI fP dQ (fun (nC, i2) =>
 some (fP, dI, nC)) N (l2, 0)
def Cn (N : Nat) (x2 y tM wU : Int) (vD : List (Int × Int × Int)) : Option Int :=
 some (IntKind.i64.wrap ((IntKind.i64.wrap ((IntKind.i64.wrap ((IntKind.i64.wrap (y * tM)) + tM)) - 1)) - x2))
def kH (N : Nat) (dI : Int) (dQ : List (Int × Int × Int)) (uP uQ : Int) (qJ : List (Int × Int × Int)) (kk : (List (Int × Int × Int) × Int) → Option (Int × Int × List (Int × Int × Int))) : Nat → (List (Int × Int × Int) × Int) → Option (Int × Int × List (Int × Int × Int))
 | 0, _ => none
 | fuel + 1, (cP, i) =>
  cond (decide (i < (dQ.length : Int))) (
  (idx dQ i).bind fun e3 =>
  (nz dI).bind fun _ =>
  (nz dI).bind fun _ =>
  (Cn N (Int.tmod i dI) (IntKind.i64.wrap (Int.tdiv i dI)) uP uQ qJ).bind fun r3 =>
  (idx cP r3).bind fun e4 =>
  (BW cP r3 (e3.1, e3.2.1, e3.2.2)).bind fun l4 =>
  kH N dI dQ uP uQ qJ kk fuel (l4, IntKind.i64.wrap (i + 1))) (
  kk (cP, i))
def lD (N : Nat) (dI fP : Int) (dQ : List (Int × Int × Int)) (uP uQ : Int) (qJ : List (Int × Int × Int)) : Option (Int × Int × List (Int × Int × Int)) :=
 (some ((dQ.length : Int))).bind fun x2 =>
 (mk 24 x2 ((0, 0, 0) : Int × Int × Int)).bind fun l2 =>
 kH N dI dQ uP uQ qJ (fun (nC, i2) =>
 some (dI, fP, nC)) N (l2, 0)
def Co (N : Nat) (x2 y tM wU : Int) (vD : List (Int × Int × Int)) : Option Int :=
 some (IntKind.i64.wrap ((IntKind.i64.wrap ((IntKind.i64.wrap ((IntKind.i64.wrap (wU - 1)) - y)) * tM)) + x2))
def kI (N : Nat) (dI : Int) (dQ : List (Int × Int × Int)) (uR uS : Int) (qK : List (Int × Int × Int)) (kk : (List (Int × Int × Int) × Int) → Option (Int × Int × List (Int × Int × Int))) : Nat → (List (Int × Int × Int) × Int) → Option (Int × Int × List (Int × Int × Int))
 | 0, _ => none
 | fuel + 1, (cP, i) =>
  cond (decide (i < (dQ.length : Int))) (
  (idx dQ i).bind fun e3 =>
  (nz dI).bind fun _ =>
  (nz dI).bind fun _ =>
  (Co N (Int.tmod i dI) (IntKind.i64.wrap (Int.tdiv i dI)) uR uS qK).bind fun r3 =>
  (idx cP r3).bind fun e4 =>
  (BW cP r3 (e3.1, e3.2.1, e3.2.2)).bind fun l4 =>
  kI N dI dQ uR uS qK kk fuel (l4, IntKind.i64.wrap (i + 1))) (
  kk (cP, i))
def g9 (N : Nat) (dI fP : Int) (dQ : List (Int × Int × Int)) (uR uS : Int) (qK : List (Int × Int × Int)) : Option (Int × Int × List (Int × Int × Int)) :=
 (some ((dQ.length : Int))).bind fun x2 =>
 (mk 24 x2 ((0, 0, 0) : Int × Int × Int)).bind fun l2 =>
 kI N dI dQ uR uS qK (fun (nC, i2) =>
 some (dI, fP, nC)) N (l2, 0)
def Cp (N : Nat) (x2 y tM wU : Int) (vD : List (Int × Int × Int)) : Option Int :=
 some (IntKind.i64.wrap ((IntKind.i64.wrap (y * tM)) + x2))
def kJ (N : Nat) (dI : Int) (dQ : List (Int × Int × Int)) (uT uU : Int) (qL : List (Int × Int × Int)) (kk : (List (Int × Int × Int) × Int) → Option (Int × Int × List (Int × Int × Int))) : Nat → (List (Int × Int × Int) × Int) → Option (Int × Int × List (Int × Int × Int))
 | 0, _ => none
 | fuel + 1, (cP, i) =>
  cond (decide (i < (dQ.length : Int))) (
  (idx dQ i).bind fun e3 =>
  (nz dI).bind fun _ =>
  (nz dI).bind fun _ =>
  (Cp N (Int.tmod i dI) (IntKind.i64.wrap (Int.tdiv i dI)) uT uU qL).bind fun r3 =>
  (idx cP r3).bind fun e4 =>
  (BW cP r3 (e3.1, e3.2.1, e3.2.2)).bind fun l4 =>
  kJ N dI dQ uT uU qL kk fuel (l4, IntKind.i64.wrap (i + 1))) (
  kk (cP, i))
def dS (N : Nat) (dI fP : Int) (dQ : List (Int × Int × Int)) (uT uU : Int) (qL : List (Int × Int × Int)) : Option (Int × Int × List (Int × Int × Int)) :=
 (some ((dQ.length : Int))).bind fun x2 =>
 (mk 24 x2 ((0, 0, 0) : Int × Int × Int)).bind fun l2 =>
 kJ N dI dQ uT uU qL (fun (nC, i2) =>
 some (dI, fP, nC)) N (l2, 0)
def yK (N : Nat) (dI fP : Int) (dQ : List (Int × Int × Int)) (how : Int) : Option (Int × Int × List (Int × Int × Int) × Int) :=
 (lM N dI fP dQ 0).bind fun r2 =>
 cond (!decide (r2.2.2.2 = 0)) (
 some (0, 0, ([] : List (Int × Int × Int)), r2.2.2.2)) (
 cond (decide (how < 1)) (
 some (0, 0, ([] : List (Int × Int × Int)), 3)) (
 cond (decide (8 < how)) (
 some (0, 0, ([] : List (Int × Int × Int)), 3)) (
 (Dj N ).bind fun r3 =>
 (idx [(r3.1, r3.2.1, r3.2.2.1), (r3.2.2.2.1, r3.2.2.2.2.1, r3.2.2.2.2.2.1), (r3.2.2.2.2.2.2.1, r3.2.2.2.2.2.2.2.1, r3.2.2.2.2.2.2.2.2.1), (r3.2.2.2.2.2.2.2.2.2.1, r3.2.2.2.2.2.2.2.2.2.2.1, r3.2.2.2.2.2.2.2.2.2.2.2.1), (r3.2.2.2.2.2.2.2.2.2.2.2.2.1, r3.2.2.2.2.2.2.2.2.2.2.2.2.2.1, r3.2.2.2.2.2.2.2.2.2.2.2.2.2.2.1), (r3.2.2.2.2.2.2.2.2.2.2.2.2.2.2.2.1, r3.2.2.2.2.2.2.2.2.2.2.2.2.2.2.2.2.1, r3.2.2.2.2.2.2.2.2.2.2.2.2.2.2.2.2.2.1), (r3.2.2.2.2.2.2.2.2.2.2.2.2.2.2.2.2.2.2.1, r3.2.2.2.2.2.2.2.2.2.2.2.2.2.2.2.2.2.2.2.1, r3.2.2.2.2.2.2.2.2.2.2.2.2.2.2.2.2.2.2.2.2.1), (r3.2.2.2.2.2.2.2.2.2.2.2.2.2.2.2.2.2.2.2.2.2.1, r3.2.2.2.2.2.2.2.2.2.2.2.2.2.2.2.2.2.2.2.2.2.2.1, r3.2.2.2.2.2.2.2.2.2.2.2.2.2.2.2.2.2.2.2.2.2.2.2.1), (r3.2.2.2.2.2.2.2.2.2.2.2.2.2.2.2.2.2.2.2.2.2.2.2.2.1, r3.2.2.2.2.2.2.2.2.2.2.2.2.2.2.2.2.2.2.2.2.2.2.2.2.2.1, r3.2.2.2.2.2.2.2.2.2.2.2.2.2.2.2.2.2.2.2.2.2.2.2.2.2.2)] how).bind fun e =>
 cond (e.1) (
 (AX N dI fP dQ).bind fun r4 =>
 cond (e.2.1) (
 (lD N r4.1 r4.2.1 r4.2.2 r4.1 r4.2.1 r4.2.2).bind fun r5 =>
 cond (e.2.2) (
 (g9 N r5.1 r5.2.1 r5.2.2 r5.1 r5.2.1 r5.2.2).bind fun r6 =>
 (dS N r6.1 r6.2.1 r6.2.2 r6.1 r6.2.1 r6.2.2).bind fun r7 =>
 some (r7.1, r7.2.1, r7.2.2, 0)) (
 (dS N r5.1 r5.2.1 r5.2.2 r5.1 r5.2.1 r5.2.2).bind fun r8 =>
 some (r8.1, r8.2.1, r8.2.2, 0))) (
 cond (e.2.2) (
 (g9 N r4.1 r4.2.1 r4.2.2 r4.1 r4.2.1 r4.2.2).bind fun r9 =>
 (dS N r9.1 r9.2.1 r9.2.2 r9.1 r9.2.1 r9.2.2).bind fun FZ =>
 some (FZ.1, FZ.2.1, FZ.2.2, 0)) (
 (dS N r4.1 r4.2.1 r4.2.2 r4.1 r4.2.1 r4.2.2).bind fun wZ =>
 some (wZ.1, wZ.2.1, wZ.2.2, 0)))) (
 cond (e.2.1) (
 (lD N dI fP dQ dI fP dQ).bind fun rN =>
 cond (e.2.2) (
 (g9 N rN.1 rN.2.1 rN.2.2 rN.1 rN.2.1 rN.2.2).bind fun BX =>
 (dS N BX.1 BX.2.1 BX.2.2 BX.1 BX.2.1 BX.2.2).bind fun D5 =>
 some (D5.1, D5.2.1, D5.2.2, 0)) (
 (dS N rN.1 rN.2.1 rN.2.2 rN.1 rN.2.1 rN.2.2).bind fun Em =>
 some (Em.1, Em.2.1, Em.2.2, 0))) (
 cond (e.2.2) (
 (g9 N dI fP dQ dI fP dQ).bind fun r16 =>
 (dS N r16.1 r16.2.1 r16.2.2 r16.1 r16.2.1 r16.2.2).bind fun E2 =>
 some (E2.1, E2.2.1, E2.2.2, 0)) (
 (dS N dI fP dQ dI fP dQ).bind fun Dk =>
 some (Dk.1, Dk.2.1, Dk.2.2, 0)))))))
def tY (N : Nat) (lens : List Int) (kk : (Int × Int) → Option Int) : Nat → (Int × Int) → Option Int
 | 0, _ => none
 | fuel + 1, (room, i) =>
  cond (decide (i < (lens.length : Int))) (
  (idx lens i).bind fun e2 =>
  cond (decide (e2 < 0)) (
  some 3) (
  cond (decide (15 < e2)) (
  some 3) (
  cond (decide (0 < e2)) (
  (nn (IntKind.i64.wrap (15 - e2))).bind fun _ =>
  (some (IntKind.i64.wrap (room - (oG .i64 1 (IntKind.i64.wrap (15 - e2)))))).bind fun P8 =>
  tY N lens kk fuel (P8, IntKind.i64.wrap (i + 1))) (
  tY N lens kk fuel (room, IntKind.i64.wrap (i + 1)))))) (
  kk (room, i))
def vQ (N : Nat) (lens : List Int) : Option Int :=
 cond (decide ((lens.length : Int) < 1)) (
 some 2) (
 cond (decide (17 < (lens.length : Int))) (
 some 2) (
 tY N lens (fun (P9, i2) =>
 cond (decide (P9 < 0)) (
 some 1) (
 cond (decide (P9 = 32768)) (
 some 1) (
 some 0))) N (32768, 0)))
def E3 (N : Nat) (uV eJ : Int) (AY : Bool → Option Int) : Option Int :=
  cond (decide (eJ < 1)) (
  AY (decide (eJ < 1))) (
  AY (decide (uV < eJ)))
def E4 (N : Nat) (uV dY eJ : Int) (AZ : Bool → Option Int) : Option Int :=
  cond (decide (16 < dY)) (
  AZ (decide (16 < dY))) (
  E3 N uV eJ (fun Pu =>
  AZ Pu))
def E5 (N : Nat) (uV dY eJ : Int) (A1 : Bool → Option Int) : Option Int :=
  cond (decide (dY < 1)) (
  A1 (decide (dY < 1))) (
  E4 N uV dY eJ (fun i12 =>
  A1 i12))
def E6 (N : Nat) (uV dY eJ : Int) (Ba : Bool → Option Int) : Option Int :=
  cond (decide (64 < uV)) (
  Ba (decide (64 < uV))) (
  E5 N uV dY eJ (fun w5 =>
  Ba w5))
def E7 (N : Nat) (uV dY eJ : Int) (Bb : Bool → Option Int) : Option Int :=
  cond (decide (uV < 1)) (
  Bb (decide (uV < 1))) (
  E6 N uV dY eJ (fun i8 =>
  Bb i8))
def E8 (N : Nat) (CM uV dY eJ : Int) (Bc : Bool → Option Int) : Option Int :=
  cond (decide (64 < CM)) (
  Bc (decide (64 < CM))) (
  E7 N uV dY eJ (fun i6 =>
  Bc i6))
def E9 (N : Nat) (iO : Int) (Bd : Bool → Option Int) : Option Int :=
  cond (decide (iO < 0)) (
  Bd (decide (iO < 0))) (
  Bd (decide (7 < iO)))
def Fa (N : Nat) (CM uV dY eJ : Int) (Be : Bool → Option Int) : Option Int :=
  cond (decide (CM < 1)) (
  Be (decide (CM < 1))) (
  E8 N CM uV dY eJ (fun i4 =>
  Be i4))
def Dl (N : Nat) (CM uV dY iO eJ : Int) (g7 : List Int) (eI : List (List UInt8)) (cU bV bW bX bY cV : Int) (aW : List (Int × Int)) (bZ cA cB bA bB bC bD bE bF bG bH bI : Int) (aX : List (Int × Int)) (cC : Int) : Option Int :=
 Fa N CM uV dY eJ (fun i2 =>
 cond (i2) (
 some 3) (
 E9 N iO (fun i16 =>
 cond (i16) (
 some 6) (
 cond (decide (0 < iO)) (
 (vQ N g7).bind fun r2 =>
 some r2) (
 cond (decide (0 < (g7.length : Int))) (
 some 1) (
 some 0))))))
def Dm (N : Nat) (Pr Ps tM wU IK Kt Ku : Int) (Gb : List Int) (CQ : List (List UInt8)) (Cq Bf Bg Bh Bi Cr : Int) (tN : List (Int × Int)) (Bj Bl Bm yY yZ y6 y7 y8 y9 zA zB zC : Int) (tO : List (Int × Int)) (Bn : Int) : Option Bool :=
 cond (decide (tM ≤ Pr)) (
 some true) (
 some (decide (wU ≤ Ps)))
def fW (N : Nat) (s : List (Int × Int)) (nL nM iX j3 j5 : Int) (gJ : List Int) (fH : List (List UInt8)) (fI eR eS eT eU fJ : Int) (dJ : List (Int × Int)) (eV eW eX d9 eA eB eC eD eE eF eG eH : Int) (dK : List (Int × Int)) (eY : Int) (kk : Int → Option Int) : Nat → Int → Option Int
 | 0, _ => none
 | fuel + 1, i =>
  cond (decide (i < (s.length : Int))) (
  (idx s i).bind fun e2 =>
  (Dm N e2.1 e2.2 nL nM iX j3 j5 gJ fH fI eR eS eT eU fJ dJ eV eW eX d9 eA eB eC eD eE eF eG eH dK eY).bind fun r3 =>
  cond (r3) (
  some i) (
  fW N s nL nM iX j3 j5 gJ fH fI eR eS eT eU fJ dJ eV eW eX d9 eA eB eC eD eE eF eG eH dK eY kk fuel (IntKind.i64.wrap (i + 1)))) (
  kk i)
def gI (N : Nat) (s : List (Int × Int)) (nL nM iX j3 j5 : Int) (gJ : List Int) (fH : List (List UInt8)) (fI eR eS eT eU fJ : Int) (dJ : List (Int × Int)) (eV eW eX d9 eA eB eC eD eE eF eG eH : Int) (dK : List (Int × Int)) (eY : Int) : Option Int :=
 fW N s nL nM iX j3 j5 gJ fH fI eR eS eT eU fJ dJ eV eW eX d9 eA eB eC eD eE eF eG eH dK eY (fun i2 =>
 some ((-1))) N 0
def fX (N : Nat) (s : List (Int × Int)) (nL nM iX j3 j5 : Int) (gJ : List Int) (fH : List (List UInt8)) (fI eR eS eT eU fJ : Int) (dJ : List (Int × Int)) (eV eW eX d9 eA eB eC eD eE eF eG eH : Int) (dK : List (Int × Int)) (eY : Int) : Option Bool :=
 (gI N s nL nM iX j3 j5 gJ fH fI eR eS eT eU fJ dJ eV eW eX d9 eA eB eC eD eE eF eG eH dK eY).bind fun r2 =>
 some (decide (0 ≤ r2))
def Dn (N : Nat) (CM uV dY iO eJ : Int) (g7 : List Int) (eI : List (List UInt8)) (cU bV bW bX bY cV : Int) (aW : List (Int × Int)) (bZ cA cB bA bB bC bD bE bF bG bH bI : Int) (aX : List (Int × Int)) (cC : Int) : Option Int :=
 (sP N cU bV bW bX bY cV aW bZ cA cB bA bB bC bD bE bF bG bH bI aX cC).bind fun r2 =>
 cond (!decide (r2 = 0)) (
 some r2) (
 (fX N aW CM uV dY iO eJ g7 eI cU bV bW bX bY cV aW bZ cA cB bA bB bC bD bE bF bG bH bI aX cC).bind fun r3 =>
 cond (r3) (
 some 3) (
 some 0))
def pM (N : Nat) (x2 : List Int) (kk : (Int × Int) → Option Int) : Nat → (Int × Int) → Option Int
 | 0, _ => none
 | fuel + 1, (m, i) =>
  cond (decide (i < (x2.length : Int))) (
  (idx x2 i).bind fun e3 =>
  (some (max m e3)).bind fun m3 =>
  (some (IntKind.i64.wrap (i + 1))).bind fun i3 =>
  pM N x2 kk fuel (m3, i3)) (
  kk (m, i))
def oP (N : Nat) (x2 : List Int) : Option Int :=
 cond (decide ((x2.length : Int) < 1)) (
 none) (
 (idx x2 0).bind fun e =>
 pM N x2 (fun (m4, i4) =>
 some m4) N (e, 1))
def p7 (N : Nat) (s : List Int) : Option (List Int) :=
 (app 8 ([] : List Int) s).bind fun l2 =>
 some l2
def lG (N : Nat) (s : List (Int × Int)) : Option (List (Int × Int)) :=
 (app 16 (([] : List (Int × Int))) s).bind fun l2 =>
 some l2
def kS (N : Nat) (s : List (Int × Int)) : Option (List (Int × Int)) :=
 (app 16 (([] : List (Int × Int))) s).bind fun l2 =>
 some l2
def zD (N : Nat) (uV eJ : Int) (kk : (List (Int × Int) × Int) → Option (List (Int × Int))) : Nat → (List (Int × Int) × Int) → Option (List (Int × Int))
 | 0, _ => none
 | fuel + 1, (l3, y2) =>
  cond (decide (y2 < uV)) (
  (app 16 l3 (([(y2, min eJ (IntKind.i64.wrap (uV - y2)))] : List (Int × Int)))).bind fun l5 =>
  (some (IntKind.i64.wrap (y2 + eJ))).bind fun y4 =>
  zD N uV eJ kk fuel (l5, y4)) (
  kk (l3, y2))
def Aq (N : Nat) (CM uV dY iO eJ : Int) (g7 : List Int) (eI : List (List UInt8)) (cU bV bW bX bY cV : Int) (aW : List (Int × Int)) (bZ cA cB bA bB bC bD bE bF bG bH bI : Int) (aX : List (Int × Int)) (cC : Int) : Option (List (Int × Int)) :=
 zD N uV eJ (fun (l6, y5) =>
 some l6) N (([] : List (Int × Int)), 0)
def yD (N : Nat) (n : Int) : Option Bool :=
 cond (decide (1 ≤ n)) (
 some (decide (n ≤ 16))) (
 some false)
def Bp (N : Nat) (x6 : Int) (kk : (List Int × Int) → Option (List UInt8 × Int)) : Nat → (List Int × Int) → Option (List UInt8 × Int)
 | 0, _ => none
 | fuel + 1, (l5, i5) =>
  cond (decide (8 ≤ i5)) (
  (some (IntKind.i64.wrap (i5 - 8))).bind fun x9 =>
  (nn x9).bind fun _ =>
  (app 1 l5 (([IntKind.u8.wrap (iZ .i64 x6 x9)] : List Int))).bind fun l7 =>
  Bp N x6 kk fuel (l7, x9)) (
  kk (l5, i5))
def Bq (N : Nat) (d : List Int) (o : Int) (kk : (List Int × Int × Int × Int) → Option (List UInt8 × Int)) : Nat → (List Int × Int × Int × Int) → Option (List UInt8 × Int)
 | 0, _ => none
 | fuel + 1, (l2, i, i2, i3) =>
  cond (decide (i3 < (d.length : Int))) (
  (idx d i3).bind fun e2 =>
  cond (decide (e2 < 0)) (
  some (([] : List UInt8), 3)) (
  (nn o).bind fun _ =>
  cond (decide ((oG .i64 1 o) ≤ e2)) (
  some (([] : List UInt8), 3)) (
  (nn o).bind fun _ =>
  (some (FY .i64 (oG .i64 i o) e2)).bind fun x6 =>
  (some (IntKind.i64.wrap (i2 + o))).bind fun x7 =>
  Bp N x6 (fun (l8, i6) =>
  (nn i6).bind fun _ =>
  (some (F4 .i64 x6 (IntKind.i64.wrap ((oG .i64 1 i6) - 1)))).bind fun x10 =>
  Bq N d o kk fuel (l8, x10, i6, IntKind.i64.wrap (i3 + 1))) N (l2, x7)))) (
  kk (l2, i, i2, i3))
def En (N : Nat) (d : List Int) (o : Int) : Option (List UInt8 × Int) :=
 (yD N o).bind fun r2 =>
 cond (!(r2)) (
 some (([] : List UInt8), 3)) (
 cond (decide (4096 < (d.length : Int))) (
 some (([] : List UInt8), 2)) (
 (XY 1 (IntKind.i64.wrap (Int.tdiv (IntKind.i64.wrap ((IntKind.i64.wrap ((d.length : Int) * o)) + 7)) 8))).bind fun _ =>
 Bq N d o (fun (l9, i7, i8, i9) =>
 cond (decide (0 < i8)) (
 (nn (IntKind.i64.wrap (8 - i8))).bind fun _ =>
 (app 1 l9 (([IntKind.u8.wrap (oG .i64 i7 (IntKind.i64.wrap (8 - i8)))] : List Int))).bind fun l10 =>
 some (toB l10, 0)) (
 some (toB l9, 0))) N (([] : List Int), 0, 0, 0)))
def Br (N : Nat) (gL : List Int) (kk : Int → Option Bool) : Nat → Int → Option Bool
 | 0, _ => none
 | fuel + 1, i =>
  cond (decide (i < (gL.length : Int))) (
  (idx gL i).bind fun e2 =>
  cond (decide (e2 < 0)) (
  some false) (
  cond (decide (65535 < e2)) (
  some false) (
  Br N gL kk fuel (IntKind.i64.wrap (i + 1))))) (
  kk i)
def Eo (N : Nat) (iR kL : Int) (gL : List Int) : Option Bool :=
 cond (decide (iR < 1)) (
 some false) (
 cond (decide (64 < iR)) (
 some false) (
 cond (decide (kL < 1)) (
 some false) (
 cond (decide (64 < kL)) (
 some false) (
 cond (!decide ((gL.length : Int) = (IntKind.i64.wrap (iR * kL)))) (
 some false) (
 Br N gL (fun i2 =>
 some true) N 0)))))
def tZ (N : Nat) (x2 : Int) : Option Bool :=
 some (!decide (x2 = x2))
def vS (N : Nat) (x2 y : Int) : Option Int :=
 (tZ N x2).bind fun r2 =>
 (tZ N y).bind fun r3 =>
 cond (r2) (
 cond (r3) (
 some 0) (
 some ((-1)))) (
 cond (r3) (
 some 1) (
 cond (decide (x2 < y)) (
 some ((-1))) (
 cond (decide (y < x2)) (
 some 1) (
 some 0))))
def Bs (N : Nat) (a2 b : Int) (v0 : List Int) : Option Int :=
 (idx v0 a2).bind fun e =>
 (idx v0 b).bind fun e2 =>
 (vS N e e2).bind fun r2 =>
 some r2
def xN (N : Nat) (n size : Int) (kk : (List Int × Int × Int) → Option (List UInt8)) : Nat → (List Int × Int × Int) → Option (List UInt8)
 | 0, _ => none
 | fuel + 1, (l3, i, i2) =>
  cond (decide (i2 < i)) (
  (nn (IntKind.i64.wrap ((IntKind.i64.wrap (size - 1)) - i2))).bind fun _ =>
  (idx ([48, 49] : List UInt8) (F4 .i64 (iZ .i64 n (IntKind.i64.wrap ((IntKind.i64.wrap (size - 1)) - i2))) 1)).bind fun b2 =>
  (idx l3 i2).bind fun e2 =>
  (BW l3 i2 (b2.toNat : Int)).bind fun l5 =>
  xN N n size kk fuel (l5, i, IntKind.i64.wrap (i2 + 1))) (
  kk (l3, i, i2))
def yE (N : Nat) (n size : Int) : Option (List UInt8) :=
 (mk 1 size (0 : Int)).bind fun l2 =>
 xN N n size (fun (l6, i3, i4) =>
 some (toB l6)) N (l2, (l2.length : Int), 0)
def pN (N : Nat) (n size : Int) : Option (List UInt8 × Int) :=
 cond (decide (size < 0)) (
 some (([] : List UInt8), 3)) (
 cond (decide (16 < size)) (
 some (([] : List UInt8), 3)) (
 cond (decide (n < 0)) (
 some (([] : List UInt8), 3)) (
 (nn size).bind fun _ =>
 cond (decide ((oG .i64 1 size) ≤ n)) (
 some (([] : List UInt8), 3)) (
 (yE N n size).bind fun r2 =>
 some (r2, 0)))))
def zE (N : Nat) (d : List Int) (kk : (List Int × Int) → Option (List (List UInt8) × Int)) : Nat → (List Int × Int) → Option (List (List UInt8) × Int)
 | 0, _ => none
 | fuel + 1, (Ng, j4) =>
  cond (decide (0 < j4)) (
  (idx Ng j4).bind fun e20 =>
  (idx Ng (IntKind.i64.wrap (j4 - 1))).bind fun e21 =>
  (Bs N e20 e21 d).bind fun r5 =>
  cond (decide (r5 < 0)) (
  (idx Ng (IntKind.i64.wrap (j4 - 1))).bind fun e22 =>
  (idx Ng j4).bind fun e23 =>
  (idx Ng j4).bind fun e24 =>
  (BW Ng j4 e22).bind fun Yd =>
  (idx Yd (IntKind.i64.wrap (j4 - 1))).bind fun e25 =>
  (BW Yd (IntKind.i64.wrap (j4 - 1)) e23).bind fun Ye =>
  (some (IntKind.i64.wrap (j4 - 1))).bind fun j7 =>
  zE N d kk fuel (Ye, j7)) (
  kk (Ng, j4))) (
  kk (Ng, j4))
def zF (N : Nat) (d Od : List Int) (kk : (List (List UInt8) × Int × Int) → Option (List (List UInt8) × Int)) : Nat → (List (List UInt8) × Int × Int) → Option (List (List UInt8) × Int)
 | 0, _ => none
 | fuel + 1, (Sh, i8, i9) =>
  cond (decide (i9 < (Od.length : Int))) (
  (idx Od i9).bind fun e33 =>
  (idx d e33).bind fun e34 =>
  (nn (IntKind.i64.wrap (15 - e34))).bind fun _ =>
  (idx d e33).bind fun e35 =>
  (pN N (iZ .i64 i8 (IntKind.i64.wrap (15 - e34))) e35).bind fun r7 =>
  (idx Sh e33).bind fun e36 =>
  (BW Sh e33 r7.1).bind fun Yf =>
  (idx d e33).bind fun e37 =>
  (nn (IntKind.i64.wrap (15 - e37))).bind fun _ =>
  (some (IntKind.i64.wrap (i8 + (oG .i64 1 (IntKind.i64.wrap (15 - e37)))))).bind fun x4 =>
  zF N d Od kk fuel (Yf, x4, IntKind.i64.wrap (i9 + 1))) (
  kk (Sh, i8, i9))
def zG (N : Nat) (d : List Int) (kk : (List Int × Int × Int) → Option (List (List UInt8) × Int)) : Nat → (List Int × Int × Int) → Option (List (List UInt8) × Int)
 | 0, _ => none
 | fuel + 1, (l7, b, i4) =>
  cond (decide (i4 < b)) (
  zE N d (fun (Yg, j9) =>
  (some (IntKind.i64.wrap (i4 + 1))).bind fun i6 =>
  zG N d kk fuel (Yg, b, i6)) N (l7, i4)) (
  kk (l7, b, i4))
def t6 (N : Nat) (d : List Int) (kk : (List Int × Int) → Option (List (List UInt8) × Int)) : Nat → (List Int × Int) → Option (List (List UInt8) × Int)
 | 0, _ => none
 | fuel + 1, (l3, i) =>
  cond (decide (i < (d.length : Int))) (
  (idx d i).bind fun e3 =>
  cond (decide (0 < e3)) (
  (app 8 l3 ([i] : List Int)).bind fun l5 =>
  t6 N d kk fuel (l5, IntKind.i64.wrap (i + 1))) (
  t6 N d kk fuel (l3, IntKind.i64.wrap (i + 1)))) (
  kk (l3, i))
def Ar (N : Nat) (d : List Int) : Option (List (List UInt8) × Int) :=
 (vQ N d).bind fun r2 =>
 cond (!decide (r2 = 0)) (
 some (([] : List (List UInt8)), r2)) (
 t6 N d (fun (l6, i2) =>
 cond (decide (20 ≤ (l6.length : Int))) none (
 (some (IntKind.i64.wrap (0 + 1))).bind fun i3 =>
 zG N d (fun (Od, b2, i7) =>
 (Lx l6 Od).bind fun _ =>
 cond (decide (20 < (Od.length : Int))) none (
 (Lx l6 Od).bind fun _ =>
 (Lx l6 Od).bind fun _ =>
 (some ((d.length : Int))).bind fun x2 =>
 (mk 16 x2 (([] : List UInt8) : List UInt8)).bind fun ZG =>
 zF N d Od (fun (ZH, w5, i11) =>
 some (ZH, 0)) N (ZG, 0, 0))) N (l6, (l6.length : Int), i3))) N (([] : List Int), 0))
def qM (N : Nat) (iD lI : Int) (jO : List Int) (o p2 : Int) : Option Int :=
 (nz iD).bind fun _ =>
 (nz iD).bind fun _ =>
 cond (decide (p2 = 0)) (
 some 32768) (
 cond (decide ((IntKind.i64.wrap (Int.tdiv p2 iD)) = 0)) (
 (idx jO (IntKind.i64.wrap (p2 - 1))).bind fun e =>
 some e) (
 cond (decide ((Int.tmod p2 iD) = 0)) (
 (idx jO (IntKind.i64.wrap (p2 - iD))).bind fun e2 =>
 some e2) (
 (idx jO (IntKind.i64.wrap (p2 - 1))).bind fun e3 =>
 (idx jO (IntKind.i64.wrap (p2 - iD))).bind fun e4 =>
 (idx jO (IntKind.i64.wrap ((IntKind.i64.wrap (p2 - iD)) - 1))).bind fun e5 =>
 (idx [0, e3, e4, e5, IntKind.i64.wrap ((IntKind.i64.wrap (e3 + e4)) - e5), IntKind.i64.wrap (e3 + (iZ .i64 (IntKind.i64.wrap (e4 - e5)) 1)), IntKind.i64.wrap (e4 + (iZ .i64 (IntKind.i64.wrap (e3 - e5)) 1)), iZ .i64 (IntKind.i64.wrap (e3 + e4)) 1] o).bind fun e6 =>
 some e6)))
def vT (N : Nat) (x2 : Int) : Option Int :=
 cond (decide (4294967296 ≤ x2)) (
 (some (iZ .u64 x2 32)).bind fun x3 =>
 cond (decide (65536 ≤ x3)) (
 (some (iZ .u64 x3 16)).bind fun x4 =>
 (some (IntKind.i64.wrap (32 + 16))).bind fun n =>
 cond (decide (256 ≤ x4)) (
 (some (iZ .u64 x4 8)).bind fun x5 =>
 (some (IntKind.i64.wrap (n + 8))).bind fun n2 =>
 (idx Lw (IntKind.u8.wrap x5)).bind fun b =>
 (some (IntKind.i64.wrap (n2 + (IntKind.i64.wrap (b.toNat : Int))))).bind fun n3 =>
 some n3) (
 (idx Lw (IntKind.u8.wrap x4)).bind fun b2 =>
 (some (IntKind.i64.wrap (n + (IntKind.i64.wrap (b2.toNat : Int))))).bind fun n4 =>
 some n4)) (
 cond (decide (256 ≤ x3)) (
 (some (iZ .u64 x3 8)).bind fun x6 =>
 (some (IntKind.i64.wrap (32 + 8))).bind fun n5 =>
 (idx Lw (IntKind.u8.wrap x6)).bind fun b3 =>
 (some (IntKind.i64.wrap (n5 + (IntKind.i64.wrap (b3.toNat : Int))))).bind fun n6 =>
 some n6) (
 (idx Lw (IntKind.u8.wrap x3)).bind fun b4 =>
 (some (IntKind.i64.wrap (32 + (IntKind.i64.wrap (b4.toNat : Int))))).bind fun n7 =>
 some n7))) (
 cond (decide (65536 ≤ x2)) (
 (some (iZ .u64 x2 16)).bind fun x7 =>
 (some (IntKind.i64.wrap (0 + 16))).bind fun n8 =>
 cond (decide (256 ≤ x7)) (
 (some (iZ .u64 x7 8)).bind fun x8 =>
 (some (IntKind.i64.wrap (n8 + 8))).bind fun n9 =>
 (idx Lw (IntKind.u8.wrap x8)).bind fun b5 =>
 (some (IntKind.i64.wrap (n9 + (IntKind.i64.wrap (b5.toNat : Int))))).bind fun n10 =>
 some n10) (
 (idx Lw (IntKind.u8.wrap x7)).bind fun b6 =>
 (some (IntKind.i64.wrap (n8 + (IntKind.i64.wrap (b6.toNat : Int))))).bind fun n11 =>
 some n11)) (
 cond (decide (256 ≤ x2)) (
 (some (iZ .u64 x2 8)).bind fun x9 =>
 (some (IntKind.i64.wrap (0 + 8))).bind fun n12 =>
 (idx Lw (IntKind.u8.wrap x9)).bind fun b7 =>
 (some (IntKind.i64.wrap (n12 + (IntKind.i64.wrap (b7.toNat : Int))))).bind fun n13 =>
 some n13) (
 (idx Lw (IntKind.u8.wrap x2)).bind fun b8 =>
 (some (IntKind.i64.wrap (0 + (IntKind.i64.wrap (b8.toNat : Int))))).bind fun n14 =>
 some n14)))
def t7 (N : Nat) (x2 : Int) : Option Int :=
 (vT N x2).bind fun r2 =>
 some r2
def Do (N : Nat) (b : List UInt8) : Option Bool :=
 (AH N b ([48, 49] : List UInt8)).bind fun r2 =>
 cond (decide (r2 = ([] : List UInt8))) (
 (tW N b ([48] : List UInt8)).bind fun r3 =>
 (tW N b ([49] : List UInt8)).bind fun r4 =>
 some (decide ((IntKind.i64.wrap (r3 + r4)) = (b.length : Int)))) (
 some false)
def zH (N : Nat) (b : List UInt8) (kk : (List Int × Int) → Option (List UInt8 × Int)) : Nat → (List Int × Int) → Option (List UInt8 × Int)
 | 0, _ => none
 | fuel + 1, (l3, i) =>
  cond (decide (i < (b.length : Int))) (
  (some (IntKind.i64.wrap (Int.tdiv i 8))).bind fun x4 =>
  (idx l3 x4).bind fun e3 =>
  (idx b i).bind fun b3 =>
  (nn (IntKind.i64.wrap (7 - (Int.tmod i 8)))).bind fun _ =>
  (idx l3 x4).bind fun e4 =>
  (BW l3 x4 (FY .u8 e3 (oG .u8 (IntKind.u8.wrap ((b3.toNat : Int) - 48)) (IntKind.i64.wrap (7 - (Int.tmod i 8)))))).bind fun l5 =>
  zH N b kk fuel (l5, IntKind.i64.wrap (i + 1))) (
  kk (l3, i))
def As (N : Nat) (b : List UInt8) : Option (List UInt8 × Int) :=
 (Do N b).bind fun r2 =>
 cond (!(r2)) (
 some (([] : List UInt8), 1)) (
 (some (IntKind.i64.wrap (Int.tdiv (IntKind.i64.wrap ((b.length : Int) + 7)) 8))).bind fun x2 =>
 (mk 1 x2 (0 : Int)).bind fun l2 =>
 zH N b (fun (l6, i2) =>
 some (toB l6, 0)) N (l2, 0))
def j6 (N : Nat) (iD lI : Int) (jO : List Int) (o : Int) (r3 : List (List UInt8) × Int) (kk : (List UInt8 × Int) → Option (List UInt8 × Int)) : Nat → (List UInt8 × Int) → Option (List UInt8 × Int)
 | 0, _ => none
 | fuel + 1, (l2, i) =>
  cond (decide (i < (jO.length : Int))) (
  (idx jO i).bind fun e6 =>
  (qM N iD lI jO o i).bind fun wZ =>
  (some (IntKind.i64.wrap (IntKind.u16.wrap (IntKind.i64.wrap (e6 - wZ))))).bind fun x6 =>
  cond (decide (32768 < x6)) (
  (some (IntKind.i64.wrap (x6 - 65536))).bind fun x7 =>
  (t7 N (IntKind.u64.wrap (max x7 (IntKind.i64.wrap (0 - x7))))).bind fun rN =>
  cond (decide ((r3.1.length : Int) ≤ rN)) (
  some (([] : List UInt8), 4)) (
  (idx r3.1 rN).bind fun e7 =>
  cond (decide (e7 = ([] : List UInt8))) (
  some (([] : List UInt8), 4)) (
  (idx r3.1 rN).bind fun e8 =>
  (MF l2 e8).bind fun b7 =>
  cond (decide (0 < rN)) (
  cond (decide (rN < 16)) (
  cond (decide (x7 < 0)) (
  (nn rN).bind fun _ =>
  (some (IntKind.i64.wrap (x7 + (IntKind.i64.wrap ((oG .i64 1 rN) - 1))))).bind fun x8 =>
  (pN N x8 rN).bind fun BX =>
  (MF b7 BX.1).bind fun b8 =>
  j6 N iD lI jO o r3 kk fuel (b8, IntKind.i64.wrap (i + 1))) (
  (pN N x7 rN).bind fun D5 =>
  (MF b7 D5.1).bind fun b9 =>
  j6 N iD lI jO o r3 kk fuel (b9, IntKind.i64.wrap (i + 1)))) (
  j6 N iD lI jO o r3 kk fuel (b7, IntKind.i64.wrap (i + 1)))) (
  j6 N iD lI jO o r3 kk fuel (b7, IntKind.i64.wrap (i + 1)))))) (
  (t7 N (IntKind.u64.wrap (max x6 (IntKind.i64.wrap (0 - x6))))).bind fun Em =>
  cond (decide ((r3.1.length : Int) ≤ Em)) (
  some (([] : List UInt8), 4)) (
  (idx r3.1 Em).bind fun e9 =>
  cond (decide (e9 = ([] : List UInt8))) (
  some (([] : List UInt8), 4)) (
  (idx r3.1 Em).bind fun e10 =>
  (MF l2 e10).bind fun b10 =>
  cond (decide (0 < Em)) (
  cond (decide (Em < 16)) (
  cond (decide (x6 < 0)) (
  (nn Em).bind fun _ =>
  (some (IntKind.i64.wrap (x6 + (IntKind.i64.wrap ((oG .i64 1 Em) - 1))))).bind fun x9 =>
  (pN N x9 Em).bind fun r16 =>
  (MF b10 r16.1).bind fun b11 =>
  j6 N iD lI jO o r3 kk fuel (b11, IntKind.i64.wrap (i + 1))) (
  (pN N x6 Em).bind fun E2 =>
  (MF b10 E2.1).bind fun b12 =>
  j6 N iD lI jO o r3 kk fuel (b12, IntKind.i64.wrap (i + 1)))) (
  j6 N iD lI jO o r3 kk fuel (b10, IntKind.i64.wrap (i + 1)))) (
  j6 N iD lI jO o r3 kk fuel (b10, IntKind.i64.wrap (i + 1))))))) (
  kk (l2, i))
def Dp (N : Nat) (iD lI : Int) (jO : List Int) (o : Int) (p2 : List Int) : Option (List UInt8 × Int) :=
 (Eo N iD lI jO).bind fun r2 =>
 cond (!(r2)) (
 some (([] : List UInt8), 1)) (
 cond (decide (o < 1)) (
 some (([] : List UInt8), 6)) (
 cond (decide (7 < o)) (
 some (([] : List UInt8), 6)) (
 (Ar N p2).bind fun r3 =>
 cond (!decide (r3.2 = 0)) (
 some (([] : List UInt8), r3.2)) (
 j6 N iD lI jO o r3 (fun (l3, i2) =>
 (As N l3).bind fun Dk =>
 some (Dk.1, 0)) N (([] : List UInt8), 0)))))
def yF (N : Nat) (f6 jA : Int) (hU : List Int) (sZ : Int) (D4 : List Int) (r9 : List (Int × Int)) (kk : (List (List UInt8) × Int) → Option (Int × Int × Int × Int × Int × List Int × List (List UInt8) × Int × Int × Int × Int × Int × Int × List (Int × Int) × Int × Int × Int × Int × Int × Int × Int × Int × Int × Int × Int × Int × List (Int × Int) × Int × Int)) : Nat → (List (List UInt8) × Int) → Option (Int × Int × Int × Int × Int × List Int × List (List UInt8) × Int × Int × Int × Int × Int × Int × List (Int × Int) × Int × Int × Int × Int × Int × Int × Int × Int × Int × Int × Int × Int × List (Int × Int) × Int × Int)
 | 0, _ => none
 | fuel + 1, (rY, i) =>
  cond (decide (i < (r9.length : Int))) (
  (idx r9 i).bind fun e2 =>
  (DG D4 (IntKind.i64.wrap (e2.1 * sZ)) (IntKind.i64.wrap ((IntKind.i64.wrap (e2.1 + e2.2)) * sZ))).bind fun l3 =>
  (En N l3 f6).bind fun rN =>
  cond (decide (0 < jA)) (
  (Dp N sZ e2.2 l3 jA hU).bind fun BX =>
  cond (!decide (BX.2 = 0)) (
  some (0, 0, 0, 0, 0, ([] : List Int), ([] : List (List UInt8)), 0, 0, 0, 0, 0, 0, ([] : List (Int × Int)), 0, 0, 0, 0, 0, 0, 0, 0, 0, 0, 0, 0, ([] : List (Int × Int)), 0, BX.2)) (
  (app 16 rY (([BX.1] : List (List UInt8)))).bind fun He =>
  yF N f6 jA hU sZ D4 r9 kk fuel (He, IntKind.i64.wrap (i + 1)))) (
  cond (!decide (rN.2 = 0)) (
  some (0, 0, 0, 0, 0, ([] : List Int), ([] : List (List UInt8)), 0, 0, 0, 0, 0, 0, ([] : List (Int × Int)), 0, 0, 0, 0, 0, 0, 0, 0, 0, 0, 0, 0, ([] : List (Int × Int)), 0, rN.2)) (
  (app 16 rY (([rN.1] : List (List UInt8)))).bind fun Hf =>
  yF N f6 jA hU sZ D4 r9 kk fuel (Hf, IntKind.i64.wrap (i + 1))))) (
  kk (rY, i))
def FD (N : Nat) (iD lI f6 jA kZ : Int) (hU : List Int) (dL : List (List UInt8)) (cN cD cE cG cH cO : Int) (aT : List (Int × Int)) (cJ cK cL bJ bK bL bM bN bO bP bQ bR : Int) (aU : List (Int × Int)) (bT sZ yQ : Int) (D4 : List Int) : Option (Int × Int × Int × Int × Int × List Int × List (List UInt8) × Int × Int × Int × Int × Int × Int × List (Int × Int) × Int × Int × Int × Int × Int × Int × Int × Int × Int × Int × Int × Int × List (Int × Int) × Int × Int) :=
 (Dl N iD lI f6 jA kZ hU dL cN cD cE cG cH cO aT cJ cK cL bJ bK bL bM bN bO bP bQ bR aU bT).bind fun r2 =>
 cond (!decide (r2 = 0)) (
 some (0, 0, 0, 0, 0, ([] : List Int), ([] : List (List UInt8)), 0, 0, 0, 0, 0, 0, ([] : List (Int × Int)), 0, 0, 0, 0, 0, 0, 0, 0, 0, 0, 0, 0, ([] : List (Int × Int)), 0, r2)) (
 (Dn N iD lI f6 jA kZ hU dL cN cD cE cG cH cO aT cJ cK cL bJ bK bL bM bN bO bP bQ bR aU bT).bind fun r3 =>
 cond (!decide (r3 = 0)) (
 some (0, 0, 0, 0, 0, ([] : List Int), ([] : List (List UInt8)), 0, 0, 0, 0, 0, 0, ([] : List (Int × Int)), 0, 0, 0, 0, 0, 0, 0, 0, 0, 0, 0, 0, ([] : List (Int × Int)), 0, r3)) (
 (nI N sZ yQ D4 (([] : List (Int × Int)))).bind fun r4 =>
 cond (!decide (r4.2.2.2 = 0)) (
 some (0, 0, 0, 0, 0, ([] : List Int), ([] : List (List UInt8)), 0, 0, 0, 0, 0, 0, ([] : List (Int × Int)), 0, 0, 0, 0, 0, 0, 0, 0, 0, 0, 0, 0, ([] : List (Int × Int)), 0, 1)) (
 cond (!decide (sZ = iD)) (
 some (0, 0, 0, 0, 0, ([] : List Int), ([] : List (List UInt8)), 0, 0, 0, 0, 0, 0, ([] : List (Int × Int)), 0, 0, 0, 0, 0, 0, 0, 0, 0, 0, 0, 0, ([] : List (Int × Int)), 0, 1)) (
 cond (!decide (yQ = lI)) (
 some (0, 0, 0, 0, 0, ([] : List Int), ([] : List (List UInt8)), 0, 0, 0, 0, 0, 0, ([] : List (Int × Int)), 0, 0, 0, 0, 0, 0, 0, 0, 0, 0, 0, 0, ([] : List (Int × Int)), 0, 1)) (
 (oP N D4).bind fun r5 =>
 (nn f6).bind fun _ =>
 cond (decide (0 < (iZ .i64 r5 f6))) (
 some (0, 0, 0, 0, 0, ([] : List Int), ([] : List (List UInt8)), 0, 0, 0, 0, 0, 0, ([] : List (Int × Int)), 0, 0, 0, 0, 0, 0, 0, 0, 0, 0, 0, 0, ([] : List (Int × Int)), 0, 1)) (
 (p7 N hU).bind fun r6 =>
 (lG N aT).bind fun r7 =>
 (kS N aU).bind fun r8 =>
 (Aq N iD lI f6 jA kZ hU dL cN cD cE cG cH cO aT cJ cK cL bJ bK bL bM bN bO bP bQ bR aU bT).bind fun r9 =>
 yF N f6 jA hU sZ D4 r9 (fun (J3, i2) =>
 some (iD, lI, f6, jA, kZ, r6, J3, cN, cD, cE, cG, cH, cO, r7, cJ, cK, cL, bJ, bK, bL, bM, bN, bO, bP, bQ, bR, r8, bT, 0)) N (([] : List (List UInt8)), 0)))))))
def gF (N : Nat) (n low high : Int) : Option Bool :=
 cond (decide (low ≤ n)) (
 some (decide (n ≤ high))) (
 some false)
def f4 (N : Nat) (Pv Qa : List (Int × Int × Int)) (kk : Int → Option Bool) : Nat → Int → Option Bool
 | 0, _ => none
 | fuel + 1, i =>
  cond (decide (i < (Pv.length : Int))) (
  (idx Pv i).bind fun e3 =>
  (idx Qa i).bind fun e4 =>
  cond (!(decide (e3.1 = e4.1) && decide (e3.2.1 = e4.2.1) && decide (e3.2.2 = e4.2.2))) (
  some false) (
  (some (IntKind.i64.wrap (i + 1))).bind fun i3 =>
  f4 N Pv Qa kk fuel i3)) (
  kk i)
def dE (N : Nat) (VU VV : Int) (Pv : List (Int × Int × Int)) (VW VX : Int) (Qa : List (Int × Int × Int)) : Option Bool :=
 cond (!decide (VU = VW)) (
 some false) (
 cond (!decide (VV = VX)) (
 some false) (
 cond (!decide ((Pv.length : Int) = (Qa.length : Int))) (
 some false) (
 f4 N Pv Qa (fun i4 =>
 some true) N 0)))
def o9 (N : Nat) (l0 l1 l2 : Int) : Option (Int × Int × Int) :=
 some (l0, l1, l2)
def pA (N : Nat) (Hy Hz HD : Int) : Option (Int × Int × Int) :=
 some (Hy, Hz, HD)
def rZ (N : Nat)  : Option (List (Int × Int)) :=
 some (([(0, 0), (65535, 65535)] : List (Int × Int)))
def sA (N : Nat)  : Option (Int × Int × Int × Int × Int × Int × List (Int × Int) × Int × Int × Int × Int × Int × Int × Int × Int × Int × Int × Int × Int × List (Int × Int) × Int) :=
 (rZ N ).bind fun r2 =>
 some (0, 0, 0, 0, 0, 65535, ([] : List (Int × Int)), 256, 256, 256, 4096, 0, 0, 0, 4096, 0, 0, 0, 4096, r2, 64)
def xO (N : Nat) (o p2 : Int) (kk : (List Int × Int × Int) → Option (List Int × Int)) : Nat → (List Int × Int × Int) → Option (List Int × Int)
 | 0, _ => none
 | fuel + 1, (l8, i8, i9) =>
  cond (decide (o ≤ i9)) (
  cond (decide ((l8.length : Int) < p2)) (
  (some (IntKind.i64.wrap (i9 - o))).bind fun Jr =>
  (nn Jr).bind fun _ =>
  (app 8 l8 ([iZ .i64 i8 Jr] : List Int)).bind fun l10 =>
  (nn Jr).bind fun _ =>
  (some (F4 .i64 i8 (IntKind.i64.wrap ((oG .i64 1 Jr) - 1)))).bind fun Nh =>
  xO N o p2 kk fuel (l10, Nh, Jr)) (
  kk (l8, i8, i9))) (
  kk (l8, i8, i9))
def xP (N : Nat) (d : List UInt8) (o p2 : Int) (kk : (List Int × Int × Int × Int) → Option (List Int × Int)) : Nat → (List Int × Int × Int × Int) → Option (List Int × Int)
 | 0, _ => none
 | fuel + 1, (l5, i3, i4, i5) =>
  cond (decide (i5 < (d.length : Int))) (
  (idx d i5).bind fun b3 =>
  (some (FY .i64 (oG .i64 i3 8) (IntKind.i64.wrap (b3.toNat : Int)))).bind fun ER =>
  (some (IntKind.i64.wrap (i4 + 8))).bind fun Si =>
  xO N o p2 (fun (Ln, w5, i11) =>
  xP N d o p2 kk fuel (Ln, w5, i11, IntKind.i64.wrap (i5 + 1))) N (l5, ER, Si)) (
  kk (l5, i3, i4, i5))
def Cs (N : Nat) (d : List UInt8) (o p2 : Int) : Option (List Int × Int) :=
 (yD N o).bind fun r2 =>
 cond (!(r2)) (
 some (([] : List Int), 3)) (
 cond (decide (p2 < 0)) (
 some (([] : List Int), 3)) (
 cond (decide (4096 < p2)) (
 some (([] : List Int), 2)) (
 cond (!decide ((d.length : Int) = (IntKind.i64.wrap (Int.tdiv (IntKind.i64.wrap ((IntKind.i64.wrap (p2 * o)) + 7)) 8)))) (
 some (([] : List Int), 1)) (
 xP N d o p2 (fun (UK, i12, Hg, Pu) =>
 cond (!decide (i12 = 0)) (
 some (([] : List Int), 1)) (
 some (UK, 0))) N (([] : List Int), 0, 0, 0)))))
def vU (N : Nat) (e2 : List UInt8) (kk : (List (List UInt8 × Int) × Int) → Option (List Int × List UInt8 × Int)) : Nat → (List (List UInt8 × Int) × Int) → Option (List Int × List UInt8 × Int)
 | 0, _ => none
 | fuel + 1, (m5, i3) =>
  cond (decide (i3 < (e2.length : Int))) (
  (DG e2 0 i3).bind fun s5 =>
  (Ly m5 s5).bind fun q3 =>
  cond (!(q3.2)) (
  (DG e2 0 i3).bind fun s6 =>
  (PQ m5 s6 (-1)).bind fun m7 =>
  vU N e2 kk fuel (m7, IntKind.i64.wrap (i3 + 1))) (
  vU N e2 kk fuel (m5, IntKind.i64.wrap (i3 + 1)))) (
  kk (m5, i3))
def vV (N : Nat) (m10 : List (List UInt8 × Int)) (o2 : List UInt8) (kk : (Int × Int) → Option (List Int × List UInt8 × Int)) : Nat → (Int × Int) → Option (List Int × List UInt8 × Int)
 | 0, _ => none
 | fuel + 1, (w5, i11) =>
  cond (decide (i11 < 0)) (
  (DG o2 0 w5).bind fun s12 =>
  (Ly m10 s12).bind fun q7 =>
  cond (!(q7.2)) (
  some (([] : List Int), ([] : List UInt8), 4)) (
  cond (decide (0 ≤ q7.1)) (
  vV N m10 o2 kk fuel (w5, q7.1)) (
  cond (decide (w5 = (o2.length : Int))) (
  some (([] : List Int), ([] : List UInt8), 5)) (
  (some (IntKind.i64.wrap (w5 + 1))).bind fun x5 =>
  vV N m10 o2 kk fuel (x5, i11))))) (
  kk (w5, i11))
def Bt (N : Nat) (p2 : Int) (m10 : List (List UInt8 × Int)) (kk : (List Int × List UInt8) → Option (List Int × List UInt8 × Int)) : Nat → (List Int × List UInt8) → Option (List Int × List UInt8 × Int)
 | 0, _ => none
 | fuel + 1, (l3, o2) =>
  cond (decide ((l3.length : Int) < p2)) (
  vV N m10 o2 (fun (i12, Hg) =>
  (app 8 l3 ([Hg] : List Int)).bind fun l5 =>
  (DG o2 i12 (o2.length : Int)).bind fun s13 =>
  Bt N p2 m10 kk fuel (l5, s13)) N (0, (-1))) (
  kk (l3, o2))
def vW (N : Nat) (r2 : List (List UInt8) × Int) (kk : (List (List UInt8 × Int) × Int) → Option (List Int × List UInt8 × Int)) : Nat → (List (List UInt8 × Int) × Int) → Option (List Int × List UInt8 × Int)
 | 0, _ => none
 | fuel + 1, (m, i) =>
  cond (decide (i < (r2.1.length : Int))) (
  (idx r2.1 i).bind fun e2 =>
  vU N e2 (fun (m8, i4) =>
  cond (!decide (e2 = ([] : List UInt8))) (
  (PQ m8 e2 i).bind fun m9 =>
  vW N r2 kk fuel (m9, IntKind.i64.wrap (i + 1))) (
  vW N r2 kk fuel (m8, IntKind.i64.wrap (i + 1)))) N (m, 0)) (
  kk (m, i))
def Ep (N : Nat) (d : List Int) (o : List UInt8) (p2 : Int) : Option (List Int × List UInt8 × Int) :=
 (Ar N d).bind fun r2 =>
 cond (!decide (r2.2 = 0)) (
 some (([] : List Int), ([] : List UInt8), r2.2)) (
 cond (decide (p2 < 0)) (
 some (([] : List Int), ([] : List UInt8), 3)) (
 cond (decide (4096 < p2)) (
 some (([] : List Int), ([] : List UInt8), 3)) (
 (As N o).bind fun r3 =>
 cond (!decide (r3.2 = 0)) (
 some (([] : List Int), ([] : List UInt8), 1)) (
 vW N r2 (fun (m10, i5) =>
 Bt N p2 m10 (fun (l6, o3) =>
 some (l6, o3, 0)) N (([] : List Int), o)) N (([] : List (List UInt8 × Int)), 0)))))
def Bu (N : Nat) (s : List UInt8) (kk : (List UInt8 × Int) → Option (List UInt8)) : Nat → (List UInt8 × Int) → Option (List UInt8)
 | 0, _ => none
 | fuel + 1, (l2, i) =>
  cond (decide (i < (s.length : Int))) (
  (idx s i).bind fun b3 =>
  (yE N (IntKind.i64.wrap (b3.toNat : Int)) 8).bind fun r3 =>
  (MF l2 r3).bind fun b4 =>
  (some (IntKind.i64.wrap (i + 1))).bind fun i3 =>
  Bu N s kk fuel (b4, i3)) (
  kk (l2, i))
def B5 (N : Nat) (s : List UInt8) : Option (List UInt8) :=
 Bu N s (fun (l3, i4) =>
 some l3) N (([] : List UInt8), 0)
def zI (N : Nat) (b : List UInt8) (kk : (Int × Int) → Option (Int × Int)) : Nat → (Int × Int) → Option (Int × Int)
 | 0, _ => none
 | fuel + 1, (n, i) =>
  cond (decide (i < (b.length : Int))) (
  (idx b i).bind fun b3 =>
  (some (IntKind.i64.wrap ((oG .i64 n 1) + (IntKind.i64.wrap (F4 .u8 (b3.toNat : Int) 1))))).bind fun n3 =>
  zI N b kk fuel (n3, IntKind.i64.wrap (i + 1))) (
  kk (n, i))
def Dq (N : Nat) (b : List UInt8) : Option (Int × Int) :=
 (Do N b).bind fun r2 =>
 cond (!(r2)) (
 some (0, 1)) (
 cond (decide (16 < (b.length : Int))) (
 some (0, 3)) (
 zI N b (fun (n4, i2) =>
 some (n4, 0)) N (0, 0)))
def Bv (N : Nat)  (kk : (List UInt8 × List UInt8) → Option (Int × Int × List Int × Int)) : Nat → (List UInt8 × List UInt8) → Option (Int × Int × List Int × Int)
 | 0, _ => none
 | fuel + 1, (Jr, Nh) =>
  cond (decide ((Jr.length : Int) < 1)) (
  cond (!decide (Nh = ([] : List UInt8))) (
  (DG Nh 0 1).bind fun ZI =>
  (B5 N ZI).bind fun Em =>
  (sV Jr Em).bind fun Yh =>
  (DG Nh 1 (Nh.length : Int)).bind fun Yi =>
  Bv N  kk fuel (Yh, Yi)) (
  kk (Jr, Nh))) (
  kk (Jr, Nh))
def Bw (N : Nat) (i6 : Int) (kk : (List UInt8 × List UInt8) → Option (Int × Int × List Int × Int)) : Nat → (List UInt8 × List UInt8) → Option (Int × Int × List Int × Int)
 | 0, _ => none
 | fuel + 1, (Ib, x23) =>
  cond (decide ((Ib.length : Int) < i6)) (
  cond (!decide (x23 = ([] : List UInt8))) (
  (DG x23 0 1).bind fun ZJ =>
  (B5 N ZJ).bind fun Dk =>
  (sV Ib Dk).bind fun Yj =>
  (DG x23 1 (x23.length : Int)).bind fun Yk =>
  Bw N i6 kk fuel (Yj, Yk)) (
  kk (Ib, x23))) (
  kk (Ib, x23))
def By (N : Nat) (p4 : List Int) (kk : (List UInt8 × List UInt8 × Int × Int × List UInt8) → Option (Int × Int × List Int × Int)) : Nat → (List UInt8 × List UInt8 × Int × Int × List UInt8) → Option (Int × Int × List Int × Int)
 | 0, _ => none
 | fuel + 1, (ER, Si, i4, i5, w3) =>
  (Ep N p4 w3 1).bind fun BX =>
  cond (decide (BX.2.2 = 0)) (
  (idx BX.1 0).bind fun e7 =>
  kk (ER, Si, e7, BX.2.2, w3)) (
  Bv N  (fun (x18, Sj) =>
  cond (decide ((x18.length : Int) < 1)) (
  cond (!decide (BX.2.2 = 5)) (
  kk (x18, Sj, 0, 1, w3)) (
  kk (x18, Sj, 0, 1, w3))) (
  (DG x18 0 1).bind fun s24 =>
  (DG x18 1 (x18.length : Int)).bind fun VY =>
  cond (!decide (BX.2.2 = 5)) (
  kk (VY, Sj, 0, 1, w3)) (
  (sV w3 s24).bind fun Yl =>
  By N p4 kk fuel (VY, Sj, i4, i5, Yl)))) N (ER, Si))
def p8 (N : Nat) (o p2 p3 : Int) (p4 : List Int) (kk : (List Int × List UInt8 × List UInt8 × Int) → Option (Int × Int × List Int × Int)) : Nat → (List Int × List UInt8 × List UInt8 × Int) → Option (Int × Int × List Int × Int)
 | 0, _ => none
 | fuel + 1, (zW, x3, x4, i) =>
  cond (decide (i < (IntKind.i64.wrap (o * p2)))) (
  (app 8 zW ([0] : List Int)).bind fun sQ =>
  By N p4 (fun (x20, x21, i6, i7, w4) =>
  cond (!decide (i7 = 0)) (
  some (0, 0, ([] : List Int), 1)) (
  cond (decide (i6 = 16)) (
  (qM N o p2 sQ p3 i).bind fun r16 =>
  (idx sQ i).bind fun e8 =>
  (BW sQ i (IntKind.i64.wrap (IntKind.u16.wrap (IntKind.i64.wrap (r16 + 32768))))).bind fun l6 =>
  p8 N o p2 p3 p4 kk fuel (l6, x20, x21, IntKind.i64.wrap (i + 1))) (
  cond (decide (0 < i6)) (
  Bw N i6 (fun (x24, x25) =>
  cond (decide ((x24.length : Int) < i6)) (
  some (0, 0, ([] : List Int), 1)) (
  (DG x24 0 i6).bind fun Ym =>
  (DG x24 i6 (x24.length : Int)).bind fun VZ =>
  (Dq N Ym).bind fun FE =>
  (idx Ym 0).bind fun b2 =>
  cond (decide ((b2.toNat : Int) = 48)) (
  (nn i6).bind fun _ =>
  (some (IntKind.i64.wrap (FE.1 - (IntKind.i64.wrap ((oG .i64 1 i6) - 1))))).bind fun Yn =>
  (qM N o p2 sQ p3 i).bind fun HH =>
  (idx sQ i).bind fun e9 =>
  (BW sQ i (IntKind.i64.wrap (IntKind.u16.wrap (IntKind.i64.wrap (HH + Yn))))).bind fun l7 =>
  p8 N o p2 p3 p4 kk fuel (l7, VZ, x25, IntKind.i64.wrap (i + 1))) (
  (qM N o p2 sQ p3 i).bind fun Ic =>
  (idx sQ i).bind fun e10 =>
  (BW sQ i (IntKind.i64.wrap (IntKind.u16.wrap (IntKind.i64.wrap (Ic + FE.1))))).bind fun l8 =>
  p8 N o p2 p3 p4 kk fuel (l8, VZ, x25, IntKind.i64.wrap (i + 1))))) N (x20, x21)) (
  (qM N o p2 sQ p3 i).bind fun IL =>
  (idx sQ i).bind fun e11 =>
  (BW sQ i (IntKind.i64.wrap (IntKind.u16.wrap (IntKind.i64.wrap (IL + 0))))).bind fun l9 =>
  p8 N o p2 p3 p4 kk fuel (l9, x20, x21, IntKind.i64.wrap (i + 1)))))) N (x3, x4, 0, 0, ([] : List UInt8))) (
  kk (zW, x3, x4, i))
def Er (N : Nat) (d : List UInt8) (o p2 p3 : Int) (p4 : List Int) : Option (Int × Int × List Int × Int) :=
 cond (decide (o < 1)) (
 some (0, 0, ([] : List Int), 3)) (
 cond (decide (64 < o)) (
 some (0, 0, ([] : List Int), 3)) (
 cond (decide (p2 < 1)) (
 some (0, 0, ([] : List Int), 3)) (
 cond (decide (64 < p2)) (
 some (0, 0, ([] : List Int), 3)) (
 cond (decide (p3 < 1)) (
 some (0, 0, ([] : List Int), 6)) (
 cond (decide (7 < p3)) (
 some (0, 0, ([] : List Int), 6)) (
 (vQ N p4).bind fun r2 =>
 cond (!decide (r2 = 0)) (
 some (0, 0, ([] : List Int), r2)) (
 p8 N o p2 p3 p4 (fun (El, x27, x28, i8) =>
 cond (!decide (x28 = ([] : List UInt8))) (
 some (0, 0, ([] : List Int), 1)) (
 (uA N x27 ([49] : List UInt8)).bind fun Ni =>
 cond (Ni) (
 some (0, 0, ([] : List Int), 1)) (
 some (o, p2, El, 0)))) N (([] : List Int), ([] : List UInt8), d, 0))))))))
def Cu (N : Nat) (CM uV dY iO eJ : Int) (g7 : List Int) (eI : List (List UInt8)) (cU bV bW bX bY cV : Int) (aW : List (Int × Int)) (bZ cA cB bA bB bC bD bE bF bG bH bI : Int) (aX : List (Int × Int)) (cC : Int) (s : List UInt8) (rows : Int) : Option (List Int × Int) :=
 cond (decide (iO = 0)) (
 (Cs N s dY (IntKind.i64.wrap (CM * rows))).bind fun r2 =>
 some (r2.1, r2.2)) (
 (Er N s CM rows iO g7).bind fun r3 =>
 cond (decide (r3.2.2.2 = 0)) (
 (oP N r3.2.2.1).bind fun r4 =>
 (nn dY).bind fun _ =>
 cond (decide (0 < (iZ .i64 r4 dY))) (
 some (r3.2.2.1, 1)) (
 some (r3.2.2.1, r3.2.2.2))) (
 some (r3.2.2.1, r3.2.2.2)))
def Bz (N : Nat) (iD lI f6 jA kZ : Int) (hU : List Int) (dL : List (List UInt8)) (cN cD cE cG cH cO : Int) (aT : List (Int × Int)) (cJ cK cL bJ bK bL bM bN bO bP bQ bR : Int) (aU : List (Int × Int)) (bT : Int) (r3 : List (Int × Int)) (kk : (List Int × Int) → Option (Int × Int × List Int × Int)) : Nat → (List Int × Int) → Option (Int × Int × List Int × Int)
 | 0, _ => none
 | fuel + 1, (zW, i) =>
  cond (decide (i < (dL.length : Int))) (
  (idx dL i).bind fun e3 =>
  (idx r3 i).bind fun e4 =>
  (Cu N iD lI f6 jA kZ hU dL cN cD cE cG cH cO aT cJ cK cL bJ bK bL bM bN bO bP bQ bR aU bT e3 e4.2).bind fun r6 =>
  cond (!decide (r6.2 = 0)) (
  some (0, 0, ([] : List Int), 1)) (
  (app 8 zW r6.1).bind fun sQ =>
  Bz N iD lI f6 jA kZ hU dL cN cD cE cG cH cO aT cJ cK cL bJ bK bL bM bN bO bP bQ bR aU bT r3 kk fuel (sQ, IntKind.i64.wrap (i + 1)))) (
  kk (zW, i))
def B6 (N : Nat) (iD lI f6 jA kZ : Int) (hU : List Int) (dL : List (List UInt8)) (cN cD cE cG cH cO : Int) (aT : List (Int × Int)) (cJ cK cL bJ bK bL bM bN bO bP bQ bR : Int) (aU : List (Int × Int)) (bT : Int) : Option (Int × Int × List Int × Int) :=
 (Dl N iD lI f6 jA kZ hU dL cN cD cE cG cH cO aT cJ cK cL bJ bK bL bM bN bO bP bQ bR aU bT).bind fun r2 =>
 cond (!decide (r2 = 0)) (
 some (0, 0, ([] : List Int), r2)) (
 (Aq N iD lI f6 jA kZ hU dL cN cD cE cG cH cO aT cJ cK cL bJ bK bL bM bN bO bP bQ bR aU bT).bind fun r3 =>
 cond (!decide ((dL.length : Int) = (r3.length : Int))) (
 some (0, 0, ([] : List Int), 2)) (
 (Dn N iD lI f6 jA kZ hU dL cN cD cE cG cH cO aT cJ cK cL bJ bK bL bM bN bO bP bQ bR aU bT).bind fun r4 =>
 cond (!decide (r4 = 0)) (
 some (0, 0, ([] : List Int), r4)) (
 Bz N iD lI f6 jA kZ hU dL cN cD cE cG cH cO aT cJ cK cL bJ bK bL bM bN bO bP bQ bR aU bT r3 (fun (El, i2) =>
 some (iD, lI, El, 0)) N (([] : List Int), 0))))
def jB (N : Nat) (s J4 : List UInt8) : Option Bool :=
 cond (decide ((J4.length : Int) ≤ (s.length : Int))) (
 (DG s 0 (J4.length : Int)).bind fun s2 =>
 some (decide (s2 = J4))) (
 some false)
def uW (N : Nat)  : Option (List Int) :=
 some (([2, 3, 3, 4, 4, 4, 5, 5, 5, 6, 6, 6, 7, 7, 7, 8, 8] : List Int))
def sB (N : Nat)  : Option (Int × Int × List Int) :=
 some (2, 2, ([10, 65535, 0, 7] : List Int))
def s1 (N : Nat)  : Option (Int × Int × Int × Int × Int × List Int × List (List UInt8) × Int × Int × Int × Int × Int × Int × List (Int × Int) × Int × Int × Int × Int × Int × Int × Int × Int × Int × Int × Int × Int × List (Int × Int) × Int) :=
 (uW N ).bind fun r2 =>
 (sA N ).bind fun r3 =>
 (sB N ).bind fun r4 =>
 (FD N 2 2 16 7 1 r2 (([] : List (List UInt8))) r3.1 r3.2.1 r3.2.2.1 r3.2.2.2.1 r3.2.2.2.2.1 r3.2.2.2.2.2.1 r3.2.2.2.2.2.2.1 r3.2.2.2.2.2.2.2.1 r3.2.2.2.2.2.2.2.2.1 r3.2.2.2.2.2.2.2.2.2.1 r3.2.2.2.2.2.2.2.2.2.2.1 r3.2.2.2.2.2.2.2.2.2.2.2.1 r3.2.2.2.2.2.2.2.2.2.2.2.2.1 r3.2.2.2.2.2.2.2.2.2.2.2.2.2.1 r3.2.2.2.2.2.2.2.2.2.2.2.2.2.2.1 r3.2.2.2.2.2.2.2.2.2.2.2.2.2.2.2.1 r3.2.2.2.2.2.2.2.2.2.2.2.2.2.2.2.2.1 r3.2.2.2.2.2.2.2.2.2.2.2.2.2.2.2.2.2.1 r3.2.2.2.2.2.2.2.2.2.2.2.2.2.2.2.2.2.2.1 r3.2.2.2.2.2.2.2.2.2.2.2.2.2.2.2.2.2.2.2.1 r3.2.2.2.2.2.2.2.2.2.2.2.2.2.2.2.2.2.2.2.2 r4.1 r4.2.1 r4.2.2).bind fun r5 =>
 some (r5.1, r5.2.1, r5.2.2.1, r5.2.2.2.1, r5.2.2.2.2.1, r5.2.2.2.2.2.1, r5.2.2.2.2.2.2.1, r5.2.2.2.2.2.2.2.1, r5.2.2.2.2.2.2.2.2.1, r5.2.2.2.2.2.2.2.2.2.1, r5.2.2.2.2.2.2.2.2.2.2.1, r5.2.2.2.2.2.2.2.2.2.2.2.1, r5.2.2.2.2.2.2.2.2.2.2.2.2.1, r5.2.2.2.2.2.2.2.2.2.2.2.2.2.1, r5.2.2.2.2.2.2.2.2.2.2.2.2.2.2.1, r5.2.2.2.2.2.2.2.2.2.2.2.2.2.2.2.1, r5.2.2.2.2.2.2.2.2.2.2.2.2.2.2.2.2.1, r5.2.2.2.2.2.2.2.2.2.2.2.2.2.2.2.2.2.1, r5.2.2.2.2.2.2.2.2.2.2.2.2.2.2.2.2.2.2.1, r5.2.2.2.2.2.2.2.2.2.2.2.2.2.2.2.2.2.2.2.1, r5.2.2.2.2.2.2.2.2.2.2.2.2.2.2.2.2.2.2.2.2.1, r5.2.2.2.2.2.2.2.2.2.2.2.2.2.2.2.2.2.2.2.2.2.1, r5.2.2.2.2.2.2.2.2.2.2.2.2.2.2.2.2.2.2.2.2.2.2.1, r5.2.2.2.2.2.2.2.2.2.2.2.2.2.2.2.2.2.2.2.2.2.2.2.1, r5.2.2.2.2.2.2.2.2.2.2.2.2.2.2.2.2.2.2.2.2.2.2.2.2.1, r5.2.2.2.2.2.2.2.2.2.2.2.2.2.2.2.2.2.2.2.2.2.2.2.2.2.1, r5.2.2.2.2.2.2.2.2.2.2.2.2.2.2.2.2.2.2.2.2.2.2.2.2.2.2.1, r5.2.2.2.2.2.2.2.2.2.2.2.2.2.2.2.2.2.2.2.2.2.2.2.2.2.2.2.1)
def B7 (N : Nat) (CM uV dY iO eJ : Int) (g7 : List Int) (eI : List (List UInt8)) (cU bV bW bX bY cV : Int) (aW : List (Int × Int)) (bZ cA cB bA bB bC bD bE bF bG bH bI : Int) (aX : List (Int × Int)) (cC : Int) : Option Int :=
 (B6 N CM uV dY iO eJ g7 eI cU bV bW bX bY cV aW bZ cA cB bA bB bC bD bE bF bG bH bI aX cC).bind fun r2 =>
 some r2.2.2.2
def sC (N : Nat) (e2 : Int) (kk : (List Int × Int) → Option (List Int)) : Nat → (List Int × Int) → Option (List Int)
 | 0, _ => none
 | fuel + 1, (vE, i5) =>
  cond (decide (0 ≤ i5)) (
  (nn (IntKind.i64.wrap (8 * i5))).bind fun _ =>
  (app 1 vE (([IntKind.u8.wrap (iZ .i64 e2 (IntKind.i64.wrap (8 * i5)))] : List Int))).bind fun IM =>
  (some (IntKind.i64.wrap (i5 - 1))).bind fun i8 =>
  sC N e2 kk fuel (IM, i8)) (
  kk (vE, i5))
def sD (N : Nat) (l2 : List Int) (kk : (List Int × Int) → Option (List Int)) : Nat → (List Int × Int) → Option (List Int)
 | 0, _ => none
 | fuel + 1, (CR, i) =>
  cond (decide (i < (l2.length : Int))) (
  (idx l2 i).bind fun e2 =>
  sC N e2 (fun (J5, w5) =>
  sD N l2 kk fuel (J5, IntKind.i64.wrap (i + 1))) N (CR, 3)) (
  kk (CR, i))
def eL (N : Nat) (MJ l2 : List Int) : Option (List Int) :=
 sD N l2 (fun (LF, i11) =>
 some LF) N (MJ, 0)
def vX (N : Nat) (MJ : List Int) (s : List UInt8) : Option (List Int) :=
 (eL N MJ (([(s.length : Int)] : List Int))).bind fun r2 =>
 (app 1 r2 (lL s)).bind fun CR =>
 some CR
def BA (N : Nat) (aU : List (Int × Int)) (kk : (List Int × Int) → Option (List UInt8 × Int)) : Nat → (List Int × Int) → Option (List UInt8 × Int)
 | 0, _ => none
 | fuel + 1, (LG, i5) =>
  cond (decide (i5 < (aU.length : Int))) (
  (idx aU i5).bind fun e6 =>
  (eL N LG ([e6.1, e6.2] : List Int)).bind fun Dk =>
  BA N aU kk fuel (Dk, IntKind.i64.wrap (i5 + 1))) (
  kk (LG, i5))
def BB (N : Nat) (aT : List (Int × Int)) (kk : (List Int × Int) → Option (List UInt8 × Int)) : Nat → (List Int × Int) → Option (List UInt8 × Int)
 | 0, _ => none
 | fuel + 1, (LH, i3) =>
  cond (decide (i3 < (aT.length : Int))) (
  (idx aT i3).bind fun e4 =>
  (eL N LH ([e4.1, e4.2] : List Int)).bind fun BX =>
  BB N aT kk fuel (BX, IntKind.i64.wrap (i3 + 1))) (
  kk (LH, i3))
def BC (N : Nat) (dL : List (List UInt8)) (kk : (List Int × Int) → Option (List UInt8 × Int)) : Nat → (List Int × Int) → Option (List UInt8 × Int)
 | 0, _ => none
 | fuel + 1, (S8, i) =>
  cond (decide (i < (dL.length : Int))) (
  (idx dL i).bind fun e2 =>
  (vX N S8 e2).bind fun r8 =>
  BC N dL kk fuel (r8, IntKind.i64.wrap (i + 1))) (
  kk (S8, i))
def Es (N : Nat) (iD lI f6 jA kZ : Int) (hU : List Int) (dL : List (List UInt8)) (cN cD cE cG cH cO : Int) (aT : List (Int × Int)) (cJ cK cL bJ bK bL bM bN bO bP bQ bR : Int) (aU : List (Int × Int)) (bT : Int) : Option (List UInt8 × Int) :=
 (B7 N iD lI f6 jA kZ hU dL cN cD cE cG cH cO aT cJ cK cL bJ bK bL bM bN bO bP bQ bR aU bT).bind fun r2 =>
 cond (!decide (r2 = 0)) (
 some (([] : List UInt8), r2)) (
 (vX N ([] : List Int) ([100, 97, 114, 107] : List UInt8)).bind fun r3 =>
 (eL N r3 (([iD, lI, f6, jA, kZ, (hU.length : Int)] : List Int))).bind fun r4 =>
 (eL N r4 hU).bind fun r5 =>
 (eL N r5 (([(dL.length : Int)] : List Int))).bind fun r6 =>
 BC N dL (fun (V0, i2) =>
 (eL N V0 ([cN] : List Int)).bind fun r9 =>
 (eL N r9 ([cD, cE, cG, cH])).bind fun FZ =>
 (eL N FZ (([cO, (aT.length : Int)] : List Int))).bind fun wZ =>
 BB N aT (fun (V1, i4) =>
 (eL N V1 ([cJ, cK, cL])).bind fun D5 =>
 (eL N D5 ([bJ, bK, bL, bM, bN, bO, bP, bQ, bR])).bind fun Em =>
 (eL N Em (([(aU.length : Int)] : List Int))).bind fun r16 =>
 BA N aU (fun (V2, i6) =>
 (eL N V2 ([bT] : List Int)).bind fun FE =>
 some (toB FE, 0)) N (r16, 0)) N (wZ, 0)) N (r6, 0))
def mI (N : Nat) (Lo : List UInt8) (n : Int) : Option (Option (List UInt8 × List UInt8)) :=
 cond (decide (n < 0)) (
 some none) (
 cond (decide ((Lo.length : Int) < n)) (
 some none) (
 (DG Lo 0 n).bind fun s =>
 (DG Lo n (Lo.length : Int)).bind fun s2 =>
 some (some (s, s2))))
def oR (N : Nat) (r2 : List UInt8 × List UInt8) (kk : (Int × Int) → Option (Option (Int × List UInt8))) : Nat → (Int × Int) → Option (Option (Int × List UInt8))
 | 0, _ => none
 | fuel + 1, (n, i) =>
  cond (decide (i < (((lL r2.1).length : Int)))) (
  (idx (lL r2.1) i).bind fun e2 =>
  (some (FY .i64 (oG .i64 n 8) (IntKind.i64.wrap e2))).bind fun n3 =>
  oR N r2 kk fuel (n3, IntKind.i64.wrap (i + 1))) (
  kk (n, i))
def aJ (N : Nat) (Lo : List UInt8) : Option (Option (Int × List UInt8)) :=
 (mI N Lo 4).bind fun q => C9 q (
 some none) fun r2 =>
 oR N r2 (fun (n4, i2) =>
 some (some (IntKind.i64.wrap (IntKind.i32.wrap n4), r2.2))) N (0, 0)
def Cv (N : Nat) (Qb : Int × List UInt8) (kk : (List (Int × Int) × List UInt8 × Int) → Option (Int × Int × Int × Int × Int × List Int × List (List UInt8) × Int × Int × Int × Int × Int × Int × List (Int × Int) × Int × Int × Int × Int × Int × Int × Int × Int × Int × Int × Int × Int × List (Int × Int) × Int × Int)) : Nat → (List (Int × Int) × List UInt8 × Int) → Option (Int × Int × Int × Int × Int × List Int × List (List UInt8) × Int × Int × Int × Int × Int × Int × List (Int × Int) × Int × Int × Int × Int × Int × Int × Int × Int × Int × Int × Int × Int × List (Int × Int) × Int × Int)
 | 0, _ => none
 | fuel + 1, (l8, J6, i7) =>
  cond (decide (i7 < Qb.1)) (
  (aJ N J6).bind fun Yo => C9 Yo (
  some (0, 0, 0, 0, 0, ([] : List Int), ([] : List (List UInt8)), 0, 0, 0, 0, 0, 0, ([] : List (Int × Int)), 0, 0, 0, 0, 0, 0, 0, 0, 0, 0, 0, 0, ([] : List (Int × Int)), 0, 1)) fun Kv =>
  (aJ N Kv.2).bind fun Yp => C9 Yp (
  some (0, 0, 0, 0, 0, ([] : List Int), ([] : List (List UInt8)), 0, 0, 0, 0, 0, 0, ([] : List (Int × Int)), 0, 0, 0, 0, 0, 0, 0, 0, 0, 0, 0, 0, ([] : List (Int × Int)), 0, 1)) fun RN =>
  (app 16 l8 (([(Kv.1, RN.1)] : List (Int × Int)))).bind fun Cw =>
  Cv N Qb kk fuel (Cw, RN.2, IntKind.i64.wrap (i7 + 1))) (
  kk (l8, J6, i7))
def Cx (N : Nat) (Ni : Int × List UInt8) (kk : (List (Int × Int) × List UInt8 × Int) → Option (Int × Int × Int × Int × Int × List Int × List (List UInt8) × Int × Int × Int × Int × Int × Int × List (Int × Int) × Int × Int × Int × Int × Int × Int × Int × Int × Int × Int × Int × Int × List (Int × Int) × Int × Int)) : Nat → (List (Int × Int) × List UInt8 × Int) → Option (Int × Int × Int × Int × Int × List Int × List (List UInt8) × Int × Int × Int × Int × Int × Int × List (Int × Int) × Int × Int × Int × Int × Int × Int × Int × Int × Int × Int × Int × Int × List (Int × Int) × Int × Int)
 | 0, _ => none
 | fuel + 1, (l6, OY, i5) =>
  cond (decide (i5 < Ni.1)) (
  (aJ N OY).bind fun Yq => C9 Yq (
  some (0, 0, 0, 0, 0, ([] : List Int), ([] : List (List UInt8)), 0, 0, 0, 0, 0, 0, ([] : List (Int × Int)), 0, 0, 0, 0, 0, 0, 0, 0, 0, 0, 0, 0, ([] : List (Int × Int)), 0, 1)) fun Kw =>
  (aJ N Kw.2).bind fun Yr => C9 Yr (
  some (0, 0, 0, 0, 0, ([] : List Int), ([] : List (List UInt8)), 0, 0, 0, 0, 0, 0, ([] : List (Int × Int)), 0, 0, 0, 0, 0, 0, 0, 0, 0, 0, 0, 0, ([] : List (Int × Int)), 0, 1)) fun RO =>
  (app 16 l6 (([(Kw.1, RO.1)] : List (Int × Int)))).bind fun Cy =>
  Cx N Ni kk fuel (Cy, RO.2, IntKind.i64.wrap (i5 + 1))) (
  kk (l6, OY, i5))
def Cz (N : Nat) (rN : Int × List UInt8) (kk : (List (List UInt8) × List UInt8 × Int) → Option (Int × Int × Int × Int × Int × List Int × List (List UInt8) × Int × Int × Int × Int × Int × Int × List (Int × Int) × Int × Int × Int × Int × Int × Int × Int × Int × Int × Int × Int × Int × List (Int × Int) × Int × Int)) : Nat → (List (List UInt8) × List UInt8 × Int) → Option (Int × Int × Int × Int × Int × List Int × List (List UInt8) × Int × Int × Int × Int × Int × Int × List (Int × Int) × Int × Int × Int × Int × Int × Int × Int × Int × Int × Int × Int × Int × List (Int × Int) × Int × Int)
 | 0, _ => none
 | fuel + 1, (l4, OZ, i3) =>
  cond (decide (i3 < rN.1)) (
  (aJ N OZ).bind fun Ys => C9 Ys (
  some (0, 0, 0, 0, 0, ([] : List Int), ([] : List (List UInt8)), 0, 0, 0, 0, 0, 0, ([] : List (Int × Int)), 0, 0, 0, 0, 0, 0, 0, 0, 0, 0, 0, 0, ([] : List (Int × Int)), 0, 1)) fun Em =>
  (mI N Em.2 Em.1).bind fun Yt => C9 Yt (
  some (0, 0, 0, 0, 0, ([] : List Int), ([] : List (List UInt8)), 0, 0, 0, 0, 0, 0, ([] : List (Int × Int)), 0, 0, 0, 0, 0, 0, 0, 0, 0, 0, 0, 0, ([] : List (Int × Int)), 0, 1)) fun r16 =>
  (app 16 l4 (([r16.1] : List (List UInt8)))).bind fun Hh =>
  Cz N rN kk fuel (Hh, r16.2, IntKind.i64.wrap (i3 + 1))) (
  kk (l4, OZ, i3))
def CA (N : Nat) (r9 : Int × List UInt8) (kk : (List Int × List UInt8 × Int) → Option (Int × Int × Int × Int × Int × List Int × List (List UInt8) × Int × Int × Int × Int × Int × Int × List (Int × Int) × Int × Int × Int × Int × Int × Int × Int × Int × Int × Int × Int × Int × List (Int × Int) × Int × Int)) : Nat → (List Int × List UInt8 × Int) → Option (Int × Int × Int × Int × Int × List Int × List (List UInt8) × Int × Int × Int × Int × Int × Int × List (Int × Int) × Int × Int × Int × Int × Int × Int × Int × Int × Int × Int × Int × Int × List (Int × Int) × Int × Int)
 | 0, _ => none
 | fuel + 1, (l2, O0, i) =>
  cond (decide (i < r9.1)) (
  (aJ N O0).bind fun Yu => C9 Yu (
  some (0, 0, 0, 0, 0, ([] : List Int), ([] : List (List UInt8)), 0, 0, 0, 0, 0, 0, ([] : List (Int × Int)), 0, 0, 0, 0, 0, 0, 0, 0, 0, 0, 0, 0, ([] : List (Int × Int)), 0, 1)) fun wZ =>
  (app 8 l2 ([wZ.1] : List Int)).bind fun Kx =>
  CA N r9 kk fuel (Kx, wZ.2, IntKind.i64.wrap (i + 1))) (
  kk (l2, O0, i))
def FF (N : Nat) (d : List UInt8) : Option (Int × Int × Int × Int × Int × List Int × List (List UInt8) × Int × Int × Int × Int × Int × Int × List (Int × Int) × Int × Int × Int × Int × Int × Int × Int × Int × Int × Int × Int × Int × List (Int × Int) × Int × Int) :=
 (aJ N d).bind fun q => C9 q (
 some (0, 0, 0, 0, 0, ([] : List Int), ([] : List (List UInt8)), 0, 0, 0, 0, 0, 0, ([] : List (Int × Int)), 0, 0, 0, 0, 0, 0, 0, 0, 0, 0, 0, 0, ([] : List (Int × Int)), 0, 1)) fun r2 =>
 (mI N r2.2 r2.1).bind fun q2 => C9 q2 (
 some (0, 0, 0, 0, 0, ([] : List Int), ([] : List (List UInt8)), 0, 0, 0, 0, 0, 0, ([] : List (Int × Int)), 0, 0, 0, 0, 0, 0, 0, 0, 0, 0, 0, 0, ([] : List (Int × Int)), 0, 1)) fun r3 =>
 cond (!decide (r3.1 = ([100, 97, 114, 107] : List UInt8))) (
 some (0, 0, 0, 0, 0, ([] : List Int), ([] : List (List UInt8)), 0, 0, 0, 0, 0, 0, ([] : List (Int × Int)), 0, 0, 0, 0, 0, 0, 0, 0, 0, 0, 0, 0, ([] : List (Int × Int)), 0, 1)) (
 (aJ N r3.2).bind fun q3 => C9 q3 (
 some (0, 0, 0, 0, 0, ([] : List Int), ([] : List (List UInt8)), 0, 0, 0, 0, 0, 0, ([] : List (Int × Int)), 0, 0, 0, 0, 0, 0, 0, 0, 0, 0, 0, 0, ([] : List (Int × Int)), 0, 1)) fun r4 =>
 (aJ N r4.2).bind fun q4 => C9 q4 (
 some (0, 0, 0, 0, 0, ([] : List Int), ([] : List (List UInt8)), 0, 0, 0, 0, 0, 0, ([] : List (Int × Int)), 0, 0, 0, 0, 0, 0, 0, 0, 0, 0, 0, 0, ([] : List (Int × Int)), 0, 1)) fun r5 =>
 (aJ N r5.2).bind fun q5 => C9 q5 (
 some (0, 0, 0, 0, 0, ([] : List Int), ([] : List (List UInt8)), 0, 0, 0, 0, 0, 0, ([] : List (Int × Int)), 0, 0, 0, 0, 0, 0, 0, 0, 0, 0, 0, 0, ([] : List (Int × Int)), 0, 1)) fun r6 =>
 (aJ N r6.2).bind fun q6 => C9 q6 (
 some (0, 0, 0, 0, 0, ([] : List Int), ([] : List (List UInt8)), 0, 0, 0, 0, 0, 0, ([] : List (Int × Int)), 0, 0, 0, 0, 0, 0, 0, 0, 0, 0, 0, 0, ([] : List (Int × Int)), 0, 1)) fun r7 =>
 (aJ N r7.2).bind fun q7 => C9 q7 (
 some (0, 0, 0, 0, 0, ([] : List Int), ([] : List (List UInt8)), 0, 0, 0, 0, 0, 0, ([] : List (Int × Int)), 0, 0, 0, 0, 0, 0, 0, 0, 0, 0, 0, 0, ([] : List (Int × Int)), 0, 1)) fun r8 =>
 (aJ N r8.2).bind fun q8 => C9 q8 (
 some (0, 0, 0, 0, 0, ([] : List Int), ([] : List (List UInt8)), 0, 0, 0, 0, 0, 0, ([] : List (Int × Int)), 0, 0, 0, 0, 0, 0, 0, 0, 0, 0, 0, 0, ([] : List (Int × Int)), 0, 1)) fun r9 =>
 cond (decide (r9.1 < 0)) (
 some (0, 0, 0, 0, 0, ([] : List Int), ([] : List (List UInt8)), 0, 0, 0, 0, 0, 0, ([] : List (Int × Int)), 0, 0, 0, 0, 0, 0, 0, 0, 0, 0, 0, 0, ([] : List (Int × Int)), 0, 1)) (
 cond (decide ((r9.2.length : Int) < r9.1)) (
 some (0, 0, 0, 0, 0, ([] : List Int), ([] : List (List UInt8)), 0, 0, 0, 0, 0, 0, ([] : List (Int × Int)), 0, 0, 0, 0, 0, 0, 0, 0, 0, 0, 0, 0, ([] : List (Int × Int)), 0, 1)) (
 CA N r9 (fun (l3, V3, i2) =>
 (aJ N V3).bind fun Yv => C9 Yv (
 some (0, 0, 0, 0, 0, ([] : List Int), ([] : List (List UInt8)), 0, 0, 0, 0, 0, 0, ([] : List (Int × Int)), 0, 0, 0, 0, 0, 0, 0, 0, 0, 0, 0, 0, ([] : List (Int × Int)), 0, 1)) fun rN =>
 cond (decide (rN.1 < 0)) (
 some (0, 0, 0, 0, 0, ([] : List Int), ([] : List (List UInt8)), 0, 0, 0, 0, 0, 0, ([] : List (Int × Int)), 0, 0, 0, 0, 0, 0, 0, 0, 0, 0, 0, 0, ([] : List (Int × Int)), 0, 1)) (
 cond (decide ((rN.2.length : Int) < rN.1)) (
 some (0, 0, 0, 0, 0, ([] : List Int), ([] : List (List UInt8)), 0, 0, 0, 0, 0, 0, ([] : List (Int × Int)), 0, 0, 0, 0, 0, 0, 0, 0, 0, 0, 0, 0, ([] : List (Int × Int)), 0, 1)) (
 Cz N rN (fun (l5, V4, i4) =>
 (aJ N V4).bind fun q16 => C9 q16 (
 some (0, 0, 0, 0, 0, ([] : List Int), ([] : List (List UInt8)), 0, 0, 0, 0, 0, 0, ([] : List (Int × Int)), 0, 0, 0, 0, 0, 0, 0, 0, 0, 0, 0, 0, ([] : List (Int × Int)), 0, 1)) fun E2 =>
 (aJ N E2.2).bind fun Yw => C9 Yw (
 some (0, 0, 0, 0, 0, ([] : List Int), ([] : List (List UInt8)), 0, 0, 0, 0, 0, 0, ([] : List (Int × Int)), 0, 0, 0, 0, 0, 0, 0, 0, 0, 0, 0, 0, ([] : List (Int × Int)), 0, 1)) fun Dk =>
 (aJ N Dk.2).bind fun Yx => C9 Yx (
 some (0, 0, 0, 0, 0, ([] : List Int), ([] : List (List UInt8)), 0, 0, 0, 0, 0, 0, ([] : List (Int × Int)), 0, 0, 0, 0, 0, 0, 0, 0, 0, 0, 0, 0, ([] : List (Int × Int)), 0, 1)) fun FE =>
 (aJ N FE.2).bind fun Yy => C9 Yy (
 some (0, 0, 0, 0, 0, ([] : List Int), ([] : List (List UInt8)), 0, 0, 0, 0, 0, 0, ([] : List (Int × Int)), 0, 0, 0, 0, 0, 0, 0, 0, 0, 0, 0, 0, ([] : List (Int × Int)), 0, 1)) fun HH =>
 (aJ N HH.2).bind fun Yz => C9 Yz (
 some (0, 0, 0, 0, 0, ([] : List Int), ([] : List (List UInt8)), 0, 0, 0, 0, 0, 0, ([] : List (Int × Int)), 0, 0, 0, 0, 0, 0, 0, 0, 0, 0, 0, 0, ([] : List (Int × Int)), 0, 1)) fun Ic =>
 (aJ N Ic.2).bind fun YA => C9 YA (
 some (0, 0, 0, 0, 0, ([] : List Int), ([] : List (List UInt8)), 0, 0, 0, 0, 0, 0, ([] : List (Int × Int)), 0, 0, 0, 0, 0, 0, 0, 0, 0, 0, 0, 0, ([] : List (Int × Int)), 0, 1)) fun IL =>
 (aJ N IL.2).bind fun q22 => C9 q22 (
 some (0, 0, 0, 0, 0, ([] : List Int), ([] : List (List UInt8)), 0, 0, 0, 0, 0, 0, ([] : List (Int × Int)), 0, 0, 0, 0, 0, 0, 0, 0, 0, 0, 0, 0, ([] : List (Int × Int)), 0, 1)) fun Ni =>
 cond (decide (Ni.1 < 0)) (
 some (0, 0, 0, 0, 0, ([] : List Int), ([] : List (List UInt8)), 0, 0, 0, 0, 0, 0, ([] : List (Int × Int)), 0, 0, 0, 0, 0, 0, 0, 0, 0, 0, 0, 0, ([] : List (Int × Int)), 0, 1)) (
 cond (decide ((Ni.2.length : Int) < Ni.1)) (
 some (0, 0, 0, 0, 0, ([] : List Int), ([] : List (List UInt8)), 0, 0, 0, 0, 0, 0, ([] : List (Int × Int)), 0, 0, 0, 0, 0, 0, 0, 0, 0, 0, 0, 0, ([] : List (Int × Int)), 0, 1)) (
 Cx N Ni (fun (l7, V5, i6) =>
 (aJ N V5).bind fun YB => C9 YB (
 some (0, 0, 0, 0, 0, ([] : List Int), ([] : List (List UInt8)), 0, 0, 0, 0, 0, 0, ([] : List (Int × Int)), 0, 0, 0, 0, 0, 0, 0, 0, 0, 0, 0, 0, ([] : List (Int × Int)), 0, 1)) fun Ky =>
 (aJ N Ky.2).bind fun YC => C9 YC (
 some (0, 0, 0, 0, 0, ([] : List Int), ([] : List (List UInt8)), 0, 0, 0, 0, 0, 0, ([] : List (Int × Int)), 0, 0, 0, 0, 0, 0, 0, 0, 0, 0, 0, 0, ([] : List (Int × Int)), 0, 1)) fun Lp =>
 (aJ N Lp.2).bind fun YD => C9 YD (
 some (0, 0, 0, 0, 0, ([] : List Int), ([] : List (List UInt8)), 0, 0, 0, 0, 0, 0, ([] : List (Int × Int)), 0, 0, 0, 0, 0, 0, 0, 0, 0, 0, 0, 0, ([] : List (Int × Int)), 0, 1)) fun r32 =>
 (aJ N r32.2).bind fun q32 => C9 q32 (
 some (0, 0, 0, 0, 0, ([] : List Int), ([] : List (List UInt8)), 0, 0, 0, 0, 0, 0, ([] : List (Int × Int)), 0, 0, 0, 0, 0, 0, 0, 0, 0, 0, 0, 0, ([] : List (Int × Int)), 0, 1)) fun MK =>
 (aJ N MK.2).bind fun YE => C9 YE (
 some (0, 0, 0, 0, 0, ([] : List Int), ([] : List (List UInt8)), 0, 0, 0, 0, 0, 0, ([] : List (Int × Int)), 0, 0, 0, 0, 0, 0, 0, 0, 0, 0, 0, 0, ([] : List (Int × Int)), 0, 1)) fun Nj =>
 (aJ N Nj.2).bind fun YF => C9 YF (
 some (0, 0, 0, 0, 0, ([] : List Int), ([] : List (List UInt8)), 0, 0, 0, 0, 0, 0, ([] : List (Int × Int)), 0, 0, 0, 0, 0, 0, 0, 0, 0, 0, 0, 0, ([] : List (Int × Int)), 0, 1)) fun Oe =>
 (aJ N Oe.2).bind fun YG => C9 YG (
 some (0, 0, 0, 0, 0, ([] : List Int), ([] : List (List UInt8)), 0, 0, 0, 0, 0, 0, ([] : List (Int × Int)), 0, 0, 0, 0, 0, 0, 0, 0, 0, 0, 0, 0, ([] : List (Int × Int)), 0, 1)) fun O1 =>
 (aJ N O1.2).bind fun YH => C9 YH (
 some (0, 0, 0, 0, 0, ([] : List Int), ([] : List (List UInt8)), 0, 0, 0, 0, 0, 0, ([] : List (Int × Int)), 0, 0, 0, 0, 0, 0, 0, 0, 0, 0, 0, 0, ([] : List (Int × Int)), 0, 1)) fun Pw =>
 (aJ N Pw.2).bind fun YI => C9 YI (
 some (0, 0, 0, 0, 0, ([] : List Int), ([] : List (List UInt8)), 0, 0, 0, 0, 0, 0, ([] : List (Int × Int)), 0, 0, 0, 0, 0, 0, 0, 0, 0, 0, 0, 0, ([] : List (Int × Int)), 0, 1)) fun Qc =>
 (aJ N Qc.2).bind fun YJ => C9 YJ (
 some (0, 0, 0, 0, 0, ([] : List Int), ([] : List (List UInt8)), 0, 0, 0, 0, 0, 0, ([] : List (Int × Int)), 0, 0, 0, 0, 0, 0, 0, 0, 0, 0, 0, 0, ([] : List (Int × Int)), 0, 1)) fun RP =>
 (aJ N RP.2).bind fun YK => C9 YK (
 some (0, 0, 0, 0, 0, ([] : List Int), ([] : List (List UInt8)), 0, 0, 0, 0, 0, 0, ([] : List (Int × Int)), 0, 0, 0, 0, 0, 0, 0, 0, 0, 0, 0, 0, ([] : List (Int × Int)), 0, 1)) fun Sk =>
 (aJ N Sk.2).bind fun YL => C9 YL (
 some (0, 0, 0, 0, 0, ([] : List Int), ([] : List (List UInt8)), 0, 0, 0, 0, 0, 0, ([] : List (Int × Int)), 0, 0, 0, 0, 0, 0, 0, 0, 0, 0, 0, 0, ([] : List (Int × Int)), 0, 1)) fun S9 =>
 (aJ N S9.2).bind fun YM => C9 YM (
 some (0, 0, 0, 0, 0, ([] : List Int), ([] : List (List UInt8)), 0, 0, 0, 0, 0, 0, ([] : List (Int × Int)), 0, 0, 0, 0, 0, 0, 0, 0, 0, 0, 0, 0, ([] : List (Int × Int)), 0, 1)) fun Qb =>
 cond (decide (Qb.1 < 0)) (
 some (0, 0, 0, 0, 0, ([] : List Int), ([] : List (List UInt8)), 0, 0, 0, 0, 0, 0, ([] : List (Int × Int)), 0, 0, 0, 0, 0, 0, 0, 0, 0, 0, 0, 0, ([] : List (Int × Int)), 0, 1)) (
 cond (decide ((Qb.2.length : Int) < Qb.1)) (
 some (0, 0, 0, 0, 0, ([] : List Int), ([] : List (List UInt8)), 0, 0, 0, 0, 0, 0, ([] : List (Int × Int)), 0, 0, 0, 0, 0, 0, 0, 0, 0, 0, 0, 0, ([] : List (Int × Int)), 0, 1)) (
 Cv N Qb (fun (l9, Ta, i8) =>
 (aJ N Ta).bind fun YN => C9 YN (
 some (0, 0, 0, 0, 0, ([] : List Int), ([] : List (List UInt8)), 0, 0, 0, 0, 0, 0, ([] : List (Int × Int)), 0, 0, 0, 0, 0, 0, 0, 0, 0, 0, 0, 0, ([] : List (Int × Int)), 0, 1)) fun VA =>
 cond (!decide (VA.2 = ([] : List UInt8))) (
 some (0, 0, 0, 0, 0, ([] : List Int), ([] : List (List UInt8)), 0, 0, 0, 0, 0, 0, ([] : List (Int × Int)), 0, 0, 0, 0, 0, 0, 0, 0, 0, 0, 0, 0, ([] : List (Int × Int)), 0, 1)) (
 (B7 N r4.1 r5.1 r6.1 r7.1 r8.1 l3 l5 E2.1 Dk.1 FE.1 HH.1 Ic.1 IL.1 l7 Ky.1 Lp.1 r32.1 MK.1 Nj.1 Oe.1 O1.1 Pw.1 Qc.1 RP.1 Sk.1 S9.1 l9 VA.1).bind fun ZK =>
 cond (!decide (ZK = 0)) (
 some (0, 0, 0, 0, 0, ([] : List Int), ([] : List (List UInt8)), 0, 0, 0, 0, 0, 0, ([] : List (Int × Int)), 0, 0, 0, 0, 0, 0, 0, 0, 0, 0, 0, 0, ([] : List (Int × Int)), 0, 1)) (
 some (r4.1, r5.1, r6.1, r7.1, r8.1, l3, l5, E2.1, Dk.1, FE.1, HH.1, Ic.1, IL.1, l7, Ky.1, Lp.1, r32.1, MK.1, Nj.1, Oe.1, O1.1, Pw.1, Qc.1, RP.1, Sk.1, S9.1, l9, VA.1, 0)))) N (([] : List (Int × Int)), Qb.2, 0)))) N (([] : List (Int × Int)), Ni.2, 0)))) N (([] : List (List UInt8)), rN.2, 0)))) N (([] : List Int), r9.2, 0))))
def kV (N : Nat) (o : Bool) (e3 : Int × Int × Int) (kk : (List UInt8 × Int) → Option (List UInt8 × Int)) : Nat → (List UInt8 × Int) → Option (List UInt8 × Int)
 | 0, _ => none
 | fuel + 1, (l4, i3) =>
  cond (decide (i3 < 3)) (
  (idx [e3.1, e3.2.1, e3.2.2] i3).bind fun e5 =>
  (Sf l4 (IntKind.u8.wrap (iZ .i64 e5 8))).bind fun b6 =>
  cond (o) (
  (Sf b6 (IntKind.u8.wrap e5)).bind fun b7 =>
  kV N o e3 kk fuel (b7, IntKind.i64.wrap (i3 + 1))) (
  kV N o e3 kk fuel (b6, IntKind.i64.wrap (i3 + 1)))) (
  kk (l4, i3))
def o6 (N : Nat) (jO : List (Int × Int × Int)) (o : Bool) (kk : (List UInt8 × Int) → Option (List UInt8 × Int)) : Nat → (List UInt8 × Int) → Option (List UInt8 × Int)
 | 0, _ => none
 | fuel + 1, (l2, i) =>
  cond (decide (i < (jO.length : Int))) (
  (idx jO i).bind fun e3 =>
  kV N o e3 (fun (l5, i4) =>
  o6 N jO o kk fuel (l5, IntKind.i64.wrap (i + 1))) N (l2, 0)) (
  kk (l2, i))
def kW (N : Nat) (o : Bool) (e8 : Int × Int × Int) (kk : (List UInt8 × Int) → Option (List UInt8 × Int)) : Nat → (List UInt8 × Int) → Option (List UInt8 × Int)
 | 0, _ => none
 | fuel + 1, (l9, i8) =>
  cond (decide (i8 < 3)) (
  (idx [e8.1, e8.2.1, e8.2.2] i8).bind fun e10 =>
  (Sf l9 (IntKind.u8.wrap (iZ .i64 e10 8))).bind fun b13 =>
  cond (o) (
  (Sf b13 (IntKind.u8.wrap e10)).bind fun b14 =>
  kW N o e8 kk fuel (b14, IntKind.i64.wrap (i8 + 1))) (
  kW N o e8 kk fuel (b13, IntKind.i64.wrap (i8 + 1)))) (
  kk (l9, i8))
def o7 (N : Nat) (jO : List (Int × Int × Int)) (o : Bool) (kk : (List UInt8 × Int) → Option (List UInt8 × Int)) : Nat → (List UInt8 × Int) → Option (List UInt8 × Int)
 | 0, _ => none
 | fuel + 1, (l7, i6) =>
  cond (decide (i6 < (jO.length : Int))) (
  (idx jO i6).bind fun e8 =>
  kW N o e8 (fun (l10, i9) =>
  o7 N jO o kk fuel (l10, IntKind.i64.wrap (i6 + 1))) N (l7, 0)) (
  kk (l7, i6))
def kK (N : Nat) (iD lI : Int) (jO : List (Int × Int × Int)) (o : Bool) : Option (List UInt8 × Int) :=
 (lM N iD lI jO 0).bind fun r2 =>
 cond (!decide (r2.2.2.2 = 0)) (
 some (([] : List UInt8), r2.2.2.2)) (
 cond (o) (
 (f9 N iD).bind fun r3 =>
 (sV ([80, 54, 10] : List UInt8) r3).bind fun s =>
 (sV s ([32] : List UInt8)).bind fun s2 =>
 (f9 N lI).bind fun r4 =>
 (sV s2 r4).bind fun s3 =>
 (sV s3 ([10] : List UInt8)).bind fun s4 =>
 (f9 N 65535).bind fun r5 =>
 (sV s4 r5).bind fun s5 =>
 (sV s5 ([10] : List UInt8)).bind fun s6 =>
 (MF ([] : List UInt8) s6).bind fun b =>
 o6 N jO o (fun (l6, i5) =>
 some (l6, 0)) N (b, 0)) (
 (f9 N iD).bind fun r6 =>
 (sV ([80, 54, 10] : List UInt8) r6).bind fun s7 =>
 (sV s7 ([32] : List UInt8)).bind fun s8 =>
 (f9 N lI).bind fun r7 =>
 (sV s8 r7).bind fun s9 =>
 (sV s9 ([10] : List UInt8)).bind fun s10 =>
 (f9 N 255).bind fun r8 =>
 (sV s10 r8).bind fun s11 =>
 (sV s11 ([10] : List UInt8)).bind fun s12 =>
 (MF ([] : List UInt8) s12).bind fun b8 =>
 o7 N jO o (fun (Ln, w5) =>
 some (Ln, 0)) N (b8, 0)))
def gG (N : Nat) (dQ : List (Int × Int × Int)) (kk : Int → Option Bool) : Nat → Int → Option Bool
 | 0, _ => none
 | fuel + 1, i =>
  cond (decide (i < (dQ.length : Int))) (
  (idx dQ i).bind fun e4 =>
  (gF N e4.1 0 65535).bind fun r7 =>
  cond (!(r7)) (
  some false) (
  (idx dQ i).bind fun e5 =>
  (gF N e5.2.1 0 65535).bind fun r8 =>
  cond (!(r8)) (
  some false) (
  (idx dQ i).bind fun e6 =>
  (gF N e6.2.2 0 65535).bind fun r9 =>
  cond (!(r9)) (
  some false) (
  (some (IntKind.i64.wrap (i + 1))).bind fun i3 =>
  gG N dQ kk fuel i3)))) (
  kk i)
def jU (N : Nat) (dI fP : Int) (dQ : List (Int × Int × Int)) : Option Bool :=
 (gF N dI 1 64).bind fun r2 =>
 cond (!(r2)) (
 some false) (
 (gF N fP 1 64).bind fun r3 =>
 cond (!(r3)) (
 some false) (
 cond (!decide ((dQ.length : Int) = (IntKind.i64.wrap (dI * fP)))) (
 some false) (
 gG N dQ (fun i4 =>
 some true) N 0)))
def iG (N : Nat) : Nat → Int → Option (List UInt8)
 | 0, _ => none
 | fu + 1, n =>
  cond (decide (n < 10)) (
  some (toB (([IntKind.u8.wrap (IntKind.i64.wrap (48 + (Int.tmod n 10)))] : List Int)))) (
  (iG N fu (IntKind.i64.wrap (Int.tdiv n 10))).bind fun r2 =>
  (sV r2 (toB (([IntKind.u8.wrap (IntKind.i64.wrap (48 + (Int.tmod n 10)))] : List Int)))).bind fun s =>
  some s)
def jC (N : Nat) (n : Int) : Option (List UInt8) := iG N N n
def lR (N : Nat) (w2 h2 : Int) (deep : Bool) : Option (List UInt8) :=
 cond (deep) (
 (jC N w2).bind fun r2 =>
 (sV ([80, 54, 10] : List UInt8) r2).bind fun s =>
 (sV s ([32] : List UInt8)).bind fun s2 =>
 (jC N h2).bind fun r3 =>
 (sV s2 r3).bind fun s3 =>
 (sV s3 ([10] : List UInt8)).bind fun s4 =>
 (sV s4 ([54, 53, 53, 51, 53] : List UInt8)).bind fun s5 =>
 (sV s5 ([10] : List UInt8)).bind fun s6 =>
 some s6) (
 (jC N w2).bind fun r4 =>
 (sV ([80, 54, 10] : List UInt8) r4).bind fun s7 =>
 (sV s7 ([32] : List UInt8)).bind fun s8 =>
 (jC N h2).bind fun r5 =>
 (sV s8 r5).bind fun s9 =>
 (sV s9 ([10] : List UInt8)).bind fun s10 =>
 (sV s10 ([50, 53, 53] : List UInt8)).bind fun s11 =>
 (sV s11 ([10] : List UInt8)).bind fun s12 =>
 some s12)
def d7 (N : Nat) (deep : Bool) (r4 : Int × Int × Int) (kk : (List Int × Int) → Option (List UInt8)) : Nat → (List Int × Int) → Option (List UInt8)
 | 0, _ => none
 | fuel + 1, (l6, k4) =>
  cond (decide (k4 < 3)) (
  (inr k4 3).bind fun _ =>
  (idx [r4.1, r4.2.1, r4.2.2] k4).bind fun e7 =>
  (app 1 l6 (([IntKind.u8.wrap (IntKind.i64.wrap (Int.tdiv e7 256))] : List Int))).bind fun l9 =>
  cond (deep) (
  (inr k4 3).bind fun _ =>
  (idx [r4.1, r4.2.1, r4.2.2] k4).bind fun e8 =>
  (app 1 l9 ([IntKind.u8.wrap e8] : List Int)).bind fun l10 =>
  (some (IntKind.i64.wrap (k4 + 1))).bind fun k7 =>
  d7 N deep r4 kk fuel (l10, k7)) (
  (some (IntKind.i64.wrap (k4 + 1))).bind fun k8 =>
  d7 N deep r4 kk fuel (l9, k8))) (
  kk (l6, k4))
def hG (N : Nat) (dQ : List (Int × Int × Int)) (deep : Bool) (kk : (List Int × Int) → Option (List UInt8)) : Nat → (List Int × Int) → Option (List UInt8)
 | 0, _ => none
 | fuel + 1, (l2, i) =>
  cond (decide (i < (dQ.length : Int))) (
  (idx dQ i).bind fun e4 =>
  (pA N e4.1 e4.2.1 e4.2.2).bind fun r4 =>
  d7 N deep r4 (fun (Ln, k9) =>
  (some (IntKind.i64.wrap (i + 1))).bind fun i3 =>
  hG N dQ deep kk fuel (Ln, i3)) N (l2, 0)) (
  kk (l2, i))
def kT (N : Nat) (dI fP : Int) (dQ : List (Int × Int × Int)) (deep : Bool) : Option (List UInt8) :=
 (lR N dI fP deep).bind fun r2 =>
 (szB r2).bind fun _ =>
 hG N dQ deep (fun (UK, i4) =>
 some (toB UK)) N ((lL r2), 0)
def gQ (N : Nat) (s pB : List UInt8) : Option Bool :=
 cond (decide ((pB.length : Int) ≤ (s.length : Int))) (
 (DG s 0 (pB.length : Int)).bind fun s2 =>
 some (decide (s2 = pB))) (
 some false)
def gR (N : Nat) (s pB : List UInt8) : Option (List UInt8 × Bool) :=
 (gQ N s pB).bind fun r2 =>
 cond (!(r2)) (
 some (s, false)) (
 (DG s (pB.length : Int) (s.length : Int)).bind fun s2 =>
 some (s2, true))
def kN (N : Nat) (s pB : List UInt8) : Option (List UInt8 × Bool) :=
 (gR N s pB).bind fun r2 =>
 some (r2.1, r2.2)
def jV (N : Nat) (s sep : List UInt8) : Option (List UInt8 × List UInt8 × Bool) :=
 (iU N s sep).bind fun r2 =>
 cond (decide (0 ≤ r2)) (
 (DG s 0 r2).bind fun s2 =>
 (DG s (IntKind.i64.wrap (r2 + (sep.length : Int))) (s.length : Int)).bind fun s3 =>
 some (s2, s3, true)) (
 some (s, ([] : List UInt8), false))
def pO (N : Nat) (s sep : List UInt8) : Option (List UInt8 × List UInt8 × Bool) :=
 (jV N s sep).bind fun r2 =>
 some (r2.1, r2.2.1, r2.2.2)
def mZ (N : Nat) (s mark : List UInt8) : Option (Int × List UInt8 × Bool) :=
 (pO N s mark).bind fun r2 =>
 JT r2.1 (fun n =>
 cond (r2.2.2) (
 (f9 N n).bind fun r3 =>
 some (n, r2.2.1, decide (r3 = r2.1))) (
 some (n, r2.2.1, false))) (fun n =>
 cond (r2.2.2) (
 some (n, r2.2.1, false)) (
 some (n, r2.2.1, false)))
def vY (N : Nat) (i : Bool) (r4 : Int × List UInt8 × Bool) (zJ : Bool → Option (Int × Int × List (Int × Int × Int) × Bool × Int)) : Option (Int × Int × List (Int × Int × Int) × Bool × Int) :=
  cond (i) (
  zJ r4.2.2) (
  zJ false)
def vZ (N : Nat) (i : Bool) (r4 : Int × List UInt8 × Bool) (zK : Bool → Option (Int × Int × List (Int × Int × Int) × Bool × Int)) : Option (Int × Int × List (Int × Int × Int) × Bool × Int) :=
  cond (i) (
  zK r4.2.2) (
  zK false)
def v6 (N : Nat) (i : Bool) (r4 : Int × List UInt8 × Bool) (zL : Bool → Option (Int × Int × List (Int × Int × Int) × Bool × Int)) : Option (Int × Int × List (Int × Int × Int) × Bool × Int) :=
  cond (i) (
  zL r4.2.2) (
  zL false)
def p9 (N : Nat) (Kz ER x6 : Int) (kk : (List (Int × Int × Int) × List UInt8 × Int) → Option (Int × Int × List (Int × Int × Int) × Bool × Int)) : Nat → (List (Int × Int × Int) × List UInt8 × Int) → Option (Int × Int × List (Int × Int × Int) × Bool × Int)
 | 0, _ => none
 | fuel + 1, (zW, x7, i19) =>
  cond (decide (i19 < (IntKind.i64.wrap (Kz * ER)))) (
  (idx x7 0).bind fun b7 =>
  (idx x7 (IntKind.i64.wrap (x6 - 1))).bind fun b8 =>
  (DG x7 x6 (x7.length : Int)).bind fun s4 =>
  (idx s4 0).bind fun b9 =>
  (idx s4 (IntKind.i64.wrap (x6 - 1))).bind fun b10 =>
  (DG s4 x6 (s4.length : Int)).bind fun s5 =>
  (idx s5 0).bind fun b11 =>
  (idx s5 (IntKind.i64.wrap (x6 - 1))).bind fun b12 =>
  (DG s5 x6 (s5.length : Int)).bind fun s6 =>
  (app 24 zW (([(FY .i64 (oG .i64 (IntKind.i64.wrap (b7.toNat : Int)) 8) (IntKind.i64.wrap (b8.toNat : Int)), FY .i64 (oG .i64 (IntKind.i64.wrap (b9.toNat : Int)) 8) (IntKind.i64.wrap (b10.toNat : Int)), FY .i64 (oG .i64 (IntKind.i64.wrap (b11.toNat : Int)) 8) (IntKind.i64.wrap (b12.toNat : Int)))] : List (Int × Int × Int)))).bind fun sQ =>
  p9 N Kz ER x6 kk fuel (sQ, s6, IntKind.i64.wrap (i19 + 1))) (
  kk (zW, x7, i19))
def qA (N : Nat) (Ib : Int) (zM : Int → Option (Int × Int × List (Int × Int × Int) × Bool × Int)) : Option (Int × Int × List (Int × Int × Int) × Bool × Int) :=
  cond (decide (Ib = 65535)) (
  zM 2) (
  zM 1)
def qB (N : Nat) (Kz ER Ib : Int) (HI : Bool) (lT : Bool → Option (Int × Int × List (Int × Int × Int) × Bool × Int)) : Option (Int × Int × List (Int × Int × Int) × Bool × Int) :=
  cond (!(HI)) (
  lT true) (
  cond (decide (Kz < 1)) (
  lT true) (
  cond (decide (64 < Kz)) (
  lT true) (
  cond (decide (ER < 1)) (
  lT true) (
  cond (decide (64 < ER)) (
  lT true) (
  cond (!decide (Ib = 65535)) (
  lT (!decide (Ib = 255))) (
  lT false))))))
def iH (N : Nat)  (kk : (Int × Int × Int × List UInt8 × Bool × Int) → Option (Int × Int × List (Int × Int × Int) × Bool × Int)) : Nat → (Int × Int × Int × List UInt8 × Bool × Int) → Option (Int × Int × List (Int × Int × Int) × Bool × Int)
 | 0, _ => none
 | fuel + 1, (x0, x1, x2, x3, i, i2) =>
  cond (decide (i2 < 3)) (
  (idx [([32] : List UInt8), ([10] : List UInt8), ([10] : List UInt8)] i2).bind fun e2 =>
  (mZ N x3 e2).bind fun r4 =>
  cond (decide (i2 = 0)) (
  vY N i r4 (fun w5 =>
  cond (!(w5)) (
  kk (r4.1, x1, x2, r4.2.1, w5, i2)) (
  iH N  kk fuel (r4.1, x1, x2, r4.2.1, w5, IntKind.i64.wrap (i2 + 1))))) (
  cond (decide (i2 = 1)) (
  vZ N i r4 (fun i12 =>
  cond (!(i12)) (
  kk (x0, r4.1, x2, r4.2.1, i12, i2)) (
  iH N  kk fuel (x0, r4.1, x2, r4.2.1, i12, IntKind.i64.wrap (i2 + 1))))) (
  cond (decide (i2 = 2)) (
  v6 N i r4 (fun Pu =>
  cond (!(Pu)) (
  kk (x0, x1, r4.1, r4.2.1, Pu, i2)) (
  iH N  kk fuel (x0, x1, r4.1, r4.2.1, Pu, IntKind.i64.wrap (i2 + 1))))) (
  none)))) (
  kk (x0, x1, x2, x3, i, i2))
def lU (N : Nat) (d : List UInt8) : Option (Int × Int × List (Int × Int × Int) × Bool × Int) :=
 (kN N d ([80, 54, 10] : List UInt8)).bind fun r2 =>
 iH N  (fun (Kz, ER, Ib, x4, HI, i16) =>
 qB N Kz ER Ib HI (fun XM =>
 cond (XM) (
 some (0, 0, ([] : List (Int × Int × Int)), false, 1)) (
 qA N Ib (fun x6 =>
 cond (!decide ((x4.length : Int) = (IntKind.i64.wrap ((IntKind.i64.wrap ((IntKind.i64.wrap (3 * x6)) * Kz)) * ER)))) (
 some (0, 0, ([] : List (Int × Int × Int)), false, 1)) (
 p9 N Kz ER x6 (fun (El, x8, i20) =>
 some (Kz, ER, El, decide (Ib = 65535), 0)) N (([] : List (Int × Int × Int)), x4, 0)))))) N (0, 0, 0, r2.1, r2.2, 0)
def dW (N : Nat) (d : List UInt8) (w5 : Int) (wZ : List UInt8) (Hg : Int) (kk : (Int × Int × Int × Int) → Option (Int × Int × List (Int × Int × Int) × Bool × Bool)) : Nat → (Int × Int × Int × Int) → Option (Int × Int × List (Int × Int × Int) × Bool × Bool)
 | 0, _ => none
 | fuel + 1, (Sl, x112, KA, HI) =>
  cond (decide (HI < 3)) (
  (some (IntKind.i64.wrap ((wZ.length : Int) + (IntKind.i64.wrap ((IntKind.i64.wrap ((IntKind.i64.wrap (3 * Hg)) + HI)) * w5))))).bind fun x41 =>
  (idx d x41).bind fun b11 =>
  (idx d (IntKind.i64.wrap ((IntKind.i64.wrap (x41 + w5)) - 1))).bind fun b12 =>
  cond (decide (HI = 0)) (
  (some (IntKind.i64.wrap (HI + 1))).bind fun YO =>
  dW N d w5 wZ Hg kk fuel (IntKind.i64.wrap ((IntKind.i64.wrap (256 * (IntKind.i64.wrap (b11.toNat : Int)))) + (IntKind.i64.wrap (b12.toNat : Int))), x112, KA, YO)) (
  cond (decide (HI = 1)) (
  (some (IntKind.i64.wrap (HI + 1))).bind fun x43 =>
  dW N d w5 wZ Hg kk fuel (Sl, IntKind.i64.wrap ((IntKind.i64.wrap (256 * (IntKind.i64.wrap (b11.toNat : Int)))) + (IntKind.i64.wrap (b12.toNat : Int))), KA, x43)) (
  cond (decide (HI = 2)) (
  (some (IntKind.i64.wrap (HI + 1))).bind fun YP =>
  dW N d w5 wZ Hg kk fuel (Sl, x112, IntKind.i64.wrap ((IntKind.i64.wrap (256 * (IntKind.i64.wrap (b11.toNat : Int)))) + (IntKind.i64.wrap (b12.toNat : Int))), YP)) (
  none)))) (
  kk (Sl, x112, KA, HI))
def iI (N : Nat) (d : List UInt8) (i i6 w5 : Int) (wZ : List UInt8) (kk : (List (Int × Int × Int) × Int) → Option (Int × Int × List (Int × Int × Int) × Bool × Bool)) : Nat → (List (Int × Int × Int) × Int) → Option (Int × Int × List (Int × Int × Int) × Bool × Bool)
 | 0, _ => none
 | fuel + 1, (Id, Hg) =>
  cond (decide (Hg < (IntKind.i64.wrap (i * i6)))) (
  dW N d w5 wZ Hg (fun (ZL, x113, V6, i16) =>
  (o9 N ZL x113 V6).bind fun D5 =>
  (app 24 Id (([(D5.1, D5.2.1, D5.2.2)] : List (Int × Int × Int)))).bind fun UL =>
  (some (IntKind.i64.wrap (Hg + 1))).bind fun YQ =>
  iI N d i i6 w5 wZ kk fuel (UL, YQ)) N (0, 0, 0, 0)) (
  kk (Id, Hg))
def dB (N : Nat) (d : List UInt8) (i i6 : Int) (kk : Int → Option (Int × Int × List (Int × Int × Int) × Bool × Bool)) : Nat → Int → Option (Int × Int × List (Int × Int × Int) × Bool × Bool)
 | 0, _ => none
 | fuel + 1, w5 =>
  cond (decide (w5 ≤ 2)) (
  (lR N i i6 (decide (w5 = 2))).bind fun wZ =>
  cond (!decide ((d.length : Int) = (IntKind.i64.wrap ((wZ.length : Int) + (IntKind.i64.wrap ((IntKind.i64.wrap ((IntKind.i64.wrap (3 * w5)) * i)) * i6)))))) (
  (some (IntKind.i64.wrap (w5 + 1))).bind fun x30 =>
  dB N d i i6 kk fuel x30) (
  (jB N d wZ).bind fun rN =>
  cond (!(rN)) (
  (some (IntKind.i64.wrap (w5 + 1))).bind fun x31 =>
  dB N d i i6 kk fuel x31) (
  iI N d i i6 w5 wZ (fun (Of, i17) =>
  some (i, i6, Of, decide (w5 = 2), true)) N (([] : List (Int × Int × Int)), 0)))) (
  kk w5)
def eM (N : Nat) (d : List UInt8) (i : Int) (kk : Int → Option (Int × Int × List (Int × Int × Int) × Bool × Bool)) : Nat → Int → Option (Int × Int × List (Int × Int × Int) × Bool × Bool)
 | 0, _ => none
 | fuel + 1, i6 =>
  cond (decide (i6 ≤ 64)) (
  dB N d i i6 (fun XM =>
  (some (IntKind.i64.wrap (i6 + 1))).bind fun YR =>
  eM N d i kk fuel YR) N 1) (
  kk i6)
def eN (N : Nat) (d : List UInt8) (kk : Int → Option (Int × Int × List (Int × Int × Int) × Bool × Bool)) : Nat → Int → Option (Int × Int × List (Int × Int × Int) × Bool × Bool)
 | 0, _ => none
 | fuel + 1, i =>
  cond (decide (i ≤ 64)) (
  eM N d i (fun i19 =>
  (some (IntKind.i64.wrap (i + 1))).bind fun YS =>
  eN N d kk fuel YS) N 1) (
  kk i)
def fQ (N : Nat) (d : List UInt8) : Option (Int × Int × List (Int × Int × Int) × Bool × Bool) :=
 eN N d (fun i20 =>
 some (0, 0, ([] : List (Int × Int × Int)), false, false)) N 1
def CB (N : Nat) (iD : Int) (jO : List (Int × Int × Int)) (RQ RR sZ yQ : Int) (kk : (List (Int × Int × Int) × Int) → Option (Int × Int × List (Int × Int × Int) × Int)) : Nat → (List (Int × Int × Int) × Int) → Option (Int × Int × List (Int × Int × Int) × Int)
 | 0, _ => none
 | fuel + 1, (zW, i) =>
  cond (decide (i < yQ)) (
  (some (IntKind.i64.wrap ((IntKind.i64.wrap ((IntKind.i64.wrap (RR + i)) * iD)) + RQ))).bind fun x3 =>
  (DG jO x3 (IntKind.i64.wrap (x3 + sZ))).bind fun l3 =>
  (app 24 zW l3).bind fun sQ =>
  CB N iD jO RQ RR sZ yQ kk fuel (sQ, IntKind.i64.wrap (i + 1))) (
  kk (zW, i))
def FG (N : Nat) (iD lI : Int) (jO : List (Int × Int × Int)) (RQ RR sZ yQ : Int) : Option (Int × Int × List (Int × Int × Int) × Int) :=
 (lM N iD lI jO 0).bind fun r2 =>
 cond (!decide (r2.2.2.2 = 0)) (
 some (0, 0, ([] : List (Int × Int × Int)), r2.2.2.2)) (
 cond (decide (sZ < 1)) (
 some (0, 0, ([] : List (Int × Int × Int)), 3)) (
 cond (decide (yQ < 1)) (
 some (0, 0, ([] : List (Int × Int × Int)), 3)) (
 cond (decide (iD < sZ)) (
 some (0, 0, ([] : List (Int × Int × Int)), 3)) (
 cond (decide (lI < yQ)) (
 some (0, 0, ([] : List (Int × Int × Int)), 3)) (
 cond (decide (RQ < 0)) (
 some (0, 0, ([] : List (Int × Int × Int)), 3)) (
 cond (decide (RR < 0)) (
 some (0, 0, ([] : List (Int × Int × Int)), 3)) (
 cond (decide ((IntKind.i64.wrap (iD - sZ)) < RQ)) (
 some (0, 0, ([] : List (Int × Int × Int)), 3)) (
 cond (decide ((IntKind.i64.wrap (lI - yQ)) < RR)) (
 some (0, 0, ([] : List (Int × Int × Int)), 3)) (
 CB N iD jO RQ RR sZ yQ (fun (El, i2) =>
 some (sZ, yQ, El, 0)) N (([] : List (Int × Int × Int)), 0))))))))))
def BD (N : Nat) (d : List UInt8) (KC Gc Gd Ge Gf Hi : Int) (Dr : Bool) : Option (List UInt8 × Int) :=
 (FF N d).bind fun r2 =>
 cond (!decide (r2.2.2.2.2.2.2.2.2.2.2.2.2.2.2.2.2.2.2.2.2.2.2.2.2.2.2.2.2 = 0)) (
 some (([] : List UInt8), r2.2.2.2.2.2.2.2.2.2.2.2.2.2.2.2.2.2.2.2.2.2.2.2.2.2.2.2.2)) (
 (B6 N r2.1 r2.2.1 r2.2.2.1 r2.2.2.2.1 r2.2.2.2.2.1 r2.2.2.2.2.2.1 r2.2.2.2.2.2.2.1 r2.2.2.2.2.2.2.2.1 r2.2.2.2.2.2.2.2.2.1 r2.2.2.2.2.2.2.2.2.2.1 r2.2.2.2.2.2.2.2.2.2.2.1 r2.2.2.2.2.2.2.2.2.2.2.2.1 r2.2.2.2.2.2.2.2.2.2.2.2.2.1 r2.2.2.2.2.2.2.2.2.2.2.2.2.2.1 r2.2.2.2.2.2.2.2.2.2.2.2.2.2.2.1 r2.2.2.2.2.2.2.2.2.2.2.2.2.2.2.2.1 r2.2.2.2.2.2.2.2.2.2.2.2.2.2.2.2.2.1 r2.2.2.2.2.2.2.2.2.2.2.2.2.2.2.2.2.2.1 r2.2.2.2.2.2.2.2.2.2.2.2.2.2.2.2.2.2.2.1 r2.2.2.2.2.2.2.2.2.2.2.2.2.2.2.2.2.2.2.2.1 r2.2.2.2.2.2.2.2.2.2.2.2.2.2.2.2.2.2.2.2.2.1 r2.2.2.2.2.2.2.2.2.2.2.2.2.2.2.2.2.2.2.2.2.2.1 r2.2.2.2.2.2.2.2.2.2.2.2.2.2.2.2.2.2.2.2.2.2.2.1 r2.2.2.2.2.2.2.2.2.2.2.2.2.2.2.2.2.2.2.2.2.2.2.2.1 r2.2.2.2.2.2.2.2.2.2.2.2.2.2.2.2.2.2.2.2.2.2.2.2.2.1 r2.2.2.2.2.2.2.2.2.2.2.2.2.2.2.2.2.2.2.2.2.2.2.2.2.2.1 r2.2.2.2.2.2.2.2.2.2.2.2.2.2.2.2.2.2.2.2.2.2.2.2.2.2.2.1 r2.2.2.2.2.2.2.2.2.2.2.2.2.2.2.2.2.2.2.2.2.2.2.2.2.2.2.2.1).bind fun r3 =>
 (Cm N r2.2.2.2.2.2.2.2.1 r2.2.2.2.2.2.2.2.2.1 r2.2.2.2.2.2.2.2.2.2.1 r2.2.2.2.2.2.2.2.2.2.2.1 r2.2.2.2.2.2.2.2.2.2.2.2.1 r2.2.2.2.2.2.2.2.2.2.2.2.2.1 r2.2.2.2.2.2.2.2.2.2.2.2.2.2.1 r2.2.2.2.2.2.2.2.2.2.2.2.2.2.2.1 r2.2.2.2.2.2.2.2.2.2.2.2.2.2.2.2.1 r2.2.2.2.2.2.2.2.2.2.2.2.2.2.2.2.2.1 r2.2.2.2.2.2.2.2.2.2.2.2.2.2.2.2.2.2.1 r2.2.2.2.2.2.2.2.2.2.2.2.2.2.2.2.2.2.2.1 r2.2.2.2.2.2.2.2.2.2.2.2.2.2.2.2.2.2.2.2.1 r2.2.2.2.2.2.2.2.2.2.2.2.2.2.2.2.2.2.2.2.2.1 r2.2.2.2.2.2.2.2.2.2.2.2.2.2.2.2.2.2.2.2.2.2.1 r2.2.2.2.2.2.2.2.2.2.2.2.2.2.2.2.2.2.2.2.2.2.2.1 r2.2.2.2.2.2.2.2.2.2.2.2.2.2.2.2.2.2.2.2.2.2.2.2.1 r2.2.2.2.2.2.2.2.2.2.2.2.2.2.2.2.2.2.2.2.2.2.2.2.2.1 r2.2.2.2.2.2.2.2.2.2.2.2.2.2.2.2.2.2.2.2.2.2.2.2.2.2.1 r2.2.2.2.2.2.2.2.2.2.2.2.2.2.2.2.2.2.2.2.2.2.2.2.2.2.2.1 r2.2.2.2.2.2.2.2.2.2.2.2.2.2.2.2.2.2.2.2.2.2.2.2.2.2.2.2.1 r3.1 r3.2.1 r3.2.2.1 KC).bind fun r4 =>
 cond (decide (r4.2.2.2 = 0)) (
 cond (!(decide (Gc = 0) && decide (Gd = 0) && decide (Ge = 0) && decide (Gf = 0))) (
 (FG N r4.1 r4.2.1 r4.2.2.1 Gc Gd Ge Gf).bind fun r5 =>
 cond (decide (r5.2.2.2 = 0)) (
 (yK N r5.1 r5.2.1 r5.2.2.1 Hi).bind fun r6 =>
 cond (!decide (r6.2.2.2 = 0)) (
 some (([] : List UInt8), r6.2.2.2)) (
 (kK N r6.1 r6.2.1 r6.2.2.1 Dr).bind fun r7 =>
 some (r7.1, r7.2))) (
 cond (!decide (r5.2.2.2 = 0)) (
 some (([] : List UInt8), r5.2.2.2)) (
 (kK N r5.1 r5.2.1 r5.2.2.1 Dr).bind fun r8 =>
 some (r8.1, r8.2)))) (
 cond (decide (r4.2.2.2 = 0)) (
 (yK N r4.1 r4.2.1 r4.2.2.1 Hi).bind fun r9 =>
 cond (!decide (r9.2.2.2 = 0)) (
 some (([] : List UInt8), r9.2.2.2)) (
 (kK N r9.1 r9.2.1 r9.2.2.1 Dr).bind fun FZ =>
 some (FZ.1, FZ.2))) (
 cond (!decide (r4.2.2.2 = 0)) (
 some (([] : List UInt8), r4.2.2.2)) (
 (kK N r4.1 r4.2.1 r4.2.2.1 Dr).bind fun wZ =>
 some (wZ.1, wZ.2))))) (
 cond (decide (r4.2.2.2 = 0)) (
 (yK N r4.1 r4.2.1 r4.2.2.1 Hi).bind fun rN =>
 cond (!decide (rN.2.2.2 = 0)) (
 some (([] : List UInt8), rN.2.2.2)) (
 (kK N rN.1 rN.2.1 rN.2.2.1 Dr).bind fun BX =>
 some (BX.1, BX.2))) (
 cond (!decide (r4.2.2.2 = 0)) (
 some (([] : List UInt8), r4.2.2.2)) (
 (kK N r4.1 r4.2.1 r4.2.2.1 Dr).bind fun D5 =>
 some (D5.1, D5.2)))))
def g8 (N : Nat)  : Option Bool :=
 (kK N 1 1 (([(258, 1, 65535)] : List (Int × Int × Int))) true).bind fun r2 =>
 (kK N 1 1 (([(258, 1, 65535)] : List (Int × Int × Int))) false).bind fun r3 =>
 (lU N r2.1).bind fun r4 =>
 (s1 N ).bind fun r5 =>
 (Es N r5.1 r5.2.1 r5.2.2.1 r5.2.2.2.1 r5.2.2.2.2.1 r5.2.2.2.2.2.1 r5.2.2.2.2.2.2.1 r5.2.2.2.2.2.2.2.1 r5.2.2.2.2.2.2.2.2.1 r5.2.2.2.2.2.2.2.2.2.1 r5.2.2.2.2.2.2.2.2.2.2.1 r5.2.2.2.2.2.2.2.2.2.2.2.1 r5.2.2.2.2.2.2.2.2.2.2.2.2.1 r5.2.2.2.2.2.2.2.2.2.2.2.2.2.1 r5.2.2.2.2.2.2.2.2.2.2.2.2.2.2.1 r5.2.2.2.2.2.2.2.2.2.2.2.2.2.2.2.1 r5.2.2.2.2.2.2.2.2.2.2.2.2.2.2.2.2.1 r5.2.2.2.2.2.2.2.2.2.2.2.2.2.2.2.2.2.1 r5.2.2.2.2.2.2.2.2.2.2.2.2.2.2.2.2.2.2.1 r5.2.2.2.2.2.2.2.2.2.2.2.2.2.2.2.2.2.2.2.1 r5.2.2.2.2.2.2.2.2.2.2.2.2.2.2.2.2.2.2.2.2.1 r5.2.2.2.2.2.2.2.2.2.2.2.2.2.2.2.2.2.2.2.2.2.1 r5.2.2.2.2.2.2.2.2.2.2.2.2.2.2.2.2.2.2.2.2.2.2.1 r5.2.2.2.2.2.2.2.2.2.2.2.2.2.2.2.2.2.2.2.2.2.2.2.1 r5.2.2.2.2.2.2.2.2.2.2.2.2.2.2.2.2.2.2.2.2.2.2.2.2.1 r5.2.2.2.2.2.2.2.2.2.2.2.2.2.2.2.2.2.2.2.2.2.2.2.2.2.1 r5.2.2.2.2.2.2.2.2.2.2.2.2.2.2.2.2.2.2.2.2.2.2.2.2.2.2.1 r5.2.2.2.2.2.2.2.2.2.2.2.2.2.2.2.2.2.2.2.2.2.2.2.2.2.2.2).bind fun r6 =>
 (BD N r6.1 1 0 0 0 0 1 false).bind fun r7 =>
 cond (decide (r2.2 = 0)) (
 cond (decide (r3.2 = 0)) (
 cond (decide (r4.2.2.2.2 = 0)) (
 cond (decide (r6.2 = 0)) (
 cond (decide (r7.2 = 0)) (
 cond (decide (r2.1 = ([80, 54, 10, 49, 32, 49, 10, 54, 53, 53, 51, 53, 10, 1, 2, 0, 1, 255, 255] : List UInt8))) (
 cond (decide (r3.1 = ([80, 54, 10, 49, 32, 49, 10, 50, 53, 53, 10, 1, 0, 255] : List UInt8))) (
 cond (r4.2.2.2.1) (
 (dE N r4.1 r4.2.1 r4.2.2.1 1 1 (([(258, 1, 65535)] : List (Int × Int × Int)))).bind fun r8 =>
 cond (r8) (
 some (decide ((r7.1.length : Int) = 23))) (
 some false)) (
 some false)) (
 some false)) (
 some false)) (
 some false)) (
 some false)) (
 some false)) (
 some false)) (
 some false)
def lV (N : Nat) (iD lI : Int) (jO : List (Int × Int × Int)) (o : Bool) (p2 : List UInt8) : Option Bool :=
 (kK N iD lI jO o).bind fun r2 =>
 (jU N iD lI jO).bind fun r3 =>
 cond (r3) (
 (kT N iD lI jO o).bind fun r4 =>
 (lU N p2).bind fun r5 =>
 (fQ N p2).bind fun r6 =>
 cond (!(r6.2.2.2.2)) (
 (g8 N ).bind fun r7 =>
 cond (r7) (
 cond (decide (r2.1 = r4)) (
 cond (decide (r2.2 = 0)) (
 cond (decide (r5.2.2.2.2 = 1)) (
 cond (decide (r5.2.2.2.1 = r6.2.2.2.1)) (
 (dE N r5.1 r5.2.1 r5.2.2.1 r6.1 r6.2.1 r6.2.2.1).bind fun r8 =>
 some r8) (
 some false)) (
 some false)) (
 some false)) (
 some false)) (
 some false)) (
 (g8 N ).bind fun r9 =>
 cond (r9) (
 cond (decide (r2.1 = r4)) (
 cond (decide (r2.2 = 0)) (
 cond (decide (r5.2.2.2.2 = 0)) (
 cond (decide (r5.2.2.2.1 = r6.2.2.2.1)) (
 (dE N r5.1 r5.2.1 r5.2.2.1 r6.1 r6.2.1 r6.2.2.1).bind fun FZ =>
 some FZ) (
 some false)) (
 some false)) (
 some false)) (
 some false)) (
 some false))) (
 (lU N p2).bind fun wZ =>
 (fQ N p2).bind fun rN =>
 cond (!(rN.2.2.2.2)) (
 (g8 N ).bind fun BX =>
 cond (BX) (
 cond (decide (r2.1 = ([] : List UInt8))) (
 cond (decide (r2.2 = 1)) (
 cond (decide (wZ.2.2.2.2 = 1)) (
 cond (decide (wZ.2.2.2.1 = rN.2.2.2.1)) (
 (dE N wZ.1 wZ.2.1 wZ.2.2.1 rN.1 rN.2.1 rN.2.2.1).bind fun D5 =>
 some D5) (
 some false)) (
 some false)) (
 some false)) (
 some false)) (
 some false)) (
 (g8 N ).bind fun Em =>
 cond (Em) (
 cond (decide (r2.1 = ([] : List UInt8))) (
 cond (decide (r2.2 = 1)) (
 cond (decide (wZ.2.2.2.2 = 0)) (
 cond (decide (wZ.2.2.2.1 = rN.2.2.2.1)) (
 (dE N wZ.1 wZ.2.1 wZ.2.2.1 rN.1 rN.2.1 rN.2.2.1).bind fun r16 =>
 some r16) (
 some false)) (
 some false)) (
 some false)) (
 some false)) (
 some false)))
end
section
open Go
theorem wV {x : Int} (h : -9223372036854775808 ≤ x ∧ x ≤ 9223372036854775807) : IntKind.i64.wrap x = x := IntWalk.i64_in x h
theorem At {α : Type} (xs : List α) (k : Nat) : idx xs (k : Int) = xs[k]? := by simp [idx]
theorem FH {α : Type} {xs : List α} {p q : Int} (h : 0 ≤ p ∧ p ≤ q ∧ q ≤ xs.length) : DG xs p q = some ((xs.take q.toNat).drop p.toNat) := by unfold DG; rw [if_pos h]
theorem FI {α : Type} {b : Nat} {xs ys : List α} (h : (xs.length + ys.length) * b ≤ 140737488355328) : app b xs ys = some (xs ++ ys) := by unfold app; rw [if_pos h]
theorem V7 {n : Int} (h : n ≠ 0) : nz n = some () := by unfold nz; rw [if_neg h]
theorem aS {α β : Type} (x : α) (f : α → Option β) : Option.bind (some x) f = f x := rfl
theorem cT {α : Type} {b : Bool} (h : b = true) (x y : α) : cond b x y = x := by rw [h]; rfl
theorem cF {α : Type} {b : Bool} (h : b = false) (x y : α) : cond b x y = y := by rw [h]; rfl
theorem dT {p : Prop} [Decidable p] (h : p) : decide p = true := decide_eq_true h
theorem dF {p : Prop} [Decidable p] (h : ¬ p) : decide p = false := decide_eq_false h
def zN (p : Int × Int × Int) : Bool := decide (0 ≤ p.1 ∧ p.1 ≤ 65535 ∧ 0 ≤ p.2.1 ∧ p.2.1 ≤ 65535 ∧ 0 ≤ p.2.2 ∧ p.2.2 ≤ 65535)
def uX (W H : Int) (n : Nat) : Prop := 1 ≤ W ∧ W ≤ 64 ∧ 1 ≤ H ∧ H ≤ 64 ∧ (n : Int) = W * H
instance (W H : Int) (n : Nat) : Decidable (uX W H n) := by unfold uX; infer_instance
def CS (W H : Int) (P : List (Int × Int × Int)) : Bool := decide (uX W H P.length) && P.all zN
theorem Nk {W H : Int} (h : 1 ≤ W ∧ W ≤ 64 ∧ 1 ≤ H ∧ H ≤ 64) : 1 ≤ W * H ∧ W * H ≤ 4096 := by
 obtain ⟨h1, h2, h3, h4⟩ := h;have a := Int.mul_le_mul h2 h4 (by omega) (by omega);have b := Int.mul_le_mul h1 h3 (by omega) (by omega)
 omega
theorem Gg {W H : Int} {n : Nat} (h : uX W H n) : n ≤ 4096 ∧ 1 ≤ n := by
 obtain ⟨h1, h2, h3, h4, h5⟩ := h;have := Nk ⟨h1, h2, h3, h4⟩
 omega
theorem EJ {W H : Int} {P : List (Int × Int × Int)} (h : CS W H P = true) : uX W H P.length := by
 simp only [CS, Bool.and_eq_true, decide_eq_true_eq] at h; exact h.1
abbrev Px := Int × Int × Int
def pre {α : Type} (W : Nat) (f : Nat → Nat → α) (n : Nat) : List α := (List.range n).map fun k => f (k % W) (k / W)
theorem Sm (N : Nat) (P : List (Int × Int × Int)) (kk : Int → Option Bool) (hP : P.length ≤ 4096) : ∀ (d k fuel : Nat), k + d = P.length → d < fuel → oC N P kk fuel (k : Int) = if (P.drop k).all zN then kk P.length else some false := by
 intro d
 induction d with
 | zero =>
  intro k fuel hk hf;obtain ⟨fuel, rfl⟩ := Hw fuel (by omega);have hk' : k = P.length := by omega
  subst hk';unfold oC;rw [cF (dF (by omega))]
  simp
 | succ d ih =>
  intro k fuel hk hf;obtain ⟨fuel, rfl⟩ := Hw fuel (by omega);have hlt : k < P.length := by omega
  obtain ⟨⟨x, y, z⟩, hx⟩ : ∃ p, P[k]? = some p := ⟨P[k], List.getElem?_eq_getElem hlt⟩
  unfold oC;rw [cT (dT (by omega)), At, hx, aS, wV (by omega)]
  have hd : P.drop k = (x, y, z) :: P.drop (k + 1) := by
   rw [List.drop_eq_getElem_cons hlt]
   congr 1
   exact (List.getElem?_eq_some_iff.1 hx).2
  rw [hd, List.all_cons];have hih := ih (k + 1) fuel (by omega) (by omega)
  by_cases h1 : min (min x y) z < 0
  ·rw [cT (dT h1)];have : zN (x, y, z) = false := by simp only [zN, decide_eq_false_iff_not]; omega
   simp [this]
  ·rw [cF (dF h1)]
   by_cases h2 : 65535 < max (max x y) z
   ·rw [cT (dT h2)];have : zN (x, y, z) = false := by simp only [zN, decide_eq_false_iff_not]; omega
    simp [this]
   ·rw [cF (dF h2)];have : zN (x, y, z) = true := by simp only [zN, decide_eq_true_eq]; omega
    rw [this, Bool.true_and, ← hih]
    rfl
theorem Sn (N : Nat) (W H : Int) (P : List (Int × Int × Int)) (hN : 5000 ≤ N) : tK N W H P = some (CS W H P) := by
 unfold tK;have no : ¬ uX W H P.length → CS W H P = false := fun h => by simp [CS, h]
 by_cases h1 : W < 1
 ·rw [cT (dT h1), no (fun h => by unfold uX at h; omega)]
 rw [cF (dF h1)]
 by_cases h2 : 64 < W
 ·rw [cT (dT h2), no (fun h => by unfold uX at h; omega)]
 rw [cF (dF h2)]
 by_cases h3 : H < 1
 ·rw [cT (dT h3), no (fun h => by unfold uX at h; omega)]
 rw [cF (dF h3)]
 by_cases h4 : 64 < H
 ·rw [cT (dT h4), no (fun h => by unfold uX at h; omega)]
 rw [cF (dF h4)];have hb := Nk (W := W) (H := H) (by omega);rw [wV (by omega)]
 by_cases h5 : (P.length : Int) = W * H
 ·rw [cF (by simp [h5])];have hs : uX W H P.length := ⟨by omega, by omega, by omega, by omega, h5⟩
  refine (Sm N P _ (by omega) P.length 0 N (by omega) (by omega)).trans ?_;simp only [CS, hs, decide_true, Bool.true_and, List.drop_zero]
  cases P.all zN <;> rfl
 ·rw [cT (by simp [h5]), no (fun h => h5 h.2.2.2.2)]
theorem J7 (N : Nat) (n lo hi : Int) : gF N n lo hi = some (decide (lo ≤ n ∧ n ≤ hi)) := by
 unfold gF
 by_cases h1 : lo ≤ n
 ·rw [cT (dT h1)]; simp [h1]
 ·rw [cF (dF h1)]; simp [h1]
theorem So (N : Nat) (P : List (Int × Int × Int)) (kk : Int → Option Bool) (hP : P.length ≤ 4611686018427387904) : ∀ (d k fuel : Nat), k + d = P.length → d < fuel → f4 N P P kk fuel (k : Int) = kk P.length := by
 intro d
 induction d with
 | zero =>
  intro k fuel hk hf;obtain ⟨fuel, rfl⟩ := Hw fuel (by omega);have hk' : k = P.length := by omega
  subst hk';unfold f4;rw [cF (dF (by omega))]
 | succ d ih =>
  intro k fuel hk hf;obtain ⟨fuel, rfl⟩ := Hw fuel (by omega);have hlt : k < P.length := by omega
  unfold f4;rw [cT (dT (by omega)), At, List.getElem?_eq_getElem hlt];simp only [aS];rw [cF (by simp), wV (by omega)];exact ih (k + 1) fuel (by omega) (by omega)
theorem same_eq (N : Nat) (W H : Int) (P : List (Int × Int × Int)) (hP : P.length ≤ 4611686018427387904) (hN : P.length < N) : dE N W H P W H P = some true := by
 unfold dE;rw [cF (by simp), cF (by simp), cF (by simp)];exact So N P _ hP P.length 0 N (by omega) (by omega)
theorem HJ (N : Nat) (phase x y : Int) : ∃ r, nK N phase x y = some r := by
 unfold nK
 by_cases h1 : phase < 0
 ·rw [cT (dT h1)]; exact ⟨_, rfl⟩
 rw [cF (dF h1)]
 by_cases h2 : 3 < phase
 ·rw [cT (dT h2)]; exact ⟨_, rfl⟩
 rw [cF (dF h2)]
 by_cases h3 : x < 0
 ·rw [cT (dT h3)]; exact ⟨_, rfl⟩
 rw [cF (dF h3)]
 by_cases h4 : y < 0
 ·rw [cT (dT h4)]; exact ⟨_, rfl⟩
 rw [cF (dF h4)];exact ⟨_, rfl⟩
theorem Sp (N : Nat) (W : Int) (P : List (Int × Int × Int)) (phase : Int) (kk : (List Int × Int) → Option (Int × Int × List Int × Int)) (hW : 1 ≤ W) (hP : P.length ≤ 4096) : ∀ (d k fuel : Nat) (l : List Int), k + d = P.length → d < fuel → l.length = k → ∃ l', kF N W P phase kk fuel (l, (k : Int)) = kk (l', (P.length : Int)) := by
 intro d
 induction d with
 | zero =>
  intro k fuel l hk hf hl;obtain ⟨fuel, rfl⟩ := Hw fuel (by omega);have hk' : k = P.length := by omega
  subst hk';refine ⟨l, ?_⟩;unfold kF;rw [cF (dF (by omega))]
 | succ d ih =>
  intro k fuel l hk hf hl;obtain ⟨fuel, rfl⟩ := Hw fuel (by omega);have hlt : k < P.length := by omega
  unfold kF;obtain ⟨r, hr⟩ := HJ N phase (Int.tmod k W) (IntKind.i64.wrap (Int.tdiv k W));rw [cT (dT (by omega)), V7 (by omega), aS, aS, hr, aS, At, List.getElem?_eq_getElem hlt, aS];rw [FI (by simp; omega), FI (by simp; omega), FI (by simp; omega), aS, aS, aS, wV (by omega)];have key : ∀ x : Int, ∃ l', kF N W P phase kk fuel (l ++ [x], (k : Int) + 1) = kk (l', (P.length : Int)) := fun x => ih (k + 1) fuel (l ++ [x]) (by omega) (by omega) (by simp [hl])
  cases decide (r.1 = 0)
  ·cases decide (r.1 = 1)
   ·exact key _
   ·exact key _
  ·exact key _
theorem O2 (N : Nat) (W H : Int) (P : List (Int × Int × Int)) (hN : 5000 ≤ N) : ∃ a b l, lM N W H P 0 = some (a, b, l, if CS W H P then 0 else 1) := by
 unfold lM;rw [Sn N W H P hN, aS];cases hp : CS W H P
 ·exact ⟨_, _, _, rfl⟩
 ·have hs := EJ hp;have hl := Gg hs;rw [cF (by rfl), cF (by rfl), cF (by rfl)];obtain ⟨l', h⟩ := Sp N W P 0 (fun (FB, i2) => some (W, H, FB, 0)) hs.1 (by omega) P.length 0 N [] (by omega) (by omega) rfl;exact ⟨W, H, l', h⟩
theorem UM {W H : Int} {P : List Int} {x y u v : Int} (hC : P2 W H P x y) (hq : 0 ≤ u ∧ u < W ∧ 0 ≤ v ∧ v < H) : IntKind.i64.wrap (IntKind.i64.wrap (v * W) + u) = v * W + u ∧ 0 ≤ v * W + u ∧ v * W + u < P.length ∧ idx P (v * W + u) = some (P.getD (v * W + u).toNat 0) := by
 obtain ⟨h1, h2, h3, h4, h5, h6, h7⟩ := hC;have m0 : 0 ≤ v * W := Int.mul_nonneg hq.2.2.1 (by omega)
 have m1 : v * W + W ≤ H * W := by
  have := Int.mul_le_mul_of_nonneg_right (show v + 1 ≤ H by omega) (show 0 ≤ W by omega)
  rwa [Int.add_mul, Int.one_mul] at this
 have m2 : H * W ≤ 64 * 64 := Int.mul_le_mul h6 h3 (by omega) (by omega);have m3 : (P.length : Int) = H * W := by rw [h7, Int.mul_comm]
 refine ⟨by rw [wV (x := v * W) (by omega), wV (by omega)], by omega, by omega, ?_⟩;unfold idx;rw [if_pos (by omega), List.getD_eq_getElem?_getD, List.getElem?_eq_getElem (by omega)]; rfl
theorem D0 (N : Nat) (W : Int) (P : List Int) (o : Int) {H x y u v : Int} (hC : P2 W H P x y) (hq : 0 ≤ u ∧ u < W ∧ 0 ≤ v ∧ v < H) (x1 x2 x3 x4 x5 x6 : Int) : ∃ r, oB N W P o u v x1 x2 x3 x4 x5 x6 = some r := by
 obtain ⟨r, hr⟩ := HJ N o u v;obtain ⟨h1, _, _, h2⟩ := UM hC hq;unfold oB;rw [hr, aS, h1, h2];simp only [aS]
 cases decide (r.1 = 0) <;> cases decide (r.1 = 1) <;> exact ⟨_, rfl⟩
abbrev Pt := Int × Int
def cX (l : List Pt) (i : Nat) : Int := (l.getD i (0, 0)).1
def cY (l : List Pt) (i : Nat) : Int := (l.getD i (0, 0)).2
def Qd (l : List Pt) (i : Nat) : Prop := cX l i < cX l (i + 1) ∧ cY l i ≤ cY l (i + 1)
structure Qe (l : List Pt) : Prop where
 len : 2 ≤ l.length ∧ l.length ≤ 16
 x0 : cX l 0 = 0
 xn : cX l (l.length - 1) = 65535
 y0 : 0 ≤ cY l 0
 yn : cY l (l.length - 1) ≤ 65535
 step : ∀ i, i + 1 < l.length → Qd l i
theorem Nl {l : List Pt} {j : Nat} (h : ∀ i, i < j → Qd l i) {i : Nat} (hij : i ≤ j) : cX l i ≤ cX l j ∧ cY l i ≤ cY l j ∧ (i < j → cX l i < cX l j) := by
  induction j with
  | zero => obtain rfl : i = 0 := by omega
            exact ⟨Int.le_refl _, Int.le_refl _, fun h => by omega⟩
  | succ j ih =>
    by_cases e : i = j + 1
    · subst e; exact ⟨Int.le_refl _, Int.le_refl _, fun h => by omega⟩
    · obtain ⟨a, b, _⟩ := ih (fun i hi => h i (by omega)) (by omega)
      obtain ⟨c, d⟩ := h j (by omega)
      exact ⟨by omega, by omega, fun _ => by omega⟩
theorem Qe.mono {l : List Pt} (h : Qe l) {i j : Nat} (hij : i ≤ j) (hj : j < l.length) : cX l i ≤ cX l j ∧ cY l i ≤ cY l j ∧ (i < j → cX l i < cX l j) := Nl (fun i hi => h.step i (by omega)) hij
theorem V8 (N : Nat) (P : List (Int × Int × Int)) (kk : Int → Option Bool) (hP : P.length ≤ 4096) : ∀ (d k fuel : Nat), k + d = P.length → d < fuel → gG N P kk fuel (k : Int) = if (P.drop k).all zN then kk P.length else some false := by
 intro d
 induction d with
 | zero =>
  intro k fuel hk hf;obtain ⟨fuel, rfl⟩ := Hw fuel (by omega);have hk' : k = P.length := by omega
  subst hk';unfold gG;rw [cF (dF (by omega))]
  simp
 | succ d ih =>
  intro k fuel hk hf;obtain ⟨fuel, rfl⟩ := Hw fuel (by omega);have hlt : k < P.length := by omega
  obtain ⟨⟨x, y, z⟩, hx⟩ : ∃ p, P[k]? = some p := ⟨P[k], List.getElem?_eq_getElem hlt⟩
  unfold gG;rw [cT (dT (by omega)), At, hx];simp only [aS, J7];rw [wV (by omega)]
  have hd : P.drop k = (x, y, z) :: P.drop (k + 1) := by
   rw [List.drop_eq_getElem_cons hlt]
   congr 1
   exact (List.getElem?_eq_some_iff.1 hx).2
  rw [hd, List.all_cons];have hih := ih (k + 1) fuel (by omega) (by omega)
  by_cases h1 : 0 ≤ x ∧ x ≤ 65535
  ·rw [cF (by simp [h1])]
   by_cases h2 : 0 ≤ y ∧ y ≤ 65535
   ·rw [cF (by simp [h2])]
    by_cases h3 : 0 ≤ z ∧ z ≤ 65535
    ·rw [cF (by simp [h3])];have : zN (x, y, z) = true := by simp only [zN, decide_eq_true_eq]; omega
     rw [this, Bool.true_and, ← hih]
     rfl
    ·rw [cT (by simp only [Bool.not_eq_true', decide_eq_false_iff_not]; exact h3)];have : zN (x, y, z) = false := by simp only [zN, decide_eq_false_iff_not]; omega
     simp [this]
   ·rw [cT (by simp only [Bool.not_eq_true', decide_eq_false_iff_not]; exact h2)];have : zN (x, y, z) = false := by simp only [zN, decide_eq_false_iff_not]; omega
    simp [this]
  ·rw [cT (by simp only [Bool.not_eq_true', decide_eq_false_iff_not]; exact h1)];have : zN (x, y, z) = false := by simp only [zN, decide_eq_false_iff_not]; omega
   simp [this]
theorem IN (N : Nat) (W H : Int) (P : List (Int × Int × Int)) (hN : 5000 ≤ N) : jU N W H P = some (CS W H P) := by
 unfold jU;simp only [aS, J7];have no : ¬ uX W H P.length → CS W H P = false := fun h => by simp [CS, h]
 by_cases h1 : 1 ≤ W ∧ W ≤ 64
 ·rw [cF (by simp [h1])]
  by_cases h2 : 1 ≤ H ∧ H ≤ 64
  ·rw [cF (by simp [h2])];have hb := Nk (W := W) (H := H) (by omega);rw [wV (by omega)]
   by_cases h5 : (P.length : Int) = W * H
   ·rw [cF (by simp [h5])];have hs : uX W H P.length := ⟨by omega, by omega, by omega, by omega, h5⟩
    refine (V8 N P _ (by omega) P.length 0 N (by omega) (by omega)).trans ?_;simp only [CS, hs, decide_true, Bool.true_and, List.drop_zero]
    cases P.all zN <;> rfl
   ·rw [cT (by simp [h5]), no (fun h => h5 h.2.2.2.2)]
  ·rw [cT (by simp only [Bool.not_eq_true', decide_eq_false_iff_not]; exact h2), no (fun h => by unfold uX at h; omega)]
 ·rw [cT (by simp only [Bool.not_eq_true', decide_eq_false_iff_not]; exact h1), no (fun h => by unfold uX at h; omega)]
theorem ways {o : Int} (h : 1 ≤ o ∧ o ≤ 8) : o = 1 ∨ o = 2 ∨ o = 3 ∨ o = 4 ∨ o = 5 ∨ o = 6 ∨ o = 7 ∨ o = 8 := by omega
def num (B : Nat) (l : List Nat) : Nat := l.foldl (fun a x => a * B + x) 0
theorem Sq {h k : Nat} (hk : k ≤ 64) (hb : h * 2 ^ k < 9223372036854775808) : oG .i64 (h : Int) (k : Int) = ((h * 2 ^ k : Nat) : Int) := by
 unfold oG
 have : min ((k : Int)).toNat IntKind.i64.bits = k := by
  rw [Int.toNat_natCast];exact Nat.min_eq_left hk
 rw [this, show (2 : Int) ^ k = ((2 ^ k : Nat) : Int) by simp, ← Int.natCast_mul, wV (by omega)]
theorem UN {h d e : Nat} (he : e < 2 ^ d) (hb : h * 2 ^ d + e < 9223372036854775808) : FY .i64 ((h * 2 ^ d : Nat) : Int) (e : Int) = ((h * 2 ^ d + e : Nat) : Int) := by
 unfold FY;have hb' : IntKind.i64.bits = 64 := rfl
 have e1 : (BitVec.ofInt IntKind.i64.bits ((h * 2 ^ d : Nat) : Int) ||| BitVec.ofInt IntKind.i64.bits (e : Int)).toNat = h * 2 ^ d + e := by
  rw [BitVec.toNat_or, BitVec.ofInt_natCast, BitVec.ofInt_natCast, BitVec.toNat_ofNat, BitVec.toNat_ofNat, hb', Nat.mod_eq_of_lt (show h * 2 ^ d < 2 ^ 64 by omega), Nat.mod_eq_of_lt (show e < 2 ^ 64 by omega)];rw [Nat.mul_comm h, Nat.two_pow_add_eq_or_of_lt he]
 rw [e1];exact wV (by omega)
def Lz (d : Nat) (l : List Int) (k : Nat) : Nat := num (2 ^ d) ((l.take k).map Int.toNat)
theorem toNat_ofNat (s : List UInt8) : (s.map UInt8.toNat).map UInt8.ofNat = s := by
 rw [List.map_map]
 conv => rhs; rw [← List.map_id s]
 refine List.map_congr_left fun y _ => ?_
 simp
theorem Sr (l m : List UInt8) : lL (l ++ m) = lL l ++ lL m := by simp [lL]
theorem Ss (l : List UInt8) : toB (lL l) = l := by
 unfold toB lL;rw [List.map_map]
 conv => rhs; rw [← List.map_id l]
 refine List.map_congr_left fun y _ => ?_
 show UInt8.ofNat (Int.toNat ((y.toNat : Nat) : Int)) = y
 simp
theorem IP (l : List UInt8) : (lL l).length = l.length := by simp [lL]
def gr (M : Nat) (l : List Nat) : List Nat := (List.range M).map fun g => num 2 ((List.range 8).map fun t => l.getD (8 * g + t) 0)
def isB (b : List UInt8) : Bool := b.all fun c => decide (c = 48 ∨ c = 49)
def ky (ns : List Nat) (i : Nat) : Nat := ns.getD i 0
section
variable {ns : List Nat} (hn : ∀ n ∈ ns, n ≤ 15) (hl : ns.length ≤ 17)
def pos (ns : List Nat) (i : Nat) : Bool := decide (0 < ky ns i)
end
def PF (W : List (List UInt8)) : Prop := ∀ (i j : Nat) (u v : List UInt8), i ≠ j → W[i]? = some u → W[j]? = some v → u ≠ [] → ¬ (u <+: v)
def aAb (W : List (List UInt8)) : Prop := ∀ w ∈ W, isB w = true ∧ w.length ≤ 15
end
end Go.Proofs.YtpmnfhifmmfglacGreatDoor
