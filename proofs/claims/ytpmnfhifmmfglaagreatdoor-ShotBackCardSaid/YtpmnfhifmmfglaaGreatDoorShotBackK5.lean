/- Texts of the claim ShotBack, joined and made small by a program. -/
import Derived.KernelRfl
import Derived.Test.YtpmnfhifmmfglaaGreatDoorShotBackK3
import Derived.Test.YtpmnfhifmmfglaaGreatDoorShotBackK4
set_option linter.unusedVariables false
set_option linter.unusedSimpArgs false
set_option linter.unusedSectionVars false
set_option maxRecDepth 100000
set_option maxHeartbeats 8000000
namespace Go.Proofs.YtpmnfhifmmfglaaGreatDoor
section
def oA (N : Nat) (eO : List (Int × Int × Int)) (kk : Int → Option Bool) : Nat → Int → Option Bool
 | 0, _ => none
 | fuel + 1, i =>
  cond (decide (i < (eO.length : Int))) (
  (idx eO i).bind fun e2 =>
  cond (decide ((min (min e2.1 e2.2.1) e2.2.2) < 0)) (
  some false) (
  cond (decide (65535 < (max (max e2.1 e2.2.1) e2.2.2))) (
  some false) (
  oA N eO kk fuel (IntKind.i64.wrap (i + 1))))) (
  kk i)
def tP (N : Nat) (d9 fT : Int) (eO : List (Int × Int × Int)) : Option Bool :=
 cond (decide (d9 < 1)) (
 some false) (
 cond (decide (64 < d9)) (
 some false) (
 cond (decide (fT < 1)) (
 some false) (
 cond (decide (64 < fT)) (
 some false) (
 cond (!decide ((eO.length : Int) = (IntKind.i64.wrap (d9 * fT)))) (
 some false) (
 oA N eO (fun i2 =>
 some true) N 0)))))
def tZ (N : Nat) (phase x2 y : Int) : Option Int :=
 some (IntKind.i64.wrap ((Fb .i64 (IntKind.i64.wrap (x2 + phase)) 1) + (Fb .i64 (IntKind.i64.wrap (y + (jR .i64 phase 1))) 1)))
def nJ (N : Nat) (phase x2 y : Int) : Option (Int × Int) :=
 cond (decide (phase < 0)) (
 some (0, 3)) (
 cond (decide (3 < phase)) (
 some (0, 3)) (
 cond (decide (x2 < 0)) (
 some (0, 3)) (
 cond (decide (y < 0)) (
 some (0, 3)) (
 (tZ N phase (Fb .i64 x2 1) (Fb .i64 y 1)).bind fun r2 =>
 some (r2, 0)))))
def kL (N : Nat) (d9 : Int) (eO : List (Int × Int × Int)) (phase : Int) (kk : (List Int × Int) → Option (Int × Int × List Int × Int)) : Nat → (List Int × Int) → Option (Int × Int × List Int × Int)
 | 0, _ => none
 | fuel + 1, (dV, i) =>
  cond (decide (i < (eO.length : Int))) (
  (nz d9).bind fun _ =>
  (nz d9).bind fun _ =>
  (nJ N phase (Int.tmod i d9) (IntKind.i64.wrap (Int.tdiv i d9))).bind fun r4 =>
  (idx eO i).bind fun e2 =>
  cond (decide (r4.1 = 0)) (
  (app 8 dV ([e2.1] : List Int)).bind fun L8 =>
  kL N d9 eO phase kk fuel (L8, IntKind.i64.wrap (i + 1))) (
  cond (decide (r4.1 = 1)) (
  (app 8 dV ([e2.2.1] : List Int)).bind fun EI =>
  kL N d9 eO phase kk fuel (EI, IntKind.i64.wrap (i + 1))) (
  (app 8 dV ([e2.2.2] : List Int)).bind fun EJ =>
  kL N d9 eO phase kk fuel (EJ, IntKind.i64.wrap (i + 1))))) (
  kk (dV, i))
def lP (N : Nat) (d9 fT : Int) (eO : List (Int × Int × Int)) (phase : Int) : Option (Int × Int × List Int × Int) :=
 (tP N d9 fT eO).bind fun r2 =>
 cond (!(r2)) (
 some (0, 0, ([] : List Int), 1)) (
 cond (decide (phase < 0)) (
 some (0, 0, ([] : List Int), 3)) (
 cond (decide (3 < phase)) (
 some (0, 0, ([] : List Int), 3)) (
 kL N d9 eO phase (fun (Cx, i2) =>
 some (d9, fT, Cx, 0)) N (([] : List Int), 0))))
def k8 (N : Nat) (o : Bool) (e3 : Int × Int × Int) (kk : (List UInt8 × Int) → Option (List UInt8 × Int)) : Nat → (List UInt8 × Int) → Option (List UInt8 × Int)
 | 0, _ => none
 | fuel + 1, (l4, i3) =>
  cond (decide (i3 < 3)) (
  (idx [e3.1, e3.2.1, e3.2.2] i3).bind fun e5 =>
  (QG l4 (IntKind.u8.wrap (jR .i64 e5 8))).bind fun b6 =>
  cond (o) (
  (QG b6 (IntKind.u8.wrap e5)).bind fun b7 =>
  k8 N o e3 kk fuel (b7, IntKind.i64.wrap (i3 + 1))) (
  k8 N o e3 kk fuel (b6, IntKind.i64.wrap (i3 + 1)))) (
  kk (l4, i3))
def oT (N : Nat) (jT : List (Int × Int × Int)) (o : Bool) (kk : (List UInt8 × Int) → Option (List UInt8 × Int)) : Nat → (List UInt8 × Int) → Option (List UInt8 × Int)
 | 0, _ => none
 | fuel + 1, (l2, i) =>
  cond (decide (i < (jT.length : Int))) (
  (idx jT i).bind fun e3 =>
  k8 N o e3 (fun (l5, i4) =>
  oT N jT o kk fuel (l5, IntKind.i64.wrap (i + 1))) N (l2, 0)) (
  kk (l2, i))
def k9 (N : Nat) (o : Bool) (e8 : Int × Int × Int) (kk : (List UInt8 × Int) → Option (List UInt8 × Int)) : Nat → (List UInt8 × Int) → Option (List UInt8 × Int)
 | 0, _ => none
 | fuel + 1, (l9, i8) =>
  cond (decide (i8 < 3)) (
  (idx [e8.1, e8.2.1, e8.2.2] i8).bind fun e10 =>
  (QG l9 (IntKind.u8.wrap (jR .i64 e10 8))).bind fun b13 =>
  cond (o) (
  (QG b13 (IntKind.u8.wrap e10)).bind fun b14 =>
  k9 N o e8 kk fuel (b14, IntKind.i64.wrap (i8 + 1))) (
  k9 N o e8 kk fuel (b13, IntKind.i64.wrap (i8 + 1)))) (
  kk (l9, i8))
def oU (N : Nat) (jT : List (Int × Int × Int)) (o : Bool) (kk : (List UInt8 × Int) → Option (List UInt8 × Int)) : Nat → (List UInt8 × Int) → Option (List UInt8 × Int)
 | 0, _ => none
 | fuel + 1, (l7, i6) =>
  cond (decide (i6 < (jT.length : Int))) (
  (idx jT i6).bind fun e8 =>
  k9 N o e8 (fun (l10, i9) =>
  oU N jT o kk fuel (l10, IntKind.i64.wrap (i6 + 1))) N (l7, 0)) (
  kk (l7, i6))
def iT (N : Nat) (iA kW : Int) (jT : List (Int × Int × Int)) (o : Bool) : Option (List UInt8 × Int) :=
 (lP N iA kW jT 0).bind fun r2 =>
 cond (!decide (r2.2.2.2 = 0)) (
 some (([] : List UInt8), r2.2.2.2)) (
 cond (o) (
 (g7 N iA).bind fun r3 =>
 (B7 ([80, 54, 10] : List UInt8) r3).bind fun s =>
 (B7 s ([32] : List UInt8)).bind fun s2 =>
 (g7 N kW).bind fun r4 =>
 (B7 s2 r4).bind fun s3 =>
 (B7 s3 ([10] : List UInt8)).bind fun s4 =>
 (g7 N 65535).bind fun r5 =>
 (B7 s4 r5).bind fun s5 =>
 (B7 s5 ([10] : List UInt8)).bind fun s6 =>
 (LV ([] : List UInt8) s6).bind fun b =>
 oT N jT o (fun (l6, i5) =>
 some (l6, 0)) N (b, 0)) (
 (g7 N iA).bind fun r6 =>
 (B7 ([80, 54, 10] : List UInt8) r6).bind fun s7 =>
 (B7 s7 ([32] : List UInt8)).bind fun s8 =>
 (g7 N kW).bind fun r7 =>
 (B7 s8 r7).bind fun s9 =>
 (B7 s9 ([10] : List UInt8)).bind fun s10 =>
 (g7 N 255).bind fun r8 =>
 (B7 s10 r8).bind fun s11 =>
 (B7 s11 ([10] : List UInt8)).bind fun s12 =>
 (LV ([] : List UInt8) s12).bind fun b8 =>
 oU N jT o (fun (L9, Ec) =>
 some (L9, 0)) N (b8, 0)))
def iG (N : Nat) (s oJ : List UInt8) : Option Bool :=
 cond (decide ((oJ.length : Int) ≤ (s.length : Int))) (
 (Di s 0 (oJ.length : Int)).bind fun s2 =>
 some (decide (s2 = oJ))) (
 some false)
def iH (N : Nat) (s oJ : List UInt8) : Option (List UInt8 × Bool) :=
 (iG N s oJ).bind fun r2 =>
 cond (!(r2)) (
 some (s, false)) (
 (Di s (oJ.length : Int) (s.length : Int)).bind fun s2 =>
 some (s2, true))
def kX (N : Nat) (s oJ : List UInt8) : Option (List UInt8 × Bool) :=
 (iH N s oJ).bind fun r2 =>
 some (r2.1, r2.2)
def j5 (N : Nat) (s sep : List UInt8) : Option (List UInt8 × List UInt8 × Bool) :=
 (jN N s sep).bind fun r2 =>
 cond (decide (0 ≤ r2)) (
 (Di s 0 r2).bind fun s2 =>
 (Di s (IntKind.i64.wrap (r2 + (sep.length : Int))) (s.length : Int)).bind fun s3 =>
 some (s2, s3, true)) (
 some (s, ([] : List UInt8), false))
def pC (N : Nat) (s sep : List UInt8) : Option (List UInt8 × List UInt8 × Bool) :=
 (j5 N s sep).bind fun r2 =>
 some (r2.1, r2.2.1, r2.2.2)
def mX (N : Nat) (s mark : List UInt8) : Option (Int × List UInt8 × Bool) :=
 (pC N s mark).bind fun r2 =>
 IZ r2.1 (fun n =>
 cond (r2.2.2) (
 (g7 N n).bind fun r3 =>
 some (n, r2.2.1, decide (r3 = r2.1))) (
 some (n, r2.2.1, false))) (fun n =>
 cond (r2.2.2) (
 some (n, r2.2.1, false)) (
 some (n, r2.2.1, false)))
def vI (N : Nat) (i : Bool) (r4 : Int × List UInt8 × Bool) (xZ : Bool → Option (Int × Int × List (Int × Int × Int) × Bool × Int)) : Option (Int × Int × List (Int × Int × Int) × Bool × Int) :=
  cond (i) (
  xZ r4.2.2) (
  xZ false)
def vJ (N : Nat) (i : Bool) (r4 : Int × List UInt8 × Bool) (yA : Bool → Option (Int × Int × List (Int × Int × Int) × Bool × Int)) : Option (Int × Int × List (Int × Int × Int) × Bool × Int) :=
  cond (i) (
  yA r4.2.2) (
  yA false)
def vK (N : Nat) (i : Bool) (r4 : Int × List UInt8 × Bool) (yB : Bool → Option (Int × Int × List (Int × Int × Int) × Bool × Int)) : Option (Int × Int × List (Int × Int × Int) × Bool × Int) :=
  cond (i) (
  yB r4.2.2) (
  yB false)
def pS (N : Nat) (Hs Dc x6 : Int) (kk : (List (Int × Int × Int) × List UInt8 × Int) → Option (Int × Int × List (Int × Int × Int) × Bool × Int)) : Nat → (List (Int × Int × Int) × List UInt8 × Int) → Option (Int × Int × List (Int × Int × Int) × Bool × Int)
 | 0, _ => none
 | fuel + 1, (zH, x7, i19) =>
  cond (decide (i19 < (IntKind.i64.wrap (Hs * Dc)))) (
  (idx x7 0).bind fun b7 =>
  (idx x7 (IntKind.i64.wrap (x6 - 1))).bind fun b8 =>
  (Di x7 x6 (x7.length : Int)).bind fun s4 =>
  (idx s4 0).bind fun b9 =>
  (idx s4 (IntKind.i64.wrap (x6 - 1))).bind fun b10 =>
  (Di s4 x6 (s4.length : Int)).bind fun s5 =>
  (idx s5 0).bind fun b11 =>
  (idx s5 (IntKind.i64.wrap (x6 - 1))).bind fun b12 =>
  (Di s5 x6 (s5.length : Int)).bind fun s6 =>
  (app 24 zH (([(EF .i64 (nY .i64 (IntKind.i64.wrap (b7.toNat : Int)) 8) (IntKind.i64.wrap (b8.toNat : Int)), EF .i64 (nY .i64 (IntKind.i64.wrap (b9.toNat : Int)) 8) (IntKind.i64.wrap (b10.toNat : Int)), EF .i64 (nY .i64 (IntKind.i64.wrap (b11.toNat : Int)) 8) (IntKind.i64.wrap (b12.toNat : Int)))] : List (Int × Int × Int)))).bind fun s1 =>
  pS N Hs Dc x6 kk fuel (s1, s6, IntKind.i64.wrap (i19 + 1))) (
  kk (zH, x7, i19))
def pT (N : Nat) (Gh : Int) (yC : Int → Option (Int × Int × List (Int × Int × Int) × Bool × Int)) : Option (Int × Int × List (Int × Int × Int) × Bool × Int) :=
  cond (decide (Gh = 65535)) (
  yC 2) (
  yC 1)
def pU (N : Nat) (Hs Dc Gh : Int) (Tw : Bool) (lZ : Bool → Option (Int × Int × List (Int × Int × Int) × Bool × Int)) : Option (Int × Int × List (Int × Int × Int) × Bool × Int) :=
  cond (!(Tw)) (
  lZ true) (
  cond (decide (Hs < 1)) (
  lZ true) (
  cond (decide (64 < Hs)) (
  lZ true) (
  cond (decide (Dc < 1)) (
  lZ true) (
  cond (decide (64 < Dc)) (
  lZ true) (
  cond (!decide (Gh = 65535)) (
  lZ (!decide (Gh = 255))) (
  lZ false))))))
def iX (N : Nat)  (kk : (Int × Int × Int × List UInt8 × Bool × Int) → Option (Int × Int × List (Int × Int × Int) × Bool × Int)) : Nat → (Int × Int × Int × List UInt8 × Bool × Int) → Option (Int × Int × List (Int × Int × Int) × Bool × Int)
 | 0, _ => none
 | fuel + 1, (x0, x1, x2, x3, i, i2) =>
  cond (decide (i2 < 3)) (
  (idx [([32] : List UInt8), ([10] : List UInt8), ([10] : List UInt8)] i2).bind fun e2 =>
  (mX N x3 e2).bind fun r4 =>
  cond (decide (i2 = 0)) (
  vI N i r4 (fun Ec =>
  cond (!(Ec)) (
  kk (r4.1, x1, x2, r4.2.1, Ec, i2)) (
  iX N  kk fuel (r4.1, x1, x2, r4.2.1, Ec, IntKind.i64.wrap (i2 + 1))))) (
  cond (decide (i2 = 1)) (
  vJ N i r4 (fun i12 =>
  cond (!(i12)) (
  kk (x0, r4.1, x2, r4.2.1, i12, i2)) (
  iX N  kk fuel (x0, r4.1, x2, r4.2.1, i12, IntKind.i64.wrap (i2 + 1))))) (
  cond (decide (i2 = 2)) (
  vK N i r4 (fun Od =>
  cond (!(Od)) (
  kk (x0, x1, r4.1, r4.2.1, Od, i2)) (
  iX N  kk fuel (x0, x1, r4.1, r4.2.1, Od, IntKind.i64.wrap (i2 + 1))))) (
  none)))) (
  kk (x0, x1, x2, x3, i, i2))
def kY (N : Nat) (d : List UInt8) : Option (Int × Int × List (Int × Int × Int) × Bool × Int) :=
 (kX N d ([80, 54, 10] : List UInt8)).bind fun r2 =>
 iX N  (fun (Hs, Dc, Gh, x4, Tw, i16) =>
 pU N Hs Dc Gh Tw (fun Zt =>
 cond (Zt) (
 some (0, 0, ([] : List (Int × Int × Int)), false, 1)) (
 pT N Gh (fun x6 =>
 cond (!decide ((x4.length : Int) = (IntKind.i64.wrap ((IntKind.i64.wrap ((IntKind.i64.wrap (3 * x6)) * Hs)) * Dc)))) (
 some (0, 0, ([] : List (Int × Int × Int)), false, 1)) (
 pS N Hs Dc x6 (fun (Bz, x8, i20) =>
 some (Hs, Dc, Bz, decide (Gh = 65535), 0)) N (([] : List (Int × Int × Int)), x4, 0)))))) N (0, 0, 0, r2.1, r2.2, 0)
def gW (N : Nat) (NK Oe : List (Int × Int × Int)) (kk : Int → Option Bool) : Nat → Int → Option Bool
 | 0, _ => none
 | fuel + 1, i =>
  cond (decide (i < (NK.length : Int))) (
  (idx NK i).bind fun e3 =>
  (idx Oe i).bind fun e4 =>
  cond (!(decide (e3.1 = e4.1) && decide (e3.2.1 = e4.2.1) && decide (e3.2.2 = e4.2.2))) (
  some false) (
  (some (IntKind.i64.wrap (i + 1))).bind fun i3 =>
  gW N NK Oe kk fuel i3)) (
  kk i)
def iL (N : Nat) (Tx Ty : Int) (NK : List (Int × Int × Int)) (Tz TA : Int) (Oe : List (Int × Int × Int)) : Option Bool :=
 cond (!decide (Tx = Tz)) (
 some false) (
 cond (!decide (Ty = TA)) (
 some false) (
 cond (!decide ((NK.length : Int) = (Oe.length : Int))) (
 some false) (
 gW N NK Oe (fun i4 =>
 some true) N 0)))
def uE (N : Nat)  : Option (List Int) :=
 some (([2, 3, 3, 4, 4, 4, 5, 5, 5, 6, 6, 6, 7, 7, 7, 8, 8] : List Int))
def rU (N : Nat)  : Option (List (Int × Int)) :=
 some (([(0, 0), (65535, 65535)] : List (Int × Int)))
def rV (N : Nat)  : Option (Int × Int × Int × Int × Int × Int × List (Int × Int) × Int × Int × Int × Int × Int × Int × Int × Int × Int × Int × Int × Int × List (Int × Int) × Int) :=
 (rU N ).bind fun r2 =>
 some (0, 0, 0, 0, 0, 65535, ([] : List (Int × Int)), 256, 256, 256, 4096, 0, 0, 0, 4096, 0, 0, 0, 4096, r2, 64)
def rW (N : Nat)  : Option (Int × Int × List Int) :=
 some (2, 2, ([10, 65535, 0, 7] : List Int))
def t6 (N : Nat) (lens : List Int) (kk : (Int × Int) → Option Int) : Nat → (Int × Int) → Option Int
 | 0, _ => none
 | fuel + 1, (room, i) =>
  cond (decide (i < (lens.length : Int))) (
  (idx lens i).bind fun e2 =>
  cond (decide (e2 < 0)) (
  some 3) (
  cond (decide (15 < e2)) (
  some 3) (
  cond (decide (0 < e2)) (
  (nn (IntKind.i64.wrap (15 - e2))).bind fun _ =>
  (some (IntKind.i64.wrap (room - (nY .i64 1 (IntKind.i64.wrap (15 - e2)))))).bind fun OP =>
  t6 N lens kk fuel (OP, IntKind.i64.wrap (i + 1))) (
  t6 N lens kk fuel (room, IntKind.i64.wrap (i + 1)))))) (
  kk (room, i))
def vL (N : Nat) (lens : List Int) : Option Int :=
 cond (decide ((lens.length : Int) < 1)) (
 some 2) (
 cond (decide (17 < (lens.length : Int))) (
 some 2) (
 t6 N lens (fun (M6, i2) =>
 cond (decide (M6 < 0)) (
 some 1) (
 cond (decide (M6 = 32768)) (
 some 1) (
 some 0))) N (32768, 0)))
def Ed (N : Nat) (tD eV : Int) (Ai : Bool → Option Int) : Option Int :=
  cond (decide (eV < 1)) (
  Ai (decide (eV < 1))) (
  Ai (decide (tD < eV)))
def Ee (N : Nat) (tD eH eV : Int) (Aj : Bool → Option Int) : Option Int :=
  cond (decide (16 < eH)) (
  Aj (decide (16 < eH))) (
  Ed N tD eV (fun Od =>
  Aj Od))
def Ef (N : Nat) (tD eH eV : Int) (Ak : Bool → Option Int) : Option Int :=
  cond (decide (eH < 1)) (
  Ak (decide (eH < 1))) (
  Ee N tD eH eV (fun i12 =>
  Ak i12))
def Eg (N : Nat) (tD eH eV : Int) (Al : Bool → Option Int) : Option Int :=
  cond (decide (64 < tD)) (
  Al (decide (64 < tD))) (
  Ef N tD eH eV (fun Ec =>
  Al Ec))
def Eh (N : Nat) (tD eH eV : Int) (Am : Bool → Option Int) : Option Int :=
  cond (decide (tD < 1)) (
  Am (decide (tD < 1))) (
  Eg N tD eH eV (fun i8 =>
  Am i8))
def Ei (N : Nat) (An tD eH eV : Int) (Ao : Bool → Option Int) : Option Int :=
  cond (decide (64 < An)) (
  Ao (decide (64 < An))) (
  Eh N tD eH eV (fun i6 =>
  Ao i6))
def Ej (N : Nat) (iB : Int) (Ap : Bool → Option Int) : Option Int :=
  cond (decide (iB < 0)) (
  Ap (decide (iB < 0))) (
  Ap (decide (7 < iB)))
def Ek (N : Nat) (An tD eH eV : Int) (Aq : Bool → Option Int) : Option Int :=
  cond (decide (An < 1)) (
  Aq (decide (An < 1))) (
  Ei N An tD eH eV (fun i4 =>
  Aq i4))
def Cy (N : Nat) (An tD eH iB eV : Int) (gX : List Int) (eM : List (List UInt8)) (dJ cQ cR cU cV dK : Int) (bF : List (Int × Int)) (cW cZ dA bT bU bV bW bX bY bZ cA cB : Int) (bH : List (Int × Int)) (dB : Int) : Option Int :=
 Ek N An tD eH eV (fun i2 =>
 cond (i2) (
 some 3) (
 Ej N iB (fun i16 =>
 cond (i16) (
 some 6) (
 cond (decide (0 < iB)) (
 (vL N gX).bind fun r2 =>
 some r2) (
 cond (decide (0 < (gX.length : Int))) (
 some 1) (
 some 0))))))
def Dp (N : Nat) (n v0 v1 : Int) : Option Bool :=
 cond (decide (n < v0)) (
 some true) (
 some (decide (v1 < n)))
def jO (N : Nat) (s : List Int) (yD yE : Int) (kk : Int → Option Int) : Nat → Int → Option Int
 | 0, _ => none
 | fuel + 1, i =>
  cond (decide (i < (s.length : Int))) (
  (idx s i).bind fun e2 =>
  (Dp N e2 yD yE).bind fun r3 =>
  cond (r3) (
  some i) (
  jO N s yD yE kk fuel (IntKind.i64.wrap (i + 1)))) (
  kk i)
def j6 (N : Nat) (s : List Int) (yD yE : Int) : Option Int :=
 jO N s yD yE (fun i2 =>
 some ((-1))) N 0
def jP (N : Nat) (s : List Int) (yD yE : Int) : Option Bool :=
 (j6 N s yD yE).bind fun r2 =>
 some (decide (0 ≤ r2))
def nE (N : Nat) (low high : Int) (l2 : List Int) : Option Bool :=
 (jP N l2 low high).bind fun r2 =>
 some (!(r2))
def Ar (N : Nat) (Ma M7 v0 v1 : Int) : Option Bool :=
 (nE N 0 (IntKind.i64.wrap (v0 - 1)) ([Ma] : List Int)).bind fun r2 =>
 cond (!(r2)) (
 some true) (
 (nE N 0 (IntKind.i64.wrap (v1 - 1)) ([M7] : List Int)).bind fun r3 =>
 some (!(r3)))
def gP (N : Nat) (s : List (Int × Int)) (oV oW : Int) (kk : Int → Option Int) : Nat → Int → Option Int
 | 0, _ => none
 | fuel + 1, i =>
  cond (decide (i < (s.length : Int))) (
  (idx s i).bind fun e2 =>
  (Ar N e2.1 e2.2 oV oW).bind fun r3 =>
  cond (r3) (
  some i) (
  gP N s oV oW kk fuel (IntKind.i64.wrap (i + 1)))) (
  kk i)
def gY (N : Nat) (s : List (Int × Int)) (oV oW : Int) : Option Int :=
 gP N s oV oW (fun i2 =>
 some ((-1))) N 0
def gQ (N : Nat) (s : List (Int × Int)) (oV oW : Int) : Option Bool :=
 (gY N s oV oW).bind fun r2 =>
 some (decide (0 ≤ r2))
def zN (N : Nat) (l2 : List (Int × Int)) (w2 h2 : Int) : Option Bool :=
 (gQ N l2 w2 h2).bind fun r2 =>
 some (!(r2))
def yF (N : Nat) (d l2 : List (Int × Int)) (kk : Int → Option Bool) : Nat → Int → Option Bool
 | 0, _ => none
 | fuel + 1, i =>
  cond (decide (i < (l2.length : Int))) (
  (idx d i).bind fun e9 =>
  (idx d (IntKind.i64.wrap (i + 1))).bind fun e10 =>
  cond (decide (e10.1 ≤ e9.1)) (
  some false) (
  (idx d i).bind fun e11 =>
  (idx d (IntKind.i64.wrap (i + 1))).bind fun e12 =>
  cond (decide (e12.2 < e11.2)) (
  some false) (
  yF N d l2 kk fuel (IntKind.i64.wrap (i + 1))))) (
  kk i)
def zO (N : Nat) (d : List (Int × Int)) : Option Bool :=
 cond (decide ((d.length : Int) < 2)) (
 some false) (
 cond (decide (16 < (d.length : Int))) (
 some false) (
 (idx d 0).bind fun e =>
 cond (!decide (e.1 = 0)) (
 some false) (
 (idx d (IntKind.i64.wrap ((d.length : Int) - 1))).bind fun e2 =>
 cond (!decide (e2.1 = 65535)) (
 some false) (
 (idx d 0).bind fun e3 =>
 cond (decide (e3.2 < 0)) (
 some false) (
 (idx d (IntKind.i64.wrap ((d.length : Int) - 1))).bind fun e4 =>
 cond (decide (65535 < e4.2)) (
 some false) (
 (Di d 1 (d.length : Int)).bind fun l2 =>
 yF N d l2 (fun i2 =>
 some true) N 0))))))
def Dq (N : Nat) (i : Int) (v0 : List (Int × Int)) (v1 : Int) : Option Bool :=
 (idx v0 i).bind fun e =>
 some (decide (v1 < e.1))
def lI (N : Nat) (BA : List (Int × Int)) (Dr : Int) (kk : (Int × Int) → Option Int) : Nat → (Int × Int) → Option Int
 | 0, _ => none
 | fuel + 1, (i, j) =>
  cond (decide (i < j)) (
  (some (IntKind.i64.wrap (jR .u64 (IntKind.u64.wrap (IntKind.i64.wrap (i + j))) 1))).bind fun h3 =>
  (Dq N h3 BA Dr).bind fun r3 =>
  cond (!(r3)) (
  (some (IntKind.i64.wrap (h3 + 1))).bind fun i3 =>
  lI N BA Dr kk fuel (i3, j)) (
  lI N BA Dr kk fuel (i, h3))) (
  kk (i, j))
def pD (N : Nat) (n : Int) (BA : List (Int × Int)) (Dr : Int) : Option Int :=
 lI N BA Dr (fun (i4, j2) =>
 some i4) N (0, n)
def Aa (N : Nat) (l2 : List (Int × Int)) (x2 : Int) : Option Int :=
 (pD N (l2.length : Int) l2 x2).bind fun r2 =>
 cond (decide (r2 = (l2.length : Int))) (
 (idx l2 (IntKind.i64.wrap (r2 - 1))).bind fun e =>
 some e.2) (
 (idx l2 (IntKind.i64.wrap (r2 - 1))).bind fun e2 =>
 (idx l2 r2).bind fun e3 =>
 (nz (IntKind.i64.wrap (e3.1 - e2.1))).bind fun _ =>
 (some (IntKind.i64.wrap (e2.2 + (IntKind.i64.wrap (Int.tdiv (IntKind.i64.wrap ((IntKind.i64.wrap (e3.2 - e2.2)) * (IntKind.i64.wrap (x2 - e2.1)))) (IntKind.i64.wrap (e3.1 - e2.1))))))).bind fun x3 =>
 some x3)
def Cz (N : Nat) (l2 : List (Int × Int)) (x2 : Int) : Option (Int × Int) :=
 (zO N l2).bind fun r2 =>
 cond (!(r2)) (
 some (0, 1)) (
 cond (decide (x2 < 0)) (
 some (0, 3)) (
 cond (decide (65535 < x2)) (
 some (0, 3)) (
 (Aa N l2 x2).bind fun r3 =>
 some (r3, 0))))
def tA (N : Nat) (na nb0 lV lW lX nc : Int) (nd : List (Int × Int)) (lY ne1 mC mD mE mF mG mH mI mJ mK nf8 : Int) (ng : List (Int × Int)) (nh : Int) : Option Int :=
 (nE N 0 3 ([na] : List Int)).bind fun r2 =>
 cond (!(r2)) (
 some 3) (
 (nE N 1 65535 ([nc] : List Int)).bind fun r3 =>
 cond (!(r3)) (
 some 3) (
 (nE N 0 (IntKind.i64.wrap (nc - 1)) ([nb0, lV, lW, lX])).bind fun r4 =>
 cond (!(r4)) (
 some 3) (
 cond (decide (64 < (nd.length : Int))) (
 some 3) (
 (zN N nd 64 64).bind fun r5 =>
 cond (!(r5)) (
 some 3) (
 (nE N 0 65535 ([lY, ne1, mC])).bind fun r6 =>
 cond (!(r6)) (
 some 3) (
 (nE N (-32768) 32768 ([mD, mE, mF, mG, mH, mI, mJ, mK, nf8])).bind fun r7 =>
 cond (!(r7)) (
 some 3) (
 (nE N 0 1024 ([nh] : List Int)).bind fun r8 =>
 cond (!(r8)) (
 some 3) (
 (Cz N ng 0).bind fun r9 =>
 some r9.2))))))))
def CA (N : Nat) (Ma M7 tE wG Ht Jq Jr : Int) (Fh : List Int) (B8 : List (List UInt8)) (BB As At Au Av BC : Int) (tQ : List (Int × Int)) (Aw Ax Ay yG yH yI yJ yK yL yM yN yO : Int) (tR : List (Int × Int)) (Az : Int) : Option Bool :=
 cond (decide (tE ≤ Ma)) (
 some true) (
 some (decide (wG ≤ M7)))
def gT (N : Nat) (s : List (Int × Int)) (nK nL jQ kH kI : Int) (hU : List Int) (gD : List (List UInt8)) (gE fU fV fW fX gF : Int) (eF : List (Int × Int)) (fY fZ f4 fD fE fF fG fH fI fJ fK fL : Int) (eG : List (Int × Int)) (f5 : Int) (kk : Int → Option Int) : Nat → Int → Option Int
 | 0, _ => none
 | fuel + 1, i =>
  cond (decide (i < (s.length : Int))) (
  (idx s i).bind fun e2 =>
  (CA N e2.1 e2.2 nK nL jQ kH kI hU gD gE fU fV fW fX gF eF fY fZ f4 fD fE fF fG fH fI fJ fK fL eG f5).bind fun r3 =>
  cond (r3) (
  some i) (
  gT N s nK nL jQ kH kI hU gD gE fU fV fW fX gF eF fY fZ f4 fD fE fF fG fH fI fJ fK fL eG f5 kk fuel (IntKind.i64.wrap (i + 1)))) (
  kk i)
def hG (N : Nat) (s : List (Int × Int)) (nK nL jQ kH kI : Int) (hU : List Int) (gD : List (List UInt8)) (gE fU fV fW fX gF : Int) (eF : List (Int × Int)) (fY fZ f4 fD fE fF fG fH fI fJ fK fL : Int) (eG : List (Int × Int)) (f5 : Int) : Option Int :=
 gT N s nK nL jQ kH kI hU gD gE fU fV fW fX gF eF fY fZ f4 fD fE fF fG fH fI fJ fK fL eG f5 (fun i2 =>
 some ((-1))) N 0
def gU (N : Nat) (s : List (Int × Int)) (nK nL jQ kH kI : Int) (hU : List Int) (gD : List (List UInt8)) (gE fU fV fW fX gF : Int) (eF : List (Int × Int)) (fY fZ f4 fD fE fF fG fH fI fJ fK fL : Int) (eG : List (Int × Int)) (f5 : Int) : Option Bool :=
 (hG N s nK nL jQ kH kI hU gD gE fU fV fW fX gF eF fY fZ f4 fD fE fF fG fH fI fJ fK fL eG f5).bind fun r2 =>
 some (decide (0 ≤ r2))
def CB (N : Nat) (An tD eH iB eV : Int) (gX : List Int) (eM : List (List UInt8)) (dJ cQ cR cU cV dK : Int) (bF : List (Int × Int)) (cW cZ dA bT bU bV bW bX bY bZ cA cB : Int) (bH : List (Int × Int)) (dB : Int) : Option Int :=
 (tA N dJ cQ cR cU cV dK bF cW cZ dA bT bU bV bW bX bY bZ cA cB bH dB).bind fun r2 =>
 cond (!decide (r2 = 0)) (
 some r2) (
 (gU N bF An tD eH iB eV gX eM dJ cQ cR cU cV dK bF cW cZ dA bT bU bV bW bX bY bZ cA cB bH dB).bind fun r3 =>
 cond (r3) (
 some 3) (
 some 0))
def pE (N : Nat) (x2 : List Int) (kk : (Int × Int) → Option Int) : Nat → (Int × Int) → Option Int
 | 0, _ => none
 | fuel + 1, (m, i) =>
  cond (decide (i < (x2.length : Int))) (
  (idx x2 i).bind fun e3 =>
  (some (max m e3)).bind fun m3 =>
  (some (IntKind.i64.wrap (i + 1))).bind fun i3 =>
  pE N x2 kk fuel (m3, i3)) (
  kk (m, i))
def oK (N : Nat) (x2 : List Int) : Option Int :=
 cond (decide ((x2.length : Int) < 1)) (
 none) (
 (idx x2 0).bind fun e =>
 pE N x2 (fun (m4, i4) =>
 some m4) N (e, 1))
def pV (N : Nat) (s : List Int) : Option (List Int) :=
 (app 8 ([] : List Int) s).bind fun l2 =>
 some l2
def lM (N : Nat) (s : List (Int × Int)) : Option (List (Int × Int)) :=
 (app 16 (([] : List (Int × Int))) s).bind fun l2 =>
 some l2
def k5 (N : Nat) (s : List (Int × Int)) : Option (List (Int × Int)) :=
 (app 16 (([] : List (Int × Int))) s).bind fun l2 =>
 some l2
def yP (N : Nat) (tD eV : Int) (kk : (List (Int × Int) × Int) → Option (List (Int × Int))) : Nat → (List (Int × Int) × Int) → Option (List (Int × Int))
 | 0, _ => none
 | fuel + 1, (l3, y2) =>
  cond (decide (y2 < tD)) (
  (app 16 l3 (([(y2, min eV (IntKind.i64.wrap (tD - y2)))] : List (Int × Int)))).bind fun l5 =>
  (some (IntKind.i64.wrap (y2 + eV))).bind fun y4 =>
  yP N tD eV kk fuel (l5, y4)) (
  kk (l3, y2))
def zP (N : Nat) (An tD eH iB eV : Int) (gX : List Int) (eM : List (List UInt8)) (dJ cQ cR cU cV dK : Int) (bF : List (Int × Int)) (cW cZ dA bT bU bV bW bX bY bZ cA cB : Int) (bH : List (Int × Int)) (dB : Int) : Option (List (Int × Int)) :=
 yP N tD eV (fun (l6, y5) =>
 some l6) N (([] : List (Int × Int)), 0)
def xO (N : Nat) (n : Int) : Option Bool :=
 cond (decide (1 ≤ n)) (
 some (decide (n ≤ 16))) (
 some false)
def AA (N : Nat) (x6 : Int) (kk : (List Int × Int) → Option (List UInt8 × Int)) : Nat → (List Int × Int) → Option (List UInt8 × Int)
 | 0, _ => none
 | fuel + 1, (l5, i5) =>
  cond (decide (8 ≤ i5)) (
  (some (IntKind.i64.wrap (i5 - 8))).bind fun x9 =>
  (nn x9).bind fun _ =>
  (app 1 l5 (([IntKind.u8.wrap (jR .i64 x6 x9)] : List Int))).bind fun l7 =>
  AA N x6 kk fuel (l7, x9)) (
  kk (l5, i5))
def AB (N : Nat) (d : List Int) (o : Int) (kk : (List Int × Int × Int × Int) → Option (List UInt8 × Int)) : Nat → (List Int × Int × Int × Int) → Option (List UInt8 × Int)
 | 0, _ => none
 | fuel + 1, (l2, i, i2, i3) =>
  cond (decide (i3 < (d.length : Int))) (
  (idx d i3).bind fun e2 =>
  cond (decide (e2 < 0)) (
  some (([] : List UInt8), 3)) (
  (nn o).bind fun _ =>
  cond (decide ((nY .i64 1 o) ≤ e2)) (
  some (([] : List UInt8), 3)) (
  (nn o).bind fun _ =>
  (some (EF .i64 (nY .i64 i o) e2)).bind fun x6 =>
  (some (IntKind.i64.wrap (i2 + o))).bind fun x7 =>
  AA N x6 (fun (l8, i6) =>
  (nn i6).bind fun _ =>
  (some (Fb .i64 x6 (IntKind.i64.wrap ((nY .i64 1 i6) - 1)))).bind fun x10 =>
  AB N d o kk fuel (l8, x10, i6, IntKind.i64.wrap (i3 + 1))) N (l2, x7)))) (
  kk (l2, i, i2, i3))
def Ds (N : Nat) (d : List Int) (o : Int) : Option (List UInt8 × Int) :=
 (xO N o).bind fun r2 =>
 cond (!(r2)) (
 some (([] : List UInt8), 3)) (
 cond (decide (4096 < (d.length : Int))) (
 some (([] : List UInt8), 2)) (
 (XI 1 (IntKind.i64.wrap (Int.tdiv (IntKind.i64.wrap ((IntKind.i64.wrap ((d.length : Int) * o)) + 7)) 8))).bind fun _ =>
 AB N d o (fun (l9, i7, i8, i9) =>
 cond (decide (0 < i8)) (
 (nn (IntKind.i64.wrap (8 - i8))).bind fun _ =>
 (app 1 l9 (([IntKind.u8.wrap (nY .i64 i7 (IntKind.i64.wrap (8 - i8)))] : List Int))).bind fun l10 =>
 some (toB l10, 0)) (
 some (toB l9, 0))) N (([] : List Int), 0, 0, 0)))
def AC (N : Nat) (gS : List Int) (kk : Int → Option Bool) : Nat → Int → Option Bool
 | 0, _ => none
 | fuel + 1, i =>
  cond (decide (i < (gS.length : Int))) (
  (idx gS i).bind fun e2 =>
  cond (decide (e2 < 0)) (
  some false) (
  cond (decide (65535 < e2)) (
  some false) (
  AC N gS kk fuel (IntKind.i64.wrap (i + 1))))) (
  kk i)
def Dt (N : Nat) (iC jF : Int) (gS : List Int) : Option Bool :=
 cond (decide (iC < 1)) (
 some false) (
 cond (decide (64 < iC)) (
 some false) (
 cond (decide (jF < 1)) (
 some false) (
 cond (decide (64 < jF)) (
 some false) (
 cond (!decide ((gS.length : Int) = (IntKind.i64.wrap (iC * jF)))) (
 some false) (
 AC N gS (fun i2 =>
 some true) N 0)))))
def t7 (N : Nat) (x2 : Int) : Option Bool :=
 some (!decide (x2 = x2))
def vM (N : Nat) (x2 y : Int) : Option Int :=
 (t7 N x2).bind fun r2 =>
 (t7 N y).bind fun r3 =>
 cond (r2) (
 cond (r3) (
 some 0) (
 some ((-1)))) (
 cond (r3) (
 some 1) (
 cond (decide (x2 < y)) (
 some ((-1))) (
 cond (decide (y < x2)) (
 some 1) (
 some 0))))
def AD (N : Nat) (a2 b : Int) (v0 : List Int) : Option Int :=
 (idx v0 a2).bind fun e =>
 (idx v0 b).bind fun e2 =>
 (vM N e e2).bind fun r2 =>
 some r2
def wN (N : Nat) (n size : Int) (kk : (List Int × Int × Int) → Option (List UInt8)) : Nat → (List Int × Int × Int) → Option (List UInt8)
 | 0, _ => none
 | fuel + 1, (l3, i, i2) =>
  cond (decide (i2 < i)) (
  (nn (IntKind.i64.wrap ((IntKind.i64.wrap (size - 1)) - i2))).bind fun _ =>
  (idx ([48, 49] : List UInt8) (Fb .i64 (jR .i64 n (IntKind.i64.wrap ((IntKind.i64.wrap (size - 1)) - i2))) 1)).bind fun b2 =>
  (idx l3 i2).bind fun e2 =>
  (Bg l3 i2 (b2.toNat : Int)).bind fun l5 =>
  wN N n size kk fuel (l5, i, IntKind.i64.wrap (i2 + 1))) (
  kk (l3, i, i2))
def xP (N : Nat) (n size : Int) : Option (List UInt8) :=
 (mk 1 size (0 : Int)).bind fun l2 =>
 wN N n size (fun (l6, i3, i4) =>
 some (toB l6)) N (l2, (l2.length : Int), 0)
def pF (N : Nat) (n size : Int) : Option (List UInt8 × Int) :=
 cond (decide (size < 0)) (
 some (([] : List UInt8), 3)) (
 cond (decide (16 < size)) (
 some (([] : List UInt8), 3)) (
 cond (decide (n < 0)) (
 some (([] : List UInt8), 3)) (
 (nn size).bind fun _ =>
 cond (decide ((nY .i64 1 size) ≤ n)) (
 some (([] : List UInt8), 3)) (
 (xP N n size).bind fun r2 =>
 some (r2, 0)))))
def yQ (N : Nat) (d : List Int) (kk : (List Int × Int) → Option (List (List UInt8) × Int)) : Nat → (List Int × Int) → Option (List (List UInt8) × Int)
 | 0, _ => none
 | fuel + 1, (Mb, j4) =>
  cond (decide (0 < j4)) (
  (idx Mb j4).bind fun e20 =>
  (idx Mb (IntKind.i64.wrap (j4 - 1))).bind fun e21 =>
  (AD N e20 e21 d).bind fun r5 =>
  cond (decide (r5 < 0)) (
  (idx Mb (IntKind.i64.wrap (j4 - 1))).bind fun e22 =>
  (idx Mb j4).bind fun e23 =>
  (idx Mb j4).bind fun e24 =>
  (Bg Mb j4 e22).bind fun XW =>
  (idx XW (IntKind.i64.wrap (j4 - 1))).bind fun e25 =>
  (Bg XW (IntKind.i64.wrap (j4 - 1)) e23).bind fun XX =>
  (some (IntKind.i64.wrap (j4 - 1))).bind fun j7 =>
  yQ N d kk fuel (XX, j7)) (
  kk (Mb, j4))) (
  kk (Mb, j4))
def yR (N : Nat) (d M8 : List Int) (kk : (List (List UInt8) × Int × Int) → Option (List (List UInt8) × Int)) : Nat → (List (List UInt8) × Int × Int) → Option (List (List UInt8) × Int)
 | 0, _ => none
 | fuel + 1, (QH, i8, i9) =>
  cond (decide (i9 < (M8.length : Int))) (
  (idx M8 i9).bind fun e33 =>
  (idx d e33).bind fun e34 =>
  (nn (IntKind.i64.wrap (15 - e34))).bind fun _ =>
  (idx d e33).bind fun e35 =>
  (pF N (jR .i64 i8 (IntKind.i64.wrap (15 - e34))) e35).bind fun r7 =>
  (idx QH e33).bind fun e36 =>
  (Bg QH e33 r7.1).bind fun XY =>
  (idx d e33).bind fun e37 =>
  (nn (IntKind.i64.wrap (15 - e37))).bind fun _ =>
  (some (IntKind.i64.wrap (i8 + (nY .i64 1 (IntKind.i64.wrap (15 - e37)))))).bind fun x4 =>
  yR N d M8 kk fuel (XY, x4, IntKind.i64.wrap (i9 + 1))) (
  kk (QH, i8, i9))
def yS (N : Nat) (d : List Int) (kk : (List Int × Int × Int) → Option (List (List UInt8) × Int)) : Nat → (List Int × Int × Int) → Option (List (List UInt8) × Int)
 | 0, _ => none
 | fuel + 1, (l7, b, i4) =>
  cond (decide (i4 < b)) (
  yQ N d (fun (XZ, j9) =>
  (some (IntKind.i64.wrap (i4 + 1))).bind fun i6 =>
  yS N d kk fuel (XZ, b, i6)) N (l7, i4)) (
  kk (l7, b, i4))
def t8 (N : Nat) (d : List Int) (kk : (List Int × Int) → Option (List (List UInt8) × Int)) : Nat → (List Int × Int) → Option (List (List UInt8) × Int)
 | 0, _ => none
 | fuel + 1, (l3, i) =>
  cond (decide (i < (d.length : Int))) (
  (idx d i).bind fun e3 =>
  cond (decide (0 < e3)) (
  (app 8 l3 ([i] : List Int)).bind fun l5 =>
  t8 N d kk fuel (l5, IntKind.i64.wrap (i + 1))) (
  t8 N d kk fuel (l3, IntKind.i64.wrap (i + 1)))) (
  kk (l3, i))
def zQ (N : Nat) (d : List Int) : Option (List (List UInt8) × Int) :=
 (vL N d).bind fun r2 =>
 cond (!decide (r2 = 0)) (
 some (([] : List (List UInt8)), r2)) (
 t8 N d (fun (l6, i2) =>
 cond (decide (20 ≤ (l6.length : Int))) none (
 (some (IntKind.i64.wrap (0 + 1))).bind fun i3 =>
 yS N d (fun (M8, b2, i7) =>
 (Kq l6 M8).bind fun _ =>
 cond (decide (20 < (M8.length : Int))) none (
 (Kq l6 M8).bind fun _ =>
 (Kq l6 M8).bind fun _ =>
 (some ((d.length : Int))).bind fun x2 =>
 (mk 16 x2 (([] : List UInt8) : List UInt8)).bind fun Zu =>
 yR N d M8 (fun (Zv, Ec, i11) =>
 some (Zv, 0)) N (Zu, 0, 0))) N (l6, (l6.length : Int), i3))) N (([] : List Int), 0))
def qF (N : Nat) (iA kW : Int) (jT : List Int) (o p2 : Int) : Option Int :=
 (nz iA).bind fun _ =>
 (nz iA).bind fun _ =>
 cond (decide (p2 = 0)) (
 some 32768) (
 cond (decide ((IntKind.i64.wrap (Int.tdiv p2 iA)) = 0)) (
 (idx jT (IntKind.i64.wrap (p2 - 1))).bind fun e =>
 some e) (
 cond (decide ((Int.tmod p2 iA) = 0)) (
 (idx jT (IntKind.i64.wrap (p2 - iA))).bind fun e2 =>
 some e2) (
 (idx jT (IntKind.i64.wrap (p2 - 1))).bind fun e3 =>
 (idx jT (IntKind.i64.wrap (p2 - iA))).bind fun e4 =>
 (idx jT (IntKind.i64.wrap ((IntKind.i64.wrap (p2 - iA)) - 1))).bind fun e5 =>
 (idx [0, e3, e4, e5, IntKind.i64.wrap ((IntKind.i64.wrap (e3 + e4)) - e5), IntKind.i64.wrap (e3 + (jR .i64 (IntKind.i64.wrap (e4 - e5)) 1)), IntKind.i64.wrap (e4 + (jR .i64 (IntKind.i64.wrap (e3 - e5)) 1)), jR .i64 (IntKind.i64.wrap (e3 + e4)) 1] o).bind fun e6 =>
 some e6)))
def vN (N : Nat) (x2 : Int) : Option Int :=
 cond (decide (4294967296 ≤ x2)) (
 (some (jR .u64 x2 32)).bind fun x3 =>
 cond (decide (65536 ≤ x3)) (
 (some (jR .u64 x3 16)).bind fun x4 =>
 (some (IntKind.i64.wrap (32 + 16))).bind fun n =>
 cond (decide (256 ≤ x4)) (
 (some (jR .u64 x4 8)).bind fun x5 =>
 (some (IntKind.i64.wrap (n + 8))).bind fun n2 =>
 (idx Kp (IntKind.u8.wrap x5)).bind fun b =>
 (some (IntKind.i64.wrap (n2 + (IntKind.i64.wrap (b.toNat : Int))))).bind fun n3 =>
 some n3) (
 (idx Kp (IntKind.u8.wrap x4)).bind fun b2 =>
 (some (IntKind.i64.wrap (n + (IntKind.i64.wrap (b2.toNat : Int))))).bind fun n4 =>
 some n4)) (
 cond (decide (256 ≤ x3)) (
 (some (jR .u64 x3 8)).bind fun x6 =>
 (some (IntKind.i64.wrap (32 + 8))).bind fun n5 =>
 (idx Kp (IntKind.u8.wrap x6)).bind fun b3 =>
 (some (IntKind.i64.wrap (n5 + (IntKind.i64.wrap (b3.toNat : Int))))).bind fun n6 =>
 some n6) (
 (idx Kp (IntKind.u8.wrap x3)).bind fun b4 =>
 (some (IntKind.i64.wrap (32 + (IntKind.i64.wrap (b4.toNat : Int))))).bind fun n7 =>
 some n7))) (
 cond (decide (65536 ≤ x2)) (
 (some (jR .u64 x2 16)).bind fun x7 =>
 (some (IntKind.i64.wrap (0 + 16))).bind fun n8 =>
 cond (decide (256 ≤ x7)) (
 (some (jR .u64 x7 8)).bind fun x8 =>
 (some (IntKind.i64.wrap (n8 + 8))).bind fun n9 =>
 (idx Kp (IntKind.u8.wrap x8)).bind fun b5 =>
 (some (IntKind.i64.wrap (n9 + (IntKind.i64.wrap (b5.toNat : Int))))).bind fun n10 =>
 some n10) (
 (idx Kp (IntKind.u8.wrap x7)).bind fun b6 =>
 (some (IntKind.i64.wrap (n8 + (IntKind.i64.wrap (b6.toNat : Int))))).bind fun n11 =>
 some n11)) (
 cond (decide (256 ≤ x2)) (
 (some (jR .u64 x2 8)).bind fun x9 =>
 (some (IntKind.i64.wrap (0 + 8))).bind fun n12 =>
 (idx Kp (IntKind.u8.wrap x9)).bind fun b7 =>
 (some (IntKind.i64.wrap (n12 + (IntKind.i64.wrap (b7.toNat : Int))))).bind fun n13 =>
 some n13) (
 (idx Kp (IntKind.u8.wrap x2)).bind fun b8 =>
 (some (IntKind.i64.wrap (0 + (IntKind.i64.wrap (b8.toNat : Int))))).bind fun n14 =>
 some n14)))
def uA (N : Nat) (x2 : Int) : Option Int :=
 (vN N x2).bind fun r2 =>
 some r2
def CC (N : Nat) (b : List UInt8) : Option Bool :=
 (Ah N b ([48, 49] : List UInt8)).bind fun r2 =>
 cond (decide (r2 = ([] : List UInt8))) (
 (tY N b ([48] : List UInt8)).bind fun r3 =>
 (tY N b ([49] : List UInt8)).bind fun r4 =>
 some (decide ((IntKind.i64.wrap (r3 + r4)) = (b.length : Int)))) (
 some false)
def yT (N : Nat) (b : List UInt8) (kk : (List Int × Int) → Option (List UInt8 × Int)) : Nat → (List Int × Int) → Option (List UInt8 × Int)
 | 0, _ => none
 | fuel + 1, (l3, i) =>
  cond (decide (i < (b.length : Int))) (
  (some (IntKind.i64.wrap (Int.tdiv i 8))).bind fun x4 =>
  (idx l3 x4).bind fun e3 =>
  (idx b i).bind fun b3 =>
  (nn (IntKind.i64.wrap (7 - (Int.tmod i 8)))).bind fun _ =>
  (idx l3 x4).bind fun e4 =>
  (Bg l3 x4 (EF .u8 e3 (nY .u8 (IntKind.u8.wrap ((b3.toNat : Int) - 48)) (IntKind.i64.wrap (7 - (Int.tmod i 8)))))).bind fun l5 =>
  yT N b kk fuel (l5, IntKind.i64.wrap (i + 1))) (
  kk (l3, i))
def zR (N : Nat) (b : List UInt8) : Option (List UInt8 × Int) :=
 (CC N b).bind fun r2 =>
 cond (!(r2)) (
 some (([] : List UInt8), 1)) (
 (some (IntKind.i64.wrap (Int.tdiv (IntKind.i64.wrap ((b.length : Int) + 7)) 8))).bind fun x2 =>
 (mk 1 x2 (0 : Int)).bind fun l2 =>
 yT N b (fun (l6, i2) =>
 some (toB l6, 0)) N (l2, 0))
def kJ (N : Nat) (iA kW : Int) (jT : List Int) (o : Int) (r3 : List (List UInt8) × Int) (kk : (List UInt8 × Int) → Option (List UInt8 × Int)) : Nat → (List UInt8 × Int) → Option (List UInt8 × Int)
 | 0, _ => none
 | fuel + 1, (l2, i) =>
  cond (decide (i < (jT.length : Int))) (
  (idx jT i).bind fun e6 =>
  (qF N iA kW jT o i).bind fun Dd =>
  (some (IntKind.i64.wrap (IntKind.u16.wrap (IntKind.i64.wrap (e6 - Dd))))).bind fun x6 =>
  cond (decide (32768 < x6)) (
  (some (IntKind.i64.wrap (x6 - 65536))).bind fun x7 =>
  (uA N (IntKind.u64.wrap (max x7 (IntKind.i64.wrap (0 - x7))))).bind fun rX =>
  cond (decide ((r3.1.length : Int) ≤ rX)) (
  some (([] : List UInt8), 4)) (
  (idx r3.1 rX).bind fun e7 =>
  cond (decide (e7 = ([] : List UInt8))) (
  some (([] : List UInt8), 4)) (
  (idx r3.1 rX).bind fun e8 =>
  (LV l2 e8).bind fun b7 =>
  cond (decide (0 < rX)) (
  cond (decide (rX < 16)) (
  cond (decide (x7 < 0)) (
  (nn rX).bind fun _ =>
  (some (IntKind.i64.wrap (x7 + (IntKind.i64.wrap ((nY .i64 1 rX) - 1))))).bind fun x8 =>
  (pF N x8 rX).bind fun AE =>
  (LV b7 AE.1).bind fun b8 =>
  kJ N iA kW jT o r3 kk fuel (b8, IntKind.i64.wrap (i + 1))) (
  (pF N x7 rX).bind fun Js =>
  (LV b7 Js.1).bind fun b9 =>
  kJ N iA kW jT o r3 kk fuel (b9, IntKind.i64.wrap (i + 1)))) (
  kJ N iA kW jT o r3 kk fuel (b7, IntKind.i64.wrap (i + 1)))) (
  kJ N iA kW jT o r3 kk fuel (b7, IntKind.i64.wrap (i + 1)))))) (
  (uA N (IntKind.u64.wrap (max x6 (IntKind.i64.wrap (0 - x6))))).bind fun De =>
  cond (decide ((r3.1.length : Int) ≤ De)) (
  some (([] : List UInt8), 4)) (
  (idx r3.1 De).bind fun e9 =>
  cond (decide (e9 = ([] : List UInt8))) (
  some (([] : List UInt8), 4)) (
  (idx r3.1 De).bind fun e10 =>
  (LV l2 e10).bind fun b10 =>
  cond (decide (0 < De)) (
  cond (decide (De < 16)) (
  cond (decide (x6 < 0)) (
  (nn De).bind fun _ =>
  (some (IntKind.i64.wrap (x6 + (IntKind.i64.wrap ((nY .i64 1 De) - 1))))).bind fun x9 =>
  (pF N x9 De).bind fun r16 =>
  (LV b10 r16.1).bind fun b11 =>
  kJ N iA kW jT o r3 kk fuel (b11, IntKind.i64.wrap (i + 1))) (
  (pF N x6 De).bind fun Du =>
  (LV b10 Du.1).bind fun b12 =>
  kJ N iA kW jT o r3 kk fuel (b12, IntKind.i64.wrap (i + 1)))) (
  kJ N iA kW jT o r3 kk fuel (b10, IntKind.i64.wrap (i + 1)))) (
  kJ N iA kW jT o r3 kk fuel (b10, IntKind.i64.wrap (i + 1))))))) (
  kk (l2, i))
def CD (N : Nat) (iA kW : Int) (jT : List Int) (o : Int) (p2 : List Int) : Option (List UInt8 × Int) :=
 (Dt N iA kW jT).bind fun r2 =>
 cond (!(r2)) (
 some (([] : List UInt8), 1)) (
 cond (decide (o < 1)) (
 some (([] : List UInt8), 6)) (
 cond (decide (7 < o)) (
 some (([] : List UInt8), 6)) (
 (zQ N p2).bind fun r3 =>
 cond (!decide (r3.2 = 0)) (
 some (([] : List UInt8), r3.2)) (
 kJ N iA kW jT o r3 (fun (l3, i2) =>
 (zR N l3).bind fun B3 =>
 some (B3.1, 0)) N (([] : List UInt8), 0)))))
def xQ (N : Nat) (gG iQ : Int) (hT : List Int) (qB : Int) (B4 : List Int) (r9 : List (Int × Int)) (kk : (List (List UInt8) × Int) → Option (Int × Int × Int × Int × Int × List Int × List (List UInt8) × Int × Int × Int × Int × Int × Int × List (Int × Int) × Int × Int × Int × Int × Int × Int × Int × Int × Int × Int × Int × Int × List (Int × Int) × Int × Int)) : Nat → (List (List UInt8) × Int) → Option (Int × Int × Int × Int × Int × List Int × List (List UInt8) × Int × Int × Int × Int × Int × Int × List (Int × Int) × Int × Int × Int × Int × Int × Int × Int × Int × Int × Int × Int × Int × List (Int × Int) × Int × Int)
 | 0, _ => none
 | fuel + 1, (rY, i) =>
  cond (decide (i < (r9.length : Int))) (
  (idx r9 i).bind fun e2 =>
  (Di B4 (IntKind.i64.wrap (e2.1 * qB)) (IntKind.i64.wrap ((IntKind.i64.wrap (e2.1 + e2.2)) * qB))).bind fun l3 =>
  (Ds N l3 gG).bind fun rX =>
  cond (decide (0 < iQ)) (
  (CD N qB e2.2 l3 iQ hT).bind fun AE =>
  cond (!decide (AE.2 = 0)) (
  some (0, 0, 0, 0, 0, ([] : List Int), ([] : List (List UInt8)), 0, 0, 0, 0, 0, 0, ([] : List (Int × Int)), 0, 0, 0, 0, 0, 0, 0, 0, 0, 0, 0, 0, ([] : List (Int × Int)), 0, AE.2)) (
  (app 16 rY (([AE.1] : List (List UInt8)))).bind fun Gi =>
  xQ N gG iQ hT qB B4 r9 kk fuel (Gi, IntKind.i64.wrap (i + 1)))) (
  cond (!decide (rX.2 = 0)) (
  some (0, 0, 0, 0, 0, ([] : List Int), ([] : List (List UInt8)), 0, 0, 0, 0, 0, 0, ([] : List (Int × Int)), 0, 0, 0, 0, 0, 0, 0, 0, 0, 0, 0, 0, ([] : List (Int × Int)), 0, rX.2)) (
  (app 16 rY (([rX.1] : List (List UInt8)))).bind fun Gj =>
  xQ N gG iQ hT qB B4 r9 kk fuel (Gj, IntKind.i64.wrap (i + 1))))) (
  kk (rY, i))
def EK (N : Nat) (iA kW gG iQ jZ : Int) (hT : List Int) (eA : List (List UInt8)) (dC cG cH cJ cK dD : Int) (bA : List (Int × Int)) (cL cM cN bK bL bM bN bO bP bQ bR bS : Int) (bB : List (Int × Int)) (cC qB tF : Int) (B4 : List Int) : Option (Int × Int × Int × Int × Int × List Int × List (List UInt8) × Int × Int × Int × Int × Int × Int × List (Int × Int) × Int × Int × Int × Int × Int × Int × Int × Int × Int × Int × Int × Int × List (Int × Int) × Int × Int) :=
 (Cy N iA kW gG iQ jZ hT eA dC cG cH cJ cK dD bA cL cM cN bK bL bM bN bO bP bQ bR bS bB cC).bind fun r2 =>
 cond (!decide (r2 = 0)) (
 some (0, 0, 0, 0, 0, ([] : List Int), ([] : List (List UInt8)), 0, 0, 0, 0, 0, 0, ([] : List (Int × Int)), 0, 0, 0, 0, 0, 0, 0, 0, 0, 0, 0, 0, ([] : List (Int × Int)), 0, r2)) (
 (CB N iA kW gG iQ jZ hT eA dC cG cH cJ cK dD bA cL cM cN bK bL bM bN bO bP bQ bR bS bB cC).bind fun r3 =>
 cond (!decide (r3 = 0)) (
 some (0, 0, 0, 0, 0, ([] : List Int), ([] : List (List UInt8)), 0, 0, 0, 0, 0, 0, ([] : List (Int × Int)), 0, 0, 0, 0, 0, 0, 0, 0, 0, 0, 0, 0, ([] : List (Int × Int)), 0, r3)) (
 (nI N qB tF B4 (([] : List (Int × Int)))).bind fun r4 =>
 cond (!decide (r4.2.2.2 = 0)) (
 some (0, 0, 0, 0, 0, ([] : List Int), ([] : List (List UInt8)), 0, 0, 0, 0, 0, 0, ([] : List (Int × Int)), 0, 0, 0, 0, 0, 0, 0, 0, 0, 0, 0, 0, ([] : List (Int × Int)), 0, 1)) (
 cond (!decide (qB = iA)) (
 some (0, 0, 0, 0, 0, ([] : List Int), ([] : List (List UInt8)), 0, 0, 0, 0, 0, 0, ([] : List (Int × Int)), 0, 0, 0, 0, 0, 0, 0, 0, 0, 0, 0, 0, ([] : List (Int × Int)), 0, 1)) (
 cond (!decide (tF = kW)) (
 some (0, 0, 0, 0, 0, ([] : List Int), ([] : List (List UInt8)), 0, 0, 0, 0, 0, 0, ([] : List (Int × Int)), 0, 0, 0, 0, 0, 0, 0, 0, 0, 0, 0, 0, ([] : List (Int × Int)), 0, 1)) (
 (oK N B4).bind fun r5 =>
 (nn gG).bind fun _ =>
 cond (decide (0 < (jR .i64 r5 gG))) (
 some (0, 0, 0, 0, 0, ([] : List Int), ([] : List (List UInt8)), 0, 0, 0, 0, 0, 0, ([] : List (Int × Int)), 0, 0, 0, 0, 0, 0, 0, 0, 0, 0, 0, 0, ([] : List (Int × Int)), 0, 1)) (
 (pV N hT).bind fun r6 =>
 (lM N bA).bind fun r7 =>
 (k5 N bB).bind fun r8 =>
 (zP N iA kW gG iQ jZ hT eA dC cG cH cJ cK dD bA cL cM cN bK bL bM bN bO bP bQ bR bS bB cC).bind fun r9 =>
 xQ N gG iQ hT qB B4 r9 (fun (Gk, i2) =>
 some (iA, kW, gG, iQ, jZ, r6, Gk, dC, cG, cH, cJ, cK, dD, r7, cL, cM, cN, bK, bL, bM, bN, bO, bP, bQ, bR, bS, r8, cC, 0)) N (([] : List (List UInt8)), 0)))))))
def tG (N : Nat)  : Option (Int × Int × Int × Int × Int × List Int × List (List UInt8) × Int × Int × Int × Int × Int × Int × List (Int × Int) × Int × Int × Int × Int × Int × Int × Int × Int × Int × Int × Int × Int × List (Int × Int) × Int) :=
 (uE N ).bind fun r2 =>
 (rV N ).bind fun r3 =>
 (rW N ).bind fun r4 =>
 (EK N 2 2 16 7 1 r2 (([] : List (List UInt8))) r3.1 r3.2.1 r3.2.2.1 r3.2.2.2.1 r3.2.2.2.2.1 r3.2.2.2.2.2.1 r3.2.2.2.2.2.2.1 r3.2.2.2.2.2.2.2.1 r3.2.2.2.2.2.2.2.2.1 r3.2.2.2.2.2.2.2.2.2.1 r3.2.2.2.2.2.2.2.2.2.2.1 r3.2.2.2.2.2.2.2.2.2.2.2.1 r3.2.2.2.2.2.2.2.2.2.2.2.2.1 r3.2.2.2.2.2.2.2.2.2.2.2.2.2.1 r3.2.2.2.2.2.2.2.2.2.2.2.2.2.2.1 r3.2.2.2.2.2.2.2.2.2.2.2.2.2.2.2.1 r3.2.2.2.2.2.2.2.2.2.2.2.2.2.2.2.2.1 r3.2.2.2.2.2.2.2.2.2.2.2.2.2.2.2.2.2.1 r3.2.2.2.2.2.2.2.2.2.2.2.2.2.2.2.2.2.2.1 r3.2.2.2.2.2.2.2.2.2.2.2.2.2.2.2.2.2.2.2.1 r3.2.2.2.2.2.2.2.2.2.2.2.2.2.2.2.2.2.2.2.2 r4.1 r4.2.1 r4.2.2).bind fun r5 =>
 some (r5.1, r5.2.1, r5.2.2.1, r5.2.2.2.1, r5.2.2.2.2.1, r5.2.2.2.2.2.1, r5.2.2.2.2.2.2.1, r5.2.2.2.2.2.2.2.1, r5.2.2.2.2.2.2.2.2.1, r5.2.2.2.2.2.2.2.2.2.1, r5.2.2.2.2.2.2.2.2.2.2.1, r5.2.2.2.2.2.2.2.2.2.2.2.1, r5.2.2.2.2.2.2.2.2.2.2.2.2.1, r5.2.2.2.2.2.2.2.2.2.2.2.2.2.1, r5.2.2.2.2.2.2.2.2.2.2.2.2.2.2.1, r5.2.2.2.2.2.2.2.2.2.2.2.2.2.2.2.1, r5.2.2.2.2.2.2.2.2.2.2.2.2.2.2.2.2.1, r5.2.2.2.2.2.2.2.2.2.2.2.2.2.2.2.2.2.1, r5.2.2.2.2.2.2.2.2.2.2.2.2.2.2.2.2.2.2.1, r5.2.2.2.2.2.2.2.2.2.2.2.2.2.2.2.2.2.2.2.1, r5.2.2.2.2.2.2.2.2.2.2.2.2.2.2.2.2.2.2.2.2.1, r5.2.2.2.2.2.2.2.2.2.2.2.2.2.2.2.2.2.2.2.2.2.1, r5.2.2.2.2.2.2.2.2.2.2.2.2.2.2.2.2.2.2.2.2.2.2.1, r5.2.2.2.2.2.2.2.2.2.2.2.2.2.2.2.2.2.2.2.2.2.2.2.1, r5.2.2.2.2.2.2.2.2.2.2.2.2.2.2.2.2.2.2.2.2.2.2.2.2.1, r5.2.2.2.2.2.2.2.2.2.2.2.2.2.2.2.2.2.2.2.2.2.2.2.2.2.1, r5.2.2.2.2.2.2.2.2.2.2.2.2.2.2.2.2.2.2.2.2.2.2.2.2.2.2.1, r5.2.2.2.2.2.2.2.2.2.2.2.2.2.2.2.2.2.2.2.2.2.2.2.2.2.2.2.1)
def wO (N : Nat) (o p2 : Int) (kk : (List Int × Int × Int) → Option (List Int × Int)) : Nat → (List Int × Int × Int) → Option (List Int × Int)
 | 0, _ => none
 | fuel + 1, (l8, i8, i9) =>
  cond (decide (o ≤ i9)) (
  cond (decide ((l8.length : Int) < p2)) (
  (some (IntKind.i64.wrap (i9 - o))).bind fun Io =>
  (nn Io).bind fun _ =>
  (app 8 l8 ([jR .i64 i8 Io] : List Int)).bind fun l10 =>
  (nn Io).bind fun _ =>
  (some (Fb .i64 i8 (IntKind.i64.wrap ((nY .i64 1 Io) - 1)))).bind fun Mc =>
  wO N o p2 kk fuel (l10, Mc, Io)) (
  kk (l8, i8, i9))) (
  kk (l8, i8, i9))
def wP (N : Nat) (d : List UInt8) (o p2 : Int) (kk : (List Int × Int × Int × Int) → Option (List Int × Int)) : Nat → (List Int × Int × Int × Int) → Option (List Int × Int)
 | 0, _ => none
 | fuel + 1, (l5, i3, i4, i5) =>
  cond (decide (i5 < (d.length : Int))) (
  (idx d i5).bind fun b3 =>
  (some (EF .i64 (nY .i64 i3 8) (IntKind.i64.wrap (b3.toNat : Int)))).bind fun Dc =>
  (some (IntKind.i64.wrap (i4 + 8))).bind fun QI =>
  wO N o p2 (fun (L9, Ec, i11) =>
  wP N d o p2 kk fuel (L9, Ec, i11, IntKind.i64.wrap (i5 + 1))) N (l5, Dc, QI)) (
  kk (l5, i3, i4, i5))
def BD (N : Nat) (d : List UInt8) (o p2 : Int) : Option (List Int × Int) :=
 (xO N o).bind fun r2 =>
 cond (!(r2)) (
 some (([] : List Int), 3)) (
 cond (decide (p2 < 0)) (
 some (([] : List Int), 3)) (
 cond (decide (4096 < p2)) (
 some (([] : List Int), 2)) (
 cond (!decide ((d.length : Int) = (IntKind.i64.wrap (Int.tdiv (IntKind.i64.wrap ((IntKind.i64.wrap (p2 * o)) + 7)) 8)))) (
 some (([] : List Int), 1)) (
 wP N d o p2 (fun (Zw, i12, Of, Od) =>
 cond (!decide (i12 = 0)) (
 some (([] : List Int), 1)) (
 some (Zw, 0))) N (([] : List Int), 0, 0, 0)))))
def vO (N : Nat) (e2 : List UInt8) (kk : (List (List UInt8 × Int) × Int) → Option (List Int × List UInt8 × Int)) : Nat → (List (List UInt8 × Int) × Int) → Option (List Int × List UInt8 × Int)
 | 0, _ => none
 | fuel + 1, (m5, i3) =>
  cond (decide (i3 < (e2.length : Int))) (
  (Di e2 0 i3).bind fun s5 =>
  (Kr m5 s5).bind fun q3 =>
  cond (!(q3.2)) (
  (Di e2 0 i3).bind fun s6 =>
  (OA m5 s6 (-1)).bind fun m7 =>
  vO N e2 kk fuel (m7, IntKind.i64.wrap (i3 + 1))) (
  vO N e2 kk fuel (m5, IntKind.i64.wrap (i3 + 1)))) (
  kk (m5, i3))
def vP (N : Nat) (m10 : List (List UInt8 × Int)) (o2 : List UInt8) (kk : (Int × Int) → Option (List Int × List UInt8 × Int)) : Nat → (Int × Int) → Option (List Int × List UInt8 × Int)
 | 0, _ => none
 | fuel + 1, (Ec, i11) =>
  cond (decide (i11 < 0)) (
  (Di o2 0 Ec).bind fun s12 =>
  (Kr m10 s12).bind fun q7 =>
  cond (!(q7.2)) (
  some (([] : List Int), ([] : List UInt8), 4)) (
  cond (decide (0 ≤ q7.1)) (
  vP N m10 o2 kk fuel (Ec, q7.1)) (
  cond (decide (Ec = (o2.length : Int))) (
  some (([] : List Int), ([] : List UInt8), 5)) (
  (some (IntKind.i64.wrap (Ec + 1))).bind fun x5 =>
  vP N m10 o2 kk fuel (x5, i11))))) (
  kk (Ec, i11))
def AF (N : Nat) (p2 : Int) (m10 : List (List UInt8 × Int)) (kk : (List Int × List UInt8) → Option (List Int × List UInt8 × Int)) : Nat → (List Int × List UInt8) → Option (List Int × List UInt8 × Int)
 | 0, _ => none
 | fuel + 1, (l3, o2) =>
  cond (decide ((l3.length : Int) < p2)) (
  vP N m10 o2 (fun (i12, Of) =>
  (app 8 l3 ([Of] : List Int)).bind fun l5 =>
  (Di o2 i12 (o2.length : Int)).bind fun s13 =>
  AF N p2 m10 kk fuel (l5, s13)) N (0, (-1))) (
  kk (l3, o2))
def vQ (N : Nat) (r2 : List (List UInt8) × Int) (kk : (List (List UInt8 × Int) × Int) → Option (List Int × List UInt8 × Int)) : Nat → (List (List UInt8 × Int) × Int) → Option (List Int × List UInt8 × Int)
 | 0, _ => none
 | fuel + 1, (m, i) =>
  cond (decide (i < (r2.1.length : Int))) (
  (idx r2.1 i).bind fun e2 =>
  vO N e2 (fun (m8, i4) =>
  cond (!decide (e2 = ([] : List UInt8))) (
  (OA m8 e2 i).bind fun m9 =>
  vQ N r2 kk fuel (m9, IntKind.i64.wrap (i + 1))) (
  vQ N r2 kk fuel (m8, IntKind.i64.wrap (i + 1)))) N (m, 0)) (
  kk (m, i))
def Dv (N : Nat) (d : List Int) (o : List UInt8) (p2 : Int) : Option (List Int × List UInt8 × Int) :=
 (zQ N d).bind fun r2 =>
 cond (!decide (r2.2 = 0)) (
 some (([] : List Int), ([] : List UInt8), r2.2)) (
 cond (decide (p2 < 0)) (
 some (([] : List Int), ([] : List UInt8), 3)) (
 cond (decide (4096 < p2)) (
 some (([] : List Int), ([] : List UInt8), 3)) (
 (zR N o).bind fun r3 =>
 cond (!decide (r3.2 = 0)) (
 some (([] : List Int), ([] : List UInt8), 1)) (
 vQ N r2 (fun (m10, i5) =>
 AF N p2 m10 (fun (l6, o3) =>
 some (l6, o3, 0)) N (([] : List Int), o)) N (([] : List (List UInt8 × Int)), 0)))))
def AG (N : Nat) (s : List UInt8) (kk : (List UInt8 × Int) → Option (List UInt8)) : Nat → (List UInt8 × Int) → Option (List UInt8)
 | 0, _ => none
 | fuel + 1, (l2, i) =>
  cond (decide (i < (s.length : Int))) (
  (idx s i).bind fun b3 =>
  (xP N (IntKind.i64.wrap (b3.toNat : Int)) 8).bind fun r3 =>
  (LV l2 r3).bind fun b4 =>
  (some (IntKind.i64.wrap (i + 1))).bind fun i3 =>
  AG N s kk fuel (b4, i3)) (
  kk (l2, i))
def Bm (N : Nat) (s : List UInt8) : Option (List UInt8) :=
 AG N s (fun (l3, i4) =>
 some l3) N (([] : List UInt8), 0)
def yU (N : Nat) (b : List UInt8) (kk : (Int × Int) → Option (Int × Int)) : Nat → (Int × Int) → Option (Int × Int)
 | 0, _ => none
 | fuel + 1, (n, i) =>
  cond (decide (i < (b.length : Int))) (
  (idx b i).bind fun b3 =>
  (some (IntKind.i64.wrap ((nY .i64 n 1) + (IntKind.i64.wrap (Fb .u8 (b3.toNat : Int) 1))))).bind fun n3 =>
  yU N b kk fuel (n3, IntKind.i64.wrap (i + 1))) (
  kk (n, i))
def CE (N : Nat) (b : List UInt8) : Option (Int × Int) :=
 (CC N b).bind fun r2 =>
 cond (!(r2)) (
 some (0, 1)) (
 cond (decide (16 < (b.length : Int))) (
 some (0, 3)) (
 yU N b (fun (n4, i2) =>
 some (n4, 0)) N (0, 0)))
def AH (N : Nat)  (kk : (List UInt8 × List UInt8) → Option (Int × Int × List Int × Int)) : Nat → (List UInt8 × List UInt8) → Option (Int × Int × List Int × Int)
 | 0, _ => none
 | fuel + 1, (Io, Mc) =>
  cond (decide ((Io.length : Int) < 1)) (
  cond (!decide (Mc = ([] : List UInt8))) (
  (Di Mc 0 1).bind fun Zx =>
  (Bm N Zx).bind fun De =>
  (B7 Io De).bind fun X0 =>
  (Di Mc 1 (Mc.length : Int)).bind fun X1 =>
  AH N  kk fuel (X0, X1)) (
  kk (Io, Mc))) (
  kk (Io, Mc))
def AI (N : Nat) (i6 : Int) (kk : (List UInt8 × List UInt8) → Option (Int × Int × List Int × Int)) : Nat → (List UInt8 × List UInt8) → Option (Int × Int × List Int × Int)
 | 0, _ => none
 | fuel + 1, (Gh, x23) =>
  cond (decide ((Gh.length : Int) < i6)) (
  cond (!decide (x23 = ([] : List UInt8))) (
  (Di x23 0 1).bind fun Zy =>
  (Bm N Zy).bind fun B3 =>
  (B7 Gh B3).bind fun X2 =>
  (Di x23 1 (x23.length : Int)).bind fun X3 =>
  AI N i6 kk fuel (X2, X3)) (
  kk (Gh, x23))) (
  kk (Gh, x23))
def AJ (N : Nat) (p4 : List Int) (kk : (List UInt8 × List UInt8 × Int × Int × List UInt8) → Option (Int × Int × List Int × Int)) : Nat → (List UInt8 × List UInt8 × Int × Int × List UInt8) → Option (Int × Int × List Int × Int)
 | 0, _ => none
 | fuel + 1, (Dc, QI, i4, i5, w3) =>
  (Dv N p4 w3 1).bind fun AE =>
  cond (decide (AE.2.2 = 0)) (
  (idx AE.1 0).bind fun e7 =>
  kk (Dc, QI, e7, AE.2.2, w3)) (
  AH N  (fun (x18, QJ) =>
  cond (decide ((x18.length : Int) < 1)) (
  cond (!decide (AE.2.2 = 5)) (
  kk (x18, QJ, 0, 1, w3)) (
  kk (x18, QJ, 0, 1, w3))) (
  (Di x18 0 1).bind fun s24 =>
  (Di x18 1 (x18.length : Int)).bind fun Vd =>
  cond (!decide (AE.2.2 = 5)) (
  kk (Vd, QJ, 0, 1, w3)) (
  (B7 w3 s24).bind fun X4 =>
  AJ N p4 kk fuel (Vd, QJ, i4, i5, X4)))) N (Dc, QI))
def pW (N : Nat) (o p2 p3 : Int) (p4 : List Int) (kk : (List Int × List UInt8 × List UInt8 × Int) → Option (Int × Int × List Int × Int)) : Nat → (List Int × List UInt8 × List UInt8 × Int) → Option (Int × Int × List Int × Int)
 | 0, _ => none
 | fuel + 1, (zH, x3, x4, i) =>
  cond (decide (i < (IntKind.i64.wrap (o * p2)))) (
  (app 8 zH ([0] : List Int)).bind fun s1 =>
  AJ N p4 (fun (x20, x21, i6, i7, w4) =>
  cond (!decide (i7 = 0)) (
  some (0, 0, ([] : List Int), 1)) (
  cond (decide (i6 = 16)) (
  (qF N o p2 s1 p3 i).bind fun r16 =>
  (idx s1 i).bind fun e8 =>
  (Bg s1 i (IntKind.i64.wrap (IntKind.u16.wrap (IntKind.i64.wrap (r16 + 32768))))).bind fun l6 =>
  pW N o p2 p3 p4 kk fuel (l6, x20, x21, IntKind.i64.wrap (i + 1))) (
  cond (decide (0 < i6)) (
  AI N i6 (fun (x24, x25) =>
  cond (decide ((x24.length : Int) < i6)) (
  some (0, 0, ([] : List Int), 1)) (
  (Di x24 0 i6).bind fun X5 =>
  (Di x24 i6 (x24.length : Int)).bind fun Ve =>
  (CE N X5).bind fun EL =>
  (idx X5 0).bind fun b2 =>
  cond (decide ((b2.toNat : Int) = 48)) (
  (nn i6).bind fun _ =>
  (some (IntKind.i64.wrap (EL.1 - (IntKind.i64.wrap ((nY .i64 1 i6) - 1))))).bind fun X6 =>
  (qF N o p2 s1 p3 i).bind fun GD =>
  (idx s1 i).bind fun e9 =>
  (Bg s1 i (IntKind.i64.wrap (IntKind.u16.wrap (IntKind.i64.wrap (GD + X6))))).bind fun l7 =>
  pW N o p2 p3 p4 kk fuel (l7, Ve, x25, IntKind.i64.wrap (i + 1))) (
  (qF N o p2 s1 p3 i).bind fun GV =>
  (idx s1 i).bind fun e10 =>
  (Bg s1 i (IntKind.i64.wrap (IntKind.u16.wrap (IntKind.i64.wrap (GV + EL.1))))).bind fun l8 =>
  pW N o p2 p3 p4 kk fuel (l8, Ve, x25, IntKind.i64.wrap (i + 1))))) N (x20, x21)) (
  (qF N o p2 s1 p3 i).bind fun Hu =>
  (idx s1 i).bind fun e11 =>
  (Bg s1 i (IntKind.i64.wrap (IntKind.u16.wrap (IntKind.i64.wrap (Hu + 0))))).bind fun l9 =>
  pW N o p2 p3 p4 kk fuel (l9, x20, x21, IntKind.i64.wrap (i + 1)))))) N (x3, x4, 0, 0, ([] : List UInt8))) (
  kk (zH, x3, x4, i))
def Dw (N : Nat) (d : List UInt8) (o p2 p3 : Int) (p4 : List Int) : Option (Int × Int × List Int × Int) :=
 cond (decide (o < 1)) (
 some (0, 0, ([] : List Int), 3)) (
 cond (decide (64 < o)) (
 some (0, 0, ([] : List Int), 3)) (
 cond (decide (p2 < 1)) (
 some (0, 0, ([] : List Int), 3)) (
 cond (decide (64 < p2)) (
 some (0, 0, ([] : List Int), 3)) (
 cond (decide (p3 < 1)) (
 some (0, 0, ([] : List Int), 6)) (
 cond (decide (7 < p3)) (
 some (0, 0, ([] : List Int), 6)) (
 (vL N p4).bind fun r2 =>
 cond (!decide (r2 = 0)) (
 some (0, 0, ([] : List Int), r2)) (
 pW N o p2 p3 p4 (fun (Bz, x27, x28, i8) =>
 cond (!decide (x28 = ([] : List UInt8))) (
 some (0, 0, ([] : List Int), 1)) (
 (uD N x27 ([49] : List UInt8)).bind fun Md =>
 cond (Md) (
 some (0, 0, ([] : List Int), 1)) (
 some (o, p2, Bz, 0)))) N (([] : List Int), ([] : List UInt8), d, 0))))))))
def BE (N : Nat) (An tD eH iB eV : Int) (gX : List Int) (eM : List (List UInt8)) (dJ cQ cR cU cV dK : Int) (bF : List (Int × Int)) (cW cZ dA bT bU bV bW bX bY bZ cA cB : Int) (bH : List (Int × Int)) (dB : Int) (s : List UInt8) (rows : Int) : Option (List Int × Int) :=
 cond (decide (iB = 0)) (
 (BD N s eH (IntKind.i64.wrap (An * rows))).bind fun r2 =>
 some (r2.1, r2.2)) (
 (Dw N s An rows iB gX).bind fun r3 =>
 cond (decide (r3.2.2.2 = 0)) (
 (oK N r3.2.2.1).bind fun r4 =>
 (nn eH).bind fun _ =>
 cond (decide (0 < (jR .i64 r4 eH))) (
 some (r3.2.2.1, 1)) (
 some (r3.2.2.1, r3.2.2.2))) (
 some (r3.2.2.1, r3.2.2.2)))
def AK (N : Nat) (iA kW gG iQ jZ : Int) (hT : List Int) (eA : List (List UInt8)) (dC cG cH cJ cK dD : Int) (bA : List (Int × Int)) (cL cM cN bK bL bM bN bO bP bQ bR bS : Int) (bB : List (Int × Int)) (cC : Int) (r3 : List (Int × Int)) (kk : (List Int × Int) → Option (Int × Int × List Int × Int)) : Nat → (List Int × Int) → Option (Int × Int × List Int × Int)
 | 0, _ => none
 | fuel + 1, (zH, i) =>
  cond (decide (i < (eA.length : Int))) (
  (idx eA i).bind fun e3 =>
  (idx r3 i).bind fun e4 =>
  (BE N iA kW gG iQ jZ hT eA dC cG cH cJ cK dD bA cL cM cN bK bL bM bN bO bP bQ bR bS bB cC e3 e4.2).bind fun r6 =>
  cond (!decide (r6.2 = 0)) (
  some (0, 0, ([] : List Int), 1)) (
  (app 8 zH r6.1).bind fun s1 =>
  AK N iA kW gG iQ jZ hT eA dC cG cH cJ cK dD bA cL cM cN bK bL bM bN bO bP bQ bR bS bB cC r3 kk fuel (s1, IntKind.i64.wrap (i + 1)))) (
  kk (zH, i))
def Bn (N : Nat) (iA kW gG iQ jZ : Int) (hT : List Int) (eA : List (List UInt8)) (dC cG cH cJ cK dD : Int) (bA : List (Int × Int)) (cL cM cN bK bL bM bN bO bP bQ bR bS : Int) (bB : List (Int × Int)) (cC : Int) : Option (Int × Int × List Int × Int) :=
 (Cy N iA kW gG iQ jZ hT eA dC cG cH cJ cK dD bA cL cM cN bK bL bM bN bO bP bQ bR bS bB cC).bind fun r2 =>
 cond (!decide (r2 = 0)) (
 some (0, 0, ([] : List Int), r2)) (
 (zP N iA kW gG iQ jZ hT eA dC cG cH cJ cK dD bA cL cM cN bK bL bM bN bO bP bQ bR bS bB cC).bind fun r3 =>
 cond (!decide ((eA.length : Int) = (r3.length : Int))) (
 some (0, 0, ([] : List Int), 2)) (
 (CB N iA kW gG iQ jZ hT eA dC cG cH cJ cK dD bA cL cM cN bK bL bM bN bO bP bQ bR bS bB cC).bind fun r4 =>
 cond (!decide (r4 = 0)) (
 some (0, 0, ([] : List Int), r4)) (
 AK N iA kW gG iQ jZ hT eA dC cG cH cJ cK dD bA cL cM cN bK bL bM bN bO bP bQ bR bS bB cC r3 (fun (Bz, i2) =>
 some (iA, kW, Bz, 0)) N (([] : List Int), 0))))
def Bp (N : Nat) (An tD eH iB eV : Int) (gX : List Int) (eM : List (List UInt8)) (dJ cQ cR cU cV dK : Int) (bF : List (Int × Int)) (cW cZ dA bT bU bV bW bX bY bZ cA cB : Int) (bH : List (Int × Int)) (dB : Int) : Option Int :=
 (Bn N An tD eH iB eV gX eM dJ cQ cR cU cV dK bF cW cZ dA bT bU bV bW bX bY bZ cA cB bH dB).bind fun r2 =>
 some r2.2.2.2
def rZ (N : Nat) (e2 : Int) (kk : (List Int × Int) → Option (List Int)) : Nat → (List Int × Int) → Option (List Int)
 | 0, _ => none
 | fuel + 1, (vA, i5) =>
  cond (decide (0 ≤ i5)) (
  (nn (IntKind.i64.wrap (8 * i5))).bind fun _ =>
  (app 1 vA (([IntKind.u8.wrap (jR .i64 e2 (IntKind.i64.wrap (8 * i5)))] : List Int))).bind fun Hv =>
  (some (IntKind.i64.wrap (i5 - 1))).bind fun i8 =>
  rZ N e2 kk fuel (Hv, i8)) (
  kk (vA, i5))
def sA (N : Nat) (l2 : List Int) (kk : (List Int × Int) → Option (List Int)) : Nat → (List Int × Int) → Option (List Int)
 | 0, _ => none
 | fuel + 1, (B9, i) =>
  cond (decide (i < (l2.length : Int))) (
  (idx l2 i).bind fun e2 =>
  rZ N e2 (fun (I0, Ec) =>
  sA N l2 kk fuel (I0, IntKind.i64.wrap (i + 1))) N (B9, 3)) (
  kk (B9, i))
def fM (N : Nat) (LW l2 : List Int) : Option (List Int) :=
 sA N l2 (fun (Ky, i11) =>
 some Ky) N (LW, 0)
def vS (N : Nat) (LW : List Int) (s : List UInt8) : Option (List Int) :=
 (fM N LW (([(s.length : Int)] : List Int))).bind fun r2 =>
 (app 1 r2 (nZ s)).bind fun B9 =>
 some B9
def AL (N : Nat) (bB : List (Int × Int)) (kk : (List Int × Int) → Option (List UInt8 × Int)) : Nat → (List Int × Int) → Option (List UInt8 × Int)
 | 0, _ => none
 | fuel + 1, (Kz, i5) =>
  cond (decide (i5 < (bB.length : Int))) (
  (idx bB i5).bind fun e6 =>
  (fM N Kz ([e6.1, e6.2] : List Int)).bind fun B3 =>
  AL N bB kk fuel (B3, IntKind.i64.wrap (i5 + 1))) (
  kk (Kz, i5))
def AM (N : Nat) (bA : List (Int × Int)) (kk : (List Int × Int) → Option (List UInt8 × Int)) : Nat → (List Int × Int) → Option (List UInt8 × Int)
 | 0, _ => none
 | fuel + 1, (KA, i3) =>
  cond (decide (i3 < (bA.length : Int))) (
  (idx bA i3).bind fun e4 =>
  (fM N KA ([e4.1, e4.2] : List Int)).bind fun AE =>
  AM N bA kk fuel (AE, IntKind.i64.wrap (i3 + 1))) (
  kk (KA, i3))
def AN (N : Nat) (eA : List (List UInt8)) (kk : (List Int × Int) → Option (List UInt8 × Int)) : Nat → (List Int × Int) → Option (List UInt8 × Int)
 | 0, _ => none
 | fuel + 1, (RF, i) =>
  cond (decide (i < (eA.length : Int))) (
  (idx eA i).bind fun e2 =>
  (vS N RF e2).bind fun r8 =>
  AN N eA kk fuel (r8, IntKind.i64.wrap (i + 1))) (
  kk (RF, i))
def Dx (N : Nat) (iA kW gG iQ jZ : Int) (hT : List Int) (eA : List (List UInt8)) (dC cG cH cJ cK dD : Int) (bA : List (Int × Int)) (cL cM cN bK bL bM bN bO bP bQ bR bS : Int) (bB : List (Int × Int)) (cC : Int) : Option (List UInt8 × Int) :=
 (Bp N iA kW gG iQ jZ hT eA dC cG cH cJ cK dD bA cL cM cN bK bL bM bN bO bP bQ bR bS bB cC).bind fun r2 =>
 cond (!decide (r2 = 0)) (
 some (([] : List UInt8), r2)) (
 (vS N ([] : List Int) ([100, 97, 114, 107] : List UInt8)).bind fun r3 =>
 (fM N r3 (([iA, kW, gG, iQ, jZ, (hT.length : Int)] : List Int))).bind fun r4 =>
 (fM N r4 hT).bind fun r5 =>
 (fM N r5 (([(eA.length : Int)] : List Int))).bind fun r6 =>
 AN N eA (fun (Vf, i2) =>
 (fM N Vf ([dC] : List Int)).bind fun r9 =>
 (fM N r9 ([cG, cH, cJ, cK])).bind fun EM =>
 (fM N EM (([dD, (bA.length : Int)] : List Int))).bind fun Dd =>
 AM N bA (fun (Vg, i4) =>
 (fM N Vg ([cL, cM, cN])).bind fun Js =>
 (fM N Js ([bK, bL, bM, bN, bO, bP, bQ, bR, bS])).bind fun De =>
 (fM N De (([(bB.length : Int)] : List Int))).bind fun r16 =>
 AL N bB (fun (Vh, i6) =>
 (fM N Vh ([cC] : List Int)).bind fun EL =>
 some (toB EL, 0)) N (r16, 0)) N (Dd, 0)) N (r6, 0))
def mT (N : Nat) (Kf : List UInt8) (n : Int) : Option (Option (List UInt8 × List UInt8)) :=
 cond (decide (n < 0)) (
 some none) (
 cond (decide ((Kf.length : Int) < n)) (
 some none) (
 (Di Kf 0 n).bind fun s =>
 (Di Kf n (Kf.length : Int)).bind fun s2 =>
 some (some (s, s2))))
def oL (N : Nat) (r2 : List UInt8 × List UInt8) (kk : (Int × Int) → Option (Option (Int × List UInt8))) : Nat → (Int × Int) → Option (Option (Int × List UInt8))
 | 0, _ => none
 | fuel + 1, (n, i) =>
  cond (decide (i < (((nZ r2.1).length : Int)))) (
  (idx (nZ r2.1) i).bind fun e2 =>
  (some (EF .i64 (nY .i64 n 8) (IntKind.i64.wrap e2))).bind fun n3 =>
  oL N r2 kk fuel (n3, IntKind.i64.wrap (i + 1))) (
  kk (n, i))
def aX (N : Nat) (Kf : List UInt8) : Option (Option (Int × List UInt8)) :=
 (mT N Kf 4).bind fun q => Cs q (
 some none) fun r2 =>
 oL N r2 (fun (n4, i2) =>
 some (some (IntKind.i64.wrap (IntKind.i32.wrap n4), r2.2))) N (0, 0)
def BF (N : Nat) (OQ : Int × List UInt8) (kk : (List (Int × Int) × List UInt8 × Int) → Option (Int × Int × Int × Int × Int × List Int × List (List UInt8) × Int × Int × Int × Int × Int × Int × List (Int × Int) × Int × Int × Int × Int × Int × Int × Int × Int × Int × Int × Int × Int × List (Int × Int) × Int × Int)) : Nat → (List (Int × Int) × List UInt8 × Int) → Option (Int × Int × Int × Int × Int × List Int × List (List UInt8) × Int × Int × Int × Int × Int × Int × List (Int × Int) × Int × Int × Int × Int × Int × Int × Int × Int × Int × Int × Int × Int × List (Int × Int) × Int × Int)
 | 0, _ => none
 | fuel + 1, (l8, I1, i7) =>
  cond (decide (i7 < OQ.1)) (
  (aX N I1).bind fun X7 => Cs X7 (
  some (0, 0, 0, 0, 0, ([] : List Int), ([] : List (List UInt8)), 0, 0, 0, 0, 0, 0, ([] : List (Int × Int)), 0, 0, 0, 0, 0, 0, 0, 0, 0, 0, 0, 0, ([] : List (Int × Int)), 0, 1)) fun Jt =>
  (aX N Jt.2).bind fun X8 => Cs X8 (
  some (0, 0, 0, 0, 0, ([] : List Int), ([] : List (List UInt8)), 0, 0, 0, 0, 0, 0, ([] : List (Int × Int)), 0, 0, 0, 0, 0, 0, 0, 0, 0, 0, 0, 0, ([] : List (Int × Int)), 0, 1)) fun Qg =>
  (app 16 l8 (([(Jt.1, Qg.1)] : List (Int × Int)))).bind fun BG =>
  BF N OQ kk fuel (BG, Qg.2, IntKind.i64.wrap (i7 + 1))) (
  kk (l8, I1, i7))
def BH (N : Nat) (Md : Int × List UInt8) (kk : (List (Int × Int) × List UInt8 × Int) → Option (Int × Int × Int × Int × Int × List Int × List (List UInt8) × Int × Int × Int × Int × Int × Int × List (Int × Int) × Int × Int × Int × Int × Int × Int × Int × Int × Int × Int × Int × Int × List (Int × Int) × Int × Int)) : Nat → (List (Int × Int) × List UInt8 × Int) → Option (Int × Int × Int × Int × Int × List Int × List (List UInt8) × Int × Int × Int × Int × Int × Int × List (Int × Int) × Int × Int × Int × Int × Int × Int × Int × Int × Int × Int × Int × Int × List (Int × Int) × Int × Int)
 | 0, _ => none
 | fuel + 1, (l6, NL, i5) =>
  cond (decide (i5 < Md.1)) (
  (aX N NL).bind fun X9 => Cs X9 (
  some (0, 0, 0, 0, 0, ([] : List Int), ([] : List (List UInt8)), 0, 0, 0, 0, 0, 0, ([] : List (Int × Int)), 0, 0, 0, 0, 0, 0, 0, 0, 0, 0, 0, 0, ([] : List (Int × Int)), 0, 1)) fun Ju =>
  (aX N Ju.2).bind fun Ya => Cs Ya (
  some (0, 0, 0, 0, 0, ([] : List Int), ([] : List (List UInt8)), 0, 0, 0, 0, 0, 0, ([] : List (Int × Int)), 0, 0, 0, 0, 0, 0, 0, 0, 0, 0, 0, 0, ([] : List (Int × Int)), 0, 1)) fun Qh =>
  (app 16 l6 (([(Ju.1, Qh.1)] : List (Int × Int)))).bind fun BI =>
  BH N Md kk fuel (BI, Qh.2, IntKind.i64.wrap (i5 + 1))) (
  kk (l6, NL, i5))
def BJ (N : Nat) (rX : Int × List UInt8) (kk : (List (List UInt8) × List UInt8 × Int) → Option (Int × Int × Int × Int × Int × List Int × List (List UInt8) × Int × Int × Int × Int × Int × Int × List (Int × Int) × Int × Int × Int × Int × Int × Int × Int × Int × Int × Int × Int × Int × List (Int × Int) × Int × Int)) : Nat → (List (List UInt8) × List UInt8 × Int) → Option (Int × Int × Int × Int × Int × List Int × List (List UInt8) × Int × Int × Int × Int × Int × Int × List (Int × Int) × Int × Int × Int × Int × Int × Int × Int × Int × Int × Int × Int × Int × List (Int × Int) × Int × Int)
 | 0, _ => none
 | fuel + 1, (l4, NM, i3) =>
  cond (decide (i3 < rX.1)) (
  (aX N NM).bind fun Yb => Cs Yb (
  some (0, 0, 0, 0, 0, ([] : List Int), ([] : List (List UInt8)), 0, 0, 0, 0, 0, 0, ([] : List (Int × Int)), 0, 0, 0, 0, 0, 0, 0, 0, 0, 0, 0, 0, ([] : List (Int × Int)), 0, 1)) fun De =>
  (mT N De.2 De.1).bind fun Yc => Cs Yc (
  some (0, 0, 0, 0, 0, ([] : List Int), ([] : List (List UInt8)), 0, 0, 0, 0, 0, 0, ([] : List (Int × Int)), 0, 0, 0, 0, 0, 0, 0, 0, 0, 0, 0, 0, ([] : List (Int × Int)), 0, 1)) fun r16 =>
  (app 16 l4 (([r16.1] : List (List UInt8)))).bind fun Gl =>
  BJ N rX kk fuel (Gl, r16.2, IntKind.i64.wrap (i3 + 1))) (
  kk (l4, NM, i3))
def BL (N : Nat) (r9 : Int × List UInt8) (kk : (List Int × List UInt8 × Int) → Option (Int × Int × Int × Int × Int × List Int × List (List UInt8) × Int × Int × Int × Int × Int × Int × List (Int × Int) × Int × Int × Int × Int × Int × Int × Int × Int × Int × Int × Int × Int × List (Int × Int) × Int × Int)) : Nat → (List Int × List UInt8 × Int) → Option (Int × Int × Int × Int × Int × List Int × List (List UInt8) × Int × Int × Int × Int × Int × Int × List (Int × Int) × Int × Int × Int × Int × Int × Int × Int × Int × Int × Int × Int × Int × List (Int × Int) × Int × Int)
 | 0, _ => none
 | fuel + 1, (l2, NN, i) =>
  cond (decide (i < r9.1)) (
  (aX N NN).bind fun Yd => Cs Yd (
  some (0, 0, 0, 0, 0, ([] : List Int), ([] : List (List UInt8)), 0, 0, 0, 0, 0, 0, ([] : List (Int × Int)), 0, 0, 0, 0, 0, 0, 0, 0, 0, 0, 0, 0, ([] : List (Int × Int)), 0, 1)) fun Dd =>
  (app 8 l2 ([Dd.1] : List Int)).bind fun Jv =>
  BL N r9 kk fuel (Jv, Dd.2, IntKind.i64.wrap (i + 1))) (
  kk (l2, NN, i))
def EN (N : Nat) (d : List UInt8) : Option (Int × Int × Int × Int × Int × List Int × List (List UInt8) × Int × Int × Int × Int × Int × Int × List (Int × Int) × Int × Int × Int × Int × Int × Int × Int × Int × Int × Int × Int × Int × List (Int × Int) × Int × Int) :=
 (aX N d).bind fun q => Cs q (
 some (0, 0, 0, 0, 0, ([] : List Int), ([] : List (List UInt8)), 0, 0, 0, 0, 0, 0, ([] : List (Int × Int)), 0, 0, 0, 0, 0, 0, 0, 0, 0, 0, 0, 0, ([] : List (Int × Int)), 0, 1)) fun r2 =>
 (mT N r2.2 r2.1).bind fun q2 => Cs q2 (
 some (0, 0, 0, 0, 0, ([] : List Int), ([] : List (List UInt8)), 0, 0, 0, 0, 0, 0, ([] : List (Int × Int)), 0, 0, 0, 0, 0, 0, 0, 0, 0, 0, 0, 0, ([] : List (Int × Int)), 0, 1)) fun r3 =>
 cond (!decide (r3.1 = ([100, 97, 114, 107] : List UInt8))) (
 some (0, 0, 0, 0, 0, ([] : List Int), ([] : List (List UInt8)), 0, 0, 0, 0, 0, 0, ([] : List (Int × Int)), 0, 0, 0, 0, 0, 0, 0, 0, 0, 0, 0, 0, ([] : List (Int × Int)), 0, 1)) (
 (aX N r3.2).bind fun q3 => Cs q3 (
 some (0, 0, 0, 0, 0, ([] : List Int), ([] : List (List UInt8)), 0, 0, 0, 0, 0, 0, ([] : List (Int × Int)), 0, 0, 0, 0, 0, 0, 0, 0, 0, 0, 0, 0, ([] : List (Int × Int)), 0, 1)) fun r4 =>
 (aX N r4.2).bind fun q4 => Cs q4 (
 some (0, 0, 0, 0, 0, ([] : List Int), ([] : List (List UInt8)), 0, 0, 0, 0, 0, 0, ([] : List (Int × Int)), 0, 0, 0, 0, 0, 0, 0, 0, 0, 0, 0, 0, ([] : List (Int × Int)), 0, 1)) fun r5 =>
 (aX N r5.2).bind fun q5 => Cs q5 (
 some (0, 0, 0, 0, 0, ([] : List Int), ([] : List (List UInt8)), 0, 0, 0, 0, 0, 0, ([] : List (Int × Int)), 0, 0, 0, 0, 0, 0, 0, 0, 0, 0, 0, 0, ([] : List (Int × Int)), 0, 1)) fun r6 =>
 (aX N r6.2).bind fun q6 => Cs q6 (
 some (0, 0, 0, 0, 0, ([] : List Int), ([] : List (List UInt8)), 0, 0, 0, 0, 0, 0, ([] : List (Int × Int)), 0, 0, 0, 0, 0, 0, 0, 0, 0, 0, 0, 0, ([] : List (Int × Int)), 0, 1)) fun r7 =>
 (aX N r7.2).bind fun q7 => Cs q7 (
 some (0, 0, 0, 0, 0, ([] : List Int), ([] : List (List UInt8)), 0, 0, 0, 0, 0, 0, ([] : List (Int × Int)), 0, 0, 0, 0, 0, 0, 0, 0, 0, 0, 0, 0, ([] : List (Int × Int)), 0, 1)) fun r8 =>
 (aX N r8.2).bind fun q8 => Cs q8 (
 some (0, 0, 0, 0, 0, ([] : List Int), ([] : List (List UInt8)), 0, 0, 0, 0, 0, 0, ([] : List (Int × Int)), 0, 0, 0, 0, 0, 0, 0, 0, 0, 0, 0, 0, ([] : List (Int × Int)), 0, 1)) fun r9 =>
 cond (decide (r9.1 < 0)) (
 some (0, 0, 0, 0, 0, ([] : List Int), ([] : List (List UInt8)), 0, 0, 0, 0, 0, 0, ([] : List (Int × Int)), 0, 0, 0, 0, 0, 0, 0, 0, 0, 0, 0, 0, ([] : List (Int × Int)), 0, 1)) (
 cond (decide ((r9.2.length : Int) < r9.1)) (
 some (0, 0, 0, 0, 0, ([] : List Int), ([] : List (List UInt8)), 0, 0, 0, 0, 0, 0, ([] : List (Int × Int)), 0, 0, 0, 0, 0, 0, 0, 0, 0, 0, 0, 0, ([] : List (Int × Int)), 0, 1)) (
 BL N r9 (fun (l3, Vi, i2) =>
 (aX N Vi).bind fun Ye => Cs Ye (
 some (0, 0, 0, 0, 0, ([] : List Int), ([] : List (List UInt8)), 0, 0, 0, 0, 0, 0, ([] : List (Int × Int)), 0, 0, 0, 0, 0, 0, 0, 0, 0, 0, 0, 0, ([] : List (Int × Int)), 0, 1)) fun rX =>
 cond (decide (rX.1 < 0)) (
 some (0, 0, 0, 0, 0, ([] : List Int), ([] : List (List UInt8)), 0, 0, 0, 0, 0, 0, ([] : List (Int × Int)), 0, 0, 0, 0, 0, 0, 0, 0, 0, 0, 0, 0, ([] : List (Int × Int)), 0, 1)) (
 cond (decide ((rX.2.length : Int) < rX.1)) (
 some (0, 0, 0, 0, 0, ([] : List Int), ([] : List (List UInt8)), 0, 0, 0, 0, 0, 0, ([] : List (Int × Int)), 0, 0, 0, 0, 0, 0, 0, 0, 0, 0, 0, 0, ([] : List (Int × Int)), 0, 1)) (
 BJ N rX (fun (l5, Vj, i4) =>
 (aX N Vj).bind fun q16 => Cs q16 (
 some (0, 0, 0, 0, 0, ([] : List Int), ([] : List (List UInt8)), 0, 0, 0, 0, 0, 0, ([] : List (Int × Int)), 0, 0, 0, 0, 0, 0, 0, 0, 0, 0, 0, 0, ([] : List (Int × Int)), 0, 1)) fun Du =>
 (aX N Du.2).bind fun Yf => Cs Yf (
 some (0, 0, 0, 0, 0, ([] : List Int), ([] : List (List UInt8)), 0, 0, 0, 0, 0, 0, ([] : List (Int × Int)), 0, 0, 0, 0, 0, 0, 0, 0, 0, 0, 0, 0, ([] : List (Int × Int)), 0, 1)) fun B3 =>
 (aX N B3.2).bind fun Yg => Cs Yg (
 some (0, 0, 0, 0, 0, ([] : List Int), ([] : List (List UInt8)), 0, 0, 0, 0, 0, 0, ([] : List (Int × Int)), 0, 0, 0, 0, 0, 0, 0, 0, 0, 0, 0, 0, ([] : List (Int × Int)), 0, 1)) fun EL =>
 (aX N EL.2).bind fun Yh => Cs Yh (
 some (0, 0, 0, 0, 0, ([] : List Int), ([] : List (List UInt8)), 0, 0, 0, 0, 0, 0, ([] : List (Int × Int)), 0, 0, 0, 0, 0, 0, 0, 0, 0, 0, 0, 0, ([] : List (Int × Int)), 0, 1)) fun GD =>
 (aX N GD.2).bind fun Yi => Cs Yi (
 some (0, 0, 0, 0, 0, ([] : List Int), ([] : List (List UInt8)), 0, 0, 0, 0, 0, 0, ([] : List (Int × Int)), 0, 0, 0, 0, 0, 0, 0, 0, 0, 0, 0, 0, ([] : List (Int × Int)), 0, 1)) fun GV =>
 (aX N GV.2).bind fun Yj => Cs Yj (
 some (0, 0, 0, 0, 0, ([] : List Int), ([] : List (List UInt8)), 0, 0, 0, 0, 0, 0, ([] : List (Int × Int)), 0, 0, 0, 0, 0, 0, 0, 0, 0, 0, 0, 0, ([] : List (Int × Int)), 0, 1)) fun Hu =>
 (aX N Hu.2).bind fun q22 => Cs q22 (
 some (0, 0, 0, 0, 0, ([] : List Int), ([] : List (List UInt8)), 0, 0, 0, 0, 0, 0, ([] : List (Int × Int)), 0, 0, 0, 0, 0, 0, 0, 0, 0, 0, 0, 0, ([] : List (Int × Int)), 0, 1)) fun Md =>
 cond (decide (Md.1 < 0)) (
 some (0, 0, 0, 0, 0, ([] : List Int), ([] : List (List UInt8)), 0, 0, 0, 0, 0, 0, ([] : List (Int × Int)), 0, 0, 0, 0, 0, 0, 0, 0, 0, 0, 0, 0, ([] : List (Int × Int)), 0, 1)) (
 cond (decide ((Md.2.length : Int) < Md.1)) (
 some (0, 0, 0, 0, 0, ([] : List Int), ([] : List (List UInt8)), 0, 0, 0, 0, 0, 0, ([] : List (Int × Int)), 0, 0, 0, 0, 0, 0, 0, 0, 0, 0, 0, 0, ([] : List (Int × Int)), 0, 1)) (
 BH N Md (fun (l7, Vk, i6) =>
 (aX N Vk).bind fun Yk => Cs Yk (
 some (0, 0, 0, 0, 0, ([] : List Int), ([] : List (List UInt8)), 0, 0, 0, 0, 0, 0, ([] : List (Int × Int)), 0, 0, 0, 0, 0, 0, 0, 0, 0, 0, 0, 0, ([] : List (Int × Int)), 0, 1)) fun Jw =>
 (aX N Jw.2).bind fun Yl => Cs Yl (
 some (0, 0, 0, 0, 0, ([] : List Int), ([] : List (List UInt8)), 0, 0, 0, 0, 0, 0, ([] : List (Int × Int)), 0, 0, 0, 0, 0, 0, 0, 0, 0, 0, 0, 0, ([] : List (Int × Int)), 0, 1)) fun Kg =>
 (aX N Kg.2).bind fun Ym => Cs Ym (
 some (0, 0, 0, 0, 0, ([] : List Int), ([] : List (List UInt8)), 0, 0, 0, 0, 0, 0, ([] : List (Int × Int)), 0, 0, 0, 0, 0, 0, 0, 0, 0, 0, 0, 0, ([] : List (Int × Int)), 0, 1)) fun r32 =>
 (aX N r32.2).bind fun q32 => Cs q32 (
 some (0, 0, 0, 0, 0, ([] : List Int), ([] : List (List UInt8)), 0, 0, 0, 0, 0, 0, ([] : List (Int × Int)), 0, 0, 0, 0, 0, 0, 0, 0, 0, 0, 0, 0, ([] : List (Int × Int)), 0, 1)) fun LX =>
 (aX N LX.2).bind fun Yn => Cs Yn (
 some (0, 0, 0, 0, 0, ([] : List Int), ([] : List (List UInt8)), 0, 0, 0, 0, 0, 0, ([] : List (Int × Int)), 0, 0, 0, 0, 0, 0, 0, 0, 0, 0, 0, 0, ([] : List (Int × Int)), 0, 1)) fun Me =>
 (aX N Me.2).bind fun Yo => Cs Yo (
 some (0, 0, 0, 0, 0, ([] : List Int), ([] : List (List UInt8)), 0, 0, 0, 0, 0, 0, ([] : List (Int × Int)), 0, 0, 0, 0, 0, 0, 0, 0, 0, 0, 0, 0, ([] : List (Int × Int)), 0, 1)) fun M9 =>
 (aX N M9.2).bind fun Yp => Cs Yp (
 some (0, 0, 0, 0, 0, ([] : List Int), ([] : List (List UInt8)), 0, 0, 0, 0, 0, 0, ([] : List (Int × Int)), 0, 0, 0, 0, 0, 0, 0, 0, 0, 0, 0, 0, ([] : List (Int × Int)), 0, 1)) fun NO =>
 (aX N NO.2).bind fun Yq => Cs Yq (
 some (0, 0, 0, 0, 0, ([] : List Int), ([] : List (List UInt8)), 0, 0, 0, 0, 0, 0, ([] : List (Int × Int)), 0, 0, 0, 0, 0, 0, 0, 0, 0, 0, 0, 0, ([] : List (Int × Int)), 0, 1)) fun Og =>
 (aX N Og.2).bind fun Yr => Cs Yr (
 some (0, 0, 0, 0, 0, ([] : List Int), ([] : List (List UInt8)), 0, 0, 0, 0, 0, 0, ([] : List (Int × Int)), 0, 0, 0, 0, 0, 0, 0, 0, 0, 0, 0, 0, ([] : List (Int × Int)), 0, 1)) fun OR =>
 (aX N OR.2).bind fun Ys => Cs Ys (
 some (0, 0, 0, 0, 0, ([] : List Int), ([] : List (List UInt8)), 0, 0, 0, 0, 0, 0, ([] : List (Int × Int)), 0, 0, 0, 0, 0, 0, 0, 0, 0, 0, 0, 0, ([] : List (Int × Int)), 0, 1)) fun Qi =>
 (aX N Qi.2).bind fun Yt => Cs Yt (
 some (0, 0, 0, 0, 0, ([] : List Int), ([] : List (List UInt8)), 0, 0, 0, 0, 0, 0, ([] : List (Int × Int)), 0, 0, 0, 0, 0, 0, 0, 0, 0, 0, 0, 0, ([] : List (Int × Int)), 0, 1)) fun QK =>
 (aX N QK.2).bind fun Yu => Cs Yu (
 some (0, 0, 0, 0, 0, ([] : List Int), ([] : List (List UInt8)), 0, 0, 0, 0, 0, 0, ([] : List (Int × Int)), 0, 0, 0, 0, 0, 0, 0, 0, 0, 0, 0, 0, ([] : List (Int × Int)), 0, 1)) fun RG =>
 (aX N RG.2).bind fun Yv => Cs Yv (
 some (0, 0, 0, 0, 0, ([] : List Int), ([] : List (List UInt8)), 0, 0, 0, 0, 0, 0, ([] : List (Int × Int)), 0, 0, 0, 0, 0, 0, 0, 0, 0, 0, 0, 0, ([] : List (Int × Int)), 0, 1)) fun OQ =>
 cond (decide (OQ.1 < 0)) (
 some (0, 0, 0, 0, 0, ([] : List Int), ([] : List (List UInt8)), 0, 0, 0, 0, 0, 0, ([] : List (Int × Int)), 0, 0, 0, 0, 0, 0, 0, 0, 0, 0, 0, 0, ([] : List (Int × Int)), 0, 1)) (
 cond (decide ((OQ.2.length : Int) < OQ.1)) (
 some (0, 0, 0, 0, 0, ([] : List Int), ([] : List (List UInt8)), 0, 0, 0, 0, 0, 0, ([] : List (Int × Int)), 0, 0, 0, 0, 0, 0, 0, 0, 0, 0, 0, 0, ([] : List (Int × Int)), 0, 1)) (
 BF N OQ (fun (l9, RH, i8) =>
 (aX N RH).bind fun Yw => Cs Yw (
 some (0, 0, 0, 0, 0, ([] : List Int), ([] : List (List UInt8)), 0, 0, 0, 0, 0, 0, ([] : List (Int × Int)), 0, 0, 0, 0, 0, 0, 0, 0, 0, 0, 0, 0, ([] : List (Int × Int)), 0, 1)) fun UP =>
 cond (!decide (UP.2 = ([] : List UInt8))) (
 some (0, 0, 0, 0, 0, ([] : List Int), ([] : List (List UInt8)), 0, 0, 0, 0, 0, 0, ([] : List (Int × Int)), 0, 0, 0, 0, 0, 0, 0, 0, 0, 0, 0, 0, ([] : List (Int × Int)), 0, 1)) (
 (Bp N r4.1 r5.1 r6.1 r7.1 r8.1 l3 l5 Du.1 B3.1 EL.1 GD.1 GV.1 Hu.1 l7 Jw.1 Kg.1 r32.1 LX.1 Me.1 M9.1 NO.1 Og.1 OR.1 Qi.1 QK.1 RG.1 l9 UP.1).bind fun Zz =>
 cond (!decide (Zz = 0)) (
 some (0, 0, 0, 0, 0, ([] : List Int), ([] : List (List UInt8)), 0, 0, 0, 0, 0, 0, ([] : List (Int × Int)), 0, 0, 0, 0, 0, 0, 0, 0, 0, 0, 0, 0, ([] : List (Int × Int)), 0, 1)) (
 some (r4.1, r5.1, r6.1, r7.1, r8.1, l3, l5, Du.1, B3.1, EL.1, GD.1, GV.1, Hu.1, l7, Jw.1, Kg.1, r32.1, LX.1, Me.1, M9.1, NO.1, Og.1, OR.1, Qi.1, QK.1, RG.1, l9, UP.1, 0)))) N (([] : List (Int × Int)), OQ.2, 0)))) N (([] : List (Int × Int)), Md.2, 0)))) N (([] : List (List UInt8)), rX.2, 0)))) N (([] : List Int), r9.2, 0))))
def sB (N : Nat) (nd : List (Int × Int)) (top rows : Int) (kk : (List (Int × Int) × Int) → Option (Int × Int × Int × Int × Int × Int × List (Int × Int) × Int × Int × Int × Int × Int × Int × Int × Int × Int × Int × Int × Int × List (Int × Int) × Int)) : Nat → (List (Int × Int) × Int) → Option (Int × Int × Int × Int × Int × Int × List (Int × Int) × Int × Int × Int × Int × Int × Int × Int × Int × Int × Int × Int × Int × List (Int × Int) × Int)
 | 0, _ => none
 | fuel + 1, (l3, i) =>
  cond (decide (i < (nd.length : Int))) (
  (idx nd i).bind fun e3 =>
  cond (decide (top ≤ e3.2)) (
  cond (decide (e3.2 < (IntKind.i64.wrap (top + rows)))) (
  (app 16 l3 (([(e3.1, IntKind.i64.wrap (e3.2 - top))] : List (Int × Int)))).bind fun l5 =>
  sB N nd top rows kk fuel (l5, IntKind.i64.wrap (i + 1))) (
  sB N nd top rows kk fuel (l3, IntKind.i64.wrap (i + 1)))) (
  sB N nd top rows kk fuel (l3, IntKind.i64.wrap (i + 1)))) (
  kk (l3, i))
def sC (N : Nat) (nd : List (Int × Int)) (top rows : Int) (kk : (List (Int × Int) × Int) → Option (Int × Int × Int × Int × Int × Int × List (Int × Int) × Int × Int × Int × Int × Int × Int × Int × Int × Int × Int × Int × Int × List (Int × Int) × Int)) : Nat → (List (Int × Int) × Int) → Option (Int × Int × Int × Int × Int × Int × List (Int × Int) × Int × Int × Int × Int × Int × Int × Int × Int × Int × Int × Int × Int × List (Int × Int) × Int)
 | 0, _ => none
 | fuel + 1, (l8, i3) =>
  cond (decide (i3 < (nd.length : Int))) (
  (idx nd i3).bind fun e6 =>
  cond (decide (top ≤ e6.2)) (
  cond (decide (e6.2 < (IntKind.i64.wrap (top + rows)))) (
  (app 16 l8 (([(e6.1, IntKind.i64.wrap (e6.2 - top))] : List (Int × Int)))).bind fun l10 =>
  sC N nd top rows kk fuel (l10, IntKind.i64.wrap (i3 + 1))) (
  sC N nd top rows kk fuel (l8, IntKind.i64.wrap (i3 + 1)))) (
  sC N nd top rows kk fuel (l8, IntKind.i64.wrap (i3 + 1)))) (
  kk (l8, i3))
def Dy (N : Nat) (na nb0 lV lW lX nc : Int) (nd : List (Int × Int)) (lY ne1 mC mD mE mF mG mH mI mJ mK nf8 : Int) (ng : List (Int × Int)) (nh top rows : Int) : Option (Int × Int × Int × Int × Int × Int × List (Int × Int) × Int × Int × Int × Int × Int × Int × Int × Int × Int × Int × Int × Int × List (Int × Int) × Int) :=
 cond (decide ((Int.tmod top 2) = 1)) (
 sB N nd top rows (fun (l6, i2) =>
 some (NE .i64 na 2, lW, lX, nb0, lV, nc, l6, lY, ne1, mC, mD, mE, mF, mG, mH, mI, mJ, mK, nf8, ng, nh)) N (([] : List (Int × Int)), 0)) (
 sC N nd top rows (fun (L9, i4) =>
 some (na, nb0, lV, lW, lX, nc, L9, lY, ne1, mC, mD, mE, mF, mG, mH, mI, mJ, mK, nf8, ng, nh)) N (([] : List (Int × Int)), 0))
def wQ (N : Nat) (gS : List Int) (kk : Int → Option Bool) : Nat → Int → Option Bool
 | 0, _ => none
 | fuel + 1, i =>
  cond (decide (i < (gS.length : Int))) (
  (idx gS i).bind fun e2 =>
  cond (decide (e2 < 0)) (
  some false) (
  cond (decide (65535 < e2)) (
  some false) (
  wQ N gS kk fuel (IntKind.i64.wrap (i + 1))))) (
  kk i)
def xR (N : Nat) (iC jF : Int) (gS : List Int) : Option Bool :=
 cond (decide (iC < 1)) (
 some false) (
 cond (decide (64 < iC)) (
 some false) (
 cond (decide (jF < 1)) (
 some false) (
 cond (decide (64 < jF)) (
 some false) (
 cond (!decide ((gS.length : Int) = (IntKind.i64.wrap (iC * jF)))) (
 some false) (
 wQ N gS (fun i2 =>
 some true) N 0)))))
def wR (N : Nat) (n x2 y LY LZ L0 OS v1 : Int) : Option Int :=
 (inr (EF .i64 (nY .i64 (Fb .i64 y 1) 1) (Fb .i64 x2 1)) 4).bind fun _ =>
 (idx [LY, LZ, L0, OS] (EF .i64 (nY .i64 (Fb .i64 y 1) 1) (Fb .i64 x2 1))).bind fun e =>
 (nz (IntKind.i64.wrap (v1 - e))).bind fun _ =>
 some (IntKind.i64.wrap (Int.tdiv (IntKind.i64.wrap ((max (IntKind.i64.wrap (n - e)) 0) * 65535)) (IntKind.i64.wrap (v1 - e))))
def jU (N : Nat) (iC : Int) (gS : List Int) (uF uG uH uI wS : Int) (kk : (List Int × Int) → Option (Int × Int × List Int)) : Nat → (List Int × Int) → Option (Int × Int × List Int)
 | 0, _ => none
 | fuel + 1, (dV, i) =>
  cond (decide (i < (gS.length : Int))) (
  (idx gS i).bind fun e3 =>
  (nz iC).bind fun _ =>
  (nz iC).bind fun _ =>
  (wR N e3 (Int.tmod i iC) (IntKind.i64.wrap (Int.tdiv i iC)) uF uG uH uI wS).bind fun r3 =>
  (idx dV i).bind fun e4 =>
  (Bg dV i (min r3 65535)).bind fun l4 =>
  jU N iC gS uF uG uH uI wS kk fuel (l4, IntKind.i64.wrap (i + 1))) (
  kk (dV, i))
def nA (N : Nat) (iC jF : Int) (gS : List Int) (uF uG uH uI wS : Int) : Option (Int × Int × List Int) :=
 (some ((gS.length : Int))).bind fun x2 =>
 (mk 8 x2 (0 : Int)).bind fun l2 =>
 jU N iC gS uF uG uH uI wS (fun (kA, i2) =>
 some (iC, jF, kA)) N (l2, 0)
def vT (N : Nat) (yV yW yX yY white : Int) (kk : Int → Option (Int × Int × List Int × Int)) : Nat → Int → Option (Int × Int × List Int × Int)
 | 0, _ => none
 | fuel + 1, i =>
  cond (decide (i < 4)) (
  (idx [yV, yW, yX, yY] i).bind fun e2 =>
  cond (decide (e2 < 0)) (
  some (0, 0, ([] : List Int), 3)) (
  cond (decide (white ≤ e2)) (
  some (0, 0, ([] : List Int), 3)) (
  cond (decide (65535 < white)) (
  some (0, 0, ([] : List Int), 3)) (
  vT N yV yW yX yY white kk fuel (IntKind.i64.wrap (i + 1)))))) (
  kk i)
def AO (N : Nat) (iC jF : Int) (gS : List Int) (yV yW yX yY white : Int) : Option (Int × Int × List Int × Int) :=
 (xR N iC jF gS).bind fun r2 =>
 cond (!(r2)) (
 some (0, 0, ([] : List Int), 1)) (
 vT N yV yW yX yY white (fun i2 =>
 (nA N iC jF gS yV yW yX yY white).bind fun r3 =>
 some (r3.1, r3.2.1, r3.2.2, 0)) N 0)
def vU (N : Nat) (Dj sD sE sF sG Dz : Int) (snd : List (Int × Int)) (sH sI sJ sK sL sM sN sO sP sQ sR sS : Int) (zS : List (Int × Int)) (DA iC jF : Int) (gS : List Int) (d9 fT : Int) (eO : List (Int × Int × Int)) : Option (Int × Int × List Int × Int × Int × List (Int × Int × Int) × Int) :=
 (AO N iC jF gS sD sE sF sG Dz).bind fun r2 =>
 some (r2.1, r2.2.1, r2.2.2.1, d9, fT, eO, r2.2.2.2)
def uJ (N : Nat) (Dj sD sE sF sG Dz : Int) (snd : List (Int × Int)) (sH sI sJ sK sL sM sN sO sP sQ sR sS : Int) (zS : List (Int × Int)) (DA iC jF : Int) (gS : List Int) (d9 fT : Int) (eO : List (Int × Int × Int)) : Option (Int × Int × List Int × Int × Int × List (Int × Int × Int) × Int) :=
 (nI N iC jF gS snd).bind fun r2 =>
 some (r2.1, r2.2.1, r2.2.2.1, d9, fT, eO, r2.2.2.2)
def yZ (N : Nat) (n x2 y LY LZ L0 v1 : Int) : Option Int :=
 (tZ N v1 x2 y).bind fun r2 =>
 (inr r2 3).bind fun _ =>
 (idx [LY, LZ, L0] r2).bind fun e =>
 some (jR .i64 (IntKind.i64.wrap (n * e)) 8)
def j1 (N : Nat) (iC : Int) (gS : List Int) (wT wU wV AP : Int) (kk : (List Int × Int) → Option (Int × Int × List Int)) : Nat → (List Int × Int) → Option (Int × Int × List Int)
 | 0, _ => none
 | fuel + 1, (dV, i) =>
  cond (decide (i < (gS.length : Int))) (
  (idx gS i).bind fun e3 =>
  (nz iC).bind fun _ =>
  (nz iC).bind fun _ =>
  (yZ N e3 (Int.tmod i iC) (IntKind.i64.wrap (Int.tdiv i iC)) wT wU wV AP).bind fun r3 =>
  (idx dV i).bind fun e4 =>
  (Bg dV i (min r3 65535)).bind fun l4 =>
  j1 N iC gS wT wU wV AP kk fuel (l4, IntKind.i64.wrap (i + 1))) (
  kk (dV, i))
def nM (N : Nat) (iC jF : Int) (gS : List Int) (wT wU wV AP : Int) : Option (Int × Int × List Int) :=
 (some ((gS.length : Int))).bind fun x2 =>
 (mk 8 x2 (0 : Int)).bind fun l2 =>
 j1 N iC gS wT wU wV AP (fun (kA, i2) =>
 some (iC, jF, kA)) N (l2, 0)
def wW (N : Nat) (phase y6 y7 y8 : Int) (kk : Int → Option (Int × Int × List Int × Int)) : Nat → Int → Option (Int × Int × List Int × Int)
 | 0, _ => none
 | fuel + 1, i =>
  cond (decide (i < 3)) (
  (idx [y6, y7, y8] i).bind fun e2 =>
  cond (decide (e2 < 0)) (
  some (0, 0, ([] : List Int), 3)) (
  cond (decide (65535 < e2)) (
  some (0, 0, ([] : List Int), 3)) (
  cond (decide (phase < 0)) (
  some (0, 0, ([] : List Int), 3)) (
  cond (decide (3 < phase)) (
  some (0, 0, ([] : List Int), 3)) (
  wW N phase y6 y7 y8 kk fuel (IntKind.i64.wrap (i + 1))))))) (
  kk i)
def BM (N : Nat) (iC jF : Int) (gS : List Int) (phase y6 y7 y8 : Int) : Option (Int × Int × List Int × Int) :=
 (xR N iC jF gS).bind fun r2 =>
 cond (!(r2)) (
 some (0, 0, ([] : List Int), 1)) (
 wW N phase y6 y7 y8 (fun i2 =>
 (nM N iC jF gS y6 y7 y8 phase).bind fun r3 =>
 some (r3.1, r3.2.1, r3.2.2, 0)) N 0)
def wX (N : Nat) (Dj sD sE sF sG Dz : Int) (snd : List (Int × Int)) (sH sI sJ sK sL sM sN sO sP sQ sR sS : Int) (zS : List (Int × Int)) (DA iC jF : Int) (gS : List Int) (d9 fT : Int) (eO : List (Int × Int × Int)) : Option (Int × Int × List Int × Int × Int × List (Int × Int × Int) × Int) :=
 (BM N iC jF gS Dj sH sI sJ).bind fun r2 =>
 some (r2.1, r2.2.1, r2.2.2.1, d9, fT, eO, r2.2.2.2)
def oB (N : Nat) (iA : Int) (jT : List Int) (o u v AQ AR AS D0 D1 D2 : Int) : Option (Int × Int × Int × Int × Int × Int) :=
 (nJ N o u v).bind fun r3 =>
 cond (decide (r3.1 = 0)) (
 (idx jT (IntKind.i64.wrap ((IntKind.i64.wrap (v * iA)) + u))).bind fun e4 =>
 cond (decide (r3.1 = 0)) (
 some (IntKind.i64.wrap (AQ + 1), AR, AS, IntKind.i64.wrap (D0 + e4), D1, D2)) (
 cond (decide (r3.1 = 1)) (
 some (AQ, IntKind.i64.wrap (AR + 1), AS, IntKind.i64.wrap (D0 + e4), D1, D2)) (
 some (AQ, AR, IntKind.i64.wrap (AS + 1), IntKind.i64.wrap (D0 + e4), D1, D2)))) (
 cond (decide (r3.1 = 1)) (
 (idx jT (IntKind.i64.wrap ((IntKind.i64.wrap (v * iA)) + u))).bind fun e5 =>
 cond (decide (r3.1 = 0)) (
 some (IntKind.i64.wrap (AQ + 1), AR, AS, D0, IntKind.i64.wrap (D1 + e5), D2)) (
 cond (decide (r3.1 = 1)) (
 some (AQ, IntKind.i64.wrap (AR + 1), AS, D0, IntKind.i64.wrap (D1 + e5), D2)) (
 some (AQ, AR, IntKind.i64.wrap (AS + 1), D0, IntKind.i64.wrap (D1 + e5), D2)))) (
 (idx jT (IntKind.i64.wrap ((IntKind.i64.wrap (v * iA)) + u))).bind fun e6 =>
 cond (decide (r3.1 = 0)) (
 some (IntKind.i64.wrap (AQ + 1), AR, AS, D0, D1, IntKind.i64.wrap (D2 + e6))) (
 cond (decide (r3.1 = 1)) (
 some (AQ, IntKind.i64.wrap (AR + 1), AS, D0, D1, IntKind.i64.wrap (D2 + e6))) (
 some (AQ, AR, IntKind.i64.wrap (AS + 1), D0, D1, IntKind.i64.wrap (D2 + e6))))))
def iE (N : Nat) (iA : Int) (jT : List Int) (o : Int) (s : Int × Int × Int × Int × Int × Int) (q : Int × Int) : Int × Int × Int × Int × Int × Int := (oB N iA jT o q.1 q.2 s.1 s.2.1 s.2.2.1 s.2.2.2.1 s.2.2.2.2.1 s.2.2.2.2.2).getD s
theorem iU {W H : Int} (N : Nat) (iA : Int) (jT : List Int) (o : Int) (pre : List (QF W H)) (q : QF W H) {s r : Int × Int × Int × Int × Int × Int} (hs : List.foldl (iE N iA jT o) (0, 0, 0, 0, 0, 0) (pre.map (·.1)) = s) (hr : oB N iA jT o q.1.1 q.1.2 s.1 s.2.1 s.2.2.1 s.2.2.2.1 s.2.2.2.2.1 s.2.2.2.2.2 = some r) : List.foldl (iE N iA jT o) (0, 0, 0, 0, 0, 0) ((pre ++ [q]).map (·.1)) = r := by
 rw [List.map_append, List.foldl_append, hs];show (oB N iA jT o q.1.1 q.1.2 s.1 s.2.1 s.2.2.1 s.2.2.2.1 s.2.2.2.2.1 s.2.2.2.2.2).getD s = r;rw [hr]; rfl
def gA (N : Nat) (AQ AR AS : Int) (kk : (Int × Int × Int × Int) → Option (Int × Int × Int)) : Nat → (Int × Int × Int × Int) → Option (Int × Int × Int)
 | 0, _ => none
 | fuel + 1, (qX, qY, qZ, i) =>
  cond (decide (i < 3)) (
  cond (decide (i = 0)) (
  cond (decide (0 < AQ)) (
  cond (decide (i = 0)) (
  (nz AQ).bind fun _ =>
  gA N AQ AR AS kk fuel (IntKind.i64.wrap (Int.tdiv qX AQ), qY, qZ, IntKind.i64.wrap (i + 1))) (
  cond (decide (i = 1)) (
  (nz AQ).bind fun _ =>
  gA N AQ AR AS kk fuel (qX, IntKind.i64.wrap (Int.tdiv qY AQ), qZ, IntKind.i64.wrap (i + 1))) (
  (nz AQ).bind fun _ =>
  gA N AQ AR AS kk fuel (qX, qY, IntKind.i64.wrap (Int.tdiv qZ AQ), IntKind.i64.wrap (i + 1))))) (
  gA N AQ AR AS kk fuel (qX, qY, qZ, IntKind.i64.wrap (i + 1)))) (
  cond (decide (i = 1)) (
  cond (decide (0 < AR)) (
  cond (decide (i = 0)) (
  (nz AR).bind fun _ =>
  gA N AQ AR AS kk fuel (IntKind.i64.wrap (Int.tdiv qX AR), qY, qZ, IntKind.i64.wrap (i + 1))) (
  cond (decide (i = 1)) (
  (nz AR).bind fun _ =>
  gA N AQ AR AS kk fuel (qX, IntKind.i64.wrap (Int.tdiv qY AR), qZ, IntKind.i64.wrap (i + 1))) (
  (nz AR).bind fun _ =>
  gA N AQ AR AS kk fuel (qX, qY, IntKind.i64.wrap (Int.tdiv qZ AR), IntKind.i64.wrap (i + 1))))) (
  gA N AQ AR AS kk fuel (qX, qY, qZ, IntKind.i64.wrap (i + 1)))) (
  cond (decide (0 < AS)) (
  cond (decide (i = 0)) (
  (nz AS).bind fun _ =>
  gA N AQ AR AS kk fuel (IntKind.i64.wrap (Int.tdiv qX AS), qY, qZ, IntKind.i64.wrap (i + 1))) (
  cond (decide (i = 1)) (
  (nz AS).bind fun _ =>
  gA N AQ AR AS kk fuel (qX, IntKind.i64.wrap (Int.tdiv qY AS), qZ, IntKind.i64.wrap (i + 1))) (
  (nz AS).bind fun _ =>
  gA N AQ AR AS kk fuel (qX, qY, IntKind.i64.wrap (Int.tdiv qZ AS), IntKind.i64.wrap (i + 1))))) (
  gA N AQ AR AS kk fuel (qX, qY, qZ, IntKind.i64.wrap (i + 1)))))) (
  kk (qX, qY, qZ, i))
def Ca (N : Nat) (iA : Int) (jT : List Int) (o p2 p3 : Int) : Int × Int × Int × Int × Int × Int → Option (Int × Int × Int)
 | (AQ, AR, AS, D0, D1, D2) =>
  gA N AQ AR AS (fun (Jy, Jz, JA, i2) =>
  (nJ N o p2 p3).bind fun r4 =>
  cond (decide (r4.1 = 0)) (
  (idx jT (IntKind.i64.wrap ((IntKind.i64.wrap (p3 * iA)) + p2))).bind fun e7 =>
  some (e7, Jz, JA)) (
  cond (decide (r4.1 = 1)) (
  (idx jT (IntKind.i64.wrap ((IntKind.i64.wrap (p3 * iA)) + p2))).bind fun e8 =>
  some (Jy, e8, JA)) (
  (idx jT (IntKind.i64.wrap ((IntKind.i64.wrap (p3 * iA)) + p2))).bind fun e9 =>
  some (Jy, Jz, e9)))) N (D0, D1, D2, 0)
def AT (N : Nat) (iA kW : Int) (jT : List Int) (o p2 p3 : Int) : Option (Int × Int × Int) :=
 cond (decide (OL iA kW jT p2 p3)) (Ca N iA jT o p2 p3 (List.foldl (iE N iA jT o) (0, 0, 0, 0, 0, 0) (tX iA kW p2 p3))) none
def wY (N : Nat) (iC jF : Int) (gS : List Int) (phase i : Int) (kk : (List (Int × Int × Int) × Int) → Option (Int × Int × List (Int × Int × Int) × Int)) : Nat → (List (Int × Int × Int) × Int) → Option (Int × Int × List (Int × Int × Int) × Int)
 | 0, _ => none
 | fuel + 1, (mU, i3) =>
  cond (decide (i3 < iC)) (
  (AT N iC jF gS phase i3 i).bind fun r5 =>
  (app 24 mU (([(r5.1, r5.2.1, r5.2.2)] : List (Int × Int × Int)))).bind fun EI =>
  wY N iC jF gS phase i kk fuel (EI, IntKind.i64.wrap (i3 + 1))) (
  kk (mU, i3))
def wZ (N : Nat) (iC jF : Int) (gS : List Int) (phase : Int) (kk : (List (Int × Int × Int) × Int) → Option (Int × Int × List (Int × Int × Int) × Int)) : Nat → (List (Int × Int × Int) × Int) → Option (Int × Int × List (Int × Int × Int) × Int)
 | 0, _ => none
 | fuel + 1, (dV, i) =>
  cond (decide (i < jF)) (
  wY N iC jF gS phase i (fun (EJ, i4) =>
  wZ N iC jF gS phase kk fuel (EJ, IntKind.i64.wrap (i + 1))) N (dV, 0)) (
  kk (dV, i))
def BN (N : Nat) (iC jF : Int) (gS : List Int) (phase : Int) : Option (Int × Int × List (Int × Int × Int) × Int) :=
 (nI N iC jF gS (([] : List (Int × Int)))).bind fun r2 =>
 cond (!decide (r2.2.2.2 = 0)) (
 some (0, 0, ([] : List (Int × Int × Int)), r2.2.2.2)) (
 cond (decide (phase < 0)) (
 some (0, 0, ([] : List (Int × Int × Int)), 3)) (
 cond (decide (3 < phase)) (
 some (0, 0, ([] : List (Int × Int × Int)), 3)) (
 wZ N iC jF gS phase (fun (Cx, i5) =>
 some (iC, jF, Cx, 0)) N (([] : List (Int × Int × Int)), 0))))
def w5 (N : Nat) (Dj sD sE sF sG Dz : Int) (snd : List (Int × Int)) (sH sI sJ sK sL sM sN sO sP sQ sR sS : Int) (zS : List (Int × Int)) (DA iC jF : Int) (gS : List Int) (d9 fT : Int) (eO : List (Int × Int × Int)) : Option (Int × Int × List Int × Int × Int × List (Int × Int × Int) × Int) :=
 (BN N iC jF gS Dj).bind fun r2 =>
 some (iC, jF, gS, r2.1, r2.2.1, r2.2.2.1, r2.2.2.2)
def zT (N : Nat) (n : Int) : Option Int :=
 some (max 0 (min n 65535))
def vV (N : Nat) (Ip Iq Ir k LY LZ L0 OS UQ UR US UT UU : Int) : Option Int :=
 (inr k 9).bind fun _ =>
 (idx [LY, LZ, L0, OS, UQ, UR, US, UT, UU] k).bind fun e =>
 (inr (IntKind.i64.wrap (k + 1)) 9).bind fun _ =>
 (idx [LY, LZ, L0, OS, UQ, UR, US, UT, UU] (IntKind.i64.wrap (k + 1))).bind fun e2 =>
 (inr (IntKind.i64.wrap (k + 2)) 9).bind fun _ =>
 (idx [LY, LZ, L0, OS, UQ, UR, US, UT, UU] (IntKind.i64.wrap (k + 2))).bind fun e3 =>
 (zT N (jR .i64 (IntKind.i64.wrap ((IntKind.i64.wrap ((IntKind.i64.wrap (e * Ip)) + (IntKind.i64.wrap (e2 * Iq)))) + (IntKind.i64.wrap (e3 * Ir)))) 12)).bind fun r2 =>
 some r2
def CF (N : Nat) (Ip Iq Ir x2 y I2 I3 I4 I5 I6 I7 I8 I9 Ja : Int) : Option (Int × Int × Int) :=
 (vV N Ip Iq Ir 0 I2 I3 I4 I5 I6 I7 I8 I9 Ja).bind fun r2 =>
 (vV N Ip Iq Ir 3 I2 I3 I4 I5 I6 I7 I8 I9 Ja).bind fun r3 =>
 (vV N Ip Iq Ir 6 I2 I3 I4 I5 I6 I7 I8 I9 Ja).bind fun r4 =>
 some (r2, r3, r4)
def lR (N : Nat) (d9 : Int) (eO : List (Int × Int × Int)) (uK uL uM uN uO uP uQ uR uS : Int) (kk : (List (Int × Int × Int) × Int) → Option (Int × Int × List (Int × Int × Int) × Int)) : Nat → (List (Int × Int × Int) × Int) → Option (Int × Int × List (Int × Int × Int) × Int)
 | 0, _ => none
 | fuel + 1, (dV, i) =>
  cond (decide (i < (eO.length : Int))) (
  (idx eO i).bind fun e3 =>
  (nz d9).bind fun _ =>
  (nz d9).bind fun _ =>
  (CF N e3.1 e3.2.1 e3.2.2 (Int.tmod i d9) (IntKind.i64.wrap (Int.tdiv i d9)) uK uL uM uN uO uP uQ uR uS).bind fun r4 =>
  (idx dV i).bind fun e4 =>
  (Bg dV i (r4.1, r4.2.1, r4.2.2)).bind fun l4 =>
  lR N d9 eO uK uL uM uN uO uP uQ uR uS kk fuel (l4, IntKind.i64.wrap (i + 1))) (
  kk (dV, i))
def pX (N : Nat) (d9 fT : Int) (eO : List (Int × Int × Int)) (uK uL uM uN uO uP uQ uR uS : Int) : Option (Int × Int × List (Int × Int × Int) × Int) :=
 (lP N d9 fT eO 0).bind fun r2 =>
 cond (!decide (r2.2.2.2 = 0)) (
 some (0, 0, ([] : List (Int × Int × Int)), r2.2.2.2)) (
 (some ((eO.length : Int))).bind fun x2 =>
 (mk 24 x2 ((0, 0, 0) : Int × Int × Int)).bind fun l2 =>
 lR N d9 eO uK uL uM uN uO uP uQ uR uS (fun (kA, i2) =>
 some (d9, fT, kA, 0)) N (l2, 0))
def tS (N : Nat) (m0 m1 m2 m3 m4 m5 m6 m7 m8 : Int) (kk : (Bool × Int) → Option (Int × Int × List (Int × Int × Int) × Int)) : Nat → (Bool × Int) → Option (Int × Int × List (Int × Int × Int) × Int)
 | 0, _ => none
 | fuel + 1, (fine, i) =>
  cond (decide (i < 9)) (
  (idx [m0, m1, m2, m3, m4, m5, m6, m7, m8] i).bind fun e2 =>
  cond (fine) (
  cond (decide ((-32768) ≤ e2)) (
  tS N m0 m1 m2 m3 m4 m5 m6 m7 m8 kk fuel (decide (e2 ≤ 32768), IntKind.i64.wrap (i + 1))) (
  tS N m0 m1 m2 m3 m4 m5 m6 m7 m8 kk fuel (false, IntKind.i64.wrap (i + 1)))) (
  tS N m0 m1 m2 m3 m4 m5 m6 m7 m8 kk fuel (false, IntKind.i64.wrap (i + 1)))) (
  kk (fine, i))
def EO (N : Nat) (d9 fT : Int) (eO : List (Int × Int × Int)) (m0 m1 m2 m3 m4 m5 m6 m7 m8 : Int) : Option (Int × Int × List (Int × Int × Int) × Int) :=
 tS N m0 m1 m2 m3 m4 m5 m6 m7 m8 (fun (RJ, i2) =>
 (pX N d9 fT eO m0 m1 m2 m3 m4 m5 m6 m7 m8).bind fun r2 =>
 cond (decide (r2.2.2.2 = 0)) (
 cond (!(RJ)) (
 some (0, 0, ([] : List (Int × Int × Int)), 3)) (
 some (r2.1, r2.2.1, r2.2.2.1, r2.2.2.2))) (
 some (r2.1, r2.2.1, r2.2.2.1, r2.2.2.2))) N (true, 0)
def y9 (N : Nat) (Dj sD sE sF sG Dz : Int) (snd : List (Int × Int)) (sH sI sJ sK sL sM sN sO sP sQ sR sS : Int) (zS : List (Int × Int)) (DA iC jF : Int) (gS : List Int) (d9 fT : Int) (eO : List (Int × Int × Int)) : Option (Int × Int × List Int × Int × Int × List (Int × Int × Int) × Int) :=
 (EO N d9 fT eO sK sL sM sN sO sP sQ sR sS).bind fun r2 =>
 some (iC, jF, gS, r2.1, r2.2.1, r2.2.2.1, r2.2.2.2)
def BO (N : Nat) (Ip Iq Ir x2 y : Int) (v0 : List (Int × Int)) : Option (Int × Int × Int) :=
 (Aa N v0 Ip).bind fun r2 =>
 (Aa N v0 Iq).bind fun r3 =>
 (Aa N v0 Ir).bind fun r4 =>
 some (r2, r3, r4)
def lJ (N : Nat) (d9 : Int) (eO : List (Int × Int × Int)) (vW : List (Int × Int)) (kk : (List (Int × Int × Int) × Int) → Option (Int × Int × List (Int × Int × Int) × Int)) : Nat → (List (Int × Int × Int) × Int) → Option (Int × Int × List (Int × Int × Int) × Int)
 | 0, _ => none
 | fuel + 1, (dV, i) =>
  cond (decide (i < (eO.length : Int))) (
  (idx eO i).bind fun e3 =>
  (nz d9).bind fun _ =>
  (nz d9).bind fun _ =>
  (BO N e3.1 e3.2.1 e3.2.2 (Int.tmod i d9) (IntKind.i64.wrap (Int.tdiv i d9)) vW).bind fun r4 =>
  (idx dV i).bind fun e4 =>
  (Bg dV i (r4.1, r4.2.1, r4.2.2)).bind fun l4 =>
  lJ N d9 eO vW kk fuel (l4, IntKind.i64.wrap (i + 1))) (
  kk (dV, i))
def pG (N : Nat) (d9 fT : Int) (eO : List (Int × Int × Int)) (vW : List (Int × Int)) : Option (Int × Int × List (Int × Int × Int) × Int) :=
 (lP N d9 fT eO 0).bind fun r2 =>
 cond (!decide (r2.2.2.2 = 0)) (
 some (0, 0, ([] : List (Int × Int × Int)), r2.2.2.2)) (
 (some ((eO.length : Int))).bind fun x2 =>
 (mk 24 x2 ((0, 0, 0) : Int × Int × Int)).bind fun l2 =>
 lJ N d9 eO vW (fun (kA, i2) =>
 some (d9, fT, kA, 0)) N (l2, 0))
def DB (N : Nat) (d9 fT : Int) (eO : List (Int × Int × Int)) (l2 : List (Int × Int)) : Option (Int × Int × List (Int × Int × Int) × Int) :=
 (zO N l2).bind fun r2 =>
 cond (!(r2)) (
 some (0, 0, ([] : List (Int × Int × Int)), 1)) (
 (pG N d9 fT eO l2).bind fun r3 =>
 some (r3.1, r3.2.1, r3.2.2.1, r3.2.2.2))
def w6 (N : Nat) (Dj sD sE sF sG Dz : Int) (snd : List (Int × Int)) (sH sI sJ sK sL sM sN sO sP sQ sR sS : Int) (zS : List (Int × Int)) (DA iC jF : Int) (gS : List Int) (d9 fT : Int) (eO : List (Int × Int × Int)) : Option (Int × Int × List Int × Int × Int × List (Int × Int × Int) × Int) :=
 (DB N d9 fT eO zS).bind fun r2 =>
 some (iC, jF, gS, r2.1, r2.2.1, r2.2.2.1, r2.2.2.2)
def pY (N : Nat) (v QL v0 : Int) : Option Int :=
 (zT N (IntKind.i64.wrap (v + (jR .i64 (IntKind.i64.wrap ((IntKind.i64.wrap (v - (jR .i64 QL 4))) * v0)) 8)))).bind fun r2 =>
 some r2
def tH (N : Nat) (o p2 tE wG : Int) (vB : List (Int × Int × Int)) (i : Int) (kk : (Int × Int × Int × Int) → Option (Int × Int × Int)) : Nat → (Int × Int × Int × Int) → Option (Int × Int × Int)
 | 0, _ => none
 | fuel + 1, (qX, qY, qZ, i3) =>
  cond (decide (i3 ≤ 1)) (
  (some (IntKind.i64.wrap ((IntKind.i64.wrap ((min (max (IntKind.i64.wrap (p2 + i)) 0) (IntKind.i64.wrap (wG - 1))) * tE)) + (min (max (IntKind.i64.wrap (o + i3)) 0) (IntKind.i64.wrap (tE - 1)))))).bind fun x9 =>
  (idx vB x9).bind fun e3 =>
  (some (IntKind.i64.wrap ((IntKind.i64.wrap (2 - (IntKind.i64.wrap (i3 * i3)))) * (IntKind.i64.wrap (2 - (IntKind.i64.wrap (i * i))))))).bind fun x10 =>
  (some (IntKind.i64.wrap (i3 + 1))).bind fun Yx =>
  tH N o p2 tE wG vB i kk fuel (IntKind.i64.wrap (qX + (IntKind.i64.wrap (x10 * e3.1))), IntKind.i64.wrap (qY + (IntKind.i64.wrap (x10 * e3.2.1))), IntKind.i64.wrap (qZ + (IntKind.i64.wrap (x10 * e3.2.2))), Yx)) (
  kk (qX, qY, qZ, i3))
def tI (N : Nat) (o p2 tE wG : Int) (vB : List (Int × Int × Int)) (kk : (Int × Int × Int × Int) → Option (Int × Int × Int)) : Nat → (Int × Int × Int × Int) → Option (Int × Int × Int)
 | 0, _ => none
 | fuel + 1, (AQ, AR, AS, i) =>
  cond (decide (i ≤ 1)) (
  tH N o p2 tE wG vB i (fun (Jy, Jz, JA, i4) =>
  (some (IntKind.i64.wrap (i + 1))).bind fun Dc =>
  tI N o p2 tE wG vB kk fuel (Jy, Jz, JA, Dc)) N (AQ, AR, AS, (-1))) (
  kk (AQ, AR, AS, i))
def w7 (N : Nat) (RK RL RM o p2 tE wG : Int) (vB : List (Int × Int × Int)) (NP : Int) : Option (Int × Int × Int) :=
 tI N o p2 tE wG vB (fun (TB, TC, TD, i5) =>
 (pY N RK TB NP).bind fun r2 =>
 (pY N RL TC NP).bind fun r3 =>
 (pY N RM TD NP).bind fun r4 =>
 some (r2, r3, r4)) N (0, 0, 0, (-1))
def kN (N : Nat) (d9 : Int) (eO : List (Int × Int × Int)) (pH pI : Int) (mY : List (Int × Int × Int)) (pJ : Int) (kk : (List (Int × Int × Int) × Int) → Option (Int × Int × List (Int × Int × Int) × Int)) : Nat → (List (Int × Int × Int) × Int) → Option (Int × Int × List (Int × Int × Int) × Int)
 | 0, _ => none
 | fuel + 1, (dV, i) =>
  cond (decide (i < (eO.length : Int))) (
  (idx eO i).bind fun e3 =>
  (nz d9).bind fun _ =>
  (nz d9).bind fun _ =>
  (w7 N e3.1 e3.2.1 e3.2.2 (Int.tmod i d9) (IntKind.i64.wrap (Int.tdiv i d9)) pH pI mY pJ).bind fun r4 =>
  (idx dV i).bind fun e4 =>
  (Bg dV i (r4.1, r4.2.1, r4.2.2)).bind fun l4 =>
  kN N d9 eO pH pI mY pJ kk fuel (l4, IntKind.i64.wrap (i + 1))) (
  kk (dV, i))
def nT (N : Nat) (d9 fT : Int) (eO : List (Int × Int × Int)) (pH pI : Int) (mY : List (Int × Int × Int)) (pJ : Int) : Option (Int × Int × List (Int × Int × Int) × Int) :=
 (lP N d9 fT eO 0).bind fun r2 =>
 cond (!decide (r2.2.2.2 = 0)) (
 some (0, 0, ([] : List (Int × Int × Int)), r2.2.2.2)) (
 (some ((eO.length : Int))).bind fun x2 =>
 (mk 24 x2 ((0, 0, 0) : Int × Int × Int)).bind fun l2 =>
 kN N d9 eO pH pI mY pJ (fun (kA, i2) =>
 some (d9, fT, kA, 0)) N (l2, 0))
def AU (N : Nat) (d9 fT : Int) (eO : List (Int × Int × Int)) (amount : Int) : Option (Int × Int × List (Int × Int × Int) × Int) :=
 (nT N d9 fT eO d9 fT eO amount).bind fun r2 =>
 cond (decide (r2.2.2.2 = 0)) (
 cond (decide (amount < 0)) (
 some (0, 0, ([] : List (Int × Int × Int)), 3)) (
 cond (decide (1024 < amount)) (
 some (0, 0, ([] : List (Int × Int × Int)), 3)) (
 some (r2.1, r2.2.1, r2.2.2.1, r2.2.2.2)))) (
 some (r2.1, r2.2.1, r2.2.2.1, r2.2.2.2))
def tJ (N : Nat) (Dj sD sE sF sG Dz : Int) (snd : List (Int × Int)) (sH sI sJ sK sL sM sN sO sP sQ sR sS : Int) (zS : List (Int × Int)) (DA iC jF : Int) (gS : List Int) (d9 fT : Int) (eO : List (Int × Int × Int)) : Option (Int × Int × List Int × Int × Int × List (Int × Int × Int) × Int) :=
 (AU N d9 fT eO DA).bind fun r2 =>
 some (iC, jF, gS, r2.1, r2.2.1, r2.2.2.1, r2.2.2.2)
def CG (N : Nat) (na nb0 lV lW lX nc : Int) (nd : List (Int × Int)) (lY ne1 mC mD mE mF mG mH mI mJ mK nf8 : Int) (ng : List (Int × Int)) (nh iC jF : Int) (gS : List Int) : Option (Int × Int × List (Int × Int × Int) × Int) :=
 (tA N na nb0 lV lW lX nc nd lY ne1 mC mD mE mF mG mH mI mJ mK nf8 ng nh).bind fun r2 =>
 cond (!decide (r2 = 0)) (
 some (0, 0, ([] : List (Int × Int × Int)), r2)) (
 (vU N na nb0 lV lW lX nc nd lY ne1 mC mD mE mF mG mH mI mJ mK nf8 ng nh iC jF gS 0 0 (([] : List (Int × Int × Int)))).bind fun r3 =>
 cond (!decide (r3.2.2.2.2.2.2 = 0)) (
 some (0, 0, ([] : List (Int × Int × Int)), r3.2.2.2.2.2.2)) (
 (uJ N na nb0 lV lW lX nc nd lY ne1 mC mD mE mF mG mH mI mJ mK nf8 ng nh r3.1 r3.2.1 r3.2.2.1 r3.2.2.2.1 r3.2.2.2.2.1 (([] : List (Int × Int × Int)))).bind fun r4 =>
 cond (!decide (r4.2.2.2.2.2.2 = 0)) (
 some (0, 0, ([] : List (Int × Int × Int)), r4.2.2.2.2.2.2)) (
 (wX N na nb0 lV lW lX nc nd lY ne1 mC mD mE mF mG mH mI mJ mK nf8 ng nh r4.1 r4.2.1 r4.2.2.1 r4.2.2.2.1 r4.2.2.2.2.1 (([] : List (Int × Int × Int)))).bind fun r5 =>
 cond (!decide (r5.2.2.2.2.2.2 = 0)) (
 some (0, 0, ([] : List (Int × Int × Int)), r5.2.2.2.2.2.2)) (
 (w5 N na nb0 lV lW lX nc nd lY ne1 mC mD mE mF mG mH mI mJ mK nf8 ng nh r5.1 r5.2.1 r5.2.2.1 r5.2.2.2.1 r5.2.2.2.2.1 (([] : List (Int × Int × Int)))).bind fun r6 =>
 cond (!decide (r6.2.2.2.2.2.2 = 0)) (
 some (0, 0, ([] : List (Int × Int × Int)), r6.2.2.2.2.2.2)) (
 (y9 N na nb0 lV lW lX nc nd lY ne1 mC mD mE mF mG mH mI mJ mK nf8 ng nh r6.1 r6.2.1 r5.2.2.1 r6.2.2.2.1 r6.2.2.2.2.1 r6.2.2.2.2.2.1).bind fun r7 =>
 cond (!decide (r7.2.2.2.2.2.2 = 0)) (
 some (0, 0, ([] : List (Int × Int × Int)), r7.2.2.2.2.2.2)) (
 (w6 N na nb0 lV lW lX nc nd lY ne1 mC mD mE mF mG mH mI mJ mK nf8 ng nh r7.1 r7.2.1 r5.2.2.1 r7.2.2.2.1 r7.2.2.2.2.1 r7.2.2.2.2.2.1).bind fun r8 =>
 cond (!decide (r8.2.2.2.2.2.2 = 0)) (
 some (0, 0, ([] : List (Int × Int × Int)), r8.2.2.2.2.2.2)) (
 (tJ N na nb0 lV lW lX nc nd lY ne1 mC mD mE mF mG mH mI mJ mK nf8 ng nh r8.1 r8.2.1 r5.2.2.1 r8.2.2.2.1 r8.2.2.2.2.1 r8.2.2.2.2.2.1).bind fun r9 =>
 cond (!decide (r9.2.2.2.2.2.2 = 0)) (
 some (0, 0, ([] : List (Int × Int × Int)), r9.2.2.2.2.2.2)) (
 some (r9.2.2.2.1, r9.2.2.2.2.1, r9.2.2.2.2.2.1, 0)))))))))
def k6 (N : Nat) (s : List (Int × Int × Int)) : Option (List (Int × Int × Int)) :=
 (app 24 (([] : List (Int × Int × Int))) s).bind fun l2 =>
 some l2
def DC (N : Nat) (da KC KD KE KF dc : Int) (dd : List (Int × Int)) (KG KH KI KJ KK df2 KL KN KO KQ KS KT : Int) (dg : List (Int × Int)) (dh qB tF : Int) (B4 : List Int) (p2 p3 p4 p5 : Int) : Option (Int × Int × List (Int × Int × Int) × Int) :=
 (tA N da KC KD KE KF dc dd KG KH KI KJ KK df2 KL KN KO KQ KS KT dg dh).bind fun r2 =>
 cond (!decide (r2 = 0)) (
 some (0, 0, ([] : List (Int × Int × Int)), r2)) (
 (nI N qB tF B4 (([] : List (Int × Int)))).bind fun r3 =>
 cond (!decide (r3.2.2.2 = 0)) (
 some (0, 0, ([] : List (Int × Int × Int)), r3.2.2.2)) (
 (nE N 1 64 ([p3] : List Int)).bind fun r4 =>
 cond (!(r4)) (
 some (0, 0, ([] : List (Int × Int × Int)), 3)) (
 (nE N 0 (IntKind.i64.wrap (p3 - tF)) ([p2] : List Int)).bind fun r5 =>
 cond (!(r5)) (
 some (0, 0, ([] : List (Int × Int × Int)), 3)) (
 (nE N 0 (IntKind.i64.wrap (p3 - 1)) ([p4] : List Int)).bind fun r6 =>
 cond (!(r6)) (
 some (0, 0, ([] : List (Int × Int × Int)), 3)) (
 (nE N (IntKind.i64.wrap (p4 + 1)) p3 ([p5] : List Int)).bind fun r7 =>
 cond (!(r7)) (
 some (0, 0, ([] : List (Int × Int × Int)), 3)) (
 cond (decide ((max (IntKind.i64.wrap (p4 - 4)) 0) < p2)) (
 some (0, 0, ([] : List (Int × Int × Int)), 3)) (
 cond (decide ((IntKind.i64.wrap (p2 + tF)) < (min (IntKind.i64.wrap (p5 + 4)) p3))) (
 some (0, 0, ([] : List (Int × Int × Int)), 3)) (
 (zN N dd qB p3).bind fun r8 =>
 cond (!(r8)) (
 some (0, 0, ([] : List (Int × Int × Int)), 3)) (
 (Dy N da KC KD KE KF dc dd KG KH KI KJ KK df2 KL KN KO KQ KS KT dg dh p2 tF).bind fun r9 =>
 (CG N r9.1 r9.2.1 r9.2.2.1 r9.2.2.2.1 r9.2.2.2.2.1 r9.2.2.2.2.2.1 r9.2.2.2.2.2.2.1 r9.2.2.2.2.2.2.2.1 r9.2.2.2.2.2.2.2.2.1 r9.2.2.2.2.2.2.2.2.2.1 r9.2.2.2.2.2.2.2.2.2.2.1 r9.2.2.2.2.2.2.2.2.2.2.2.1 r9.2.2.2.2.2.2.2.2.2.2.2.2.1 r9.2.2.2.2.2.2.2.2.2.2.2.2.2.1 r9.2.2.2.2.2.2.2.2.2.2.2.2.2.2.1 r9.2.2.2.2.2.2.2.2.2.2.2.2.2.2.2.1 r9.2.2.2.2.2.2.2.2.2.2.2.2.2.2.2.2.1 r9.2.2.2.2.2.2.2.2.2.2.2.2.2.2.2.2.2.1 r9.2.2.2.2.2.2.2.2.2.2.2.2.2.2.2.2.2.2.1 dg r9.2.2.2.2.2.2.2.2.2.2.2.2.2.2.2.2.2.2.2.2 qB tF B4).bind fun EM =>
 cond (!decide (EM.2.2.2 = 0)) (
 some (0, 0, ([] : List (Int × Int × Int)), EM.2.2.2)) (
 (Di EM.2.2.1 (IntKind.i64.wrap ((IntKind.i64.wrap (p4 - p2)) * EM.1)) (IntKind.i64.wrap ((IntKind.i64.wrap (p5 - p2)) * EM.1))).bind fun l2 =>
 (k6 N l2).bind fun Dd =>
 some (EM.1, IntKind.i64.wrap (p5 - p4), Dd, 0)))))))))))
def w8 (N : Nat) (da KC KD KE KF dc : Int) (dd : List (Int × Int)) (KG KH KI KJ KK df2 KL KN KO KQ KS KT : Int) (dg : List (Int × Int)) (dh qB tF : Int) (B4 : List Int) (p2 : Int) (kk : (List (Int × Int × Int) × Int) → Option (Int × Int × List (Int × Int × Int) × Int)) : Nat → (List (Int × Int × Int) × Int) → Option (Int × Int × List (Int × Int × Int) × Int)
 | 0, _ => none
 | fuel + 1, (zH, i) =>
  cond (decide (i < tF)) (
  (some (IntKind.i64.wrap (i + (min p2 (IntKind.i64.wrap (tF - i)))))).bind fun x5 =>
  (some (max (IntKind.i64.wrap (i - 4)) 0)).bind fun x6 =>
  (some (min (IntKind.i64.wrap (x5 + 4)) tF)).bind fun x7 =>
  (Di B4 (IntKind.i64.wrap (x6 * qB)) (IntKind.i64.wrap (x7 * qB))).bind fun l3 =>
  (DC N da KC KD KE KF dc dd KG KH KI KJ KK df2 KL KN KO KQ KS KT dg dh qB (IntKind.i64.wrap (x7 - x6)) l3 x6 tF i x5).bind fun r6 =>
  cond (!decide (r6.2.2.2 = 0)) (
  some (0, 0, ([] : List (Int × Int × Int)), r6.2.2.2)) (
  (app 24 zH r6.2.2.1).bind fun Bz =>
  w8 N da KC KD KE KF dc dd KG KH KI KJ KK df2 KL KN KO KQ KS KT dg dh qB tF B4 p2 kk fuel (Bz, x5))) (
  kk (zH, i))
def BP (N : Nat) (da KC KD KE KF dc : Int) (dd : List (Int × Int)) (KG KH KI KJ KK df2 KL KN KO KQ KS KT : Int) (dg : List (Int × Int)) (dh qB tF : Int) (B4 : List Int) (p2 : Int) : Option (Int × Int × List (Int × Int × Int) × Int) :=
 (tA N da KC KD KE KF dc dd KG KH KI KJ KK df2 KL KN KO KQ KS KT dg dh).bind fun r2 =>
 cond (!decide (r2 = 0)) (
 some (0, 0, ([] : List (Int × Int × Int)), r2)) (
 (nI N qB tF B4 dd).bind fun r3 =>
 cond (!decide (r3.2.2.2 = 0)) (
 some (0, 0, ([] : List (Int × Int × Int)), r3.2.2.2)) (
 cond (decide (p2 < 1)) (
 some (0, 0, ([] : List (Int × Int × Int)), 3)) (
 w8 N da KC KD KE KF dc dd KG KH KI KJ KK df2 KL KN KO KQ KS KT dg dh qB tF B4 p2 (fun (TE, i2) =>
 some (qB, tF, TE, 0)) N (([] : List (Int × Int × Int)), 0))))
def BQ (N : Nat) (iA : Int) (jT : List (Int × Int × Int)) (NQ Oh qB tF : Int) (kk : (List (Int × Int × Int) × Int) → Option (Int × Int × List (Int × Int × Int) × Int)) : Nat → (List (Int × Int × Int) × Int) → Option (Int × Int × List (Int × Int × Int) × Int)
 | 0, _ => none
 | fuel + 1, (zH, i) =>
  cond (decide (i < tF)) (
  (some (IntKind.i64.wrap ((IntKind.i64.wrap ((IntKind.i64.wrap (Oh + i)) * iA)) + NQ))).bind fun x3 =>
  (Di jT x3 (IntKind.i64.wrap (x3 + qB))).bind fun l3 =>
  (app 24 zH l3).bind fun s1 =>
  BQ N iA jT NQ Oh qB tF kk fuel (s1, IntKind.i64.wrap (i + 1))) (
  kk (zH, i))
def EP (N : Nat) (iA kW : Int) (jT : List (Int × Int × Int)) (NQ Oh qB tF : Int) : Option (Int × Int × List (Int × Int × Int) × Int) :=
 (lP N iA kW jT 0).bind fun r2 =>
 cond (!decide (r2.2.2.2 = 0)) (
 some (0, 0, ([] : List (Int × Int × Int)), r2.2.2.2)) (
 cond (decide (qB < 1)) (
 some (0, 0, ([] : List (Int × Int × Int)), 3)) (
 cond (decide (tF < 1)) (
 some (0, 0, ([] : List (Int × Int × Int)), 3)) (
 cond (decide (iA < qB)) (
 some (0, 0, ([] : List (Int × Int × Int)), 3)) (
 cond (decide (kW < tF)) (
 some (0, 0, ([] : List (Int × Int × Int)), 3)) (
 cond (decide (NQ < 0)) (
 some (0, 0, ([] : List (Int × Int × Int)), 3)) (
 cond (decide (Oh < 0)) (
 some (0, 0, ([] : List (Int × Int × Int)), 3)) (
 cond (decide ((IntKind.i64.wrap (iA - qB)) < NQ)) (
 some (0, 0, ([] : List (Int × Int × Int)), 3)) (
 cond (decide ((IntKind.i64.wrap (kW - tF)) < Oh)) (
 some (0, 0, ([] : List (Int × Int × Int)), 3)) (
 BQ N iA jT NQ Oh qB tF (fun (Bz, i2) =>
 some (qB, tF, Bz, 0)) N (([] : List (Int × Int × Int)), 0))))))))))
def CH (N : Nat)  : Option (Bool × Bool × Bool × Bool × Bool × Bool × Bool × Bool × Bool × Bool × Bool × Bool × Bool × Bool × Bool × Bool × Bool × Bool × Bool × Bool × Bool × Bool × Bool × Bool × Bool × Bool × Bool) :=
 some (false, false, false, false, false, false, false, true, false, false, true, true, false, false, true, true, false, false, true, true, false, true, true, true, true, false, true)
def rH (N : Nat) (d9 fT : Int) (eO : List (Int × Int × Int)) (kk : (List (Int × Int × Int) × Int) → Option (Int × Int × List (Int × Int × Int))) : Nat → (List (Int × Int × Int) × Int) → Option (Int × Int × List (Int × Int × Int))
 | 0, _ => none
 | fuel + 1, (dV, i) =>
  cond (decide (i < (eO.length : Int))) (
  (idx eO i).bind fun e3 =>
  (nz d9).bind fun _ =>
  (nz d9).bind fun _ =>
  (idx dV (IntKind.i64.wrap ((IntKind.i64.wrap ((Int.tmod i d9) * fT)) + (IntKind.i64.wrap (Int.tdiv i d9))))).bind fun e4 =>
  (Bg dV (IntKind.i64.wrap ((IntKind.i64.wrap ((Int.tmod i d9) * fT)) + (IntKind.i64.wrap (Int.tdiv i d9)))) (e3.1, e3.2.1, e3.2.2)).bind fun l4 =>
  rH N d9 fT eO kk fuel (l4, IntKind.i64.wrap (i + 1))) (
  kk (dV, i))
def AV (N : Nat) (d9 fT : Int) (eO : List (Int × Int × Int)) : Option (Int × Int × List (Int × Int × Int)) :=
 (some ((eO.length : Int))).bind fun x2 =>
 (mk 24 x2 ((0, 0, 0) : Int × Int × Int)).bind fun l2 =>
 rH N d9 fT eO (fun (kA, i2) =>
 some (fT, d9, kA)) N (l2, 0)
def BR (N : Nat) (x2 y tE wG : Int) (vB : List (Int × Int × Int)) : Option Int :=
 some (IntKind.i64.wrap ((IntKind.i64.wrap ((IntKind.i64.wrap ((IntKind.i64.wrap (y * tE)) + tE)) - 1)) - x2))
def kO (N : Nat) (d9 : Int) (eO : List (Int × Int × Int)) (uT uU : Int) (qG : List (Int × Int × Int)) (kk : (List (Int × Int × Int) × Int) → Option (Int × Int × List (Int × Int × Int))) : Nat → (List (Int × Int × Int) × Int) → Option (Int × Int × List (Int × Int × Int))
 | 0, _ => none
 | fuel + 1, (dV, i) =>
  cond (decide (i < (eO.length : Int))) (
  (idx eO i).bind fun e3 =>
  (nz d9).bind fun _ =>
  (nz d9).bind fun _ =>
  (BR N (Int.tmod i d9) (IntKind.i64.wrap (Int.tdiv i d9)) uT uU qG).bind fun r3 =>
  (idx dV r3).bind fun e4 =>
  (Bg dV r3 (e3.1, e3.2.1, e3.2.2)).bind fun l4 =>
  kO N d9 eO uT uU qG kk fuel (l4, IntKind.i64.wrap (i + 1))) (
  kk (dV, i))
def lK (N : Nat) (d9 fT : Int) (eO : List (Int × Int × Int)) (uT uU : Int) (qG : List (Int × Int × Int)) : Option (Int × Int × List (Int × Int × Int)) :=
 (some ((eO.length : Int))).bind fun x2 =>
 (mk 24 x2 ((0, 0, 0) : Int × Int × Int)).bind fun l2 =>
 kO N d9 eO uT uU qG (fun (kA, i2) =>
 some (d9, fT, kA)) N (l2, 0)
def BS (N : Nat) (x2 y tE wG : Int) (vB : List (Int × Int × Int)) : Option Int :=
 some (IntKind.i64.wrap ((IntKind.i64.wrap ((IntKind.i64.wrap ((IntKind.i64.wrap (wG - 1)) - y)) * tE)) + x2))
def kQ (N : Nat) (d9 : Int) (eO : List (Int × Int × Int)) (uV uW : Int) (qH : List (Int × Int × Int)) (kk : (List (Int × Int × Int) × Int) → Option (Int × Int × List (Int × Int × Int))) : Nat → (List (Int × Int × Int) × Int) → Option (Int × Int × List (Int × Int × Int))
 | 0, _ => none
 | fuel + 1, (dV, i) =>
  cond (decide (i < (eO.length : Int))) (
  (idx eO i).bind fun e3 =>
  (nz d9).bind fun _ =>
  (nz d9).bind fun _ =>
  (BS N (Int.tmod i d9) (IntKind.i64.wrap (Int.tdiv i d9)) uV uW qH).bind fun r3 =>
  (idx dV r3).bind fun e4 =>
  (Bg dV r3 (e3.1, e3.2.1, e3.2.2)).bind fun l4 =>
  kQ N d9 eO uV uW qH kk fuel (l4, IntKind.i64.wrap (i + 1))) (
  kk (dV, i))
def iM (N : Nat) (d9 fT : Int) (eO : List (Int × Int × Int)) (uV uW : Int) (qH : List (Int × Int × Int)) : Option (Int × Int × List (Int × Int × Int)) :=
 (some ((eO.length : Int))).bind fun x2 =>
 (mk 24 x2 ((0, 0, 0) : Int × Int × Int)).bind fun l2 =>
 kQ N d9 eO uV uW qH (fun (kA, i2) =>
 some (d9, fT, kA)) N (l2, 0)
def BT (N : Nat) (x2 y tE wG : Int) (vB : List (Int × Int × Int)) : Option Int :=
 some (IntKind.i64.wrap ((IntKind.i64.wrap (y * tE)) + x2))
def kR (N : Nat) (d9 : Int) (eO : List (Int × Int × Int)) (uX uY : Int) (qI : List (Int × Int × Int)) (kk : (List (Int × Int × Int) × Int) → Option (Int × Int × List (Int × Int × Int))) : Nat → (List (Int × Int × Int) × Int) → Option (Int × Int × List (Int × Int × Int))
 | 0, _ => none
 | fuel + 1, (dV, i) =>
  cond (decide (i < (eO.length : Int))) (
  (idx eO i).bind fun e3 =>
  (nz d9).bind fun _ =>
  (nz d9).bind fun _ =>
  (BT N (Int.tmod i d9) (IntKind.i64.wrap (Int.tdiv i d9)) uX uY qI).bind fun r3 =>
  (idx dV r3).bind fun e4 =>
  (Bg dV r3 (e3.1, e3.2.1, e3.2.2)).bind fun l4 =>
  kR N d9 eO uX uY qI kk fuel (l4, IntKind.i64.wrap (i + 1))) (
  kk (dV, i))
def eN (N : Nat) (d9 fT : Int) (eO : List (Int × Int × Int)) (uX uY : Int) (qI : List (Int × Int × Int)) : Option (Int × Int × List (Int × Int × Int)) :=
 (some ((eO.length : Int))).bind fun x2 =>
 (mk 24 x2 ((0, 0, 0) : Int × Int × Int)).bind fun l2 =>
 kR N d9 eO uX uY qI (fun (kA, i2) =>
 some (d9, fT, kA)) N (l2, 0)
def xU (N : Nat) (d9 fT : Int) (eO : List (Int × Int × Int)) (how : Int) : Option (Int × Int × List (Int × Int × Int) × Int) :=
 (lP N d9 fT eO 0).bind fun r2 =>
 cond (!decide (r2.2.2.2 = 0)) (
 some (0, 0, ([] : List (Int × Int × Int)), r2.2.2.2)) (
 cond (decide (how < 1)) (
 some (0, 0, ([] : List (Int × Int × Int)), 3)) (
 cond (decide (8 < how)) (
 some (0, 0, ([] : List (Int × Int × Int)), 3)) (
 (CH N ).bind fun r3 =>
 (idx [(r3.1, r3.2.1, r3.2.2.1), (r3.2.2.2.1, r3.2.2.2.2.1, r3.2.2.2.2.2.1), (r3.2.2.2.2.2.2.1, r3.2.2.2.2.2.2.2.1, r3.2.2.2.2.2.2.2.2.1), (r3.2.2.2.2.2.2.2.2.2.1, r3.2.2.2.2.2.2.2.2.2.2.1, r3.2.2.2.2.2.2.2.2.2.2.2.1), (r3.2.2.2.2.2.2.2.2.2.2.2.2.1, r3.2.2.2.2.2.2.2.2.2.2.2.2.2.1, r3.2.2.2.2.2.2.2.2.2.2.2.2.2.2.1), (r3.2.2.2.2.2.2.2.2.2.2.2.2.2.2.2.1, r3.2.2.2.2.2.2.2.2.2.2.2.2.2.2.2.2.1, r3.2.2.2.2.2.2.2.2.2.2.2.2.2.2.2.2.2.1), (r3.2.2.2.2.2.2.2.2.2.2.2.2.2.2.2.2.2.2.1, r3.2.2.2.2.2.2.2.2.2.2.2.2.2.2.2.2.2.2.2.1, r3.2.2.2.2.2.2.2.2.2.2.2.2.2.2.2.2.2.2.2.2.1), (r3.2.2.2.2.2.2.2.2.2.2.2.2.2.2.2.2.2.2.2.2.2.1, r3.2.2.2.2.2.2.2.2.2.2.2.2.2.2.2.2.2.2.2.2.2.2.1, r3.2.2.2.2.2.2.2.2.2.2.2.2.2.2.2.2.2.2.2.2.2.2.2.1), (r3.2.2.2.2.2.2.2.2.2.2.2.2.2.2.2.2.2.2.2.2.2.2.2.2.1, r3.2.2.2.2.2.2.2.2.2.2.2.2.2.2.2.2.2.2.2.2.2.2.2.2.2.1, r3.2.2.2.2.2.2.2.2.2.2.2.2.2.2.2.2.2.2.2.2.2.2.2.2.2.2)] how).bind fun e =>
 cond (e.1) (
 (AV N d9 fT eO).bind fun r4 =>
 cond (e.2.1) (
 (lK N r4.1 r4.2.1 r4.2.2 r4.1 r4.2.1 r4.2.2).bind fun r5 =>
 cond (e.2.2) (
 (iM N r5.1 r5.2.1 r5.2.2 r5.1 r5.2.1 r5.2.2).bind fun r6 =>
 (eN N r6.1 r6.2.1 r6.2.2 r6.1 r6.2.1 r6.2.2).bind fun r7 =>
 some (r7.1, r7.2.1, r7.2.2, 0)) (
 (eN N r5.1 r5.2.1 r5.2.2 r5.1 r5.2.1 r5.2.2).bind fun r8 =>
 some (r8.1, r8.2.1, r8.2.2, 0))) (
 cond (e.2.2) (
 (iM N r4.1 r4.2.1 r4.2.2 r4.1 r4.2.1 r4.2.2).bind fun r9 =>
 (eN N r9.1 r9.2.1 r9.2.2 r9.1 r9.2.1 r9.2.2).bind fun EM =>
 some (EM.1, EM.2.1, EM.2.2, 0)) (
 (eN N r4.1 r4.2.1 r4.2.2 r4.1 r4.2.1 r4.2.2).bind fun Dd =>
 some (Dd.1, Dd.2.1, Dd.2.2, 0)))) (
 cond (e.2.1) (
 (lK N d9 fT eO d9 fT eO).bind fun rX =>
 cond (e.2.2) (
 (iM N rX.1 rX.2.1 rX.2.2 rX.1 rX.2.1 rX.2.2).bind fun AE =>
 (eN N AE.1 AE.2.1 AE.2.2 AE.1 AE.2.1 AE.2.2).bind fun Js =>
 some (Js.1, Js.2.1, Js.2.2, 0)) (
 (eN N rX.1 rX.2.1 rX.2.2 rX.1 rX.2.1 rX.2.2).bind fun De =>
 some (De.1, De.2.1, De.2.2, 0))) (
 cond (e.2.2) (
 (iM N d9 fT eO d9 fT eO).bind fun r16 =>
 (eN N r16.1 r16.2.1 r16.2.2 r16.1 r16.2.1 r16.2.2).bind fun Du =>
 some (Du.1, Du.2.1, Du.2.2, 0)) (
 (eN N d9 fT eO d9 fT eO).bind fun B3 =>
 some (B3.1, B3.2.1, B3.2.2, 0)))))))
def AW (N : Nat) (d : List UInt8) (Hw DR DS DT DU EQ : Int) (BU : Bool) : Option (List UInt8 × Int) :=
 (EN N d).bind fun r2 =>
 cond (!decide (r2.2.2.2.2.2.2.2.2.2.2.2.2.2.2.2.2.2.2.2.2.2.2.2.2.2.2.2.2 = 0)) (
 some (([] : List UInt8), r2.2.2.2.2.2.2.2.2.2.2.2.2.2.2.2.2.2.2.2.2.2.2.2.2.2.2.2.2)) (
 (Bn N r2.1 r2.2.1 r2.2.2.1 r2.2.2.2.1 r2.2.2.2.2.1 r2.2.2.2.2.2.1 r2.2.2.2.2.2.2.1 r2.2.2.2.2.2.2.2.1 r2.2.2.2.2.2.2.2.2.1 r2.2.2.2.2.2.2.2.2.2.1 r2.2.2.2.2.2.2.2.2.2.2.1 r2.2.2.2.2.2.2.2.2.2.2.2.1 r2.2.2.2.2.2.2.2.2.2.2.2.2.1 r2.2.2.2.2.2.2.2.2.2.2.2.2.2.1 r2.2.2.2.2.2.2.2.2.2.2.2.2.2.2.1 r2.2.2.2.2.2.2.2.2.2.2.2.2.2.2.2.1 r2.2.2.2.2.2.2.2.2.2.2.2.2.2.2.2.2.1 r2.2.2.2.2.2.2.2.2.2.2.2.2.2.2.2.2.2.1 r2.2.2.2.2.2.2.2.2.2.2.2.2.2.2.2.2.2.2.1 r2.2.2.2.2.2.2.2.2.2.2.2.2.2.2.2.2.2.2.2.1 r2.2.2.2.2.2.2.2.2.2.2.2.2.2.2.2.2.2.2.2.2.1 r2.2.2.2.2.2.2.2.2.2.2.2.2.2.2.2.2.2.2.2.2.2.1 r2.2.2.2.2.2.2.2.2.2.2.2.2.2.2.2.2.2.2.2.2.2.2.1 r2.2.2.2.2.2.2.2.2.2.2.2.2.2.2.2.2.2.2.2.2.2.2.2.1 r2.2.2.2.2.2.2.2.2.2.2.2.2.2.2.2.2.2.2.2.2.2.2.2.2.1 r2.2.2.2.2.2.2.2.2.2.2.2.2.2.2.2.2.2.2.2.2.2.2.2.2.2.1 r2.2.2.2.2.2.2.2.2.2.2.2.2.2.2.2.2.2.2.2.2.2.2.2.2.2.2.1 r2.2.2.2.2.2.2.2.2.2.2.2.2.2.2.2.2.2.2.2.2.2.2.2.2.2.2.2.1).bind fun r3 =>
 (BP N r2.2.2.2.2.2.2.2.1 r2.2.2.2.2.2.2.2.2.1 r2.2.2.2.2.2.2.2.2.2.1 r2.2.2.2.2.2.2.2.2.2.2.1 r2.2.2.2.2.2.2.2.2.2.2.2.1 r2.2.2.2.2.2.2.2.2.2.2.2.2.1 r2.2.2.2.2.2.2.2.2.2.2.2.2.2.1 r2.2.2.2.2.2.2.2.2.2.2.2.2.2.2.1 r2.2.2.2.2.2.2.2.2.2.2.2.2.2.2.2.1 r2.2.2.2.2.2.2.2.2.2.2.2.2.2.2.2.2.1 r2.2.2.2.2.2.2.2.2.2.2.2.2.2.2.2.2.2.1 r2.2.2.2.2.2.2.2.2.2.2.2.2.2.2.2.2.2.2.1 r2.2.2.2.2.2.2.2.2.2.2.2.2.2.2.2.2.2.2.2.1 r2.2.2.2.2.2.2.2.2.2.2.2.2.2.2.2.2.2.2.2.2.1 r2.2.2.2.2.2.2.2.2.2.2.2.2.2.2.2.2.2.2.2.2.2.1 r2.2.2.2.2.2.2.2.2.2.2.2.2.2.2.2.2.2.2.2.2.2.2.1 r2.2.2.2.2.2.2.2.2.2.2.2.2.2.2.2.2.2.2.2.2.2.2.2.1 r2.2.2.2.2.2.2.2.2.2.2.2.2.2.2.2.2.2.2.2.2.2.2.2.2.1 r2.2.2.2.2.2.2.2.2.2.2.2.2.2.2.2.2.2.2.2.2.2.2.2.2.2.1 r2.2.2.2.2.2.2.2.2.2.2.2.2.2.2.2.2.2.2.2.2.2.2.2.2.2.2.1 r2.2.2.2.2.2.2.2.2.2.2.2.2.2.2.2.2.2.2.2.2.2.2.2.2.2.2.2.1 r3.1 r3.2.1 r3.2.2.1 Hw).bind fun r4 =>
 cond (decide (r4.2.2.2 = 0)) (
 cond (!(decide (DR = 0) && decide (DS = 0) && decide (DT = 0) && decide (DU = 0))) (
 (EP N r4.1 r4.2.1 r4.2.2.1 DR DS DT DU).bind fun r5 =>
 cond (decide (r5.2.2.2 = 0)) (
 (xU N r5.1 r5.2.1 r5.2.2.1 EQ).bind fun r6 =>
 cond (!decide (r6.2.2.2 = 0)) (
 some (([] : List UInt8), r6.2.2.2)) (
 (iT N r6.1 r6.2.1 r6.2.2.1 BU).bind fun r7 =>
 some (r7.1, r7.2))) (
 cond (!decide (r5.2.2.2 = 0)) (
 some (([] : List UInt8), r5.2.2.2)) (
 (iT N r5.1 r5.2.1 r5.2.2.1 BU).bind fun r8 =>
 some (r8.1, r8.2)))) (
 cond (decide (r4.2.2.2 = 0)) (
 (xU N r4.1 r4.2.1 r4.2.2.1 EQ).bind fun r9 =>
 cond (!decide (r9.2.2.2 = 0)) (
 some (([] : List UInt8), r9.2.2.2)) (
 (iT N r9.1 r9.2.1 r9.2.2.1 BU).bind fun EM =>
 some (EM.1, EM.2))) (
 cond (!decide (r4.2.2.2 = 0)) (
 some (([] : List UInt8), r4.2.2.2)) (
 (iT N r4.1 r4.2.1 r4.2.2.1 BU).bind fun Dd =>
 some (Dd.1, Dd.2))))) (
 cond (decide (r4.2.2.2 = 0)) (
 (xU N r4.1 r4.2.1 r4.2.2.1 EQ).bind fun rX =>
 cond (!decide (rX.2.2.2 = 0)) (
 some (([] : List UInt8), rX.2.2.2)) (
 (iT N rX.1 rX.2.1 rX.2.2.1 BU).bind fun AE =>
 some (AE.1, AE.2))) (
 cond (!decide (r4.2.2.2 = 0)) (
 some (([] : List UInt8), r4.2.2.2)) (
 (iT N r4.1 r4.2.1 r4.2.2.1 BU).bind fun Js =>
 some (Js.1, Js.2)))))
def gH (N : Nat)  : Option Bool :=
 (iT N 1 1 (([(258, 1, 65535)] : List (Int × Int × Int))) true).bind fun r2 =>
 (iT N 1 1 (([(258, 1, 65535)] : List (Int × Int × Int))) false).bind fun r3 =>
 (kY N r2.1).bind fun r4 =>
 (tG N ).bind fun r5 =>
 (Dx N r5.1 r5.2.1 r5.2.2.1 r5.2.2.2.1 r5.2.2.2.2.1 r5.2.2.2.2.2.1 r5.2.2.2.2.2.2.1 r5.2.2.2.2.2.2.2.1 r5.2.2.2.2.2.2.2.2.1 r5.2.2.2.2.2.2.2.2.2.1 r5.2.2.2.2.2.2.2.2.2.2.1 r5.2.2.2.2.2.2.2.2.2.2.2.1 r5.2.2.2.2.2.2.2.2.2.2.2.2.1 r5.2.2.2.2.2.2.2.2.2.2.2.2.2.1 r5.2.2.2.2.2.2.2.2.2.2.2.2.2.2.1 r5.2.2.2.2.2.2.2.2.2.2.2.2.2.2.2.1 r5.2.2.2.2.2.2.2.2.2.2.2.2.2.2.2.2.1 r5.2.2.2.2.2.2.2.2.2.2.2.2.2.2.2.2.2.1 r5.2.2.2.2.2.2.2.2.2.2.2.2.2.2.2.2.2.2.1 r5.2.2.2.2.2.2.2.2.2.2.2.2.2.2.2.2.2.2.2.1 r5.2.2.2.2.2.2.2.2.2.2.2.2.2.2.2.2.2.2.2.2.1 r5.2.2.2.2.2.2.2.2.2.2.2.2.2.2.2.2.2.2.2.2.2.1 r5.2.2.2.2.2.2.2.2.2.2.2.2.2.2.2.2.2.2.2.2.2.2.1 r5.2.2.2.2.2.2.2.2.2.2.2.2.2.2.2.2.2.2.2.2.2.2.2.1 r5.2.2.2.2.2.2.2.2.2.2.2.2.2.2.2.2.2.2.2.2.2.2.2.2.1 r5.2.2.2.2.2.2.2.2.2.2.2.2.2.2.2.2.2.2.2.2.2.2.2.2.2.1 r5.2.2.2.2.2.2.2.2.2.2.2.2.2.2.2.2.2.2.2.2.2.2.2.2.2.2.1 r5.2.2.2.2.2.2.2.2.2.2.2.2.2.2.2.2.2.2.2.2.2.2.2.2.2.2.2).bind fun r6 =>
 (AW N r6.1 1 0 0 0 0 1 false).bind fun r7 =>
 cond (decide (r2.2 = 0)) (
 cond (decide (r3.2 = 0)) (
 cond (decide (r4.2.2.2.2 = 0)) (
 cond (decide (r6.2 = 0)) (
 cond (decide (r7.2 = 0)) (
 cond (decide (r2.1 = ([80, 54, 10, 49, 32, 49, 10, 54, 53, 53, 51, 53, 10, 1, 2, 0, 1, 255, 255] : List UInt8))) (
 cond (decide (r3.1 = ([80, 54, 10, 49, 32, 49, 10, 50, 53, 53, 10, 1, 0, 255] : List UInt8))) (
 cond (r4.2.2.2.1) (
 (iL N r4.1 r4.2.1 r4.2.2.1 1 1 (([(258, 1, 65535)] : List (Int × Int × Int)))).bind fun r8 =>
 cond (r8) (
 some (decide ((r7.1.length : Int) = 23))) (
 some false)) (
 some false)) (
 some false)) (
 some false)) (
 some false)) (
 some false)) (
 some false)) (
 some false)) (
 some false)
def nF (N : Nat) (iA kW : Int) (jT : List (Int × Int × Int)) (o : List UInt8) : Option Bool :=
 (iT N iA kW jT true).bind fun r2 =>
 cond (decide (r2.2 = 0)) (
 (kY N r2.1).bind fun r3 =>
 cond (!decide (r3.2.2.2.2 = 0)) (
 some false) (
 cond (!(r3.2.2.2.1)) (
 some false) (
 (iL N r3.1 r3.2.1 r3.2.2.1 iA kW jT).bind fun r4 =>
 cond (!(r4)) (
 some false) (
 (kY N o).bind fun r5 =>
 cond (!decide (r5.2.2.2.2 = 0)) (
 (gH N ).bind fun r6 =>
 some r6) (
 (iT N r5.1 r5.2.1 r5.2.2.1 r5.2.2.2.1).bind fun r7 =>
 (gH N ).bind fun r8 =>
 cond (r8) (
 cond (decide (r7.2 = 0)) (
 some (decide (r7.1 = o))) (
 some false)) (
 some false)))))) (
 (kY N o).bind fun r9 =>
 cond (!decide (r9.2.2.2.2 = 0)) (
 (gH N ).bind fun EM =>
 some EM) (
 (iT N r9.1 r9.2.1 r9.2.2.1 r9.2.2.2.1).bind fun Dd =>
 (gH N ).bind fun rX =>
 cond (rX) (
 cond (decide (Dd.2 = 0)) (
 some (decide (Dd.1 = o))) (
 some false)) (
 some false)))
end
section
open Go
theorem Ha {x : Int} (h : -9223372036854775808 ≤ x ∧ x ≤ 9223372036854775807) : IntKind.i64.wrap x = x := IntWalk.i64_in x h
theorem DV {α : Type} (xs : List α) (k : Nat) : idx xs (k : Int) = xs[k]? := by simp [idx]
theorem Hx {α : Type} {xs : List α} {p q : Int} (h : 0 ≤ p ∧ p ≤ q ∧ q ≤ xs.length) : Di xs p q = some ((xs.take q.toNat).drop p.toNat) := by unfold Di; rw [if_pos h]
theorem JB {α : Type} {b : Nat} {xs ys : List α} (h : (xs.length + ys.length) * b ≤ 140737488355328) : app b xs ys = some (xs ++ ys) := by unfold app; rw [if_pos h]
theorem Vl {n : Int} (h : n ≠ 0) : nz n = some () := by unfold nz; rw [if_neg h]
theorem eI {α β : Type} (x : α) (f : α → Option β) : Option.bind (some x) f = f x := rfl
theorem cT {α : Type} {b : Bool} (h : b = true) (x y : α) : cond b x y = x := by rw [h]; rfl
theorem cF {α : Type} {b : Bool} (h : b = false) (x y : α) : cond b x y = y := by rw [h]; rfl
theorem dT {p : Prop} [Decidable p] (h : p) : decide p = true := decide_eq_true h
theorem dF {p : Prop} [Decidable p] (h : ¬ p) : decide p = false := decide_eq_false h
def Fi (p : Int × Int × Int) : Bool := decide (0 ≤ p.1 ∧ p.1 ≤ 65535 ∧ 0 ≤ p.2.1 ∧ p.2.1 ≤ 65535 ∧ 0 ≤ p.2.2 ∧ p.2.2 ≤ 65535)
def AX (W H : Int) (n : Nat) : Prop := 1 ≤ W ∧ W ≤ 64 ∧ 1 ≤ H ∧ H ≤ 64 ∧ (n : Int) = W * H
instance (W H : Int) (n : Nat) : Decidable (AX W H n) := by unfold AX; infer_instance
def D3 (W H : Int) (P : List (Int × Int × Int)) : Bool := decide (AX W H P.length) && P.all Fi
theorem OT {W H : Int} (h : 1 ≤ W ∧ W ≤ 64 ∧ 1 ≤ H ∧ H ≤ 64) : 1 ≤ W * H ∧ W * H ≤ 4096 := by
 obtain ⟨h1, h2, h3, h4⟩ := h;have a := Int.mul_le_mul h2 h4 (by omega) (by omega);have b := Int.mul_le_mul h1 h3 (by omega) (by omega)
 omega
theorem Hy {W H : Int} {n : Nat} (h : AX W H n) : n ≤ 4096 ∧ 1 ≤ n := by
 obtain ⟨h1, h2, h3, h4, h5⟩ := h;have := OT ⟨h1, h2, h3, h4⟩
 omega
theorem DW {W H : Int} {P : List (Int × Int × Int)} (h : D3 W H P = true) : AX W H P.length := by
 simp only [D3, Bool.and_eq_true, decide_eq_true_eq] at h; exact h.1
abbrev Px := Int × Int × Int
def pre {α : Type} (W : Nat) (f : Nat → Nat → α) (n : Nat) : List α := (List.range n).map fun k => f (k % W) (k / W)
theorem QM (N : Nat) (P : List (Int × Int × Int)) (kk : Int → Option Bool) (hP : P.length ≤ 4096) : ∀ (d k fuel : Nat), k + d = P.length → d < fuel → oA N P kk fuel (k : Int) = if (P.drop k).all Fi then kk P.length else some false := by
 intro d
 induction d with
 | zero =>
  intro k fuel hk hf;obtain ⟨fuel, rfl⟩ := Oc fuel (by omega);have hk' : k = P.length := by omega
  subst hk';unfold oA;rw [cF (dF (by omega))]
  simp
 | succ d ih =>
  intro k fuel hk hf;obtain ⟨fuel, rfl⟩ := Oc fuel (by omega);have hlt : k < P.length := by omega
  obtain ⟨⟨x, y, z⟩, hx⟩ : ∃ p, P[k]? = some p := ⟨P[k], List.getElem?_eq_getElem hlt⟩
  unfold oA;rw [cT (dT (by omega)), DV, hx, eI, Ha (by omega)]
  have hd : P.drop k = (x, y, z) :: P.drop (k + 1) := by
   rw [List.drop_eq_getElem_cons hlt]
   congr 1
   exact (List.getElem?_eq_some_iff.1 hx).2
  rw [hd, List.all_cons];have hih := ih (k + 1) fuel (by omega) (by omega)
  by_cases h1 : min (min x y) z < 0
  ·rw [cT (dT h1)];have : Fi (x, y, z) = false := by simp only [Fi, decide_eq_false_iff_not]; omega
   simp [this]
  ·rw [cF (dF h1)]
   by_cases h2 : 65535 < max (max x y) z
   ·rw [cT (dT h2)];have : Fi (x, y, z) = false := by simp only [Fi, decide_eq_false_iff_not]; omega
    simp [this]
   ·rw [cF (dF h2)];have : Fi (x, y, z) = true := by simp only [Fi, decide_eq_true_eq]; omega
    rw [this, Bool.true_and, ← hih]
    rfl
theorem QN (N : Nat) (W H : Int) (P : List (Int × Int × Int)) (hN : 5000 ≤ N) : tP N W H P = some (D3 W H P) := by
 unfold tP;have no : ¬ AX W H P.length → D3 W H P = false := fun h => by simp [D3, h]
 by_cases h1 : W < 1
 ·rw [cT (dT h1), no (fun h => by unfold AX at h; omega)]
 rw [cF (dF h1)]
 by_cases h2 : 64 < W
 ·rw [cT (dT h2), no (fun h => by unfold AX at h; omega)]
 rw [cF (dF h2)]
 by_cases h3 : H < 1
 ·rw [cT (dT h3), no (fun h => by unfold AX at h; omega)]
 rw [cF (dF h3)]
 by_cases h4 : 64 < H
 ·rw [cT (dT h4), no (fun h => by unfold AX at h; omega)]
 rw [cF (dF h4)];have hb := OT (W := W) (H := H) (by omega);rw [Ha (by omega)]
 by_cases h5 : (P.length : Int) = W * H
 ·rw [cF (by simp [h5])];have hs : AX W H P.length := ⟨by omega, by omega, by omega, by omega, h5⟩
  refine (QM N P _ (by omega) P.length 0 N (by omega) (by omega)).trans ?_;simp only [D3, hs, decide_true, Bool.true_and, List.drop_zero]
  cases P.all Fi <;> rfl
 ·rw [cT (by simp [h5]), no (fun h => h5 h.2.2.2.2)]
theorem QO (N : Nat) (P : List (Int × Int × Int)) (kk : Int → Option Bool) (hP : P.length ≤ 4611686018427387904) : ∀ (d k fuel : Nat), k + d = P.length → d < fuel → gW N P P kk fuel (k : Int) = kk P.length := by
 intro d
 induction d with
 | zero =>
  intro k fuel hk hf;obtain ⟨fuel, rfl⟩ := Oc fuel (by omega);have hk' : k = P.length := by omega
  subst hk';unfold gW;rw [cF (dF (by omega))]
 | succ d ih =>
  intro k fuel hk hf;obtain ⟨fuel, rfl⟩ := Oc fuel (by omega);have hlt : k < P.length := by omega
  unfold gW;rw [cT (dT (by omega)), DV, List.getElem?_eq_getElem hlt];simp only [eI];rw [cF (by simp), Ha (by omega)];exact ih (k + 1) fuel (by omega) (by omega)
theorem same_eq (N : Nat) (W H : Int) (P : List (Int × Int × Int)) (hP : P.length ≤ 4611686018427387904) (hN : P.length < N) : iL N W H P W H P = some true := by
 unfold iL;rw [cF (by simp), cF (by simp), cF (by simp)];exact QO N P _ hP P.length 0 N (by omega) (by omega)
theorem GE (N : Nat) (phase x y : Int) : ∃ r, nJ N phase x y = some r := by
 unfold nJ
 by_cases h1 : phase < 0
 ·rw [cT (dT h1)]; exact ⟨_, rfl⟩
 rw [cF (dF h1)]
 by_cases h2 : 3 < phase
 ·rw [cT (dT h2)]; exact ⟨_, rfl⟩
 rw [cF (dF h2)]
 by_cases h3 : x < 0
 ·rw [cT (dT h3)]; exact ⟨_, rfl⟩
 rw [cF (dF h3)]
 by_cases h4 : y < 0
 ·rw [cT (dT h4)]; exact ⟨_, rfl⟩
 rw [cF (dF h4)];exact ⟨_, rfl⟩
theorem QP (N : Nat) (W : Int) (P : List (Int × Int × Int)) (phase : Int) (kk : (List Int × Int) → Option (Int × Int × List Int × Int)) (hW : 1 ≤ W) (hP : P.length ≤ 4096) : ∀ (d k fuel : Nat) (l : List Int), k + d = P.length → d < fuel → l.length = k → ∃ l', kL N W P phase kk fuel (l, (k : Int)) = kk (l', (P.length : Int)) := by
 intro d
 induction d with
 | zero =>
  intro k fuel l hk hf hl;obtain ⟨fuel, rfl⟩ := Oc fuel (by omega);have hk' : k = P.length := by omega
  subst hk';refine ⟨l, ?_⟩;unfold kL;rw [cF (dF (by omega))]
 | succ d ih =>
  intro k fuel l hk hf hl;obtain ⟨fuel, rfl⟩ := Oc fuel (by omega);have hlt : k < P.length := by omega
  unfold kL;obtain ⟨r, hr⟩ := GE N phase (Int.tmod k W) (IntKind.i64.wrap (Int.tdiv k W));rw [cT (dT (by omega)), Vl (by omega), eI, eI, hr, eI, DV, List.getElem?_eq_getElem hlt, eI];rw [JB (by simp; omega), JB (by simp; omega), JB (by simp; omega), eI, eI, eI, Ha (by omega)];have key : ∀ x : Int, ∃ l', kL N W P phase kk fuel (l ++ [x], (k : Int) + 1) = kk (l', (P.length : Int)) := fun x => ih (k + 1) fuel (l ++ [x]) (by omega) (by omega) (by simp [hl])
  cases decide (r.1 = 0)
  ·cases decide (r.1 = 1)
   ·exact key _
   ·exact key _
  ·exact key _
theorem NR (N : Nat) (W H : Int) (P : List (Int × Int × Int)) (hN : 5000 ≤ N) : ∃ a b l, lP N W H P 0 = some (a, b, l, if D3 W H P then 0 else 1) := by
 unfold lP;rw [QN N W H P hN, eI];cases hp : D3 W H P
 ·exact ⟨_, _, _, rfl⟩
 ·have hs := DW hp;have hl := Hy hs;rw [cF (by rfl), cF (by rfl), cF (by rfl)];obtain ⟨l', h⟩ := QP N W P 0 (fun (Cx, i2) => some (W, H, Cx, 0)) hs.1 (by omega) P.length 0 N [] (by omega) (by omega) rfl;exact ⟨W, H, l', h⟩
theorem TF {W H : Int} {P : List Int} {x y u v : Int} (hC : OL W H P x y) (hq : 0 ≤ u ∧ u < W ∧ 0 ≤ v ∧ v < H) : IntKind.i64.wrap (IntKind.i64.wrap (v * W) + u) = v * W + u ∧ 0 ≤ v * W + u ∧ v * W + u < P.length ∧ idx P (v * W + u) = some (P.getD (v * W + u).toNat 0) := by
 obtain ⟨h1, h2, h3, h4, h5, h6, h7⟩ := hC;have m0 : 0 ≤ v * W := Int.mul_nonneg hq.2.2.1 (by omega)
 have m1 : v * W + W ≤ H * W := by
  have := Int.mul_le_mul_of_nonneg_right (show v + 1 ≤ H by omega) (show 0 ≤ W by omega)
  rwa [Int.add_mul, Int.one_mul] at this
 have m2 : H * W ≤ 64 * 64 := Int.mul_le_mul h6 h3 (by omega) (by omega);have m3 : (P.length : Int) = H * W := by rw [h7, Int.mul_comm]
 refine ⟨by rw [Ha (x := v * W) (by omega), Ha (by omega)], by omega, by omega, ?_⟩;unfold idx;rw [if_pos (by omega), List.getD_eq_getElem?_getD, List.getElem?_eq_getElem (by omega)]; rfl
theorem Df (N : Nat) (W : Int) (P : List Int) (o : Int) {H x y u v : Int} (hC : OL W H P x y) (hq : 0 ≤ u ∧ u < W ∧ 0 ≤ v ∧ v < H) (x1 x2 x3 x4 x5 x6 : Int) : ∃ r, oB N W P o u v x1 x2 x3 x4 x5 x6 = some r := by
 obtain ⟨r, hr⟩ := GE N o u v;obtain ⟨h1, _, _, h2⟩ := TF hC hq;unfold oB;rw [hr, eI, h1, h2];simp only [eI]
 cases decide (r.1 = 0) <;> cases decide (r.1 = 1) <;> exact ⟨_, rfl⟩
abbrev Pt := Int × Int
def cX (l : List Pt) (i : Nat) : Int := (l.getD i (0, 0)).1
def cY (l : List Pt) (i : Nat) : Int := (l.getD i (0, 0)).2
def OU (l : List Pt) (i : Nat) : Prop := cX l i < cX l (i + 1) ∧ cY l i ≤ cY l (i + 1)
structure OV (l : List Pt) : Prop where
 len : 2 ≤ l.length ∧ l.length ≤ 16
 x0 : cX l 0 = 0
 xn : cX l (l.length - 1) = 65535
 y0 : 0 ≤ cY l 0
 yn : cY l (l.length - 1) ≤ 65535
 step : ∀ i, i + 1 < l.length → OU l i
theorem Mf {l : List Pt} {j : Nat} (h : ∀ i, i < j → OU l i) {i : Nat} (hij : i ≤ j) : cX l i ≤ cX l j ∧ cY l i ≤ cY l j ∧ (i < j → cX l i < cX l j) := by
  induction j with
  | zero => obtain rfl : i = 0 := by omega
            exact ⟨Int.le_refl _, Int.le_refl _, fun h => by omega⟩
  | succ j ih =>
    by_cases e : i = j + 1
    · subst e; exact ⟨Int.le_refl _, Int.le_refl _, fun h => by omega⟩
    · obtain ⟨a, b, _⟩ := ih (fun i hi => h i (by omega)) (by omega)
      obtain ⟨c, d⟩ := h j (by omega)
      exact ⟨by omega, by omega, fun _ => by omega⟩
theorem OV.mono {l : List Pt} (h : OV l) {i j : Nat} (hij : i ≤ j) (hj : j < l.length) : cX l i ≤ cX l j ∧ cY l i ≤ cY l j ∧ (i < j → cX l i < cX l j) := Mf (fun i hi => h.step i (by omega)) hij
theorem ways {o : Int} (h : 1 ≤ o ∧ o ≤ 8) : o = 1 ∨ o = 2 ∨ o = 3 ∨ o = 4 ∨ o = 5 ∨ o = 6 ∨ o = 7 ∨ o = 8 := by omega
def num (B : Nat) (l : List Nat) : Nat := l.foldl (fun a x => a * B + x) 0
theorem QQ {h k : Nat} (hk : k ≤ 64) (hb : h * 2 ^ k < 9223372036854775808) : nY .i64 (h : Int) (k : Int) = ((h * 2 ^ k : Nat) : Int) := by
 unfold nY
 have : min ((k : Int)).toNat IntKind.i64.bits = k := by
  rw [Int.toNat_natCast];exact Nat.min_eq_left hk
 rw [this, show (2 : Int) ^ k = ((2 ^ k : Nat) : Int) by simp, ← Int.natCast_mul, Ha (by omega)]
theorem TG {h d e : Nat} (he : e < 2 ^ d) (hb : h * 2 ^ d + e < 9223372036854775808) : EF .i64 ((h * 2 ^ d : Nat) : Int) (e : Int) = ((h * 2 ^ d + e : Nat) : Int) := by
 unfold EF;have hb' : IntKind.i64.bits = 64 := rfl
 have e1 : (BitVec.ofInt IntKind.i64.bits ((h * 2 ^ d : Nat) : Int) ||| BitVec.ofInt IntKind.i64.bits (e : Int)).toNat = h * 2 ^ d + e := by
  rw [BitVec.toNat_or, BitVec.ofInt_natCast, BitVec.ofInt_natCast, BitVec.toNat_ofNat, BitVec.toNat_ofNat, hb', Nat.mod_eq_of_lt (show h * 2 ^ d < 2 ^ 64 by omega), Nat.mod_eq_of_lt (show e < 2 ^ 64 by omega)];rw [Nat.mul_comm h, Nat.two_pow_add_eq_or_of_lt he]
 rw [e1];exact Ha (by omega)
def Ks (d : Nat) (l : List Int) (k : Nat) : Nat := num (2 ^ d) ((l.take k).map Int.toNat)
theorem toNat_ofNat (s : List UInt8) : (s.map UInt8.toNat).map UInt8.ofNat = s := by
 rw [List.map_map]
 conv => rhs; rw [← List.map_id s]
 refine List.map_congr_left fun y _ => ?_
 simp
def gr (M : Nat) (l : List Nat) : List Nat := (List.range M).map fun g => num 2 ((List.range 8).map fun t => l.getD (8 * g + t) 0)
def Z5 (b : List UInt8) : Bool := b.all fun c => decide (c = 48 ∨ c = 49)
def ky (ns : List Nat) (i : Nat) : Nat := ns.getD i 0
section
variable {ns : List Nat} (hn : ∀ n ∈ ns, n ≤ 15) (hl : ns.length ≤ 17)
def pos (ns : List Nat) (i : Nat) : Bool := decide (0 < ky ns i)
end
def PF (W : List (List UInt8)) : Prop := ∀ (i j : Nat) (u v : List UInt8), i ≠ j → W[i]? = some u → W[j]? = some v → u ≠ [] → ¬ (u <+: v)
def Z6 (W : List (List UInt8)) : Prop := ∀ w ∈ W, Z5 w = true ∧ w.length ≤ 15
theorem Gm (k s : List UInt8) (v : Int) (m : List (List UInt8 × Int)) : xY ((k, v) :: m) s = if k = s then some v else xY m s := rfl
structure BK (V : List (List UInt8)) (m : List (List UInt8 × Int)) : Prop where
 wd : ∀ (i : Nat) (s : List UInt8), V[i]? = some s → s ≠ [] → xY m s = some (i : Int)
 pr : ∀ (s w : List UInt8), w ∈ V → s <+: w → s ≠ w → xY m s = some (-1)
 no : ∀ (s : List UInt8), (∀ w ∈ V, w ≠ [] → ¬ s <+: w) → xY m s = none
theorem PF.sub {V : List (List UInt8)} {w : List UInt8} (h : PF (V ++ [w])) : PF V := fun i j u v hij hu hv h0 =>
 h i j u v hij (by rw [List.getElem?_append_left (List.getElem?_eq_some_iff.1 hu).1]; exact hu) (by rw [List.getElem?_append_left (List.getElem?_eq_some_iff.1 hv).1]; exact hv) h0
theorem PF.last {V : List (List UInt8)} {w u : List UInt8} (h : PF (V ++ [w])) (hu : u ∈ V) : (u ≠ [] → ¬ u <+: w) ∧ (w ≠ [] → ¬ w <+: u) := by
 obtain ⟨i, hi⟩ := List.mem_iff_getElem?.1 hu;have hlt := (List.getElem?_eq_some_iff.1 hi).1;have h1 : (V ++ [w])[i]? = some u := by rw [List.getElem?_append_left hlt]; exact hi
 have h2 : (V ++ [w])[V.length]? = some w := by simp
 exact ⟨h i V.length u w (by omega) h1 h2, h V.length i w u (by omega) h2 h1⟩
theorem BK.step {V : List (List UInt8)} {w : List UInt8} {m m2 : List (List UInt8 × Int)} (B : BK V m) (hp : PF (V ++ [w])) (hw : w ≠ [])
  (h1 : ∀ s, s <+: w → s ≠ w → xY m s = none → xY m2 s = some (-1)) (h2 : ∀ s, ¬ (s <+: w ∧ s ≠ w ∧ xY m s = none) → xY m2 s = xY m s) : BK (V ++ [w]) ((w, (V.length : Int)) :: m2) := by
 have pre : ∀ s, s <+: w → s ≠ w → xY m2 s = some (-1) := fun s h3 h4 => by
  rcases hm : xY m s with _ | x
  ·exact h1 s h3 h4 hm
  ·rw [h2 s (fun h => by rw [h.2.2] at hm; cases hm), hm]
   by_cases hex : ∃ u ∈ V, u ≠ [] ∧ s <+: u
   ·obtain ⟨u, hu, hu0, hsu⟩ := hex
    by_cases e : s = u
    ·subst e; exact absurd h3 ((hp.last hu).1 hu0)
    ·rw [← hm]; exact B.pr s u hu hsu e
   ·rw [B.no s fun u hu hu0 hsu => hex ⟨u, hu, hu0, hsu⟩] at hm; cases hm
 refine ⟨fun i s hi h0 => ?_, fun s u hu h3 h4 => ?_, fun s h => ?_⟩
 ·rw [Gm]
  by_cases hlt : i < V.length
  ·rw [List.getElem?_append_left hlt] at hi;have hmem := List.mem_of_getElem? hi;rw [if_neg (fun e => by subst e; exact (hp.last hmem).1 h0 (List.prefix_refl _)), h2 s (fun h => (hp.last hmem).1 h0 h.1)];exact B.wd i s hi h0
  ·have hl := (List.getElem?_eq_some_iff.1 hi).1
   simp at hl
   obtain rfl : i = V.length := by omega
   simp at hi
   rw [if_pos hi]
 ·rw [Gm]
  rcases List.mem_append.1 hu with hu | hu
  ·rw [if_neg (fun e => by subst e; exact (hp.last hu).2 hw h3)];have := B.pr s u hu h3 h4;rw [h2 s (fun h => by rw [h.2.2] at this; cases this)];exact this
  ·obtain rfl : u = w := by simpa using hu
   rw [if_neg (fun e => h4 e.symm)];exact pre s h3 h4
 ·rw [Gm];have hsw := h w (by simp) hw;rw [if_neg (fun e => hsw (by subst e; exact List.prefix_refl _)), h2 s (fun h => hsw h.1)];exact B.no s fun u hu hu0 => h u (by simp [hu]) hu0
theorem BK.nil {V : List (List UInt8)} {m : List (List UInt8 × Int)} (B : BK V m) : BK (V ++ [[]]) m := by
 refine ⟨fun i s hi h0 => ?_, fun s u hu h3 h4 => ?_, fun s h => ?_⟩
 ·by_cases hlt : i < V.length
  ·rw [List.getElem?_append_left hlt] at hi; exact B.wd i s hi h0
  ·have hl := (List.getElem?_eq_some_iff.1 hi).1
   simp at hl
   obtain rfl : i = V.length := by omega
   simp at hi
   exact absurd hi h0
 ·rcases List.mem_append.1 hu with hu | hu
  ·exact B.pr s u hu h3 h4
  ·obtain rfl : u = [] := by simpa using hu
   exact absurd (List.prefix_nil.1 h3) h4
 ·exact B.no s fun u hu hu0 => h u (by simp [hu]) hu0
def Z7 (kind a b c : Int) : Int := if kind = 1 then a else if kind = 2 then b else if kind = 3 then c else if kind = 4 then a + b - c else if kind = 5 then a + (b - c) / 2 else if kind = 6 then b + (a - c) / 2 else (a + b) / 2
def gs (W : Nat) (P : List Int) (kind : Int) (i : Nat) : Int := if i = 0 then 32768 else if i / W = 0 then P.getD (i - 1) 0 else if i % W = 0 then P.getD (i - W) 0 else Z7 kind (P.getD (i - 1) 0) (P.getD (i - W) 0) (P.getD (i - W - 1) 0)
def dfn (n g : Int) : Int := if 32768 < (n - g) % 65536 then (n - g) % 65536 - 65536 else (n - g) % 65536
def ds (W : Nat) (P : List Int) (kind : Int) : List Int := (List.range P.length).map fun i => dfn (P.getD i 0) (gs W P kind i)
abbrev Z8 := Int × Int × Int × Int × Int × List Int × List (List UInt8) × Int × Int × Int × Int × Int × Int × List (Int × Int) × Int × Int × Int × Int × Int × Int × Int × Int × Int × Int × Int × Int × List (Int × Int) × Int × Int
section
variable (W H D K R : Int) (Ls : List Int) (St : List (List UInt8)) (ph b0 b1 b2 b3 w : Int) (sp : List (Int × Int)) (g0 g1 g2 m0 m1 m2 m3 m4 m5 m6 m7 m8 : Int) (cv : List (Int × Int)) (am : Int)
def OW : Prop := (1 ≤ W ∧ W ≤ 64) ∧ (1 ≤ H ∧ H ≤ 64) ∧ (1 ≤ D ∧ D ≤ 16) ∧ 1 ≤ R ∧ R ≤ H
instance : Decidable (OW W H D R) := by unfold OW; exact inferInstance
end
theorem Yy (x : Int) : IntKind.u8.wrap x = x % 256 := by
 simp [IntKind.wrap, IntKind.bits, IntKind.signed]
theorem TH (e : Int) {k : Nat} (hk : k ≤ 64) : jR .i64 e (k : Int) = e / ((2 ^ k : Nat) : Int) := by
 unfold jR;rw [Int.toNat_natCast, show min k (IntKind.i64.bits) = k by show min k 64 = k; omega];rw [Int.fdiv_eq_ediv_of_nonneg _ (by exact Int.le_of_lt (Int.pow_pos (by decide)))]
 norm_cast
theorem Vm (e : Int) : IntKind.u8.wrap (jR .i64 e 8) = (e / 256) % 256 := by rw [Yy, show (8 : Int) = ((8 : Nat) : Int) from rfl, TH e (by decide)]; rfl
theorem QR {x y : Nat} (hx : x < 16777216) (hy : y < 256) : EF .i64 (nY .i64 (x : Int) 8) (IntKind.i64.wrap (y : Int)) = ((x * 256 + y : Nat) : Int) := by
 rw [show (8 : Int) = ((8 : Nat) : Int) from rfl, QQ (by decide) (by omega), Ha (by omega)];exact TG (h := x) (d := 8) (e := y) (by omega) (by omega)
end
end Go.Proofs.YtpmnfhifmmfglaaGreatDoor
