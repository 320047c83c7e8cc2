/- Parts of the proof. -/
import Derived.Test.YtpmnfhifmmfgladGreatDoorShotDevelopsK5
import Derived.Test.YtpmnfhifmmfgladGreatDoorShotDevelopsK10
set_option linter.unusedVariables false
set_option linter.unusedSimpArgs false
set_option linter.unusedSectionVars false
set_option maxRecDepth 100000
set_option maxHeartbeats 8000000
open Go.IntKind renaming i64→aC,u8→iH
open Int renaming tdiv→gI,tmod→mN
namespace Go.Proofs.YtpmnfhifmmfgladGreatDoor
section
open Go.RowKit
theorem aT {N:Nat} {n low high:Int} {w0:World} {r:Bool} (h:aM N n low high=some r) :
  lL 18 #[I n,I low,I high] w0 (DQ r w0):=by
 refine gE Tryz.func18 Tryz.ntmps18 ?_;intro M;unfold aM at h;refine kJ 11 10 h ?_ ?_
 ·intro hb h;exact bP 8 M.nQ
 intro hb h;exact bP 8 M.nQ
theorem IR {p:Prop} (h:p:=by exact D4 K rfl (jD K rfl) ⟨_,rfl,rfl,Mem.uZ (H:=[.blk Ca 115 [.string (bs QV),.bool true]]) 1 rfl M [0] aL aL⟩):p:=h
theorem IS {p:Prop} (h:p:=by exact D4 K rfl (jD K rfl) ⟨_,rfl,rfl,Mem.uZ (H:=[.blk Ca 115 [.string (bs s),.bool Fg]]) 1 rfl M [0] aL aL⟩):p:=h
theorem bV {N:Nat} {QV:aR} {Fg:Bool} {Ca:Nat} {W:World} {TL:List mM} {w0:World} {r:Kl} (h:aG N QV Fg=some r) (M:jL W w0 (.blk Ca 115 [.string (bs QV),.bool Fg]::TL)) :
  lL 54 #[pQ Ca] w0 (aJi r W Ca TL):=by
 refine gE Tryz.func54 Tryz.ntmps54 ?_;intro _;unfold aG at h;refine kJ 13 8 h ?_ ?_
 ·intro hb h;refine cV 15 ?_;intro w M;refine aH 9 ?_;intro a K
  injection h with h
  subst h;exact IR
 intro hb h;refine cB 9 h ?_ ?_
 ·intro hb h;refine cV 5 ?_;intro w M;refine aH 9 ?_;intro a K
  injection h with h
  subst h;exact IR
 intro hb h;refine Xx 3 ?_;replace M:=M.drew;obtain ⟨b,_,h⟩:=aB h;refine aH 11 ?_;obtain ⟨b2,_,h⟩:=aB h;refine aH 8 ?_;obtain ⟨b3,_,h⟩:=aB h;obtain ⟨x2,hx,h⟩:=cL h;refine aH 3 ?_;refine G4 (fun _ K=>V4 hx (aIM rfl K rfl rfl)) ?_;refine aH 4 ?_;obtain ⟨b4,_,h⟩:=aB h;obtain ⟨n,hx,h⟩:=cL h;refine gmQ 3 hx ?_;refine aH 9 ?_;obtain ⟨s,_,h⟩:=aB h;refine cV 3 ?_;intro w M;refine cB 9 h ?_ ?_
 ·intro hb h;obtain ⟨n2,hx,h⟩:=cL h;refine kN 3 hx ?_;refine aH 9 ?_;intro a K
  injection h with h
  subst h;exact IS
 intro hb h;refine aH 9 ?_;intro a K
 injection h with h
 subst h;exact IS
theorem J1 {p:Prop} (h:p:=by exact D4 K rfl (jD K rfl) ⟨_,rfl,rfl,Mem.uZ (H:=[.blk Ca 115 [.string (bs r2.2.1),.bool true]]) 1 rfl M [0] aL aL⟩):p:=h
theorem J2 {p:Prop} (h:p:=by exact D4 K rfl (jD K rfl) ⟨_,rfl,rfl,Mem.uZ (H:=[.blk Ca 115 [.string (bs r2.2.1),.bool r2.2.2]]) 1 rfl M [0] aL aL⟩):p:=h
theorem rK {N:Nat} {QV:aR} {Fg:Bool} {Ca:Nat} {W:World} {TL:List mM} {w0:World} {r:Kl} (h:eF N QV Fg=some r) (M:jL W w0 (.blk Ca 115 [.string (bs QV),.bool Fg]::TL)) :
  lL 55 #[pQ Ca] w0 (aJi r W Ca TL):=by
 refine gE Tryz.func55 Tryz.ntmps55 ?_;intro _;unfold eF at h;obtain ⟨r2,cR,h⟩:=aB h;refine aH 8 ?_;refine Za (fun _ K=>u0 K (bV cR M)) ?_;rintro _ w ⟨rfl,M⟩;refine kJ 9 8 h ?_ ?_
 ·intro hb h;refine cV 15 ?_;intro w M;refine aH 19 ?_;intro a K
  injection h with h
  subst h;exact J1
 intro hb h;refine cB 10 h ?_ ?_
 ·intro hb h;refine cV 4 ?_;intro w M;refine aH 19 ?_;intro a K
  injection h with h
  subst h;exact J1
 intro hb h;refine cB 11 h ?_ ?_
 ·intro hb h;refine aH 7 ?_;intro a K
  injection h with h
  subst h;exact J2
 intro hb h;refine aH 9 ?_;intro a K
 injection h with h
 subst h;exact J2
theorem Dp {N:Nat} {QV:aR} {Fg:Bool} {Ca:Nat} {W:World} {TL:List mM} {w0:World} {r:M5} (h:gR N QV Fg=some r) (M:jL W w0 (.blk Ca 115 [.string (bs QV),.bool Fg]::TL)) :
  lL 53 #[pQ Ca] w0 fun v w'=>v = .string (bs r.1)∧jL W w' (.blk Ca 115 [.string (bs r.2.1),.bool r.2.2]::TL):=by
 refine gE Tryz.func53 Tryz.ntmps53 ?_;intro _;unfold gR at h;obtain ⟨r2,cR,h⟩:=aB h;refine aH 8 ?_;refine Za (fun _ K=>u0 K (rK cR M)) ?_;rintro _ w ⟨rfl,M⟩;refine cB 18 h ?_ ?_
 ·intro hb h;obtain ⟨s,_,h⟩:=aB h;refine aH 18 ?_;obtain ⟨s2,_,h⟩:=aB h;refine cV 3 ?_;intro w M;refine aH 9 ?_;intro a K
  injection h with h
  subst h;exact D4 K rfl (jD K rfl) ⟨_,rfl,rfl,Mem.uZ (H:=[.blk Ca 115 [.string (bs s2),.bool r2.2.2]]) 1 rfl M [0] aL aL⟩
 intro hb h;refine aH 9 ?_;intro a K
 injection h with h
 subst h;exact D4 K rfl (jD K rfl) ⟨_,rfl,rfl,Mem.uZ (H:=[.blk Ca 115 [.string (bs r2.2.1),.bool r2.2.2]]) 1 rfl M [0] aL aL⟩
theorem Lr {N:Nat} {v8 sV cP d7 cU:Int} {dE:List Int} {iJ:Option Addr} {iK:Nat} {bX:List aR} {eC:Option Addr} {eD:Nat} {bN bE bF bG bH bO:Int} {aO:List aN} {cE:Option Addr} {cH:Nat} {bI bJ bK aV aW aX aY aZ bA bB bC bD:Int} {aP:List aN} {cD:Option Addr} {cG:Nat} {bL:Int} {w0:World} {r:Int} (h:uL N v8 sV cP d7 cU dE bX bN bE bF bG bH bO aO bI bJ bK aV aW aX aY aZ bA bB bC bD aP bL=some r) (At:SL w0 (cI .i64) iJ dE) (Au:dE.length≤iK) (yF:SL w0 cS eC bX) (yG:bX.length≤eD) (rG:SL w0 jG cE aO) (rH:aO.length≤cH) (rI:SL w0 jG cD aP) (rJ:aP.length≤cG) :
  lL 57 #[.agg #[I v8,I sV,I cP,I d7,I cU,.slice iJ dE.length iK,.slice eC bX.length eD,I bN,I bE,I bF,I bG,I bH,I bO,.slice cE aO.length cH,I bI,I bJ,I bK,I aV,I aW,I aX,I aY,I aZ,I bA,I bB,I bC,I bD,.slice cD aP.length cG,I bL]] w0 (zO r w0):=by
 refine gE Tryz.func57 Tryz.ntmps57 ?_;intro M;unfold uL at h;refine eE 2 ?_;intro Ca w M;obtain ⟨_,h0,h⟩:=aB h;have h0:=dG h0;exact bP 18 M.nQ
theorem uD {N:Nat} {lens:List Int} {K7:Option Addr} {K8:Nat} {w0:World} {r:Int} (h:j1 N lens=some r) (aFC:SL w0 (cI .i64) K7 lens) (aFD:lens.length≤K8) :
  lL 99 #[.slice K7 lens.length K8] w0 (zO r w0):=by
 refine gE Tryz.func99 Tryz.ntmps99 ?_;intro M;unfold j1 at h;obtain ⟨r2,cR,h⟩:=aB h;refine fP 10 (aT cR) ?_;intro w M;refine cB 3 h ?_ ?_
 ·intro hb h;exact bP 7 M.nQ
 intro hb h;refine pM 15 0 [0] [] (fun ZL ZM (⟨sum,used,i⟩:Int×Bool×Int) a w=>Kn a 41 ((3,I sum)::(4,.bool used)::(5,I i)::ZL)∧jL w0 w []) M.nQ ?_ ?_
 ·rintro ⟨aGq,aAr,i6⟩ a w ⟨K,M⟩ h
  revert a;refine kJ 8 37 h ?_ ?_
  ·intro hb h;exact bP 13 M.nQ
  intro hb h;refine cB 5 h ?_ ?_
  ·intro hb h;exact bP 7 M.nQ
  intro hb h;exact bP 8 M.nQ
 rintro kk aA ⟨sum,used,i⟩ a w hk1 ⟨K,M⟩ h;unfold jT at h;revert a;refine cB 9 h ?_ ?_
 ·intro hb h;obtain ⟨e4,_,h⟩:=aB h;refine aH 11 ?_;obtain ⟨r4,lJ,h⟩:=aB h;refine fP 0 (aT lJ) ?_;intro w M;refine cB 3 h ?_ ?_
  ·intro hb h;exact bP 12 M.nQ
  intro hb h;obtain ⟨e5,_,h⟩:=aB h;refine cB 11 h ?_ ?_
  ·intro hb h;obtain ⟨e6,_,h⟩:=aB h;refine aH 12 ?_;obtain ⟨_,h0,h⟩:=aB h;have h0:=qB h0;obtain ⟨aKn,hx,h⟩:=cL h;refine kN 2 hx ?_;obtain ⟨i4,hx,h⟩:=cL h;refine kN 6 hx ?_;exact iG 2 (aKn,true,i4) M.nQ
  intro hb h;obtain ⟨i5,hx,h⟩:=cL h;refine kN 6 hx ?_;exact iG 2 (sum,used,i5) M.nQ
 intro hb h;exact jY 3 (hk1 (sum,used,i)) M.nQ
theorem Ij {N:Nat} {v8 sV cP d7 cU:Int} {dE:List Int} {iJ:Option Addr} {iK:Nat} {bX:List aR} {eC:Option Addr} {eD:Nat} {bN bE bF bG bH bO:Int} {aO:List aN} {cE:Option Addr} {cH:Nat} {bI bJ bK aV aW aX aY aZ bA bB bC bD:Int} {aP:List aN} {cD:Option Addr} {cG:Nat} {bL:Int} {w0:World} {r:Int} (h:qU N v8 sV cP d7 cU dE bX bN bE bF bG bH bO aO bI bJ bK aV aW aX aY aZ bA bB bC bD aP bL=some r) (At:SL w0 (cI .i64) iJ dE) (Au:dE.length≤iK) (yF:SL w0 cS eC bX) (yG:bX.length≤eD) (rG:SL w0 jG cE aO) (rH:aO.length≤cH) (rI:SL w0 jG cD aP) (rJ:aP.length≤cG) :
  lL 56 #[.agg #[I v8,I sV,I cP,I d7,I cU,.slice iJ dE.length iK,.slice eC bX.length eD,I bN,I bE,I bF,I bG,I bH,I bO,.slice cE aO.length cH,I bI,I bJ,I bK,I aV,I aW,I aX,I aY,I aZ,I bA,I bB,I bC,I bD,.slice cD aP.length cG,I bL]] w0 (zO r w0):=by
 refine gE Tryz.func56 Tryz.ntmps56 ?_;intro M;unfold qU at h;refine eE 2 ?_;intro Ca w M;obtain ⟨r2,cR,h⟩:=aB h;refine fP 8 (aT cR) ?_;intro w M;refine kJ 2 7 h ?_ ?_
 ·intro hb h;exact bP 29 M.nQ
 intro hb h;obtain ⟨r3,gP,h⟩:=aB h;refine fP 2 (aT gP) ?_;intro w M;refine kJ 3 13 h ?_ ?_
 ·intro hb h;exact bP 23 M.nQ
 intro hb h;obtain ⟨r4,lJ,h⟩:=aB h;refine fP 2 (aT lJ) ?_;intro w M;refine kJ 3 19 h ?_ ?_
 ·intro hb h;exact bP 17 M.nQ
 intro hb h;obtain ⟨r5,qA,h⟩:=aB h;refine fP 4 (aT qA) ?_;intro w M;refine cB 4 h ?_ ?_
 ·intro hb h;exact bP 7 M.nQ
 intro hb h;obtain ⟨r6,tA,h⟩:=aB h;refine fP 7 (aT tA) ?_;intro w M;refine cB 3 h ?_ ?_
 ·intro hb h;exact bP 7 M.nQ
 intro hb h;refine kJ 9 34 h ?_ ?_
 ·intro hb h;refine cB 7 h ?_ ?_
  ·intro hb h;exact bP 7 M.nQ
  intro hb h;refine cB 10 h ?_ ?_
  ·intro hb h;obtain ⟨r7,zG,h⟩:=aB h;refine fP 4 (uD zG) ?_;intro w M;exact bP 5 M.nQ
  intro hb h;exact bP 8 M.nQ
 intro hb h;refine cB 18 h ?_ ?_
 ·intro hb h;obtain ⟨r8,BF,h⟩:=aB h;refine fP 4 (uD BF) ?_;intro w M;exact bP 5 M.nQ
 intro hb h;exact bP 8 M.nQ
theorem Ik {N:Nat} {d:List aN} {A_d:Option Addr} {c_d:Nat} {w0:World} {r:Bool} (h:iM N d=some r) (R_d:SL w0 jG A_d d) (C_d:d.length≤c_d) :
  lL 140 #[.slice A_d d.length c_d] w0 (DQ r w0):=by
 refine gE Tryz.func140 Tryz.ntmps140 ?_;intro M;unfold iM at h;obtain ⟨r2,cR,h⟩:=aB h;refine fP 10 (aT cR) ?_;intro w M;refine kJ 2 8 h ?_ ?_
 ·intro hb h;exact bP 26 M.nQ
 intro hb h;obtain ⟨e,_,h⟩:=aB h;refine kJ 7 15 h ?_ ?_
 ·intro hb h;exact bP 19 M.nQ
 intro hb h;refine aH 4 ?_;obtain ⟨e2,_,h⟩:=aB h;refine cB 7 h ?_ ?_
 ·intro hb h;exact bP 7 M.nQ
 intro hb h;refine pM 9 0 [0] [] (fun ZL ZM (i:Int) a w=>Kn a 70 ((3,I i)::ZL)∧jL w0 w []) M.nQ ?_ ?_
 ·rintro i2 a w ⟨K,M⟩ h
  revert a;exact bP 8 M.nQ
 rintro kk aA i a w hk1 ⟨K,M⟩ h;unfold jU at h;revert a;refine cB 9 h ?_ ?_
 ·intro hb h;refine aH 5 ?_;intro a K;refine aK (fun w=>Mem _ _ w _) [0,0,0,0,0,1,0,0,0,0,0,0,0,0,0,0,0,0,0,0,0,0,0,0,0,0,0,0,0,0,0,0,0,0,0,0,0,0,0] aQ aQ M.drew ?_;replace M:=M.drew;revert a;obtain ⟨e8,_,h⟩:=aB h;refine aH 5 ?_;obtain ⟨r4,lJ,h⟩:=aB h;refine rU 0 (aT lJ) ?_;intro w M;refine kJ 2 38 h ?_ ?_
  ·intro hb h;exact bP 45 M.nQ
  intro hb h;refine kJ 3 41 h ?_ ?_
  ·intro hb h;obtain ⟨e9,_,h⟩:=aB h;refine aH 8 ?_;obtain ⟨e10,_,h⟩:=aB h;refine kJ 5 54 h ?_ ?_
   ·intro hb h;exact bP 29 M.nQ
   intro hb h;refine aH 2 ?_;obtain ⟨e11,_,h⟩:=aB h;refine aH 6 ?_;obtain ⟨e12,_,h⟩:=aB h;refine cB 9 h ?_ ?_
   ·intro hb h;exact bP 11 M.nQ
   intro hb h;obtain ⟨x4,hx,h⟩:=cL h;refine kN 6 hx ?_;exact iG 2 x4 M.nQ
  intro hb h;obtain ⟨x5,hx,h⟩:=cL h;refine kN 37 hx ?_;exact iG 2 x5 M.nQ
 intro hb h;exact jY 3 (hk1 i) M.nQ
theorem JE {N:Nat} {m0 m1 m2 m3 m4 m5 m6 m7 m8:Int} {w0:World} {r:Bool} (h:sM N m0 m1 m2 m3 m4 m5 m6 m7 m8=some r) :
  lL 139 #[.agg #[I m0,I m1,I m2,I m3,I m4,I m5,I m6,I m7,I m8]] w0 (DQ r w0):=by
 refine gE Tryz.func139 Tryz.ntmps139 ?_;intro M;unfold sM at h;refine eE 2 ?_;intro g_m w M;refine pM 10 0 [1] [] (fun ZL ZM (i:Int) a w=>Kn a 13 ((3,I i)::ZL)∧jL w0 w [.blk g_m 36 [I m0,I m1,I m2,I m3,I m4,I m5,I m6,I m7,I m8]]) M.oQ ?_ ?_
 ·rintro i4 a w ⟨K,M⟩ h
  revert a;exact bP 8 M.nQ
 rintro kk aA i a w hk1 ⟨K,M⟩ h;unfold mU at h;revert a;refine cB 7 h ?_ ?_
 ·intro hb h;obtain ⟨_,h0,h⟩:=aB h;have h0:=mQ h0;refine aH 8 ?_;obtain ⟨e2,Hw,h⟩:=aB h;refine jO (fun _ K=>qD rfl Hc K rfl (Aw 0 rfl) rfl rfl Hw) M ?_;obtain ⟨r3,gP,h⟩:=aB h;refine fP 0 (aT gP) ?_;intro w M;refine cB 3 h ?_ ?_
  ·intro hb h;exact bP 11 M.nQ
  intro hb h;obtain ⟨i3,hx,h⟩:=cL h;refine kN 6 hx ?_;exact iG 2 i3 M.oQ
 intro hb h;exact jY 3 (hk1 i) M.oQ
theorem DV {N:Nat} {l2:List aN} {BW:Option Addr} {BX:Nat} {w2 h2:Int} {w0:World} {r:Bool} (h:sL N l2 w2 h2=some r) (O9:SL w0 jG BW l2) (R8:l2.length≤BX) :
  lL 101 #[.slice BW l2.length BX,I w2,I h2] w0 (DQ r w0):=by
 refine gE Tryz.func101 Tryz.ntmps101 ?_;intro M;unfold sL at h;refine pM 12 0 [0,1,2] [] (fun ZL ZM (i:Int) a w=>Kn a 34 ((7,I i)::ZL)∧jL w0 w []) M.nQ ?_ ?_
 ·rintro i4 a w ⟨K,M⟩ h
  revert a;exact bP 8 M.nQ
 rintro kk aA i a w hk1 ⟨K,M⟩ h;unfold mT at h;revert a;refine cB 9 h ?_ ?_
 ·intro hb h;obtain ⟨e3,_,h⟩:=aB h;refine aH 13 ?_;obtain ⟨r4,lJ,h⟩:=aB h;refine fP 0 (aT lJ) ?_;intro w M;refine kJ 2 23 h ?_ ?_
  ·intro hb h;exact bP 24 M.nQ
  intro hb h;obtain ⟨e4,_,h⟩:=aB h;refine aH 7 ?_;obtain ⟨r5,qA,h⟩:=aB h;refine fP 0 (aT qA) ?_;intro w M;refine cB 4 h ?_ ?_
  ·intro hb h;exact bP 11 M.nQ
  intro hb h;obtain ⟨i3,hx,h⟩:=cL h;refine kN 6 hx ?_;exact iG 2 i3 M.nQ
 intro hb h;exact jY 3 (hk1 i) M.nQ
theorem Il {N:Nat} {da QO QP QQ QR dc:Int} {dd:List aN} {Add:Option Addr} {cdd:Nat} {QS QT QU TM TN df2 TO TP TQ TR TS TT:Int} {dg:List aN} {Adg:Option Addr} {cdg:Nat} {dh:Int} {w0:World} {r:Int} (h:qV N da QO QP QQ QR dc dd QS QT QU TM TN df2 TO TP TQ TR TS TT dg dh=some r) (Rdd:SL w0 jG Add dd) (Cdd:dd.length≤cdd) (Rdg:SL w0 jG Adg dg) (Cdg:dg.length≤cdg) :
  lL 100 #[.agg #[I da,I QO,I QP,I QQ,I QR,I dc,.slice Add dd.length cdd,I QS,I QT,I QU,I TM,I TN,I df2,I TO,I TP,I TQ,I TR,I TS,I TT,.slice Adg dg.length cdg,I dh]] w0 (zO r w0):=by
 refine gE Tryz.func100 Tryz.ntmps100 ?_;intro M;unfold qV at h;refine eE 2 ?_;intro g_o w M;obtain ⟨r2,cR,h⟩:=aB h;refine fP 8 (aT cR) ?_;intro w M;refine kJ 2 9 h ?_ ?_
 ·intro hb h;exact bP 39 M.nQ
 intro hb h;obtain ⟨r3,gP,h⟩:=aB h;refine fP 2 (aT gP) ?_;intro w M;refine kJ 3 15 h ?_ ?_
 ·intro hb h;exact bP 33 M.nQ
 intro hb h;refine kJ 6 21 h ?_ ?_
 ·intro hb h;exact bP 27 M.nQ
 intro hb h;obtain ⟨r4,lJ,h⟩:=aB h;refine fP 2 (DV lJ ((Cc Rdd) _ M) Cdd) ?_;intro w M;refine kJ 3 27 h ?_ ?_
 ·intro hb h;exact bP 21 M.nQ
 intro hb h;obtain ⟨r5,qA,h⟩:=aB h;refine fP 2 (JE qA) ?_;intro w M;refine kJ 3 33 h ?_ ?_
 ·intro hb h;exact bP 15 M.nQ
 intro hb h;obtain ⟨r6,tA,h⟩:=aB h;refine fP 2 (aT tA) ?_;intro w M;refine cB 4 h ?_ ?_
 ·intro hb h;exact bP 7 M.nQ
 intro hb h;refine pM 9 0 [1] [] (fun ZL ZM (i:Int) a w=>Kn a 66 ((3,I i)::ZL)∧jL w0 w [.blk g_o 39 [I da,I QO,I QP,I QQ,I QR,I dc,.slice Add dd.length cdd,I QS,I QT,I QU,I TM,I TN,I df2,I TO,I TP,I TQ,I TR,I TS,I TT,.slice Adg dg.length cdg,I dh]]) M.oQ ?_ ?_
 ·rintro i2 a w ⟨K,M⟩ h
  revert a;refine pM 9 2 [1] [] (fun ZL ZM (i3:Int) a w=>Kn a 66 ((4,I i3)::ZL)∧jL w0 w [.blk g_o 39 [I da,I QO,I QP,I QQ,I QR,I dc,.slice Add dd.length cdd,I QS,I QT,I QU,I TM,I TN,I df2,I TO,I TP,I TQ,I TR,I TS,I TT,.slice Adg dg.length cdg,I dh]]) M.oQ ?_ ?_
  ·rintro i4 a w ⟨K,M⟩ h
   revert a;obtain ⟨Al,Ap,h⟩:=aB h;refine fP 7 (Ik Ap) ?_;intro w M;refine cB 3 h ?_ ?_
   ·intro hb h;exact bP 7 M.nQ
   intro hb h;exact bP 8 M.nQ
  rintro kk aA i3 a w hk2 ⟨K,M⟩ h;unfold eQ at h;revert a;refine cB 7 h ?_ ?_
  ·intro hb h;obtain ⟨_,h0,h⟩:=aB h;have h0:=mQ h0;refine aH 9 ?_;obtain ⟨e4,aCQ,h⟩:=aB h;refine jO (fun _ K=>qD rfl Hc K rfl (Aw 0 rfl) rfl rfl aCQ) M ?_;obtain ⟨Cd,BG,h⟩:=aB h;refine fP 0 (aT BG) ?_;intro w M;refine cB 3 h ?_ ?_
   ·intro hb h;exact bP 11 M.nQ
   intro hb h;obtain ⟨x5,hx,h⟩:=cL h;refine kN 6 hx ?_;exact iG 2 x5 M.oQ
  intro hb h;exact jY 3 (hk2 i3) M.oQ
 rintro kk aA i a w hk1 ⟨K,M⟩ h;unfold eR at h;revert a;refine cB 7 h ?_ ?_
 ·intro hb h;refine aH 5 ?_;intro a K;refine aK (fun w=>Mem _ _ w _) [0,0,0,0,0,0,0,1,0] aQ aQ M.drew ?_;replace M:=M.drew;revert a;obtain ⟨_,h0,h⟩:=aB h;have h0:=mQ h0;refine aH 3 ?_;obtain ⟨e2,Hw,h⟩:=aB h;refine G4 (fun _ K=>qD rfl Hc K rfl (Aw 0 rfl) rfl rfl Hw) ?_;obtain ⟨r8,BF,h⟩:=aB h;refine rU 3 (aT BF) ?_;intro w M;refine cB 3 h ?_ ?_
  ·intro hb h;exact bP 11 M.nQ
  intro hb h;obtain ⟨x3,hx,h⟩:=cL h;refine kN 6 hx ?_;exact iG 2 x3 M.oQ
 intro hb h;exact jY 3 (hk1 i) M.oQ
theorem Im {N:Nat} {v8 sV cP d7 cU:Int} {dE:List Int} {iJ:Option Addr} {iK:Nat} {bX:List aR} {eC:Option Addr} {eD:Nat} {bN bE bF bG bH bO:Int} {aO:List aN} {cE:Option Addr} {cH:Nat} {bI bJ bK aV aW aX aY aZ bA bB bC bD:Int} {aP:List aN} {cD:Option Addr} {cG:Nat} {bL:Int} {w0:World} {r:Int} (h:qW N v8 sV cP d7 cU dE bX bN bE bF bG bH bO aO bI bJ bK aV aW aX aY aZ bA bB bC bD aP bL=some r) (At:SL w0 (cI .i64) iJ dE) (Au:dE.length≤iK) (yF:SL w0 cS eC bX) (yG:bX.length≤eD) (rG:SL w0 jG cE aO) (rH:aO.length≤cH) (rI:SL w0 jG cD aP) (rJ:aP.length≤cG) :
  lL 58 #[.agg #[I v8,I sV,I cP,I d7,I cU,.slice iJ dE.length iK,.slice eC bX.length eD,I bN,I bE,I bF,I bG,I bH,I bO,.slice cE aO.length cH,I bI,I bJ,I bK,I aV,I aW,I aX,I aY,I aZ,I bA,I bB,I bC,I bD,.slice cD aP.length cG,I bL]] w0 (zO r w0):=by
 refine gE Tryz.func58 Tryz.ntmps58 ?_;intro M;unfold qW at h;refine eE 2 ?_;intro Ca w M;obtain ⟨r2,cR,h⟩:=aB h;refine fP 8 (Il cR) ?_;intro w M;refine cB 9 h ?_ ?_
 ·intro hb h;exact bP 8 M.nQ
 intro hb h;obtain ⟨r3,gP,h⟩:=aB h;refine fP 12 (DV gP) ?_;intro w M;refine cB 3 h ?_ ?_
 ·intro hb h;exact bP 7 M.nQ
 intro hb h;exact bP 8 M.nQ
theorem fO {N:Nat} {n byA:Int} {w0:World} {r:Int} (h:bT N n byA=some r) :
  lL 110 #[I n,I byA] w0 (zO r w0):=by
 refine gE Tryz.func110 Tryz.ntmps110 ?_;intro M;unfold bT at h;obtain ⟨_,h0,h⟩:=aB h;have h0:=dG h0;obtain ⟨q,hx,h⟩:=cL h;refine kN 10 hx ?_;refine cB 12 h ?_ ?_
 ·intro hb h;obtain ⟨q2,hx,h⟩:=cL h;refine kN 3 hx ?_;exact bP 9 M.nQ
 intro hb h;exact bP 9 M.nQ
theorem Eg {N:Nat} {s TU:aR} {w0:World} {r:Bool} (h:qL N s TU=some r) :
  lL 170 #[.string (bs s),.string (bs TU)] w0 (DQ r w0):=by
 refine gE Tryz.func170 Tryz.ntmps170 ?_;intro M;unfold qL at h;refine kJ 13 10 h ?_ ?_
 ·intro hb h;obtain ⟨s2,_,h⟩:=aB h;exact bP 11 M.nQ
 intro hb h;exact bP 11 M.nQ
theorem Lt {N:Nat} {w2:List aR} {aOw:Option Addr} {aOx:Nat} {b:aR} {w0:World} {r:aN} (h:uM N w2 b=some r) (aQF:SL w0 cS aOw w2) (aQG:w2.length≤aOx) :
  lL 145 #[.slice aOw w2.length aOx,.string (bs b)] w0 (aIa r w0):=by
 refine gE Tryz.func145 Tryz.ntmps145 ?_;intro M;unfold uM at h;refine pM 18 0 [0,1] [] (fun ZL ZM (⟨short,i⟩:Tr) a w=>Kn a 36 ((6,.bool short)::(7,I i)::ZL)∧jL w0 w []) M.nQ ?_ ?_
 ·rintro ⟨UU,i8⟩ a w ⟨K,M⟩ h
  revert a;refine cB 8 h ?_ ?_
  ·intro hb h;exact eB 8 M.nQ
  intro hb h;exact eB 9 M.nQ
 rintro kk aA ⟨short,i⟩ a w hk1 ⟨K,M⟩ h;unfold kR at h;revert a;refine cB 9 h ?_ ?_
 ·intro hb h;obtain ⟨e4,_,h⟩:=aB h;refine cB 14 h ?_ ?_
  ·intro hb h;obtain ⟨i5,hx,h⟩:=cL h;refine kN 7 hx ?_;exact iG 2 (short,i5) M.nQ
  intro hb h;refine aH 8 ?_;obtain ⟨e5,_,h⟩:=aB h;refine aH 2 ?_;obtain ⟨r4,lJ,h⟩:=aB h;refine fP 0 (Eg lJ) ?_;intro w M;refine cB 2 h ?_ ?_
  ·intro hb h;exact eB 14 M.nQ
  intro hb h;refine kJ 5 27 h ?_ ?_
  ·intro hb h;obtain ⟨i6,hx,h⟩:=cL h;refine kN 14 hx ?_;exact iG 2 (true,i6) M.nQ
  intro hb h;obtain ⟨e6,_,h⟩:=aB h;refine aH 5 ?_;obtain ⟨r5,qA,h⟩:=aB h;refine fP 0 (Eg qA) ?_;intro w M;obtain ⟨i7,hx,h⟩:=cL h;refine kN 8 hx ?_;exact iG 2 (r5,i7) M.nQ
 intro hb h;exact jY 3 (hk1 (short,i)) M.nQ
theorem eG {N:Nat} {lE mS:Int} {iI:List Int} {kC:Option Addr} {kD:Nat} {x2 y:Int} {w0:World} {r:Int} (h:cK N lE mS iI x2 y=some r) (xN:SL w0 (cI .i64) kC iI) (zS:iI.length≤kD) :
  lL 109 #[.agg #[I lE,I mS,.slice kC iI.length kD],I x2,I y] w0 (zO r w0):=by
 refine gE Tryz.func109 Tryz.ntmps109 ?_;intro M;unfold cK at h;refine eE 2 ?_;intro Ie w M;obtain ⟨e,_,h⟩:=aB h;exact bP 19 M.nQ
theorem vP {N:Nat} {eA fY:Int} {fZ:List Int} {kY:Option Addr} {kZ:Nat} {o p2 p3:Int} {w0:World} {r:Int} (h:jV N eA fY fZ o p2 p3=some r) (AN:SL w0 (cI .i64) kY fZ) (IG:fZ.length≤kZ) :
  lL 146 #[.agg #[I eA,I fY,.slice kY fZ.length kZ],I o,I p2,I p3] w0 (zO r w0):=by
 refine gE Tryz.func146 Tryz.ntmps146 ?_;intro M;unfold jV at h;refine eE 2 ?_;intro jM w M;refine kJ 10 15 h ?_ ?_
 ·intro hb h;refine cB 6 h ?_ ?_
  ·intro hb h;exact bP 8 M.nQ
  intro hb h;refine cB 7 h ?_ ?_
  ·intro hb h;obtain ⟨r2,cR,h⟩:=aB h;refine fP 5 (eG cR) ?_;intro w M;exact bP 6 M.nQ
  intro hb h;refine cB 7 h ?_ ?_
  ·intro hb h;obtain ⟨r3,gP,h⟩:=aB h;refine fP 5 (eG gP) ?_;intro w M;exact bP 6 M.nQ
  intro hb h;refine aH 4 ?_;intro a K;refine aK (fun w=>Mem _ _ w _) [0,0,0,0,1,0,0,0,0,1,0,0,0,0,0,1,0,0,0] aQ aQ M.drew ?_;replace M:=M.drew;revert a;obtain ⟨r4,lJ,h⟩:=aB h;refine rU 4 (eG lJ) ?_;intro w M;obtain ⟨r5,qA,h⟩:=aB h;refine rU 4 (eG qA) ?_;intro w M;obtain ⟨r6,tA,h⟩:=aB h;refine rU 5 (eG tA) ?_;intro w M;refine cB 18 h ?_ ?_
  ·intro hb h;exact bP 9 M.nQ
  intro hb h;refine cB 6 h ?_ ?_
  ·intro hb h;exact bP 9 M.nQ
  intro hb h;refine cB 6 h ?_ ?_
  ·intro hb h;exact bP 9 M.nQ
  intro hb h;refine cB 6 h ?_ ?_
  ·intro hb h;exact bP 13 M.nQ
  intro hb h;refine cB 6 h ?_ ?_
  ·intro hb h;obtain ⟨r7,zG,h⟩:=aB h;refine fP 6 (fO zG) ?_;intro w M;exact bP 7 M.nQ
  intro hb h;refine cB 6 h ?_ ?_
  ·intro hb h;obtain ⟨r8,BF,h⟩:=aB h;refine fP 6 (fO BF) ?_;intro w M;exact bP 7 M.nQ
  intro hb h;obtain ⟨r9,EK,h⟩:=aB h;refine fP 8 (fO EK) ?_;intro w M;exact bP 4 M.nQ
 intro hb h;refine cB 14 h ?_ ?_
 ·intro hb h;obtain ⟨Cd,BG,h⟩:=aB h;refine fP 5 (eG BG) ?_;intro w M;exact bP 6 M.nQ
 intro hb h;refine cB 7 h ?_ ?_
 ·intro hb h;obtain ⟨Al,Ap,h⟩:=aB h;refine fP 5 (eG Ap) ?_;intro w M;exact bP 6 M.nQ
 intro hb h;refine aH 4 ?_;intro a K;refine aK (fun w=>Mem _ _ w _) [0,0,0,0,1,0,0,0,0,1,0,0,0,0,0,1,0,0,0] aQ aQ M.drew ?_;replace M:=M.drew;revert a;obtain ⟨AE,Fl,h⟩:=aB h;refine rU 4 (eG Fl) ?_;intro w M;obtain ⟨B1,Cx,h⟩:=aB h;refine rU 4 (eG Cx) ?_;intro w M;obtain ⟨IX,Fm,h⟩:=aB h;refine rU 5 (eG Fm) ?_;intro w M;refine cB 18 h ?_ ?_
 ·intro hb h;exact bP 9 M.nQ
 intro hb h;refine cB 6 h ?_ ?_
 ·intro hb h;exact bP 9 M.nQ
 intro hb h;refine cB 6 h ?_ ?_
 ·intro hb h;exact bP 9 M.nQ
 intro hb h;refine cB 6 h ?_ ?_
 ·intro hb h;exact bP 13 M.nQ
 intro hb h;refine cB 6 h ?_ ?_
 ·intro hb h;obtain ⟨J5,G6,h⟩:=aB h;refine fP 6 (fO G6) ?_;intro w M;exact bP 7 M.nQ
 intro hb h;refine cB 6 h ?_ ?_
 ·intro hb h;obtain ⟨r16,DS,h⟩:=aB h;refine fP 6 (fO DS) ?_;intro w M;exact bP 7 M.nQ
 intro hb h;obtain ⟨Lw,K9,h⟩:=aB h;refine fP 8 (fO K9) ?_;intro w M;exact bP 4 M.nQ
theorem Ha {N:Nat} {s:aR} {w0:World} {r:aR} (h:tI N s=some r) :
  lL 141 #[.string (bs s)] w0 (Xz r w0):=by
 refine gE Tryz.func141 Tryz.ntmps141 ?_;intro M;unfold tI at h;obtain ⟨_,h0,h⟩:=aB h;refine aH 10 ?_;have h0:=Qz h0;refine Za (fun _ K=>QJ (C:=(cI .u8)) rfl nI rfl (by rw [z5];rfl) rfl K rfl rfl M h0) ?_;rintro _ w ⟨A,c,rfl,M⟩;refine pM 10 0 [0] [] (fun ZL ZM (⟨l2,i⟩:gL) a w=>∃(A2:Option Addr) (c2:Nat),Kn a 32 ((3,.slice A2 l2.length c2)::(4,I i)::ZL)∧jL w0 w [.row 5 1 A2 l2.length c2 ((cI .u8).all l2)]) M.oQ ?_ ?_
 ·rintro ⟨l9,i4⟩ a w ⟨A9,c9,K,M⟩ h
  revert a;refine aH 5 ?_;refine jO (fun _ K=>zF rfl nI SV Ok K rfl (p9 (C:=(cI .u8)) 0 rfl rfl)) M ?_;exact bP 4 M.nQ
 rintro kk aA ⟨l2,i⟩ a w hk1 ⟨A2,c2,K,M⟩ h;unfold oE at h;revert a;refine cB 9 h ?_ ?_
 ·intro hb h;refine pM 10 2 [0,4] [] (fun ZL ZM (⟨l5,k3⟩:gL) a w=>∃(A5:Option Addr) (c5:Nat),Kn a 32 ((3,.slice A5 l5.length c5)::(5,I k3)::ZL)∧jL w0 w [.row 5 1 A5 l5.length c5 ((cI .u8).all l5)]) M.oQ ?_ ?_
  ·rintro ⟨l8,k6⟩ a w ⟨A8,c8,K,M⟩ h
   revert a;obtain ⟨i3,hx,h⟩:=cL h;refine kN 6 hx ?_;exact iG 2 (l8,i3) M.oQ
  rintro kk aA ⟨l5,k3⟩ a w hk2 ⟨A5,c5,K,M⟩ h;unfold qJ at h;revert a;refine cB 7 h ?_ ?_
  ·intro hb h;obtain ⟨b3,_,h⟩:=aB h;refine aH 10 ?_;obtain ⟨_,h0,h⟩:=aB h;have h0:=qB h0;refine aH 3 ?_;refine Za (fun _ K=>bS rfl nI z5 K (vs:=[(0,.int .u8 (iH.wrap (48+(BJ .u8 (jN .u8 (b3.toNat:Int) k3) 1))))]) (cs:=[.int .u8 (iH.wrap (48+(BJ .u8 (jN .u8 (b3.toNat:Int) k3) 1)))]) rfl aQ rfl rfl M) ?_;rintro _ w ⟨gs3,rfl,M⟩;replace M:=M.fX 0 rfl (cI .u8) ([iH.wrap (48+(BJ .u8 (jN .u8 (b3.toNat:Int) k3) 1))]:List Int) (n:=1) rfl rfl rfl;obtain ⟨l7,Ao,h⟩:=aB h;refine Za (fun _ K=>fQ (C:=(cI .u8)) (xs:=l5) (ys:=([iH.wrap (48+(BJ .u8 (jN .u8 (b3.toNat:Int) k3) 1))]:List Int)) rfl nI rfl z5 rfl rfl K rfl rfl 1 M rfl ((p9 (C:=(cI .u8)) 0 rfl rfl) _ M) Ao) ?_;rintro _ w ⟨A7,c7,rfl,M⟩;obtain ⟨k5,hx,h⟩:=cL h;refine kN 7 hx ?_;exact iG 2 (l7,k5) (M.pick [1] aL)
  intro hb h;exact jY 3 (hk2 (l5,k3)) M.oQ
 intro hb h;exact jY 3 (hk1 (l2,i)) M.oQ
theorem Fp {N:Nat} {b:aR} {w0:World} {r:Int} (h:pE N b=some r) :
  lL 142 #[.string (bs b)] w0 (zO r w0):=by
 refine gE Tryz.func142 Tryz.ntmps142 ?_;intro M;unfold pE at h;refine pM 17 0 [0] [] (fun ZL ZM (⟨n,i⟩:aN) a w=>Kn a 20 ((3,I n)::(4,I i)::ZL)∧jL w0 w []) M.nQ ?_ ?_
 ·rintro ⟨n4,i4⟩ a w ⟨K,M⟩ h
  revert a;exact bP 9 M.nQ
 rintro kk aA ⟨n,i⟩ a w hk1 ⟨K,M⟩ h;unfold oP at h;revert a;refine cB 9 h ?_ ?_
 ·intro hb h;obtain ⟨b3,_,h⟩:=aB h;obtain ⟨n3,hx,h⟩:=cL h;refine kN 13 hx ?_;obtain ⟨i3,hx,h⟩:=cL h;refine kN 6 hx ?_;exact iG 2 (n3,i3) M.nQ
 intro hb h;exact jY 3 (hk1 (n,i)) M.nQ
theorem E7 {p:Prop} (h:p:=by exact D4 K rfl (jD K rfl) ⟨_,rfl,rfl,M.pick [] aL⟩):p:=h
theorem IT (N:Nat):∀(fu:Nat) (n:Int) (size:Int) (w0:World)  (r:aR) (h:kO N fu n size=some r),
  lL 168 #[I n,I size] w0 fun v w'=>v = .string (bs r)∧jL w0 w' []:=by
 intro fu
 induction fu with
 | zero=>intros;rename_i h;unfold kO at h;cases h
 | succ fu ih=>
  intro n size w0 r h;refine qC Tryz.func168 rfl Tryz.ntmps168 rfl ?_;intro a K;have M:=Mem.start w0;have K:Kn a 19 [(0,_),(1,_)]:=K;unfold kO at h;refine wp_seq (Ea ?_);refine SU K M ?_;clear K;intro a K;refine wnQ (wY (wp_seq (wp_seq (Ea ?_))));refine SU K M ?_;clear K;refine ZP M ?_;intro a K;refine wnQ (wY ?_);refine YF K rfl (fun hb=>?_) (fun hb=>?_)
  ·have h:=Wj hb h;refine wp_seq (Ea ?_);refine SU K M ?_;clear K;intro a K;refine wnQ (wY (wp_ret (QL ?_)));cases h;exact E7
  have h:=Qy hb h;refine wp_skip (wY (wp_seq ?_));refine Nw (fun w=>Mem _ _ w _) [0,0,0,0,1,0,0,0,0,1,1,0,0] 13 [0,1,2,3,4,5,6,7,8,9,10,11,12] aQ aQ aQ rfl M.drew ?_;replace M:=M.drew;refine LU 0 [1,2,3,4,5,6,7,8,9,10,11,12] aQ rfl K (cA rfl) rfl rfl (tO rfl K rfl) ?_;clear K;intro a K;refine LU 1 [2,3,4,5,6,7,8,9,10,11,12] aQ rfl K (cA rfl) rfl rfl (QC rfl K rfl rfl aL) ?_;clear K;intro a K;refine LU 2 [3,4,5,6,7,8,9,10,11,12] aQ rfl K (cA rfl) rfl rfl (tO rfl K rfl) ?_;clear K;intro a K;refine LU 3 [4,5,6,7,8,9,10,11,12] aQ rfl K (cA rfl) rfl rfl (I1 rfl K rfl rfl) ?_;clear K;intro a K;refine LU 5 [4,6,7,8,9,10,11,12] aQ rfl K (cA rfl) rfl rfl (tO rfl K rfl) ?_;clear K;intro a K;refine LU 6 [4,7,8,9,10,11,12] aQ rfl K (cA rfl) rfl rfl (YC rfl K rfl rfl aL) ?_;clear K;intro a K;refine LU 7 [4,8,9,10,11,12] aQ rfl K (cA rfl) rfl rfl (I3 rfl rfl SV K rfl) ?_;clear K;intro a K;refine LU 8 [4,9,10,11,12] aQ rfl K (cA rfl) rfl rfl (nM rfl K rfl rfl) ?_;clear K;intro a K;refine VM [4,9] aQ ⟨?_,?_,trivial⟩
  ·
   obtain ⟨r2,cR,h⟩:=aB h;refine ST [9,10,11,12] aQ rfl K (cA rfl) rfl rfl (oI (vs:=[I (aC.wrap (gI n 2)),I (aC.wrap (size-1))]) (cap:=[]) rfl (B8 168 aQ) K rfl rfl (ih (aC.wrap (gI n 2)) (aC.wrap (size-1)) _  r2 cR)) ?_;clear K;rintro _ a w ⟨rfl,Zq⟩ K;replace M:=M.call Zq;clear Zq;refine ⟨fun _=>M.pick [] aL,?_⟩;refine VM [9] aQ ⟨?_,trivial⟩;refine ST [10,11,12] aQ rfl K (cA rfl) rfl rfl (bS rfl nI z5 K (vs:=[(0,.int .u8 (iH.wrap (48+(iH.wrap (mN n 2)))))]) (cs:=[.int .u8 (iH.wrap (48+(iH.wrap (mN n 2))))]) rfl aQ rfl rfl M) ?_;have M0:=M;clear K M;rintro _ a w ⟨gs,rfl,M⟩ K;replace M:=M.fX 0 rfl (cI .u8) ([iH.wrap (48+(iH.wrap (mN n 2)))]:List Int) (n:=1) rfl rfl rfl;clear M0;refine ⟨fun _=>M.pick [] aL,?_⟩;refine VM [10] aQ ⟨?_,trivial⟩;refine ST [11,12] aQ rfl K (cA rfl) rfl rfl (LI rfl nI SV Ok K rfl M ((p9 (C:=(cI .u8)) 0 rfl rfl) _ M)) ?_;clear K M;rintro _ a w ⟨rfl,M⟩ K;refine ⟨fun _=>M.pick [] aL,?_⟩;obtain ⟨s,h_s,h⟩:=aB h;refine LU 11 [12] aQ rfl K (cA rfl) rfl rfl (Ny rfl K rfl rfl h_s) ?_;clear K;intro a K;refine LU 12 [] aQ rfl K (cA rfl) rfl rfl (yP rfl K rfl) ?_;clear K;intro a K;refine aBj ?_;refine wY (wp_ret ?_);cases h;exact E7
  ·
   refine ST [4,10,11,12] aQ rfl K (cA rfl) rfl rfl (bS rfl nI z5 K (vs:=[(0,.int .u8 (iH.wrap (48+(iH.wrap (mN n 2)))))]) (cs:=[.int .u8 (iH.wrap (48+(iH.wrap (mN n 2))))]) rfl aQ rfl rfl M) ?_;have M0:=M;clear K M;rintro _ a w ⟨gs2,rfl,M⟩ K;replace M:=M.fX 0 rfl (cI .u8) ([iH.wrap (48+(iH.wrap (mN n 2)))]:List Int) (n:=1) rfl rfl rfl;clear M0;refine ⟨fun _=>M.pick [] aL,?_⟩;refine VM [4,10] aQ ⟨?_,?_,trivial⟩
   ·
    obtain ⟨r3,gP,h⟩:=aB h;refine ST [10,11,12] aQ rfl K (cA rfl) rfl rfl (oI (vs:=[I (aC.wrap (gI n 2)),I (aC.wrap (size-1))]) (cap:=[]) rfl (B8 168 aQ) K rfl rfl (ih (aC.wrap (gI n 2)) (aC.wrap (size-1)) _  r3 gP)) ?_;clear K;rintro _ a w ⟨rfl,Zq⟩ K;replace M:=M.call Zq;clear Zq;refine ⟨fun _=>M.pick [] aL,?_⟩;refine VM [10] aQ ⟨?_,trivial⟩;refine ST [11,12] aQ rfl K (cA rfl) rfl rfl (LI rfl nI SV Ok K rfl M ((p9 (C:=(cI .u8)) 0 rfl rfl) _ M)) ?_;clear K M;rintro _ a w ⟨rfl,M⟩ K;refine ⟨fun _=>M.pick [] aL,?_⟩;obtain ⟨s2,aP6,h⟩:=aB h;refine LU 11 [12] aQ rfl K (cA rfl) rfl rfl (Ny rfl K rfl rfl aP6) ?_;clear K;intro a K;refine LU 12 [] aQ rfl K (cA rfl) rfl rfl (yP rfl K rfl) ?_;clear K;intro a K;refine aBj ?_;refine wY (wp_ret ?_);cases h;exact E7
   ·
    refine ST [4,11,12] aQ rfl K (cA rfl) rfl rfl (LI rfl nI SV Ok K rfl M ((p9 (C:=(cI .u8)) 0 rfl rfl) _ M)) ?_;clear K M;rintro _ a w ⟨rfl,M⟩ K;refine ⟨fun _=>M.pick [] aL,?_⟩;refine VM [4] aQ ⟨?_,trivial⟩;obtain ⟨r4,lJ,h⟩:=aB h;refine ST [11,12] aQ rfl K (cA rfl) rfl rfl (oI (vs:=[I (aC.wrap (gI n 2)),I (aC.wrap (size-1))]) (cap:=[]) rfl (B8 168 aQ) K rfl rfl (ih (aC.wrap (gI n 2)) (aC.wrap (size-1)) _  r4 lJ)) ?_;clear K;rintro _ a w ⟨rfl,Zq⟩ K;replace M:=M.call Zq;clear Zq;refine ⟨fun _=>M.pick [] aL,?_⟩;obtain ⟨s3,aP7,h⟩:=aB h;refine LU 11 [12] aQ rfl K (cA rfl) rfl rfl (Ny rfl K rfl rfl aP7) ?_;clear K;intro a K;refine LU 12 [] aQ rfl K (cA rfl) rfl rfl (yP rfl K rfl) ?_;clear K;intro a K;refine aBj ?_;refine wY (wp_ret ?_);cases h;exact E7
theorem wQ {N:Nat} {n size:Int} {w0:World} {r:aR} (h:oF N n size=some r) :
  Calls Tryz.prog 168 #[I n,I size] w0 fun e w'=>∃v,e = .returned v∧v = .string (bs r)∧jL w0 w' []:=IT N N n size w0 r h
theorem DW {N:Nat} {lens:List Int} {K7:Option Addr} {K8:Nat} {w0:World} {r:List aR} (h:nE N lens=some r) (aFC:SL w0 (cI .i64) K7 lens) (aFD:lens.length≤K8) :
  lL 144 #[.slice K7 lens.length K8] w0 fun v w'=>∃A0 c0,v = .slice A0 r.length c0∧jL w0 w' [.row 9 1 A0 r.length c0 (cS.all r)]:=by
 refine gE Tryz.func144 Tryz.ntmps144 ?_;intro M;unfold nE at h;obtain ⟨x2,hx,h⟩:=cL h;refine aH 8 ?_;refine jO (fun _ K=>V4 hx (AV rfl RN K rfl)) M ?_;obtain ⟨l2,z8,h⟩:=aB h;refine Za (fun _ K=>sJ (C:=cS) (z:=([]:aR)) rfl PP rfl z9 rfl K rfl rfl M z8) ?_;rintro _ w ⟨A,c,rfl,M⟩;refine pM 16 0 [0] [] (fun ZL ZM (⟨l3,next,last,size⟩:Pf) a w=>Kn a 42 ((3,.slice A l3.length c)::(4,I next)::(5,I last)::(6,I size)::ZL)∧jL w0 w [.row 9 1 A l3.length c (cS.all l3)]) M.oQ ?_ ?_
 ·rintro ⟨l10,aKo,aMk,aMl⟩ a w ⟨K,M⟩ h
  revert a;exact bP 9 M.oQ
 rintro kk aA ⟨l3,next,last,size⟩ a w hk1 ⟨K,M⟩ h;unfold mV at h;revert a;refine cB 7 h ?_ ?_
 ·intro hb h;refine pM 10 2 [0,6] [] (fun ZL ZM (⟨l6,Pj,last3,i4⟩:Pf) a w=>Kn a 42 ((3,.slice A l6.length c)::(4,I Pj)::(5,I last3)::(7,I i4)::ZL)∧jL w0 w [.row 9 1 A l6.length c (cS.all l6)]) M.oQ ?_ ?_
  ·rintro ⟨l9,YT,aDF,i9⟩ a w ⟨K,M⟩ h
   revert a;obtain ⟨aDG,hx,h⟩:=cL h;refine kN 6 hx ?_;exact iG 2 (l9,YT,aDF,aDG) M.oQ
  rintro kk aA ⟨l6,Pj,last3,i4⟩ a w hk2 ⟨K,M⟩ h;unfold lD at h;revert a;refine cB 9 h ?_ ?_
  ·intro hb h;obtain ⟨e5,_,h⟩:=aB h;refine cB 15 h ?_ ?_
   ·intro hb h;obtain ⟨i7,hx,h⟩:=cL h;refine kN 7 hx ?_;exact iG 2 (l6,Pj,last3,i7) M.oQ
   intro hb h;refine aH 8 ?_;obtain ⟨_,h0,h⟩:=aB h;have h0:=qB h0;obtain ⟨aDD,hx,h⟩:=cL h;refine kN 1 hx ?_;refine aH 14 ?_;obtain ⟨r4,lJ,h⟩:=aB h;refine fP 0 (wQ lJ) ?_;intro w M;obtain ⟨e6,_,h⟩:=aB h;refine aH 1 ?_;obtain ⟨l8,S1,h⟩:=aB h;refine Zb (fun _ K=>gD (el:=r4) rfl sz9 rfl rfl K rfl rfl rfl 0 M rfl S1) ?_;intro _ w M;have hl:=jI S1;intro a K;try rw [hl] at M
   try rw [hl] at K
   clear hl;revert a;obtain ⟨aDE,hx,h⟩:=cL h;refine kN 5 hx ?_;obtain ⟨i8,hx,h⟩:=cL h;refine kN 6 hx ?_;exact iG 2 (l8,aDE,size,i8) M.oQ
  intro hb h;exact jY 3 (hk2 (l6,Pj,last3,i4)) M.oQ
 intro hb h;exact jY 3 (hk1 (l3,next,last,size)) M.oQ
theorem Fq {N:Nat} {b:aR} {w0:World} {r:aR} (h:lI N b=some r) :
  lL 169 #[.string (bs b)] w0 (Xz r w0):=by
 refine gE Tryz.func169 Tryz.ntmps169 ?_;intro M;unfold lI at h;obtain ⟨_,h0,h⟩:=aB h;refine aH 11 ?_;have h0:=Qz h0;refine Za (fun _ K=>QJ (C:=(cI .u8)) rfl nI rfl (by rw [z5];rfl) rfl K rfl rfl M h0) ?_;rintro _ w ⟨A,c,rfl,M⟩;refine pM 10 0 [0] [] (fun ZL ZM (⟨l2,i⟩:gL) a w=>∃(A2:Option Addr) (c2:Nat),Kn a 46 ((3,.slice A2 l2.length c2)::(4,I i)::ZL)∧jL w0 w [.row 5 1 A2 l2.length c2 ((cI .u8).all l2)]) M.oQ ?_ ?_
 ·rintro ⟨l5,i4⟩ a w ⟨A5,c5,K,M⟩ h
  revert a;refine aH 5 ?_;refine jO (fun _ K=>zF rfl nI SV Ok K rfl (p9 (C:=(cI .u8)) 0 rfl rfl)) M ?_;exact bP 4 M.nQ
 rintro kk aA ⟨l2,i⟩ a w hk1 ⟨A2,c2,K,M⟩ h;unfold mA at h;revert a;refine cB 9 h ?_ ?_
 ·intro hb h;refine pM 17 2 [0,3,4] [] (fun ZL ZM (⟨n4,k5⟩:aN) a w=>Kn a 46 ((5,I n4)::(6,I k5)::ZL)∧jL w0 w [.row 5 1 A2 l2.length c2 ((cI .u8).all l2)]) M.oQ ?_ ?_
  ·rintro ⟨n9,k12⟩ a w ⟨K,M⟩ h
   revert a;refine aH 6 ?_;refine Za (fun _ K=>bS rfl nI z5 K (vs:=[(0,.int .u8 (iH.wrap n9))]) (cs:=[.int .u8 (iH.wrap n9)]) rfl aQ rfl rfl M) ?_;rintro _ w ⟨gs2,rfl,M⟩;replace M:=M.fX 0 rfl (cI .u8) ([iH.wrap n9]:List Int) (n:=1) rfl rfl rfl;obtain ⟨l4,Cy,h⟩:=aB h;refine Za (fun _ K=>fQ (C:=(cI .u8)) (xs:=l2) (ys:=([iH.wrap n9]:List Int)) rfl nI rfl z5 rfl rfl K rfl rfl 1 M rfl ((p9 (C:=(cI .u8)) 0 rfl rfl) _ M) Cy) ?_;rintro _ w ⟨A4,c4,rfl,M⟩;obtain ⟨i3,hx,h⟩:=cL h;refine kN 7 hx ?_;exact iG 2 (l4,i3) (M.pick [1] aL)
  rintro kk aA ⟨n4,k5⟩ a w hk2 ⟨K,M⟩ h;unfold kQ at h;revert a;refine cB 9 h ?_ ?_
  ·intro hb h;obtain ⟨n7,hx,h⟩:=cL h;refine kN 8 hx ?_;refine kJ 9 31 h ?_ ?_
   ·intro hb h;obtain ⟨b4,_,h⟩:=aB h;refine cB 7 h ?_ ?_
    ·intro hb h;obtain ⟨n8,hx,h⟩:=cL h;refine kN 3 hx ?_;obtain ⟨k9,hx,h⟩:=cL h;refine kN 6 hx ?_;exact iG 2 (n8,k9) M.oQ
    intro hb h;obtain ⟨k10,hx,h⟩:=cL h;refine kN 6 hx ?_;exact iG 2 (n7,k10) M.oQ
   intro hb h;obtain ⟨k11,hx,h⟩:=cL h;refine kN 14 hx ?_;exact iG 2 (n7,k11) M.oQ
  intro hb h;exact jY 3 (hk2 (n4,k5)) M.oQ
 intro hb h;exact jY 3 (hk1 (l2,i)) M.oQ
theorem DX {N:Nat} {d:Int} {w0:World} {r:Int} (h:pR N d=some r) :
  lL 173 #[I d] w0 (zO r w0):=by
 refine gE Tryz.func173 Tryz.ntmps173 ?_;intro M;unfold pR at h;obtain ⟨k,hx,h⟩:=cL h;refine kN 17 hx ?_;refine pM 3 0 [] [] (fun ZL ZM (⟨n,k2⟩:aN) a w=>Kn a 16 ((3,I n)::(4,I k2)::ZL)∧jL w0 w []) M.nQ ?_ ?_
 ·rintro ⟨n4,k5⟩ a w ⟨K,M⟩ h
  revert a;exact bP 9 M.nQ
 rintro kk aA ⟨n,k2⟩ a w hk1 ⟨K,M⟩ h;unfold mW at h;revert a;refine cB 7 h ?_ ?_
 ·intro hb h;obtain ⟨n3,hx,h⟩:=cL h;refine kN 7 hx ?_;obtain ⟨k4,hx,h⟩:=cL h;refine kN 6 hx ?_;exact iG 2 (n3,k4) M.nQ
 intro hb h;exact jY 3 (hk1 (n,k2)) M.nQ
theorem Hx {N:Nat} {UV guess:Int} {w0:World} {r:Int} (h:pX N UV guess=some r) :
  lL 193 #[I UV,I guess] w0 (zO r w0):=by
 refine gE Tryz.func193 Tryz.ntmps193 ?_;intro M;unfold pX at h;obtain ⟨d,hx,h⟩:=cL h;refine kN 10 hx ?_;refine pM 4 0 [] [] (fun ZL ZM (d2:Int) a w=>Kn a 18 ((5,I d2)::ZL)∧jL w0 w []) M.nQ ?_ ?_
 ·rintro d5 a w ⟨K,M⟩ h
  revert a;refine pM 4 2 [] [] (fun ZL ZM (d6:Int) a w=>Kn a 18 ((5,I d6)::ZL)∧jL w0 w []) M.nQ ?_ ?_
  ·rintro d9 a w ⟨K,M⟩ h
   revert a;exact bP 9 M.nQ
  rintro kk aA d6 a w hk2 ⟨K,M⟩ h;unfold fL at h;revert a;refine cB 7 h ?_ ?_
  ·intro hb h;obtain ⟨d8,hx,h⟩:=cL h;refine kN 6 hx ?_;exact iG 3 d8 M.nQ
  intro hb h;exact jY 3 (hk2 d6) M.nQ
 rintro kk aA d2 a w hk1 ⟨K,M⟩ h;unfold gN at h;revert a;refine cB 7 h ?_ ?_
 ·intro hb h;obtain ⟨d4,hx,h⟩:=cL h;refine kN 6 hx ?_;exact iG 3 d4 M.nQ
 intro hb h;exact jY 3 (hk1 d2) M.nQ
theorem Hb {N:Nat} {lE mS:Int} {iI:List Int} {kC:Option Addr} {kD:Nat} {kind:Int} {w0:World} {r:List Int} (h:sN N lE mS iI kind=some r) (xN:SL w0 (cI .i64) kC iI) (zS:iI.length≤kD) :
  lL 172 #[.agg #[I lE,I mS,.slice kC iI.length kD],I kind] w0 (aLC r w0):=by
 refine gE Tryz.func172 Tryz.ntmps172 ?_;intro M;unfold sN at h;refine eE 2 ?_;intro Ie w M;refine aH 15 ?_;replace M:=Mem.cC 3 1 (cI .i64) M;refine pM 0 0 [1,2] [1] (fun ZL ZM (⟨l5,y2⟩:gL) a w=>∃(A4:Option Addr) (c4:Nat),Kn a 34 ((5,.slice A4 l5.length c4)::(6,I y2)::ZL)∧jL w0 w (.row 3 1 A4 l5.length c4 ((cI .i64).all l5)::ZM)) (M.pick [0,1] aL) ?_ ?_
 ·rintro ⟨l12,y5⟩ a w ⟨A11,c11,K,M⟩ h
  revert a;exact bP 9 M.oQ
 rintro kk aA ⟨l5,y2⟩ a w hk1 ⟨A4,c4,K,M⟩ h;unfold iZ at h;revert a;refine cB 9 h ?_ ?_
 ·intro hb h;refine pM 10 2 [1,2,6] [1] (fun ZL ZM (⟨l8,x7⟩:gL) a w=>∃(A7:Option Addr) (c7:Nat),Kn a 34 ((5,.slice A7 l8.length c7)::(7,I x7)::ZL)∧jL w0 w (.row 3 1 A7 l8.length c7 ((cI .i64).all l8)::ZM)) (M.pick [0,1] aL) ?_ ?_
  ·rintro ⟨Qa,x10⟩ a w ⟨Us,c10,K,M⟩ h
   revert a;obtain ⟨y4,hx,h⟩:=cL h;refine kN 6 hx ?_;exact iG 2 (Qa,y4) (M.pick [0,1] aL)
  rintro kk aA ⟨l8,x7⟩ a w hk2 ⟨A7,c7,K,M⟩ h;unfold kS at h;revert a;refine cB 9 h ?_ ?_
  ·intro hb h;refine aH 4 ?_;intro a K;refine aK (fun w=>Mem _ _ w _) [0,0,0,0,1,0,0,0,0,1,1,1,1,0] aQ aQ (M.pick [1] aL).drew ?_;replace M:=M.drew;revert a;obtain ⟨IX,Fm,h⟩:=aB h;refine rU 4 (eG Fm) ?_;intro w M;obtain ⟨J5,G6,h⟩:=aB h;refine rU 4 (vP G6) ?_;intro w M;obtain ⟨r16,DS,h⟩:=aB h;refine rU 0 (Hx DS) ?_;intro w M;refine Gf (fun _ K=>bS rfl pI z3 K (vs:=[(0,I r16)]) (cs:=[I r16]) rfl aQ rfl rfl M) ?_;rintro _ w ⟨gs5,rfl,M⟩;replace M:=M.fX 0 rfl (cI .i64) ([r16]:List Int) (n:=1) rfl rfl rfl;refine ⟨M.toS,?_⟩;obtain ⟨l10,NE,h⟩:=aB h;refine Gf (fun _ K=>fQ (C:=(cI .i64)) (xs:=l8) (ys:=([r16]:List Int)) rfl pI rfl z3 rfl rfl K rfl rfl 1 M rfl ((p9 (C:=(cI .i64)) 0 rfl rfl) _ M) NE) ?_;rintro _ w ⟨A9,c9,rfl,M⟩;refine ⟨M.toS,?_⟩;obtain ⟨x9,hx,h⟩:=cL h;refine kN 7 hx ?_;exact iG 2 (l10,x9) (M.pick [1,2] aL)
  intro hb h;exact jY 3 (hk2 (l8,x7)) (M.pick [0,1] aL)
 intro hb h;exact jY 3 (hk1 (l5,y2)) (M.pick [0,1] aL)
theorem LY {N:Nat} {d:Int} {w0:World} {r:aR} (h:vB N d=some r) :
  lL 174 #[I d] w0 (Xz r w0):=by
 refine gE Tryz.func174 Tryz.ntmps174 ?_;intro M;unfold vB at h;obtain ⟨r2,cR,h⟩:=aB h;refine fP 8 (DX cR) ?_;intro w M;refine kJ 10 9 h ?_ ?_
 ·intro hb h;exact bP 15 M.nQ
 intro hb h;refine cB 6 h ?_ ?_
 ·intro hb h;exact bP 8 M.nQ
 intro hb h;refine cB 7 h ?_ ?_
 ·intro hb h;obtain ⟨r3,gP,h⟩:=aB h;refine fP 4 (wQ gP) ?_;intro w M;exact bP 6 M.nQ
 intro hb h;obtain ⟨_,h0,h⟩:=aB h;have h0:=qB h0;refine aH 11 ?_;obtain ⟨r4,lJ,h⟩:=aB h;refine fP 0 (wQ lJ) ?_;intro w M;exact bP 4 M.nQ
theorem In {N:Nat} {lE mS:Int} {iI:List Int} {kC:Option Addr} {kD:Nat} {w0:World} {r:Bool} (h:qX N lE mS iI=some r) (xN:SL w0 (cI .i64) kC iI) (zS:iI.length≤kD) :
  lL 171 #[.agg #[I lE,I mS,.slice kC iI.length kD]] w0 (DQ r w0):=by
 refine gE Tryz.func171 Tryz.ntmps171 ?_;intro M;unfold qX at h;refine eE 2 ?_;intro Ie w M;obtain ⟨r2,cR,h⟩:=aB h;refine fP 8 (aT cR) ?_;intro w M;refine kJ 2 8 h ?_ ?_
 ·intro hb h;exact bP 26 M.nQ
 intro hb h;obtain ⟨r3,gP,h⟩:=aB h;refine fP 2 (aT gP) ?_;intro w M;refine kJ 3 14 h ?_ ?_
 ·intro hb h;exact bP 20 M.nQ
 intro hb h;refine cB 12 h ?_ ?_
 ·intro hb h;exact bP 7 M.nQ
 intro hb h;refine pM 9 0 [1] [] (fun ZL ZM (i:Int) a w=>Kn a 39 ((3,I i)::ZL)∧jL w0 w [.blk Ie 45 [I lE,I mS,.slice kC iI.length kD]]) M.oQ ?_ ?_
 ·rintro i4 a w ⟨K,M⟩ h
  revert a;exact bP 8 M.nQ
 rintro kk aA i a w hk1 ⟨K,M⟩ h;unfold lR at h;revert a;refine cB 10 h ?_ ?_
 ·intro hb h;obtain ⟨e2,_,h⟩:=aB h;refine aH 11 ?_;obtain ⟨r5,qA,h⟩:=aB h;refine fP 0 (aT qA) ?_;intro w M;refine cB 3 h ?_ ?_
  ·intro hb h;exact bP 11 M.nQ
  intro hb h;obtain ⟨i3,hx,h⟩:=cL h;refine kN 6 hx ?_;exact iG 2 i3 M.oQ
 intro hb h;exact jY 3 (hk1 i) M.oQ
theorem Io {N:Nat} {eA fY:Int} {fZ:List Int} {kY:Option Addr} {kZ:Nat} {o:Int} {p2:List Int} {aFF:Option Addr} {aFG:Nat} {w0:World} {r:lC} (h:nV N eA fY fZ o p2=some r) (AN:SL w0 (cI .i64) kY fZ) (IG:fZ.length≤kZ) (aPP:SL w0 (cI .i64) aFF p2) (aPQ:p2.length≤aFG) :
  lL 147 #[.agg #[I eA,I fY,.slice kY fZ.length kZ],I o,.slice aFF p2.length aFG] w0 (VS r w0):=by
 refine gE Tryz.func147 Tryz.ntmps147 ?_;intro M;unfold nV at h;refine eE 2 ?_;intro jM w M;obtain ⟨r2,cR,h⟩:=aB h;refine fP 8 (In cR) ?_;intro w M;refine cB 3 h ?_ ?_
 ·intro hb h;exact eB 8 M.nQ
 intro hb h;obtain ⟨r3,gP,h⟩:=aB h;refine fP 6 (aT gP) ?_;intro w M;refine cB 3 h ?_ ?_
 ·intro hb h;exact eB 8 M.nQ
 intro hb h;obtain ⟨r4,lJ,h⟩:=aB h;refine fP 6 (uD lJ) ?_;intro w M;refine cB 9 h ?_ ?_
 ·intro hb h;exact eB 9 M.nQ
 intro hb h;obtain ⟨r5,qA,h⟩:=aB h;refine fP 5 (DW qA) ?_;intro A c w M;obtain ⟨r6,tA,h⟩:=aB h;refine fP 7 (Hb tA) ?_;intro A2 c2 w M;refine aH 15 ?_;replace M:=Mem.cC 5 1 (cI .u8) M;refine pM 0 0 [9,10] [1,2] (fun ZL ZM (⟨l4,i⟩:gL) a w=>∃(A5:Option Addr) (c5:Nat),Kn a 68 ((11,.slice A5 l4.length c5)::(12,I i)::ZL)∧jL w0 w (.row 5 1 A5 l4.length c5 ((cI .u8).all l4)::ZM)) (M.pick [0,1,2] aL) ?_ ?_
 ·rintro ⟨l9,i2⟩ a w ⟨Us,c10,K,M⟩ h
  revert a;refine aH 5 ?_;refine jO (fun _ K=>zF rfl nI SV Ok K rfl (p9 (C:=(cI .u8)) 0 rfl rfl)) M ?_;obtain ⟨B1,Cx,h⟩:=aB h;refine fP 0 (Fq Cx) ?_;intro w M;exact eB 5 M.nQ
 rintro kk aA ⟨l4,i⟩ a w hk1 ⟨A5,c5,K,M⟩ h;unfold lS at h;revert a;refine cB 9 h ?_ ?_
 ·intro hb h;obtain ⟨e9,_,h⟩:=aB h;refine aH 10 ?_;obtain ⟨Al,Ap,h⟩:=aB h;refine fP 0 (DX Ap) ?_;intro w M;refine kJ 11 45 h ?_ ?_
  ·intro hb h;exact eB 22 M.nQ
  intro hb h;obtain ⟨e10,_,h⟩:=aB h;refine cB 8 h ?_ ?_
  ·intro hb h;exact eB 13 M.nQ
  intro hb h;refine aH 7 ?_;obtain ⟨e11,_,h⟩:=aB h;refine aH 2 ?_;obtain ⟨l7,Ao,h⟩:=aB h;refine Za (fun _ K=>Nz rfl nI Ok zu5 K rfl rfl 0 M rfl Ao) ?_;rintro _ w ⟨A8,c8,rfl,M⟩;obtain ⟨e12,_,h⟩:=aB h;refine aH 9 ?_;obtain ⟨AE,Fl,h⟩:=aB h;refine fP 0 (LY Fl) ?_;intro w M;obtain ⟨l8,S1,h⟩:=aB h;refine Za (fun _ K=>Nz rfl nI Ok zu5 K rfl rfl 0 M rfl S1) ?_;rintro _ w ⟨A9,c9,rfl,M⟩;obtain ⟨x4,hx,h⟩:=cL h;refine kN 7 hx ?_;exact iG 2 (l8,x4) (M.pick [0,1,2] aL)
 intro hb h;exact jY 3 (hk1 (l4,i)) (M.pick [0,1,2] aL)
theorem u9 {p:Prop} (h:p:=by exact eB 5 (((Mem.cC 3 1 (cI .i64) M)).pick [0] aL)):p:=h
theorem Dq {N:Nat} {d:aR} {o p2 p3:Int} {p4:List Int} {aCL:Option Addr} {aCM:Nat} {w0:World} {r:pW} (h:sA N d o p2 p3 p4=some r) (aPN:SL w0 (cI .i64) aCL p4) (aPO:p4.length≤aCM) :
  lL 104 #[.string (bs d),I o,I p2,I p3,.slice aCL p4.length aCM] w0 (ZT r w0):=by
 refine gE Tryz.func104 Tryz.ntmps104 ?_;intro M;unfold sA at h;refine eE 2 ?_;intro jM w M;obtain ⟨r2,cR,h⟩:=aB h;refine fP 7 (aT cR) ?_;intro w M;refine kJ 2 26 h ?_ ?_
 ·intro hb h;refine cV 10 ?_;intro w M;exact u9
 intro hb h;obtain ⟨r3,gP,h⟩:=aB h;refine fP 1 (aT gP) ?_;intro w M;refine cB 4 h ?_ ?_
 ·intro hb h;refine cV 3 ?_;intro w M;exact u9
 intro hb h;obtain ⟨r4,lJ,h⟩:=aB h;refine fP 6 (aT lJ) ?_;intro w M;refine cB 3 h ?_ ?_
 ·intro hb h;refine cV 3 ?_;intro w M;exact u9
 intro hb h;obtain ⟨r5,qA,h⟩:=aB h;refine fP 6 (uD qA) ?_;intro w M;refine cB 9 h ?_ ?_
 ·intro hb h;refine cV 4 ?_;intro w M;exact u9
 intro hb h;obtain ⟨r6,tA,h⟩:=aB h;refine fP 5 (DW tA) ?_;intro A c w M;refine cB 11 h ?_ ?_
 ·intro hb h;refine cV 3 ?_;intro w M;exact u9
 intro hb h;obtain ⟨r7,zG,h⟩:=aB h;refine fP 5 (Ha zG) ?_;intro w M;obtain ⟨x2,hx,h⟩:=cL h;refine kN 9 hx ?_;obtain ⟨l2,z8,h⟩:=aB h;refine Za (fun _ K=>sJ (C:=(cI .i64)) (z:=0) rfl pI rfl z3 rfl K rfl rfl M z8) ?_;rintro _ w ⟨A2,c2,rfl,M⟩;refine jO (fun _ K=>bQ rfl K (vs:=[(0,I o),(1,I p2),(2,.slice A2 l2.length c2)]) (cs:=[I o,I p2,.slice A2 l2.length c2]) rfl aQ) M ?_;refine eE 0 ?_;intro dY w M;refine cV 0 ?_;intro w M;refine pM 9 0 [0,1,2,3,4,10,13,15] [2,3] (fun ZL ZM (⟨tE,i,i2⟩:Cf) a w=>Kn a 142 ((14,.string (bs i))::(16,I i2)::ZL)∧jL w0 w (.blk dY 45 [I o,I p2,.slice A2 tE.length c2] :: .row 3 1 A2 tE.length c2 ((cI .i64).all tE)::ZM)) (M.pick [0,1,2,3] aL) ?_ ?_
 ·rintro ⟨aBI,i3,i4⟩ a w ⟨K,M⟩ h
  revert a;obtain ⟨V8,Ye,h⟩:=aB h;refine fP 8 (Io Ye) ?_;intro w M;refine kJ 12 135 h ?_ ?_
  ·intro hb h;refine cV 10 ?_;intro w M;exact u9
  intro hb h;refine cB 6 h ?_ ?_
  ·intro hb h;refine cV 3 ?_;intro w M;exact u9
  intro hb h;refine cV 5 ?_;intro w M;exact eB 4 (M.pick [1] aL)
 rintro kk aA ⟨tE,i,i2⟩ a w hk1 ⟨K,M⟩ h;unfold eY at h;revert a;refine cB 10 h ?_ ?_
 ·intro hb h;obtain ⟨r16,DS,h⟩:=aB h;refine fP 8 (Lt DS) ?_;intro w M;refine cB 14 h ?_ ?_
  ·intro hb h;refine cV 3 ?_;intro w M;exact eB 10 (((Mem.cC 3 1 (cI .i64) M)).pick [0] aL)
  intro hb h;obtain ⟨e5,_,h⟩:=aB h;refine aH 10 ?_;obtain ⟨s5,_,h⟩:=aB h;refine cB 18 h ?_ ?_
  ·intro hb h;refine aH 6 ?_;intro a K;refine aK (fun w=>Mem _ _ w _) [0,0,0,0,0,0,0,0,1,0,0,0] aQ aQ M.drew ?_;replace M:=M.drew;revert a;obtain ⟨_,h0,h⟩:=aB h;have h0:=dG h0;refine aH 7 ?_;obtain ⟨_,h0,h⟩:=aB h;have h0:=dG h0;refine aH 1 ?_;obtain ⟨Lw,K9,h⟩:=aB h;refine rU 0 (vP K9) ?_;intro w M;obtain ⟨x10,hx,h⟩:=cL h;refine gmQ 2 hx ?_;refine aH 2 ?_;intro a K;refine aK (fun w=>Mem _ _ w _) [0,0,0,0,0,1,0,0,0,2] aQ aQ M.drew ?_;replace M:=M.drew;revert a;obtain ⟨Mr,IH,h⟩:=aB h;refine rU 5 (fO IH) ?_;intro w M;obtain ⟨e6,_,h⟩:=aB h;refine aH 3 ?_;obtain ⟨l6,ZW,h⟩:=aB h;refine z7 (fun _ K=>gD (el:=aC.wrap (x10-(aC.wrap (65536*Mr)))) rfl Pr rfl rfl K rfl rfl rfl 1 M rfl ZW) ?_;intro _ w M;have hl:=jI ZW;intro a K;try rw [hl] at M
   try rw [hl] at K
   clear hl;revert a;obtain ⟨US,hx,h⟩:=cL h;refine kN 6 hx ?_;exact iG 2 (l6,s5,US) (M.pick [0,1,2,3] aL)
  intro hb h;refine cB 9 h ?_ ?_
  ·intro hb h;refine cV 3 ?_;intro w M;exact eB 11 (((Mem.cC 3 1 (cI .i64) M)).pick [0] aL)
  intro hb h;refine aH 4 ?_;obtain ⟨s6,_,h⟩:=aB h;refine aH 1 ?_;obtain ⟨TA,RX,h⟩:=aB h;refine fP 0 (Fp RX) ?_;intro w M;obtain ⟨_,h0,h⟩:=aB h;have h0:=qB h0;refine cB 13 h ?_ ?_
  ·intro hb h;obtain ⟨_,h0,h⟩:=aB h;have h0:=qB h0;obtain ⟨FX,hx,h⟩:=cL h;refine kN 6 hx ?_;refine aH 5 ?_;obtain ⟨s7,_,h⟩:=aB h;refine aH 6 ?_;intro a K;refine aK (fun w=>Mem _ _ w _) [0,0,0,0,0,0,0,0,1,0,0,0] aQ aQ M.drew ?_;replace M:=M.drew;revert a;refine aH 4 ?_;obtain ⟨_,h0,h⟩:=aB h;have h0:=dG h0;refine aH 3 ?_;obtain ⟨_,h0,h⟩:=aB h;have h0:=dG h0;refine aH 1 ?_;obtain ⟨Ow,RY,h⟩:=aB h;refine rU 0 (vP RY) ?_;intro w M;obtain ⟨Sv,hx,h⟩:=cL h;refine gmQ 2 hx ?_;refine aH 2 ?_;intro a K;refine aK (fun w=>Mem _ _ w _) [0,0,0,0,0,1,0,0,0,2] aQ aQ M.drew ?_;replace M:=M.drew;revert a;obtain ⟨YL,XL,h⟩:=aB h;refine rU 5 (fO XL) ?_;intro w M;obtain ⟨e7,_,h⟩:=aB h;refine aH 3 ?_;obtain ⟨l7,Ao,h⟩:=aB h;refine z7 (fun _ K=>gD (el:=aC.wrap (Sv-(aC.wrap (65536*YL)))) rfl Pr rfl rfl K rfl rfl rfl 1 M rfl Ao) ?_;intro _ w M;have hl:=jI Ao;intro a K;try rw [hl] at M
   try rw [hl] at K
   clear hl;revert a;obtain ⟨x14,hx,h⟩:=cL h;refine kN 6 hx ?_;exact iG 2 (l7,s7,x14) (M.pick [0,1,2,3] aL)
  intro hb h;refine aH 5 ?_;obtain ⟨s8,_,h⟩:=aB h;refine aH 6 ?_;intro a K;refine aK (fun w=>Mem _ _ w _) [0,0,0,0,0,0,0,0,1,0,0,0] aQ aQ M.drew ?_;replace M:=M.drew;revert a;refine aH 4 ?_;obtain ⟨_,h0,h⟩:=aB h;have h0:=dG h0;refine aH 3 ?_;obtain ⟨_,h0,h⟩:=aB h;have h0:=dG h0;refine aH 1 ?_;obtain ⟨r22,XM,h⟩:=aB h;refine rU 0 (vP XM) ?_;intro w M;obtain ⟨x15,hx,h⟩:=cL h;refine gmQ 2 hx ?_;refine aH 2 ?_;intro a K;refine aK (fun w=>Mem _ _ w _) [0,0,0,0,0,1,0,0,0,2] aQ aQ M.drew ?_;replace M:=M.drew;revert a;obtain ⟨I6,RW,h⟩:=aB h;refine rU 5 (fO RW) ?_;intro w M;obtain ⟨e8,_,h⟩:=aB h;refine aH 3 ?_;obtain ⟨l8,S1,h⟩:=aB h;refine z7 (fun _ K=>gD (el:=aC.wrap (x15-(aC.wrap (65536*I6)))) rfl Pr rfl rfl K rfl rfl rfl 1 M rfl S1) ?_;intro _ w M;have hl:=jI S1;intro a K;try rw [hl] at M
  try rw [hl] at K
  clear hl;revert a;obtain ⟨Oh,hx,h⟩:=cL h;refine kN 6 hx ?_;exact iG 2 (l8,s8,Oh) (M.pick [0,1,2,3] aL)
 intro hb h;exact jY 3 (hk1 (tE,i,i2)) (M.pick [0,1,2,3] aL)
theorem Kh {N:Nat} {v8 sV cP d7 cU:Int} {dE:List Int} {iJ:Option Addr} {iK:Nat} {bX:List aR} {eC:Option Addr} {eD:Nat} {bN bE bF bG bH bO:Int} {aO:List aN} {cE:Option Addr} {cH:Nat} {bI bJ bK aV aW aX aY aZ bA bB bC bD:Int} {aP:List aN} {cD:Option Addr} {cG:Nat} {bL strip:Int} {w0:World} {r:Int} (h:wL N v8 sV cP d7 cU dE bX bN bE bF bG bH bO aO bI bJ bK aV aW aX aY aZ bA bB bC bD aP bL strip=some r) (At:SL w0 (cI .i64) iJ dE) (Au:dE.length≤iK) (yF:SL w0 cS eC bX) (yG:bX.length≤eD) (rG:SL w0 jG cE aO) (rH:aO.length≤cH) (rI:SL w0 jG cD aP) (rJ:aP.length≤cG) :
  lL 102 #[.agg #[I v8,I sV,I cP,I d7,I cU,.slice iJ dE.length iK,.slice eC bX.length eD,I bN,I bE,I bF,I bG,I bH,I bO,.slice cE aO.length cH,I bI,I bJ,I bK,I aV,I aW,I aX,I aY,I aZ,I bA,I bB,I bC,I bD,.slice cD aP.length cG,I bL],I strip] w0 (zO r w0):=by
 refine gE Tryz.func102 Tryz.ntmps102 ?_;intro M;unfold wL at h;refine eE 2 ?_;intro Ca w M;exact bP 19 M.nQ
theorem DY {N:Nat} {l2:List Int} {BW:Option Addr} {BX:Nat} {depth:Int} {w0:World} {r:Bool} (h:sO N l2 depth=some r) (O9:SL w0 (cI .i64) BW l2) (R8:l2.length≤BX) :
  lL 105 #[.slice BW l2.length BX,I depth] w0 (DQ r w0):=by
 refine gE Tryz.func105 Tryz.ntmps105 ?_;intro M;unfold sO at h;refine pM 12 0 [0,1] [] (fun ZL ZM (i:Int) a w=>Kn a 20 ((5,I i)::ZL)∧jL w0 w []) M.nQ ?_ ?_
 ·rintro i4 a w ⟨K,M⟩ h
  revert a;exact bP 8 M.nQ
 rintro kk aA i a w hk1 ⟨K,M⟩ h;unfold mX at h;revert a;refine cB 9 h ?_ ?_
 ·intro hb h;refine Xx 5 ?_;replace M:=M.drew;obtain ⟨e2,_,h⟩:=aB h;refine aH 5 ?_;obtain ⟨_,h0,h⟩:=aB h;have h0:=qB h0;refine cB 5 h ?_ ?_
  ·intro hb h;exact bP 11 M.nQ
  intro hb h;obtain ⟨i3,hx,h⟩:=cL h;refine kN 6 hx ?_;exact iG 2 i3 M.nQ
 intro hb h;exact jY 3 (hk1 i) M.nQ
theorem Ki {N:Nat} {l2:List Int} {BW:Option Addr} {BX:Nat} {depth:Int} {w0:World} {r:aR} (h:qK N l2 depth=some r) (O9:SL w0 (cI .i64) BW l2) (R8:l2.length≤BX) :
  lL 143 #[.slice BW l2.length BX,I depth] w0 (Xz r w0):=by
 refine gE Tryz.func143 Tryz.ntmps143 ?_;intro M;unfold qK at h;refine aH 17 ?_;replace M:=Mem.cC 5 1 (cI .u8) M;refine pM 0 0 [0,1] [] (fun ZL ZM (⟨l4,i2⟩:gL) a w=>∃(A2:Option Addr) (c2:Nat),Kn a 24 ((5,.slice A2 l4.length c2)::(6,I i2)::ZL)∧jL w0 w [.row 5 1 A2 l4.length c2 ((cI .u8).all l4)]) M.oQ ?_ ?_
 ·rintro ⟨l7,i5⟩ a w ⟨A5,c5,K,M⟩ h
  revert a;refine aH 5 ?_;refine jO (fun _ K=>zF rfl nI SV Ok K rfl (p9 (C:=(cI .u8)) 0 rfl rfl)) M ?_;obtain ⟨r5,qA,h⟩:=aB h;refine fP 0 (Fq qA) ?_;intro w M;exact bP 4 M.nQ
 rintro kk aA ⟨l4,i2⟩ a w hk1 ⟨A2,c2,K,M⟩ h;unfold nU at h;revert a;refine cB 9 h ?_ ?_
 ·intro hb h;obtain ⟨e3,_,h⟩:=aB h;refine aH 11 ?_;obtain ⟨r4,lJ,h⟩:=aB h;refine fP 0 (wQ lJ) ?_;intro w M;obtain ⟨l6,ZW,h⟩:=aB h;refine Za (fun _ K=>Nz rfl nI Ok zu5 K rfl rfl 0 M rfl ZW) ?_;rintro _ w ⟨A4,c4,rfl,M⟩;obtain ⟨i4,hx,h⟩:=cL h;refine kN 7 hx ?_;exact iG 2 (l6,i4) M.oQ
 intro hb h;exact jY 3 (hk1 (l4,i2)) M.oQ
theorem CS {p:Prop} (h:p:=by exact eB 8 (((Mem.cC 3 1 (cI .i64) M)).pick [0] aL)):p:=h
theorem IU {N:Nat} {s:aR} {depth n:Int} {w0:World} {r:gL} (h:rZ N s depth n=some r) :
  lL 103 #[.string (bs s),I depth,I n] w0 (aLD r w0):=by
 refine gE Tryz.func103 Tryz.ntmps103 ?_;intro M;unfold rZ at h;obtain ⟨r2,cR,h⟩:=aB h;refine fP 10 (aT cR) ?_;intro w M;refine kJ 2 14 h ?_ ?_
 ·intro hb h;exact eB 14 (((Mem.cC 3 1 (cI .i64) M)).pick [0] aL)
 intro hb h;refine cB 5 h ?_ ?_
 ·intro hb h;exact CS
 intro hb h;refine cB 9 h ?_ ?_
 ·intro hb h;exact CS
 intro hb h;refine cB 15 h ?_ ?_
 ·intro hb h;exact CS
 intro hb h;obtain ⟨r3,gP,h⟩:=aB h;refine fP 5 (Ha gP) ?_;intro w M;refine aH 15 ?_;replace M:=Mem.cC 3 1 (cI .i64) M;refine pM 0 0 [0,1,2,8] [] (fun ZL ZM (⟨l3,i2⟩:gL) a w=>∃(A2:Option Addr) (c2:Nat),Kn a 54 ((9,.slice A2 l3.length c2)::(10,I i2)::ZL)∧jL w0 w [.row 3 1 A2 l3.length c2 ((cI .i64).all l3)]) M.oQ ?_ ?_
 ·rintro ⟨l6,i5⟩ a w ⟨A5,c5,K,M⟩ h
  revert a;obtain ⟨r7,zG,h⟩:=aB h;refine fP 7 (Ki zG) ?_;intro w M;refine cB 4 h ?_ ?_
  ·intro hb h;exact CS
  intro hb h;exact eB 10 M.oQ
 rintro kk aA ⟨l3,i2⟩ a w hk1 ⟨A2,c2,K,M⟩ h;unfold mC at h;revert a;refine cB 8 h ?_ ?_
 ·intro hb h;obtain ⟨s4,_,h⟩:=aB h;refine aH 15 ?_;obtain ⟨r6,tA,h⟩:=aB h;refine fP 0 (Fp tA) ?_;intro w M;refine Za (fun _ K=>bS rfl pI z3 K (vs:=[(0,I r6)]) (cs:=[I r6]) rfl aQ rfl rfl M) ?_;rintro _ w ⟨gs3,rfl,M⟩;replace M:=M.fX 0 rfl (cI .i64) ([r6]:List Int) (n:=1) rfl rfl rfl;obtain ⟨l5,B9,h⟩:=aB h;refine Za (fun _ K=>fQ (C:=(cI .i64)) (xs:=l3) (ys:=([r6]:List Int)) rfl pI rfl z3 rfl rfl K rfl rfl 1 M rfl ((p9 (C:=(cI .i64)) 0 rfl rfl) _ M) B9) ?_;rintro _ w ⟨A4,c4,rfl,M⟩;obtain ⟨i4,hx,h⟩:=cL h;refine kN 7 hx ?_;exact iG 2 (l5,i4) (M.pick [1] aL)
 intro hb h;exact jY 3 (hk1 (l3,i2)) M.oQ
theorem Lu {N:Nat} {v8 sV cP d7 cU:Int} {dE:List Int} {iJ:Option Addr} {iK:Nat} {bX:List aR} {eC:Option Addr} {eD:Nat} {bN bE bF bG bH bO:Int} {aO:List aN} {cE:Option Addr} {cH:Nat} {bI bJ bK aV aW aX aY aZ bA bB bC bD:Int} {aP:List aN} {cD:Option Addr} {cG:Nat} {bL i:Int} {w0:World} {r:List Int×Bool} (h:uN N v8 sV cP d7 cU dE bX bN bE bF bG bH bO aO bI bJ bK aV aW aX aY aZ bA bB bC bD aP bL i=some r) (At:SL w0 (cI .i64) iJ dE) (Au:dE.length≤iK) (yF:SL w0 cS eC bX) (yG:bX.length≤eD) (rG:SL w0 jG cE aO) (rH:aO.length≤cH) (rI:SL w0 jG cD aP) (rJ:aP.length≤cG) :
  lL 59 #[.agg #[I v8,I sV,I cP,I d7,I cU,.slice iJ dE.length iK,.slice eC bX.length eD,I bN,I bE,I bF,I bG,I bH,I bO,.slice cE aO.length cH,I bI,I bJ,I bK,I aV,I aW,I aX,I aY,I aZ,I bA,I bB,I bC,I bD,.slice cD aP.length cG,I bL],I i] w0 fun v w'=>∃A0 c0,v = .tuple #[.slice A0 r.1.length c0,.bool r.2]∧jL w0 w' [.row 3 1 A0 r.1.length c0 ((cI .i64).all r.1)]:=by
 refine gE Tryz.func59 Tryz.ntmps59 ?_;intro M;unfold uN at h;refine eE 2 ?_;intro Ca w M;obtain ⟨r2,cR,h⟩:=aB h;refine fP 8 (Kh cR) ?_;intro w M;refine cB 11 h ?_ ?_
 ·intro hb h;refine aH 1 ?_;intro a K;refine aK (fun w=>Mem _ _ w _) [0,0,0,0,0,0,0,0,0,0,0,1,0,0,0,0,0] aQ aQ M.drew ?_;replace M:=M.drew;revert a;obtain ⟨e,_,h⟩:=aB h;refine aH 11 ?_;obtain ⟨r3,gP,h⟩:=aB h;refine rU 0 (IU gP) ?_;intro A c w M;exact eB 18 M.oQ
 intro hb h;refine aH 3 ?_;refine Jr [0,0,0,0,0,0,0,0,0,0,0,0,1,0,0,0,1,1,0] 19 [0,1,2,3,4,5,6,7,8,9,10,11,12,13,14,15,16,17,18] M ?_;replace M:=M.drew;obtain ⟨e2,_,h⟩:=aB h;refine aH 12 ?_;refine MX 12 16 ?_ ?_
 ·obtain ⟨r4,lJ,h⟩:=aB h;refine rD rfl (fun _ K=>u0 K (Dq lJ ((Cc At) _ M) Au)) ?_;have M0:=M;rintro _ w ⟨A2,c2,rfl,M⟩;replace M:=M0.call M;clear M0;refine ⟨fun _=>M.toS,?_⟩;refine aH 3 ?_;refine nK 16 ?_;refine rD rfl (fun _ K=>Ka M) ?_;rintro _ w ⟨Ie,rfl,M⟩;refine ⟨fun _=>M.toS,?_⟩;refine nK 17 ?_;refine D3 rfl (fun _ K=>oO M K 0) ?_;intro _ w M;refine ⟨fun _=>M.toS,?_⟩;refine aH 4 ?_;intro a K;refine aK (fun w=>Mem _ _ w _) [0,0,0,0,0,0,0,0,0,1,0,0,0] aQ aQ M.drew ?_;replace M:=M.drew;revert a;refine kJ 5 55 h ?_ ?_
  ·intro hb h;obtain ⟨r5,qA,h⟩:=aB h;refine rU 4 (DY qA) ?_;intro w M;exact eB 6 (M.pick [1] aL)
  intro hb h;refine aH 4 ?_;intro a K;refine tL K (K.no rfl rfl rfl rfl) rfl rfl (M.pick [0,1,2] aL) ?_;clear K;intro a K;revert a;exact eB 6 (M.pick [1] aL)
 ·refine rD rfl (fun _ K=>Ka M) ?_;rintro _ w ⟨aQH,rfl,M⟩;refine ⟨fun _=>M.toS,?_⟩;refine nK 12 ?_;obtain ⟨r6,tA,h⟩:=aB h;refine rD rfl (fun _ K=>u0 K (Dq tA ((Cc At) _ M) Au)) ?_;have M0:=M;rintro _ w ⟨A3,c3,rfl,M⟩;replace M:=M0.call M;clear M0;refine ⟨fun _=>M.toS,?_⟩;refine aH 3 ?_;refine nK 17 ?_;refine D3 rfl (fun _ K=>oO M K 1) ?_;intro _ w M;refine ⟨fun _=>M.toS,?_⟩;refine aH 4 ?_;intro a K;refine aK (fun w=>Mem _ _ w _) [0,0,0,0,0,0,0,0,0,1,0,0,0] aQ aQ M.drew ?_;replace M:=M.drew;revert a;refine kJ 5 55 h ?_ ?_
  ·intro hb h;obtain ⟨r7,zG,h⟩:=aB h;refine rU 4 (DY zG) ?_;intro w M;exact eB 6 M.oQ
  intro hb h;refine aH 4 ?_;intro a K;refine tL K (K.no rfl rfl rfl rfl) rfl rfl (M.pick [0,1,2] aL) ?_;clear K;intro a K;revert a;exact eB 6 M.oQ
theorem FO {p:Prop} (h:p:=by exact eB 5 (((Mem.cC 3 1 (cI .i64) M)).pick [0] aL)):p:=h
theorem Dr {N:Nat} {v8 sV cP d7 cU:Int} {dE:List Int} {iJ:Option Addr} {iK:Nat} {bX:List aR} {eC:Option Addr} {eD:Nat} {bN bE bF bG bH bO:Int} {aO:List aN} {cE:Option Addr} {cH:Nat} {bI bJ bK aV aW aX aY aZ bA bB bC bD:Int} {aP:List aN} {cD:Option Addr} {cG:Nat} {bL:Int} {w0:World} {r:pW} (h:mE N v8 sV cP d7 cU dE bX bN bE bF bG bH bO aO bI bJ bK aV aW aX aY aZ bA bB bC bD aP bL=some r) (At:SL w0 (cI .i64) iJ dE) (Au:dE.length≤iK) (yF:SL w0 cS eC bX) (yG:bX.length≤eD) (rG:SL w0 jG cE aO) (rH:aO.length≤cH) (rI:SL w0 jG cD aP) (rJ:aP.length≤cG) :
  lL 14 #[.agg #[I v8,I sV,I cP,I d7,I cU,.slice iJ dE.length iK,.slice eC bX.length eD,I bN,I bE,I bF,I bG,I bH,I bO,.slice cE aO.length cH,I bI,I bJ,I bK,I aV,I aW,I aX,I aY,I aZ,I bA,I bB,I bC,I bD,.slice cD aP.length cG,I bL]] w0 (ZT r w0):=by
 refine gE Tryz.func14 Tryz.ntmps14 ?_;intro M;unfold mE at h;refine eE 2 ?_;intro Ca w M;refine eE 0 ?_;intro jM w M;obtain ⟨r2,cR,h⟩:=aB h;refine fP 7 (Ij cR) ?_;intro w M;refine cB 9 h ?_ ?_
 ·intro hb h;refine cV 4 ?_;intro w M;exact FO
 intro hb h;refine aH 4 ?_;intro a K;refine aK (fun w=>Mem _ _ w _) [0,0,0,0,1,0] aQ aQ M.drew ?_;replace M:=M.drew;revert a;obtain ⟨r3,gP,h⟩:=aB h;refine rU 4 (Lr gP) ?_;intro w M;refine cB 3 h ?_ ?_
 ·intro hb h;refine cV 3 ?_;intro w M;exact FO
 intro hb h;obtain ⟨r4,lJ,h⟩:=aB h;refine fP 6 (Im lJ) ?_;intro w M;refine cB 9 h ?_ ?_
 ·intro hb h;refine cV 4 ?_;intro w M;exact FO
 intro hb h;refine aH 8 ?_;refine jO (fun _ K=>bQ rfl K (vs:=[(0,I v8),(1,I sV)]) (cs:=[I v8,I sV,.slice none ([]:List Int).length 0]) rfl aQ) M ?_;refine eE 0 ?_;intro Ie w M;refine cV 0 ?_;intro w M;refine aH 9 ?_;replace M:=Mem.cC 3 1 (cI .i64) M;refine pM 0 0 [1,2,6] [2,3] (fun ZL ZM (⟨iI,i⟩:gL) a w=>∃(A:Option Addr) (c:Nat),Kn a 56 ((7,I i)::ZL)∧jL w0 w (.row 3 1 A iI.length c ((cI .i64).all iI) :: .blk Ie 45 [I v8,I sV,.slice A iI.length c]::ZM)) (M.pick [0,1,2,3] aL) ?_ ?_
 ·rintro ⟨aGr,i4⟩ a w ⟨A6,c6,K,M⟩ h
  revert a;refine cV 5 ?_;intro w M;exact eB 4 M.oQ
 rintro kk aA ⟨iI,i⟩ a w hk1 ⟨A,c,K,M⟩ h;unfold mD at h;revert a;refine cB 10 h ?_ ?_
 ·intro hb h;obtain ⟨r6,tA,h⟩:=aB h;refine fP 8 (Lu tA) ?_;intro A4 c4 w M;refine cB 14 h ?_ ?_
  ·intro hb h;refine cV 3 ?_;intro w M;exact eB 10 (((Mem.cC 3 1 (cI .i64) M)).pick [0] aL)
  intro hb h;obtain ⟨aKp,aLW,h⟩:=aB h;refine aH 6 ?_;refine Za (fun _ K=>fQ (C:=(cI .i64)) (xs:=iI) (ys:=r6.1) rfl pI rfl z3 rfl rfl K rfl rfl 1 M rfl ((p9 (C:=(cI .i64)) 0 rfl rfl) _ M) aLW) ?_;rintro _ w ⟨A5,c5,rfl,M⟩;refine cV 1 ?_;intro w M;obtain ⟨i3,hx,h⟩:=cL h;refine kN 6 hx ?_;exact iG 2 (aKp,i3) (M.pick [1,2,3,4] aL)
 intro hb h;exact jY 3 (hk1 (iI,i)) (M.pick [0,1,2,3] aL)
theorem CT {p:Prop} (h:p:=by exact eB 5 (((Mem.cC 84 2 jG (Mem.cC 83 2 jG (Mem.cC 9 1 cS (Mem.cC 3 1 (cI .i64) M))))).pick [3,2,1,0] aL)):p:=h
theorem JF {N:Nat} {d:aR} {w0:World} {r:Kk} (h:nF N d=some r) :
  lL 13 #[.string (bs d)] w0 fun v w'=>∃A5 c5 A6 c6 Yv c13 A26 c26,v = .tuple #[.agg #[I r.1,I r.2.1,I r.2.2.1,I r.2.2.2.1,I r.2.2.2.2.1,.slice A5 r.2.2.2.2.2.1.length c5,.slice A6 r.2.2.2.2.2.2.1.length c6,I r.2.2.2.2.2.2.2.1,I r.2.2.2.2.2.2.2.2.1,I r.2.2.2.2.2.2.2.2.2.1,I r.2.2.2.2.2.2.2.2.2.2.1,I r.2.2.2.2.2.2.2.2.2.2.2.1,I r.2.2.2.2.2.2.2.2.2.2.2.2.1,.slice Yv r.2.2.2.2.2.2.2.2.2.2.2.2.2.1.length c13,I r.2.2.2.2.2.2.2.2.2.2.2.2.2.2.1,I r.2.2.2.2.2.2.2.2.2.2.2.2.2.2.2.1,I r.2.2.2.2.2.2.2.2.2.2.2.2.2.2.2.2.1,I r.2.2.2.2.2.2.2.2.2.2.2.2.2.2.2.2.2.1,I r.2.2.2.2.2.2.2.2.2.2.2.2.2.2.2.2.2.2.1,I r.2.2.2.2.2.2.2.2.2.2.2.2.2.2.2.2.2.2.2.1,I r.2.2.2.2.2.2.2.2.2.2.2.2.2.2.2.2.2.2.2.2.1,I r.2.2.2.2.2.2.2.2.2.2.2.2.2.2.2.2.2.2.2.2.2.1,I r.2.2.2.2.2.2.2.2.2.2.2.2.2.2.2.2.2.2.2.2.2.2.1,I r.2.2.2.2.2.2.2.2.2.2.2.2.2.2.2.2.2.2.2.2.2.2.2.1,I r.2.2.2.2.2.2.2.2.2.2.2.2.2.2.2.2.2.2.2.2.2.2.2.2.1,I r.2.2.2.2.2.2.2.2.2.2.2.2.2.2.2.2.2.2.2.2.2.2.2.2.2.1,.slice A26 r.2.2.2.2.2.2.2.2.2.2.2.2.2.2.2.2.2.2.2.2.2.2.2.2.2.2.1.length c26,I r.2.2.2.2.2.2.2.2.2.2.2.2.2.2.2.2.2.2.2.2.2.2.2.2.2.2.2.1],.bool r.2.2.2.2.2.2.2.2.2.2.2.2.2.2.2.2.2.2.2.2.2.2.2.2.2.2.2.2]∧jL w0 w' [.row 3 1 A5 r.2.2.2.2.2.1.length c5 ((cI .i64).all r.2.2.2.2.2.1),.row 9 1 A6 r.2.2.2.2.2.2.1.length c6 (cS.all r.2.2.2.2.2.2.1),.row 83 2 Yv r.2.2.2.2.2.2.2.2.2.2.2.2.2.1.length c13 (jG.all r.2.2.2.2.2.2.2.2.2.2.2.2.2.1),.row 84 2 A26 r.2.2.2.2.2.2.2.2.2.2.2.2.2.2.2.2.2.2.2.2.2.2.2.2.2.2.1.length c26 (jG.all r.2.2.2.2.2.2.2.2.2.2.2.2.2.2.2.2.2.2.2.2.2.2.2.2.2.2.1)]:=by
 refine gE Tryz.func13 Tryz.ntmps13 ?_;intro M;unfold nF at h;refine eE 2 ?_;intro jM w M;refine aH 6 ?_;refine jO (fun _ K=>bQ rfl K (vs:=[(0,.string (bs d))]) (cs:=[.string (bs d),.bool false]) rfl aQ) M ?_;refine eE 0 ?_;intro dY w M;obtain ⟨r2,cR,h⟩:=aB h;refine aH 7 ?_;refine Za (fun _ K=>u0 K (Dp cR M)) ?_;rintro _ w ⟨rfl,M⟩;refine cB 3 h ?_ ?_
 ·intro hb h;refine cV 3 ?_;intro w M;exact CT
 intro hb h;obtain ⟨r3,gP,h⟩:=aB h;refine aH 5 ?_;refine Za (fun _ K=>u0 K (bV gP M)) ?_;rintro _ w ⟨rfl,M⟩;obtain ⟨r4,lJ,h⟩:=aB h;refine aH 1 ?_;refine Za (fun _ K=>u0 K (bV lJ M)) ?_;rintro _ w ⟨rfl,M⟩;obtain ⟨r5,qA,h⟩:=aB h;refine aH 1 ?_;refine Za (fun _ K=>u0 K (bV qA M)) ?_;rintro _ w ⟨rfl,M⟩;obtain ⟨r6,tA,h⟩:=aB h;refine aH 1 ?_;refine Za (fun _ K=>u0 K (bV tA M)) ?_;rintro _ w ⟨rfl,M⟩;obtain ⟨r7,zG,h⟩:=aB h;refine aH 1 ?_;refine Za (fun _ K=>u0 K (bV zG M)) ?_;rintro _ w ⟨rfl,M⟩;refine jO (fun _ K=>bQ rfl K (vs:=[(0,I r3.1),(1,I r4.1),(2,I r5.1),(3,I r6.1),(4,I r7.1)]) (cs:=[I r3.1,I r4.1,I r5.1,I r6.1,I r7.1,.slice none ([]:List Int).length 0,.slice none (([]:List aR)).length 0,I 0,I 0,I 0,I 0,I 0,I 0,.slice none (([]:List aN)).length 0,I 0,I 0,I 0,I 0,I 0,I 0,I 0,I 0,I 0,I 0,I 0,I 0,.slice none (([]:List aN)).length 0,I 0]) rfl aQ) M ?_;refine eE 0 ?_;intro fN w M;refine cV 0 ?_;intro w M;obtain ⟨r8,BF,h⟩:=aB h;refine aH 6 ?_;refine Za (fun _ K=>u0 K (rK BF M.rE)) ?_;rintro _ w ⟨rfl,M⟩;refine aH 4 ?_;replace M:=Mem.cC 3 1 (cI .i64) M;refine pM 0 0 [2,4,5] [3] (fun ZL ZM (⟨GK,Wt,Jb,i⟩:aDk) a w=>∃(A:Option Addr) (c:Nat),Kn a 198 ((6,I i)::ZL)∧jL w0 w (.row 3 1 A GK.length c ((cI .i64).all GK) :: .blk dY 115 [.string (bs Wt),.bool Jb] :: .blk fN 41 [I r3.1,I r4.1,I r5.1,I r6.1,I r7.1,.slice A GK.length c,.slice none (([]:List aR)).length 0,I 0,I 0,I 0,I 0,I 0,I 0,.slice none (([]:List aN)).length 0,I 0,I 0,I 0,I 0,I 0,I 0,I 0,I 0,I 0,I 0,I 0,I 0,.slice none (([]:List aN)).length 0,I 0]::ZM)) (M.pick [0,1,2,3] aL) ?_ ?_
 ·rintro ⟨tY,aMm,aDH,i2⟩ a w ⟨A4,c4,K,M⟩ h
  revert a;obtain ⟨Al,Ap,h⟩:=aB h;refine aH 6 ?_;refine Za (fun _ K=>u0 K (rK Ap M.rE)) ?_;rintro _ w ⟨rfl,M⟩;refine aH 4 ?_;replace M:=Mem.cC 9 1 cS M;refine pM 0 2 [2,4,5] [4] (fun ZL ZM (⟨pG,Ws,Ja,i3⟩:aDf) a w=>∃(A5:Option Addr) (c5:Nat),Kn a 198 ((7,I i3)::ZL)∧jL w0 w (.row 9 1 A5 pG.length c5 (cS.all pG) :: .blk dY 115 [.string (bs Ws),.bool Ja] :: .row 3 1 A4 tY.length c4 ((cI .i64).all tY) :: .blk fN 41 [I r3.1,I r4.1,I r5.1,I r6.1,I r7.1,.slice A4 tY.length c4,.slice A5 pG.length c5,I 0,I 0,I 0,I 0,I 0,I 0,.slice none (([]:List aN)).length 0,I 0,I 0,I 0,I 0,I 0,I 0,I 0,I 0,I 0,I 0,I 0,I 0,.slice none (([]:List aN)).length 0,I 0]::ZM)) (M.pick [0,1,2,3,4] aL) ?_ ?_
  ·rintro ⟨mY,aMn,aDI,i4⟩ a w ⟨A8,c8,K,M⟩ h
   revert a;obtain ⟨IX,Fm,h⟩:=aB h;refine aH 12 ?_;refine Za (fun _ K=>u0 K (bV Fm M.rE)) ?_;rintro _ w ⟨rfl,M⟩;refine cV 2 ?_;intro w M;refine pM 9 4 [2,4,5,8] [4] (fun ZL ZM (⟨aBJ,Oz,qY,qZ,q9,rA,i5⟩:aDc) a w=>Kn a 198 ((9,I i5)::ZL)∧jL w0 w (.blk dY 115 [.string (bs aBJ),.bool Oz] :: .row 9 1 A8 mY.length c8 (cS.all mY) :: .row 3 1 A4 tY.length c4 ((cI .i64).all tY) :: .blk fN 41 [I r3.1,I r4.1,I r5.1,I r6.1,I r7.1,.slice A4 tY.length c4,.slice A8 mY.length c8,I IX.1,I qY,I qZ,I q9,I rA,I 0,.slice none (([]:List aN)).length 0,I 0,I 0,I 0,I 0,I 0,I 0,I 0,I 0,I 0,I 0,I 0,I 0,.slice none (([]:List aN)).length 0,I 0]::ZM)) (M.pick [0,1,2,3,4] aL) ?_ ?_
   ·rintro ⟨aMo,aDJ,wE,wF,wG,wH,i6⟩ a w ⟨K,M⟩ h
    revert a;obtain ⟨Lw,K9,h⟩:=aB h;refine aH 6 ?_;refine Za (fun _ K=>u0 K (bV K9 M)) ?_;rintro _ w ⟨rfl,M⟩;refine cV 2 ?_;intro w M;obtain ⟨Mr,IH,h⟩:=aB h;refine aH 6 ?_;refine Za (fun _ K=>u0 K (rK IH M)) ?_;rintro _ w ⟨rfl,M⟩;refine aH 4 ?_;replace M:=Mem.cC 83 2 jG M;refine pM 0 6 [2,4,5,8] [5] (fun ZL ZM (⟨oL,Pl,F1,i7⟩:Tn) a w=>∃(A9:Option Addr) (c9:Nat),Kn a 198 ((10,I i7)::ZL)∧jL w0 w (.row 83 2 A9 oL.length c9 (jG.all oL) :: .blk dY 115 [.string (bs Pl),.bool F1] :: .row 9 1 A8 mY.length c8 (cS.all mY) :: .row 3 1 A4 tY.length c4 ((cI .i64).all tY) :: .blk fN 41 [I r3.1,I r4.1,I r5.1,I r6.1,I r7.1,.slice A4 tY.length c4,.slice A8 mY.length c8,I IX.1,I wE,I wF,I wG,I wH,I Lw.1,.slice A9 oL.length c9,I 0,I 0,I 0,I 0,I 0,I 0,I 0,I 0,I 0,I 0,I 0,I 0,.slice none (([]:List aN)).length 0,I 0]::ZM)) (M.pick [0,1,2,3,4,5] aL) ?_ ?_
    ·rintro ⟨nR,aIR,aAs,i8⟩ a w ⟨A18,c18,K,M⟩ h
     revert a;refine pM 9 8 [2,4,5,8] [5] (fun ZL ZM (⟨TW,Ly,tV,tW,tX,i9⟩:aDe) a w=>Kn a 198 ((11,I i9)::ZL)∧jL w0 w (.row 83 2 A18 nR.length c18 (jG.all nR) :: .blk dY 115 [.string (bs TW),.bool Ly] :: .row 9 1 A8 mY.length c8 (cS.all mY) :: .row 3 1 A4 tY.length c4 ((cI .i64).all tY) :: .blk fN 41 [I r3.1,I r4.1,I r5.1,I r6.1,I r7.1,.slice A4 tY.length c4,.slice A8 mY.length c8,I IX.1,I wE,I wF,I wG,I wH,I Lw.1,.slice A18 nR.length c18,I tV,I tW,I tX,I 0,I 0,I 0,I 0,I 0,I 0,I 0,I 0,I 0,.slice none (([]:List aN)).length 0,I 0]::ZM)) (M.pick [0,1,2,3,4,5] aL) ?_ ?_
     ·rintro ⟨aIS,aAt,Bn,Bp,Bq,EV⟩ a w ⟨K,M⟩ h
      revert a;refine pM 9 10 [2,4,5,8] [5] (fun ZL ZM (⟨TV,Lx,fA,fB,fC,fD,fE,fF,fG,fH,fI,i11⟩:aDb) a w=>Kn a 198 ((12,I i11)::ZL)∧jL w0 w (.row 83 2 A18 nR.length c18 (jG.all nR) :: .blk dY 115 [.string (bs TV),.bool Lx] :: .row 9 1 A8 mY.length c8 (cS.all mY) :: .row 3 1 A4 tY.length c4 ((cI .i64).all tY) :: .blk fN 41 [I r3.1,I r4.1,I r5.1,I r6.1,I r7.1,.slice A4 tY.length c4,.slice A8 mY.length c8,I IX.1,I wE,I wF,I wG,I wH,I Lw.1,.slice A18 nR.length c18,I Bn,I Bp,I Bq,I fA,I fB,I fC,I fD,I fE,I fF,I fG,I fH,I fI,.slice none (([]:List aN)).length 0,I 0]::ZM)) (M.pick [0,1,2,3,4,5] aL) ?_ ?_
      ·rintro ⟨aIT,aAu,CC,CD,CE,CF,CG,CH,CI,CJ,CK,i12⟩ a w ⟨K,M⟩ h
       revert a;obtain ⟨UR,Yf,h⟩:=aB h;refine aH 6 ?_;refine Za (fun _ K=>u0 K (rK Yf M.rE)) ?_;rintro _ w ⟨rfl,M⟩;refine aH 4 ?_;replace M:=Mem.cC 84 2 jG M;refine pM 0 12 [2,4,5,8] [6] (fun ZL ZM (⟨oK,Pk,F0,Na⟩:Tn) a w=>∃(XA:Option Addr) (c19:Nat),Kn a 198 ((13,I Na)::ZL)∧jL w0 w (.row 84 2 XA oK.length c19 (jG.all oK) :: .blk dY 115 [.string (bs Pk),.bool F0] :: .row 83 2 A18 nR.length c18 (jG.all nR) :: .row 9 1 A8 mY.length c8 (cS.all mY) :: .row 3 1 A4 tY.length c4 ((cI .i64).all tY) :: .blk fN 41 [I r3.1,I r4.1,I r5.1,I r6.1,I r7.1,.slice A4 tY.length c4,.slice A8 mY.length c8,I IX.1,I wE,I wF,I wG,I wH,I Lw.1,.slice A18 nR.length c18,I Bn,I Bp,I Bq,I CC,I CD,I CE,I CF,I CG,I CH,I CI,I CJ,I CK,.slice XA oK.length c19,I 0]::ZM)) (M.pick [0,1,2,3,4,5,6] aL) ?_ ?_
       ·rintro ⟨GM,aIU,aAv,Yo⟩ a w ⟨A28,c28,K,M⟩ h
        revert a;obtain ⟨r44,aOy,h⟩:=aB h;refine aH 6 ?_;refine Za (fun _ K=>u0 K (bV aOy M.rE)) ?_;rintro _ w ⟨rfl,M⟩;refine cV 2 ?_;intro w M;refine kJ 10 181 h ?_ ?_
        ·intro hb h;refine cV 12 ?_;intro w M;exact CT
        intro hb h;refine cB 8 h ?_ ?_
        ·intro hb h;refine cV 3 ?_;intro w M;exact CT
        intro hb h;obtain ⟨r45,aOz,h⟩:=aB h;refine fP 6 (Dr aOz) ?_;intro A29 c29 w M;refine eE 3 ?_;intro vM w M;refine cV 0 ?_;intro w M;refine cB 9 h ?_ ?_
        ·intro hb h;refine cV 3 ?_;intro w M;exact CT
        intro hb h;refine cV 5 ?_;intro w M;exact eB 4 (M.pick [6,5,4,3] aL)
       rintro kk aA ⟨oK,Pk,F0,Na⟩ a w hk7 ⟨XA,c19,K,M⟩ h;unfold gT at h;revert a;refine kJ 6 149 h ?_ ?_
       ·intro hb h;refine cB 8 h ?_ ?_
        ·intro hb h;refine aH 4 ?_;refine Jr [0,0,0,0,1,0,1,0,1,0,1,1,0,0,1] 15 [0,1,2,3,4,5,6,7,8,9,10,11,12,13,14] (M.pick [2,3,4,6] aL) ?_;replace M:=M.drew;refine aH 4 ?_;refine Ce 5 rfl (fun _ K=>tO rfl K rfl) ?_;refine Ce 7 rfl (fun _ K=>tO rfl K rfl) ?_;refine MX 4 6 ?_ ?_
         ·refine Uq rfl M (fun _ K=>vI rfl Xu K rfl (Aw 5 rfl) rfl) ?_;refine ⟨fun _=>M.toS,?_⟩;refine nK 6 ?_;obtain ⟨Yp,aOA,h⟩:=aB h;refine rD rfl (fun _ K=>u0 K (bV aOA M.rE)) ?_;rintro _ w ⟨rfl,M⟩;refine ⟨fun _=>M.toS,?_⟩;refine nK 8 ?_;obtain ⟨V7,aOB,h⟩:=aB h;refine rD rfl (fun _ K=>u0 K (bV aOB M)) ?_;rintro _ w ⟨rfl,M⟩;refine ⟨fun _=>M.toS,?_⟩;refine Ce 9 rfl (fun _ K=>bQ rfl K (vs:=[(0,I Yp.1),(1,I V7.1)]) (cs:=[I Yp.1,I V7.1]) rfl aQ) ?_;refine nK 10 ?_;refine rD rfl (fun _ K=>bS rfl IE z84 K (vs:=[(0,.agg #[I Yp.1,I V7.1])]) (cs:=[I Yp.1,I V7.1]) rfl aQ rfl rfl M) ?_;rintro _ w ⟨aQI,rfl,M⟩;replace M:=M.fX 0 rfl jG ([(Yp.1,V7.1)]:List aN) (n:=1) rfl rfl rfl;refine ⟨fun _=>M.toS,?_⟩;refine nK 11 ?_;obtain ⟨Cp,FL,h⟩:=aB h;refine rD rfl (fun _ K=>fQ (C:=jG) (xs:=oK) (ys:=([(Yp.1,V7.1)]:List aN)) rfl IE rfl z84 rfl rfl K rfl rfl 2 M rfl ((p9 (C:=jG) 0 rfl rfl) _ M) FL) ?_;rintro _ w ⟨A24,c24,rfl,M⟩;refine ⟨fun _=>M.toS,?_⟩;refine aH 2 ?_;refine nK 14 ?_;refine D3 rfl (fun _ K=>jX M K 6) ?_;intro _ w M;refine ⟨fun _=>M.toS,?_⟩;obtain ⟨x50,hx,h⟩:=cL h;refine kN 6 hx ?_;exact iG 2 (Cp,V7.2.1,V7.2.2,x50) (M.pick [2,1,3,4,5,6,7] aL)
         ·obtain ⟨Sx,aOC,h⟩:=aB h;refine rD rfl (fun _ K=>u0 K (bV aOC M.rE)) ?_;rintro _ w ⟨rfl,M⟩;refine ⟨fun _=>M.toS,?_⟩;refine MX 4 8 ?_ ?_
          ·refine Uq rfl M (fun _ K=>vI rfl Xu K rfl (Aw 5 rfl) rfl) ?_;refine ⟨fun _=>M.toS,?_⟩;refine nK 8 ?_;obtain ⟨V6,aOD,h⟩:=aB h;refine rD rfl (fun _ K=>u0 K (bV aOD M)) ?_;rintro _ w ⟨rfl,M⟩;refine ⟨fun _=>M.toS,?_⟩;refine Ce 9 rfl (fun _ K=>bQ rfl K (vs:=[(0,I Sx.1),(1,I V6.1)]) (cs:=[I Sx.1,I V6.1]) rfl aQ) ?_;refine nK 10 ?_;refine rD rfl (fun _ K=>bS rfl IE z84 K (vs:=[(0,.agg #[I Sx.1,I V6.1])]) (cs:=[I Sx.1,I V6.1]) rfl aQ rfl rfl M) ?_;rintro _ w ⟨aQJ,rfl,M⟩;replace M:=M.fX 0 rfl jG ([(Sx.1,V6.1)]:List aN) (n:=1) rfl rfl rfl;refine ⟨fun _=>M.toS,?_⟩;refine nK 11 ?_;obtain ⟨Tf,P1,h⟩:=aB h;refine rD rfl (fun _ K=>fQ (C:=jG) (xs:=oK) (ys:=([(Sx.1,V6.1)]:List aN)) rfl IE rfl z84 rfl rfl K rfl rfl 2 M rfl ((p9 (C:=jG) 0 rfl rfl) _ M) P1) ?_;rintro _ w ⟨A25,c25,rfl,M⟩;refine ⟨fun _=>M.toS,?_⟩;refine aH 2 ?_;refine nK 14 ?_;refine D3 rfl (fun _ K=>jX M K 6) ?_;intro _ w M;refine ⟨fun _=>M.toS,?_⟩;obtain ⟨x51,hx,h⟩:=cL h;refine kN 6 hx ?_;exact iG 2 (Tf,V6.2.1,V6.2.2,x51) (M.pick [2,1,3,4,5,6,7] aL)
          ·obtain ⟨r43,aOE,h⟩:=aB h;refine rD rfl (fun _ K=>u0 K (bV aOE M)) ?_;rintro _ w ⟨rfl,M⟩;refine ⟨fun _=>M.toS,?_⟩;refine Ce 9 rfl (fun _ K=>bQ rfl K (vs:=[(0,I Sx.1),(1,I r43.1)]) (cs:=[I Sx.1,I r43.1]) rfl aQ) ?_;refine MX 4 10 ?_ ?_
           ·refine Uq rfl M (fun _ K=>vI rfl Xu K rfl (Aw 5 rfl) rfl) ?_;refine ⟨fun _=>M.toS,?_⟩;refine nK 10 ?_;refine rD rfl (fun _ K=>bS rfl IE z84 K (vs:=[(0,.agg #[I Sx.1,I r43.1])]) (cs:=[I Sx.1,I r43.1]) rfl aQ rfl rfl M) ?_;rintro _ w ⟨aQK,rfl,M⟩;replace M:=M.fX 0 rfl jG ([(Sx.1,r43.1)]:List aN) (n:=1) rfl rfl rfl;refine ⟨fun _=>M.toS,?_⟩;refine nK 11 ?_;obtain ⟨Tg,P3,h⟩:=aB h;refine rD rfl (fun _ K=>fQ (C:=jG) (xs:=oK) (ys:=([(Sx.1,r43.1)]:List aN)) rfl IE rfl z84 rfl rfl K rfl rfl 2 M rfl ((p9 (C:=jG) 0 rfl rfl) _ M) P3) ?_;rintro _ w ⟨A26,c26,rfl,M⟩;refine ⟨fun _=>M.toS,?_⟩;refine aH 2 ?_;refine nK 14 ?_;refine D3 rfl (fun _ K=>jX M K 6) ?_;intro _ w M;refine ⟨fun _=>M.toS,?_⟩;obtain ⟨x52,hx,h⟩:=cL h;refine kN 6 hx ?_;exact iG 2 (Tg,r43.2.1,r43.2.2,x52) (M.pick [2,1,3,4,5,6,7] aL)
           ·refine rD rfl (fun _ K=>bS rfl IE z84 K (vs:=[(0,.agg #[I Sx.1,I r43.1])]) (cs:=[I Sx.1,I r43.1]) rfl aQ rfl rfl M) ?_;rintro _ w ⟨aQL,rfl,M⟩;replace M:=M.fX 0 rfl jG ([(Sx.1,r43.1)]:List aN) (n:=1) rfl rfl rfl;refine ⟨fun _=>M.toS,?_⟩;refine nK 4 ?_;refine Uq rfl M (fun _ K=>vI rfl Xu K rfl (Aw 6 rfl) rfl) ?_;refine ⟨fun _=>M.toS,?_⟩;refine nK 11 ?_;obtain ⟨Th,P4,h⟩:=aB h;refine rD rfl (fun _ K=>fQ (C:=jG) (xs:=oK) (ys:=([(Sx.1,r43.1)]:List aN)) rfl IE rfl z84 rfl rfl K rfl rfl 2 M rfl ((p9 (C:=jG) 0 rfl rfl) _ M) P4) ?_;rintro _ w ⟨A27,c27,rfl,M⟩;refine ⟨fun _=>M.toS,?_⟩;refine aH 2 ?_;refine nK 14 ?_;refine D3 rfl (fun _ K=>jX M K 6) ?_;intro _ w M;refine ⟨fun _=>M.toS,?_⟩;obtain ⟨x53,hx,h⟩:=cL h;refine kN 6 hx ?_;exact iG 2 (Th,r43.2.1,r43.2.2,x53) (M.pick [2,1,3,4,5,6,7] aL)
        intro hb h;exact jY 3 (hk7 (oK,Pk,F0,Na)) (M.pick [0,1,2,3,4,5,6] aL)
       intro hb h;exact jY 12 (hk7 (oK,Pk,F0,Na)) (M.pick [0,1,2,3,4,5,6] aL)
      rintro kk aA ⟨TV,Lx,fA,fB,fC,fD,fE,fF,fG,fH,fI,i11⟩ a w hk6 ⟨K,M⟩ h;unfold aJ at h;revert a;refine cB 7 h ?_ ?_
      ·intro hb h;refine aH 4 ?_;intro a K;refine aK (fun w=>Mem _ _ w _) [0,0,0,1,0,0,0,1] aQ aQ (M.pick [0,2,3,5] aL).drew ?_;replace M:=M.drew;revert a;obtain ⟨r32,Yg,h⟩:=aB h;refine aH 3 ?_;refine Gf (fun _ K=>u0 K (bV Yg M.rE)) ?_;rintro _ w ⟨rfl,M⟩;refine ⟨M.toS,?_⟩;refine aH 2 ?_;refine J9 h ?_ ?_
       ·intro Si h;refine F4 Si 17 ?_;refine J8 (fun _ K=>jX M K 4) ?_;intro _ w M;refine ⟨M.toS,?_⟩;obtain ⟨x37,hx,h⟩:=cL h;refine kN 6 hx ?_;exact iG 2 (r32.2.1,r32.2.2,r32.1,fB,fC,fD,fE,fF,fG,fH,fI,x37) (M.pick [1,0,2,3,4,5] aL)
       intro h;refine J9 h ?_ ?_
       ·intro Si h;refine F4 Si 18 ?_;refine J8 (fun _ K=>jX M K 4) ?_;intro _ w M;refine ⟨M.toS,?_⟩;obtain ⟨x38,hx,h⟩:=cL h;refine kN 6 hx ?_;exact iG 2 (r32.2.1,r32.2.2,fA,r32.1,fC,fD,fE,fF,fG,fH,fI,x38) (M.pick [1,0,2,3,4,5] aL)
       intro h;refine J9 h ?_ ?_
       ·intro Si h;refine F4 Si 19 ?_;refine J8 (fun _ K=>jX M K 4) ?_;intro _ w M;refine ⟨M.toS,?_⟩;obtain ⟨x39,hx,h⟩:=cL h;refine kN 6 hx ?_;exact iG 2 (r32.2.1,r32.2.2,fA,fB,r32.1,fD,fE,fF,fG,fH,fI,x39) (M.pick [1,0,2,3,4,5] aL)
       intro h;refine J9 h ?_ ?_
       ·intro Si h;refine F4 Si 20 ?_;refine J8 (fun _ K=>jX M K 4) ?_;intro _ w M;refine ⟨M.toS,?_⟩;obtain ⟨x40,hx,h⟩:=cL h;refine kN 6 hx ?_;exact iG 2 (r32.2.1,r32.2.2,fA,fB,fC,r32.1,fE,fF,fG,fH,fI,x40) (M.pick [1,0,2,3,4,5] aL)
       intro h;refine J9 h ?_ ?_
       ·intro Si h;refine F4 Si 21 ?_;refine J8 (fun _ K=>jX M K 4) ?_;intro _ w M;refine ⟨M.toS,?_⟩;obtain ⟨x41,hx,h⟩:=cL h;refine kN 6 hx ?_;exact iG 2 (r32.2.1,r32.2.2,fA,fB,fC,fD,r32.1,fF,fG,fH,fI,x41) (M.pick [1,0,2,3,4,5] aL)
       intro h;refine J9 h ?_ ?_
       ·intro Si h;refine F4 Si 22 ?_;refine J8 (fun _ K=>jX M K 4) ?_;intro _ w M;refine ⟨M.toS,?_⟩;obtain ⟨x42,hx,h⟩:=cL h;refine kN 6 hx ?_;exact iG 2 (r32.2.1,r32.2.2,fA,fB,fC,fD,fE,r32.1,fG,fH,fI,x42) (M.pick [1,0,2,3,4,5] aL)
       intro h;refine J9 h ?_ ?_
       ·intro Si h;refine F4 Si 23 ?_;refine J8 (fun _ K=>jX M K 4) ?_;intro _ w M;refine ⟨M.toS,?_⟩;obtain ⟨x43,hx,h⟩:=cL h;refine kN 6 hx ?_;exact iG 2 (r32.2.1,r32.2.2,fA,fB,fC,fD,fE,fF,r32.1,fH,fI,x43) (M.pick [1,0,2,3,4,5] aL)
       intro h;refine J9 h ?_ ?_
       ·intro Si h;refine F4 Si 24 ?_;refine J8 (fun _ K=>jX M K 4) ?_;intro _ w M;refine ⟨M.toS,?_⟩;obtain ⟨x44,hx,h⟩:=cL h;refine kN 6 hx ?_;exact iG 2 (r32.2.1,r32.2.2,fA,fB,fC,fD,fE,fF,fG,r32.1,fI,x44) (M.pick [1,0,2,3,4,5] aL)
       intro h;refine J9 h ?_ ?_
       ·intro Si h;refine F4 Si 25 ?_;refine J8 (fun _ K=>jX M K 4) ?_;intro _ w M;refine ⟨M.toS,?_⟩;obtain ⟨x45,hx,h⟩:=cL h;refine kN 6 hx ?_;exact iG 2 (r32.2.1,r32.2.2,fA,fB,fC,fD,fE,fF,fG,fH,r32.1,x45) (M.pick [1,0,2,3,4,5] aL)
       intro h;intro a K;cases h
      intro hb h;exact jY 3 (hk6 (TV,Lx,fA,fB,fC,fD,fE,fF,fG,fH,fI,i11)) (M.pick [0,1,2,3,4,5] aL)
     rintro kk aA ⟨TW,Ly,tV,tW,tX,i9⟩ a w hk5 ⟨K,M⟩ h;unfold bY at h;revert a;refine cB 7 h ?_ ?_
     ·intro hb h;refine aH 4 ?_;intro a K;refine aK (fun w=>Mem _ _ w _) [0,0,0,1,0,0,0,1] aQ aQ (M.pick [0,2,3,5] aL).drew ?_;replace M:=M.drew;revert a;obtain ⟨L4,Yh,h⟩:=aB h;refine aH 3 ?_;refine Gf (fun _ K=>u0 K (bV Yh M.rE)) ?_;rintro _ w ⟨rfl,M⟩;refine ⟨M.toS,?_⟩;refine aH 2 ?_;refine J9 h ?_ ?_
      ·intro VZ h;refine F4 VZ 14 ?_;refine J8 (fun _ K=>jX M K 4) ?_;intro _ w M;refine ⟨M.toS,?_⟩;obtain ⟨x25,hx,h⟩:=cL h;refine kN 6 hx ?_;exact iG 2 (L4.2.1,L4.2.2,L4.1,tW,tX,x25) (M.pick [1,0,2,3,4,5] aL)
      intro h;refine J9 h ?_ ?_
      ·intro VZ h;refine F4 VZ 15 ?_;refine J8 (fun _ K=>jX M K 4) ?_;intro _ w M;refine ⟨M.toS,?_⟩;obtain ⟨x26,hx,h⟩:=cL h;refine kN 6 hx ?_;exact iG 2 (L4.2.1,L4.2.2,tV,L4.1,tX,x26) (M.pick [1,0,2,3,4,5] aL)
      intro h;refine J9 h ?_ ?_
      ·intro VZ h;refine F4 VZ 16 ?_;refine J8 (fun _ K=>jX M K 4) ?_;intro _ w M;refine ⟨M.toS,?_⟩;obtain ⟨x27,hx,h⟩:=cL h;refine kN 6 hx ?_;exact iG 2 (L4.2.1,L4.2.2,tV,tW,L4.1,x27) (M.pick [1,0,2,3,4,5] aL)
      intro h;intro a K;cases h
     intro hb h;exact jY 3 (hk5 (TW,Ly,tV,tW,tX,i9)) (M.pick [0,1,2,3,4,5] aL)
    rintro kk aA ⟨oL,Pl,F1,i7⟩ a w hk4 ⟨A9,c9,K,M⟩ h;unfold gU at h;revert a;refine kJ 6 100 h ?_ ?_
    ·intro hb h;refine cB 8 h ?_ ?_
     ·intro hb h;refine aH 4 ?_;refine Jr [0,0,0,0,1,0,1,0,1,0,1,1,0,0,1] 15 [0,1,2,3,4,5,6,7,8,9,10,11,12,13,14] (M.pick [2,3,5] aL) ?_;replace M:=M.drew;refine aH 4 ?_;refine Ce 5 rfl (fun _ K=>tO rfl K rfl) ?_;refine Ce 7 rfl (fun _ K=>tO rfl K rfl) ?_;refine MX 4 6 ?_ ?_
      ·refine Uq rfl M (fun _ K=>vI rfl VR K rfl (Aw 4 rfl) rfl) ?_;refine ⟨fun _=>M.toS,?_⟩;refine nK 6 ?_;obtain ⟨V8,Ye,h⟩:=aB h;refine rD rfl (fun _ K=>u0 K (bV Ye M.rE)) ?_;rintro _ w ⟨rfl,M⟩;refine ⟨fun _=>M.toS,?_⟩;refine nK 8 ?_;obtain ⟨r25,aFV,h⟩:=aB h;refine rD rfl (fun _ K=>u0 K (bV aFV M)) ?_;rintro _ w ⟨rfl,M⟩;refine ⟨fun _=>M.toS,?_⟩;refine Ce 9 rfl (fun _ K=>bQ rfl K (vs:=[(0,I V8.1),(1,I r25.1)]) (cs:=[I V8.1,I r25.1]) rfl aQ) ?_;refine nK 10 ?_;refine rD rfl (fun _ K=>bS rfl Hv z83 K (vs:=[(0,.agg #[I V8.1,I r25.1])]) (cs:=[I V8.1,I r25.1]) rfl aQ rfl rfl M) ?_;rintro _ w ⟨gs9,rfl,M⟩;replace M:=M.fX 0 rfl jG ([(V8.1,r25.1)]:List aN) (n:=1) rfl rfl rfl;refine ⟨fun _=>M.toS,?_⟩;refine nK 11 ?_;obtain ⟨Cq,FM,h⟩:=aB h;refine rD rfl (fun _ K=>fQ (C:=jG) (xs:=oL) (ys:=([(V8.1,r25.1)]:List aN)) rfl Hv rfl z83 rfl rfl K rfl rfl 2 M rfl ((p9 (C:=jG) 0 rfl rfl) _ M) FM) ?_;rintro _ w ⟨A14,c14,rfl,M⟩;refine ⟨fun _=>M.toS,?_⟩;refine aH 2 ?_;refine nK 14 ?_;refine D3 rfl (fun _ K=>jX M K 5) ?_;intro _ w M;refine ⟨fun _=>M.toS,?_⟩;obtain ⟨x18,hx,h⟩:=cL h;refine kN 6 hx ?_;exact iG 2 (Cq,r25.2.1,r25.2.2,x18) (M.pick [2,1,3,4,5,6] aL)
      ·obtain ⟨Yi,aFW,h⟩:=aB h;refine rD rfl (fun _ K=>u0 K (bV aFW M.rE)) ?_;rintro _ w ⟨rfl,M⟩;refine ⟨fun _=>M.toS,?_⟩;refine MX 4 8 ?_ ?_
       ·refine Uq rfl M (fun _ K=>vI rfl VR K rfl (Aw 4 rfl) rfl) ?_;refine ⟨fun _=>M.toS,?_⟩;refine nK 8 ?_;obtain ⟨Oi,aOF,h⟩:=aB h;refine rD rfl (fun _ K=>u0 K (bV aOF M)) ?_;rintro _ w ⟨rfl,M⟩;refine ⟨fun _=>M.toS,?_⟩;refine Ce 9 rfl (fun _ K=>bQ rfl K (vs:=[(0,I Yi.1),(1,I Oi.1)]) (cs:=[I Yi.1,I Oi.1]) rfl aQ) ?_;refine nK 10 ?_;refine rD rfl (fun _ K=>bS rfl Hv z83 K (vs:=[(0,.agg #[I Yi.1,I Oi.1])]) (cs:=[I Yi.1,I Oi.1]) rfl aQ rfl rfl M) ?_;rintro _ w ⟨aOt,rfl,M⟩;replace M:=M.fX 0 rfl jG ([(Yi.1,Oi.1)]:List aN) (n:=1) rfl rfl rfl;refine ⟨fun _=>M.toS,?_⟩;refine nK 11 ?_;obtain ⟨Ti,P5,h⟩:=aB h;refine rD rfl (fun _ K=>fQ (C:=jG) (xs:=oL) (ys:=([(Yi.1,Oi.1)]:List aN)) rfl Hv rfl z83 rfl rfl K rfl rfl 2 M rfl ((p9 (C:=jG) 0 rfl rfl) _ M) P5) ?_;rintro _ w ⟨A15,c15,rfl,M⟩;refine ⟨fun _=>M.toS,?_⟩;refine aH 2 ?_;refine nK 14 ?_;refine D3 rfl (fun _ K=>jX M K 5) ?_;intro _ w M;refine ⟨fun _=>M.toS,?_⟩;obtain ⟨x19,hx,h⟩:=cL h;refine kN 6 hx ?_;exact iG 2 (Ti,Oi.2.1,Oi.2.2,x19) (M.pick [2,1,3,4,5,6] aL)
       ·obtain ⟨MU,aFX,h⟩:=aB h;refine rD rfl (fun _ K=>u0 K (bV aFX M)) ?_;rintro _ w ⟨rfl,M⟩;refine ⟨fun _=>M.toS,?_⟩;refine Ce 9 rfl (fun _ K=>bQ rfl K (vs:=[(0,I Yi.1),(1,I MU.1)]) (cs:=[I Yi.1,I MU.1]) rfl aQ) ?_;refine MX 4 10 ?_ ?_
        ·refine Uq rfl M (fun _ K=>vI rfl VR K rfl (Aw 4 rfl) rfl) ?_;refine ⟨fun _=>M.toS,?_⟩;refine nK 10 ?_;refine rD rfl (fun _ K=>bS rfl Hv z83 K (vs:=[(0,.agg #[I Yi.1,I MU.1])]) (cs:=[I Yi.1,I MU.1]) rfl aQ rfl rfl M) ?_;rintro _ w ⟨aQM,rfl,M⟩;replace M:=M.fX 0 rfl jG ([(Yi.1,MU.1)]:List aN) (n:=1) rfl rfl rfl;refine ⟨fun _=>M.toS,?_⟩;refine nK 11 ?_;obtain ⟨Tj,P6,h⟩:=aB h;refine rD rfl (fun _ K=>fQ (C:=jG) (xs:=oL) (ys:=([(Yi.1,MU.1)]:List aN)) rfl Hv rfl z83 rfl rfl K rfl rfl 2 M rfl ((p9 (C:=jG) 0 rfl rfl) _ M) P6) ?_;rintro _ w ⟨A16,c16,rfl,M⟩;refine ⟨fun _=>M.toS,?_⟩;refine aH 2 ?_;refine nK 14 ?_;refine D3 rfl (fun _ K=>jX M K 5) ?_;intro _ w M;refine ⟨fun _=>M.toS,?_⟩;obtain ⟨x20,hx,h⟩:=cL h;refine kN 6 hx ?_;exact iG 2 (Tj,MU.2.1,MU.2.2,x20) (M.pick [2,1,3,4,5,6] aL)
        ·refine rD rfl (fun _ K=>bS rfl Hv z83 K (vs:=[(0,.agg #[I Yi.1,I MU.1])]) (cs:=[I Yi.1,I MU.1]) rfl aQ rfl rfl M) ?_;rintro _ w ⟨aQN,rfl,M⟩;replace M:=M.fX 0 rfl jG ([(Yi.1,MU.1)]:List aN) (n:=1) rfl rfl rfl;refine ⟨fun _=>M.toS,?_⟩;refine nK 4 ?_;refine Uq rfl M (fun _ K=>vI rfl VR K rfl (Aw 5 rfl) rfl) ?_;refine ⟨fun _=>M.toS,?_⟩;refine nK 11 ?_;obtain ⟨Tk,P7,h⟩:=aB h;refine rD rfl (fun _ K=>fQ (C:=jG) (xs:=oL) (ys:=([(Yi.1,MU.1)]:List aN)) rfl Hv rfl z83 rfl rfl K rfl rfl 2 M rfl ((p9 (C:=jG) 0 rfl rfl) _ M) P7) ?_;rintro _ w ⟨A17,c17,rfl,M⟩;refine ⟨fun _=>M.toS,?_⟩;refine aH 2 ?_;refine nK 14 ?_;refine D3 rfl (fun _ K=>jX M K 5) ?_;intro _ w M;refine ⟨fun _=>M.toS,?_⟩;obtain ⟨x21,hx,h⟩:=cL h;refine kN 6 hx ?_;exact iG 2 (Tk,MU.2.1,MU.2.2,x21) (M.pick [2,1,3,4,5,6] aL)
     intro hb h;exact jY 3 (hk4 (oL,Pl,F1,i7)) (M.pick [0,1,2,3,4,5] aL)
    intro hb h;exact jY 12 (hk4 (oL,Pl,F1,i7)) (M.pick [0,1,2,3,4,5] aL)
   rintro kk aA ⟨aBJ,Oz,qY,qZ,q9,rA,i5⟩ a w hk3 ⟨K,M⟩ h;unfold bR at h;revert a;refine cB 7 h ?_ ?_
   ·intro hb h;refine aH 4 ?_;intro a K;refine aK (fun w=>Mem _ _ w _) [0,0,0,1,0,0,0,1] aQ aQ (M.pick [1,2,4] aL).drew ?_;replace M:=M.drew;revert a;obtain ⟨r16,DS,h⟩:=aB h;refine aH 3 ?_;refine Gf (fun _ K=>u0 K (bV DS M)) ?_;rintro _ w ⟨rfl,M⟩;refine ⟨M.toS,?_⟩;refine aH 2 ?_;refine J9 h ?_ ?_
    ·intro hj2 h;refine F4 hj2 8 ?_;refine J8 (fun _ K=>jX M K 3) ?_;intro _ w M;refine ⟨M.toS,?_⟩;obtain ⟨x10,hx,h⟩:=cL h;refine kN 6 hx ?_;exact iG 2 (r16.2.1,r16.2.2,r16.1,qZ,q9,rA,x10) (M.pick [0,1,2,3,4] aL)
    intro h;refine J9 h ?_ ?_
    ·intro hj2 h;refine F4 hj2 9 ?_;refine J8 (fun _ K=>jX M K 3) ?_;intro _ w M;refine ⟨M.toS,?_⟩;obtain ⟨US,hx,h⟩:=cL h;refine kN 6 hx ?_;exact iG 2 (r16.2.1,r16.2.2,qY,r16.1,q9,rA,US) (M.pick [0,1,2,3,4] aL)
    intro h;refine J9 h ?_ ?_
    ·intro hj2 h;refine F4 hj2 10 ?_;refine J8 (fun _ K=>jX M K 3) ?_;intro _ w M;refine ⟨M.toS,?_⟩;obtain ⟨FX,hx,h⟩:=cL h;refine kN 6 hx ?_;exact iG 2 (r16.2.1,r16.2.2,qY,qZ,r16.1,rA,FX) (M.pick [0,1,2,3,4] aL)
    intro h;refine J9 h ?_ ?_
    ·intro hj2 h;refine F4 hj2 11 ?_;refine J8 (fun _ K=>jX M K 3) ?_;intro _ w M;refine ⟨M.toS,?_⟩;obtain ⟨Sv,hx,h⟩:=cL h;refine kN 6 hx ?_;exact iG 2 (r16.2.1,r16.2.2,qY,qZ,q9,r16.1,Sv) (M.pick [0,1,2,3,4] aL)
    intro h;intro a K;cases h
   intro hb h;exact jY 3 (hk3 (aBJ,Oz,qY,qZ,q9,rA,i5)) (M.pick [0,1,2,3,4] aL)
  rintro kk aA ⟨pG,Ws,Ja,i3⟩ a w hk2 ⟨A5,c5,K,M⟩ h;unfold gV at h;revert a;refine kJ 6 58 h ?_ ?_
  ·intro hb h;refine cB 8 h ?_ ?_
   ·intro hb h;refine aH 4 ?_;intro a K;refine aK (fun w=>Mem _ _ w _) [0,0,0,1,1,1,0,2] aQ aQ (M.pick [2,3,4] aL).drew ?_;replace M:=M.drew;revert a;obtain ⟨B1,Cx,h⟩:=aB h;refine aH 3 ?_;refine Gf (fun _ K=>u0 K (Dp Cx M.rE)) ?_;rintro _ w ⟨rfl,M⟩;refine ⟨M.toS,?_⟩;refine Gf (fun _ K=>bS rfl PP z9 K (vs:=[(0,.string (bs B1.1))]) (cs:=[.string (bs B1.1)]) rfl aQ rfl rfl M) ?_;rintro _ w ⟨gs4,rfl,M⟩;replace M:=M.fX 0 rfl cS ([B1.1]:List aR) (n:=1) rfl rfl rfl;refine ⟨M.toS,?_⟩;obtain ⟨OA,Yj,h⟩:=aB h;refine Gf (fun _ K=>fQ (C:=cS) (xs:=pG) (ys:=([B1.1]:List aR)) rfl PP rfl z9 rfl rfl K rfl rfl 2 M rfl ((p9 (C:=cS) 0 rfl rfl) _ M) Yj) ?_;rintro _ w ⟨A7,c7,rfl,M⟩;refine ⟨M.toS,?_⟩;refine aH 1 ?_;refine z7 (fun _ K=>jX M K 4) ?_;intro _ w M;obtain ⟨x5,hx,h⟩:=cL h;refine kN 6 hx ?_;exact iG 2 (OA,B1.2.1,B1.2.2,x5) (M.pick [2,1,3,4,5] aL)
   intro hb h;exact jY 3 (hk2 (pG,Ws,Ja,i3)) (M.pick [0,1,2,3,4] aL)
  intro hb h;exact jY 12 (hk2 (pG,Ws,Ja,i3)) (M.pick [0,1,2,3,4] aL)
 rintro kk aA ⟨GK,Wt,Jb,i⟩ a w hk1 ⟨A,c,K,M⟩ h;unfold gW at h;revert a;refine kJ 6 38 h ?_ ?_
 ·intro hb h;refine cB 8 h ?_ ?_
  ·intro hb h;refine aH 4 ?_;intro a K;refine aK (fun w=>Mem _ _ w _) [0,0,0,1,1,1,0,2] aQ aQ (M.pick [2,3] aL).drew ?_;replace M:=M.drew;revert a;obtain ⟨Cd,BG,h⟩:=aB h;refine aH 3 ?_;refine Gf (fun _ K=>u0 K (bV BG M.rE)) ?_;rintro _ w ⟨rfl,M⟩;refine ⟨M.toS,?_⟩;refine Gf (fun _ K=>bS rfl pI z3 K (vs:=[(0,I Cd.1)]) (cs:=[I Cd.1]) rfl aQ rfl rfl M) ?_;rintro _ w ⟨gs2,rfl,M⟩;replace M:=M.fX 0 rfl (cI .i64) ([Cd.1]:List Int) (n:=1) rfl rfl rfl;refine ⟨M.toS,?_⟩;obtain ⟨UW,aCV,h⟩:=aB h;refine Gf (fun _ K=>fQ (C:=(cI .i64)) (xs:=GK) (ys:=([Cd.1]:List Int)) rfl pI rfl z3 rfl rfl K rfl rfl 2 M rfl ((p9 (C:=(cI .i64)) 0 rfl rfl) _ M) aCV) ?_;rintro _ w ⟨A3,c3,rfl,M⟩;refine ⟨M.toS,?_⟩;refine aH 1 ?_;refine z7 (fun _ K=>jX M K 3) ?_;intro _ w M;obtain ⟨x3,hx,h⟩:=cL h;refine kN 6 hx ?_;exact iG 2 (UW,Cd.2.1,Cd.2.2,x3) (M.pick [2,1,3,4] aL)
  intro hb h;exact jY 3 (hk1 (GK,Wt,Jb,i)) (M.pick [0,1,2,3] aL)
 intro hb h;exact jY 12 (hk1 (GK,Wt,Jb,i)) (M.pick [0,1,2,3] aL)
end
end Go.Proofs.YtpmnfhifmmfgladGreatDoor
