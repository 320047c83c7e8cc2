/- Parts of the proof. -/
import Derived.Test.YtpmnfhifmmfgladGreatDoorShotDevelopsK5
import Derived.Test.YtpmnfhifmmfgladGreatDoorShotDevelopsK10
import Derived.Test.YtpmnfhifmmfgladGreatDoorShotDevelopsK14
import Derived.Test.YtpmnfhifmmfgladGreatDoorShotDevelopsK15
set_option linter.unusedVariables false
set_option linter.unusedSimpArgs false
set_option linter.unusedSectionVars false
set_option maxRecDepth 100000
set_option maxHeartbeats 8000000
open Go.IntKind renaming i64→aC,u8→iH
open Int renaming tdiv→gI,tmod→mN
namespace Go.Proofs.YtpmnfhifmmfgladGreatDoor
section
open Go.RowKit
theorem F8 {N:Nat} {a_W a_H:Int} {a_P:List bU} {aJY:Option Addr} {aJZ:Nat} {b_W b_H:Int} {b_P:List bU} {aJ0:Option Addr} {aJ1:Nat} {w0:World} {r:Bool} (h:vK N a_W a_H a_P b_W b_H b_P=some r) (aQf:SL w0 dJ aJY a_P) (aQg:a_P.length≤aJZ) (aQh:SL w0 dJ aJ0 b_P) (aQi:b_P.length≤aJ1) :
  lL 24 #[.agg #[I a_W,I a_H,.slice aJY a_P.length aJZ],.agg #[I b_W,I b_H,.slice aJ0 b_P.length aJ1]] w0 (DQ r w0):=by
 refine gE Tryz.func24 Tryz.ntmps24 ?_;intro M;unfold vK at h;refine eE 2 ?_;intro g_a w M;refine eE 0 ?_;intro g_b w M;refine kJ 12 11 h ?_ ?_
 ·intro hb h;exact bP 25 M.nQ
 intro hb h;refine kJ 7 18 h ?_ ?_
 ·intro hb h;exact bP 18 M.nQ
 intro hb h;refine cB 10 h ?_ ?_
 ·intro hb h;exact bP 7 M.nQ
 intro hb h;refine pM 9 0 [2,3] [0,1] (fun ZL ZM (i:Int) a w=>Kn a 45 ((5,I i)::ZL)∧jL w0 w ZM) (M.pick [0,1] aL) ?_ ?_
 ·rintro i4 a w ⟨K,M⟩ h
  revert a;exact bP 8 M.nQ
 rintro kk aA i a w hk1 ⟨K,M⟩ h;unfold tJ at h;revert a;refine cB 10 h ?_ ?_
 ·intro hb h;refine Xx 5 ?_;replace M:=M.drew;obtain ⟨e3,_,h⟩:=aB h;refine aH 8 ?_;obtain ⟨e4,_,h⟩:=aB h;refine aH 2 ?_;refine G4 (fun _ K=>UL aPE rfl K rfl rfl (aNz _ _ _ _ _ _)) ?_;refine cB 2 h ?_ ?_
  ·intro hb h;exact bP 11 M.nQ
  intro hb h;obtain ⟨i3,hx,h⟩:=cL h;refine kN 6 hx ?_;exact iG 2 i3 (M.pick [0,1] aL)
 intro hb h;exact jY 3 (hk1 i) (M.pick [0,1] aL)
theorem G9 {N:Nat} {gF lK:Int} {gG:List bU} {kK:Option Addr} {kW:Nat} {w0:World} {r:Bool} (h:pH N gF lK gG=some r) (Ar:SL w0 dJ kK gG) (zT:gG.length≤kW) :
  lL 67 #[.agg #[I gF,I lK,.slice kK gG.length kW]] w0 (DQ r w0):=by
 refine gE Tryz.func67 Tryz.ntmps67 ?_;intro M;unfold pH at h;refine eE 2 ?_;intro LK w M;obtain ⟨r2,cR,h⟩:=aB h;refine fP 8 (aT cR) ?_;intro w M;refine kJ 2 8 h ?_ ?_
 ·intro hb h;exact bP 26 M.nQ
 intro hb h;obtain ⟨r3,gP,h⟩:=aB h;refine fP 2 (aT gP) ?_;intro w M;refine kJ 3 14 h ?_ ?_
 ·intro hb h;exact bP 20 M.nQ
 intro hb h;refine cB 12 h ?_ ?_
 ·intro hb h;exact bP 7 M.nQ
 intro hb h;refine pM 9 0 [1] [] (fun ZL ZM (i:Int) a w=>Kn a 60 ((3,I i)::ZL)∧jL w0 w [.blk LK 50 [I gF,I lK,.slice kK gG.length kW]]) M.oQ ?_ ?_
 ·rintro i4 a w ⟨K,M⟩ h
  revert a;exact bP 8 M.nQ
 rintro kk aA i a w hk1 ⟨K,M⟩ h;unfold kV at h;revert a;refine cB 10 h ?_ ?_
 ·intro hb h;obtain ⟨e4,_,h⟩:=aB h;refine aH 12 ?_;obtain ⟨r7,zG,h⟩:=aB h;refine fP 0 (aT zG) ?_;intro w M;refine kJ 2 40 h ?_ ?_
  ·intro hb h;exact bP 33 M.nQ
  intro hb h;obtain ⟨e5,_,h⟩:=aB h;refine aH 6 ?_;obtain ⟨r8,BF,h⟩:=aB h;refine fP 0 (aT BF) ?_;intro w M;refine kJ 3 50 h ?_ ?_
  ·intro hb h;exact bP 23 M.nQ
  intro hb h;obtain ⟨e6,_,h⟩:=aB h;refine aH 6 ?_;obtain ⟨r9,EK,h⟩:=aB h;refine fP 0 (aT EK) ?_;intro w M;refine cB 4 h ?_ ?_
  ·intro hb h;exact bP 11 M.nQ
  intro hb h;obtain ⟨i3,hx,h⟩:=cL h;refine kN 6 hx ?_;exact iG 2 i3 M.oQ
 intro hb h;exact jY 3 (hk1 i) M.oQ
theorem IQ {N:Nat} {gF lK:Int} {gG:List bU} {kK:Option Addr} {kW:Nat} {r_X r_Y v8 sV:Int} {w0:World} {r:Int} (h:oY N gF lK gG r_X r_Y v8 sV=some r) (Ar:SL w0 dJ kK gG) (zT:gG.length≤kW) :
  lL 16 #[.agg #[I gF,I lK,.slice kK gG.length kW],.agg #[I r_X,I r_Y,I v8,I sV]] w0 (zO r w0):=by
 refine gE Tryz.func16 Tryz.ntmps16 ?_;intro M;unfold oY at h;refine eE 2 ?_;intro LK w M;refine eE 0 ?_;intro Ca w M;obtain ⟨r2,cR,h⟩:=aB h;refine fP 7 (G9 cR) ?_;intro w M;refine cB 3 h ?_ ?_
 ·intro hb h;exact bP 7 M.nQ
 intro hb h;obtain ⟨r3,gP,h⟩:=aB h;refine fP 9 (aT gP) ?_;intro w M;refine kJ 2 14 h ?_ ?_
 ·intro hb h;exact bP 39 M.nQ
 intro hb h;obtain ⟨r4,lJ,h⟩:=aB h;refine fP 4 (aT lJ) ?_;intro w M;refine kJ 3 22 h ?_ ?_
 ·intro hb h;exact bP 31 M.nQ
 intro hb h;obtain ⟨r5,qA,h⟩:=aB h;refine fP 7 (aT qA) ?_;intro w M;refine kJ 3 33 h ?_ ?_
 ·intro hb h;exact bP 20 M.nQ
 intro hb h;obtain ⟨r6,tA,h⟩:=aB h;refine fP 7 (aT tA) ?_;intro w M;refine cB 4 h ?_ ?_
 ·intro hb h;exact bP 7 M.nQ
 intro hb h;exact bP 8 M.nQ
theorem Lp {N:Nat} {gF lK:Int} {gG:List bU} {kK:Option Addr} {kW:Nat} {r_X r_Y v8 sV:Int} {w0:World} {r:nJ} (h:sB N gF lK gG r_X r_Y v8 sV=some r) (Ar:SL w0 dJ kK gG) (zT:gG.length≤kW) :
  lL 17 #[.agg #[I gF,I lK,.slice kK gG.length kW],.agg #[I r_X,I r_Y,I v8,I sV]] w0 (KZ r w0):=by
 refine gE Tryz.func17 Tryz.ntmps17 ?_;intro M;unfold sB at h;refine eE 2 ?_;intro LK w M;refine eE 0 ?_;intro Ca w M;refine eE 0 ?_;intro jM w M;refine aH 8 ?_;refine jO (fun _ K=>bQ rfl K (vs:=[(0,I v8),(1,I sV)]) (cs:=[I v8,I sV,.slice none (([]:List bU)).length 0]) rfl aQ) M ?_;refine eE 0 ?_;intro vF w M;refine cV 0 ?_;intro w M;refine aH 11 ?_;replace M:=Mem.cC 65 3 dJ M;refine pM 0 0 [2,3,4,5] [2,3,4] (fun ZL ZM (⟨cJ,y⟩:pN) a w=>∃(A:Option Addr) (c:Nat),Kn a 48 ((6,I y)::ZL)∧jL w0 w (.row 65 3 A cJ.length c (dJ.all cJ) :: .blk vF 50 [I v8,I sV,.slice A cJ.length c]::ZM)) (M.pick [0,1,2,3,4] aL) ?_ ?_
 ·rintro ⟨nD,y4⟩ a w ⟨A4,c4,K,M⟩ h
  revert a;refine cV 5 ?_;intro w M;exact bP 3 M.oQ
 rintro kk aA ⟨cJ,y⟩ a w hk1 ⟨A,c,K,M⟩ h;unfold oZ at h;revert a;refine cB 12 h ?_ ?_
 ·intro hb h;refine aH 4 ?_;intro a K;refine aK (fun w=>Mem _ _ w _) [0,0,0,0,0,0,0,0,0,0,0,0,0,0,0,0,0,0,0,0,0,0,1,0,2] aQ aQ (M.pick [1,2,3,4] aL).drew ?_;replace M:=M.drew;revert a;obtain ⟨l3,Ih,h⟩:=aB h;refine aH 21 ?_;refine G4 (fun _ K=>Fa (C:=dJ) (k:=.i64) (k':=.i64) rfl wU rfl K rfl zT rfl rfl Ih) ?_;obtain ⟨gA,Lq,h⟩:=aB h;refine Gf (fun _ K=>fQ (C:=dJ) (xs:=cJ) (ys:=l3) rfl wU rfl z65 rfl rfl K rfl rfl 0 M rfl ((fun w M=>(I4 Ih zT) w ((Cc Ar) w M)) _ M) Lq) ?_;rintro _ w ⟨A3,c3,rfl,M⟩;refine ⟨M.toS,?_⟩;refine aH 1 ?_;refine z7 (fun _ K=>jX M K 1) ?_;intro _ w M;obtain ⟨y3,hx,h⟩:=cL h;refine kN 6 hx ?_;exact iG 2 (gA,y3) (M.pick [0,1,2,3,4] aL)
 intro hb h;exact jY 3 (hk1 (cJ,y)) (M.pick [0,1,2,3,4] aL)
theorem IV (N:Nat):∀(fu:Nat) (n:Int) (w0:World)  (r:aR) (h:mK N fu n=some r),
  lL 113 #[I n] w0 fun v w'=>v = .string (bs r)∧jL w0 w' []:=by
 intro fu
 induction fu with
 | zero=>intros;rename_i h;unfold mK at h;cases h
 | succ fu ih=>
  intro n w0 r h;refine qC Tryz.func113 rfl Tryz.ntmps113 rfl ?_;intro a K;have M:=Mem.start w0;have K:Kn a 18 [(0,_)]:=K;unfold mK at h;refine wp_seq (Ea ?_);refine SU K M ?_;clear K;intro a K;refine wnQ (wY (wp_seq (Ea ?_)));refine SU K M ?_;clear K;refine jO (fun _ K=>YC rfl K rfl rfl aL) M ?_;refine ZP M ?_;refine jO (fun _ K=>I3 rfl rfl SV K rfl) M ?_;intro a K;refine X_a K (bS rfl nI z5 K (vs:=[(0,.int .u8 (iH.wrap (aC.wrap (48+(mN n 10)))))]) (cs:=[.int .u8 (iH.wrap (aC.wrap (48+(mN n 10))))]) rfl aQ rfl rfl M) ?_;have M0:=M;clear K M;rintro _ a w ⟨gs,rfl,M⟩ K;replace M:=M.fX 0 rfl (cI .u8) ([iH.wrap (aC.wrap (48+(mN n 10)))]:List Int) (n:=1) rfl rfl rfl;clear M0;refine X_a K (LI rfl nI SV Ok K rfl M ((p9 (C:=(cI .u8)) 0 rfl rfl) _ M)) ?_;clear K M;rintro _ a w ⟨rfl,M⟩ K;refine SU K M ?_;clear K;intro a K;refine wnQ (wY (wp_seq (wp_seq (Ea ?_))));refine SU K M ?_;clear K;refine ZP M ?_;intro a K;refine wnQ (wY ?_);refine YF K rfl (fun hb=>?_) (fun hb=>?_)
  ·have h:=Wj hb h;refine wp_seq (Ea ?_);refine SU K M ?_;clear K;refine ZP M ?_;intro a K;refine wnQ (wY (wp_ret (QL ?_)));cases h;exact D4 K rfl (jD K rfl) ⟨_,rfl,rfl,M.pick [] aL⟩
  have h:=Qy hb h;refine wp_skip (wY (wp_seq (Ea ?_)));refine SU K M ?_;clear K;refine jO (fun _ K=>QC rfl K rfl rfl aL) M ?_;intro a K;obtain ⟨r2,cR,h⟩:=aB h;refine X_a K (oI (vs:=[I (aC.wrap (gI n 10))]) (cap:=[]) rfl (B8 113 aQ) K rfl rfl (ih (aC.wrap (gI n 10)) _  r2 cR)) ?_;clear K;rintro _ a w ⟨rfl,Zq⟩ K;replace M:=M.call Zq;clear Zq;refine SU K M ?_;clear K;obtain ⟨s,h_s,h⟩:=aB h;refine jO (fun _ K=>Ny rfl K rfl rfl h_s) M ?_;refine ZP M ?_;intro a K;refine wnQ (wY (wp_ret ?_));cases h;exact D4 K rfl (jD K rfl) ⟨_,rfl,rfl,M.pick [] aL⟩
theorem wR {N:Nat} {n:Int} {w0:World} {r:aR} (h:oG N n=some r) :
  Calls Tryz.prog 113 #[I n] w0 fun e w'=>∃v,e = .returned v∧v = .string (bs r)∧jL w0 w' []:=IV N N n w0 r h
theorem LZ {N:Nat} {w2 h2:Int} {eH:Bool} {w0:World} {r:aR} (h:vD N w2 h2 eH=some r) :
  lL 68 #[I w2,I h2,.bool eH] w0 (Xz r w0):=by
 refine gE Tryz.func68 Tryz.ntmps68 ?_;intro M;unfold vD at h;refine cB 16 h ?_ ?_
 ·intro hb h;obtain ⟨r2,cR,h⟩:=aB h;refine fP 7 (wR cR) ?_;intro w M;obtain ⟨s,_,h⟩:=aB h;refine aH 1 ?_;obtain ⟨s2,_,h⟩:=aB h;refine aH 2 ?_;obtain ⟨r3,gP,h⟩:=aB h;refine fP 0 (wR gP) ?_;intro w M;obtain ⟨s3,_,h⟩:=aB h;refine aH 1 ?_;obtain ⟨s4,_,h⟩:=aB h;refine aH 2 ?_;obtain ⟨s5,_,h⟩:=aB h;refine aH 1 ?_;obtain ⟨s6,_,h⟩:=aB h;exact bP 5 M.nQ
 intro hb h;obtain ⟨r4,lJ,h⟩:=aB h;refine fP 5 (wR lJ) ?_;intro w M;obtain ⟨s7,_,h⟩:=aB h;refine aH 1 ?_;obtain ⟨s8,_,h⟩:=aB h;refine aH 2 ?_;obtain ⟨r5,qA,h⟩:=aB h;refine fP 0 (wR qA) ?_;intro w M;obtain ⟨s9,_,h⟩:=aB h;refine aH 1 ?_;obtain ⟨s10,_,h⟩:=aB h;refine aH 2 ?_;obtain ⟨s11,_,h⟩:=aB h;refine aH 1 ?_;obtain ⟨s12,_,h⟩:=aB h;exact bP 5 M.nQ
theorem Cz {N:Nat} {gF lK:Int} {gG:List bU} {kK:Option Addr} {kW:Nat} {eH:Bool} {w0:World} {r:aR} (h:iP N gF lK gG eH=some r) (Ar:SL w0 dJ kK gG) (zT:gG.length≤kW) :
  lL 19 #[.agg #[I gF,I lK,.slice kK gG.length kW],.bool eH] w0 (Xz r w0):=by
 refine gE Tryz.func19 Tryz.ntmps19 ?_;intro M;unfold iP at h;refine eE 2 ?_;intro LK w M;obtain ⟨r2,cR,h⟩:=aB h;refine fP 10 (LZ cR) ?_;intro w M;obtain ⟨_,h0,h⟩:=aB h;have h0:=aDz h0;refine Za (fun _ K=>ZR rfl Ok nI SV h0 K rfl M) ?_;rintro _ w ⟨A,c,rfl,M⟩;refine pM 10 0 [1,2] [1] (fun ZL ZM (⟨l2,i⟩:gL) a w=>∃(A2:Option Addr) (c2:Nat),Kn a 51 ((5,.slice A2 l2.length c2)::(6,I i)::ZL)∧jL w0 w (.rwm 5 A2 l2.length c2 ((cI .u8).all l2)::ZM)) (M.pick [0,1] aL) ?_ ?_
 ·rintro ⟨l12,i4⟩ a w ⟨A12,c12,K,M⟩ h
  revert a;refine aH 5 ?_;refine jO (fun _ K=>zF rfl nI SV Ok K rfl (aPC 0 rfl)) M ?_;exact bP 4 M.nQ
 rintro kk aA ⟨l2,i⟩ a w hk1 ⟨A2,c2,K,M⟩ h;unfold lT at h;revert a;refine cB 10 h ?_ ?_
 ·intro hb h;obtain ⟨e4,_,h⟩:=aB h;refine aH 11 ?_;obtain ⟨r4,lJ,h⟩:=aB h;refine fP 0 (xQ lJ) ?_;intro w M;refine eE 0 ?_;intro aP8 w M;refine cV 0 ?_;intro w M;refine pM 8 2 [1,2,6,7] [2] (fun ZL ZM (⟨l6,k4⟩:gL) a w=>∃(A6:Option Addr) (c6:Nat),Kn a 51 ((5,.slice A6 l6.length c6)::(8,I k4)::ZL)∧jL w0 w (.blk aP8 35 [I r4.1,I r4.2.1,I r4.2.2] :: .rwm 5 A6 l6.length c6 ((cI .u8).all l6)::ZM)) (M.pick [0,1,2] aL) ?_ ?_
  ·rintro ⟨Qa,k9⟩ a w ⟨A11,c11,K,M⟩ h
   revert a;obtain ⟨i3,hx,h⟩:=cL h;refine kN 6 hx ?_;exact iG 2 (Qa,i3) (M.pick [1,2] aL)
  rintro kk aA ⟨l6,k4⟩ a w hk2 ⟨A6,c6,K,M⟩ h;unfold fV at h;revert a;refine cB 7 h ?_ ?_
  ·intro hb h;obtain ⟨_,h0,h⟩:=aB h;have h0:=mQ h0;refine aH 9 ?_;obtain ⟨e7,aIt,h⟩:=aB h;refine jO (fun _ K=>qD rfl Hc K rfl (Aw 0 rfl) rfl rfl aIt) M ?_;refine aH 2 ?_;refine Za (fun _ K=>bS rfl nI z5 K (vs:=[(0,.int .u8 (iH.wrap (aC.wrap (gI e7 256))))]) (cs:=[.int .u8 (iH.wrap (aC.wrap (gI e7 256)))]) rfl aQ rfl rfl M) ?_;rintro _ w ⟨gs5,rfl,M⟩;replace M:=M.fX 0 rfl (cI .u8) ([iH.wrap (aC.wrap (gI e7 256))]:List Int) (n:=1) rfl rfl rfl;obtain ⟨l9,aIk,h⟩:=aB h;refine Za (fun _ K=>aBn (xs:=l6) (ys:=([iH.wrap (aC.wrap (gI e7 256))]:List Int)) rfl nI zu5 K rfl rfl 2 M rfl ((p9 (C:=(cI .u8)) 0 rfl rfl) _ M) (Nat.succ_pos _) aIk) ?_;rintro _ w ⟨A9,c9,rfl,M⟩;refine cB 8 h ?_ ?_
   ·intro hb h;obtain ⟨_,h0,h⟩:=aB h;have h0:=mQ h0;refine aH 4 ?_;obtain ⟨e8,aIu,h⟩:=aB h;refine jO (fun _ K=>qD rfl Hc K rfl (Aw 1 rfl) rfl rfl aIu) M ?_;refine aH 1 ?_;refine Za (fun _ K=>bS rfl nI z5 K (vs:=[(0,.int .u8 (iH.wrap e8))]) (cs:=[.int .u8 (iH.wrap e8)]) rfl aQ rfl rfl M) ?_;rintro _ w ⟨gs6,rfl,M⟩;replace M:=M.fX 0 rfl (cI .u8) ([iH.wrap e8]:List Int) (n:=1) rfl rfl rfl;obtain ⟨l10,NE,h⟩:=aB h;refine Za (fun _ K=>aBn (xs:=l9) (ys:=([iH.wrap e8]:List Int)) rfl nI zu5 K rfl rfl 3 M rfl ((p9 (C:=(cI .u8)) 0 rfl rfl) _ M) (Nat.succ_pos _) NE) ?_;rintro _ w ⟨Us,c10,rfl,M⟩;obtain ⟨k7,hx,h⟩:=cL h;refine kN 7 hx ?_;exact iG 2 (l10,k7) (M.pick [2,3,4] aL)
   intro hb h;obtain ⟨k8,hx,h⟩:=cL h;refine kN 6 hx ?_;exact iG 2 (l9,k8) (M.pick [1,2,3] aL)
  intro hb h;exact jY 3 (hk2 (l6,k4)) (M.pick [0,1,2] aL)
 intro hb h;exact jY 3 (hk1 (l2,i)) (M.pick [0,1] aL)
theorem Eh {N:Nat} {eA fY:Int} {fZ:List bU} {kY:Option Addr} {kZ:Nat} {o:Int} {w0:World} {r:nJ} (h:fW N eA fY fZ o=some r) (AN:SL w0 dJ kY fZ) (IG:fZ.length≤kZ) :
  lL 20 #[.agg #[I eA,I fY,.slice kY fZ.length kZ],I o] w0 (KZ r w0):=by
 refine gE Tryz.func20 Tryz.ntmps20 ?_;intro M;unfold fW at h;refine eE 2 ?_;intro jM w M;refine eE 0 ?_;intro dY w M;refine aH 8 ?_;refine jO (fun _ K=>bQ rfl K (vs:=[(0,I eA),(1,I fY)]) (cs:=[I eA,I fY,.slice none (([]:List bU)).length 0]) rfl aQ) M ?_;refine eE 0 ?_;intro fN w M;refine cV 0 ?_;intro w M;refine aH 9 ?_;intro a K;refine w8 (Rel:=fun (⟨x_W,x_H⟩:aN) a w=>Kn a 95 [(1,I o),(2,pQ jM),(4,pQ dY),(5,pQ fN)]∧jL w0 w [.blk fN 50 [I x_W,I x_H,.slice none (([]:List bU)).length 0],.blk dY 50 [I 0,I 0,.slice none (([]:List bU)).length 0],.blk jM 50 [I eA,I fY,.slice kY fZ.length kZ]]) h ?_ ?_
 ·clear K M h;rintro ⟨LQ,OE⟩ a w ⟨K,M⟩ h;try dsimp only at h
  revert a;refine aH 8 ?_;replace M:=Mem.cC 65 3 dJ M;refine pM 0 0 [1,2,4,5] [2,3] (fun ZL ZM (⟨tE,i⟩:pN) a w=>∃(A:Option Addr) (c:Nat),Kn a 95 ((6,I i)::ZL)∧jL w0 w (.row 65 3 A tE.length c (dJ.all tE) :: .blk fN 50 [I LQ,I OE,.slice A tE.length c]::ZM)) (M.pick [0,1,2,3] aL) ?_ ?_
  ·rintro ⟨UX,i41⟩ a w ⟨A8,c8,K,M⟩ h;try dsimp only at h
   revert a;refine cV 5 ?_;intro w M;exact bP 3 M.oQ
  rintro kk aA ⟨tE,i⟩ a w hk1 ⟨A,c,K,M⟩ h;unfold lP at h;revert a;refine cB 9 h ?_ ?_
  ·intro hb h;refine pM 10 2 [1,2,4,5,6] [2,3] (fun ZL ZM (⟨sZ,D2⟩:pN) a w=>∃(A4:Option Addr) (c4:Nat),Kn a 95 ((7,I D2)::ZL)∧jL w0 w (.row 65 3 A4 sZ.length c4 (dJ.all sZ) :: .blk fN 50 [I LQ,I OE,.slice A4 sZ.length c4]::ZM)) (M.pick [0,1,2,3] aL) ?_ ?_
   ·rintro ⟨YU,i40⟩ a w ⟨A7,c7,K,M⟩ h;try dsimp only at h
    revert a;obtain ⟨x8,hx,h⟩:=cL h;refine kN 6 hx ?_;exact iG 2 (YU,x8) (M.pick [0,1,2,3] aL)
   rintro kk aA ⟨sZ,D2⟩ a w hk2 ⟨A4,c4,K,M⟩ h;unfold nZ at h;revert a;refine cB 9 h ?_ ?_
   ·intro hb h;refine aH 19 ?_;intro a K;refine w8 (Rel:=fun (⟨i28,i29⟩:aN) a w=>Kn a 95 [(1,I o),(2,pQ jM),(4,pQ dY),(5,pQ fN),(6,I i),(7,I D2),(8,I i28),(9,I i29)]∧jL w0 w [.row 65 3 A4 sZ.length c4 (dJ.all sZ),.blk fN 50 [I LQ,I OE,.slice A4 sZ.length c4],.blk dY 50 [I 0,I 0,.slice none (([]:List bU)).length 0],.blk jM 50 [I eA,I fY,.slice kY fZ.length kZ]]) h ?_ ?_
    ·clear K M h;rintro ⟨i30,i31⟩ a w ⟨K,M⟩ h;try dsimp only at h
     revert a;refine aH 3 ?_;intro a K;refine w8 (Rel:=fun (i32:Bool) a w=>Kn a 95 [(1,I o),(2,pQ jM),(4,pQ dY),(5,pQ fN),(6,I i),(7,I D2),(8,I i30),(9,I i31),(54,.bool i32)]∧jL w0 w [.row 65 3 A4 sZ.length c4 (dJ.all sZ),.blk fN 50 [I LQ,I OE,.slice A4 sZ.length c4],.blk dY 50 [I 0,I 0,.slice none (([]:List bU)).length 0],.blk jM 50 [I eA,I fY,.slice kY fZ.length kZ]]) h ?_ ?_
     ·clear K M h;rintro i33 a w ⟨K,M⟩ h;try dsimp only at h
      revert a;refine aH 1 ?_;intro a K;refine w8 (Rel:=fun (i34:Int) a w=>Kn a 95 [(1,I o),(2,pQ jM),(4,pQ dY),(5,pQ fN),(6,I i),(7,I D2),(8,I i34),(9,I i31)]∧jL w0 w [.row 65 3 A4 sZ.length c4 (dJ.all sZ),.blk fN 50 [I LQ,I OE,.slice A4 sZ.length c4],.blk dY 50 [I 0,I 0,.slice none (([]:List bU)).length 0],.blk jM 50 [I eA,I fY,.slice kY fZ.length kZ]]) h ?_ ?_
      ·clear K M h;rintro i35 a w ⟨K,M⟩ h;try dsimp only at h
       revert a;refine aH 3 ?_;intro a K;refine w8 (Rel:=fun (i36:Bool) a w=>Kn a 95 [(1,I o),(2,pQ jM),(4,pQ dY),(5,pQ fN),(6,I i),(7,I D2),(8,I i35),(9,I i31),(73,.bool i36)]∧jL w0 w [.row 65 3 A4 sZ.length c4 (dJ.all sZ),.blk fN 50 [I LQ,I OE,.slice A4 sZ.length c4],.blk dY 50 [I 0,I 0,.slice none (([]:List bU)).length 0],.blk jM 50 [I eA,I fY,.slice kY fZ.length kZ]]) h ?_ ?_
       ·clear K M h;rintro i37 a w ⟨K,M⟩ h;try dsimp only at h
        revert a;refine aH 1 ?_;intro a K;refine w8 (Rel:=fun (i38:Int) a w=>Kn a 95 [(1,I o),(2,pQ jM),(4,pQ dY),(5,pQ fN),(6,I i),(7,I D2),(8,I i35),(9,I i38)]∧jL w0 w [.row 65 3 A4 sZ.length c4 (dJ.all sZ),.blk fN 50 [I LQ,I OE,.slice A4 sZ.length c4],.blk dY 50 [I 0,I 0,.slice none (([]:List bU)).length 0],.blk jM 50 [I eA,I fY,.slice kY fZ.length kZ]]) h ?_ ?_
        ·clear K M h;rintro i39 a w ⟨K,M⟩ h;try dsimp only at h
         revert a;refine aH 1 ?_;intro a K;refine aK (fun w=>Mem _ _ w _) [0,0,0,0,0,0,0,0,0,0,0,0,1,1,0,2] aQ aQ (M.pick [1,2,3] aL).drew ?_;replace M:=M.drew;revert a;obtain ⟨e3,_,h⟩:=aB h;refine aH 12 ?_;refine Gf (fun _ K=>bS rfl wU z65 K (vs:=[(0,.agg #[I e3.1,I e3.2.1,I e3.2.2])]) (cs:=[I e3.1,I e3.2.1,I e3.2.2]) rfl aQ rfl rfl M) ?_;rintro _ w ⟨gs3,rfl,M⟩;replace M:=M.fX 0 rfl dJ ([(e3.1,e3.2.1,e3.2.2)]:List bU) (n:=1) rfl rfl rfl;refine ⟨M.toS,?_⟩;obtain ⟨FZ,aAe,h⟩:=aB h;refine Gf (fun _ K=>fQ (C:=dJ) (xs:=sZ) (ys:=([(e3.1,e3.2.1,e3.2.2)]:List bU)) rfl wU rfl z65 rfl rfl K rfl rfl 1 M rfl ((p9 (C:=dJ) 0 rfl rfl) _ M) aAe) ?_;rintro _ w ⟨A6,c6,rfl,M⟩;refine ⟨M.toS,?_⟩;refine aH 1 ?_;refine z7 (fun _ K=>jX M K 2) ?_;intro _ w M;obtain ⟨x7,hx,h⟩:=cL h;refine kN 6 hx ?_;exact iG 2 (FZ,x7) (M.pick [1,2,3,4] aL)
        clear h;rintro wZ Si h;unfold tZ at h;revert a;refine cB 0 h ?_ ?_
        ·intro hb h;obtain ⟨x6,hx,h⟩:=cL h;refine kN 6 hx ?_;exact jY 1 (Si x6) (M.pick [0,1,2,3] aL)
        intro hb h;exact jY 1 (Si i31) (M.pick [0,1,2,3] aL)
       clear h;rintro pZ hj5 h;unfold t6 at h;revert a;refine kJ 4 62 h ?_ ?_
       ·intro hb h;exact jY 12 (hj5 true) (M.pick [0,1,2,3] aL)
       intro hb h;refine kJ 4 66 h ?_ ?_
       ·intro hb h;exact jY 8 (hj5 true) (M.pick [0,1,2,3] aL)
       intro hb h;refine kJ 4 70 h ?_ ?_
       ·intro hb h;exact jY 4 (hj5 true) (M.pick [0,1,2,3] aL)
       intro hb h;exact jY 4 (hj5 (decide (o=7))) (M.pick [0,1,2,3] aL)
      clear h;rintro w5 VZ h;unfold t7 at h;revert a;refine cB 0 h ?_ ?_
      ·intro hb h;obtain ⟨x5,hx,h⟩:=cL h;refine kN 6 hx ?_;exact jY 1 (VZ x5) (M.pick [0,1,2,3] aL)
      intro hb h;exact jY 1 (VZ i30) (M.pick [0,1,2,3] aL)
     clear h;rintro p6 hj3 h;unfold t8 at h;revert a;refine kJ 4 43 h ?_ ?_
     ·intro hb h;exact jY 12 (hj3 true) (M.pick [0,1,2,3] aL)
     intro hb h;refine kJ 4 47 h ?_ ?_
     ·intro hb h;exact jY 8 (hj3 true) (M.pick [0,1,2,3] aL)
     intro hb h;refine kJ 4 51 h ?_ ?_
     ·intro hb h;exact jY 4 (hj3 true) (M.pick [0,1,2,3] aL)
     intro hb h;exact jY 4 (hj3 (decide (o=8))) (M.pick [0,1,2,3] aL)
    clear h;rintro w6 hj2 h;unfold t9 at h;revert a;refine cB 0 h ?_ ?_
    ·intro hb h;exact jY 6 (hj2 (i,D2)) (M.pick [0,1,2,3] aL)
    intro hb h;exact jY 1 (hj2 (D2,i)) (M.pick [0,1,2,3] aL)
   intro hb h;exact jY 3 (hk2 (sZ,D2)) (M.pick [0,1,2,3] aL)
  intro hb h;exact jY 3 (hk1 (tE,i)) (M.pick [0,1,2,3] aL)
 clear h;rintro w7 hj1 h;unfold uA at h;revert a;refine cB 0 h ?_ ?_
 ·intro hb h;intro a K;refine aK (fun w=>Mem _ _ w _) [0,0,0,0,0,1,0,2] aQ aQ (M.pick [1,2] aL).drew ?_;replace M:=M.drew;revert a;refine aH 5 ?_;refine J8 (fun _ K=>jX M K 0) ?_;intro _ w M;refine ⟨M.toS,?_⟩;refine aH 1 ?_;refine z7 (fun _ K=>jX M K 0) ?_;intro _ w M;exact jY 1 (hj1 (fY,eA)) (M.pick [0,1,2] aL)
 intro hb h;exact jY 1 (hj1 (eA,fY)) (M.pick [0,1,2] aL)
theorem Ag {N:Nat} {l2:List aN} {BW:Option Addr} {BX:Nat} {x2:Int} {w0:World} {r:Int} (h:jW N l2 x2=some r) (O9:SL w0 jG BW l2) (R8:l2.length≤BX) :
  lL 112 #[.slice BW l2.length BX,I x2] w0 (zO r w0):=by
 refine gE Tryz.func112 Tryz.ntmps112 ?_;intro M;unfold jW at h;refine pM 12 0 [0,1] [] (fun ZL ZM (i:Int) a w=>Kn a 45 ((5,I i)::ZL)∧jL w0 w []) M.nQ ?_ ?_
 ·rintro i4 a w ⟨K,M⟩ h
  revert a;refine aH 3 ?_;refine Jr [0,0,0,0,0,0,0,0,0,1,1,1,2] 13 [0,1,2,3,4,5,6,7,8,9,10,11,12] M ?_;replace M:=M.drew;obtain ⟨e3,_,h⟩:=aB h;obtain ⟨e4,_,h⟩:=aB h;refine aH 9 ?_;refine MX 9 10 ?_ ?_
  ·refine rD rfl (fun _ K=>Ka M) ?_;rintro _ w ⟨g_a,rfl,M⟩;refine ⟨fun _=>M.toS,?_⟩;refine nK 10 ?_;refine rD rfl (fun _ K=>Ka M) ?_;rintro _ w ⟨g_b,rfl,M⟩;refine ⟨fun _=>M.toS,?_⟩;refine nK 11 ?_;refine D3 rfl (fun _ K=>oO M K 1) ?_;intro _ w M;refine ⟨fun _=>M.toS,?_⟩;refine nK 12 ?_;refine D3 rfl (fun _ K=>oO M K 0) ?_;intro _ w M;refine ⟨fun h=>absurd h aL,?_⟩;refine Xx 3 ?_;replace M:=M.drew;obtain ⟨_,h0,h⟩:=aB h;have h0:=dG h0;obtain ⟨x3,hx,h⟩:=cL h;refine gmQ 18 hx ?_;exact bP 4 M.nQ
  ·refine rD rfl (fun _ K=>Ka M) ?_;rintro _ w ⟨aPX,rfl,M⟩;refine ⟨fun _=>M.toS,?_⟩;refine nK 9 ?_;refine rD rfl (fun _ K=>Ka M) ?_;rintro _ w ⟨aOg,rfl,M⟩;refine ⟨fun _=>M.toS,?_⟩;refine nK 11 ?_;refine D3 rfl (fun _ K=>oO M K 0) ?_;intro _ w M;refine ⟨fun _=>M.toS,?_⟩;refine nK 12 ?_;refine D3 rfl (fun _ K=>oO M K 1) ?_;intro _ w M;refine ⟨fun h=>absurd h aL,?_⟩;refine Xx 3 ?_;replace M:=M.drew;obtain ⟨_,h0,h⟩:=aB h;have h0:=dG h0;obtain ⟨x4,hx,h⟩:=cL h;refine gmQ 18 hx ?_;exact bP 4 M.nQ
 rintro kk aA i a w hk1 ⟨K,M⟩ h;unfold pY at h;revert a;obtain ⟨e2,_,h⟩:=aB h;refine cB 12 h ?_ ?_
 ·intro hb h;obtain ⟨i3,hx,h⟩:=cL h;refine kN 6 hx ?_;exact iG 3 i3 M.nQ
 intro hb h;exact jY 3 (hk1 i) M.nQ
theorem yL {N:Nat} {gF lK:Int} {gG:List bU} {kK:Option Addr} {kW:Nat} {l2:List aN} {BW:Option Addr} {BX:Nat} {w0:World} {r:nJ} (h:vC N gF lK gG l2=some r) (Ar:SL w0 dJ kK gG) (zT:gG.length≤kW) (O9:SL w0 jG BW l2) (R8:l2.length≤BX) :
  lL 64 #[.agg #[I gF,I lK,.slice kK gG.length kW],.slice BW l2.length BX] w0 (KZ r w0):=by
 refine gE Tryz.func64 Tryz.ntmps64 ?_;intro M;unfold vC at h;refine eE 2 ?_;intro LK w M;refine eE 0 ?_;intro jM w M;refine aH 8 ?_;refine jO (fun _ K=>bQ rfl K (vs:=[(0,I gF),(1,I lK)]) (cs:=[I gF,I lK,.slice none (([]:List bU)).length 0]) rfl aQ) M ?_;refine eE 0 ?_;intro vF w M;refine cV 0 ?_;intro w M;refine aH 9 ?_;replace M:=Mem.cC 65 3 dJ M;refine pM 0 0 [1,2,4,5] [2,3] (fun ZL ZM (⟨cJ,i⟩:pN) a w=>∃(A:Option Addr) (c:Nat),Kn a 44 ((6,I i)::ZL)∧jL w0 w (.row 65 3 A cJ.length c (dJ.all cJ) :: .blk vF 50 [I gF,I lK,.slice A cJ.length c]::ZM)) (M.pick [0,1,2,3] aL) ?_ ?_
 ·rintro ⟨nD,i4⟩ a w ⟨A4,c4,K,M⟩ h
  revert a;refine cV 5 ?_;intro w M;exact bP 3 M.oQ
 rintro kk aA ⟨cJ,i⟩ a w hk1 ⟨A,c,K,M⟩ h;unfold pS at h;revert a;refine cB 10 h ?_ ?_
 ·intro hb h;obtain ⟨e2,_,h⟩:=aB h;refine eE 11 ?_;intro XW w M;refine cV 0 ?_;intro w M;refine aH 2 ?_;intro a K;refine aK (fun w=>Mem _ _ w _) [0,0,0,0,0,1,0,0,0,1,0,0,0,1,1,1,1,0,2] aQ aQ (M.pick [0,2,3,4] aL).drew ?_;replace M:=M.drew;revert a;refine aH 5 ?_;obtain ⟨r5,qA,h⟩:=aB h;refine rU 0 (Ag qA) ?_;intro w M;obtain ⟨r6,tA,h⟩:=aB h;refine rU 3 (Ag tA) ?_;intro w M;obtain ⟨r7,zG,h⟩:=aB h;refine rU 3 (Ag zG) ?_;intro w M;intro a K;refine Wm K (cA rfl) rfl rfl (bQ rfl K (vs:=[(0,I r5),(1,I r6),(2,I r7)]) (cs:=[I r5,I r6,I r7]) rfl aQ) M (M.pick [0,2,3,4] aL) ?_;clear K;intro a K;revert a;refine Gf (fun _ K=>bS rfl wU z65 K (vs:=[(0,.agg #[I r5,I r6,I r7])]) (cs:=[I r5,I r6,I r7]) rfl aQ rfl rfl M) ?_;rintro _ w ⟨gs2,rfl,M⟩;replace M:=M.fX 0 rfl dJ ([(r5,r6,r7)]:List bU) (n:=1) rfl rfl rfl;refine ⟨M.toS,?_⟩;obtain ⟨gA,Lq,h⟩:=aB h;refine Gf (fun _ K=>fQ (C:=dJ) (xs:=cJ) (ys:=([(r5,r6,r7)]:List bU)) rfl wU rfl z65 rfl rfl K rfl rfl 2 M rfl ((p9 (C:=dJ) 0 rfl rfl) _ M) Lq) ?_;rintro _ w ⟨A3,c3,rfl,M⟩;refine ⟨M.toS,?_⟩;refine aH 1 ?_;refine z7 (fun _ K=>jX M K 3) ?_;intro _ w M;obtain ⟨i3,hx,h⟩:=cL h;refine kN 6 hx ?_;exact iG 2 (gA,i3) (M.pick [2,3,4,5] aL)
 intro hb h;exact jY 3 (hk1 (cJ,i)) (M.pick [0,1,2,3] aL)
theorem wT {N:Nat} {lE mS:Int} {iI:List Int} {kC:Option Addr} {kD:Nat} {aI Bf Bg Bh:Int} {w0:World} {r:qP} (h:qN N lE mS iI aI Bf Bg Bh=some r) (xN:SL w0 (cI .i64) kC iI) (zS:iI.length≤kD) :
  lL 60 #[.agg #[I lE,I mS,.slice kC iI.length kD],I aI,.agg #[I Bf,I Bg,I Bh]] w0 (aCK r w0):=by
 refine gE Tryz.func60 Tryz.ntmps60 ?_;intro M;unfold qN at h;refine eE 2 ?_;intro Ie w M;refine eE 0 ?_;intro aIo w M;refine eE 0 ?_;intro jM w M;refine aH 8 ?_;refine jO (fun _ K=>bQ rfl K (vs:=[(0,I lE),(1,I mS)]) (cs:=[I lE,I mS,.slice none ([]:List Int).length 0]) rfl aQ) M ?_;refine eE 0 ?_;intro vF w M;refine cV 0 ?_;intro w M;refine aH 9 ?_;replace M:=Mem.cC 3 1 (cI .i64) M;refine pM 0 0 [1,3,5,6,7] [2,3,4] (fun ZL ZM (⟨cJ,i⟩:gL) a w=>∃(A:Option Addr) (c:Nat),Kn a 47 ((8,I i)::ZL)∧jL w0 w (.row 3 1 A cJ.length c ((cI .i64).all cJ) :: .blk vF 45 [I lE,I mS,.slice A cJ.length c]::ZM)) (M.pick [0,1,2,3,4] aL) ?_ ?_
 ·rintro ⟨nD,i4⟩ a w ⟨A4,c4,K,M⟩ h
  revert a;refine cV 5 ?_;intro w M;exact bP 3 M.oQ
 rintro kk aA ⟨cJ,i⟩ a w hk1 ⟨A,c,K,M⟩ h;unfold nW at h;revert a;refine cB 10 h ?_ ?_
 ·intro hb h;refine aH 4 ?_;intro a K;refine aK (fun w=>Mem _ _ w _) [0,0,0,0,0,0,0,0,0,0,0,0,0,0,0,0,1,0,0,0,0,1,1,1,0,2] aQ aQ (M.pick [1,2,3,4] aL).drew ?_;replace M:=M.drew;revert a;obtain ⟨e3,_,h⟩:=aB h;refine aH 11 ?_;obtain ⟨_,h0,h⟩:=aB h;have h0:=dG h0;refine aH 4 ?_;obtain ⟨_,h0,h⟩:=aB h;have h0:=dG h0;refine aH 1 ?_;obtain ⟨r4,lJ,h⟩:=aB h;refine rU 0 (zM lJ) ?_;intro w M;obtain ⟨_,h0,h⟩:=aB h;have h0:=mQ h0;refine aH 1 ?_;obtain ⟨e4,aCQ,h⟩:=aB h;refine G4 (fun _ K=>qD rfl Hc K rfl (Aw 2 rfl) rfl rfl aCQ) ?_;obtain ⟨r5,qA,h⟩:=aB h;refine rU 2 (sD qA) ?_;intro w M;refine Gf (fun _ K=>bS rfl pI z3 K (vs:=[(0,I r5)]) (cs:=[I r5]) rfl aQ rfl rfl M) ?_;rintro _ w ⟨gs2,rfl,M⟩;replace M:=M.fX 0 rfl (cI .i64) ([r5]:List Int) (n:=1) rfl rfl rfl;refine ⟨M.toS,?_⟩;obtain ⟨gA,Lq,h⟩:=aB h;refine Gf (fun _ K=>fQ (C:=(cI .i64)) (xs:=cJ) (ys:=([r5]:List Int)) rfl pI rfl z3 rfl rfl K rfl rfl 1 M rfl ((p9 (C:=(cI .i64)) 0 rfl rfl) _ M) Lq) ?_;rintro _ w ⟨A3,c3,rfl,M⟩;refine ⟨M.toS,?_⟩;refine aH 1 ?_;refine z7 (fun _ K=>jX M K 2) ?_;intro _ w M;obtain ⟨i3,hx,h⟩:=cL h;refine kN 6 hx ?_;exact iG 2 (gA,i3) (M.pick [1,2,3,4,5] aL)
 intro hb h;exact jY 3 (hk1 (cJ,i)) (M.pick [0,1,2,3,4] aL)
theorem Ds {N:Nat} {lE mS:Int} {iI:List Int} {kC:Option Addr} {kD:Nat} {yX yY yZ y6 white:Int} {w0:World} {r:qP} (h:oR N lE mS iI yX yY yZ y6 white=some r) (xN:SL w0 (cI .i64) kC iI) (zS:iI.length≤kD) :
  lL 62 #[.agg #[I lE,I mS,.slice kC iI.length kD],.agg #[I yX,I yY,I yZ,I y6],I white] w0 (aCK r w0):=by
 refine gE Tryz.func62 Tryz.ntmps62 ?_;intro M;unfold oR at h;refine eE 2 ?_;intro Ie w M;refine eE 0 ?_;intro aIl w M;refine eE 0 ?_;intro jM w M;refine aH 8 ?_;refine jO (fun _ K=>bQ rfl K (vs:=[(0,I lE),(1,I mS)]) (cs:=[I lE,I mS,.slice none ([]:List Int).length 0]) rfl aQ) M ?_;refine eE 0 ?_;intro vF w M;refine cV 0 ?_;intro w M;refine aH 9 ?_;replace M:=Mem.cC 3 1 (cI .i64) M;refine pM 0 0 [2,3,4,6,7] [2,3,4] (fun ZL ZM (⟨cJ,y⟩:gL) a w=>∃(A:Option Addr) (c:Nat),Kn a 54 ((8,I y)::ZL)∧jL w0 w (.row 3 1 A cJ.length c ((cI .i64).all cJ) :: .blk vF 45 [I lE,I mS,.slice A cJ.length c]::ZM)) (M.pick [0,1,2,3,4] aL) ?_ ?_
 ·rintro ⟨H9,y4⟩ a w ⟨A8,c8,K,M⟩ h
  revert a;refine cV 5 ?_;intro w M;exact bP 3 M.oQ
 rintro kk aA ⟨cJ,y⟩ a w hk1 ⟨A,c,K,M⟩ h;unfold mG at h;revert a;refine cB 9 h ?_ ?_
 ·intro hb h;refine pM 10 2 [2,3,4,6,7,8] [2,3,4] (fun ZL ZM (⟨nD,x4⟩:gL) a w=>∃(A4:Option Addr) (c4:Nat),Kn a 54 ((9,I x4)::ZL)∧jL w0 w (.row 3 1 A4 nD.length c4 ((cI .i64).all nD) :: .blk vF 45 [I lE,I mS,.slice A4 nD.length c4]::ZM)) (M.pick [0,1,2,3,4] aL) ?_ ?_
  ·rintro ⟨GI,x7⟩ a w ⟨A7,c7,K,M⟩ h
   revert a;obtain ⟨y3,hx,h⟩:=cL h;refine kN 6 hx ?_;exact iG 2 (GI,y3) (M.pick [0,1,2,3,4] aL)
  rintro kk aA ⟨nD,x4⟩ a w hk2 ⟨A4,c4,K,M⟩ h;unfold mF at h;revert a;refine cB 9 h ?_ ?_
  ·intro hb h;obtain ⟨_,h0,h⟩:=aB h;have h0:=mQ h0;refine aH 13 ?_;obtain ⟨e3,aLN,h⟩:=aB h;refine jO (fun _ K=>qD rfl Hc K rfl (Aw 3 rfl) rfl rfl aLN) M ?_;refine aH 3 ?_;intro a K;refine aK (fun w=>Mem _ _ w _) [0,0,0,0,0,1,0,0,0,0,0,0,1,1,1,1,0,2] aQ aQ (M.pick [1,2,3,4] aL).drew ?_;replace M:=M.drew;revert a;obtain ⟨r8,BF,h⟩:=aB h;refine rU 5 (eG BF) ?_;intro w M;obtain ⟨r9,EK,h⟩:=aB h;refine rU 6 (fO EK) ?_;intro w M;obtain ⟨Cd,BG,h⟩:=aB h;refine rU 0 (sD BG) ?_;intro w M;refine Gf (fun _ K=>bS rfl pI z3 K (vs:=[(0,I Cd)]) (cs:=[I Cd]) rfl aQ rfl rfl M) ?_;rintro _ w ⟨gs3,rfl,M⟩;replace M:=M.fX 0 rfl (cI .i64) ([Cd]:List Int) (n:=1) rfl rfl rfl;refine ⟨M.toS,?_⟩;obtain ⟨GH,Lf,h⟩:=aB h;refine Gf (fun _ K=>fQ (C:=(cI .i64)) (xs:=nD) (ys:=([Cd]:List Int)) rfl pI rfl z3 rfl rfl K rfl rfl 1 M rfl ((p9 (C:=(cI .i64)) 0 rfl rfl) _ M) Lf) ?_;rintro _ w ⟨A6,c6,rfl,M⟩;refine ⟨M.toS,?_⟩;refine aH 1 ?_;refine z7 (fun _ K=>jX M K 2) ?_;intro _ w M;obtain ⟨x6,hx,h⟩:=cL h;refine kN 6 hx ?_;exact iG 2 (GH,x6) (M.pick [1,2,3,4,5] aL)
  intro hb h;exact jY 3 (hk2 (nD,x4)) (M.pick [0,1,2,3,4] aL)
 intro hb h;exact jY 3 (hk1 (cJ,y)) (M.pick [0,1,2,3,4] aL)
theorem xS {N:Nat} {eA fY:Int} {fZ:List bU} {kY:Option Addr} {kZ:Nat} {o:Int} {w0:World} {r:nJ} (h:uQ N eA fY fZ o=some r) (AN:SL w0 dJ kY fZ) (IG:fZ.length≤kZ) :
  lL 63 #[.agg #[I eA,I fY,.slice kY fZ.length kZ],I o] w0 (KZ r w0):=by
 refine gE Tryz.func63 Tryz.ntmps63 ?_;intro M;unfold uQ at h;refine eE 2 ?_;intro jM w M;refine eE 0 ?_;intro dY w M;refine aH 8 ?_;refine jO (fun _ K=>bQ rfl K (vs:=[(0,I eA),(1,I fY)]) (cs:=[I eA,I fY,.slice none (([]:List bU)).length 0]) rfl aQ) M ?_;refine eE 0 ?_;intro fN w M;refine cV 0 ?_;intro w M;refine aH 4 ?_;refine jO (fun _ K=>bQ rfl K (vs:=[(0,I 1),(1,I 2),(2,I 1)]) (cs:=[I 1,I 2,I 1]) rfl aQ) M ?_;refine eE 0 ?_;intro vM w M;refine cV 0 ?_;intro w M;refine aH 9 ?_;replace M:=Mem.cC 65 3 dJ M;refine pM 0 0 [1,2,4,5,6] [3,4] (fun ZL ZM (⟨tE,i⟩:pN) a w=>∃(A:Option Addr) (c:Nat),Kn a 132 ((7,I i)::ZL)∧jL w0 w (.row 65 3 A tE.length c (dJ.all tE) :: .blk vM 35 [I 1,I 2,I 1] :: .blk fN 50 [I eA,I fY,.slice A tE.length c]::ZM)) (M.pick [0,1,2,3,4] aL) ?_ ?_
 ·rintro ⟨UX,i24⟩ a w ⟨A8,c8,K,M⟩ h
  revert a;refine cV 5 ?_;intro w M;exact bP 3 M.oQ
 rintro kk aA ⟨tE,i⟩ a w hk1 ⟨A,c,K,M⟩ h;unfold oX at h;revert a;refine cB 9 h ?_ ?_
 ·intro hb h;refine pM 10 2 [1,2,4,5,6,7] [3,4] (fun ZL ZM (⟨sZ,i7⟩:pN) a w=>∃(A4:Option Addr) (c4:Nat),Kn a 132 ((8,I i7)::ZL)∧jL w0 w (.row 65 3 A4 sZ.length c4 (dJ.all sZ) :: .blk vM 35 [I 1,I 2,I 1] :: .blk fN 50 [I eA,I fY,.slice A4 sZ.length c4]::ZM)) (M.pick [0,1,2,3,4] aL) ?_ ?_
  ·rintro ⟨YU,i23⟩ a w ⟨A7,c7,K,M⟩ h
   revert a;obtain ⟨x62,hx,h⟩:=cL h;refine kN 6 hx ?_;exact iG 2 (YU,x62) (M.pick [0,1,2,3,4] aL)
  rintro kk aA ⟨sZ,i7⟩ a w hk2 ⟨A4,c4,K,M⟩ h;unfold oW at h;revert a;refine cB 9 h ?_ ?_
  ·intro hb h;obtain ⟨e27,_,h⟩:=aB h;refine aH 16 ?_;obtain ⟨Ow,RY,h⟩:=aB h;refine fP 0 (xQ RY) ?_;intro w M;refine eE 0 ?_;intro aQj w M;refine cV 0 ?_;intro w M;refine eE 4 ?_;intro aF3 w M;refine eE 0 ?_;intro aBx w M;refine pM 9 4 [1,2,4,5,6,7,8,9,10,11] [2,3,4,5,6,7] (fun ZL ZM (⟨x09,x112,aBP,i12⟩:yN) a w=>Kn a 132 ((12,I i12)::ZL)∧jL w0 w (.blk aBx 35 [I 0,I 0,I 0] :: .blk aF3 35 [I x09,I x112,I aBP]::ZM)) (M.pick [0,1,2,3,4,5,6,7] aL) ?_ ?_
   ·rintro ⟨OC,Jc,OD,i20⟩ a w ⟨K,M⟩ h
    revert a;refine pM 9 10 [1,2,4,5,6,7,8,9,10,11] [1,2,3,4,5,6,7] (fun ZL ZM (⟨Mx,Mw,Jd,i21⟩:yN) a w=>Kn a 132 ((16,I i21)::ZL)∧jL w0 w (.blk aBx 35 [I Mx,I Mw,I Jd]::ZM)) (M.pick [0,1,2,3,4,5,6,7] aL) ?_ ?_
    ·rintro ⟨PL,Ww,QX,i22⟩ a w ⟨K,M⟩ h
     revert a;refine aH 2 ?_;intro a K;refine aK (fun w=>Mem _ _ w _) [0,0,0,1,1,1,0,2] aQ aQ (M.pick [0,1,2,4,5,6,7] aL).drew ?_;replace M:=M.drew;revert a;obtain ⟨I7,aF1,h⟩:=aB h;refine rU 3 (uV aF1) ?_;intro w M;refine Gf (fun _ K=>bS rfl wU z65 K (vs:=[(0,.agg #[I I7.1,I I7.2.1,I I7.2.2])]) (cs:=[I I7.1,I I7.2.1,I I7.2.2]) rfl aQ rfl rfl M) ?_;rintro _ w ⟨gs3,rfl,M⟩;replace M:=M.fX 0 rfl dJ ([(I7.1,I7.2.1,I7.2.2)]:List bU) (n:=1) rfl rfl rfl;refine ⟨M.toS,?_⟩;obtain ⟨FZ,aAe,h⟩:=aB h;refine Gf (fun _ K=>fQ (C:=dJ) (xs:=sZ) (ys:=([(I7.1,I7.2.1,I7.2.2)]:List bU)) rfl wU rfl z65 rfl rfl K rfl rfl 4 M rfl ((p9 (C:=dJ) 0 rfl rfl) _ M) aAe) ?_;rintro _ w ⟨A6,c6,rfl,M⟩;refine ⟨M.toS,?_⟩;refine aH 1 ?_;refine z7 (fun _ K=>jX M K 6) ?_;intro _ w M;obtain ⟨x61,hx,h⟩:=cL h;refine kN 6 hx ?_;exact iG 2 (FZ,x61) (M.pick [4,5,6,7,8] aL)
    rintro kk aA ⟨Mx,Mw,Jd,i21⟩ a w hk6 ⟨K,M⟩ h;unfold oV at h;revert a;refine cB 7 h ?_ ?_
    ·intro hb h;refine aH 4 ?_;intro a K;refine aK (fun w=>Mem _ _ w _) [0,0,0,0,0,0,0,0,0,0,0,0,0,0,1,0,1,0,2] aQ aQ M.drew ?_;replace M:=M.drew;revert a;obtain ⟨_,h0,h⟩:=aB h;have h0:=mQ h0;refine aH 3 ?_;obtain ⟨e69,aOJ,h⟩:=aB h;refine G4 (fun _ K=>qD rfl Hc K rfl (Aw 2 rfl) rfl rfl aOJ) ?_;obtain ⟨_,h0,h⟩:=aB h;have h0:=mQ h0;refine aH 2 ?_;obtain ⟨e70,aOK,h⟩:=aB h;refine G4 (fun _ K=>qD rfl Hc K rfl (Aw 2 rfl) rfl rfl aOK) ?_;refine aH 1 ?_;refine J9 h ?_ ?_
     ·intro Yk h;refine F4 Yk 0 ?_;obtain ⟨L4,Yh,h⟩:=aB h;refine rU 5 (fO Yh) ?_;intro w M;obtain ⟨r31,aF2,h⟩:=aB h;refine rU 1 (sD aF2) ?_;intro w M;refine F4 Yk 0 ?_;refine z7 (fun _ K=>jX M K 0) ?_;intro _ w M;obtain ⟨x58,hx,h⟩:=cL h;refine kN 6 hx ?_;exact iG 2 (r31,Mw,Jd,x58) (M.pick [0,1,2,3,4,5,6,7] aL)
     intro h;refine J9 h ?_ ?_
     ·intro Yk h;refine F4 Yk 1 ?_;obtain ⟨r32,Yg,h⟩:=aB h;refine rU 5 (fO Yg) ?_;intro w M;obtain ⟨UR,Yf,h⟩:=aB h;refine rU 1 (sD Yf) ?_;intro w M;refine F4 Yk 1 ?_;refine z7 (fun _ K=>jX M K 0) ?_;intro _ w M;obtain ⟨x59,hx,h⟩:=cL h;refine kN 6 hx ?_;exact iG 2 (Mx,UR,Jd,x59) (M.pick [0,1,2,3,4,5,6,7] aL)
     intro h;refine J9 h ?_ ?_
     ·intro Yk h;refine F4 Yk 2 ?_;obtain ⟨PK,aFZ,h⟩:=aB h;refine rU 5 (fO aFZ) ?_;intro w M;obtain ⟨Pi,aF0,h⟩:=aB h;refine rU 1 (sD aF0) ?_;intro w M;refine F4 Yk 2 ?_;refine z7 (fun _ K=>jX M K 0) ?_;intro _ w M;obtain ⟨x60,hx,h⟩:=cL h;refine kN 6 hx ?_;exact iG 2 (Mx,Mw,Pi,x60) (M.pick [0,1,2,3,4,5,6,7] aL)
     intro h;intro a K;cases h
    intro hb h;exact jY 3 (hk6 (Mx,Mw,Jd,i21)) (M.pick [0,1,2,3,4,5,6,7] aL)
   rintro kk aA ⟨x09,x112,aBP,i12⟩ a w hk3 ⟨K,M⟩ h;unfold kU at h;revert a;refine cB 7 h ?_ ?_
   ·intro hb h;refine pM 10 6 [1,2,4,5,6,7,8,9,10,11,12] [2,3,4,5,6,7] (fun ZL ZM (⟨OB,x115,aBO,D2⟩:yN) a w=>Kn a 132 ((13,I D2)::ZL)∧jL w0 w (.blk aBx 35 [I 0,I 0,I 0] :: .blk aF3 35 [I OB,I x115,I aBO]::ZM)) (M.pick [0,1,2,3,4,5,6,7] aL) ?_ ?_
    ·rintro ⟨Mu,Mt,U2,i19⟩ a w ⟨K,M⟩ h
     revert a;obtain ⟨x54,hx,h⟩:=cL h;refine kN 6 hx ?_;exact iG 2 (Mu,Mt,U2,x54) (M.pick [0,1,2,3,4,5,6,7] aL)
    rintro kk aA ⟨OB,x115,aBO,D2⟩ a w hk4 ⟨K,M⟩ h;unfold kT at h;revert a;refine cB 7 h ?_ ?_
    ·intro hb h;obtain ⟨x46,hx,h⟩:=cL h;refine kN 27 hx ?_;obtain ⟨e48,_,h⟩:=aB h;refine aH 2 ?_;obtain ⟨I6,RW,h⟩:=aB h;refine fP 0 (xQ RW) ?_;intro w M;refine eE 0 ?_;intro aOL w M;refine cV 0 ?_;intro w M;refine pM 8 8 [1,2,4,5,6,7,8,9,10,11,12,13,14] [3,4,5,6,7,8] (fun ZL ZM (⟨QY,QZ,GO,i17⟩:yN) a w=>Kn a 132 ((15,I i17)::ZL)∧jL w0 w (.blk aOL 35 [I I6.1,I I6.2.1,I I6.2.2] :: .blk aBx 35 [I 0,I 0,I 0] :: .blk aF3 35 [I QY,I QZ,I GO]::ZM)) (M.pick [0,1,2,3,4,5,6,7,8] aL) ?_ ?_
     ·rintro ⟨Ms,aKu,Mv,i18⟩ a w ⟨K,M⟩ h
      revert a;obtain ⟨x53,hx,h⟩:=cL h;refine kN 6 hx ?_;exact iG 2 (Ms,aKu,Mv,x53) (M.pick [1,2,3,4,5,6,7,8] aL)
     rintro kk aA ⟨QY,QZ,GO,i17⟩ a w hk5 ⟨K,M⟩ h;unfold mJ at h;revert a;refine cB 7 h ?_ ?_
     ·intro hb h;refine aH 4 ?_;intro a K;refine aK (fun w=>Mem _ _ w _) [0,0,0,0,0,0,0,0,0,0,0,0,0,0,0,0,0,0,0,2] aQ aQ M.drew ?_;replace M:=M.drew;revert a;refine aH 2 ?_;refine J9 h ?_ ?_
      ·intro hj8 h;refine F4 hj8 0 ?_;obtain ⟨_,h0,h⟩:=aB h;have h0:=mQ h0;refine aH 3 ?_;obtain ⟨e58,aOM,h⟩:=aB h;refine G4 (fun _ K=>qD rfl Hc K rfl (Aw 0 rfl) rfl rfl aOM) ?_;obtain ⟨_,h0,h⟩:=aB h;have h0:=mQ h0;refine aH 3 ?_;obtain ⟨e59,aON,h⟩:=aB h;refine G4 (fun _ K=>qD rfl Hc K rfl (Aw 5 rfl) rfl rfl aON) ?_;obtain ⟨_,h0,h⟩:=aB h;have h0:=mQ h0;refine aH 4 ?_;obtain ⟨e60,aOO,h⟩:=aB h;refine G4 (fun _ K=>qD rfl Hc K rfl (Aw 5 rfl) rfl rfl aOO) ?_;refine aH 2 ?_;refine F4 hj8 0 ?_;refine z7 (fun _ K=>jX M K 2) ?_;intro _ w M;obtain ⟨x50,hx,h⟩:=cL h;refine kN 6 hx ?_;exact iG 2 (aC.wrap (QY+(aC.wrap ((aC.wrap (e58*e59))*e60))),QZ,GO,x50) (M.pick [0,1,2,3,4,5,6,7,8] aL)
      intro h;refine J9 h ?_ ?_
      ·intro hj8 h;refine F4 hj8 1 ?_;obtain ⟨_,h0,h⟩:=aB h;have h0:=mQ h0;refine aH 3 ?_;obtain ⟨e61,aOP,h⟩:=aB h;refine G4 (fun _ K=>qD rfl Hc K rfl (Aw 0 rfl) rfl rfl aOP) ?_;obtain ⟨_,h0,h⟩:=aB h;have h0:=mQ h0;refine aH 3 ?_;obtain ⟨e62,aOQ,h⟩:=aB h;refine G4 (fun _ K=>qD rfl Hc K rfl (Aw 5 rfl) rfl rfl aOQ) ?_;obtain ⟨_,h0,h⟩:=aB h;have h0:=mQ h0;refine aH 4 ?_;obtain ⟨e63,aOR,h⟩:=aB h;refine G4 (fun _ K=>qD rfl Hc K rfl (Aw 5 rfl) rfl rfl aOR) ?_;refine aH 2 ?_;refine F4 hj8 1 ?_;refine z7 (fun _ K=>jX M K 2) ?_;intro _ w M;obtain ⟨x51,hx,h⟩:=cL h;refine kN 6 hx ?_;exact iG 2 (QY,aC.wrap (QZ+(aC.wrap ((aC.wrap (e61*e62))*e63))),GO,x51) (M.pick [0,1,2,3,4,5,6,7,8] aL)
      intro h;refine J9 h ?_ ?_
      ·intro hj8 h;refine F4 hj8 2 ?_;obtain ⟨_,h0,h⟩:=aB h;have h0:=mQ h0;refine aH 3 ?_;obtain ⟨e64,aOS,h⟩:=aB h;refine G4 (fun _ K=>qD rfl Hc K rfl (Aw 0 rfl) rfl rfl aOS) ?_;obtain ⟨_,h0,h⟩:=aB h;have h0:=mQ h0;refine aH 3 ?_;obtain ⟨e65,aOT,h⟩:=aB h;refine G4 (fun _ K=>qD rfl Hc K rfl (Aw 5 rfl) rfl rfl aOT) ?_;obtain ⟨_,h0,h⟩:=aB h;have h0:=mQ h0;refine aH 4 ?_;obtain ⟨e66,aOU,h⟩:=aB h;refine G4 (fun _ K=>qD rfl Hc K rfl (Aw 5 rfl) rfl rfl aOU) ?_;refine aH 2 ?_;refine F4 hj8 2 ?_;refine z7 (fun _ K=>jX M K 2) ?_;intro _ w M;obtain ⟨x52,hx,h⟩:=cL h;refine kN 6 hx ?_;exact iG 2 (QY,QZ,aC.wrap (GO+(aC.wrap ((aC.wrap (e64*e65))*e66))),x52) (M.pick [0,1,2,3,4,5,6,7,8] aL)
      intro h;intro a K;cases h
     intro hb h;exact jY 3 (hk5 (QY,QZ,GO,i17)) (M.pick [0,1,2,3,4,5,6,7,8] aL)
    intro hb h;exact jY 3 (hk4 (OB,x115,aBO,D2)) (M.pick [0,1,2,3,4,5,6,7] aL)
   intro hb h;exact jY 3 (hk3 (x09,x112,aBP,i12)) (M.pick [0,1,2,3,4,5,6,7] aL)
  intro hb h;exact jY 3 (hk2 (sZ,i7)) (M.pick [0,1,2,3,4] aL)
 intro hb h;exact jY 3 (hk1 (tE,i)) (M.pick [0,1,2,3,4] aL)
theorem JG {N:Nat} {na nb0 DZ D0 D1 nc:Int} {nd:List aN} {And:Option Addr} {cnd:Nat} {D5 ne1 El Em En Eo Ep Er Es Et Eu nf8:Int} {ng:List aN} {JA:Option Addr} {JB:Nat} {nh lE mS:Int} {iI:List Int} {kC:Option Addr} {kD:Nat} {w0:World} {r:nJ} (h:pT N na nb0 DZ D0 D1 nc nd D5 ne1 El Em En Eo Ep Er Es Et Eu nf8 ng nh lE mS iI=some r) (Rnd:SL w0 jG And nd) (Z8:nd.length≤cnd) (Rng:SL w0 jG JA ng) (Cng:ng.length≤JB) (xN:SL w0 (cI .i64) kC iI) (zS:iI.length≤kD) :
  lL 15 #[.agg #[I na,I nb0,I DZ,I D0,I D1,I nc,.slice And nd.length cnd,I D5,I ne1,I El,I Em,I En,I Eo,I Ep,I Er,I Es,I Et,I Eu,I nf8,.slice JA ng.length JB,I nh],.agg #[I lE,I mS,.slice kC iI.length kD]] w0 (KZ r w0):=by
 refine gE Tryz.func15 Tryz.ntmps15 ?_;intro M;unfold pT at h;refine eE 2 ?_;intro g_n w M;refine eE 0 ?_;intro Ie w M;refine eE 0 ?_;intro jM w M;refine aH 3 ?_;refine Jr [0,0,0,0,0,1,0,0,1,0,0,0,0,1,1,2] 16 [0,1,2,3,4,5,6,7,8,9,10,11,12,13,14,15] M ?_;replace M:=M.drew;refine aH 5 ?_;refine Ce 6 rfl (fun _ K=>E9 rfl aBp K rfl) ?_;refine Ce 7 rfl (fun _ K=>vI rfl VR K rfl (Aw 2 rfl) rfl) ?_;refine Ce 9 rfl (fun _ K=>E9 rfl aBo K rfl) ?_;refine Ce 10 rfl (fun _ K=>vI rfl Hc K rfl (Aw 2 rfl) rfl) ?_;refine Ce 11 rfl (fun _ K=>E9 rfl aBq K rfl) ?_;refine Ce 12 rfl (fun _ K=>YD rfl aNw K rfl (Aw 2 rfl) rfl rfl) ?_;refine MX 5 14 ?_ ?_
 ·obtain ⟨r2,cR,h⟩:=aB h;refine rD rfl (fun _ K=>u0 K (Ds cR ((Cc xN) _ M) zS)) ?_;have M0:=M;rintro _ w ⟨A,c,rfl,M⟩;replace M:=M0.call M;clear M0;refine ⟨fun _=>M.toS,?_⟩;refine MX 8 14 ?_ ?_
  ·obtain ⟨r3,gP,h⟩:=aB h;refine rD rfl (fun _ K=>u0 K (zN gP ((p9 (C:=(cI .i64)) 0 rfl rfl) _ M) (M.cap 0 rfl) ((Cc Rnd) _ M) Z8)) ?_;have M0:=M;rintro _ w ⟨A2,c2,rfl,M⟩;replace M:=M0.call M;clear M0;refine ⟨fun _=>M.toS,?_⟩;refine MX 13 14 ?_ ?_
   ·obtain ⟨r4,lJ,h⟩:=aB h;refine rD rfl (fun _ K=>u0 K (wT lJ ((p9 (C:=(cI .i64)) 0 rfl rfl) _ M) (M.cap 0 rfl))) ?_;have M0:=M;rintro _ w ⟨A3,c3,rfl,M⟩;replace M:=M0.call M;clear M0;refine ⟨fun _=>M.toS,?_⟩;refine nK 14 ?_;refine rD rfl (fun _ K=>Ka M) ?_;rintro _ w ⟨g_a,rfl,M⟩;refine ⟨fun _=>M.toS,?_⟩;refine nK 15 ?_;refine D3 rfl (fun _ K=>oO M K 0) ?_;intro _ w M;refine ⟨fun h=>absurd h aL,?_⟩;refine aH 3 ?_;intro a K;refine aK (fun w=>Mem _ _ w _) [0,0,0,1,0,0,1,0,0,1,0,0,1,2] aQ aQ M.drew ?_;replace M:=M.drew;revert a;obtain ⟨r5,qA,h⟩:=aB h;refine rU 3 (wS qA) ?_;intro A4 c4 w M;obtain ⟨r6,tA,h⟩:=aB h;refine rU 2 (xR tA) ?_;intro A5 c5 w M;obtain ⟨r7,zG,h⟩:=aB h;refine rU 2 (yL zG) ?_;intro A6 c6 w M;obtain ⟨r8,BF,h⟩:=aB h;refine rU 2 (xS BF) ?_;intro A7 c7 w M;refine z7 (fun _ K=>oO M K 8) ?_;intro _ w M;exact bP 3 M.oQ
   ·refine rD rfl (fun _ K=>Ka M) ?_;rintro _ w ⟨aOg,rfl,M⟩;refine ⟨fun _=>M.toS,?_⟩;refine nK 13 ?_;obtain ⟨r9,EK,h⟩:=aB h;refine rD rfl (fun _ K=>u0 K (wT EK ((p9 (C:=(cI .i64)) 1 rfl rfl) _ M) (M.cap 1 rfl))) ?_;have M0:=M;rintro _ w ⟨A8,c8,rfl,M⟩;replace M:=M0.call M;clear M0;refine ⟨fun _=>M.toS,?_⟩;refine nK 15 ?_;refine D3 rfl (fun _ K=>oO M K 1) ?_;intro _ w M;refine ⟨fun h=>absurd h aL,?_⟩;refine aH 3 ?_;intro a K;refine aK (fun w=>Mem _ _ w _) [0,0,0,1,0,0,1,0,0,1,0,0,1,2] aQ aQ M.drew ?_;replace M:=M.drew;revert a;obtain ⟨Cd,BG,h⟩:=aB h;refine rU 3 (wS BG) ?_;intro A9 c9 w M;obtain ⟨Al,Ap,h⟩:=aB h;refine rU 2 (xR Ap) ?_;intro Us c10 w M;obtain ⟨AE,Fl,h⟩:=aB h;refine rU 2 (yL Fl) ?_;intro A11 c11 w M;obtain ⟨B1,Cx,h⟩:=aB h;refine rU 2 (xS Cx) ?_;intro A12 c12 w M;refine z7 (fun _ K=>oO M K 8) ?_;intro _ w M;exact bP 3 M.oQ
  ·refine rD rfl (fun _ K=>Ka M) ?_;rintro _ w ⟨aQO,rfl,M⟩;refine ⟨fun _=>M.toS,?_⟩;refine nK 8 ?_;obtain ⟨IX,Fm,h⟩:=aB h;refine rD rfl (fun _ K=>u0 K (zN Fm ((p9 (C:=(cI .i64)) 1 rfl rfl) _ M) (M.cap 1 rfl) ((Cc Rnd) _ M) Z8)) ?_;have M0:=M;rintro _ w ⟨Yv,c13,rfl,M⟩;replace M:=M0.call M;clear M0;refine ⟨fun _=>M.toS,?_⟩;refine nK 13 ?_;obtain ⟨J5,G6,h⟩:=aB h;refine rD rfl (fun _ K=>u0 K (wT G6 ((p9 (C:=(cI .i64)) 0 rfl rfl) _ M) (M.cap 0 rfl))) ?_;have M0:=M;rintro _ w ⟨A14,c14,rfl,M⟩;replace M:=M0.call M;clear M0;refine ⟨fun _=>M.toS,?_⟩;refine nK 15 ?_;refine D3 rfl (fun _ K=>oO M K 2) ?_;intro _ w M;refine ⟨fun h=>absurd h aL,?_⟩;refine aH 3 ?_;intro a K;refine aK (fun w=>Mem _ _ w _) [0,0,0,1,0,0,1,0,0,1,0,0,1,2] aQ aQ M.drew ?_;replace M:=M.drew;revert a;obtain ⟨r16,DS,h⟩:=aB h;refine rU 3 (wS DS) ?_;intro A15 c15 w M;obtain ⟨Lw,K9,h⟩:=aB h;refine rU 2 (xR K9) ?_;intro A16 c16 w M;obtain ⟨Mr,IH,h⟩:=aB h;refine rU 2 (yL IH) ?_;intro A17 c17 w M;obtain ⟨TA,RX,h⟩:=aB h;refine rU 2 (xS RX) ?_;intro A18 c18 w M;refine z7 (fun _ K=>oO M K 8) ?_;intro _ w M;exact bP 3 M.oQ
 ·refine rD rfl (fun _ K=>Ka M) ?_;rintro _ w ⟨aQP,rfl,M⟩;refine ⟨fun _=>M.toS,?_⟩;refine nK 5 ?_;obtain ⟨Ow,RY,h⟩:=aB h;refine rD rfl (fun _ K=>u0 K (Ds RY ((Cc xN) _ M) zS)) ?_;have M0:=M;rintro _ w ⟨XA,c19,rfl,M⟩;replace M:=M0.call M;clear M0;refine ⟨fun _=>M.toS,?_⟩;refine nK 8 ?_;obtain ⟨YL,XL,h⟩:=aB h;refine rD rfl (fun _ K=>u0 K (zN XL ((p9 (C:=(cI .i64)) 0 rfl rfl) _ M) (M.cap 0 rfl) ((Cc Rnd) _ M) Z8)) ?_;have M0:=M;rintro _ w ⟨A20,c20,rfl,M⟩;replace M:=M0.call M;clear M0;refine ⟨fun _=>M.toS,?_⟩;refine nK 13 ?_;obtain ⟨r22,XM,h⟩:=aB h;refine rD rfl (fun _ K=>u0 K (wT XM ((p9 (C:=(cI .i64)) 0 rfl rfl) _ M) (M.cap 0 rfl))) ?_;have M0:=M;rintro _ w ⟨A21,c21,rfl,M⟩;replace M:=M0.call M;clear M0;refine ⟨fun _=>M.toS,?_⟩;refine nK 15 ?_;refine D3 rfl (fun _ K=>oO M K 3) ?_;intro _ w M;refine ⟨fun h=>absurd h aL,?_⟩;refine aH 3 ?_;intro a K;refine aK (fun w=>Mem _ _ w _) [0,0,0,1,0,0,1,0,0,1,0,0,1,2] aQ aQ M.drew ?_;replace M:=M.drew;revert a;obtain ⟨I6,RW,h⟩:=aB h;refine rU 3 (wS RW) ?_;intro A22 c22 w M;obtain ⟨V8,Ye,h⟩:=aB h;refine rU 2 (xR Ye) ?_;intro A23 c23 w M;obtain ⟨r25,aFV,h⟩:=aB h;refine rU 2 (yL aFV) ?_;intro A24 c24 w M;obtain ⟨Yi,aFW,h⟩:=aB h;refine rU 2 (xS aFW) ?_;intro A25 c25 w M;refine z7 (fun _ K=>oO M K 8) ?_;intro _ w M;exact bP 3 M.oQ
theorem Ip {N:Nat} {s:aR} {Ia CL CM CN CO ED:Int} {GP:Bool} {w0:World} {r:lC} (h:lQ N s Ia CL CM CN CO ED GP=some r) :
  lL 5 #[.string (bs s),.agg #[I Ia,I CL,I CM,I CN,I CO,I ED,.bool GP]] w0 (VS r w0):=by
 refine gE Tryz.func5 Tryz.ntmps5 ?_;intro M;unfold lQ at h;refine eE 2 ?_;intro MS w M;obtain ⟨r2,cR,h⟩:=aB h;refine fP 7 (JF cR) ?_;intro A c A2 c2 A3 c3 A4 c4 w M;refine eE 3 ?_;intro Ca w M;refine cV 0 ?_;intro w M;refine cB 10 h ?_ ?_
 ·intro hb h;exact eB 8 M.nQ
 intro hb h;refine cB 10 h ?_ ?_
 ·intro hb h;exact eB 8 M.nQ
 intro hb h;obtain ⟨r3,gP,h⟩:=aB h;refine fP 5 (Dr gP) ?_;intro A5 c5 w M;refine eE 3 ?_;intro Ie w M;refine cV 0 ?_;intro w M;obtain ⟨r4,lJ,h⟩:=aB h;refine fP 8 (JG lJ) ?_;intro A6 c6 w M;refine eE 0 ?_;intro LK w M;refine cV 0 ?_;intro w M;refine aH 8 ?_;refine jO (fun _ K=>UL aNu rfl K rfl rfl (aI9 _ _ _ _ _ _ _ _)) M ?_;refine cB 2 h ?_ ?_
 ·intro hb h;obtain ⟨r5,qA,h⟩:=aB h;refine fP 6 (IQ qA) ?_;intro w M;refine cB 9 h ?_ ?_
  ·intro hb h;exact eB 10 M.nQ
  intro hb h;obtain ⟨r6,tA,h⟩:=aB h;refine fP 6 (Lp tA) ?_;intro A7 c7 w M;refine cV 0 ?_;intro w M;obtain ⟨r7,zG,h⟩:=aB h;refine fP 7 (aT zG) ?_;intro w M;refine cB 3 h ?_ ?_
  ·intro hb h;exact eB 8 M.nQ
  intro hb h;refine aH 3 ?_;intro a K;refine aK (fun w=>Mem _ _ w _) [0,0,0,1,0,0,1,0,0] aQ aQ M.drew ?_;replace M:=M.drew;revert a;obtain ⟨r8,BF,h⟩:=aB h;refine rU 3 (Eh BF) ?_;intro A8 c8 w M;obtain ⟨r9,EK,h⟩:=aB h;refine rU 2 (Cz EK) ?_;intro w M;exact eB 5 M.nQ
 intro hb h;obtain ⟨Cd,BG,h⟩:=aB h;refine fP 7 (aT BG) ?_;intro w M;refine cB 3 h ?_ ?_
 ·intro hb h;exact eB 8 M.nQ
 intro hb h;refine aH 3 ?_;intro a K;refine aK (fun w=>Mem _ _ w _) [0,0,0,1,0,0,1,0,0] aQ aQ M.drew ?_;replace M:=M.drew;revert a;obtain ⟨Al,Ap,h⟩:=aB h;refine rU 3 (Eh Ap) ?_;intro A9 c9 w M;obtain ⟨AE,Fl,h⟩:=aB h;refine rU 2 (Cz Fl) ?_;intro w M;exact eB 5 M.nQ
end
end Go.Proofs.YtpmnfhifmmfgladGreatDoor
