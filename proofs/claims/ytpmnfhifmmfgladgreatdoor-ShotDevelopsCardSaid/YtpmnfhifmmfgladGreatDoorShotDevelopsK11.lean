/- Parts of the proof. -/
import Derived.LoopIn
import Derived.LoopNIn
import Derived.OwnWalkIn
import Derived.RangeFuncBound
import Derived.RangeFuncCalls
import Derived.RangeFuncFrom
import Derived.RangeFuncLeaves
import Derived.RangeFuncNested
import Derived.Shelf.Abstract
import Derived.Shelf.RegionOpen
import Derived.TacticsInMore
import Derived.Test.YtpmnfhifmmfgladGreatDoorRows
import Derived.WalkKit
import Derived.Test.YtpmnfhifmmfgladGreatDoorShotDevelopsK1
import Derived.Test.YtpmnfhifmmfgladGreatDoorShotDevelopsK3
import Derived.Test.YtpmnfhifmmfgladGreatDoorShotDevelopsK4
import Derived.Test.YtpmnfhifmmfgladGreatDoorShotDevelopsK5
import Derived.Test.YtpmnfhifmmfgladGreatDoorShotDevelopsK9
import Derived.Test.YtpmnfhifmmfgladGreatDoorShotDevelopsK10
set_option linter.unusedVariables false
set_option linter.unusedSimpArgs false
set_option linter.unusedSectionVars false
set_option maxRecDepth 100000
set_option maxHeartbeats 8000000
open Bool renaming and_eq_true→o9
open Go.IntKind renaming i64→aC
open List renaming getElem?_eq_getElem→f9,range→gS
open Nat renaming le_refl→pK
namespace Go.Proofs.YtpmnfhifmmfgladGreatDoor
section
open Go.RowKit
section
variable {A_d:Option Addr} {N c_d:Nat} {w0:World}
theorem Jt {lens:List Int} {K7:Option Addr} {K8:Nat} {r:Int} (h:zU N lens=some r) (aFC:SL w0 (cI .i64) K7 lens) (aFD:lens.length≤K8) :
  lL 79 #[.slice K7 lens.length K8] w0 (zO r w0):=by
 refine gE Tryz.func79 Tryz.ntmps79 ?_;intro M;unfold zU at h;refine kJ 12 9 h ?_ ?_
 ·intro hb h;exact bP 14 M.nQ
 intro hb h;refine cB 6 h ?_ ?_
 ·intro hb h;exact bP 7 M.nQ
 intro hb h;refine pM 16 0 [14,15] [] (fun ZL ZM (⟨room,i⟩:aN) a w=>Kn a 40 ((3,I room)::(16,I i)::ZL)∧jL w0 w []) M.nQ ?_ ?_
 ·rintro ⟨Tz,i2⟩ a w ⟨K,M⟩ h
  revert a;refine kJ 8 36 h ?_ ?_
  ·intro hb h;exact bP 13 M.nQ
  intro hb h;refine cB 5 h ?_ ?_
  ·intro hb h;exact bP 7 M.nQ
  intro hb h;exact bP 8 M.nQ
 rintro kk aA ⟨room,i⟩ a w hk1 ⟨K,M⟩ h;unfold u4 at h;revert a;refine cB 6 h ?_ ?_
 ·intro hb h;obtain ⟨e2,_,h⟩:=aB h;refine kJ 17 22 h ?_ ?_
  ·intro hb h;exact bP 18 M.nQ
  intro hb h;refine cB 5 h ?_ ?_
  ·intro hb h;exact bP 12 M.nQ
  intro hb h;refine cB 8 h ?_ ?_
  ·intro hb h;obtain ⟨_,h0,h⟩:=aB h;have h0:=qB h0;obtain ⟨aDC,hx,h⟩:=cL h;refine kN 6 hx ?_;exact iG 8 (aDC,aC.wrap (i+1)) M.nQ
  intro hb h;exact iG 8 (room,aC.wrap (i+1)) M.nQ
 intro hb h;exact jY 3 (hk1 (room,i)) M.nQ
theorem RU {a2 b:Int} {v0:List Int} {ZU:Option Addr} {ZV BC:Nat} {r:Int} (h:Ba N a2 b v0=some r) (aN3:SL w0 (cI .i64) ZU v0) (aN4:v0.length≤ZV) (Aa:kX w0 BC 31 #[.slice ZU v0.length ZV]) :
  lL 182 #[I a2,I b,pQ BC] w0 (zO r w0):=by
 refine gE Tryz.func182 Tryz.ntmps182 ?_;intro M;unfold Ba at h;refine aH 6 ?_;intro a K;refine aK (fun w=>Mem _ _ w _) [0,0,0,0,0,0,0,0,1,0] aQ aQ M.drew ?_;replace M:=M.drew;revert a;obtain ⟨e,_,h⟩:=aB h;refine aH 6 ?_;obtain ⟨e2,_,h⟩:=aB h;refine aH 2 ?_;obtain ⟨r2,cR,h⟩:=aB h;refine rU 0 (NG cR) ?_;intro w M;exact bP 4 M.nQ
theorem NH {d:List Int} {r:D9} (h:xJ N d=some r) (R_d:SL w0 (cI .i64) A_d d) (C_d:d.length≤c_d) :
  lL 153 #[.slice A_d d.length c_d] w0 fun v w'=>∃A0 c0,v = .tuple #[.slice A0 r.1.length c0,I r.2]∧jL w0 w' [.row 9 1 A0 r.1.length c0 (cS.all r.1)]:=by
 refine gE Tryz.func153 Tryz.ntmps153 ?_;intro M;unfold xJ at h;refine eE 2 ?_;intro g_o w M;obtain ⟨r2,cR,h⟩:=aB h;refine fP 8 (Jt cR) ?_;intro w M;refine cB 9 h ?_ ?_
 ·intro hb h;exact eB 9 (((Mem.cC 9 1 cS M)).pick [0] aL)
 intro hb h;refine aH 16 ?_;replace M:=Mem.cC 3 1 (cI .i64) M;refine pM 0 0 [1,19,20] [1] (fun ZL ZM (⟨l3,i⟩:gL) a w=>∃(A2:Option Addr) (c2:Nat),Kn a 74 ((5,.slice A2 l3.length c2)::(21,I i)::ZL)∧jL w0 w (.row 3 1 A2 l3.length c2 ((cI .i64).all l3)::ZM)) (M.pick [0,1] aL) ?_ ?_
 ·rintro ⟨l6,i2⟩ a w ⟨A5,c5,K,M⟩ h
  revert a;refine aH 6 ?_;refine Zin 181 Tryz.func181 Tryz.ntmps181 ?_;refine aH 5 ?_;refine Zin 201 Tryz.func201 Tryz.ntmps201 ?_;refine aH 14 ?_;intro a K;refine G3 1 ?_;refine lA ?_;revert a;refine cB 8 h ?_ ?_
  ·intro hb h;intro a K;cases h
  intro hb h;refine aH 11 ?_;refine Zin 218 Tryz.func218 Tryz.ntmps218 ?_;obtain ⟨i3,hx,h⟩:=cL h;refine kN 4 hx ?_;refine pM 3 0 [1,3] [1] (fun ZL ZM (⟨l7,b,i4⟩:JI) a w=>Kn a 53 ((0,.slice A5 l7.length c5)::(2,I b)::(8,I i4)::ZL)∧jL w0 w (.row 3 1 A5 l7.length c5 ((cI .i64).all l7)::ZM)) (M.pick [0,1] aL) ?_ ?_
  ·rintro ⟨Sw,b2,i7⟩ a w ⟨K,M⟩ h
   revert a;refine aH 1 ?_;intro a K;refine Ci ?_;refine H1 K rfl ⟨_,rfl,?_⟩;clear K;intro a K;obtain ⟨_,h0,h⟩:=aB h;have h0:=Mo h0;try rw [h0] at K
   try rw [h0] at M
   revert a;refine aH 3 ?_;intro a K;refine G3 1 ?_;refine lA ?_;revert a;refine cB 8 h ?_ ?_
   ·intro hb h;intro a K;cases h
   intro hb h;refine aH 4 ?_;intro a K;refine Ci ?_;refine H1 K rfl ⟨_,rfl,?_⟩;clear K;intro a K;obtain ⟨_,h0,h⟩:=aB h;have h0:=Mo h0;try rw [h0] at K
   try rw [h0] at M
   revert a;refine aH 1 ?_;intro a K;refine Ci ?_;refine H1 K rfl ⟨_,rfl,?_⟩;clear K;intro a K;obtain ⟨_,h0,h⟩:=aB h;have h0:=Mo h0;try rw [h0] at K
   try rw [h0] at M
   revert a;obtain ⟨x2,hx,h⟩:=cL h;refine aH 5 ?_;refine jO (fun _ K=>V4 hx (AV rfl RN K rfl)) M ?_;obtain ⟨l24,aN5,h⟩:=aB h;refine Za (fun _ K=>sJ (C:=cS) (z:=([]:aR)) rfl PP rfl z9 rfl K rfl rfl M aN5) ?_;rintro _ w ⟨A6,c6,rfl,M⟩;refine pM 17 2 [1,39,40] [1,2] (fun ZL ZM (⟨l25,i8,i9⟩:aDl) a w=>Kn a 74 ((8,.slice A6 l25.length c6)::(9,I i8)::(41,I i9)::ZL)∧jL w0 w (.row 9 1 A6 l25.length c6 (cS.all l25)::ZM)) (M.pick [0,1,2] aL) ?_ ?_
   ·rintro ⟨l28,EV,i11⟩ a w ⟨K,M⟩ h
    revert a;exact eB 10 M.oQ
   rintro kk aA ⟨l25,i8,i9⟩ a w hk4 ⟨K,M⟩ h;unfold sX at h;revert a;refine cB 6 h ?_ ?_
   ·intro hb h;obtain ⟨e33,_,h⟩:=aB h;refine aH 12 ?_;intro a K;refine aK (fun w=>Mem _ _ w _) [0,0,0,0,0,0,0,0,0,0,0,1,0,0,0,0,0] aQ aQ M.drew ?_;replace M:=M.drew;revert a;refine aH 3 ?_;obtain ⟨e34,_,h⟩:=aB h;refine aH 3 ?_;obtain ⟨_,h0,h⟩:=aB h;have h0:=qB h0;refine aH 3 ?_;obtain ⟨e35,_,h⟩:=aB h;refine aH 2 ?_;obtain ⟨r7,zG,h⟩:=aB h;refine rU 0 (Cw zG) ?_;intro w M;obtain ⟨e36,_,h⟩:=aB h;refine aH 13 ?_;obtain ⟨l27,aJj,h⟩:=aB h;refine Zb (fun _ K=>gD (el:=r7.1) rfl sz9 rfl rfl K rfl rfl rfl 0 M rfl aJj) ?_;intro _ w M;have hl:=jI aJj;intro a K;try rw [hl] at M
    try rw [hl] at K
    clear hl;revert a;obtain ⟨e37,_,h⟩:=aB h;refine aH 9 ?_;obtain ⟨_,h0,h⟩:=aB h;have h0:=qB h0;obtain ⟨x4,hx,h⟩:=cL h;refine kN 2 hx ?_;exact iG 8 (l27,x4,aC.wrap (i9+1)) (M.pick [0,1,2] aL)
   intro hb h;exact jY 3 (hk4 (l25,i8,i9)) (M.pick [0,1,2] aL)
  rintro kk aA ⟨l7,b,i4⟩ a w hk2 ⟨K,M⟩ h;unfold rL at h;revert a;refine cB 8 h ?_ ?_
  ·intro hb h;refine pM 11 2 [1,2,3,8] [1] (fun ZL ZM (⟨YK,j4⟩:gL) a w=>Kn a 53 ((0,.slice A5 YK.length c5)::(9,I j4)::ZL)∧jL w0 w (.row 3 1 A5 YK.length c5 ((cI .i64).all YK)::ZM)) (M.pick [0,1] aL) ?_ ?_
   ·rintro ⟨l22,j9⟩ a w ⟨K,M⟩ h
    revert a;obtain ⟨i6,hx,h⟩:=cL h;refine kN 6 hx ?_;exact iG 2 (l22,b,i6) (M.pick [0,1] aL)
   rintro kk aA ⟨YK,j4⟩ a w hk3 ⟨K,M⟩ h;unfold xC at h;revert a;refine aH 2 ?_;intro a K;refine aK (fun w=>Mem _ _ w _) [0,0,0,0,0,0,0,0,0,0,0,0,0,0,1,0,0] aQ aQ M.drew ?_;replace M:=M.drew;revert a;refine kJ 4 21 h ?_ ?_
   ·intro hb h;obtain ⟨e20,_,h⟩:=aB h;refine aH 8 ?_;obtain ⟨e21,_,h⟩:=aB h;refine aH 2 ?_;obtain ⟨r5,qA,h⟩:=aB h;refine rU 0 (RU qA) ?_;intro w M;refine cB 4 h ?_ ?_
    ·intro hb h;refine aH 4 ?_;refine Jr [0,0,0,0,0,0,0,0,0,1,0,0,0,1,0,1,0,2] 18 [0,1,2,3,4,5,6,7,8,9,10,11,12,13,14,15,16,17] (M.pick [1] aL) ?_;replace M:=M.drew;obtain ⟨e22,aJk,h⟩:=aB h;refine aH 9 ?_;refine Ce 10 rfl (fun _ K=>tO rfl K rfl) ?_;refine Ce 11 rfl (fun _ K=>tO rfl K rfl) ?_;obtain ⟨e23,aFE,h⟩:=aB h;refine Ce 12 rfl (fun _ K=>KW rfl pI K rfl rfl ((p9 (C:=(cI .i64)) 0 rfl rfl) _ M) aFE) ?_;refine MX 9 13 ?_ ?_
     ·refine Uq rfl M (fun _ K=>DA rfl Hc K rfl rfl (p9 (C:=(cI .i64)) 0 rfl rfl) aJk rfl) ?_;refine ⟨fun _=>M.toS,?_⟩;refine nK 13 ?_;refine Uq rfl M (fun _ K=>DA rfl Hc K rfl rfl (p9 (C:=(cI .i64)) 0 rfl rfl) aFE rfl) ?_;refine ⟨fun _=>M.toS,?_⟩;obtain ⟨e24,_,h⟩:=aB h;refine aH 1 ?_;refine nK 15 ?_;obtain ⟨l18,aJl,h⟩:=aB h;intro a K;refine aFr [16,17] aQ rfl K (cA rfl) rfl (gD (el:=e22) rfl Pr rfl rfl K rfl rfl rfl 0 M rfl aJl) ?_;have M0:=M;clear K M;rintro _ a w M K;have hl:=jI aJl;try rw [hl] at M
      try rw [hl] at K
      clear hl;clear M0;refine ⟨fun _=>M.pick [1] aL,?_⟩;obtain ⟨e25,_,h⟩:=aB h;revert a;refine aH 1 ?_;refine nK 17 ?_;obtain ⟨l19,aJm,h⟩:=aB h;intro a K;refine aFr [] aQ rfl K (cA rfl) rfl (gD (el:=e23) rfl Pr rfl rfl K rfl rfl rfl 0 M rfl aJm) ?_;have M0:=M;clear K M;rintro _ a w M K;have hl:=jI aJm;try rw [hl] at M
      try rw [hl] at K
      clear hl;clear M0;refine ⟨fun h=>absurd h aL,?_⟩;revert a;obtain ⟨j7,hx,h⟩:=cL h;refine kN 6 hx ?_;exact iG 2 (l19,j7) (M.pick [0,1] aL)
     ·refine Uq rfl M (fun _ K=>DA rfl Hc K rfl rfl (p9 (C:=(cI .i64)) 0 rfl rfl) aFE rfl) ?_;refine ⟨fun _=>M.toS,?_⟩;refine nK 9 ?_;refine Uq rfl M (fun _ K=>DA rfl Hc K rfl rfl (p9 (C:=(cI .i64)) 0 rfl rfl) aJk rfl) ?_;refine ⟨fun _=>M.toS,?_⟩;obtain ⟨e26,_,h⟩:=aB h;refine aH 1 ?_;refine nK 15 ?_;obtain ⟨l20,aJn,h⟩:=aB h;intro a K;refine aFr [16,17] aQ rfl K (cA rfl) rfl (gD (el:=e22) rfl Pr rfl rfl K rfl rfl rfl 0 M rfl aJn) ?_;have M0:=M;clear K M;rintro _ a w M K;have hl:=jI aJn;try rw [hl] at M
      try rw [hl] at K
      clear hl;clear M0;refine ⟨fun _=>M.pick [1] aL,?_⟩;obtain ⟨e27,_,h⟩:=aB h;revert a;refine aH 1 ?_;refine nK 17 ?_;obtain ⟨l21,aJo,h⟩:=aB h;intro a K;refine aFr [] aQ rfl K (cA rfl) rfl (gD (el:=e23) rfl Pr rfl rfl K rfl rfl rfl 0 M rfl aJo) ?_;have M0:=M;clear K M;rintro _ a w M K;have hl:=jI aJo;try rw [hl] at M
      try rw [hl] at K
      clear hl;clear M0;refine ⟨fun h=>absurd h aL,?_⟩;revert a;obtain ⟨j8,hx,h⟩:=cL h;refine kN 6 hx ?_;exact iG 2 (l21,j8) (M.pick [0,1] aL)
    intro hb h;exact jY 3 (hk3 (YK,j4)) (M.pick [0,1] aL)
   intro hb h;refine aH 10 ?_;intro a K;refine tL K (K.no rfl rfl rfl rfl) rfl rfl (M.pick [0,1] aL) ?_;clear K;intro a K;revert a;exact jY 8 (hk3 (YK,j4)) (M.pick [0,1] aL)
  intro hb h;exact jY 3 (hk2 (l7,b,i4)) (M.pick [0,1] aL)
 rintro kk aA ⟨l3,i⟩ a w hk1 ⟨A2,c2,K,M⟩ h;unfold u5 at h;revert a;refine cB 6 h ?_ ?_
 ·intro hb h;obtain ⟨e3,_,h⟩:=aB h;refine cB 19 h ?_ ?_
  ·intro hb h;refine aH 3 ?_;refine Za (fun _ K=>bS rfl pI z3 K (vs:=[(0,I i)]) (cs:=[I i]) rfl aQ rfl rfl M) ?_;rintro _ w ⟨gs3,rfl,M⟩;replace M:=M.fX 0 rfl (cI .i64) ([i]:List Int) (n:=1) rfl rfl rfl;obtain ⟨l5,B9,h⟩:=aB h;refine Za (fun _ K=>fQ (C:=(cI .i64)) (xs:=l3) (ys:=([i]:List Int)) rfl pI rfl z3 rfl rfl K rfl rfl 1 M rfl ((p9 (C:=(cI .i64)) 0 rfl rfl) _ M) B9) ?_;rintro _ w ⟨A4,c4,rfl,M⟩;exact iG 9 (l5,aC.wrap (i+1)) (M.pick [1,2] aL)
  intro hb h;exact iG 8 (l3,aC.wrap (i+1)) (M.pick [0,1] aL)
 intro hb h;exact jY 3 (hk1 (l3,i)) (M.pick [0,1] aL)
theorem XJ {d:List Int} {o:aR} {p2:Int} {r:Cf} (h:Bb N d o p2=some r) (R_d:SL w0 (cI .i64) A_d d) (C_d:d.length≤c_d) :
  lL 158 #[.slice A_d d.length c_d,.string (bs o),I p2] w0 fun v w'=>∃A0 c0,v = .tuple #[.slice A0 r.1.length c0,.string (bs r.2.1),I r.2.2]∧jL w0 w' [.row 3 1 A0 r.1.length c0 ((cI .i64).all r.1)]:=by
 refine gE Tryz.func158 Tryz.ntmps158 ?_;intro M;unfold Bb at h;obtain ⟨r2,cR,h⟩:=aB h;refine fP 10 (NH cR) ?_;intro A c w M;refine cB 14 h ?_ ?_
 ·intro hb h;exact NB 10 (((Mem.cC 3 1 (cI .i64) M)).pick [0] aL)
 intro hb h;refine kJ 8 29 h ?_ ?_
 ·intro hb h;exact NB 15 (((Mem.cC 3 1 (cI .i64) M)).pick [0] aL)
 intro hb h;refine cB 5 h ?_ ?_
 ·intro hb h;exact NB 9 (((Mem.cC 3 1 (cI .i64) M)).pick [0] aL)
 intro hb h;obtain ⟨r3,gP,h⟩:=aB h;refine fP 6 (NF gP) ?_;intro w M;refine cB 13 h ?_ ?_
 ·intro hb h;exact NB 9 (((Mem.cC 3 1 (cI .i64) M)).pick [0] aL)
 intro hb h;refine aH 5 ?_;refine Zin 186 Tryz.func186 Tryz.ntmps186 ?_;refine aH 7 ?_;refine Za (fun _ K=>ZQ rfl 9 3 M) ?_;rintro _ w ⟨gm,rfl,M⟩;refine pM 12 0 [3,10,11] [1] (fun ZL ZM (⟨m,i⟩:Pg) a w=>Kn a 44 ((12,I i)::ZL)∧jL w0 w (.Oq Tryz.prog 9 3 gm m::ZM)) (M.pick [0,1] aL) ?_ ?_
 ·rintro ⟨m10,i5⟩ a w ⟨K,M⟩ h
  revert a;refine aH 9 ?_;refine Ps ?_;refine aH 10 ?_;replace M:=Mem.cC 3 1 (cI .i64) M;refine pM 0 0 [2,13] [1] (fun ZL ZM (⟨l3,o2⟩:aAi) a w=>∃(A3:Option Addr) (c3:Nat),Kn a 79 ((1,.string (bs o2))::(14,.slice A3 l3.length c3)::ZL)∧jL w0 w (.row 3 1 A3 l3.length c3 ((cI .i64).all l3)::ZM)) (M.pick [0,1] aL) ?_ ?_
  ·rintro ⟨l6,o3⟩ a w ⟨A6,c6,K,M⟩ h
   revert a;exact NB 12 M.oQ
  rintro kk aA ⟨l3,o2⟩ a w hk3 ⟨A3,c3,K,M⟩ h;unfold uF at h;revert a;refine cB 9 h ?_ ?_
  ·intro hb h;refine pM 11 2 [1,2,13,14] [0,1] (fun ZL ZM (⟨EV,i11⟩:aN) a w=>Kn a 79 ((15,I EV)::(16,I i11)::ZL)∧jL w0 w ZM) (M.pick [0,1] aL) ?_ ?_
   ·rintro ⟨i12,Na⟩ a w ⟨K,M⟩ h
    revert a;refine aH 6 ?_;refine Za (fun _ K=>bS rfl pI z3 K (vs:=[(0,I Na)]) (cs:=[I Na]) rfl aQ rfl rfl M) ?_;rintro _ w ⟨gs3,rfl,M⟩;replace M:=M.fX 0 rfl (cI .i64) ([Na]:List Int) (n:=1) rfl rfl rfl;obtain ⟨l5,B9,h⟩:=aB h;refine Za (fun _ K=>fQ (C:=(cI .i64)) (xs:=l3) (ys:=([Na]:List Int)) rfl pI rfl z3 rfl rfl K rfl rfl 1 M rfl ((p9 (C:=(cI .i64)) 0 rfl rfl) _ M) B9) ?_;rintro _ w ⟨A5,c5,rfl,M⟩;obtain ⟨s13,_,h⟩:=aB h;exact iG 11 (l5,s13) (M.pick [1,2] aL)
   rintro kk aA ⟨EV,i11⟩ a w hk4 ⟨K,M⟩ h;unfold nO at h;revert a;refine cB 7 h ?_ ?_
   ·intro hb h;obtain ⟨s12,_,h⟩:=aB h;refine aH 9 ?_;obtain ⟨q7,aIh,h⟩:=aB h;refine jO (fun _ K=>aBl rfl aBr Ok ik3 zi3 K rfl rfl (inS 1 rfl) aIh) M ?_;refine cB 15 h ?_ ?_
    ·intro hb h;exact NB 17 (((Mem.cC 3 1 (cI .i64) M)).pick [0] aL)
    intro hb h;refine cB 7 h ?_ ?_
    ·intro hb h;exact iG 7 (EV,q7.1) (M.pick [0,1] aL)
    intro hb h;refine cB 9 h ?_ ?_
    ·intro hb h;exact NB 17 (((Mem.cC 3 1 (cI .i64) M)).pick [0] aL)
    intro hb h;obtain ⟨x5,hx,h⟩:=cL h;refine kN 3 hx ?_;exact iG 4 (x5,i11) (M.pick [0,1] aL)
   intro hb h;exact jY 3 (hk4 (EV,i11)) (M.pick [0,1] aL)
  intro hb h;exact jY 3 (hk3 (l3,o2)) (M.pick [0,1] aL)
 rintro kk aA ⟨m,i⟩ a w hk1 ⟨K,M⟩ h;unfold wC at h;revert a;refine cB 6 h ?_ ?_
 ·intro hb h;obtain ⟨e2,_,h⟩:=aB h;refine pM 22 2 [3,10,11,12,4,5,18] [1] (fun ZL ZM (⟨m5,i3⟩:Pg) a w=>Kn a 44 ((19,I i3)::ZL)∧jL w0 w (.Oq Tryz.prog 9 3 gm m5::ZM)) (M.pick [0,1] aL) ?_ ?_
  ·rintro ⟨m8,i4⟩ a w ⟨K,M⟩ h
   revert a;refine cB 8 h ?_ ?_
   ·intro hb h;obtain ⟨m9,aPL,h⟩:=aB h;refine aH 4 ?_;refine Zb (fun _ K=>Uo rfl aBr Ok ik3 K rfl rfl rfl 0 M rfl aPL) ?_;intro _ w M;exact iG 8 (m9,aC.wrap (i+1)) (M.pick [0,1] aL)
   intro hb h;exact iG 8 (m8,aC.wrap (i+1)) (M.pick [0,1] aL)
  rintro kk aA ⟨m5,i3⟩ a w hk2 ⟨K,M⟩ h;unfold wB at h;revert a;refine cB 6 h ?_ ?_
  ·intro hb h;obtain ⟨s5,_,h⟩:=aB h;refine aH 16 ?_;obtain ⟨q3,aIi,h⟩:=aB h;refine jO (fun _ K=>aBl rfl aBr Ok ik3 zi3 K rfl rfl (inS 0 rfl) aIi) M ?_;refine cB 13 h ?_ ?_
   ·intro hb h;obtain ⟨s6,_,h⟩:=aB h;refine aH 5 ?_;obtain ⟨m7,aPM,h⟩:=aB h;refine Zb (fun _ K=>Uo rfl aBr Ok ik3 K rfl rfl rfl 0 M rfl aPM) ?_;intro _ w M;exact iG 8 (m7,aC.wrap (i3+1)) (M.pick [0,1] aL)
   intro hb h;exact iG 8 (m5,aC.wrap (i3+1)) (M.pick [0,1] aL)
  intro hb h;exact jY 3 (hk2 (m5,i3)) (M.pick [0,1] aL)
 intro hb h;exact jY 3 (hk1 (m,i)) (M.pick [0,1] aL)
end
section
variable {N:Nat} {w0:World}
theorem NI {x2:Int} {r:Int} (h:DI N x2=some r) :
  lL 185 #[.int .u64 x2] w0 (zO r w0):=by
 refine gE Tryz.func185 Tryz.ntmps185 ?_;intro M;unfold DI at h;refine cB 12 h ?_ ?_
 ·intro hb h;obtain ⟨x3,hx,h⟩:=cL h;refine kN 4 hx ?_;refine cB 13 h ?_ ?_
  ·intro hb h;obtain ⟨x4,hx,h⟩:=cL h;refine kN 4 hx ?_;obtain ⟨n,hx,h⟩:=cL h;refine kN 5 hx ?_;refine cB 9 h ?_ ?_
   ·intro hb h;obtain ⟨x5,hx,h⟩:=cL h;refine kN 4 hx ?_;obtain ⟨n2,hx,h⟩:=cL h;refine kN 5 hx ?_;obtain ⟨b,_,h⟩:=aB h;obtain ⟨n3,hx,h⟩:=cL h;refine kN 10 hx ?_;exact bP 3 M.nQ
   intro hb h;obtain ⟨b2,_,h⟩:=aB h;obtain ⟨n4,hx,h⟩:=cL h;refine kN 10 hx ?_;exact bP 3 M.nQ
  intro hb h;refine cB 9 h ?_ ?_
  ·intro hb h;obtain ⟨x6,hx,h⟩:=cL h;refine kN 4 hx ?_;obtain ⟨n5,hx,h⟩:=cL h;refine kN 5 hx ?_;obtain ⟨b3,_,h⟩:=aB h;obtain ⟨n6,hx,h⟩:=cL h;refine kN 10 hx ?_;exact bP 3 M.nQ
  intro hb h;obtain ⟨b4,_,h⟩:=aB h;obtain ⟨n7,hx,h⟩:=cL h;refine kN 10 hx ?_;exact bP 3 M.nQ
 intro hb h;refine cB 9 h ?_ ?_
 ·intro hb h;obtain ⟨x7,hx,h⟩:=cL h;refine kN 4 hx ?_;obtain ⟨n8,hx,h⟩:=cL h;refine kN 5 hx ?_;refine cB 9 h ?_ ?_
  ·intro hb h;obtain ⟨x8,hx,h⟩:=cL h;refine kN 4 hx ?_;obtain ⟨n9,hx,h⟩:=cL h;refine kN 5 hx ?_;obtain ⟨b5,_,h⟩:=aB h;obtain ⟨n10,hx,h⟩:=cL h;refine kN 10 hx ?_;exact bP 3 M.nQ
  intro hb h;obtain ⟨b6,_,h⟩:=aB h;obtain ⟨n11,hx,h⟩:=cL h;refine kN 10 hx ?_;exact bP 3 M.nQ
 intro hb h;refine cB 9 h ?_ ?_
 ·intro hb h;obtain ⟨x9,hx,h⟩:=cL h;refine kN 4 hx ?_;obtain ⟨n12,hx,h⟩:=cL h;refine kN 5 hx ?_;obtain ⟨b7,_,h⟩:=aB h;obtain ⟨n13,hx,h⟩:=cL h;refine kN 10 hx ?_;exact bP 3 M.nQ
 intro hb h;obtain ⟨b8,_,h⟩:=aB h;obtain ⟨n14,hx,h⟩:=cL h;refine kN 10 hx ?_;exact bP 3 M.nQ
theorem JQ {x2:Int} {r:Int} (h:CP N x2=some r) :
  lL 154 #[.int .u64 x2] w0 (zO r w0):=by
 refine gE Tryz.func154 Tryz.ntmps154 ?_;intro M;unfold CP at h;obtain ⟨r2,cR,h⟩:=aB h;refine fP 12 (NI cR) ?_;intro w M;exact bP 4 M.nQ
end
end
section
open Go.RowKit Go.Shelf
theorem MO (N:Nat) (s substr:aR) (w0:World) (r:Bool) (h:v7 N s substr=some r) :
  Calls Tryz.prog 130 #[.string (bs s),.string (bs substr)] w0 fun e w'=>∃v,e = .returned v∧v = .bool r∧Mem w0.heap.size w0 w' []:=by
 unfold v7 at h
 split at h
 ·rename_i c
  cases h;refine (Any.strings_Contains_one aIe (bs s) c w0).mono ?_;rintro e w' ⟨rfl,rfl⟩;exact ⟨_,rfl,rfl,Mem.start w'⟩
 ·cases h
end
section
open Go.RowKit
section
variable {kY:Option Addr} {N kZ:Nat} {fY eA:Int} {w0:World}
theorem DR {fZ:List Int} {o p2:Int} {r:Int} (h:tR N eA fY fZ o p2=some r) (AN:SL w0 (cI .i64) kY fZ) (IG:fZ.length≤kZ) :
  lL 129 #[.agg #[I eA,I fY,.slice kY fZ.length kZ],I o,I p2] w0 (zO r w0):=by
 refine gE Tryz.func129 Tryz.ntmps129 ?_;intro M;unfold tR at h;refine eE 2 ?_;intro jM w M;refine Xx 4 ?_;replace M:=M.drew;obtain ⟨_,h0,h⟩:=aB h;have h0:=dG h0;refine aH 7 ?_;obtain ⟨_,h0,h⟩:=aB h;have h0:=dG h0;refine cB 14 h ?_ ?_
 ·intro hb h;exact bP 8 M.nQ
 intro hb h;refine cB 7 h ?_ ?_
 ·intro hb h;obtain ⟨e,_,h⟩:=aB h;exact bP 14 M.nQ
 intro hb h;refine cB 7 h ?_ ?_
 ·intro hb h;obtain ⟨e2,_,h⟩:=aB h;exact bP 16 M.nQ
 intro hb h;refine Xx 4 ?_;replace M:=M.drew;refine aH 4 ?_;obtain ⟨e3,_,h⟩:=aB h;refine aH 8 ?_;obtain ⟨e4,_,h⟩:=aB h;refine aH 9 ?_;obtain ⟨e5,_,h⟩:=aB h;refine aH 33 ?_;refine jO (fun _ K=>bQ rfl K (vs:=[(0,I 0),(1,I e3),(2,I e4),(3,I e5),(4,I (aC.wrap ((aC.wrap (e3+e4))-e5))),(5,I (aC.wrap (e3+(jN .i64 (aC.wrap (e4-e5)) 1)))),(6,I (aC.wrap (e4+(jN .i64 (aC.wrap (e3-e5)) 1)))),(7,I (jN .i64 (aC.wrap (e3+e4)) 1))]) (cs:=[I 0,I e3,I e4,I e5,I (aC.wrap ((aC.wrap (e3+e4))-e5)),I (aC.wrap (e3+(jN .i64 (aC.wrap (e4-e5)) 1))),I (aC.wrap (e4+(jN .i64 (aC.wrap (e3-e5)) 1))),I (jN .i64 (aC.wrap (e3+e4)) 1)]) rfl aQ) M ?_;refine aH 1 ?_;obtain ⟨e6,aIj,h⟩:=aB h;refine jO (fun _ K=>Mq (C:=(cI .i64)) (es:=[0,e3,e4,e5,aC.wrap ((aC.wrap (e3+e4))-e5),aC.wrap (e3+(jN .i64 (aC.wrap (e4-e5)) 1)),aC.wrap (e4+(jN .i64 (aC.wrap (e3-e5)) 1)),jN .i64 (aC.wrap (e3+e4)) 1]) rfl aJc Hc K rfl rfl rfl aIj rfl) M ?_;exact bP 4 M.nQ
theorem BU {p:Prop} (h:p:=by exact eB 5 (((Mem.cC 3 1 (cI .i64) M)).pick [0] aL)):p:=h
theorem Ut {p:Prop} (h:p:=by exact QL (hk2 (x18,x19,0,1,w3) _ _ ⟨K.pick [0,1,4,5,6],M.pick [1,2,3,4,5,6] aL⟩ h)):p:=h
theorem XK {d:aR} {o p2 p3:Int} {p4:List Int} {aCL:Option Addr} {aCM:Nat} {r:pW} (h:Fd N d o p2 p3 p4=some r) (aPN:SL w0 (cI .i64) aCL p4) (aPO:p4.length≤aCM) :
  lL 83 #[.string (bs d),I o,I p2,I p3,.slice aCL p4.length aCM] w0 (ZT r w0):=by
 refine gE Tryz.func83 Tryz.ntmps83 ?_;intro M;unfold Fd at h;refine eE 2 ?_;intro jM w M;refine eE 0 ?_;intro dY w M;refine kJ 9 24 h ?_ ?_
 ·intro hb h;refine cV 17 ?_;intro w M;exact BU
 intro hb h;refine kJ 4 28 h ?_ ?_
 ·intro hb h;refine cV 13 ?_;intro w M;exact BU
 intro hb h;refine kJ 4 32 h ?_ ?_
 ·intro hb h;refine cV 9 ?_;intro w M;exact BU
 intro hb h;refine cB 5 h ?_ ?_
 ·intro hb h;refine cV 3 ?_;intro w M;exact BU
 intro hb h;refine kJ 8 39 h ?_ ?_
 ·intro hb h;refine cV 9 ?_;intro w M;exact BU
 intro hb h;refine cB 5 h ?_ ?_
 ·intro hb h;refine cV 3 ?_;intro w M;exact BU
 intro hb h;obtain ⟨r2,cR,h⟩:=aB h;refine fP 6 (Jt cR) ?_;intro w M;refine cB 9 h ?_ ?_
 ·intro hb h;refine cV 4 ?_;intro w M;exact BU
 intro hb h;refine aH 6 ?_;refine jO (fun _ K=>bQ rfl K (vs:=[(0,I o),(1,I p2)]) (cs:=[I o,I p2,.slice none ([]:List Int).length 0]) rfl aQ) M ?_;refine eE 0 ?_;intro fN w M;refine cV 0 ?_;intro w M;refine eE 4 ?_;intro vM w M;refine cV 0 ?_;intro w M;refine aH 18 ?_;replace M:=Mem.cC 3 1 (cI .i64) M;refine pM 0 0 [3,4,5,10,13,14,15,56] [] (fun ZL ZM (⟨tE,x3,x4,i⟩:aDi) a w=>∃(A:Option Addr) (c:Nat),Kn a 123 ((57,I i)::ZL)∧jL w0 w [.row 3 1 A tE.length c ((cI .i64).all tE),.blk vM 9 [.string (bs x3)],.blk fN 45 [I o,I p2,.slice A tE.length c],.blk dY 45 [I 0,I 0,.slice none ([]:List Int).length 0],.blk jM 9 [.string (bs x4)]]) (M.pick [0,1,2,3,4] aL) ?_ ?_
 ·rintro ⟨sZ,x27,x28,i8⟩ a w ⟨A7,c7,K,M⟩ h
  revert a;refine kJ 8 117 h ?_ ?_
  ·intro hb h;refine cV 9 ?_;intro w M;exact BU
  intro hb h;obtain ⟨I6,RW,h⟩:=aB h;refine fP 1 (MO N x27 ([49]:aR) _  I6 RW) ?_;intro w M;refine cB 3 h ?_ ?_
  ·intro hb h;refine cV 3 ?_;intro w M;exact BU
  intro hb h;refine cV 5 ?_;intro w M;exact eB 4 M.oQ
 rintro kk aA ⟨tE,x3,x4,i⟩ a w hk1 ⟨A,c,K,M⟩ h;unfold fS at h;revert a;refine cB 6 h ?_ ?_
 ·intro hb h;refine aH 14 ?_;refine Za (fun _ K=>bS rfl pI z3 K (vs:=[(0,I 0)]) (cs:=[I 0]) rfl aQ rfl rfl M) ?_;rintro _ w ⟨gs2,rfl,M⟩;replace M:=M.fX 0 rfl (cI .i64) ([0]:List Int) (n:=1) rfl rfl rfl;obtain ⟨Ak,Ju,h⟩:=aB h;refine Za (fun _ K=>fQ (C:=(cI .i64)) (xs:=tE) (ys:=([0]:List Int)) rfl pI rfl z3 rfl rfl K rfl rfl 1 M rfl ((p9 (C:=(cI .i64)) 0 rfl rfl) _ M) Ju) ?_;rintro _ w ⟨A4,c4,rfl,M⟩;refine cV 1 ?_;intro w M;refine aH 6 ?_;refine Zin 127 Tryz.func127 Tryz.ntmps127 ?_;refine aH 12 ?_;intro a K;refine aNr (Rel:=fun (⟨FX,Sv,i4,i5,w3⟩:aDd) a w=>Kn a 39 [(0,.slice aCL p4.length aCM),(1,.func (.func 125) #[] #[pQ vM,pQ jM]),(4,I i4),(5,I i5),(6,.string (bs w3))]∧jL w0 w [.row 3 1 (some ⟨gs2,0,none⟩) ([0]:List Int).length 1 ((cI .i64).all ([0]:List Int)),.row 3 1 A4 Ak.length c4 ((cI .i64).all Ak),.blk vM 9 [.string (bs FX)],.blk fN 45 [I o,I p2,.slice A4 Ak.length c4],.blk dY 45 [I 0,I 0,.slice none ([]:List Int).length 0],.blk jM 9 [.string (bs Sv)]]) h (fun _ _=>rfl) ⟨K.pick [0,1,4,5,6],M.pick [0,1,2,3,4,5] aL⟩ ?_ ?_
  ·clear K M h;rintro ⟨x20,x21,i6,i7,w4⟩ a w ⟨K,M⟩ h
   revert a;refine aH 1 ?_;intro a K;refine QK K rfl (jD K rfl) (jD K rfl) ⟨_,rfl,?_⟩;clear K;intro a K;revert a;refine cB 14 h ?_ ?_
   ·intro hb h;refine cV 3 ?_;intro w M;exact eB 10 (((Mem.cC 3 1 (cI .i64) M)).pick [0] aL)
   intro hb h;refine cB 16 h ?_ ?_
   ·intro hb h;refine aH 5 ?_;intro a K;refine aK (fun w=>Mem _ _ w _) [0,0,0,0,0,0,1,0,0,0,0,0,2] aQ aQ M.drew ?_;replace M:=M.drew;revert a;obtain ⟨r16,DS,h⟩:=aB h;refine rU 6 (DR DS) ?_;intro w M;obtain ⟨e8,_,h⟩:=aB h;refine aH 5 ?_;obtain ⟨l6,ZW,h⟩:=aB h;refine z7 (fun _ K=>gD (el:=aC.wrap (IntKind.u16.wrap (aC.wrap (r16+32768)))) rfl Pr rfl rfl K rfl rfl rfl 1 M rfl ZW) ?_;intro _ w M;have hl:=jI ZW;intro a K;try rw [hl] at M
    try rw [hl] at K
    clear hl;revert a;exact iG 8 (l6,x20,x21,aC.wrap (i+1)) (M.pick [1,2,3,4,5] aL)
   intro hb h;refine cB 7 h ?_ ?_
   ·intro hb h;refine aH 4 ?_;intro a K;refine Tx (vs:=[I i6]) (cap:=[pQ vM,pQ jM]) K (cA rfl) rfl rfl rfl (B8 125 aQ) rfl rfl ?_;clear K;refine qC Tryz.func125 rfl Tryz.ntmps125 rfl ?_;refine pM 8 0 [0,1,2] [] (fun ZL ZM (⟨JJ,x23⟩:FR) a w=>Kn a 33 ZL∧jL w0 w [.row 3 1 (some ⟨gs2,0,none⟩) ([0]:List Int).length 1 ((cI .i64).all ([0]:List Int)),.row 3 1 A4 Ak.length c4 ((cI .i64).all Ak),.blk vM 9 [.string (bs JJ)],.blk fN 45 [I o,I p2,.slice A4 Ak.length c4],.blk dY 45 [I 0,I 0,.slice none ([]:List Int).length 0],.blk jM 9 [.string (bs x23)]]) (M.pick [0,1,2,3,4,5] aL) ?_ ?_
    ·rintro ⟨x24,x25⟩ a w ⟨K,M⟩ h
     revert a;refine cB 11 h ?_ ?_
     ·intro hb h;refine aH 8 ?_;intro a K;refine QK K rfl (jD K rfl) (jD K rfl) ⟨_,rfl,?_⟩;clear K;intro a K;revert a;refine cV 18 ?_;intro w M;exact eB 12 (((Mem.cC 3 1 (cI .i64) M)).pick [0] aL)
     intro hb h;obtain ⟨s33,_,h⟩:=aB h;refine aH 14 ?_;obtain ⟨s34,_,h⟩:=aB h;refine cV 1 ?_;intro w M;refine aH 10 ?_;intro a K;refine QK K rfl (jD K rfl) (jD K rfl) ⟨_,rfl,?_⟩;clear K;intro a K;revert a;refine aH 20 ?_;obtain ⟨TA,RX,h⟩:=aB h;refine fP 0 (VU RX) ?_;intro w M;obtain ⟨b2,_,h⟩:=aB h;refine cB 13 h ?_ ?_
     ·intro hb h;obtain ⟨_,h0,h⟩:=aB h;have h0:=qB h0;obtain ⟨x26,hx,h⟩:=cL h;refine kN 6 hx ?_;refine aH 3 ?_;intro a K;refine aK (fun w=>Mem _ _ w _) [0,0,0,0,0,0,1,0,0,0,0,0,2] aQ aQ M.drew ?_;replace M:=M.drew;revert a;refine aH 6 ?_;obtain ⟨Ow,RY,h⟩:=aB h;refine rU 0 (DR RY) ?_;intro w M;obtain ⟨e9,_,h⟩:=aB h;refine aH 5 ?_;obtain ⟨l7,Ao,h⟩:=aB h;refine z7 (fun _ K=>gD (el:=aC.wrap (IntKind.u16.wrap (aC.wrap (Ow+x26)))) rfl Pr rfl rfl K rfl rfl rfl 1 M rfl Ao) ?_;intro _ w M;have hl:=jI Ao;intro a K;try rw [hl] at M
      try rw [hl] at K
      clear hl;revert a;exact iG 8 (l7,s34,x25,aC.wrap (i+1)) (M.pick [1,2,3,4,5] aL)
     intro hb h;refine aH 3 ?_;intro a K;refine aK (fun w=>Mem _ _ w _) [0,0,0,0,0,0,1,0,0,0,0,0,2] aQ aQ M.drew ?_;replace M:=M.drew;revert a;refine aH 6 ?_;obtain ⟨YL,XL,h⟩:=aB h;refine rU 0 (DR XL) ?_;intro w M;obtain ⟨e10,_,h⟩:=aB h;refine aH 5 ?_;obtain ⟨l8,S1,h⟩:=aB h;refine z7 (fun _ K=>gD (el:=aC.wrap (IntKind.u16.wrap (aC.wrap (YL+TA.1)))) rfl Pr rfl rfl K rfl rfl rfl 1 M rfl S1) ?_;intro _ w M;have hl:=jI S1;intro a K;try rw [hl] at M
     try rw [hl] at K
     clear hl;revert a;exact iG 8 (l8,s34,x25,aC.wrap (i+1)) (M.pick [1,2,3,4,5] aL)
    rintro kk aA ⟨JJ,x23⟩ a w hk4 ⟨K,M⟩ h;unfold nP at h;revert a;refine kJ 8 11 h ?_ ?_
    ·intro hb h;refine cB 5 h ?_ ?_
     ·intro hb h;refine aH 4 ?_;intro a K;refine aK (fun w=>Mem _ _ w _) [0,0,0,1,0,2] aQ aQ M.drew ?_;replace M:=M.drew;revert a;obtain ⟨s30,_,h⟩:=aB h;refine aH 3 ?_;obtain ⟨Mr,IH,h⟩:=aB h;refine rU 0 (Pw IH) ?_;intro w M;obtain ⟨s31,_,h⟩:=aB h;refine aH 1 ?_;refine z7 (fun _ K=>jX M K 2) ?_;intro _ w M;refine aH 4 ?_;obtain ⟨s32,_,h⟩:=aB h;refine cV 1 ?_;intro w M;exact iG 3 (s31,s32) (M.pick [0,1,2,3,4,5] aL)
     intro hb h;exact jY 3 (hk4 (JJ,x23)) (M.pick [0,1,2,3,4,5] aL)
    intro hb h;exact jY 9 (hk4 (JJ,x23)) (M.pick [0,1,2,3,4,5] aL)
   intro hb h;refine aH 3 ?_;intro a K;refine aK (fun w=>Mem _ _ w _) [0,0,0,0,0,0,1,0,0,0,0,0,2] aQ aQ M.drew ?_;replace M:=M.drew;revert a;obtain ⟨r22,XM,h⟩:=aB h;refine rU 6 (DR XM) ?_;intro w M;obtain ⟨e11,_,h⟩:=aB h;refine aH 5 ?_;obtain ⟨l9,aIk,h⟩:=aB h;refine z7 (fun _ K=>gD (el:=aC.wrap (IntKind.u16.wrap (aC.wrap (r22+0)))) rfl Pr rfl rfl K rfl rfl rfl 1 M rfl aIk) ?_;intro _ w M;have hl:=jI aIk;intro a K;try rw [hl] at M
   try rw [hl] at K
   clear hl;revert a;exact iG 8 (l9,x20,x21,aC.wrap (i+1)) (M.pick [1,2,3,4,5] aL)
  clear K M h;rintro kk aA ⟨FX,Sv,i4,i5,w3⟩ a w hk2 ⟨K,M⟩ h;unfold lY at h;revert a;obtain ⟨B1,Cx,h⟩:=aB h;refine fP 5 (XJ Cx) ?_;intro A6 c6 w M;refine cB 16 h ?_ ?_
  ·intro hb h;obtain ⟨e7,_,h⟩:=aB h;refine aH 13 ?_;intro a K;exact QL (hk2 (FX,Sv,e7,B1.2.2,w3) _ _ ⟨K.pick [0,1,4,5,6],M.pick [1,2,3,4,5,6] aL⟩ h)
  intro hb h;refine aH 5 ?_;intro a K;refine Tx (vs:=[I 1]) (cap:=[pQ vM,pQ jM]) K (cA rfl) rfl rfl rfl (B8 125 aQ) rfl rfl ?_;clear K;refine qC Tryz.func125 rfl Tryz.ntmps125 rfl ?_;refine pM 8 0 [0,1,2] [] (fun ZL ZM (⟨Oh,YJ⟩:FR) a w=>Kn a 33 ZL∧jL w0 w [.row 3 1 A6 B1.1.length c6 ((cI .i64).all B1.1),.row 3 1 (some ⟨gs2,0,none⟩) ([0]:List Int).length 1 ((cI .i64).all ([0]:List Int)),.row 3 1 A4 Ak.length c4 ((cI .i64).all Ak),.blk vM 9 [.string (bs Oh)],.blk fN 45 [I o,I p2,.slice A4 Ak.length c4],.blk dY 45 [I 0,I 0,.slice none ([]:List Int).length 0],.blk jM 9 [.string (bs YJ)]]) (M.pick [0,1,2,3,4,5,6] aL) ?_ ?_
  ·rintro ⟨x18,x19⟩ a w ⟨K,M⟩ h
   revert a;refine cB 11 h ?_ ?_
   ·intro hb h;refine aH 8 ?_;intro a K;refine QK K rfl (jD K rfl) (jD K rfl) ⟨_,rfl,?_⟩;clear K;intro a K;revert a;refine kJ 13 32 h ?_ ?_
    ·intro hb h;refine aH 15 ?_;intro a K;exact Ut
    intro hb h;refine aH 15 ?_;intro a K;exact Ut
   intro hb h;obtain ⟨s24,_,h⟩:=aB h;refine aH 14 ?_;obtain ⟨s25,_,h⟩:=aB h;refine cV 1 ?_;intro w M;refine aH 10 ?_;intro a K;refine QK K rfl (jD K rfl) (jD K rfl) ⟨_,rfl,?_⟩;clear K;intro a K;revert a;refine kJ 13 32 h ?_ ?_
   ·intro hb h;refine aH 15 ?_;intro a K;exact QL (hk2 (s25,x19,0,1,w3) _ _ ⟨K.pick [0,1,4,5,6],M.pick [1,2,3,4,5,6] aL⟩ h)
   intro hb h;refine aH 11 ?_;obtain ⟨s26,_,h⟩:=aB h;exact iG 5 (s25,x19,i4,i5,s26) (M.pick [1,2,3,4,5,6] aL)
  rintro kk aA ⟨Oh,YJ⟩ a w hk3 ⟨K,M⟩ h;unfold Bd at h;revert a;refine kJ 8 11 h ?_ ?_
  ·intro hb h;refine cB 5 h ?_ ?_
   ·intro hb h;refine aH 4 ?_;intro a K;refine aK (fun w=>Mem _ _ w _) [0,0,0,1,0,2] aQ aQ M.drew ?_;replace M:=M.drew;revert a;obtain ⟨s21,_,h⟩:=aB h;refine aH 3 ?_;obtain ⟨J5,G6,h⟩:=aB h;refine rU 0 (Pw G6) ?_;intro w M;obtain ⟨s22,_,h⟩:=aB h;refine aH 1 ?_;refine z7 (fun _ K=>jX M K 3) ?_;intro _ w M;refine aH 4 ?_;obtain ⟨s23,_,h⟩:=aB h;refine cV 1 ?_;intro w M;exact iG 3 (s22,s23) (M.pick [0,1,2,3,4,5,6] aL)
   intro hb h;exact jY 3 (hk3 (Oh,YJ)) (M.pick [0,1,2,3,4,5,6] aL)
  intro hb h;exact jY 9 (hk3 (Oh,YJ)) (M.pick [0,1,2,3,4,5,6] aL)
 intro hb h;exact jY 3 (hk1 (tE,x3,x4,i)) (M.pick [0,1,2,3,4] aL)
theorem XN {lE mS:Int} {iI:List Int} {kC:Option Addr} {kD:Nat} {r:Bool} (h:KE N lE mS iI=some r) (xN:SL w0 (cI .i64) kC iI) (zS:iI.length≤kD) :
  lL 152 #[.agg #[I lE,I mS,.slice kC iI.length kD]] w0 (DQ r w0):=by
 refine gE Tryz.func152 Tryz.ntmps152 ?_;intro M;unfold KE at h;refine eE 2 ?_;intro Ie w M;refine kJ 10 8 h ?_ ?_
 ·intro hb h;exact bP 35 M.nQ
 intro hb h;refine kJ 5 13 h ?_ ?_
 ·intro hb h;exact bP 30 M.nQ
 intro hb h;refine kJ 5 18 h ?_ ?_
 ·intro hb h;exact bP 25 M.nQ
 intro hb h;refine kJ 5 23 h ?_ ?_
 ·intro hb h;exact bP 20 M.nQ
 intro hb h;refine cB 12 h ?_ ?_
 ·intro hb h;exact bP 7 M.nQ
 intro hb h;refine pM 12 0 [35,36] [] (fun ZL ZM (i:Int) a w=>Kn a 48 ((37,I i)::ZL)∧jL w0 w []) M.nQ ?_ ?_
 ·rintro i2 a w ⟨K,M⟩ h
  revert a;exact bP 8 M.nQ
 rintro kk aA i a w hk1 ⟨K,M⟩ h;unfold GU at h;revert a;refine cB 6 h ?_ ?_
 ·intro hb h;obtain ⟨e2,_,h⟩:=aB h;refine kJ 16 43 h ?_ ?_
  ·intro hb h;exact bP 17 M.nQ
  intro hb h;refine cB 5 h ?_ ?_
  ·intro hb h;exact bP 11 M.nQ
  intro hb h;exact iG 8 (aC.wrap (i+1)) M.nQ
 intro hb h;exact jY 3 (hk1 i) M.nQ
theorem VV {fZ:List Int} {o:Int} {p2:List Int} {aFF:Option Addr} {aFG:Nat} {r:lC} (h:Je N eA fY fZ o p2=some r) (AN:SL w0 (cI .i64) kY fZ) (IG:fZ.length≤kZ) (aPP:SL w0 (cI .i64) aFF p2) (aPQ:p2.length≤aFG) :
  lL 121 #[.agg #[I eA,I fY,.slice kY fZ.length kZ],I o,.slice aFF p2.length aFG] w0 (VS r w0):=by
 refine gE Tryz.func121 Tryz.ntmps121 ?_;intro M;unfold Je at h;refine eE 2 ?_;intro jM w M;obtain ⟨r2,cR,h⟩:=aB h;refine fP 8 (XN cR) ?_;intro w M;refine cB 3 h ?_ ?_
 ·intro hb h;exact eB 8 M.nQ
 intro hb h;refine kJ 8 24 h ?_ ?_
 ·intro hb h;exact eB 14 M.nQ
 intro hb h;refine cB 5 h ?_ ?_
 ·intro hb h;exact eB 8 M.nQ
 intro hb h;obtain ⟨r3,gP,h⟩:=aB h;refine fP 5 (NH gP) ?_;intro A c w M;refine cB 14 h ?_ ?_
 ·intro hb h;exact eB 9 M.nQ
 intro hb h;refine aH 4 ?_;refine Za (fun _ K=>Kt rfl (show mR Tryz.prog 105=some [.pointer none,.slice none 0 0] by kernel_rfl) M) ?_;rintro _ w ⟨dY,rfl,M⟩;replace M:=Mem.aFt 5 M;refine pM 12 0 [1,3,8,10,37,38] [2,3] (fun ZL ZM (⟨l2,i⟩:lC) a w=>∃(A2:Option Addr) (c2:Nat),Kn a 106 ((39,I i)::ZL)∧jL w0 w (.row 5 1 A2 l2.length c2 ((cI .u8).all (rT l2)) :: .H0 dY 105 A2 l2.length c2::ZM)) (M.pick [0,1,2,3] aL) ?_ ?_
 ·rintro ⟨l3,i2⟩ a w ⟨A15,c15,K,M⟩ h
  revert a;refine aH 4 ?_;refine Za (fun _ K=>oI (vs:=[pQ dY]) (cap:=[]) rfl (B8 52 aQ) K rfl rfl (F5 (show Mem _ _ _ [.H0 dY 105 A15 l3.length c15,.row 5 1 A15 l3.length c15 ((cI .u8).all (rT l3)),.row 9 1 A r3.1.length c (cS.all r3.1),.blk jM 45 [I eA,I fY,.slice kY fZ.length kZ]] from M.pick [1,0,2,3] aL))) ?_;rintro _ w ⟨rfl,M⟩;obtain ⟨Mr,IH,h⟩:=aB h;refine fP 0 (NF IH) ?_;intro w M;exact eB 15 M.nQ
 rintro kk aA ⟨l2,i⟩ a w hk1 ⟨A2,c2,K,M⟩ h;unfold pJ at h;revert a;refine cB 6 h ?_ ?_
 ·intro hb h;obtain ⟨e6,_,h⟩:=aB h;refine aH 19 ?_;obtain ⟨Al,Ap,h⟩:=aB h;refine fP 0 (DR Ap) ?_;intro w M;obtain ⟨x6,hx,h⟩:=cL h;refine kN 3 hx ?_;refine cB 9 h ?_ ?_
  ·intro hb h;obtain ⟨x7,hx,h⟩:=cL h;refine kN 3 hx ?_;obtain ⟨AE,Fl,h⟩:=aB h;refine fP 9 (JQ Fl) ?_;intro w M;refine kJ 11 66 h ?_ ?_
   ·intro hb h;exact eB 22 M.nQ
   intro hb h;obtain ⟨e7,_,h⟩:=aB h;refine cB 8 h ?_ ?_
   ·intro hb h;exact eB 13 M.nQ
   intro hb h;refine aH 6 ?_;obtain ⟨e8,_,h⟩:=aB h;refine aH 2 ?_;obtain ⟨b7,aLE,h⟩:=aB h;refine Za (fun _ K=>oI (vs:=[pQ dY,.string (bs e8)]) (cap:=[]) rfl (B8 49 aQ) K rfl rfl (xM (show Mem _ _ _ [.H0 dY 105 A2 l2.length c2,.row 5 1 A2 l2.length c2 ((cI .u8).all (rT l2)),.row 9 1 A r3.1.length c (cS.all r3.1),.blk jM 45 [I eA,I fY,.slice kY fZ.length kZ]] from M.pick [1,0,2,3] aL) aLE)) ?_;rintro _ w ⟨A9,c9,M⟩;refine kJ 7 80 h ?_ ?_
   ·intro hb h;refine cB 5 h ?_ ?_
    ·intro hb h;refine cB 7 h ?_ ?_
     ·intro hb h;obtain ⟨_,h0,h⟩:=aB h;have h0:=qB h0;obtain ⟨x8,hx,h⟩:=cL h;refine kN 6 hx ?_;refine aH 6 ?_;obtain ⟨B1,Cx,h⟩:=aB h;refine fP 0 (Cw Cx) ?_;intro w M;obtain ⟨b8,aLF,h⟩:=aB h;refine aH 9 ?_;refine Za (fun _ K=>oI (vs:=[pQ dY,.string (bs B1.1)]) (cap:=[]) rfl (B8 49 aQ) K rfl rfl (xM (show Mem _ _ _ [.H0 dY 105 A9 b7.length c9,.row 5 1 A9 b7.length c9 ((cI .u8).all (rT b7)),.row 9 1 A r3.1.length c (cS.all r3.1),.blk jM 45 [I eA,I fY,.slice kY fZ.length kZ]] from M.pick [0,1,2,3] aL) aLF)) ?_;rintro _ w ⟨Us,c10,M⟩;exact iG 8 (b8,aC.wrap (i+1)) (M.pick [1,0,2,3] aL)
     intro hb h;obtain ⟨IX,Fm,h⟩:=aB h;refine fP 6 (Cw Fm) ?_;intro w M;obtain ⟨b9,aPR,h⟩:=aB h;refine aH 9 ?_;refine Za (fun _ K=>oI (vs:=[pQ dY,.string (bs IX.1)]) (cap:=[]) rfl (B8 49 aQ) K rfl rfl (xM (show Mem _ _ _ [.H0 dY 105 A9 b7.length c9,.row 5 1 A9 b7.length c9 ((cI .u8).all (rT b7)),.row 9 1 A r3.1.length c (cS.all r3.1),.blk jM 45 [I eA,I fY,.slice kY fZ.length kZ]] from M.pick [0,1,2,3] aL) aPR)) ?_;rintro _ w ⟨A11,c11,M⟩;exact iG 8 (b9,aC.wrap (i+1)) (M.pick [1,0,2,3] aL)
    intro hb h;exact iG 8 (b7,aC.wrap (i+1)) (M.pick [1,0,2,3] aL)
   intro hb h;exact iG 14 (b7,aC.wrap (i+1)) (M.pick [1,0,2,3] aL)
  intro hb h;obtain ⟨J5,G6,h⟩:=aB h;refine fP 9 (JQ G6) ?_;intro w M;refine kJ 11 66 h ?_ ?_
  ·intro hb h;exact eB 22 M.nQ
  intro hb h;obtain ⟨e9,_,h⟩:=aB h;refine cB 8 h ?_ ?_
  ·intro hb h;exact eB 13 M.nQ
  intro hb h;refine aH 6 ?_;obtain ⟨e10,_,h⟩:=aB h;refine aH 2 ?_;obtain ⟨b10,aN6,h⟩:=aB h;refine Za (fun _ K=>oI (vs:=[pQ dY,.string (bs e10)]) (cap:=[]) rfl (B8 49 aQ) K rfl rfl (xM (show Mem _ _ _ [.H0 dY 105 A2 l2.length c2,.row 5 1 A2 l2.length c2 ((cI .u8).all (rT l2)),.row 9 1 A r3.1.length c (cS.all r3.1),.blk jM 45 [I eA,I fY,.slice kY fZ.length kZ]] from M.pick [1,0,2,3] aL) aN6)) ?_;rintro _ w ⟨A12,c12,M⟩;refine kJ 7 80 h ?_ ?_
  ·intro hb h;refine cB 5 h ?_ ?_
   ·intro hb h;refine cB 7 h ?_ ?_
    ·intro hb h;obtain ⟨_,h0,h⟩:=aB h;have h0:=qB h0;obtain ⟨x9,hx,h⟩:=cL h;refine kN 6 hx ?_;refine aH 6 ?_;obtain ⟨r16,DS,h⟩:=aB h;refine fP 0 (Cw DS) ?_;intro w M;obtain ⟨b11,aN7,h⟩:=aB h;refine aH 9 ?_;refine Za (fun _ K=>oI (vs:=[pQ dY,.string (bs r16.1)]) (cap:=[]) rfl (B8 49 aQ) K rfl rfl (xM (show Mem _ _ _ [.H0 dY 105 A12 b10.length c12,.row 5 1 A12 b10.length c12 ((cI .u8).all (rT b10)),.row 9 1 A r3.1.length c (cS.all r3.1),.blk jM 45 [I eA,I fY,.slice kY fZ.length kZ]] from M.pick [0,1,2,3] aL) aN7)) ?_;rintro _ w ⟨Yv,c13,M⟩;exact iG 8 (b11,aC.wrap (i+1)) (M.pick [1,0,2,3] aL)
    intro hb h;obtain ⟨Lw,K9,h⟩:=aB h;refine fP 6 (Cw K9) ?_;intro w M;obtain ⟨b12,aN8,h⟩:=aB h;refine aH 9 ?_;refine Za (fun _ K=>oI (vs:=[pQ dY,.string (bs Lw.1)]) (cap:=[]) rfl (B8 49 aQ) K rfl rfl (xM (show Mem _ _ _ [.H0 dY 105 A12 b10.length c12,.row 5 1 A12 b10.length c12 ((cI .u8).all (rT b10)),.row 9 1 A r3.1.length c (cS.all r3.1),.blk jM 45 [I eA,I fY,.slice kY fZ.length kZ]] from M.pick [0,1,2,3] aL) aN8)) ?_;rintro _ w ⟨A14,c14,M⟩;exact iG 8 (b12,aC.wrap (i+1)) (M.pick [1,0,2,3] aL)
   intro hb h;exact iG 8 (b10,aC.wrap (i+1)) (M.pick [1,0,2,3] aL)
  intro hb h;exact iG 14 (b10,aC.wrap (i+1)) (M.pick [1,0,2,3] aL)
 intro hb h;exact jY 3 (hk1 (l2,i)) (M.pick [0,1,2,3] aL)
end
section
variable {N:Nat} {w0:World}
theorem Ed {x2:List Int} {aN9:Option Addr} {aOa:Nat} {r:Int} (h:qI N x2=some r) (aQt:SL w0 (cI .i64) aN9 x2) (aQu:x2.length≤aOa) :
  lL 84 #[.slice aN9 x2.length aOa] w0 (zO r w0):=by
 refine gE Tryz.func84 Tryz.ntmps84 ?_;intro M;unfold qI at h;refine cB 13 h ?_ ?_
 ·intro hb h;refine aH 2 ?_;intro a K;cases h
 intro hb h;obtain ⟨e,_,h⟩:=aB h;refine pM 17 0 [0] [] (fun ZL ZM (⟨m,i⟩:aN) a w=>Kn a 25 ((3,I m)::(4,I i)::ZL)∧jL w0 w []) M.nQ ?_ ?_
 ·rintro ⟨m4,i4⟩ a w ⟨K,M⟩ h
  revert a;exact bP 9 M.nQ
 rintro kk aA ⟨m,i⟩ a w hk1 ⟨K,M⟩ h;unfold nT at h;revert a;refine cB 9 h ?_ ?_
 ·intro hb h;obtain ⟨e3,_,h⟩:=aB h;obtain ⟨m3,hx,h⟩:=cL h;refine kN 11 hx ?_;obtain ⟨i3,hx,h⟩:=cL h;refine kN 6 hx ?_;exact iG 2 (m3,i3) M.nQ
 intro hb h;exact jY 3 (hk1 (m,i)) M.nQ
theorem II {s:List Int} {O6:Option Addr} {RP:Nat} {r:List Int} (h:zB N s=some r) (XB:SL w0 (cI .i64) O6 s) (C_s:s.length≤RP) :
  lL 117 #[.slice O6 s.length RP] w0 (aLC r w0):=by
 refine gE Tryz.func117 Tryz.ntmps117 ?_;intro M;unfold zB at h;refine aH 9 ?_
 by_cases hA:(O6).isNone=true
 ·have hs:=SL.Nx XB hA;replace h:some ([]:List Int)=some r:=by rw [hs] at h;exact h
  clear hs;refine jO (fun _ K=>It (b':=true) hA (Do rfl RN K rfl rfl)) M ?_;exact bP 10 (((Mem.cC 3 1 (cI .i64) M)).pick [0] aL)
 refine jO (fun _ K=>It (b':=false) ((Bool.not_eq_true _).mp hA) (Do rfl RN K rfl rfl)) M ?_;refine aH 7 ?_;refine Za (fun _ K=>Jq (C:=(cI .i64)) rfl pI rfl K M) ?_;rintro _ w ⟨gs,rfl,M⟩;obtain ⟨l2,z8,h⟩:=aB h;refine aH 1 ?_;refine Za (fun _ K=>fQ (C:=(cI .i64)) (xs:=([]:List Int)) (ys:=s) rfl pI rfl z3 rfl rfl K rfl rfl 0 M rfl ((Cc XB) _ M) z8) ?_;rintro _ w ⟨A,c,rfl,M⟩;exact bP 4 M.oQ
end
section
variable {kC:Option Addr} {N kD BC NJ:Nat} {n mS lE aI YM YN YO v1 y:Int} {iI:List Int} {w0:World}
theorem Mc {r:Bool} (h:Ay N lE mS iI=some r) (xN:SL w0 (cI .i64) kC iI) (zS:iI.length≤kD) :
  lL 88 #[.agg #[I lE,I mS,.slice kC iI.length kD]] w0 (DQ r w0):=by
 refine gE Tryz.func88 Tryz.ntmps88 ?_;intro M;unfold Ay at h;refine eE 2 ?_;intro Ie w M;refine kJ 10 8 h ?_ ?_
 ·intro hb h;exact bP 35 M.nQ
 intro hb h;refine kJ 5 13 h ?_ ?_
 ·intro hb h;exact bP 30 M.nQ
 intro hb h;refine kJ 5 18 h ?_ ?_
 ·intro hb h;exact bP 25 M.nQ
 intro hb h;refine kJ 5 23 h ?_ ?_
 ·intro hb h;exact bP 20 M.nQ
 intro hb h;refine cB 12 h ?_ ?_
 ·intro hb h;exact bP 7 M.nQ
 intro hb h;refine pM 12 0 [35,36] [] (fun ZL ZM (i:Int) a w=>Kn a 48 ((37,I i)::ZL)∧jL w0 w []) M.nQ ?_ ?_
 ·rintro i2 a w ⟨K,M⟩ h
  revert a;exact bP 8 M.nQ
 rintro kk aA i a w hk1 ⟨K,M⟩ h;unfold vW at h;revert a;refine cB 6 h ?_ ?_
 ·intro hb h;obtain ⟨e2,_,h⟩:=aB h;refine kJ 16 43 h ?_ ?_
  ·intro hb h;exact bP 17 M.nQ
  intro hb h;refine cB 5 h ?_ ?_
  ·intro hb h;exact bP 11 M.nQ
  intro hb h;exact iG 8 (aC.wrap (i+1)) M.nQ
 intro hb h;exact jY 3 (hk1 i) M.nQ
theorem IJ {x2 v03:Int} {r:Int} (h:yW N n x2 y YM YN YO v03 v1=some r) (Aa:kX w0 BC 33 #[I YM,I YN,I YO,I v03]) (RZ:kX w0 NJ 3 #[I v1]) :
  lL 249 #[I n,I x2,I y,pQ BC,pQ NJ] w0 (zO r w0):=by
 refine gE Tryz.func249 Tryz.ntmps249 ?_;intro M;unfold yW at h;obtain ⟨_,h0,h⟩:=aB h;have h0:=mQ h0;refine aH 14 ?_;obtain ⟨e,h_e,h⟩:=aB h;refine jO (fun _ K=>qD rfl Hc K rfl (inO Aa) rfl rfl h_e) M ?_;obtain ⟨_,h0,h⟩:=aB h;have h0:=dG h0;exact bP 18 M.nQ
theorem Fo {CV CW CX CY Ex:Int} {Py Pz:Nat} {r:qP} (h:qE N lE mS iI CV CW CX CY Ex=some r) (xN:SL w0 (cI .i64) kC iI) (zS:iI.length≤kD) (aF4:kX w0 Py 33 #[I CV,I CW,I CX,I CY]) (aF5:kX w0 Pz 3 #[I Ex]) :
  lL 89 #[.agg #[I lE,I mS,.slice kC iI.length kD],.func (.func 249) #[] #[pQ Py,pQ Pz]] w0 (aCK r w0):=by
 refine gE Tryz.func89 Tryz.ntmps89 ?_;intro M;unfold qE at h;refine eE 2 ?_;intro Ie w M;refine eE 0 ?_;intro jM w M;refine aH 3 ?_;refine Jr [0,0,0,0,0,0,0,1,0,1,2] 11 [0,1,2,3,4,5,6,7,8,9,10] M ?_;replace M:=M.drew;obtain ⟨x2,hx,h⟩:=cL h;refine aH 6 ?_;refine Ce 6 rfl (fun _ K=>V4 hx (AV rfl RN K rfl)) ?_;refine MX 7 9 ?_ ?_
 ·obtain ⟨l2,z8,h⟩:=aB h;refine rD rfl (fun _ K=>sJ (C:=(cI .i64)) (z:=0) rfl pI rfl z3 rfl K rfl rfl M z8) ?_;rintro _ w ⟨A,c,rfl,M⟩;refine ⟨fun _=>M.toS,?_⟩;refine Ce 8 rfl (fun _ K=>bQ rfl K (vs:=[(0,I lE),(1,I mS),(2,.slice A l2.length c)]) (cs:=[I lE,I mS,.slice A l2.length c]) rfl aQ) ?_;refine nK 9 ?_;refine rD rfl (fun _ K=>Ka M) ?_;rintro _ w ⟨vF,rfl,M⟩;refine ⟨fun _=>M.toS,?_⟩;refine nK 10 ?_;refine D3 rfl (fun _ K=>oO M K 0) ?_;intro _ w M;refine ⟨fun h=>absurd h aL,?_⟩;refine pM 12 0 [1,2,4,5,18,19] [2,3] (fun ZL ZM (⟨cJ,i⟩:gL) a w=>Kn a 43 ((20,I i)::ZL)∧jL w0 w (.blk vF 45 [I lE,I mS,.slice A cJ.length c] :: .row 3 1 A cJ.length c ((cI .i64).all cJ)::ZM)) (M.pick [0,1,2,3] aL) ?_ ?_
  ·rintro ⟨uJ,i2⟩ a w ⟨K,M⟩ h
   revert a;refine cV 5 ?_;intro w M;exact bP 3 (M.pick [1] aL)
  rintro kk aA ⟨cJ,i⟩ a w hk1 ⟨K,M⟩ h;unfold gB at h;revert a;refine cB 6 h ?_ ?_
  ·intro hb h;obtain ⟨e3,_,h⟩:=aB h;refine aH 13 ?_;intro a K;refine aK (fun w=>Mem _ _ w _) [0,0,0,0,0,0,0,0,0,0,0,0,0,1,0,0,2] aQ aQ M.drew ?_;replace M:=M.drew;revert a;refine aH 8 ?_;obtain ⟨_,h0,h⟩:=aB h;have h0:=dG h0;refine aH 4 ?_;obtain ⟨_,h0,h⟩:=aB h;have h0:=dG h0;refine aH 1 ?_;obtain ⟨r3,gP,h⟩:=aB h;refine rU 0 (IJ gP) ?_;intro w M;obtain ⟨e4,_,h⟩:=aB h;refine aH 2 ?_;obtain ⟨l4,Cy,h⟩:=aB h;refine z7 (fun _ K=>gD (el:=min r3 65535) rfl Pr rfl rfl K rfl rfl rfl 1 M rfl Cy) ?_;intro _ w M;have hl:=jI Cy;intro a K;try rw [hl] at M
   try rw [hl] at K
   clear hl;revert a;exact iG 8 (l4,aC.wrap (i+1)) (M.pick [0,1,2,3] aL)
  intro hb h;exact jY 3 (hk1 (cJ,i)) (M.pick [0,1,2,3] aL)
 ·refine rD rfl (fun _ K=>Ka M) ?_;rintro _ w ⟨BD,rfl,M⟩;refine ⟨fun _=>M.toS,?_⟩;refine nK 7 ?_;obtain ⟨l5,B9,h⟩:=aB h;refine rD rfl (fun _ K=>sJ (C:=(cI .i64)) (z:=0) rfl pI rfl z3 rfl K rfl rfl M B9) ?_;rintro _ w ⟨A2,c2,rfl,M⟩;refine ⟨fun _=>M.toS,?_⟩;refine Ce 8 rfl (fun _ K=>bQ rfl K (vs:=[(0,I lE),(1,I mS),(2,.slice A2 l5.length c2)]) (cs:=[I lE,I mS,.slice A2 l5.length c2]) rfl aQ) ?_;refine nK 10 ?_;refine D3 rfl (fun _ K=>oO M K 1) ?_;intro _ w M;refine ⟨fun h=>absurd h aL,?_⟩;refine pM 12 0 [1,2,4,5,18,19] [2,3] (fun ZL ZM (⟨gA,i3⟩:gL) a w=>Kn a 43 ((20,I i3)::ZL)∧jL w0 w (.row 3 1 A2 gA.length c2 ((cI .i64).all gA) :: .blk BD 45 [I lE,I mS,.slice A2 gA.length c2]::ZM)) (M.pick [0,1,2,3] aL) ?_ ?_
  ·rintro ⟨nD,i4⟩ a w ⟨K,M⟩ h
   revert a;refine cV 5 ?_;intro w M;exact bP 3 M.oQ
  rintro kk aA ⟨gA,i3⟩ a w hk1 ⟨K,M⟩ h;unfold gB at h;revert a;refine cB 6 h ?_ ?_
  ·intro hb h;obtain ⟨e7,_,h⟩:=aB h;refine aH 13 ?_;intro a K;refine aK (fun w=>Mem _ _ w _) [0,0,0,0,0,0,0,0,0,0,0,0,0,1,0,0,2] aQ aQ M.drew ?_;replace M:=M.drew;revert a;refine aH 8 ?_;obtain ⟨_,h0,h⟩:=aB h;have h0:=dG h0;refine aH 4 ?_;obtain ⟨_,h0,h⟩:=aB h;have h0:=dG h0;refine aH 1 ?_;obtain ⟨r5,qA,h⟩:=aB h;refine rU 0 (IJ qA) ?_;intro w M;obtain ⟨e8,_,h⟩:=aB h;refine aH 2 ?_;obtain ⟨l7,Ao,h⟩:=aB h;refine z7 (fun _ K=>gD (el:=min r5 65535) rfl Pr rfl rfl K rfl rfl rfl 0 M rfl Ao) ?_;intro _ w M;have hl:=jI Ao;intro a K;try rw [hl] at M
   try rw [hl] at K
   clear hl;revert a;exact iG 8 (l7,aC.wrap (i3+1)) (M.pick [0,1,2,3] aL)
  intro hb h;exact jY 3 (hk1 (gA,i3)) (M.pick [0,1,2,3] aL)
theorem Di {p:Prop} (h:p:=by exact eB 9 (((Mem.cC 3 1 (cI .i64) M)).pick [0] aL)):p:=h
theorem R0 {yX yY yZ y6 white:Int} {r:pW} (h:y7 N lE mS iI yX yY yZ y6 white=some r) (xN:SL w0 (cI .i64) kC iI) (zS:iI.length≤kD) :
  lL 248 #[.agg #[I lE,I mS,.slice kC iI.length kD],.agg #[I yX,I yY,I yZ,I y6],I white] w0 (ZT r w0):=by
 refine gE Tryz.func248 Tryz.ntmps248 ?_;intro M;unfold y7 at h;refine eE 2 ?_;intro Ie w M;refine eE 0 ?_;intro aIl w M;refine eE 0 ?_;intro aOY w M;refine eE 0 ?_;intro jM w M;obtain ⟨r2,cR,h⟩:=aB h;refine fP 7 (Mc cR) ?_;intro w M;refine cB 3 h ?_ ?_
 ·intro hb h;refine cV 3 ?_;intro w M;exact eB 5 (((Mem.cC 3 1 (cI .i64) M)).pick [0] aL)
 intro hb h;refine pM 10 0 [3,4,5,6,14] [0,1,2,3] (fun ZL ZM (i:Int) a w=>Kn a 34 ((15,I i)::ZL)∧jL w0 w ZM) (M.pick [0,1,2,3] aL) ?_ ?_
 ·rintro i2 a w ⟨K,M⟩ h
  revert a;obtain ⟨r3,gP,h⟩:=aB h;refine fP 6 (Fo gP) ?_;intro A c w M;refine cV 0 ?_;intro w M;exact eB 4 M.oQ
 rintro kk aA i a w hk1 ⟨K,M⟩ h;unfold oJ at h;revert a;refine cB 6 h ?_ ?_
 ·intro hb h;obtain ⟨e2,Hw,h⟩:=aB h;refine aH 6 ?_;refine jO (fun _ K=>Mq (C:=(cI .i64)) (es:=[yX,yY,yZ,y6]) rfl aFy Hc K rfl rfl rfl Hw rfl) M ?_;refine kJ 8 20 h ?_ ?_
  ·intro hb h;refine cV 14 ?_;intro w M;exact Di
  intro hb h;refine kJ 5 25 h ?_ ?_
  ·intro hb h;refine cV 9 ?_;intro w M;exact Di
  intro hb h;refine cB 5 h ?_ ?_
  ·intro hb h;refine cV 3 ?_;intro w M;exact Di
  intro hb h;exact iG 8 (aC.wrap (i+1)) (M.pick [0,1,2,3] aL)
 intro hb h;exact jY 3 (hk1 i) (M.pick [0,1,2,3] aL)
theorem JR {x2:Int} {r:Int} (h:u6 N aI x2 y=some r) :
  lL 136 #[I aI,I x2,I y] w0 (zO r w0):=by
 refine gE Tryz.func136 Tryz.ntmps136 ?_;intro M;unfold u6 at h;exact bP 21 M.nQ
theorem JS {x2:Int} {r:Int} (h:Am N n x2 y YM YN YO v1=some r) (Aa:kX w0 BC 35 #[I YM,I YN,I YO]) (RZ:kX w0 NJ 3 #[I v1]) :
  lL 253 #[I n,I x2,I y,pQ BC,pQ NJ] w0 (zO r w0):=by
 refine gE Tryz.func253 Tryz.ntmps253 ?_;intro M;unfold Am at h;obtain ⟨r2,cR,h⟩:=aB h;refine fP 11 (JR cR) ?_;intro w M;obtain ⟨_,h0,h⟩:=aB h;have h0:=mQ h0;refine aH 1 ?_;obtain ⟨e,h_e,h⟩:=aB h;refine jO (fun _ K=>qD rfl Hc K rfl (inO Aa) rfl rfl h_e) M ?_;exact bP 6 M.nQ
theorem FJ {Ey Ez EA GC:Int} {R3 R4:Nat} {r:qP} (h:rM N lE mS iI Ey Ez EA GC=some r) (xN:SL w0 (cI .i64) kC iI) (zS:iI.length≤kD) (aIm:kX w0 R3 35 #[I Ey,I Ez,I EA]) (aIn:kX w0 R4 3 #[I GC]) :
  lL 89 #[.agg #[I lE,I mS,.slice kC iI.length kD],.func (.func 253) #[] #[pQ R3,pQ R4]] w0 (aCK r w0):=by
 refine gE Tryz.func89 Tryz.ntmps89 ?_;intro M;unfold rM at h;refine eE 2 ?_;intro Ie w M;refine eE 0 ?_;intro jM w M;refine aH 3 ?_;refine Jr [0,0,0,0,0,0,0,1,0,1,2] 11 [0,1,2,3,4,5,6,7,8,9,10] M ?_;replace M:=M.drew;obtain ⟨x2,hx,h⟩:=cL h;refine aH 6 ?_;refine Ce 6 rfl (fun _ K=>V4 hx (AV rfl RN K rfl)) ?_;refine MX 7 9 ?_ ?_
 ·obtain ⟨l2,z8,h⟩:=aB h;refine rD rfl (fun _ K=>sJ (C:=(cI .i64)) (z:=0) rfl pI rfl z3 rfl K rfl rfl M z8) ?_;rintro _ w ⟨A,c,rfl,M⟩;refine ⟨fun _=>M.toS,?_⟩;refine Ce 8 rfl (fun _ K=>bQ rfl K (vs:=[(0,I lE),(1,I mS),(2,.slice A l2.length c)]) (cs:=[I lE,I mS,.slice A l2.length c]) rfl aQ) ?_;refine nK 9 ?_;refine rD rfl (fun _ K=>Ka M) ?_;rintro _ w ⟨vF,rfl,M⟩;refine ⟨fun _=>M.toS,?_⟩;refine nK 10 ?_;refine D3 rfl (fun _ K=>oO M K 0) ?_;intro _ w M;refine ⟨fun h=>absurd h aL,?_⟩;refine pM 12 0 [1,2,4,5,18,19] [2,3] (fun ZL ZM (⟨cJ,i⟩:gL) a w=>Kn a 43 ((20,I i)::ZL)∧jL w0 w (.blk vF 45 [I lE,I mS,.slice A cJ.length c] :: .row 3 1 A cJ.length c ((cI .i64).all cJ)::ZM)) (M.pick [0,1,2,3] aL) ?_ ?_
  ·rintro ⟨uJ,i2⟩ a w ⟨K,M⟩ h
   revert a;refine cV 5 ?_;intro w M;exact bP 3 (M.pick [1] aL)
  rintro kk aA ⟨cJ,i⟩ a w hk1 ⟨K,M⟩ h;unfold gO at h;revert a;refine cB 6 h ?_ ?_
  ·intro hb h;obtain ⟨e3,_,h⟩:=aB h;refine aH 13 ?_;intro a K;refine aK (fun w=>Mem _ _ w _) [0,0,0,0,0,0,0,0,0,0,0,0,0,1,0,0,2] aQ aQ M.drew ?_;replace M:=M.drew;revert a;refine aH 8 ?_;obtain ⟨_,h0,h⟩:=aB h;have h0:=dG h0;refine aH 4 ?_;obtain ⟨_,h0,h⟩:=aB h;have h0:=dG h0;refine aH 1 ?_;obtain ⟨r3,gP,h⟩:=aB h;refine rU 0 (JS gP) ?_;intro w M;obtain ⟨e4,_,h⟩:=aB h;refine aH 2 ?_;obtain ⟨l4,Cy,h⟩:=aB h;refine z7 (fun _ K=>gD (el:=min r3 65535) rfl Pr rfl rfl K rfl rfl rfl 1 M rfl Cy) ?_;intro _ w M;have hl:=jI Cy;intro a K;try rw [hl] at M
   try rw [hl] at K
   clear hl;revert a;exact iG 8 (l4,aC.wrap (i+1)) (M.pick [0,1,2,3] aL)
  intro hb h;exact jY 3 (hk1 (cJ,i)) (M.pick [0,1,2,3] aL)
 ·refine rD rfl (fun _ K=>Ka M) ?_;rintro _ w ⟨BD,rfl,M⟩;refine ⟨fun _=>M.toS,?_⟩;refine nK 7 ?_;obtain ⟨l5,B9,h⟩:=aB h;refine rD rfl (fun _ K=>sJ (C:=(cI .i64)) (z:=0) rfl pI rfl z3 rfl K rfl rfl M B9) ?_;rintro _ w ⟨A2,c2,rfl,M⟩;refine ⟨fun _=>M.toS,?_⟩;refine Ce 8 rfl (fun _ K=>bQ rfl K (vs:=[(0,I lE),(1,I mS),(2,.slice A2 l5.length c2)]) (cs:=[I lE,I mS,.slice A2 l5.length c2]) rfl aQ) ?_;refine nK 10 ?_;refine D3 rfl (fun _ K=>oO M K 1) ?_;intro _ w M;refine ⟨fun h=>absurd h aL,?_⟩;refine pM 12 0 [1,2,4,5,18,19] [2,3] (fun ZL ZM (⟨gA,i3⟩:gL) a w=>Kn a 43 ((20,I i3)::ZL)∧jL w0 w (.row 3 1 A2 gA.length c2 ((cI .i64).all gA) :: .blk BD 45 [I lE,I mS,.slice A2 gA.length c2]::ZM)) (M.pick [0,1,2,3] aL) ?_ ?_
  ·rintro ⟨nD,i4⟩ a w ⟨K,M⟩ h
   revert a;refine cV 5 ?_;intro w M;exact bP 3 M.oQ
  rintro kk aA ⟨gA,i3⟩ a w hk1 ⟨K,M⟩ h;unfold gO at h;revert a;refine cB 6 h ?_ ?_
  ·intro hb h;obtain ⟨e7,_,h⟩:=aB h;refine aH 13 ?_;intro a K;refine aK (fun w=>Mem _ _ w _) [0,0,0,0,0,0,0,0,0,0,0,0,0,1,0,0,2] aQ aQ M.drew ?_;replace M:=M.drew;revert a;refine aH 8 ?_;obtain ⟨_,h0,h⟩:=aB h;have h0:=dG h0;refine aH 4 ?_;obtain ⟨_,h0,h⟩:=aB h;have h0:=dG h0;refine aH 1 ?_;obtain ⟨r5,qA,h⟩:=aB h;refine rU 0 (JS qA) ?_;intro w M;obtain ⟨e8,_,h⟩:=aB h;refine aH 2 ?_;obtain ⟨l7,Ao,h⟩:=aB h;refine z7 (fun _ K=>gD (el:=min r5 65535) rfl Pr rfl rfl K rfl rfl rfl 0 M rfl Ao) ?_;intro _ w M;have hl:=jI Ao;intro a K;try rw [hl] at M
   try rw [hl] at K
   clear hl;revert a;exact iG 8 (l7,aC.wrap (i3+1)) (M.pick [0,1,2,3] aL)
  intro hb h;exact jY 3 (hk1 (gA,i3)) (M.pick [0,1,2,3] aL)
theorem S2 {Bf Bg Bh:Int} {r:pW} (h:Az N lE mS iI aI Bf Bg Bh=some r) (xN:SL w0 (cI .i64) kC iI) (zS:iI.length≤kD) :
  lL 252 #[.agg #[I lE,I mS,.slice kC iI.length kD],I aI,.agg #[I Bf,I Bg,I Bh]] w0 (ZT r w0):=by
 refine gE Tryz.func252 Tryz.ntmps252 ?_;intro M;unfold Az at h;refine eE 2 ?_;intro Ie w M;refine eE 0 ?_;intro aOZ w M;refine eE 0 ?_;intro aIo w M;refine eE 0 ?_;intro jM w M;obtain ⟨r2,cR,h⟩:=aB h;refine fP 7 (Mc cR) ?_;intro w M;refine cB 3 h ?_ ?_
 ·intro hb h;refine cV 3 ?_;intro w M;exact eB 5 (((Mem.cC 3 1 (cI .i64) M)).pick [0] aL)
 intro hb h;refine pM 10 0 [3,4,5,6,14] [0,1,2,3] (fun ZL ZM (i:Int) a w=>Kn a 37 ((15,I i)::ZL)∧jL w0 w ZM) (M.pick [0,1,2,3] aL) ?_ ?_
 ·rintro i2 a w ⟨K,M⟩ h
  revert a;obtain ⟨r3,gP,h⟩:=aB h;refine fP 6 (FJ gP) ?_;intro A c w M;refine cV 0 ?_;intro w M;exact eB 4 M.oQ
 rintro kk aA i a w hk1 ⟨K,M⟩ h;unfold pO at h;revert a;refine cB 6 h ?_ ?_
 ·intro hb h;obtain ⟨e2,Hw,h⟩:=aB h;refine aH 6 ?_;refine jO (fun _ K=>Mq (C:=(cI .i64)) (es:=[Bf,Bg,Bh]) rfl ZS Hc K rfl rfl rfl Hw rfl) M ?_;refine kJ 8 20 h ?_ ?_
  ·intro hb h;refine cV 17 ?_;intro w M;exact Di
  intro hb h;refine kJ 4 24 h ?_ ?_
  ·intro hb h;refine cV 13 ?_;intro w M;exact Di
  intro hb h;refine kJ 4 28 h ?_ ?_
  ·intro hb h;refine cV 9 ?_;intro w M;exact Di
  intro hb h;refine cB 5 h ?_ ?_
  ·intro hb h;refine cV 3 ?_;intro w M;exact Di
  intro hb h;exact iG 8 (aC.wrap (i+1)) (M.pick [0,1,2,3] aL)
 intro hb h;exact jY 3 (hk1 i) (M.pick [0,1,2,3] aL)
theorem FK {x2:Int} {r:aN} (h:rN N aI x2 y=some r) :
  lL 95 #[I aI,I x2,I y] w0 (aIa r w0):=by
 refine gE Tryz.func95 Tryz.ntmps95 ?_;intro M;unfold rN at h;refine kJ 12 10 h ?_ ?_
 ·intro hb h;exact eB 22 M.nQ
 intro hb h;refine kJ 4 14 h ?_ ?_
 ·intro hb h;exact eB 18 M.nQ
 intro hb h;refine kJ 4 18 h ?_ ?_
 ·intro hb h;exact eB 14 M.nQ
 intro hb h;refine cB 5 h ?_ ?_
 ·intro hb h;exact eB 8 M.nQ
 intro hb h;obtain ⟨r2,cR,h⟩:=aB h;refine fP 9 (JR cR) ?_;intro w M;exact eB 5 M.nQ
end
end
section
open Go.RowKit Go.Shelf
attribute [local go_sem] Oper.semAt_some
abbrev S3 (W H:Int) (q:InP W H):Array Value:=#[.int .i64 q.1.1,.int .i64 q.1.2]
def aBu (L:List Nat) (A B:World):Prop:=∀k∈L,k<A.heap.size→B.heap[k]? = A.heap[k]?
theorem S4 (n:Nat) (hn:1≤n) (W H x y:Int) (A:Option Addr) (m c gp gx gy:Nat) (hW:W≤64) (hH:H≤64) (hx:0≤x∧x<W) (hy:0≤y∧y<H) (w:World)
  (bp:kX w gp 45 #[.int .i64 W,.int .i64 H,.slice A m c]) (bx:kX w gx 3 #[.int .i64 x]) (by_:kX w gy 3 #[.int .i64 y]) :
  SeqStopsK Fence.wide n Tryz.prog 258 #[.pointer (some ⟨gy,0,none⟩),.pointer (some ⟨gp,0,none⟩),.pointer (some ⟨gx,0,none⟩)] (S3 W H) (aBu [gp,gx,gy])
   (fun xs=>xs.map (·.1)=nC W H x y) (fun _=>True) (nC W H x y).length w:=fun l J Jx W0 hb0 hJ hJx hY h0=>by
 have bp0:kX W0 gp 45 #[.int .i64 W,.int .i64 H,.slice A m c]:=bp.below hb0 bp.lt;have bx0:kX W0 gx 3 #[.int .i64 x]:=bx.below hb0 bx.lt;have by0:kX W0 gy 3 #[.int .i64 y]:=by_.below hb0 by_.lt;refine callsIn_of_wp Tryz.func258 rfl trivial ?_ rfl;simp only [Tryz.ntmps258,List.size_toArray,List.length_cons,List.length_nil,Nat.reduceAdd,Nat.reduceSub,Array.replicate_succ,Array.replicate_zero,List.push_toArray,List.append_toArray,List.nil_append,List.cons_append];have cy0:W0.cell? ⟨gy,0,none⟩=some (.int .i64 y):=by0.c1.1;have m1:aC.wrap (y-1)=y-1:=IntWalk.i64_in _ oQ;have m2:aC.wrap (x-1)=x-1:=IntWalk.i64_in _ oQ;have m3:aC.wrap (y+1)=y+1:=IntWalk.i64_in _ oQ;have m4:aC.wrap (x+1)=x+1:=IntWalk.i64_in _ oQ;have hst:∀v:Int,v=max (y-1) 0→∃(pre:List (InP W H)) (k:Nat),pre.map (·.1)++arV W H x y k v=nC W H x y∧y+1-v<k∧0≤v∧v≤64∧J pre W0:=fun v hv=>⟨[],4,by subst hv;rfl,by omega,by omega,by omega,h0⟩
 clear hb0 bp bx by_ h0
 gi_wp2
 all_goals
  gi_loopw [5] (fun a wr=>∃(v:Int) (pre:List (InP W H)) (k:Nat),a = .int .i64 v∧pre.map (·.1)++arV W H x y k v=nC W H x y∧y+1-v<k∧0≤v∧v≤64∧J pre wr ∧
    kX wr gp 45 #[.int .i64 W,.int .i64 H,.slice A m c]∧kX wr gx 3 #[.int .i64 x]∧kX wr gy 3 #[.int .i64 y]) (fun a _=>70-(intOf a).toNat)
  case atStart=>
   obtain ⟨pre,k,h1,h2,h3,h4,h5⟩:=hst _ rfl;exact ⟨max (y-1) 0,pre,k,bZ (Value.int .i64) oQ,h1,h2,h3,h4,h5,bp0,bx0,by0⟩
  case round=>
   obtain ⟨v,pre,k,rfl,h1,h2,h3,h4,hJs,bp1,bx1,by1⟩:=hrel;have cy1:wr.cell? ⟨gy,0,none⟩=some (.int .i64 y):=by1.c1.1;have cx1:wr.cell? ⟨gx,0,none⟩=some (.int .i64 x):=bx1.c1.1;obtain ⟨cp0,cp1,cp2⟩:=bp1.c3;have m5:aC.wrap (v+1)=v+1:=IntWalk.i64_in _ oQ
   by_cases hv:v≤y+1∧v<H
   ·obtain ⟨k,rfl⟩:∃q,k=q+1:=⟨k-1,by omega⟩
    rw [arV,aF hv] at h1;obtain ⟨hv1,hv2⟩:=hv;have aOb:∃(NK:List (InP W H)) (j:Nat),NK.map (·.1)++(arU W x y v j (max (x-1) 0)++arV W H x y k (v+1))=nC W H x y∧x+1-max (x-1) 0<j∧J NK wr:=⟨pre,4,h1,by omega,hJs⟩
    clear h1 hJs hst cy0 bp0 bx0 by0
    gi_wp2
    all_goals
     gi_loopw [6] (fun b wr2=>∃(u:Int) (NK:List (InP W H)) (j:Nat),b = .int .i64 u∧NK.map (·.1)++(arU W x y v j u++arV W H x y k (v+1))=nC W H x y∧x+1-u<j∧0≤u∧u≤64∧J NK wr2 ∧
       kX wr2 gp 45 #[.int .i64 W,.int .i64 H,.slice A m c]∧kX wr2 gx 3 #[.int .i64 x]∧kX wr2 gy 3 #[.int .i64 y]) (fun b _=>70-(intOf b).toNat)
     case atStart=>
      obtain ⟨NK,j,h5,h6,h7⟩:=aOb;exact ⟨max (x-1) 0,NK,j,bZ (Value.int .i64) oQ,h5,h6,by omega,by omega,h7,bp1,bx1,by1⟩
     case round=>
      clear aOb cy1 cx1 cp0 cp1 cp2 bp1 bx1 by1;obtain ⟨u,NK,j,rfl,h5,h6,h7,h8,hJ2,bp2,bx2,by2⟩:=hrel;have cy2:=by2.c1.1;have cx2:=bx2.c1.1;obtain ⟨cp0,cp1,cp2⟩:=bp2.c3;have m6:aC.wrap (u+1)=u+1:=IntWalk.i64_in _ oQ
      by_cases hu:u≤x+1∧u<W
      ·obtain ⟨j,rfl⟩:∃q,j=q+1:=⟨j-1,by omega⟩
       rw [arU,aF hu] at h5;obtain ⟨hu1,hu2⟩:=hu
       by_cases hne:u≠x∨v≠y
       ·rw [aF hne] at h5;have gK:NK.length<(nC W H x y).length:=by rw [←h5];simp
        obtain ⟨fn,tmps,assign,body,hyl,hR⟩:=hY NK ⟨(u,v),h7,hu2,h3,hv2⟩ _ hJ2 gK;dsimp only [S3] at hyl;have h5':(NK++[(⟨(u,v),h7,hu2,h3,hv2⟩:InP W H)]).map (·.1)++(arU W x y v j (u+1)++arV W H x y k (v+1))=nC W H x y:=by rw [←h5];simp
        clear h5 hJ2
        by_cases hux:u=x
        ·have hvy:¬v=y:=oQ
         subst hux
         gi_wp2
         all_goals
          refine hR.mono ?_;rintro e W3 (⟨rfl,hJ3,hk3⟩|⟨rfl,hJx3⟩)
          ·have bp3:kX W3 gp 45 _:=(hk3 gp sQ bp2.lt).trans bp2;have bx3:kX W3 gx 3 _:=(hk3 gx sQ bx2.lt).trans bx2;have by3:kX W3 gy 3 _:=(hk3 gy sQ by2.lt).trans by2;clear cy2 cx2 cp0 cp1 cp2 bp2 bx2 by2 hk3
           gi_wp2
           refine ⟨⟨_,_,j,rfl,h5',by omega,by omega,by omega,hJ3,bp3,bx3,by3⟩,by simp [intOf];omega⟩
          ·gi_wp2
           refine bodyPost_ret (results_none rfl _ _ _) rfl ?_;exact ⟨⟨_,rfl⟩,.inr ⟨_,trivial,hJx3⟩⟩
        ·gi_wp2
         all_goals
          refine hR.mono ?_;rintro e W3 (⟨rfl,hJ3,hk3⟩|⟨rfl,hJx3⟩)
          ·have bp3:kX W3 gp 45 _:=(hk3 gp sQ bp2.lt).trans bp2;have bx3:kX W3 gx 3 _:=(hk3 gx sQ bx2.lt).trans bx2;have by3:kX W3 gy 3 _:=(hk3 gy sQ by2.lt).trans by2;clear cy2 cx2 cp0 cp1 cp2 bp2 bx2 by2 hk3
           gi_wp2
           refine ⟨⟨_,_,j,rfl,h5',by omega,by omega,by omega,hJ3,bp3,bx3,by3⟩,by simp [intOf];omega⟩
          ·gi_wp2
           refine bodyPost_ret (results_none rfl _ _ _) rfl ?_;exact ⟨⟨_,rfl⟩,.inr ⟨_,trivial,hJx3⟩⟩
       ·rw [aE hne] at h5;obtain ⟨rfl,rfl⟩:u=x∧v=y:=oQ
        gi_wp2
        all_goals
         refine ⟨fun _ h=>(by cases h),?_⟩
         gi_wp2
         refine ⟨⟨_,NK,j,rfl,h5,by omega,by omega,by omega,hJ2,bp2,bx2,by2⟩,by simp [intOf];omega⟩
      ·have hend:NK.map (·.1)++arV W H x y k (v+1)=nC W H x y:=by
        cases j with
        | zero=>simpa [arU] using h5
        | succ j=>rw [arU,aE hu] at h5;simpa using h5
       clear h5
       gi_wp2
       all_goals exact ⟨⟨_,NK,k,rfl,hend,by omega,by omega,by omega,hJ2,bp2,bx2,by2⟩,by simp [intOf];omega⟩
   ·have hend:pre.map (·.1)=nC W H x y:=by
     cases k with
     | zero=>simpa [arV] using h1
     | succ k=>rw [arV,aE hv] at h1;simpa using h1
    clear h1
    gi_wp2
    all_goals
     go_end0
     exact ⟨⟨_,rfl⟩,.inl ⟨pre,hend,hJs⟩⟩
end
section
open Go.RowKit
section
variable {P:Program} {ops:Array Oper} {Q:Exit→Act→World→Prop} {a:Act} {w:World} {o:Oper} {lp n:Nat}
def Qr (ops:Array Oper):Bool:=ops.all fun o=>match o.op with | .defer _=>false|_=>true
theorem aOc {row:String} {args:Array Value} {R:Value→World→Prop} (h:Rows P row args w R):RowsIn (Fence.wide.inRound lp) n P row args w R:=
 fun c cs _=>let ⟨v,w',r,s⟩:=h c cs;⟨v,w',r,stepsIn_wide.2 s⟩
theorem aLG (hnd:∀c,o.op≠.defer c) {nx nx':Act→World→Prop} (hn:∀a w,nx a w→nx' a w) (h:o.wp P a w nx Q):o.wpIn (Fence.wide.inRound lp) n P a w nx' Q:=by
 refine ⟨fun f _=>trivial,?_⟩;have hs:Oper.semAt (Fence.wide.inRound lp).round a.eval o=execOp a.eval o:=Oper.semAt_some lp _ _ hnd;rw [hs];unfold Oper.wp at h
 generalize (execOp a.eval o).run P w=res at h
 have hd:∀k:Nat,(Fence.wide.inRound lp).depth.isSome=true→1≤k:=fun _ h=>by simp [Fence.wide] at h
 match res,h with
 | .ok (.value v) w',h=>exact hn _ _ h
 | .ok .skip w',h=>exact hn _ _ h
 | .ok (.defer d) w',h=>exact hn _ _ h
 | .ok (.enter f args) w',h=>
  refine ⟨hd _,CallsIn.inRound lp (callsIn_wide.2 (Calls.mono h ?_))⟩;intro e w'' he;cases e with
  | returned v=>exact hn _ _ he
  | panicked c=>exact he
  | outgrown=>exact he
 | .ok (.row row args) w',h=>
  refine ⟨hd _,?_⟩;have:=aOc (lp:=lp) (n:=n-1) h;exact this.mono fun v w'' hv=>hn _ _ hv
 | .halt (.panic v) w',h=>exact h
 | .ok (.round ..) w',h=>exact h.elim
theorem NL (hnd:∀(i:Nat) (o:Oper),ops[i]? = some o→∀c,o.op≠.defer c) (hq:¬LetsOut Q):∀(l:List Nat) (a:Act) (w:World),wpOps P ops Q l a w→wpOpsIn (Fence.wide.inRound lp) n P ops Q l a w
 | [],a,w,h=>h
 | i::rest,a,w,h=>by
  unfold wpOps at h;unfold wpOpsIn;cases ho:ops[i]? with
  | none=>simp only [ho] at h ⊢;exact NL hnd hq rest a w h
  | some o=>
   simp only [ho] at h ⊢
   by_cases hw:Region.wanted o (yielded ops a.tmps)=true
   ·rw [aF hw] at h ⊢
    rcases h with h|⟨_,h⟩
    ·exact aLG (hnd i o ho) (fun a w h=>NL hnd hq rest a w h) h
    ·exact absurd h hq
   ·rw [aE hw] at h ⊢;exact ⟨fun f _=>trivial,NL hnd hq rest _ w h⟩
theorem NM {ops:Array Oper} (h:Qr ops=true) (i:Nat) (o:Oper) (ho:ops[i]? = some o):∀c,o.op≠.defer c:=by
 intro c e;unfold Qr at h;obtain ⟨hi,he⟩:=Array.getElem?_eq_some_iff.1 ho;have:=Array.all_eq_true.1 h i hi;rw [he,e] at this;cases this
theorem O7 {id:Nat} {ol:List Oper} (hnd:Qr ol.toArray=true) (hq:¬LetsOut Q) (h:wpList P ol.toArray Q ol a w):(Code.region id ol.toArray false).wpIn (Fence.wide.inRound lp) n P Q a w:=by
 refine wpIn_region (NL (NM hnd) hq _ a w ?_);have:=wpOps_eq_wpList (P:=P) (ops:=ol.toArray) (Q:=Q) ol 0 sQ;rw [List.range_eq_range',show ol.toArray.size=ol.length by simp,this];exact h
theorem VW {id:Nat} {l:List Oper} (S:World→Prop) (f:List Nat) (hm:P.follows .mixedOrders=true) (hok:Wd l.toArray (jZ f) (dM f)=true) (hnd:Qr l.toArray=true) (hq:¬LetsOut Q)
  (hS:S w.drew) (h:pV P l.toArray S (Q .normal) (marked f l) a w.drew):(Code.region id l.toArray true).wpIn (Fence.wide.inRound lp) n P Q a w:=by
 refine wpIn_region_draw fun t=>NL (NM hnd) hq _ a _ ?_
 simp only [Region.schedule,hm,Bool.true_or,if_true];refine wpAny_sound l.toArray.size t _ a _ ?_;have h2:=Mk (ops:=l.toArray) (jZ f) (dM f) (marked f l) 0 a w.drew (fun j x hj=>by simpa using Ml f l j x hj) h;rw [Mm] at h2;have h3:Ol P l.toArray S (jZ f) (dM f) (Q .normal) (gS l.toArray.size) a w.drew:=by simpa [List.range_eq_range'] using h2
 have Mj:mP l.toArray (Array.replicate l.toArray.size false)=gS l.toArray.size:=by
  unfold mP;refine List.filter_eq_self.2 fun i hi=>?_
  have:=List.mem_range.1 hi
  simp at this
  simp [this]
 refine Pe hok l.toArray.size (Array.replicate l.toArray.size false) a _ sQ ?_ (by rw [Mj];simp) (fun _ _ _=>hS) (by rw [Mj];exact h3);intro i hi;rw [BH] at hi;cases hi
theorem PQ {α:Type} {C:Ah α} {W0 W:World} {L:List mM} {A:Option Addr} {xs:List α} (hb:Below W0.heap.size W0 W) (h:SL W0 C A xs):∀w,Mem W0.heap.size W w L→SL w C A xs:=fun _ M=>h.below (hb.trans M.low)
theorem Mem.back {b:Nat} {W V w:World} {L L':List mM} (M:Mem b W V L) (M':Mem b V w L'):Mem b W w L':=⟨M.low.trans M'.low,M.UH.trans M'.UH,M.bs,M'.has,M'.up,M'.one⟩
theorem aIp (o:Obj):aGb o=o.isCells:=by cases o <;> rfl
theorem Mem.others {b:Nat} {W w:World} {L:List mM} (M:Mem b W w L):KeepsOthers W w:=⟨M.low.size,fun k o hk ho=>M.UH k o hk (by rw [aIp];exact ho)⟩
theorem Qs {L L':List mM} (hf:L'.map mM.foot=L.map mM.foot) {i:Nat} {e:mM} (h:L'[i]? = some e):∃e0,L[i]? = some e0∧e0.foot=e.foot:=by
 have h1:(L'.map mM.foot)[i]? = some e.foot:=by rw [List.getElem?_map,h];rfl
 rw [hf,List.getElem?_map,Option.map_eq_some_iff] at h1;exact h1
theorem Mem.round {b:Nat} {W w V:World} {L L':List mM} (M:Mem b W w L) (hf:L'.map mM.foot=L.map mM.foot) (hb:Below b W V) (has:∀(i:Nat) (e:mM),L'[i]? = some e→mM.holds V e):Mem b V V L':=
  ⟨Below.refl _ _,Dy.refl _,Nat.le_trans M.bs hb.size,has,
   fun i e g h hg=>by obtain ⟨e0,h0,h1⟩:=Qs hf h;exact M.up i e0 g h0 (h1.trans hg),
   fun i j e e' g h h' hg hg'=>by
     obtain ⟨e0,h0,h1⟩:=Qs hf h
     obtain ⟨e0',h0',h1'⟩:=Qs hf h'
     exact M.one i j e0 e0' g h0 h0' (h1.trans hg) (h1'.trans hg')⟩
theorem aCN {β:Type} {b B:Nat} {W w:World} (f:β→List mM) {L:List mM} (M:Mem b W w L) (hB:w.heap.size=B) (hf:∀s,(f s).map mM.foot=L.map mM.foot) :
  OwnFrom B (fun (s:β) V=>Below b W V∧∀(i:Nat) (e:mM),(f s)[i]? = some e→mM.holds V e):=fun s V V' row hs hg hr=>by
 obtain ⟨h1,h2⟩:=hs;refine ⟨h1.grown hg (Nat.le_trans M.bs h1.size) (fun k hk=>by have:=(hr k hk).1;have:=M.sz;omega),fun i e h=>mM.keep (h2 i e h) fun g hg'=>hg.block g ?_ fun e2=>?_⟩
 ·exact mM.lt (h2 i e h) hg'
 ·have h3:=(hr g e2.symm).1;obtain ⟨e0,h0,h1'⟩:=Qs (hf s) h;have:=M.Mp i e0 g h0 (h1'.trans hg')
  omega
theorem Kd.ps2 {D:List Deferred} {N:Nat} {l:List (Nat×Value)} {i j:Nat} {u v:Value} (K:Kd D a N l) (hi:Nat.blt i N=true) (hj:Nat.blt j N=true) :
  Kn { tmps:=(#[i,j].zip #[u,v]).foldl (fun t (p,v)=>t.setIfInBounds p v) a.tmps,defers:=[] } N ((j,v)::(i,u)::l):=by
 have h1:=(K.put (d:=some i) (by simpa [Tt] using hi) u).put (d:=some j) (by simpa [Tt] using hj) v;have e:(#[i,j].zip #[u,v]).foldl (fun t (p,v)=>t.setIfInBounds p v) a.tmps=((a.put (some i) u).put (some j) v).tmps:=by simp [Act.put]
 exact ⟨rfl,by show Array.size _=N;rw [e];exact h1.size,fun s v hs=>by show Array.getD _ s undef=v;rw [e];exact h1.get s v hs⟩
theorem Kd.mark {N:Nat} {l:List (Nat×Value)} (K:Kn a N l) (d:Deferred):Kd [d] { a with defers:=d::a.defers } N l:=⟨by show d::a.defers=[d];rw [K.defs],K.size,K.get⟩
theorem aJp {ol:List Oper} {x:Operand} (ho:o.op = .assign x) (hg:o.guard=none) (h:wpList P ops Q ol (a.put o.dst (a.eval x)) w):wpList P ops Q (o::ol) a w:=by
 have hw:Region.wanted o (yielded ops a.tmps)=true:=by simp [Region.wanted,hg]
 simp only [wpList,hw,if_true];refine .inl ?_;show o.upon P a _ Q ((execOp a.eval o).run P w);have:(execOp a.eval o).run P w = .ok (.value (a.eval x)) w:=by unfold execOp;simp [ho]
 rw [this];exact h
theorem aOd {fn:Func} {Rp:Ending→World→Prop} {D N:Nat} {l:List (Nat×Value)} {r1:ResultVar} {v1:Value} (K:Kd [{ target:=.collected D,args:=#[] }] a N l) (hK:w.heap[D]? = some (.deferred (some []))) (hr:fn.results = #[r1])
  (h1:Ch P a (w.putObj D (.deferred none)) r1 v1) (h:Rp (.returned v1) (w.putObj D (.deferred none))):bodyPostM Fence.wide n P fn Rp .ret a w:=by
 show LeavesInM Fence.wide n P fn a.tmps Rp a.defers .returning w;rw [K.defs];refine ⟨by simp,.inl ⟨_,_,rfl,run_takeDeferred hK,?_⟩⟩;refine ⟨v1,?_,h⟩;unfold Ch at h1;rw [AX,hr];simp [h1]
theorem Mem.aPS {b:Nat} {W w:World} {L:List mM} (M:Mem b W w L) {D:Nat} (hb:b≤D) (hK:w.heap[D]? = some (.deferred (some []))) {i g:Nat} {t:TypeId} {cs:List Value} (h:L[i]? = some (.blk g t cs)):kX (w.putObj D (.deferred none)) g t cs.toArray:=by
 have hne:g≠D:=fun e=>by
  have h1:w.heap[g]? = some (.cells cs.toArray t):=M.gQ h;rw [e,hK] at h1;cases h1
 exact (World.putObj_heap_other hne).trans (M.gQ h)
theorem ZX {b:Nat} {W w:World} (h:Below b W w) {D:Nat} (hb:b≤D) (o:Obj):Below b W (w.putObj D o):=
 ⟨h.os,h.tape,h.output,by simpa using h.size,fun k hk=>(World.putObj_heap_other oQ).trans (h.block k hk)⟩
theorem Mem.fin {W w:World} (h:Below W.heap.size W w):Mem W.heap.size W w []:=⟨h,Dy.below h,pK _,fun i e he=>by simp at he,fun i e g he=>by simp at he,fun i j e e' g he=>by simp at he⟩
theorem XO {fn:Func} {code:Code} {fid:FuncId} {args:Array Value} {N:Nat} {Rp:Ending→World→Prop} (hf:P.funcs[fid]? = some fn) (hb:fn.body=some code) (hN:fn.ntmps=N) (hs:Nat.ble args.size N=true)
  (h:∀a,Kn a N (L3 0 args.toList)→code.wp P (bodyPostM Fence.wide 3 P fn Rp) a w):Calls P fid args w Rp:=by
 refine callsIn_wide.1 (callsIn_of_wp_marks (n:=3) hf hb trivial (wpIn_wide.2 ?_) rfl);rw [hN];exact h _ (Kd.start args N hs)
theorem ZY {f:FuncId} (hf:Ej P f=true) (args:Array Value) (w:World):(callFunc f args).run P w = .ok (.enter f args) w:=by
 unfold Ej at hf
 split at hf
 ·rename_i fn hfn
  simp only [o9,bne_iff_ne,ne_eq] at hf;obtain ⟨b,hb⟩:=Option.isSome_iff_exists.1 hf.1
  simp [callFunc,hfn,hb,hf.2]
 ·cases hf
theorem XP {L:List Nat} {A B C:World} (h1:aBu L A B) (h2:aBu L B C):aBu L A C:=fun k hk hlt=>by
 have e:=h1 k hk hlt
 have hB:k<B.heap.size:=by
  have hA:A.heap[k]? = some A.heap[k]:=Array.getElem?_eq_getElem hlt;rw [hA] at e;exact (Array.getElem?_eq_some_iff.1 e).1
 exact (h2 k hk hB).trans e
theorem Kd.aPT {D:List Deferred} {N:Nat} {l:List (Nat×Value)} {x1 x2:Operand} {d1 d2:Nat} {v1 v2:Value} (K:Kd D a N l) (h1:jH l x1=some v1) (hd1:Nat.blt d1 N=true) (h2:jH ((d1,v1)::l) x2=some v2) (hd2:Nat.blt d2 N=true) :
  Kd D ((a.put (some d1) (a.eval x1)).put (some d2) ((a.put (some d1) (a.eval x1)).eval x2)) N ((d2,v2)::(d1,v1)::l):=by
 have K1:=K.put (d:=some d1) (by simpa [Tt] using hd1) v1;rw [K.ev h1];have K2:=K1.put (d:=some d2) (by simpa [Tt] using hd2) v2;have e:(a.put (some d1) v1).eval x2=v2:=K1.ev h2;rw [e];exact K2
end
theorem VX:∀xs:List Int,(cI .i64).all xs=VI xs
 | []=>rfl
 | x::xs=>by
  have:=VX xs;simp only [Ah.all,VI,List.flatMap_cons,List.map_cons] at this ⊢;rw [this];rfl
theorem aFN {w:World} {A:Option Addr} {xs:List Int} (h:SL w (cI .i64) A xs):RI w 0 A xs.length xs:=by
 refine ⟨by simp [VI],fun hn=>?_⟩;obtain ⟨b,o,hA,hc⟩:=h hn;have hall:=VX xs;rw [hall] at hc;refine ⟨b,o,hA,Nat.zero_le _,?_,hc⟩;have h0:(VI xs)[0]? = some (.int .i64 xs[0]):=by simp [VI,f9 hn]
 exact block_lt_of_cell (hc 0 _ h0)
theorem aFO {w:World} {A:Option Addr} {l:List aN} (h:SL w jG A l):RS w 0 A l.length l:=by
 refine ⟨rfl,fun hn=>?_⟩;obtain ⟨b,o,hA,hc⟩:=h hn
 have key:∀(k:Nat) x y,l[k]? = some (x,y)→(jG.all l)[k*2]? = some (.int .i64 x)∧(jG.all l)[k*2+1]? = some (.int .i64 y):=fun k x y hk=>by
  exact ⟨by simpa [jG] using Ah.Dz jG l k 0 (x,y) _ hk rfl,Ah.Dz jG l k 1 (x,y) _ hk rfl⟩
 have h0:=(key 0 l[0].1 l[0].2 (f9 hn)).1;refine ⟨b,o,hA,Nat.zero_le _,block_lt_of_cell (hc _ _ h0),fun k x y hk=>?_⟩;obtain ⟨h1,h2⟩:=key k x y hk;exact ⟨hc _ _ h1,by have:=hc _ _ h2;rwa [←Nat.add_assoc] at this⟩
theorem Mem.aPW {w w':World} {A:Option Addr} {n c:Nat} {xs:List Int} (hb:Below w.heap.size w w') (h:OI w' w.heap.size A n c xs) (hn:n≤maxLen):Mem w.heap.size w w' [.row 3 1 A xs.length c ((cI .i64).all xs)]:=by
 obtain ⟨g,rfl,rfl,hg,hl,hB⟩:=h;have hall:=VX xs
 have M1:Mem w.heap.size w w' [.blk g 3 (VI xs)]:=by
  refine (Mem.aGn hb).cons hB fun g' hg'=>?_
  simp [mM.foot] at hg'
  subst hg';exact ⟨hg,fun i e h=>by simp at h⟩
 exact M1.fX 0 rfl (cI .i64) xs hall hl rfl hn
theorem Aq (N:Nat) (lE mS:Int) (iI:List Int) (kC:Option Addr) (kD:Nat) (l:List aN) (A_l:Option Addr) (c_l:Nat) (w0:World) (xN:SL w0 (cI .i64) kC iI) (zS:iI.length≤kD) (R_l:SL w0 jG A_l l) (C_l:l.length≤c_l) (r:pW) (h:iL N lE mS iI l=some r) :
  Calls Tryz.prog 40 #[.agg #[.int .i64 lE,.int .i64 mS,.slice kC iI.length kD],.slice A_l l.length c_l] w0 fun e w'=>∃v,e = .returned v∧∃A2 c2,v = .tuple #[.agg #[.int .i64 r.1,.int .i64 r.2.1,.slice A2 r.2.2.1.length c2],.int .i64 r.2.2.2]∧Mem w0.heap.size w0 w' [.row 3 1 A2 r.2.2.1.length c2 ((cI .i64).all r.2.2.1)]:=by
 unfold iL at h
 split at h
 ·cases h
 rename_i hn
 have hn':iI.length≤maxLen:=by simp only [maxLen];omega
 have no:∀{w':World} (k:Int),Below w0.heap.size w0 w'→∃v,Ending.returned (.tuple #[NN,.int .i64 k])=Ending.returned v∧∃A2 c2,v = .tuple #[.agg #[.int .i64 (0:Int),.int .i64 (0:Int),.slice A2 ([]:List Int).length c2],.int .i64 k]∧Mem w0.heap.size w0 w' [.row 3 1 A2 ([]:List Int).length c2 ((cI .i64).all [])]:=
  fun k hb=>⟨_,rfl,none,0,rfl,Mem.cC 3 1 (cI .i64) (Mem.aGn hb)⟩
 split at h
 ·rename_i hf
  cases h;refine (XT lE mS kC A_l iI.length kD l.length c_l iI l w0 (aFN xN) (aFO R_l) hn' hf).mono ?_;rintro e w' ⟨rfl,hb⟩;exact no 1 hb
 rename_i hf
 have hf':dK lE mS iI=true:=by simpa using hf
 split at h
 ·rename_i hm
  cases h;refine (XU lE mS kC A_l iI.length kD l.length c_l iI l w0 (aFN xN) (aFO R_l) hn' hf' hm).mono ?_;rintro e w' ⟨rfl,hb⟩;exact no 2 hb
 rename_i hm
 obtain ⟨⟨h1,h2,h3,h4⟩,_,_⟩:=sI.1 hf';obtain ⟨m,rfl⟩:∃m:Nat,lE=m:=⟨lE.toNat,by omega⟩
 have hr:=XV mS kC A_l iI.length kD l.length c_l iI l w0 m (aFN xN) (aFO R_l) hn' hf' oQ;refine hr.mono ?_;intro e w' hp;unfold yE at hp
 split at h
 ·rename_i ha
  cases h;rw [aE (by simp [ha])] at hp;obtain ⟨rfl,hb⟩:=hp;exact no 3 hb
 ·rename_i ha
  cases h;rw [aF (by simpa using ha)] at hp;obtain ⟨A',c',rfl,⟨_,ho⟩,hb⟩:=hp;have hl:((gS iI.length).map (uX (m:Int) mS l iI)).length=iI.length:=by simp
  refine ⟨_,rfl,A',c',by rw [hl],Mem.aPW hb ho hn'⟩
end
end Go.Proofs.YtpmnfhifmmfgladGreatDoor
