/- Texts of the claim ShotAlike, joined and made small by a program. -/
import Derived.LoopIn
import Derived.LoopNIn
import Derived.OwnWalkIn
import Derived.RangeFuncBound
import Derived.RangeFuncCalls
import Derived.RangeFuncFrom
import Derived.RangeFuncLeaves
import Derived.RangeFuncNested
import Derived.Shelf.Abstract
import Derived.Shelf.RegionOpen
import Derived.TacticsInMore
import Derived.Test.YtpmnfhifmmfglabGreatDoorRows
import Derived.WalkKit
import Derived.Test.YtpmnfhifmmfglabGreatDoorShotAlikeK1
import Derived.Test.YtpmnfhifmmfglabGreatDoorShotAlikeK3
import Derived.Test.YtpmnfhifmmfglabGreatDoorShotAlikeK4
import Derived.Test.YtpmnfhifmmfglabGreatDoorShotAlikeK5
import Derived.Test.YtpmnfhifmmfglabGreatDoorShotAlikeK8
import Derived.Test.YtpmnfhifmmfglabGreatDoorShotAlikeK9
set_option linter.unusedVariables false
set_option linter.unusedSimpArgs false
set_option linter.unusedSectionVars false
set_option maxRecDepth 100000
set_option maxHeartbeats 8000000
namespace Go.Proofs.YtpmnfhifmmfglabGreatDoor
section
open Go.RowKit
theorem EF {N:Nat} {lens:List Int} {Rz:Option Addr} {RA:Nat} {w0:World} {r:Int} (h:sS N lens=some r) (Xv:SL w0 (cI .i64) Rz lens) (aFY:lens.length≤RA) :
  Calls Tryz.prog 56 #[.slice Rz lens.length RA] w0 fun e w'=>∃v,e = .returned v∧v=I r∧Mem w0.heap.size w0 w' []:=by
 refine gE Tryz.func56 Tryz.ntmps56 ?_;intro M;unfold sS at h;refine lG 12 9 h ?_ ?_
 ·intro hb h;exact cB 14 (M.pick [] aD)
 intro hb h;refine d7 6 h ?_ ?_
 ·intro hb h;exact cB 7 (M.pick [] aD)
 intro hb h;refine tI 16 0 (fun (⟨room,i⟩:Int × Int) a w=>Kn a 40 [(3,I room),(14,.slice Rz lens.length RA),(15,I (lens.length:Int)),(16,I i)]∧Mem w0.heap.size w0 w []) M.nQ ?_ ?_
 ·clear M h;rintro ⟨L3,i2⟩ a w ⟨K,M⟩ h;try dsimp only at h
  revert a;refine lG 8 36 h ?_ ?_
  ·intro hb h;exact cB 13 (M.pick [] aD)
  intro hb h;refine d7 5 h ?_ ?_
  ·intro hb h;exact cB 7 (M.pick [] aD)
  intro hb h;exact cB 8 (M.pick [] aD)
 clear M h;rintro kk fuel ⟨room,i⟩ a w hk1 ⟨K,M⟩ h;unfold oM at h;revert a;refine d7 6 h ?_ ?_
 ·intro hb h;obtain ⟨e2,kL,h⟩:=aB h;refine aK 6 ?_;refine aR (fun _ K=>hZ rfl fM K rfl rfl (dH Xv) kL) M ?_;refine aR (fun _ K=>gO rfl jK K rfl rfl (dH Xv) kL rfl) M ?_;refine lG 9 22 h ?_ ?_
  ·intro hb h;exact cB 18 (M.pick [] aD)
  intro hb h;refine d7 5 h ?_ ?_
  ·intro hb h;exact cB 12 (M.pick [] aD)
  intro hb h;refine d7 8 h ?_ ?_
  ·intro hb h;obtain ⟨_,h0,h⟩:=aB h;have h0:=oY h0;refine aK 4 ?_;refine aR (fun _ K=>rY rfl K rfl rfl h0) M ?_;obtain ⟨Vr,hx,h⟩:=jU h;refine zI 1 hx ?_;exact nS 8 (Vr,IntKind.i64.wrap (i+1)) M.nQ
  intro hb h;exact nS 8 (room,IntKind.i64.wrap (i+1)) M.nQ
 intro hb h;exact oB 3 (hk1 (room,i)) M.nQ
theorem KY {N:Nat} {a2 b:Int} {v0:List Int} {PB:Option Addr} {PC p7:Nat} {w0:World} {r:Int} (h:uS N a2 b v0=some r) (KZ:SL w0 (cI .i64) PB v0) (Xw:v0.length≤PC) (tC:g9 w0 p7 36 #[.slice PB v0.length PC]) :
  Calls Tryz.prog 125 #[I a2,I b,.pointer (some ⟨p7,0,none⟩)] w0 fun e w'=>∃v,e = .returned v∧v=I r∧Mem w0.heap.size w0 w' []:=by
 refine gE Tryz.func125 Tryz.ntmps125 ?_;intro M;unfold uS at h;refine aK 6 ?_;intro a K;refine aN (fun w=>Mem _ _ w _) [0,0,0,0,0,0,0,0,1,0] aG aG M.drew ?_;replace M:=M.drew;revert a;obtain ⟨e,JH,h⟩:=aB h;refine aK 2 ?_;refine gI (fun _ K=>fO rfl fM K rfl rfl ((dH KZ) _ M) JH) ?_;refine gI (fun _ K=>gO rfl jK K rfl rfl (dH KZ) JH rfl) ?_;obtain ⟨e2,kL,h⟩:=aB h;refine aK 2 ?_;refine gI (fun _ K=>fO rfl fM K rfl rfl ((dH KZ) _ M) kL) ?_;refine gI (fun _ K=>gO rfl jK K rfl rfl (dH KZ) kL rfl) ?_;obtain ⟨r2,dM,h⟩:=aB h;intro a K;refine uJ K (pN Xf K (HT dM)) ?_;clear K;rintro _ a w ⟨rfl,Zq⟩ K;replace M:=M.call Zq;clear Zq;refine ⟨M.pick [] aD,?_⟩;revert a;exact cB 4 (M.pick [] aD)
theorem HU {N:Nat} {d:List Int} {N0:Option Addr} {N1:Nat} {w0:World} {r:List (List UInt8) × Int} (h:qT N d=some r) (Gl:SL w0 (cI .i64) N0 d) (C_d:d.length≤N1) :
  Calls Tryz.prog 103 #[.slice N0 d.length N1] w0 fun e w'=>∃v,e = .returned v∧∃A0 c0,v = .tuple #[.slice A0 r.1.length c0,I r.2]∧Mem w0.heap.size w0 w' [.row 9 1 A0 r.1.length c0 (cS.all r.1)]:=by
 refine gE Tryz.func103 Tryz.ntmps103 ?_;intro M;unfold qT at h;refine gJ 2 ?_;intro N3 w M;obtain ⟨r2,dM,h⟩:=aB h;refine j1 8 (EF dM ((dH Gl) _ M) C_d) ?_;intro w M;refine d7 9 h ?_ ?_
 ·intro hb h;exact bZ 9 (((Mem.aF 9 1 cS M)).pick [0] aD)
 intro hb h;refine aK 16 ?_;replace M:=Mem.aF 3 1 (cI .i64) M;refine tI 0 0 (fun (⟨l3,i⟩:List Int × Int) a w=>∃(A2:Option Addr) (c2:Nat),Kn a 74 [(1,.pointer (some ⟨N3,0,none⟩)),(5,.slice A2 l3.length c2),(19,.slice N0 d.length N1),(20,I (d.length:Int)),(21,I i)]∧Mem w0.heap.size w0 w [.row 3 1 A2 l3.length c2 ((cI .i64).all l3),.blk N3 36 [.slice N0 d.length N1]]) (M.pick [0,1] aD) ?_ ?_
 ·clear M h;rintro ⟨l6,i2⟩ a w ⟨A5,c5,K,M⟩ h;try dsimp only at h
  revert a;refine aK 6 ?_;intro a K;refine Ai (vs:=[.slice A5 l6.length c5,.func (.func 125) #[] #[.pointer (some ⟨N3,0,none⟩)]]) (cap:=[]) K (aA rfl) rfl rfl rfl Xd rfl rfl ?_;clear K;refine hU Tryz.func124 rfl Tryz.ntmps124 rfl ?_;refine aK 5 ?_;intro a K;refine Ai (vs:=[.slice A5 l6.length c5,I (l6.length:Int),.func (.func 125) #[] #[.pointer (some ⟨N3,0,none⟩)]]) (cap:=[]) K (aA rfl) rfl rfl rfl Xh rfl rfl ?_;clear K;refine hU Tryz.func143 rfl Tryz.ntmps143 rfl ?_;refine aK 14 ?_;intro a K;refine Dh 1 ?_;refine iG ?_;revert a;refine d7 8 h ?_ ?_
  ·intro hb h;intro a K;cases h
  intro hb h;refine aK 11 ?_;intro a K;refine Ai (vs:=[.slice A5 l6.length c5,I 0,I (l6.length:Int),.func (.func 125) #[] #[.pointer (some ⟨N3,0,none⟩)]]) (cap:=[]) K (aA rfl) rfl rfl rfl Xi rfl rfl ?_;clear K;refine hU Tryz.func160 rfl Tryz.ntmps160 rfl ?_;obtain ⟨i3,hx,h⟩:=jU h;refine zI 4 hx ?_;refine tI 3 0 (fun (⟨l7,b,i4⟩:List Int × Int × Int) a w=>Kn a 53 [(0,.slice A5 l7.length c5),(1,I 0),(2,I b),(3,.func (.func 125) #[] #[.pointer (some ⟨N3,0,none⟩)]),(8,I i4)]∧Mem w0.heap.size w0 w [.row 3 1 A5 l7.length c5 ((cI .i64).all l7),.blk N3 36 [.slice N0 d.length N1]]) (M.pick [0,1] aD) ?_ ?_
  ·clear M h;rintro ⟨I9,b2,i7⟩ a w ⟨K,M⟩ h;try dsimp only at h
   revert a;refine aK 1 ?_;intro a K;refine wG ?_;refine DI K rfl ⟨_,rfl,?_⟩;clear K;intro a K;obtain ⟨_,h0,h⟩:=aB h;have h0:=GB h0;try rw [h0] at K
   try rw [h0] at M
   revert a;refine aK 3 ?_;intro a K;refine Dh 1 ?_;refine iG ?_;revert a;refine d7 8 h ?_ ?_
   ·intro hb h;intro a K;cases h
   intro hb h;refine aK 4 ?_;intro a K;refine wG ?_;refine DI K rfl ⟨_,rfl,?_⟩;clear K;intro a K;obtain ⟨_,h0,h⟩:=aB h;have h0:=GB h0;try rw [h0] at K
   try rw [h0] at M
   revert a;refine aK 1 ?_;intro a K;refine wG ?_;refine DI K rfl ⟨_,rfl,?_⟩;clear K;intro a K;obtain ⟨_,h0,h⟩:=aB h;have h0:=GB h0;try rw [h0] at K
   try rw [h0] at M
   revert a;obtain ⟨x2,hx,h⟩:=jU h;refine aK 5 ?_;refine aR (fun _ K=>P6 hx (uO rfl LE K rfl)) M ?_;obtain ⟨l24,aEj,h⟩:=aB h;intro a K;refine jE K (nV (C:=cS) (z:=([]:List UInt8)) rfl FE rfl z9 rfl K rfl rfl M aEj) ?_;clear K M;rintro _ a w ⟨A6,c6,rfl,M⟩ K;revert a;refine tI 17 2 (fun (⟨YG,i8,i9⟩:List (List UInt8) × Int × Int) a w=>Kn a 74 [(1,.pointer (some ⟨N3,0,none⟩)),(8,.slice A6 YG.length c6),(9,I i8),(39,.slice A5 I9.length c5),(40,I (I9.length:Int)),(41,I i9)]∧Mem w0.heap.size w0 w [.row 9 1 A6 YG.length c6 (cS.all YG),.row 3 1 A5 I9.length c5 ((cI .i64).all I9),.blk N3 36 [.slice N0 d.length N1]]) (M.pick [0,1,2] aD) ?_ ?_
   ·clear M h;rintro ⟨l28,Fp,i11⟩ a w ⟨K,M⟩ h;try dsimp only at h
    revert a;exact bZ 10 (M.pick [0] aD)
   clear M h;rintro kk fuel ⟨YG,i8,i9⟩ a w hk4 ⟨K,M⟩ h;unfold mJ at h;revert a;refine d7 6 h ?_ ?_
   ·intro hb h;obtain ⟨e33,aAU,h⟩:=aB h;refine aK 6 ?_;refine aR (fun _ K=>hZ rfl fM K rfl rfl (gY (C:=(cI .i64)) 1 rfl rfl) aAU) M ?_;refine aR (fun _ K=>gO rfl jK K rfl rfl (gY (C:=(cI .i64)) 1 rfl rfl) aAU rfl) M ?_;refine aK 4 ?_;intro a K;refine aN (fun w=>Mem _ _ w _) [0,0,0,0,0,0,0,0,0,0,0,1,0,0,0,0,0] aG aG M.drew ?_;replace M:=M.drew;revert a;obtain ⟨e34,aAV,h⟩:=aB h;refine aK 3 ?_;refine gI (fun _ K=>fO rfl fM K rfl rfl ((dH Gl) _ M) aAV) ?_;refine gI (fun _ K=>gO rfl jK K rfl rfl (dH Gl) aAV rfl) ?_;obtain ⟨_,h0,h⟩:=aB h;have h0:=oY h0;refine aK 1 ?_;refine gI (fun _ K=>oL rfl K rfl rfl h0) ?_;obtain ⟨e35,aAW,h⟩:=aB h;refine aK 2 ?_;refine gI (fun _ K=>fO rfl fM K rfl rfl ((dH Gl) _ M) aAW) ?_;refine gI (fun _ K=>gO rfl jK K rfl rfl (dH Gl) aAW rfl) ?_;obtain ⟨r7,Dj,h⟩:=aB h;intro a K;refine uJ K (pN Xb K (wW Dj)) ?_;clear K;rintro _ a w ⟨rfl,Zq⟩ K;replace M:=M.call Zq;clear Zq;refine ⟨M.pick [0,1,2] aD,?_⟩;revert a;obtain ⟨e36,aEk,h⟩:=aB h;refine aK 12 ?_;refine aR (fun _ K=>hZ rfl FE K rfl rfl (gY (C:=cS) 0 rfl rfl) aEk) M ?_;obtain ⟨l27,aAX,h⟩:=aB h;intro a K;refine sO K (gG (el:=r7.1) rfl sz9 rfl rfl K rfl rfl rfl 0 M rfl aAX) ?_;have M0:=M;clear K M;rintro _ a w M K;have hl:=iE aAX;try rw [hl] at M
    try rw [hl] at K
    clear hl;clear M0;revert a;obtain ⟨e37,aAY,h⟩:=aB h;refine aK 6 ?_;refine aR (fun _ K=>hZ rfl fM K rfl rfl (dH Gl) aAY) M ?_;refine aR (fun _ K=>gO rfl jK K rfl rfl (dH Gl) aAY rfl) M ?_;obtain ⟨_,h0,h⟩:=aB h;have h0:=oY h0;refine aK 1 ?_;refine aR (fun _ K=>rY rfl K rfl rfl h0) M ?_;obtain ⟨x4,hx,h⟩:=jU h;refine zI 1 hx ?_;exact nS 8 (l27,x4,IntKind.i64.wrap (i9+1)) (M.pick [0,1,2] aD)
   intro hb h;exact oB 3 (hk4 (YG,i8,i9)) (M.pick [0,1,2] aD)
  clear M h;rintro kk fuel ⟨l7,b,i4⟩ a w hk2 ⟨K,M⟩ h;unfold lI at h;revert a;refine d7 8 h ?_ ?_
  ·intro hb h;refine tI 11 2 (fun (⟨Qq,j4⟩:List Int × Int) a w=>Kn a 53 [(0,.slice A5 Qq.length c5),(1,I 0),(2,I b),(3,.func (.func 125) #[] #[.pointer (some ⟨N3,0,none⟩)]),(8,I i4),(9,I j4)]∧Mem w0.heap.size w0 w [.row 3 1 A5 Qq.length c5 ((cI .i64).all Qq),.blk N3 36 [.slice N0 d.length N1]]) (M.pick [0,1] aD) ?_ ?_
   ·clear M h;rintro ⟨l22,j9⟩ a w ⟨K,M⟩ h;try dsimp only at h
    revert a;obtain ⟨i6,hx,h⟩:=jU h;refine zI 6 hx ?_;exact nS 2 (l22,b,i6) (M.pick [0,1] aD)
   clear M h;rintro kk fuel ⟨Qq,j4⟩ a w hk3 ⟨K,M⟩ h;unfold qK at h;revert a;refine aK 2 ?_;intro a K;refine aN (fun w=>Mem _ _ w _) [0,0,0,0,0,0,0,0,0,0,0,0,0,0,1,0,0] aG aG M.drew ?_;replace M:=M.drew;revert a;refine lG 4 21 h ?_ ?_
   ·intro hb h;obtain ⟨e20,aAZ,h⟩:=aB h;refine aK 3 ?_;refine gI (fun _ K=>fO rfl fM K rfl rfl ((gY (C:=(cI .i64)) 0 rfl rfl) _ M) aAZ) ?_;refine gI (fun _ K=>gO rfl jK K rfl rfl (gY (C:=(cI .i64)) 0 rfl rfl) aAZ rfl) ?_;obtain ⟨e21,aA0,h⟩:=aB h;refine aK 3 ?_;refine gI (fun _ K=>fO rfl fM K rfl rfl ((gY (C:=(cI .i64)) 0 rfl rfl) _ M) aA0) ?_;refine gI (fun _ K=>gO rfl jK K rfl rfl (gY (C:=(cI .i64)) 0 rfl rfl) aA0 rfl) ?_;obtain ⟨r5,t7,h⟩:=aB h;intro a K;refine uJ K (dX (vs:=[I e20,I e21]) (cap:=[.pointer (some ⟨N3,0,none⟩)]) rfl Xe K rfl rfl (KY t7 ((dH Gl) _ M) C_d (M.aL (i:=1) rfl))) ?_;clear K;rintro _ a w ⟨rfl,Zq⟩ K;replace M:=M.call Zq;clear Zq;refine ⟨M.pick [0,1] aD,?_⟩;revert a;refine d7 4 h ?_ ?_
    ·intro hb h;refine aK 4 ?_;intro a K;refine jZ (fun w=>Mem _ _ w _) [0,0,0,0,0,0,0,0,0,1,0,0,0,1,0,1,0,2] 18 [0,1,2,3,4,5,6,7,8,9,10,11,12,13,14,15,16,17] aG aG aG rfl (M.pick [1] aD).drew ?_;replace M:=M.drew;revert a;obtain ⟨e22,Xx,h⟩:=aB h;refine aK 8 ?_;intro a K;refine fB 8 [9,10,11,12,13,14,15,16,17] aG rfl K (aA rfl) rfl rfl (fO rfl fM K rfl rfl ((gY (C:=(cI .i64)) 0 rfl rfl) _ M) Xx) ?_;clear K;intro a K;refine fB 10 [9,11,12,13,14,15,16,17] aG rfl K (aA rfl) rfl rfl (gC rfl K rfl) ?_;clear K;intro a K;refine fB 11 [9,12,13,14,15,16,17] aG rfl K (aA rfl) rfl rfl (gC rfl K rfl) ?_;clear K;intro a K;obtain ⟨e23,Xy,h⟩:=aB h;refine fB 12 [9,13,14,15,16,17] aG rfl K (aA rfl) rfl rfl (fO rfl fM K rfl rfl ((gY (C:=(cI .i64)) 0 rfl rfl) _ M) Xy) ?_;clear K;intro a K;refine eI [9,13] aG ⟨?_,?_,trivial⟩
     ·refine EQ [13,14,15,16,17] aG rfl K (aA rfl) rfl rfl (gO rfl jK K rfl rfl (gY (C:=(cI .i64)) 0 rfl rfl) Xx rfl) M ?_;clear K;intro a K;refine ⟨fun _=>M.pick [1] aD,?_⟩;refine eI [13] aG ⟨?_,trivial⟩;refine EQ [14,15,16,17] aG rfl K (aA rfl) rfl rfl (gO rfl jK K rfl rfl (gY (C:=(cI .i64)) 0 rfl rfl) Xy rfl) M ?_;clear K;intro a K;refine ⟨fun _=>M.pick [1] aD,?_⟩;obtain ⟨e24,aEl,h⟩:=aB h;refine fB 14 [15,16,17] aG rfl K (aA rfl) rfl rfl (fO rfl fM K rfl rfl ((gY (C:=(cI .i64)) 0 rfl rfl) _ M) aEl) ?_;clear K;intro a K;refine eI [15] aG ⟨?_,trivial⟩;obtain ⟨l18,aA1,h⟩:=aB h;refine qW [16,17] aG rfl K (aA rfl) rfl (gG (el:=e22) rfl Ci rfl rfl K rfl rfl rfl 0 M rfl aA1) ?_;have M0:=M;clear K M;rintro _ a w M K;have hl:=iE aA1;try rw [hl] at M
      try rw [hl] at K
      clear hl;clear M0;refine ⟨fun _=>M.pick [1] aD,?_⟩;obtain ⟨e25,aEm,h⟩:=aB h;refine fB 16 [17] aG rfl K (aA rfl) rfl rfl (fO rfl fM K rfl rfl ((gY (C:=(cI .i64)) 0 rfl rfl) _ M) aEm) ?_;clear K;intro a K;refine eI [17] aG ⟨?_,trivial⟩;obtain ⟨l19,aA2,h⟩:=aB h;refine qW [] aG rfl K (aA rfl) rfl (gG (el:=e23) rfl Ci rfl rfl K rfl rfl rfl 0 M rfl aA2) ?_;have M0:=M;clear K M;rintro _ a w M K;have hl:=iE aA2;try rw [hl] at M
      try rw [hl] at K
      clear hl;clear M0;refine ⟨fun h=>absurd h aD,?_⟩;revert a;obtain ⟨j7,hx,h⟩:=jU h;refine zI 6 hx ?_;exact nS 2 (l19,j7) (M.pick [0,1] aD)
     ·refine EQ [9,14,15,16,17] aG rfl K (aA rfl) rfl rfl (gO rfl jK K rfl rfl (gY (C:=(cI .i64)) 0 rfl rfl) Xy rfl) M ?_;clear K;intro a K;refine ⟨fun _=>M.pick [1] aD,?_⟩;refine eI [9] aG ⟨?_,trivial⟩;refine EQ [14,15,16,17] aG rfl K (aA rfl) rfl rfl (gO rfl jK K rfl rfl (gY (C:=(cI .i64)) 0 rfl rfl) Xx rfl) M ?_;clear K;intro a K;refine ⟨fun _=>M.pick [1] aD,?_⟩;obtain ⟨e26,aEn,h⟩:=aB h;refine fB 14 [15,16,17] aG rfl K (aA rfl) rfl rfl (fO rfl fM K rfl rfl ((gY (C:=(cI .i64)) 0 rfl rfl) _ M) aEn) ?_;clear K;intro a K;refine eI [15] aG ⟨?_,trivial⟩;obtain ⟨l20,aA3,h⟩:=aB h;refine qW [16,17] aG rfl K (aA rfl) rfl (gG (el:=e22) rfl Ci rfl rfl K rfl rfl rfl 0 M rfl aA3) ?_;have M0:=M;clear K M;rintro _ a w M K;have hl:=iE aA3;try rw [hl] at M
      try rw [hl] at K
      clear hl;clear M0;refine ⟨fun _=>M.pick [1] aD,?_⟩;obtain ⟨e27,aEo,h⟩:=aB h;refine fB 16 [17] aG rfl K (aA rfl) rfl rfl (fO rfl fM K rfl rfl ((gY (C:=(cI .i64)) 0 rfl rfl) _ M) aEo) ?_;clear K;intro a K;refine eI [17] aG ⟨?_,trivial⟩;obtain ⟨l21,aA4,h⟩:=aB h;refine qW [] aG rfl K (aA rfl) rfl (gG (el:=e23) rfl Ci rfl rfl K rfl rfl rfl 0 M rfl aA4) ?_;have M0:=M;clear K M;rintro _ a w M K;have hl:=iE aA4;try rw [hl] at M
      try rw [hl] at K
      clear hl;clear M0;refine ⟨fun h=>absurd h aD,?_⟩;revert a;obtain ⟨j8,hx,h⟩:=jU h;refine zI 6 hx ?_;exact nS 2 (l21,j8) (M.pick [0,1] aD)
    intro hb h;exact oB 3 (hk3 (Qq,j4)) (M.pick [0,1] aD)
   intro hb h;refine aK 10 ?_;intro a K;refine oU K (K.no rfl rfl rfl rfl) rfl rfl (M.pick [0,1] aD) ?_;clear K;intro a K;revert a;exact oB 8 (hk3 (Qq,j4)) (M.pick [0,1] aD)
  intro hb h;exact oB 3 (hk2 (l7,b,i4)) (M.pick [0,1] aD)
 clear M h;rintro kk fuel ⟨l3,i⟩ a w hk1 ⟨A2,c2,K,M⟩ h;unfold oP at h;revert a;refine d7 6 h ?_ ?_
 ·intro hb h;obtain ⟨e3,lY,h⟩:=aB h;refine aK 7 ?_;refine aR (fun _ K=>hZ rfl fM K rfl rfl (dH Gl) lY) M ?_;refine aR (fun _ K=>gO rfl jK K rfl rfl (dH Gl) lY rfl) M ?_;refine d7 10 h ?_ ?_
  ·intro hb h;refine aK 3 ?_;intro a K;refine jE K (cA rfl fM z3 K (vs:=[(0,I i)]) (cs:=[I i]) rfl aG rfl rfl M) ?_;have M0:=M;clear K M;rintro _ a w ⟨gs3,rfl,M⟩ K;replace M:=M.jM 0 rfl (cI .i64) ([i]:List Int) (n:=1) rfl rfl rfl;clear M0;obtain ⟨l5,xV,h⟩:=aB h;refine jE K (kA (C:=(cI .i64)) (xs:=l3) (ys:=([i]:List Int)) rfl fM rfl z3 rfl rfl K rfl rfl 1 M rfl ((gY (C:=(cI .i64)) 0 rfl rfl) _ M) xV) ?_;clear K M;rintro _ a w ⟨A4,c4,rfl,M⟩ K;revert a;exact nS 9 (l5,IntKind.i64.wrap (i+1)) (M.pick [1,2] aD)
  intro hb h;exact nS 8 (l3,IntKind.i64.wrap (i+1)) (M.pick [0,1] aD)
 intro hb h;exact oB 3 (hk1 (l3,i)) (M.pick [0,1] aD)
theorem PD {N:Nat} {d:List Int} {N0:Option Addr} {N1:Nat} {o:List UInt8} {p2:Int} {w0:World} {r:List Int × List UInt8 × Int} (h:uT N d o p2=some r) (Gl:SL w0 (cI .i64) N0 d) (C_d:d.length≤N1) :
  Calls Tryz.prog 114 #[.slice N0 d.length N1,.string (bs o),I p2] w0 fun e w'=>∃v,e = .returned v∧∃A0 c0,v = .tuple #[.slice A0 r.1.length c0,.string (bs r.2.1),I r.2.2]∧Mem w0.heap.size w0 w' [.row 3 1 A0 r.1.length c0 ((cI .i64).all r.1)]:=by
 refine gE Tryz.func114 Tryz.ntmps114 ?_;intro M;unfold uT at h;obtain ⟨r2,dM,h⟩:=aB h;refine j1 10 (HU dM ((dH Gl) _ M) C_d) ?_;intro A c w M;refine d7 14 h ?_ ?_
 ·intro hb h;exact HI 10 (((Mem.aF 3 1 (cI .i64) M)).pick [0] aD)
 intro hb h;refine lG 8 29 h ?_ ?_
 ·intro hb h;exact HI 15 (((Mem.aF 3 1 (cI .i64) M)).pick [0] aD)
 intro hb h;refine d7 5 h ?_ ?_
 ·intro hb h;exact HI 9 (((Mem.aF 3 1 (cI .i64) M)).pick [0] aD)
 intro hb h;obtain ⟨r3,jI,h⟩:=aB h;refine j1 6 (HM jI) ?_;intro w M;refine d7 13 h ?_ ?_
 ·intro hb h;exact HI 9 (((Mem.aF 3 1 (cI .i64) M)).pick [0] aD)
 intro hb h;refine aK 5 ?_;intro a K;refine Ai (vs:=[.slice A r2.1.length c]) (cap:=[]) K (aA rfl) rfl rfl rfl Xg rfl rfl ?_;clear K;refine hU Tryz.func136 rfl Tryz.ntmps136 rfl ?_;refine aK 7 ?_;intro a K;refine jE K (Rr rfl 9 3 M) ?_;clear K M;rintro _ a w ⟨gm,rfl,M⟩ K;revert a;refine tI 12 0 (fun (⟨m,i⟩:List (List UInt8 × Int) × Int) a w=>Kn a 44 [(3,.map (some gm)),(10,.slice A r2.1.length c),(11,I (r2.1.length:Int)),(12,I i)]∧Mem w0.heap.size w0 w [.Ol Tryz.prog 9 3 gm m,.row 9 1 A r2.1.length c (cS.all r2.1)]) (M.pick [0,1] aD) ?_ ?_
 ·clear M h;rintro ⟨m10,i5⟩ a w ⟨K,M⟩ h;try dsimp only at h
  revert a;refine aK 9 ?_;intro a K;refine qC K rfl (dC K rfl) ⟨_,rfl,?_⟩;clear K;intro a K;revert a;refine aK 10 ?_;replace M:=Mem.aF 3 1 (cI .i64) M;refine tI 0 0 (fun (⟨l3,o2⟩:List Int × List UInt8) a w=>∃(A3:Option Addr) (c3:Nat),Kn a 79 [(1,.string (bs o2)),(2,I p2),(13,.map (some gm)),(14,.slice A3 l3.length c3)]∧Mem w0.heap.size w0 w [.row 3 1 A3 l3.length c3 ((cI .i64).all l3),.Ol Tryz.prog 9 3 gm m10]) (M.pick [0,1] aD) ?_ ?_
  ·clear M h;rintro ⟨l6,o3⟩ a w ⟨A6,c6,K,M⟩ h;try dsimp only at h
   revert a;exact HI 12 (M.pick [0] aD)
  clear M h;rintro kk fuel ⟨l3,o2⟩ a w hk3 ⟨A3,c3,K,M⟩ h;unfold oC at h;revert a;refine d7 9 h ?_ ?_
  ·intro hb h;refine tI 11 2 (fun (⟨Fp,i11⟩:Int × Int) a w=>Kn a 79 [(1,.string (bs o2)),(2,I p2),(13,.map (some gm)),(14,.slice A3 l3.length c3),(15,I Fp),(16,I i11)]∧Mem w0.heap.size w0 w [.row 3 1 A3 l3.length c3 ((cI .i64).all l3),.Ol Tryz.prog 9 3 gm m10]) (M.pick [0,1] aD) ?_ ?_
   ·clear M h;rintro ⟨i12,P7⟩ a w ⟨K,M⟩ h;try dsimp only at h
    revert a;refine aK 6 ?_;intro a K;refine jE K (cA rfl fM z3 K (vs:=[(0,I P7)]) (cs:=[I P7]) rfl aG rfl rfl M) ?_;have M0:=M;clear K M;rintro _ a w ⟨gs3,rfl,M⟩ K;replace M:=M.jM 0 rfl (cI .i64) ([P7]:List Int) (n:=1) rfl rfl rfl;clear M0;obtain ⟨l5,xV,h⟩:=aB h;refine jE K (kA (C:=(cI .i64)) (xs:=l3) (ys:=([P7]:List Int)) rfl fM rfl z3 rfl rfl K rfl rfl 1 M rfl ((gY (C:=(cI .i64)) 0 rfl rfl) _ M) xV) ?_;clear K M;rintro _ a w ⟨A5,c5,rfl,M⟩ K;revert a;obtain ⟨s13,aEp,h⟩:=aB h;refine aK 6 ?_;refine aR (fun _ K=>iY (k:=.i64) (k':=.i64) rfl rS K rfl rfl rfl aEp) M ?_;exact nS 4 (l5,s13) (M.pick [1,2] aD)
   clear M h;rintro kk fuel ⟨Fp,i11⟩ a w hk4 ⟨K,M⟩ h;unfold jO at h;revert a;refine d7 7 h ?_ ?_
   ·intro hb h;obtain ⟨s12,Xz,h⟩:=aB h;refine aK 8 ?_;refine aR (fun _ K=>iY (k:=.i64) (k':=.i64) rfl rS K rfl rfl rfl Xz) M ?_;obtain ⟨q7,aAi,h⟩:=aB h;refine aR (fun _ K=>S5 rfl Te rS ik3 zi3 K rfl rfl (inS 1 rfl) aAi) M ?_;refine d7 15 h ?_ ?_
    ·intro hb h;exact HI 17 (((Mem.aF 3 1 (cI .i64) M)).pick [0] aD)
    intro hb h;refine d7 7 h ?_ ?_
    ·intro hb h;exact nS 7 (Fp,q7.1) (M.pick [0,1] aD)
    intro hb h;refine aK 4 ?_;refine aR (fun _ K=>j0 rfl rS K rfl) M ?_;refine d7 4 h ?_ ?_
    ·intro hb h;exact HI 17 (((Mem.aF 3 1 (cI .i64) M)).pick [0] aD)
    intro hb h;obtain ⟨x5,hx,h⟩:=jU h;refine zI 3 hx ?_;exact nS 4 (x5,i11) (M.pick [0,1] aD)
   intro hb h;exact oB 3 (hk4 (Fp,i11)) (M.pick [0,1] aD)
  intro hb h;exact oB 3 (hk3 (l3,o2)) (M.pick [0,1] aD)
 clear M h;rintro kk fuel ⟨m,i⟩ a w hk1 ⟨K,M⟩ h;unfold pU at h;revert a;refine d7 6 h ?_ ?_
 ·intro hb h;obtain ⟨e2,kL,h⟩:=aB h;refine aK 7 ?_;refine aR (fun _ K=>hZ rfl FE K rfl rfl (gY (C:=cS) 1 rfl rfl) kL) M ?_;refine aR (fun _ K=>gO rfl Qh K rfl rfl (gY (C:=cS) 1 rfl rfl) kL rfl) M ?_;refine aK 8 ?_;refine aR (fun _ K=>j0 rfl rS K rfl) M ?_;refine tI 4 2 (fun (⟨m5,i3⟩:List (List UInt8 × Int) × Int) a w=>Kn a 44 [(3,.map (some gm)),(10,.slice A r2.1.length c),(11,I (r2.1.length:Int)),(12,I i),(4,I i),(5,.string (bs e2)),(18,I (e2.length:Int)),(19,I i3)]∧Mem w0.heap.size w0 w [.Ol Tryz.prog 9 3 gm m5,.row 9 1 A r2.1.length c (cS.all r2.1)]) (M.pick [0,1] aD) ?_ ?_
  ·clear M h;rintro ⟨m8,i4⟩ a w ⟨K,M⟩ h;try dsimp only at h
   revert a;refine aK 5 ?_;refine aR (fun _ K=>FY rfl K rfl rfl) M ?_;refine d7 2 h ?_ ?_
   ·intro hb h;obtain ⟨m9,aFZ,h⟩:=aB h;refine aK 4 ?_;intro a K;refine sO K (ME rfl Te rS ik3 K rfl rfl rfl 0 M rfl aFZ) ?_;clear K M;rintro _ a w M K;revert a;exact nS 8 (m9,IntKind.i64.wrap (i+1)) (M.pick [0,1] aD)
   intro hb h;exact nS 8 (m8,IntKind.i64.wrap (i+1)) (M.pick [0,1] aD)
  clear M h;rintro kk fuel ⟨m5,i3⟩ a w hk2 ⟨K,M⟩ h;unfold pT at h;revert a;refine d7 6 h ?_ ?_
  ·intro hb h;obtain ⟨s5,XA,h⟩:=aB h;refine aK 15 ?_;refine aR (fun _ K=>iY (k:=.i64) (k':=.i64) rfl rS K rfl rfl rfl XA) M ?_;obtain ⟨q3,aAj,h⟩:=aB h;refine aR (fun _ K=>S5 rfl Te rS ik3 zi3 K rfl rfl (inS 0 rfl) aAj) M ?_;refine d7 13 h ?_ ?_
   ·intro hb h;obtain ⟨s6,XB,h⟩:=aB h;refine aK 4 ?_;refine aR (fun _ K=>iY (k:=.i64) (k':=.i64) rfl rS K rfl rfl rfl XB) M ?_;obtain ⟨m7,aF0,h⟩:=aB h;intro a K;refine sO K (ME rfl Te rS ik3 K rfl rfl rfl 0 M rfl aF0) ?_;clear K M;rintro _ a w M K;revert a;exact nS 8 (m7,IntKind.i64.wrap (i3+1)) (M.pick [0,1] aD)
   intro hb h;exact nS 8 (m5,IntKind.i64.wrap (i3+1)) (M.pick [0,1] aD)
  intro hb h;exact oB 3 (hk2 (m5,i3)) (M.pick [0,1] aD)
 intro hb h;exact oB 3 (hk1 (m,i)) (M.pick [0,1] aD)
theorem HW {N:Nat} {x2:Int} {w0:World} {r:Int} (h:zD N x2=some r) :
  Calls Tryz.prog 128 #[.int .u64 x2] w0 fun e w'=>∃v,e = .returned v∧v=I r∧Mem w0.heap.size w0 w' []:=by
 refine gE Tryz.func128 Tryz.ntmps128 ?_;intro M;unfold zD at h;refine d7 12 h ?_ ?_
 ·intro hb h;refine aK 3 ?_;refine aR (fun _ K=>oL rfl K rfl rfl aD) M ?_;obtain ⟨x3,hx,h⟩:=jU h;refine zI 0 hx ?_;refine d7 13 h ?_ ?_
  ·intro hb h;refine aK 3 ?_;refine aR (fun _ K=>oL rfl K rfl rfl aD) M ?_;obtain ⟨x4,hx,h⟩:=jU h;refine zI 0 hx ?_;obtain ⟨n,hx,h⟩:=jU h;refine zI 5 hx ?_;refine d7 9 h ?_ ?_
   ·intro hb h;refine aK 3 ?_;refine aR (fun _ K=>oL rfl K rfl rfl aD) M ?_;obtain ⟨x5,hx,h⟩:=jU h;refine zI 0 hx ?_;obtain ⟨n2,hx,h⟩:=jU h;refine zI 5 hx ?_;obtain ⟨b,h_b,h⟩:=aB h;refine aK 7 ?_;refine aR (fun _ K=>sL rfl rS K rfl rfl h_b) M ?_;obtain ⟨n3,hx,h⟩:=jU h;refine zI 2 hx ?_;exact cB 3 (M.pick [] aD)
   intro hb h;obtain ⟨b2,Xu,h⟩:=aB h;refine aK 7 ?_;refine aR (fun _ K=>sL rfl rS K rfl rfl Xu) M ?_;obtain ⟨n4,hx,h⟩:=jU h;refine zI 2 hx ?_;exact cB 3 (M.pick [] aD)
  intro hb h;refine d7 9 h ?_ ?_
  ·intro hb h;refine aK 3 ?_;refine aR (fun _ K=>oL rfl K rfl rfl aD) M ?_;obtain ⟨x6,hx,h⟩:=jU h;refine zI 0 hx ?_;obtain ⟨n5,hx,h⟩:=jU h;refine zI 5 hx ?_;obtain ⟨b3,NY,h⟩:=aB h;refine aK 7 ?_;refine aR (fun _ K=>sL rfl rS K rfl rfl NY) M ?_;obtain ⟨n6,hx,h⟩:=jU h;refine zI 2 hx ?_;exact cB 3 (M.pick [] aD)
  intro hb h;obtain ⟨b4,aCO,h⟩:=aB h;refine aK 7 ?_;refine aR (fun _ K=>sL rfl rS K rfl rfl aCO) M ?_;obtain ⟨n7,hx,h⟩:=jU h;refine zI 2 hx ?_;exact cB 3 (M.pick [] aD)
 intro hb h;refine d7 9 h ?_ ?_
 ·intro hb h;refine aK 3 ?_;refine aR (fun _ K=>oL rfl K rfl rfl aD) M ?_;obtain ⟨x7,hx,h⟩:=jU h;refine zI 0 hx ?_;obtain ⟨n8,hx,h⟩:=jU h;refine zI 5 hx ?_;refine d7 9 h ?_ ?_
  ·intro hb h;refine aK 3 ?_;refine aR (fun _ K=>oL rfl K rfl rfl aD) M ?_;obtain ⟨x8,hx,h⟩:=jU h;refine zI 0 hx ?_;obtain ⟨n9,hx,h⟩:=jU h;refine zI 5 hx ?_;obtain ⟨b5,aF1,h⟩:=aB h;refine aK 7 ?_;refine aR (fun _ K=>sL rfl rS K rfl rfl aF1) M ?_;obtain ⟨n10,hx,h⟩:=jU h;refine zI 2 hx ?_;exact cB 3 (M.pick [] aD)
  intro hb h;obtain ⟨b6,aCP,h⟩:=aB h;refine aK 7 ?_;refine aR (fun _ K=>sL rfl rS K rfl rfl aCP) M ?_;obtain ⟨n11,hx,h⟩:=jU h;refine zI 2 hx ?_;exact cB 3 (M.pick [] aD)
 intro hb h;refine d7 9 h ?_ ?_
 ·intro hb h;refine aK 3 ?_;refine aR (fun _ K=>oL rfl K rfl rfl aD) M ?_;obtain ⟨x9,hx,h⟩:=jU h;refine zI 0 hx ?_;obtain ⟨n12,hx,h⟩:=jU h;refine zI 5 hx ?_;obtain ⟨b7,RB,h⟩:=aB h;refine aK 7 ?_;refine aR (fun _ K=>sL rfl rS K rfl rfl RB) M ?_;obtain ⟨n13,hx,h⟩:=jU h;refine zI 2 hx ?_;exact cB 3 (M.pick [] aD)
 intro hb h;obtain ⟨b8,RC,h⟩:=aB h;refine aK 7 ?_;refine aR (fun _ K=>sL rfl rS K rfl rfl RC) M ?_;obtain ⟨n14,hx,h⟩:=jU h;refine zI 2 hx ?_;exact cB 3 (M.pick [] aD)
theorem ET {N:Nat} {x2:Int} {w0:World} {r:Int} (h:w6 N x2=some r) :
  Calls Tryz.prog 104 #[.int .u64 x2] w0 fun e w'=>∃v,e = .returned v∧v=I r∧Mem w0.heap.size w0 w' []:=by
 refine gE Tryz.func104 Tryz.ntmps104 ?_;intro M;unfold w6 at h;obtain ⟨r2,dM,h⟩:=aB h;refine j1 12 (HW dM) ?_;intro w M;exact cB 4 (M.pick [] aD)
end
section
open Go.RowKit Go.Shelf
theorem GT (N:Nat) (s substr:List UInt8) (w0:World) (r:Bool) (h:pS N s substr=some r) :
  Calls Tryz.prog 93 #[.string (bs s),.string (bs substr)] w0 fun e w'=>∃v,e = .returned v∧v = .bool r∧Mem w0.heap.size w0 w' []:=by
 unfold pS at h
 split at h
 ·rename_i c
  cases h;refine (Any.strings_Contains_one aAf (bs s) c w0).mono ?_;rintro e w' ⟨rfl,rfl⟩;exact ⟨_,rfl,rfl,Mem.start w'⟩
 ·cases h
end
section
open Go.RowKit
theorem zJ {N:Nat} {jD mO:Int} {kT:List Int} {kY:Option Addr} {kZ:Nat} {o p2:Int} {w0:World} {r:Int} (h:nY N jD mO kT o p2=some r) (mT:SL w0 (cI .i64) kY kT) (Gm:kT.length≤kZ) :
  Calls Tryz.prog 92 #[.agg #[I jD,I mO,.slice kY kT.length kZ],I o,I p2] w0 fun e w'=>∃v,e = .returned v∧v=I r∧Mem w0.heap.size w0 w' []:=by
 refine gE Tryz.func92 Tryz.ntmps92 ?_;intro M;unfold nY at h;refine gJ 2 ?_;intro dB w M;refine UF 4 ?_;replace M:=M.drew;obtain ⟨_,h0,h⟩:=aB h;have h0:=d6 h0;refine aK 3 ?_;refine gI (fun _ K=>qA rfl K rfl rfl h0) ?_;obtain ⟨_,h0,h⟩:=aB h;have h0:=d6 h0;refine aK 3 ?_;refine gI (fun _ K=>j5 rfl K rfl rfl h0) ?_;refine d7 13 h ?_ ?_
 ·intro hb h;exact cB 8 (M.pick [] aD)
 intro hb h;refine d7 7 h ?_ ?_
 ·intro hb h;obtain ⟨e,JH,h⟩:=aB h;refine aK 6 ?_;refine aR (fun _ K=>hZ rfl fM K rfl rfl (dH mT) JH) M ?_;refine aR (fun _ K=>gO rfl jK K rfl rfl (dH mT) JH rfl) M ?_;exact cB 6 (M.pick [] aD)
 intro hb h;refine d7 7 h ?_ ?_
 ·intro hb h;obtain ⟨e2,kL,h⟩:=aB h;refine aK 8 ?_;refine aR (fun _ K=>hZ rfl fM K rfl rfl (dH mT) kL) M ?_;refine aR (fun _ K=>gO rfl jK K rfl rfl (dH mT) kL rfl) M ?_;exact cB 6 (M.pick [] aD)
 intro hb h;refine UF 4 ?_;replace M:=M.drew;obtain ⟨e3,lY,h⟩:=aB h;refine aK 4 ?_;refine gI (fun _ K=>fO rfl fM K rfl rfl ((dH mT) _ M) lY) ?_;refine gI (fun _ K=>gO rfl jK K rfl rfl (dH mT) lY rfl) ?_;obtain ⟨e4,t6,h⟩:=aB h;refine aK 6 ?_;refine gI (fun _ K=>fO rfl fM K rfl rfl ((dH mT) _ M) t6) ?_;refine gI (fun _ K=>gO rfl jK K rfl rfl (dH mT) t6 rfl) ?_;obtain ⟨e5,RD,h⟩:=aB h;refine aK 7 ?_;refine gI (fun _ K=>fO rfl fM K rfl rfl ((dH mT) _ M) RD) ?_;refine gI (fun _ K=>gO rfl jK K rfl rfl (dH mT) RD rfl) ?_;refine aK 19 ?_;refine aR (fun _ K=>oL rfl K rfl rfl aD) M ?_;refine aK 5 ?_;refine aR (fun _ K=>oL rfl K rfl rfl aD) M ?_;refine aK 4 ?_;refine aR (fun _ K=>oL rfl K rfl rfl aD) M ?_;refine aR (fun _ K=>aP rfl K (vs:=[(0,I 0),(1,I e3),(2,I e4),(3,I e5),(4,I (IntKind.i64.wrap ((IntKind.i64.wrap (e3+e4))-e5))),(5,I (IntKind.i64.wrap (e3+(iB .i64 (IntKind.i64.wrap (e4-e5)) 1)))),(6,I (IntKind.i64.wrap (e4+(iB .i64 (IntKind.i64.wrap (e3-e5)) 1)))),(7,I (iB .i64 (IntKind.i64.wrap (e3+e4)) 1))]) (cs:=[I 0,I e3,I e4,I e5,I (IntKind.i64.wrap ((IntKind.i64.wrap (e3+e4))-e5)),I (IntKind.i64.wrap (e3+(iB .i64 (IntKind.i64.wrap (e4-e5)) 1))),I (IntKind.i64.wrap (e4+(iB .i64 (IntKind.i64.wrap (e3-e5)) 1))),I (iB .i64 (IntKind.i64.wrap (e3+e4)) 1)]) rfl aG) M ?_;obtain ⟨e6,I1,h⟩:=aB h;refine aK 1 ?_;refine aR (fun _ K=>GD (C:=(cI .i64)) (es:=[0,e3,e4,e5,IntKind.i64.wrap ((IntKind.i64.wrap (e3+e4))-e5),IntKind.i64.wrap (e3+(iB .i64 (IntKind.i64.wrap (e4-e5)) 1)),IntKind.i64.wrap (e4+(iB .i64 (IntKind.i64.wrap (e3-e5)) 1)),iB .i64 (IntKind.i64.wrap (e3+e4)) 1]) rfl aD4 jK K rfl rfl rfl I1 rfl) M ?_;exact cB 4 (M.pick [] aD)
theorem PE {N:Nat} {d:List UInt8} {o p2 p3:Int} {p4:List Int} {XC:Option Addr} {XD:Nat} {w0:World} {r:Int × Int × List Int × Int} (h:Bc N d o p2 p3 p4=some r) (aEq:SL w0 (cI .i64) XC p4) (aEr:p4.length≤XD) :
  Calls Tryz.prog 60 #[.string (bs d),I o,I p2,I p3,.slice XC p4.length XD] w0 fun e w'=>∃v,e = .returned v∧∃A2 c2,v = .tuple #[.agg #[I r.1,I r.2.1,.slice A2 r.2.2.1.length c2],I r.2.2.2]∧Mem w0.heap.size w0 w' [.row 3 1 A2 r.2.2.1.length c2 ((cI .i64).all r.2.2.1)]:=by
 refine gE Tryz.func60 Tryz.ntmps60 ?_;intro M;unfold Bc at h;refine gJ 2 ?_;intro dB w M;refine gJ 0 ?_;intro bC w M;refine lG 9 24 h ?_ ?_
 ·intro hb h;refine eA 17 ?_;intro w M;exact bZ 5 (((Mem.aF 3 1 (cI .i64) M)).pick [0] aD)
 intro hb h;refine lG 4 28 h ?_ ?_
 ·intro hb h;refine eA 13 ?_;intro w M;exact bZ 5 (((Mem.aF 3 1 (cI .i64) M)).pick [0] aD)
 intro hb h;refine lG 4 32 h ?_ ?_
 ·intro hb h;refine eA 9 ?_;intro w M;exact bZ 5 (((Mem.aF 3 1 (cI .i64) M)).pick [0] aD)
 intro hb h;refine d7 5 h ?_ ?_
 ·intro hb h;refine eA 3 ?_;intro w M;exact bZ 5 (((Mem.aF 3 1 (cI .i64) M)).pick [0] aD)
 intro hb h;refine lG 8 39 h ?_ ?_
 ·intro hb h;refine eA 9 ?_;intro w M;exact bZ 5 (((Mem.aF 3 1 (cI .i64) M)).pick [0] aD)
 intro hb h;refine d7 5 h ?_ ?_
 ·intro hb h;refine eA 3 ?_;intro w M;exact bZ 5 (((Mem.aF 3 1 (cI .i64) M)).pick [0] aD)
 intro hb h;obtain ⟨r2,dM,h⟩:=aB h;refine j1 6 (EF dM ((dH aEq) _ M) aEr) ?_;intro w M;refine d7 9 h ?_ ?_
 ·intro hb h;refine eA 4 ?_;intro w M;exact bZ 5 (((Mem.aF 3 1 (cI .i64) M)).pick [0] aD)
 intro hb h;refine aK 6 ?_;refine aR (fun _ K=>aP rfl K (vs:=[(0,I o),(1,I p2)]) (cs:=[I o,I p2,.slice none ([]:List Int).length 0]) rfl aG) M ?_;refine gJ 0 ?_;intro dG w M;refine eA 0 ?_;intro w M;refine gJ 4 ?_;intro gT w M;refine eA 0 ?_;intro w M;refine aK 18 ?_;replace M:=Mem.aF 3 1 (cI .i64) M;refine tI 0 0 (fun (⟨BP,x3,x4,i⟩:List Int × List UInt8 × List UInt8 × Int) a w=>∃(A:Option Addr) (c:Nat),Kn a 123 [(3,I p3),(4,.slice XC p4.length XD),(5,.pointer (some ⟨dB,0,none⟩)),(10,.pointer (some ⟨bC,0,none⟩)),(13,.pointer (some ⟨dG,0,none⟩)),(14,.pointer (some ⟨gT,0,none⟩)),(15,.func (.func 88) #[] #[.pointer (some ⟨gT,0,none⟩),.pointer (some ⟨dB,0,none⟩)]),(56,I (IntKind.i64.wrap (o*p2))),(57,I i)]∧Mem w0.heap.size w0 w [.row 3 1 A BP.length c ((cI .i64).all BP),.blk gT 9 [.string (bs x3)],.blk dG 50 [I o,I p2,.slice A BP.length c],.blk bC 50 [I 0,I 0,.slice none ([]:List Int).length 0],.blk dB 9 [.string (bs x4)]]) (M.pick [0,1,2,3,4] aD) ?_ ?_
 ·clear M h;rintro ⟨DM,x27,x28,i8⟩ a w ⟨A7,c7,K,M⟩ h;try dsimp only at h
  revert a;refine aK 6 ?_;refine aR (fun _ K=>FY rfl K rfl rfl) M ?_;refine lG 1 117 h ?_ ?_
  ·intro hb h;refine eA 9 ?_;intro w M;exact bZ 5 (((Mem.aF 3 1 (cI .i64) M)).pick [0] aD)
  intro hb h;obtain ⟨Ov,XE,h⟩:=aB h;refine j1 1 (GT N x27 ([49]:List UInt8) _  Ov XE) ?_;intro w M;refine d7 3 h ?_ ?_
  ·intro hb h;refine eA 3 ?_;intro w M;exact bZ 5 (((Mem.aF 3 1 (cI .i64) M)).pick [0] aD)
  intro hb h;refine eA 5 ?_;intro w M;exact bZ 4 (M.pick [0] aD)
 clear M h;rintro kk fuel ⟨BP,x3,x4,i⟩ a w hk1 ⟨A,c,K,M⟩ h;unfold eH at h;revert a;refine d7 6 h ?_ ?_
 ·intro hb h;refine aK 14 ?_;intro a K;refine jE K (cA rfl fM z3 K (vs:=[(0,I 0)]) (cs:=[I 0]) rfl aG rfl rfl M) ?_;have M0:=M;clear K M;rintro _ a w ⟨gs2,rfl,M⟩ K;replace M:=M.jM 0 rfl (cI .i64) ([0]:List Int) (n:=1) rfl rfl rfl;clear M0;obtain ⟨vL,GU,h⟩:=aB h;refine jE K (kA (C:=(cI .i64)) (xs:=BP) (ys:=([0]:List Int)) rfl fM rfl z3 rfl rfl K rfl rfl 1 M rfl ((gY (C:=(cI .i64)) 0 rfl rfl) _ M) GU) ?_;clear K M;rintro _ a w ⟨A4,c4,rfl,M⟩ K;revert a;refine eA 1 ?_;intro w M;refine aK 6 ?_;intro a K;refine Ai (vs:=[.slice XC p4.length XD,.func (.func 88) #[] #[.pointer (some ⟨gT,0,none⟩),.pointer (some ⟨dB,0,none⟩)]]) (cap:=[]) K (aA rfl) rfl rfl rfl aAR rfl rfl ?_;clear K;refine hU Tryz.func90 rfl Tryz.ntmps90 rfl ?_;refine aK 12 ?_;intro a K;refine aDU (Rel:=fun (⟨F1,YF,i4,i5,w3⟩:List UInt8 × List UInt8 × Int × Int × List UInt8) a w=>Kn a 39 [(0,.slice XC p4.length XD),(1,.func (.func 88) #[] #[.pointer (some ⟨gT,0,none⟩),.pointer (some ⟨dB,0,none⟩)]),(4,I i4),(5,I i5),(6,.string (bs w3))]∧Mem w0.heap.size w0 w [.row 3 1 (some ⟨gs2,0,none⟩) ([0]:List Int).length 1 ((cI .i64).all ([0]:List Int)),.row 3 1 A4 vL.length c4 ((cI .i64).all vL),.blk gT 9 [.string (bs F1)],.blk dG 50 [I o,I p2,.slice A4 vL.length c4],.blk bC 50 [I 0,I 0,.slice none ([]:List Int).length 0],.blk dB 9 [.string (bs YF)]]) h (fun _ _=>rfl) ⟨K.pick [0,1,4,5,6],M.pick [0,1,2,3,4,5] aD⟩ ?_ ?_
  ·clear K M h;rintro ⟨x20,x21,i6,i7,w4⟩ a w ⟨K,M⟩ h;try dsimp only at h
   revert a;refine aK 1 ?_;intro a K;refine Ki K rfl (dC K rfl) (dC K rfl) ⟨_,rfl,?_⟩;clear K;intro a K;revert a;refine d7 14 h ?_ ?_
   ·intro hb h;refine eA 3 ?_;intro w M;exact bZ 10 (((Mem.aF 3 1 (cI .i64) M)).pick [0] aD)
   intro hb h;refine d7 16 h ?_ ?_
   ·intro hb h;refine aK 5 ?_;intro a K;refine aN (fun w=>Mem _ _ w _) [0,0,0,0,0,0,1,0,0,0,0,0,2] aG aG M.drew ?_;replace M:=M.drew;revert a;obtain ⟨r16,FK,h⟩:=aB h;refine aK 6 ?_;intro a K;refine uJ K (pN Pp K (zJ FK ((gY (C:=(cI .i64)) 1 rfl rfl) _ M) (M.cap 1 rfl))) ?_;clear K;rintro _ a w ⟨rfl,Zq⟩ K;replace M:=M.call Zq;clear Zq;refine ⟨M.pick [0,1,2,3,4,5] aD,?_⟩;revert a;obtain ⟨e8,Ag,h⟩:=aB h;refine aK 4 ?_;refine gI (fun _ K=>fO rfl fM K rfl rfl ((gY (C:=(cI .i64)) 1 rfl rfl) _ M) Ag) ?_;obtain ⟨l6,aEs,h⟩:=aB h;intro a K;refine Ez K (gG (el:=IntKind.i64.wrap (IntKind.u16.wrap (IntKind.i64.wrap (r16+32768)))) rfl Ci rfl rfl K rfl rfl rfl 1 M rfl aEs) ?_;have M0:=M;clear K M;rintro _ a w M K;have hl:=iE aEs;try rw [hl] at M
    try rw [hl] at K
    clear hl;clear M0;revert a;exact nS 8 (l6,x20,x21,IntKind.i64.wrap (i+1)) (M.pick [1,2,3,4,5] aD)
   intro hb h;refine d7 7 h ?_ ?_
   ·intro hb h;refine aK 4 ?_;intro a K;refine Ai (vs:=[I i6]) (cap:=[.pointer (some ⟨gT,0,none⟩),.pointer (some ⟨dB,0,none⟩)]) K (aA rfl) rfl rfl rfl W9 rfl rfl ?_;clear K;refine hU Tryz.func88 rfl Tryz.ntmps88 rfl ?_;refine tI 8 0 (fun (⟨Jw,x23⟩:List UInt8 × List UInt8) a w=>Kn a 33 [(0,I i6),(1,.pointer (some ⟨gT,0,none⟩)),(2,.pointer (some ⟨dB,0,none⟩))]∧Mem w0.heap.size w0 w [.row 3 1 (some ⟨gs2,0,none⟩) ([0]:List Int).length 1 ((cI .i64).all ([0]:List Int)),.row 3 1 A4 vL.length c4 ((cI .i64).all vL),.blk gT 9 [.string (bs Jw)],.blk dG 50 [I o,I p2,.slice A4 vL.length c4],.blk bC 50 [I 0,I 0,.slice none ([]:List Int).length 0],.blk dB 9 [.string (bs x23)]]) (M.pick [0,1,2,3,4,5] aD) ?_ ?_
    ·clear M h;rintro ⟨x24,x25⟩ a w ⟨K,M⟩ h;try dsimp only at h
     revert a;refine aK 6 ?_;refine aR (fun _ K=>j0 rfl rS K rfl) M ?_;refine d7 4 h ?_ ?_
     ·intro hb h;refine aK 8 ?_;intro a K;refine Ki K rfl (dC K rfl) (dC K rfl) ⟨_,rfl,?_⟩;clear K;intro a K;revert a;refine eA 18 ?_;intro w M;exact bZ 12 (((Mem.aF 3 1 (cI .i64) M)).pick [0] aD)
     intro hb h;obtain ⟨s33,aEt,h⟩:=aB h;refine aK 6 ?_;refine aR (fun _ K=>iY (k:=.i64) (k':=.i64) rfl rS K rfl rfl rfl aEt) M ?_;obtain ⟨s34,aEu,h⟩:=aB h;refine aK 7 ?_;refine aR (fun _ K=>iY (k:=.i64) (k':=.i64) rfl rS K rfl rfl rfl aEu) M ?_;refine eA 0 ?_;intro w M;refine aK 10 ?_;intro a K;refine Ki K rfl (dC K rfl) (dC K rfl) ⟨_,rfl,?_⟩;clear K;intro a K;revert a;obtain ⟨GE,PG,h⟩:=aB h;refine j1 20 (NZ PG) ?_;intro w M;obtain ⟨b2,Xu,h⟩:=aB h;refine aK 9 ?_;refine aR (fun _ K=>sL rfl rS K rfl rfl Xu) M ?_;refine d7 3 h ?_ ?_
     ·intro hb h;obtain ⟨_,h0,h⟩:=aB h;have h0:=oY h0;refine aK 3 ?_;refine aR (fun _ K=>rY rfl K rfl rfl h0) M ?_;obtain ⟨x26,hx,h⟩:=jU h;refine zI 2 hx ?_;refine aK 3 ?_;intro a K;refine aN (fun w=>Mem _ _ w _) [0,0,0,0,0,0,1,0,0,0,0,0,2] aG aG M.drew ?_;replace M:=M.drew;revert a;obtain ⟨Ja,XF,h⟩:=aB h;refine aK 6 ?_;intro a K;refine uJ K (pN Pp K (zJ XF ((gY (C:=(cI .i64)) 1 rfl rfl) _ M) (M.cap 1 rfl))) ?_;clear K;rintro _ a w ⟨rfl,Zq⟩ K;replace M:=M.call Zq;clear Zq;refine ⟨M.pick [0,1,2,3,4,5] aD,?_⟩;revert a;obtain ⟨e9,LI,h⟩:=aB h;refine aK 4 ?_;refine gI (fun _ K=>fO rfl fM K rfl rfl ((gY (C:=(cI .i64)) 1 rfl rfl) _ M) LI) ?_;obtain ⟨l7,xW,h⟩:=aB h;intro a K;refine Ez K (gG (el:=IntKind.i64.wrap (IntKind.u16.wrap (IntKind.i64.wrap (Ja+x26)))) rfl Ci rfl rfl K rfl rfl rfl 1 M rfl xW) ?_;have M0:=M;clear K M;rintro _ a w M K;have hl:=iE xW;try rw [hl] at M
      try rw [hl] at K
      clear hl;clear M0;revert a;exact nS 8 (l7,s34,x25,IntKind.i64.wrap (i+1)) (M.pick [1,2,3,4,5] aD)
     intro hb h;refine aK 3 ?_;intro a K;refine aN (fun w=>Mem _ _ w _) [0,0,0,0,0,0,1,0,0,0,0,0,2] aG aG M.drew ?_;replace M:=M.drew;revert a;obtain ⟨Jy,XG,h⟩:=aB h;refine aK 6 ?_;intro a K;refine uJ K (pN Pp K (zJ XG ((gY (C:=(cI .i64)) 1 rfl rfl) _ M) (M.cap 1 rfl))) ?_;clear K;rintro _ a w ⟨rfl,Zq⟩ K;replace M:=M.call Zq;clear Zq;refine ⟨M.pick [0,1,2,3,4,5] aD,?_⟩;revert a;obtain ⟨e10,HY,h⟩:=aB h;refine aK 4 ?_;refine gI (fun _ K=>fO rfl fM K rfl rfl ((gY (C:=(cI .i64)) 1 rfl rfl) _ M) HY) ?_;obtain ⟨l8,aEv,h⟩:=aB h;intro a K;refine Ez K (gG (el:=IntKind.i64.wrap (IntKind.u16.wrap (IntKind.i64.wrap (Jy+GE.1)))) rfl Ci rfl rfl K rfl rfl rfl 1 M rfl aEv) ?_;have M0:=M;clear K M;rintro _ a w M K;have hl:=iE aEv;try rw [hl] at M
     try rw [hl] at K
     clear hl;clear M0;revert a;exact nS 8 (l8,s34,x25,IntKind.i64.wrap (i+1)) (M.pick [1,2,3,4,5] aD)
    clear M h;rintro kk fuel ⟨Jw,x23⟩ a w hk4 ⟨K,M⟩ h;unfold jP at h;revert a;refine aK 4 ?_;refine aR (fun _ K=>j0 rfl rS K rfl) M ?_;refine lG 3 11 h ?_ ?_
    ·intro hb h;refine aK 1 ?_;refine aR (fun _ K=>FY rfl K rfl rfl) M ?_;refine d7 3 h ?_ ?_
     ·intro hb h;refine aK 4 ?_;intro a K;refine aN (fun w=>Mem _ _ w _) [0,0,0,1,0,2] aG aG M.drew ?_;replace M:=M.drew;revert a;obtain ⟨s30,aEw,h⟩:=aB h;refine aK 2 ?_;refine gI (fun _ K=>iY (k:=.i64) (k':=.i64) rfl rS K rfl rfl rfl aEw) ?_;obtain ⟨Es,HZ,h⟩:=aB h;intro a K;refine uJ K (pN Xa K (Jj HZ)) ?_;clear K;rintro _ a w ⟨rfl,Zq⟩ K;replace M:=M.call Zq;clear Zq;refine ⟨M.pick [0,1,2,3,4,5] aD,?_⟩;obtain ⟨s31,aEx,h⟩:=aB h;revert a;refine gI (fun _ K=>sZ rfl K rfl rfl aEx) ?_;intro a K;refine Ez K (aO rfl Qh K rfl rfl rfl 2 M rfl rfl) ?_;clear K M;rintro _ a w M K;revert a;obtain ⟨s32,aEy,h⟩:=aB h;refine aK 4 ?_;refine aR (fun _ K=>iY (k:=.i64) (k':=.i64) rfl rS K rfl rfl rfl aEy) M ?_;refine eA 0 ?_;intro w M;exact nS 3 (s31,s32) (M.pick [0,1,2,3,4,5] aD)
     intro hb h;exact oB 3 (hk4 (Jw,x23)) (M.pick [0,1,2,3,4,5] aD)
    intro hb h;exact oB 9 (hk4 (Jw,x23)) (M.pick [0,1,2,3,4,5] aD)
   intro hb h;refine aK 3 ?_;intro a K;refine aN (fun w=>Mem _ _ w _) [0,0,0,0,0,0,1,0,0,0,0,0,2] aG aG M.drew ?_;replace M:=M.drew;revert a;obtain ⟨Km,XH,h⟩:=aB h;refine aK 6 ?_;intro a K;refine uJ K (pN Pp K (zJ XH ((gY (C:=(cI .i64)) 1 rfl rfl) _ M) (M.cap 1 rfl))) ?_;clear K;rintro _ a w ⟨rfl,Zq⟩ K;replace M:=M.call Zq;clear Zq;refine ⟨M.pick [0,1,2,3,4,5] aD,?_⟩;revert a;obtain ⟨e11,Tm,h⟩:=aB h;refine aK 4 ?_;refine gI (fun _ K=>fO rfl fM K rfl rfl ((gY (C:=(cI .i64)) 1 rfl rfl) _ M) Tm) ?_;obtain ⟨l9,aEz,h⟩:=aB h;intro a K;refine Ez K (gG (el:=IntKind.i64.wrap (IntKind.u16.wrap (IntKind.i64.wrap (Km+0)))) rfl Ci rfl rfl K rfl rfl rfl 1 M rfl aEz) ?_;have M0:=M;clear K M;rintro _ a w M K;have hl:=iE aEz;try rw [hl] at M
   try rw [hl] at K
   clear hl;clear M0;revert a;exact nS 8 (l9,x20,x21,IntKind.i64.wrap (i+1)) (M.pick [1,2,3,4,5] aD)
  clear K M h;rintro kk fuel ⟨F1,YF,i4,i5,w3⟩ a w hk2 ⟨K,M⟩ h;unfold iW at h;revert a;obtain ⟨Dt,Ed,h⟩:=aB h;refine j1 5 (PD Ed ((dH aEq) _ M) aEr) ?_;intro A6 c6 w M;refine d7 16 h ?_ ?_
  ·intro hb h;obtain ⟨e7,vB,h⟩:=aB h;refine aK 3 ?_;refine aR (fun _ K=>hZ rfl fM K rfl rfl (gY (C:=(cI .i64)) 0 rfl rfl) vB) M ?_;refine aR (fun _ K=>gO rfl jK K rfl rfl (gY (C:=(cI .i64)) 0 rfl rfl) vB rfl) M ?_;refine aK 8 ?_;intro a K;exact qD (hk2 (F1,YF,e7,Dt.2.2,w3) _ _ ⟨K.pick [0,1,4,5,6],M.pick [1,2,3,4,5,6] aD⟩ h)
  intro hb h;refine aK 5 ?_;intro a K;refine Ai (vs:=[I 1]) (cap:=[.pointer (some ⟨gT,0,none⟩),.pointer (some ⟨dB,0,none⟩)]) K (aA rfl) rfl rfl rfl W9 rfl rfl ?_;clear K;refine hU Tryz.func88 rfl Tryz.ntmps88 rfl ?_;refine tI 8 0 (fun (⟨Lv,Qp⟩:List UInt8 × List UInt8) a w=>Kn a 33 [(0,I 1),(1,.pointer (some ⟨gT,0,none⟩)),(2,.pointer (some ⟨dB,0,none⟩))]∧Mem w0.heap.size w0 w [.row 3 1 A6 Dt.1.length c6 ((cI .i64).all Dt.1),.row 3 1 (some ⟨gs2,0,none⟩) ([0]:List Int).length 1 ((cI .i64).all ([0]:List Int)),.row 3 1 A4 vL.length c4 ((cI .i64).all vL),.blk gT 9 [.string (bs Lv)],.blk dG 50 [I o,I p2,.slice A4 vL.length c4],.blk bC 50 [I 0,I 0,.slice none ([]:List Int).length 0],.blk dB 9 [.string (bs Qp)]]) (M.pick [0,1,2,3,4,5,6] aD) ?_ ?_
  ·clear M h;rintro ⟨x18,YH⟩ a w ⟨K,M⟩ h;try dsimp only at h
   revert a;refine aK 6 ?_;refine aR (fun _ K=>j0 rfl rS K rfl) M ?_;refine d7 4 h ?_ ?_
   ·intro hb h;refine aK 8 ?_;intro a K;refine Ki K rfl (dC K rfl) (dC K rfl) ⟨_,rfl,?_⟩;clear K;intro a K;revert a;refine lG 13 32 h ?_ ?_
    ·intro hb h;refine aK 15 ?_;intro a K;exact qD (hk2 (x18,YH,0,1,w3) _ _ ⟨K.pick [0,1,4,5,6],M.pick [1,2,3,4,5,6] aD⟩ h)
    intro hb h;refine aK 15 ?_;intro a K;exact qD (hk2 (x18,YH,0,1,w3) _ _ ⟨K.pick [0,1,4,5,6],M.pick [1,2,3,4,5,6] aD⟩ h)
   intro hb h;obtain ⟨s24,aEA,h⟩:=aB h;refine aK 6 ?_;refine aR (fun _ K=>iY (k:=.i64) (k':=.i64) rfl rS K rfl rfl rfl aEA) M ?_;obtain ⟨s25,aEB,h⟩:=aB h;refine aK 7 ?_;refine aR (fun _ K=>iY (k:=.i64) (k':=.i64) rfl rS K rfl rfl rfl aEB) M ?_;refine eA 0 ?_;intro w M;refine aK 10 ?_;intro a K;refine Ki K rfl (dC K rfl) (dC K rfl) ⟨_,rfl,?_⟩;clear K;intro a K;revert a;refine lG 13 32 h ?_ ?_
   ·intro hb h;refine aK 15 ?_;intro a K;exact qD (hk2 (s25,YH,0,1,w3) _ _ ⟨K.pick [0,1,4,5,6],M.pick [1,2,3,4,5,6] aD⟩ h)
   intro hb h;obtain ⟨s26,aEC,h⟩:=aB h;refine aK 11 ?_;refine aR (fun _ K=>sZ rfl K rfl rfl aEC) M ?_;exact nS 4 (s25,YH,i4,i5,s26) (M.pick [1,2,3,4,5,6] aD)
  clear M h;rintro kk fuel ⟨Lv,Qp⟩ a w hk3 ⟨K,M⟩ h;unfold uV at h;revert a;refine aK 4 ?_;refine aR (fun _ K=>j0 rfl rS K rfl) M ?_;refine lG 3 11 h ?_ ?_
  ·intro hb h;refine aK 1 ?_;refine aR (fun _ K=>FY rfl K rfl rfl) M ?_;refine d7 3 h ?_ ?_
   ·intro hb h;refine aK 4 ?_;intro a K;refine aN (fun w=>Mem _ _ w _) [0,0,0,1,0,2] aG aG M.drew ?_;replace M:=M.drew;revert a;obtain ⟨s21,aED,h⟩:=aB h;refine aK 2 ?_;refine gI (fun _ K=>iY (k:=.i64) (k':=.i64) rfl rS K rfl rfl rfl aED) ?_;obtain ⟨Gc,FL,h⟩:=aB h;intro a K;refine uJ K (pN Xa K (Jj FL)) ?_;clear K;rintro _ a w ⟨rfl,Zq⟩ K;replace M:=M.call Zq;clear Zq;refine ⟨M.pick [0,1,2,3,4,5,6] aD,?_⟩;obtain ⟨s22,aEE,h⟩:=aB h;revert a;refine gI (fun _ K=>sZ rfl K rfl rfl aEE) ?_;intro a K;refine Ez K (aO rfl Qh K rfl rfl rfl 3 M rfl rfl) ?_;clear K M;rintro _ a w M K;revert a;obtain ⟨s23,aEF,h⟩:=aB h;refine aK 4 ?_;refine aR (fun _ K=>iY (k:=.i64) (k':=.i64) rfl rS K rfl rfl rfl aEF) M ?_;refine eA 0 ?_;intro w M;exact nS 3 (s22,s23) (M.pick [0,1,2,3,4,5,6] aD)
   intro hb h;exact oB 3 (hk3 (Lv,Qp)) (M.pick [0,1,2,3,4,5,6] aD)
  intro hb h;exact oB 9 (hk3 (Lv,Qp)) (M.pick [0,1,2,3,4,5,6] aD)
 intro hb h;exact oB 3 (hk1 (BP,x3,x4,i)) (M.pick [0,1,2,3,4] aD)
theorem PH {N:Nat} {jJ kV:Int} {hG:List Int} {fQ:Option Addr} {fR:Nat} {w0:World} {r:Bool} (h:Fs N jJ kV hG=some r) (lV:SL w0 (cI .i64) fQ hG) (sR:hG.length≤fR) :
  Calls Tryz.prog 102 #[.agg #[I jJ,I kV,.slice fQ hG.length fR]] w0 fun e w'=>∃v,e = .returned v∧v = .bool r∧Mem w0.heap.size w0 w' []:=by
 refine gE Tryz.func102 Tryz.ntmps102 ?_;intro M;unfold Fs at h;refine gJ 2 ?_;intro Aj w M;refine lG 10 8 h ?_ ?_
 ·intro hb h;exact cB 35 (M.pick [] aD)
 intro hb h;refine lG 5 13 h ?_ ?_
 ·intro hb h;exact cB 30 (M.pick [] aD)
 intro hb h;refine lG 5 18 h ?_ ?_
 ·intro hb h;exact cB 25 (M.pick [] aD)
 intro hb h;refine lG 5 23 h ?_ ?_
 ·intro hb h;exact cB 20 (M.pick [] aD)
 intro hb h;refine d7 12 h ?_ ?_
 ·intro hb h;exact cB 7 (M.pick [] aD)
 intro hb h;refine tI 12 0 (fun (i:Int) a w=>Kn a 48 [(35,.slice fQ hG.length fR),(36,I (hG.length:Int)),(37,I i)]∧Mem w0.heap.size w0 w []) M.nQ ?_ ?_
 ·clear M h;rintro i2 a w ⟨K,M⟩ h;try dsimp only at h
  revert a;exact cB 8 (M.pick [] aD)
 clear M h;rintro kk fuel i a w hk1 ⟨K,M⟩ h;unfold C5 at h;revert a;refine d7 6 h ?_ ?_
 ·intro hb h;obtain ⟨e2,kL,h⟩:=aB h;refine aK 6 ?_;refine aR (fun _ K=>hZ rfl fM K rfl rfl (dH lV) kL) M ?_;refine aR (fun _ K=>gO rfl jK K rfl rfl (dH lV) kL rfl) M ?_;refine lG 8 43 h ?_ ?_
  ·intro hb h;exact cB 17 (M.pick [] aD)
  intro hb h;refine d7 5 h ?_ ?_
  ·intro hb h;exact cB 11 (M.pick [] aD)
  intro hb h;exact nS 8 (IntKind.i64.wrap (i+1)) M.nQ
 intro hb h;exact oB 3 (hk1 i) M.nQ
theorem N4 {N:Nat} {jD mO:Int} {kT:List Int} {kY:Option Addr} {kZ:Nat} {o:Int} {p2:List Int} {aEG:Option Addr} {aEH:Nat} {w0:World} {r:List UInt8 × Int} (h:Eu N jD mO kT o p2=some r) (mT:SL w0 (cI .i64) kY kT) (Gm:kT.length≤kZ) (aF2:SL w0 (cI .i64) aEG p2) (aF3:p2.length≤aEH) :
  Calls Tryz.prog 80 #[.agg #[I jD,I mO,.slice kY kT.length kZ],I o,.slice aEG p2.length aEH] w0 fun e w'=>∃v,e = .returned v∧v = .tuple #[.string (bs r.1),I r.2]∧Mem w0.heap.size w0 w' []:=by
 refine gE Tryz.func80 Tryz.ntmps80 ?_;intro M;unfold Eu at h;refine gJ 2 ?_;intro dB w M;obtain ⟨r2,dM,h⟩:=aB h;refine j1 8 (PH dM ((dH mT) _ M) Gm) ?_;intro w M;refine d7 3 h ?_ ?_
 ·intro hb h;exact bZ 8 (M.pick [] aD)
 intro hb h;refine lG 8 24 h ?_ ?_
 ·intro hb h;exact bZ 14 (M.pick [] aD)
 intro hb h;refine d7 5 h ?_ ?_
 ·intro hb h;exact bZ 8 (M.pick [] aD)
 intro hb h;obtain ⟨r3,jI,h⟩:=aB h;refine j1 5 (HU jI ((dH aF2) _ M) aF3) ?_;intro A c w M;refine d7 14 h ?_ ?_
 ·intro hb h;exact bZ 9 (M.pick [] aD)
 intro hb h;refine aK 4 ?_;intro a K;refine jE K (eW rfl (show iU Tryz.prog 103=some [.pointer none,.slice none 0 0] by kernel_rfl) M) ?_;have M0:=M;clear K M;rintro _ a w ⟨bC,rfl,M⟩ K;replace M:=Mem.WU 5 M;clear M0;revert a;refine tI 12 0 (fun (⟨l2,i⟩:List UInt8 × Int) a w=>∃(A2:Option Addr) (c2:Nat),Kn a 106 [(1,I o),(3,.pointer (some ⟨dB,0,none⟩)),(8,.slice A r3.1.length c),(10,.pointer (some ⟨bC,0,none⟩)),(37,.slice kY kT.length kZ),(38,I (kT.length:Int)),(39,I i)]∧Mem w0.heap.size w0 w [.row 5 1 A2 l2.length c2 ((cI .u8).all (oV l2)),.DG bC 103 A2 l2.length c2,.row 9 1 A r3.1.length c (cS.all r3.1),.blk dB 50 [I jD,I mO,.slice kY kT.length kZ]]) (M.pick [0,1,2,3] aD) ?_ ?_
 ·clear M h;rintro ⟨l3,i2⟩ a w ⟨Yg,c15,K,M⟩ h;try dsimp only at h
  revert a;refine aK 4 ?_;intro a K;refine jE K (dX (vs:=[.pointer (some ⟨bC,0,none⟩)]) (cap:=[]) rfl Po K rfl rfl (Ck (show Mem _ _ _ [.DG bC 103 Yg l3.length c15,.row 5 1 Yg l3.length c15 ((cI .u8).all (oV l3)),.row 9 1 A r3.1.length c (cS.all r3.1),.blk dB 50 [I jD,I mO,.slice kY kT.length kZ]] from M.pick [1,0,2,3] aD))) ?_;clear K M;rintro _ a w ⟨rfl,M⟩ K;obtain ⟨Es,HZ,h⟩:=aB h;revert a;refine j1 0 (HM HZ) ?_;intro w M;exact bZ 15 (M.pick [] aD)
 clear M h;rintro kk fuel ⟨l2,i⟩ a w hk1 ⟨A2,c2,K,M⟩ h;unfold kK at h;revert a;refine d7 6 h ?_ ?_
 ·intro hb h;obtain ⟨e6,I1,h⟩:=aB h;refine aK 7 ?_;refine aR (fun _ K=>hZ rfl fM K rfl rfl (dH mT) I1) M ?_;refine aR (fun _ K=>gO rfl jK K rfl rfl (dH mT) I1 rfl) M ?_;obtain ⟨Gd,FM,h⟩:=aB h;refine j1 10 (zJ FM ((dH mT) _ M) Gm) ?_;intro w M;obtain ⟨x6,hx,h⟩:=jU h;refine zI 3 hx ?_;refine d7 9 h ?_ ?_
  ·intro hb h;obtain ⟨x7,hx,h⟩:=jU h;refine zI 3 hx ?_;refine aK 6 ?_;refine aR (fun _ K=>Vd rfl K rfl) M ?_;obtain ⟨wM,FN,h⟩:=aB h;refine j1 2 (ET FN) ?_;intro w M;refine lG 11 66 h ?_ ?_
   ·intro hb h;exact bZ 22 (M.pick [] aD)
   intro hb h;obtain ⟨e7,vB,h⟩:=aB h;refine aK 2 ?_;refine aR (fun _ K=>hZ rfl FE K rfl rfl (gY (C:=cS) 2 rfl rfl) vB) M ?_;refine aR (fun _ K=>gO rfl Qh K rfl rfl (gY (C:=cS) 2 rfl rfl) vB rfl) M ?_;refine aR (fun _ K=>DB rfl K rfl rfl) M ?_;refine d7 3 h ?_ ?_
   ·intro hb h;exact bZ 13 (M.pick [] aD)
   intro hb h;obtain ⟨e8,Ag,h⟩:=aB h;refine aK 6 ?_;refine aR (fun _ K=>hZ rfl FE K rfl rfl (gY (C:=cS) 2 rfl rfl) Ag) M ?_;refine aR (fun _ K=>gO rfl Qh K rfl rfl (gY (C:=cS) 2 rfl rfl) Ag rfl) M ?_;obtain ⟨b7,RB,h⟩:=aB h;intro a K;refine jE K (dX (vs:=[.pointer (some ⟨bC,0,none⟩),.string (bs e8)]) (cap:=[]) rfl Gh K rfl rfl (qY (show Mem _ _ _ [.DG bC 103 A2 l2.length c2,.row 5 1 A2 l2.length c2 ((cI .u8).all (oV l2)),.row 9 1 A r3.1.length c (cS.all r3.1),.blk dB 50 [I jD,I mO,.slice kY kT.length kZ]] from M.pick [1,0,2,3] aD) RB)) ?_;clear K M;rintro _ a w ⟨A9,c9,M⟩ K;revert a;refine lG 7 80 h ?_ ?_
   ·intro hb h;refine d7 5 h ?_ ?_
    ·intro hb h;refine d7 7 h ?_ ?_
     ·intro hb h;obtain ⟨_,h0,h⟩:=aB h;have h0:=oY h0;refine aK 3 ?_;refine aR (fun _ K=>rY rfl K rfl rfl h0) M ?_;obtain ⟨x8,hx,h⟩:=jU h;refine zI 2 hx ?_;obtain ⟨Dt,Ed,h⟩:=aB h;refine j1 6 (wW Ed) ?_;intro w M;obtain ⟨b8,RC,h⟩:=aB h;refine aK 9 ?_;intro a K;refine jE K (dX (vs:=[.pointer (some ⟨bC,0,none⟩),.string (bs Dt.1)]) (cap:=[]) rfl Gh K rfl rfl (qY (show Mem _ _ _ [.DG bC 103 A9 b7.length c9,.row 5 1 A9 b7.length c9 ((cI .u8).all (oV b7)),.row 9 1 A r3.1.length c (cS.all r3.1),.blk dB 50 [I jD,I mO,.slice kY kT.length kZ]] from M.pick [0,1,2,3] aD) RC)) ?_;clear K M;rintro _ a w ⟨Tl,c10,M⟩ K;revert a;exact nS 8 (b8,IntKind.i64.wrap (i+1)) (M.pick [1,0,2,3] aD)
     intro hb h;obtain ⟨Nb,H0,h⟩:=aB h;refine j1 6 (wW H0) ?_;intro w M;obtain ⟨b9,aCQ,h⟩:=aB h;refine aK 9 ?_;intro a K;refine jE K (dX (vs:=[.pointer (some ⟨bC,0,none⟩),.string (bs Nb.1)]) (cap:=[]) rfl Gh K rfl rfl (qY (show Mem _ _ _ [.DG bC 103 A9 b7.length c9,.row 5 1 A9 b7.length c9 ((cI .u8).all (oV b7)),.row 9 1 A r3.1.length c (cS.all r3.1),.blk dB 50 [I jD,I mO,.slice kY kT.length kZ]] from M.pick [0,1,2,3] aD) aCQ)) ?_;clear K M;rintro _ a w ⟨A11,c11,M⟩ K;revert a;exact nS 8 (b9,IntKind.i64.wrap (i+1)) (M.pick [1,0,2,3] aD)
    intro hb h;exact nS 8 (b7,IntKind.i64.wrap (i+1)) (M.pick [1,0,2,3] aD)
   intro hb h;exact nS 14 (b7,IntKind.i64.wrap (i+1)) (M.pick [1,0,2,3] aD)
  intro hb h;refine aK 6 ?_;refine aR (fun _ K=>Vd rfl K rfl) M ?_;obtain ⟨Gc,FL,h⟩:=aB h;refine j1 2 (ET FL) ?_;intro w M;refine lG 11 66 h ?_ ?_
  ·intro hb h;exact bZ 22 (M.pick [] aD)
  intro hb h;obtain ⟨e9,LI,h⟩:=aB h;refine aK 2 ?_;refine aR (fun _ K=>hZ rfl FE K rfl rfl (gY (C:=cS) 2 rfl rfl) LI) M ?_;refine aR (fun _ K=>gO rfl Qh K rfl rfl (gY (C:=cS) 2 rfl rfl) LI rfl) M ?_;refine aR (fun _ K=>DB rfl K rfl rfl) M ?_;refine d7 3 h ?_ ?_
  ·intro hb h;exact bZ 13 (M.pick [] aD)
  intro hb h;obtain ⟨e10,HY,h⟩:=aB h;refine aK 6 ?_;refine aR (fun _ K=>hZ rfl FE K rfl rfl (gY (C:=cS) 2 rfl rfl) HY) M ?_;refine aR (fun _ K=>gO rfl Qh K rfl rfl (gY (C:=cS) 2 rfl rfl) HY rfl) M ?_;obtain ⟨b10,XI,h⟩:=aB h;intro a K;refine jE K (dX (vs:=[.pointer (some ⟨bC,0,none⟩),.string (bs e10)]) (cap:=[]) rfl Gh K rfl rfl (qY (show Mem _ _ _ [.DG bC 103 A2 l2.length c2,.row 5 1 A2 l2.length c2 ((cI .u8).all (oV l2)),.row 9 1 A r3.1.length c (cS.all r3.1),.blk dB 50 [I jD,I mO,.slice kY kT.length kZ]] from M.pick [1,0,2,3] aD) XI)) ?_;clear K M;rintro _ a w ⟨Yh,c12,M⟩ K;revert a;refine lG 7 80 h ?_ ?_
  ·intro hb h;refine d7 5 h ?_ ?_
   ·intro hb h;refine d7 7 h ?_ ?_
    ·intro hb h;obtain ⟨_,h0,h⟩:=aB h;have h0:=oY h0;refine aK 3 ?_;refine aR (fun _ K=>rY rfl K rfl rfl h0) M ?_;obtain ⟨x9,hx,h⟩:=jU h;refine zI 2 hx ?_;obtain ⟨r16,FK,h⟩:=aB h;refine j1 6 (wW FK) ?_;intro w M;obtain ⟨b11,XJ,h⟩:=aB h;refine aK 9 ?_;intro a K;refine jE K (dX (vs:=[.pointer (some ⟨bC,0,none⟩),.string (bs r16.1)]) (cap:=[]) rfl Gh K rfl rfl (qY (show Mem _ _ _ [.DG bC 103 Yh b10.length c12,.row 5 1 Yh b10.length c12 ((cI .u8).all (oV b10)),.row 9 1 A r3.1.length c (cS.all r3.1),.blk dB 50 [I jD,I mO,.slice kY kT.length kZ]] from M.pick [0,1,2,3] aD) XJ)) ?_;clear K M;rintro _ a w ⟨RE,c13,M⟩ K;revert a;exact nS 8 (b11,IntKind.i64.wrap (i+1)) (M.pick [1,0,2,3] aD)
    intro hb h;obtain ⟨Ge,PI,h⟩:=aB h;refine j1 6 (wW PI) ?_;intro w M;obtain ⟨b12,XK,h⟩:=aB h;refine aK 9 ?_;intro a K;refine jE K (dX (vs:=[.pointer (some ⟨bC,0,none⟩),.string (bs Ge.1)]) (cap:=[]) rfl Gh K rfl rfl (qY (show Mem _ _ _ [.DG bC 103 Yh b10.length c12,.row 5 1 Yh b10.length c12 ((cI .u8).all (oV b10)),.row 9 1 A r3.1.length c (cS.all r3.1),.blk dB 50 [I jD,I mO,.slice kY kT.length kZ]] from M.pick [0,1,2,3] aD) XK)) ?_;clear K M;rintro _ a w ⟨A14,c14,M⟩ K;revert a;exact nS 8 (b12,IntKind.i64.wrap (i+1)) (M.pick [1,0,2,3] aD)
   intro hb h;exact nS 8 (b10,IntKind.i64.wrap (i+1)) (M.pick [1,0,2,3] aD)
  intro hb h;exact nS 14 (b10,IntKind.i64.wrap (i+1)) (M.pick [1,0,2,3] aD)
 intro hb h;exact oB 3 (hk1 (l2,i)) (M.pick [0,1,2,3] aD)
theorem Ak {N:Nat} {x2:List Int} {aCR:Option Addr} {aCS:Nat} {w0:World} {r:Int} (h:k9 N x2=some r) (aAk:SL w0 (cI .i64) aCR x2) (aGx:x2.length≤aCS) :
  Calls Tryz.prog 61 #[.slice aCR x2.length aCS] w0 fun e w'=>∃v,e = .returned v∧v=I r∧Mem w0.heap.size w0 w' []:=by
 refine gE Tryz.func61 Tryz.ntmps61 ?_;intro M;unfold k9 at h;refine d7 13 h ?_ ?_
 ·intro hb h;refine aK 1 ?_;refine aR (fun _ K=>kC rfl cc9 K rfl) M ?_;intro a K;cases h
 intro hb h;obtain ⟨e,JH,h⟩:=aB h;refine aK 5 ?_;refine aR (fun _ K=>hZ rfl fM K rfl rfl (dH aAk) JH) M ?_;refine aR (fun _ K=>gO rfl jK K rfl rfl (dH aAk) JH rfl) M ?_;refine tI 10 0 (fun (⟨m,i⟩:Int × Int) a w=>Kn a 25 [(0,.slice aCR x2.length aCS),(3,I m),(4,I i)]∧Mem w0.heap.size w0 w []) M.nQ ?_ ?_
 ·clear M h;rintro ⟨m4,i4⟩ a w ⟨K,M⟩ h;try dsimp only at h
  revert a;exact cB 9 (M.pick [] aD)
 clear M h;rintro kk fuel ⟨m,i⟩ a w hk1 ⟨K,M⟩ h;unfold jQ at h;revert a;refine d7 9 h ?_ ?_
 ·intro hb h;obtain ⟨e3,lY,h⟩:=aB h;refine aK 8 ?_;refine aR (fun _ K=>hZ rfl fM K rfl rfl (dH aAk) lY) M ?_;refine aR (fun _ K=>gO rfl jK K rfl rfl (dH aAk) lY rfl) M ?_;obtain ⟨m3,hx,h⟩:=jU h;refine zI 1 hx ?_;obtain ⟨i3,hx,h⟩:=jU h;refine zI 6 hx ?_;exact nS 2 (m3,i3) M.nQ
 intro hb h;exact oB 3 (hk1 (m,i)) M.nQ
theorem Ee {N:Nat} {s:List Int} {Fe:Option Addr} {Gi:Nat} {w0:World} {r:List Int} (h:sI N s=some r) (Jg:SL w0 (cI .i64) Fe s) (UX:s.length≤Gi) :
  Calls Tryz.prog 76 #[.slice Fe s.length Gi] w0 fun e w'=>∃v,e = .returned v∧∃A0 c0,v = .slice A0 r.length c0∧Mem w0.heap.size w0 w' [.row 3 1 A0 r.length c0 ((cI .i64).all r)]:=by
 refine gE Tryz.func76 Tryz.ntmps76 ?_;intro M;unfold sI at h;refine aK 9 ?_
 by_cases hA:(Fe).isNone=true
 ·have hs:=SL.Hx Jg hA;replace h:some ([]:List Int)=some r:=by rw [hs] at h;exact h
  clear hs;refine aR (fun _ K=>D4 (b':=true) hA (yG rfl LE K rfl rfl)) M ?_;exact cB 10 (((Mem.aF 3 1 (cI .i64) M)).pick [0] aD)
 refine aR (fun _ K=>D4 (b':=false) ((Bool.not_eq_true _).mp hA) (yG rfl LE K rfl rfl)) M ?_;refine aK 7 ?_;intro a K;refine jE K (Ey (C:=(cI .i64)) rfl fM rfl K M) ?_;clear K M;rintro _ a w ⟨gs,rfl,M⟩ K;revert a;obtain ⟨l2,vA,h⟩:=aB h;refine aK 1 ?_;intro a K;refine jE K (kA (C:=(cI .i64)) (xs:=([]:List Int)) (ys:=s) rfl fM rfl z3 rfl rfl K rfl rfl 0 M rfl ((dH Jg) _ M) vA) ?_;clear K M;rintro _ a w ⟨A,c,rfl,M⟩ K;revert a;exact cB 4 (M.pick [0] aD)
theorem Gn {N:Nat} {jJ kV:Int} {hG:List Int} {fQ:Option Addr} {fR:Nat} {w0:World} {r:Bool} (h:tO N jJ kV hG=some r) (lV:SL w0 (cI .i64) fQ hG) (sR:hG.length≤fR) :
  Calls Tryz.prog 65 #[.agg #[I jJ,I kV,.slice fQ hG.length fR]] w0 fun e w'=>∃v,e = .returned v∧v = .bool r∧Mem w0.heap.size w0 w' []:=by
 refine gE Tryz.func65 Tryz.ntmps65 ?_;intro M;unfold tO at h;refine gJ 2 ?_;intro Aj w M;refine lG 10 8 h ?_ ?_
 ·intro hb h;exact cB 35 (M.pick [] aD)
 intro hb h;refine lG 5 13 h ?_ ?_
 ·intro hb h;exact cB 30 (M.pick [] aD)
 intro hb h;refine lG 5 18 h ?_ ?_
 ·intro hb h;exact cB 25 (M.pick [] aD)
 intro hb h;refine lG 5 23 h ?_ ?_
 ·intro hb h;exact cB 20 (M.pick [] aD)
 intro hb h;refine d7 12 h ?_ ?_
 ·intro hb h;exact cB 7 (M.pick [] aD)
 intro hb h;refine tI 12 0 (fun (i:Int) a w=>Kn a 48 [(35,.slice fQ hG.length fR),(36,I (hG.length:Int)),(37,I i)]∧Mem w0.heap.size w0 w []) M.nQ ?_ ?_
 ·clear M h;rintro i2 a w ⟨K,M⟩ h;try dsimp only at h
  revert a;exact cB 8 (M.pick [] aD)
 clear M h;rintro kk fuel i a w hk1 ⟨K,M⟩ h;unfold pJ at h;revert a;refine d7 6 h ?_ ?_
 ·intro hb h;obtain ⟨e2,kL,h⟩:=aB h;refine aK 6 ?_;refine aR (fun _ K=>hZ rfl fM K rfl rfl (dH lV) kL) M ?_;refine aR (fun _ K=>gO rfl jK K rfl rfl (dH lV) kL rfl) M ?_;refine lG 8 43 h ?_ ?_
  ·intro hb h;exact cB 17 (M.pick [] aD)
  intro hb h;refine d7 5 h ?_ ?_
  ·intro hb h;exact cB 11 (M.pick [] aD)
  intro hb h;exact nS 8 (IntKind.i64.wrap (i+1)) M.nQ
 intro hb h;exact oB 3 (hk1 i) M.nQ
theorem Ef {N:Nat} {n x2 y P9 Qa Qb Vu v1:Int} {p7 EG:Nat} {w0:World} {r:Int} (h:sC N n x2 y P9 Qa Qb Vu v1=some r) (tC:g9 w0 p7 38 #[I P9,I Qa,I Qb,I Vu]) (K3:g9 w0 EG 3 #[I v1]) :
  Calls Tryz.prog 191 #[I n,I x2,I y,.pointer (some ⟨p7,0,none⟩),.pointer (some ⟨EG,0,none⟩)] w0 fun e w'=>∃v,e = .returned v∧v=I r∧Mem w0.heap.size w0 w' []:=by
 refine gE Tryz.func191 Tryz.ntmps191 ?_;intro M;unfold sC at h;refine aK 9 ?_;refine aR (fun _ K=>rY rfl K rfl rfl aD) M ?_;refine aK 2 ?_;refine aR (fun _ K=>Ha rfl K rfl rfl) M ?_;obtain ⟨_,h0,h⟩:=aB h;have h0:=Fg h0;refine aR (fun _ K=>mZ rfl NN Ci K rfl rfl h0.1 h0.2) M ?_;obtain ⟨e,JH,h⟩:=aB h;refine aR (fun _ K=>He rfl jK K rfl (Bn tC) rfl rfl JH) M ?_;obtain ⟨_,h0,h⟩:=aB h;have h0:=d6 h0;refine aK 13 ?_;refine aR (fun _ K=>j5 rfl K rfl rfl h0) M ?_;exact cB 4 (M.pick [] aD)
theorem Bh {N:Nat} {jJ kV:Int} {hG:List Int} {fQ:Option Addr} {fR:Nat} {w8 w9 xA xB Ap:Int} {yH yI:Nat} {w0:World} {r:Int × Int × List Int} (h:kW N jJ kV hG w8 w9 xA xB Ap=some r) (lV:SL w0 (cI .i64) fQ hG) (sR:hG.length≤fR) (Gp:g9 w0 yH 38 #[I w8,I w9,I xA,I xB]) (Gq:g9 w0 yI 3 #[I Ap]) :
  Calls Tryz.prog 66 #[.agg #[I jJ,I kV,.slice fQ hG.length fR],.func (.func 191) #[] #[.pointer (some ⟨yH,0,none⟩),.pointer (some ⟨yI,0,none⟩)]] w0 fun e w'=>∃v,e = .returned v∧∃A2 c2,v = .agg #[I r.1,I r.2.1,.slice A2 r.2.2.length c2]∧Mem w0.heap.size w0 w' [.row 3 1 A2 r.2.2.length c2 ((cI .i64).all r.2.2)]:=by
 refine gE Tryz.func66 Tryz.ntmps66 ?_;intro M;unfold kW at h;refine gJ 2 ?_;intro Aj w M;refine gJ 0 ?_;intro dB w M;refine aK 3 ?_;intro a K;refine jZ (fun w=>Mem _ _ w _) [0,0,0,0,0,0,0,1,0,1,2] 11 [0,1,2,3,4,5,6,7,8,9,10] aG aG aG rfl M.drew ?_;replace M:=M.drew;revert a;obtain ⟨x2,hx,h⟩:=jU h;refine aK 6 ?_;intro a K;refine fB 6 [7,8,9,10] aG rfl K (aA rfl) rfl rfl (P6 hx (uO rfl LE K rfl)) ?_;clear K;intro a K;refine eI [7,9] aG ⟨?_,?_,trivial⟩
 ·obtain ⟨l2,vA,h⟩:=aB h;refine iR [8,9,10] aG rfl K (aA rfl) rfl rfl (nV (C:=(cI .i64)) (z:=0) rfl fM rfl z3 rfl K rfl rfl M vA) ?_;clear K M;rintro _ a w ⟨A,c,rfl,M⟩ K;refine ⟨fun _=>M.pick [1,2] aD,?_⟩;refine fB 8 [9,10] aG rfl K (aA rfl) rfl rfl (aP rfl K (vs:=[(0,I jJ),(1,I kV),(2,.slice A l2.length c)]) (cs:=[I jJ,I kV,.slice A l2.length c]) rfl aG) ?_;clear K;intro a K;refine eI [9] aG ⟨?_,trivial⟩;refine iR [10] aG rfl K (aA rfl) rfl rfl (eW rfl z50 M) ?_;clear K M;rintro _ a w ⟨nT,rfl,M⟩ K;refine ⟨fun _=>M.pick [2,3] aD,?_⟩;refine eI [10] aG ⟨?_,trivial⟩;refine qW [] aG rfl K (aA rfl) rfl (bV rfl DR K rfl (ds:=[I jJ,I kV,.slice A l2.length c]) rfl rfl 0 M rfl rfl rfl) ?_;clear K M;rintro _ a w M K;refine ⟨fun h=>absurd h aD,?_⟩;revert a;refine tI 12 0 (fun (⟨dA,i⟩:List Int × Int) a w=>Kn a 43 [(1,.func (.func 191) #[] #[.pointer (some ⟨yH,0,none⟩),.pointer (some ⟨yI,0,none⟩)]),(2,.pointer (some ⟨Aj,0,none⟩)),(4,.pointer (some ⟨dB,0,none⟩)),(5,.pointer (some ⟨nT,0,none⟩)),(18,.slice fQ hG.length fR),(19,I (hG.length:Int)),(20,I i)]∧Mem w0.heap.size w0 w [.blk nT 50 [I jJ,I kV,.slice A dA.length c],.row 3 1 A dA.length c ((cI .i64).all dA),.blk dB 50 [I 0,I 0,.slice none ([]:List Int).length 0],.blk Aj 50 [I jJ,I kV,.slice fQ hG.length fR]]) (M.pick [0,1,2,3] aD) ?_ ?_
  ·clear M h;rintro ⟨oF,i2⟩ a w ⟨K,M⟩ h;try dsimp only at h
   revert a;refine eA 5 ?_;intro w M;exact cB 3 (M.pick [1] aD)
  clear M h;rintro kk fuel ⟨dA,i⟩ a w hk1 ⟨K,M⟩ h;unfold eX at h;revert a;refine d7 6 h ?_ ?_
  ·intro hb h;obtain ⟨e3,lY,h⟩:=aB h;refine aK 7 ?_;refine aR (fun _ K=>hZ rfl fM K rfl rfl (dH lV) lY) M ?_;refine aR (fun _ K=>gO rfl jK K rfl rfl (dH lV) lY rfl) M ?_;refine aK 4 ?_;intro a K;refine aN (fun w=>Mem _ _ w _) [0,0,0,0,0,0,0,0,0,0,0,0,0,1,0,0,2] aG aG M.drew ?_;replace M:=M.drew;revert a;obtain ⟨_,h0,h⟩:=aB h;have h0:=d6 h0;refine aK 8 ?_;refine gI (fun _ K=>qA rfl K rfl rfl h0) ?_;obtain ⟨_,h0,h⟩:=aB h;have h0:=d6 h0;refine aK 3 ?_;refine gI (fun _ K=>j5 rfl K rfl rfl h0) ?_;obtain ⟨r3,jI,h⟩:=aB h;intro a K;refine uJ K (dX (vs:=[I e3,I (Int.tmod i jJ),I (IntKind.i64.wrap (Int.tdiv i jJ))]) (cap:=[.pointer (some ⟨yH,0,none⟩),.pointer (some ⟨yI,0,none⟩)]) rfl Ru K rfl rfl (Ef jI (Bn Gp _ M) (Bn Gq _ M))) ?_;clear K;rintro _ a w ⟨rfl,Zq⟩ K;replace M:=M.call Zq;clear Zq;refine ⟨M.pick [0,1,2,3] aD,?_⟩;revert a;obtain ⟨e4,t6,h⟩:=aB h;refine aK 1 ?_;refine gI (fun _ K=>fO rfl fM K rfl rfl ((gY (C:=(cI .i64)) 1 rfl rfl) _ M) t6) ?_;obtain ⟨l4,yN,h⟩:=aB h;intro a K;refine Ez K (gG (el:=min r3 65535) rfl Ci rfl rfl K rfl rfl rfl 1 M rfl yN) ?_;have M0:=M;clear K M;rintro _ a w M K;have hl:=iE yN;try rw [hl] at M
   try rw [hl] at K
   clear hl;clear M0;revert a;exact nS 8 (l4,IntKind.i64.wrap (i+1)) (M.pick [0,1,2,3] aD)
  intro hb h;exact oB 3 (hk1 (dA,i)) (M.pick [0,1,2,3] aD)
 ·refine iR [7,8,10] aG rfl K (aA rfl) rfl rfl (eW rfl z50 M) ?_;clear K M;rintro _ a w ⟨oH,rfl,M⟩ K;refine ⟨fun _=>M.pick [1,2] aD,?_⟩;refine eI [7] aG ⟨?_,trivial⟩;obtain ⟨l5,xV,h⟩:=aB h;refine iR [8,10] aG rfl K (aA rfl) rfl rfl (nV (C:=(cI .i64)) (z:=0) rfl fM rfl z3 rfl K rfl rfl M xV) ?_;clear K M;rintro _ a w ⟨A2,c2,rfl,M⟩ K;refine ⟨fun _=>M.pick [2,3] aD,?_⟩;refine fB 8 [10] aG rfl K (aA rfl) rfl rfl (aP rfl K (vs:=[(0,I jJ),(1,I kV),(2,.slice A2 l5.length c2)]) (cs:=[I jJ,I kV,.slice A2 l5.length c2]) rfl aG) ?_;clear K;intro a K;refine eI [10] aG ⟨?_,trivial⟩;refine qW [] aG rfl K (aA rfl) rfl (bV rfl DR K rfl (ds:=[I jJ,I kV,.slice A2 l5.length c2]) rfl rfl 1 M rfl rfl rfl) ?_;clear K M;rintro _ a w M K;refine ⟨fun h=>absurd h aD,?_⟩;revert a;refine tI 12 0 (fun (⟨gB,i3⟩:List Int × Int) a w=>Kn a 43 [(1,.func (.func 191) #[] #[.pointer (some ⟨yH,0,none⟩),.pointer (some ⟨yI,0,none⟩)]),(2,.pointer (some ⟨Aj,0,none⟩)),(4,.pointer (some ⟨dB,0,none⟩)),(5,.pointer (some ⟨oH,0,none⟩)),(18,.slice fQ hG.length fR),(19,I (hG.length:Int)),(20,I i3)]∧Mem w0.heap.size w0 w [.row 3 1 A2 gB.length c2 ((cI .i64).all gB),.blk oH 50 [I jJ,I kV,.slice A2 gB.length c2],.blk dB 50 [I 0,I 0,.slice none ([]:List Int).length 0],.blk Aj 50 [I jJ,I kV,.slice fQ hG.length fR]]) (M.pick [0,1,2,3] aD) ?_ ?_
  ·clear M h;rintro ⟨tZ,i4⟩ a w ⟨K,M⟩ h;try dsimp only at h
   revert a;refine eA 5 ?_;intro w M;exact cB 3 (M.pick [0] aD)
  clear M h;rintro kk fuel ⟨gB,i3⟩ a w hk1 ⟨K,M⟩ h;unfold eX at h;revert a;refine d7 6 h ?_ ?_
  ·intro hb h;obtain ⟨e7,vB,h⟩:=aB h;refine aK 7 ?_;refine aR (fun _ K=>hZ rfl fM K rfl rfl (dH lV) vB) M ?_;refine aR (fun _ K=>gO rfl jK K rfl rfl (dH lV) vB rfl) M ?_;refine aK 4 ?_;intro a K;refine aN (fun w=>Mem _ _ w _) [0,0,0,0,0,0,0,0,0,0,0,0,0,1,0,0,2] aG aG M.drew ?_;replace M:=M.drew;revert a;obtain ⟨_,h0,h⟩:=aB h;have h0:=d6 h0;refine aK 8 ?_;refine gI (fun _ K=>qA rfl K rfl rfl h0) ?_;obtain ⟨_,h0,h⟩:=aB h;have h0:=d6 h0;refine aK 3 ?_;refine gI (fun _ K=>j5 rfl K rfl rfl h0) ?_;obtain ⟨r5,t7,h⟩:=aB h;intro a K;refine uJ K (dX (vs:=[I e7,I (Int.tmod i3 jJ),I (IntKind.i64.wrap (Int.tdiv i3 jJ))]) (cap:=[.pointer (some ⟨yH,0,none⟩),.pointer (some ⟨yI,0,none⟩)]) rfl Ru K rfl rfl (Ef t7 (Bn Gp _ M) (Bn Gq _ M))) ?_;clear K;rintro _ a w ⟨rfl,Zq⟩ K;replace M:=M.call Zq;clear Zq;refine ⟨M.pick [0,1,2,3] aD,?_⟩;revert a;obtain ⟨e8,Ag,h⟩:=aB h;refine aK 1 ?_;refine gI (fun _ K=>fO rfl fM K rfl rfl ((gY (C:=(cI .i64)) 0 rfl rfl) _ M) Ag) ?_;obtain ⟨l7,xW,h⟩:=aB h;intro a K;refine Ez K (gG (el:=min r5 65535) rfl Ci rfl rfl K rfl rfl rfl 0 M rfl xW) ?_;have M0:=M;clear K M;rintro _ a w M K;have hl:=iE xW;try rw [hl] at M
   try rw [hl] at K
   clear hl;clear M0;revert a;exact nS 8 (l7,IntKind.i64.wrap (i3+1)) (M.pick [0,1,2,3] aD)
  intro hb h;exact oB 3 (hk1 (gB,i3)) (M.pick [0,1,2,3] aD)
theorem K4 {N:Nat} {jJ kV:Int} {hG:List Int} {fQ:Option Addr} {fR:Nat} {CO CP CQ CR white:Int} {w0:World} {r:Int × Int × List Int × Int} (h:sD N jJ kV hG CO CP CQ CR white=some r) (lV:SL w0 (cI .i64) fQ hG) (sR:hG.length≤fR) :
  Calls Tryz.prog 190 #[.agg #[I jJ,I kV,.slice fQ hG.length fR],.agg #[I CO,I CP,I CQ,I CR],I white] w0 fun e w'=>∃v,e = .returned v∧∃A2 c2,v = .tuple #[.agg #[I r.1,I r.2.1,.slice A2 r.2.2.1.length c2],I r.2.2.2]∧Mem w0.heap.size w0 w' [.row 3 1 A2 r.2.2.1.length c2 ((cI .i64).all r.2.2.1)]:=by
 refine gE Tryz.func190 Tryz.ntmps190 ?_;intro M;unfold sD at h;refine gJ 2 ?_;intro Aj w M;refine gJ 0 ?_;intro Tn w M;refine gJ 0 ?_;intro To w M;refine gJ 0 ?_;intro dB w M;obtain ⟨r2,dM,h⟩:=aB h;refine j1 7 (Gn dM ((dH lV) _ M) sR) ?_;intro w M;refine d7 3 h ?_ ?_
 ·intro hb h;refine eA 3 ?_;intro w M;exact bZ 5 (((Mem.aF 3 1 (cI .i64) M)).pick [0] aD)
 intro hb h;refine tI 10 0 (fun (i:Int) a w=>Kn a 34 [(3,.pointer (some ⟨Aj,0,none⟩)),(4,.pointer (some ⟨Tn,0,none⟩)),(5,.pointer (some ⟨To,0,none⟩)),(6,.pointer (some ⟨dB,0,none⟩)),(14,.agg #[I CO,I CP,I CQ,I CR]),(15,I i)]∧Mem w0.heap.size w0 w [.blk dB 50 [I 0,I 0,.slice none ([]:List Int).length 0],.blk To 3 [I white],.blk Tn 38 [I CO,I CP,I CQ,I CR],.blk Aj 50 [I jJ,I kV,.slice fQ hG.length fR]]) (M.pick [0,1,2,3] aD) ?_ ?_
 ·clear M h;rintro i2 a w ⟨K,M⟩ h;try dsimp only at h
  revert a;obtain ⟨r3,jI,h⟩:=aB h;refine j1 6 (Bh jI ((dH lV) _ M) sR (M.aL (i:=2) rfl) (M.aL (i:=1) rfl)) ?_;intro A c w M;refine eA 0 ?_;intro w M;exact bZ 4 (M.pick [0] aD)
 clear M h;rintro kk fuel i a w hk1 ⟨K,M⟩ h;unfold jW at h;revert a;refine d7 6 h ?_ ?_
 ·intro hb h;obtain ⟨e2,kL,h⟩:=aB h;refine aK 6 ?_;refine aR (fun _ K=>GD (C:=(cI .i64)) (es:=[CO,CP,CQ,CR]) rfl NN jK K rfl rfl rfl kL rfl) M ?_;refine lG 8 20 h ?_ ?_
  ·intro hb h;refine eA 14 ?_;intro w M;exact bZ 9 (((Mem.aF 3 1 (cI .i64) M)).pick [0] aD)
  intro hb h;refine lG 5 25 h ?_ ?_
  ·intro hb h;refine eA 9 ?_;intro w M;exact bZ 9 (((Mem.aF 3 1 (cI .i64) M)).pick [0] aD)
  intro hb h;refine d7 5 h ?_ ?_
  ·intro hb h;refine eA 3 ?_;intro w M;exact bZ 9 (((Mem.aF 3 1 (cI .i64) M)).pick [0] aD)
  intro hb h;exact nS 8 (IntKind.i64.wrap (i+1)) (M.pick [0,1,2,3] aD)
 intro hb h;exact oB 3 (hk1 i) (M.pick [0,1,2,3] aD)
theorem EU {N:Nat} {phase x2 y:Int} {w0:World} {r:Int} (h:oR N phase x2 y=some r) :
  Calls Tryz.prog 99 #[I phase,I x2,I y] w0 fun e w'=>∃v,e = .returned v∧v=I r∧Mem w0.heap.size w0 w' []:=by
 refine gE Tryz.func99 Tryz.ntmps99 ?_;intro M;unfold oR at h;refine aK 13 ?_;refine aR (fun _ K=>oL rfl K rfl rfl aD) M ?_;exact cB 7 (M.pick [] aD)
theorem EV {N:Nat} {n x2 y P9 Qa Qb v1:Int} {p7 EG:Nat} {w0:World} {r:Int} (h:tE N n x2 y P9 Qa Qb v1=some r) (tC:g9 w0 p7 40 #[I P9,I Qa,I Qb]) (K3:g9 w0 EG 3 #[I v1]) :
  Calls Tryz.prog 195 #[I n,I x2,I y,.pointer (some ⟨p7,0,none⟩),.pointer (some ⟨EG,0,none⟩)] w0 fun e w'=>∃v,e = .returned v∧v=I r∧Mem w0.heap.size w0 w' []:=by
 refine gE Tryz.func195 Tryz.ntmps195 ?_;intro M;unfold tE at h;obtain ⟨r2,dM,h⟩:=aB h;refine j1 11 (EU dM) ?_;intro w M;obtain ⟨_,h0,h⟩:=aB h;have h0:=Fg h0;refine aR (fun _ K=>mZ rfl GP Ci K rfl rfl h0.1 h0.2) M ?_;obtain ⟨e,JH,h⟩:=aB h;refine aR (fun _ K=>He rfl jK K rfl (Bn tC) rfl rfl JH) M ?_;refine aK 1 ?_;refine aR (fun _ K=>oL rfl K rfl rfl aD) M ?_;exact cB 4 (M.pick [] aD)
theorem BJ {N:Nat} {jJ kV:Int} {hG:List Int} {fQ:Option Addr} {fR:Nat} {Aq Ar As CS:Int} {Ay Az:Nat} {w0:World} {r:Int × Int × List Int} (h:lJ N jJ kV hG Aq Ar As CS=some r) (lV:SL w0 (cI .i64) fQ hG) (sR:hG.length≤fR) (H1:g9 w0 Ay 40 #[I Aq,I Ar,I As]) (H2:g9 w0 Az 3 #[I CS]) :
  Calls Tryz.prog 66 #[.agg #[I jJ,I kV,.slice fQ hG.length fR],.func (.func 195) #[] #[.pointer (some ⟨Ay,0,none⟩),.pointer (some ⟨Az,0,none⟩)]] w0 fun e w'=>∃v,e = .returned v∧∃A2 c2,v = .agg #[I r.1,I r.2.1,.slice A2 r.2.2.length c2]∧Mem w0.heap.size w0 w' [.row 3 1 A2 r.2.2.length c2 ((cI .i64).all r.2.2)]:=by
 refine gE Tryz.func66 Tryz.ntmps66 ?_;intro M;unfold lJ at h;refine gJ 2 ?_;intro Aj w M;refine gJ 0 ?_;intro dB w M;refine aK 3 ?_;intro a K;refine jZ (fun w=>Mem _ _ w _) [0,0,0,0,0,0,0,1,0,1,2] 11 [0,1,2,3,4,5,6,7,8,9,10] aG aG aG rfl M.drew ?_;replace M:=M.drew;revert a;obtain ⟨x2,hx,h⟩:=jU h;refine aK 6 ?_;intro a K;refine fB 6 [7,8,9,10] aG rfl K (aA rfl) rfl rfl (P6 hx (uO rfl LE K rfl)) ?_;clear K;intro a K;refine eI [7,9] aG ⟨?_,?_,trivial⟩
 ·obtain ⟨l2,vA,h⟩:=aB h;refine iR [8,9,10] aG rfl K (aA rfl) rfl rfl (nV (C:=(cI .i64)) (z:=0) rfl fM rfl z3 rfl K rfl rfl M vA) ?_;clear K M;rintro _ a w ⟨A,c,rfl,M⟩ K;refine ⟨fun _=>M.pick [1,2] aD,?_⟩;refine fB 8 [9,10] aG rfl K (aA rfl) rfl rfl (aP rfl K (vs:=[(0,I jJ),(1,I kV),(2,.slice A l2.length c)]) (cs:=[I jJ,I kV,.slice A l2.length c]) rfl aG) ?_;clear K;intro a K;refine eI [9] aG ⟨?_,trivial⟩;refine iR [10] aG rfl K (aA rfl) rfl rfl (eW rfl z50 M) ?_;clear K M;rintro _ a w ⟨nT,rfl,M⟩ K;refine ⟨fun _=>M.pick [2,3] aD,?_⟩;refine eI [10] aG ⟨?_,trivial⟩;refine qW [] aG rfl K (aA rfl) rfl (bV rfl DR K rfl (ds:=[I jJ,I kV,.slice A l2.length c]) rfl rfl 0 M rfl rfl rfl) ?_;clear K M;rintro _ a w M K;refine ⟨fun h=>absurd h aD,?_⟩;revert a;refine tI 12 0 (fun (⟨dA,i⟩:List Int × Int) a w=>Kn a 43 [(1,.func (.func 195) #[] #[.pointer (some ⟨Ay,0,none⟩),.pointer (some ⟨Az,0,none⟩)]),(2,.pointer (some ⟨Aj,0,none⟩)),(4,.pointer (some ⟨dB,0,none⟩)),(5,.pointer (some ⟨nT,0,none⟩)),(18,.slice fQ hG.length fR),(19,I (hG.length:Int)),(20,I i)]∧Mem w0.heap.size w0 w [.blk nT 50 [I jJ,I kV,.slice A dA.length c],.row 3 1 A dA.length c ((cI .i64).all dA),.blk dB 50 [I 0,I 0,.slice none ([]:List Int).length 0],.blk Aj 50 [I jJ,I kV,.slice fQ hG.length fR]]) (M.pick [0,1,2,3] aD) ?_ ?_
  ·clear M h;rintro ⟨oF,i2⟩ a w ⟨K,M⟩ h;try dsimp only at h
   revert a;refine eA 5 ?_;intro w M;exact cB 3 (M.pick [1] aD)
  clear M h;rintro kk fuel ⟨dA,i⟩ a w hk1 ⟨K,M⟩ h;unfold fN at h;revert a;refine d7 6 h ?_ ?_
  ·intro hb h;obtain ⟨e3,lY,h⟩:=aB h;refine aK 7 ?_;refine aR (fun _ K=>hZ rfl fM K rfl rfl (dH lV) lY) M ?_;refine aR (fun _ K=>gO rfl jK K rfl rfl (dH lV) lY rfl) M ?_;refine aK 4 ?_;intro a K;refine aN (fun w=>Mem _ _ w _) [0,0,0,0,0,0,0,0,0,0,0,0,0,1,0,0,2] aG aG M.drew ?_;replace M:=M.drew;revert a;obtain ⟨_,h0,h⟩:=aB h;have h0:=d6 h0;refine aK 8 ?_;refine gI (fun _ K=>qA rfl K rfl rfl h0) ?_;obtain ⟨_,h0,h⟩:=aB h;have h0:=d6 h0;refine aK 3 ?_;refine gI (fun _ K=>j5 rfl K rfl rfl h0) ?_;obtain ⟨r3,jI,h⟩:=aB h;intro a K;refine uJ K (dX (vs:=[I e3,I (Int.tmod i jJ),I (IntKind.i64.wrap (Int.tdiv i jJ))]) (cap:=[.pointer (some ⟨Ay,0,none⟩),.pointer (some ⟨Az,0,none⟩)]) rfl Rv K rfl rfl (EV jI (Bn H1 _ M) (Bn H2 _ M))) ?_;clear K;rintro _ a w ⟨rfl,Zq⟩ K;replace M:=M.call Zq;clear Zq;refine ⟨M.pick [0,1,2,3] aD,?_⟩;revert a;obtain ⟨e4,t6,h⟩:=aB h;refine aK 1 ?_;refine gI (fun _ K=>fO rfl fM K rfl rfl ((gY (C:=(cI .i64)) 1 rfl rfl) _ M) t6) ?_;obtain ⟨l4,yN,h⟩:=aB h;intro a K;refine Ez K (gG (el:=min r3 65535) rfl Ci rfl rfl K rfl rfl rfl 1 M rfl yN) ?_;have M0:=M;clear K M;rintro _ a w M K;have hl:=iE yN;try rw [hl] at M
   try rw [hl] at K
   clear hl;clear M0;revert a;exact nS 8 (l4,IntKind.i64.wrap (i+1)) (M.pick [0,1,2,3] aD)
  intro hb h;exact oB 3 (hk1 (dA,i)) (M.pick [0,1,2,3] aD)
 ·refine iR [7,8,10] aG rfl K (aA rfl) rfl rfl (eW rfl z50 M) ?_;clear K M;rintro _ a w ⟨oH,rfl,M⟩ K;refine ⟨fun _=>M.pick [1,2] aD,?_⟩;refine eI [7] aG ⟨?_,trivial⟩;obtain ⟨l5,xV,h⟩:=aB h;refine iR [8,10] aG rfl K (aA rfl) rfl rfl (nV (C:=(cI .i64)) (z:=0) rfl fM rfl z3 rfl K rfl rfl M xV) ?_;clear K M;rintro _ a w ⟨A2,c2,rfl,M⟩ K;refine ⟨fun _=>M.pick [2,3] aD,?_⟩;refine fB 8 [10] aG rfl K (aA rfl) rfl rfl (aP rfl K (vs:=[(0,I jJ),(1,I kV),(2,.slice A2 l5.length c2)]) (cs:=[I jJ,I kV,.slice A2 l5.length c2]) rfl aG) ?_;clear K;intro a K;refine eI [10] aG ⟨?_,trivial⟩;refine qW [] aG rfl K (aA rfl) rfl (bV rfl DR K rfl (ds:=[I jJ,I kV,.slice A2 l5.length c2]) rfl rfl 1 M rfl rfl rfl) ?_;clear K M;rintro _ a w M K;refine ⟨fun h=>absurd h aD,?_⟩;revert a;refine tI 12 0 (fun (⟨gB,i3⟩:List Int × Int) a w=>Kn a 43 [(1,.func (.func 195) #[] #[.pointer (some ⟨Ay,0,none⟩),.pointer (some ⟨Az,0,none⟩)]),(2,.pointer (some ⟨Aj,0,none⟩)),(4,.pointer (some ⟨dB,0,none⟩)),(5,.pointer (some ⟨oH,0,none⟩)),(18,.slice fQ hG.length fR),(19,I (hG.length:Int)),(20,I i3)]∧Mem w0.heap.size w0 w [.row 3 1 A2 gB.length c2 ((cI .i64).all gB),.blk oH 50 [I jJ,I kV,.slice A2 gB.length c2],.blk dB 50 [I 0,I 0,.slice none ([]:List Int).length 0],.blk Aj 50 [I jJ,I kV,.slice fQ hG.length fR]]) (M.pick [0,1,2,3] aD) ?_ ?_
  ·clear M h;rintro ⟨tZ,i4⟩ a w ⟨K,M⟩ h;try dsimp only at h
   revert a;refine eA 5 ?_;intro w M;exact cB 3 (M.pick [0] aD)
  clear M h;rintro kk fuel ⟨gB,i3⟩ a w hk1 ⟨K,M⟩ h;unfold fN at h;revert a;refine d7 6 h ?_ ?_
  ·intro hb h;obtain ⟨e7,vB,h⟩:=aB h;refine aK 7 ?_;refine aR (fun _ K=>hZ rfl fM K rfl rfl (dH lV) vB) M ?_;refine aR (fun _ K=>gO rfl jK K rfl rfl (dH lV) vB rfl) M ?_;refine aK 4 ?_;intro a K;refine aN (fun w=>Mem _ _ w _) [0,0,0,0,0,0,0,0,0,0,0,0,0,1,0,0,2] aG aG M.drew ?_;replace M:=M.drew;revert a;obtain ⟨_,h0,h⟩:=aB h;have h0:=d6 h0;refine aK 8 ?_;refine gI (fun _ K=>qA rfl K rfl rfl h0) ?_;obtain ⟨_,h0,h⟩:=aB h;have h0:=d6 h0;refine aK 3 ?_;refine gI (fun _ K=>j5 rfl K rfl rfl h0) ?_;obtain ⟨r5,t7,h⟩:=aB h;intro a K;refine uJ K (dX (vs:=[I e7,I (Int.tmod i3 jJ),I (IntKind.i64.wrap (Int.tdiv i3 jJ))]) (cap:=[.pointer (some ⟨Ay,0,none⟩),.pointer (some ⟨Az,0,none⟩)]) rfl Rv K rfl rfl (EV t7 (Bn H1 _ M) (Bn H2 _ M))) ?_;clear K;rintro _ a w ⟨rfl,Zq⟩ K;replace M:=M.call Zq;clear Zq;refine ⟨M.pick [0,1,2,3] aD,?_⟩;revert a;obtain ⟨e8,Ag,h⟩:=aB h;refine aK 1 ?_;refine gI (fun _ K=>fO rfl fM K rfl rfl ((gY (C:=(cI .i64)) 0 rfl rfl) _ M) Ag) ?_;obtain ⟨l7,xW,h⟩:=aB h;intro a K;refine Ez K (gG (el:=min r5 65535) rfl Ci rfl rfl K rfl rfl rfl 0 M rfl xW) ?_;have M0:=M;clear K M;rintro _ a w M K;have hl:=iE xW;try rw [hl] at M
   try rw [hl] at K
   clear hl;clear M0;revert a;exact nS 8 (l7,IntKind.i64.wrap (i3+1)) (M.pick [0,1,2,3] aD)
  intro hb h;exact oB 3 (hk1 (gB,i3)) (M.pick [0,1,2,3] aD)
theorem LJ {N:Nat} {jJ kV:Int} {hG:List Int} {fQ:Option Addr} {fR:Nat} {phase CT CU CV:Int} {w0:World} {r:Int × Int × List Int × Int} (h:tP N jJ kV hG phase CT CU CV=some r) (lV:SL w0 (cI .i64) fQ hG) (sR:hG.length≤fR) :
  Calls Tryz.prog 194 #[.agg #[I jJ,I kV,.slice fQ hG.length fR],I phase,.agg #[I CT,I CU,I CV]] w0 fun e w'=>∃v,e = .returned v∧∃A2 c2,v = .tuple #[.agg #[I r.1,I r.2.1,.slice A2 r.2.2.1.length c2],I r.2.2.2]∧Mem w0.heap.size w0 w' [.row 3 1 A2 r.2.2.1.length c2 ((cI .i64).all r.2.2.1)]:=by
 refine gE Tryz.func194 Tryz.ntmps194 ?_;intro M;unfold tP at h;refine gJ 2 ?_;intro Aj w M;refine gJ 0 ?_;intro Tp w M;refine gJ 0 ?_;intro Tq w M;refine gJ 0 ?_;intro dB w M;obtain ⟨r2,dM,h⟩:=aB h;refine j1 7 (Gn dM ((dH lV) _ M) sR) ?_;intro w M;refine d7 3 h ?_ ?_
 ·intro hb h;refine eA 3 ?_;intro w M;exact bZ 5 (((Mem.aF 3 1 (cI .i64) M)).pick [0] aD)
 intro hb h;refine tI 10 0 (fun (i:Int) a w=>Kn a 37 [(3,.pointer (some ⟨Aj,0,none⟩)),(4,.pointer (some ⟨Tp,0,none⟩)),(5,.pointer (some ⟨Tq,0,none⟩)),(6,.pointer (some ⟨dB,0,none⟩)),(14,.agg #[I CT,I CU,I CV]),(15,I i)]∧Mem w0.heap.size w0 w [.blk dB 50 [I 0,I 0,.slice none ([]:List Int).length 0],.blk Tq 40 [I CT,I CU,I CV],.blk Tp 3 [I phase],.blk Aj 50 [I jJ,I kV,.slice fQ hG.length fR]]) (M.pick [0,1,2,3] aD) ?_ ?_
 ·clear M h;rintro i2 a w ⟨K,M⟩ h;try dsimp only at h
  revert a;obtain ⟨r3,jI,h⟩:=aB h;refine j1 6 (BJ jI ((dH lV) _ M) sR (M.aL (i:=1) rfl) (M.aL (i:=2) rfl)) ?_;intro A c w M;refine eA 0 ?_;intro w M;exact bZ 4 (M.pick [0] aD)
 clear M h;rintro kk fuel i a w hk1 ⟨K,M⟩ h;unfold kQ at h;revert a;refine d7 6 h ?_ ?_
 ·intro hb h;obtain ⟨e2,kL,h⟩:=aB h;refine aK 6 ?_;refine aR (fun _ K=>GD (C:=(cI .i64)) (es:=[CT,CU,CV]) rfl GP jK K rfl rfl rfl kL rfl) M ?_;refine lG 8 20 h ?_ ?_
  ·intro hb h;refine eA 17 ?_;intro w M;exact bZ 9 (((Mem.aF 3 1 (cI .i64) M)).pick [0] aD)
  intro hb h;refine lG 4 24 h ?_ ?_
  ·intro hb h;refine eA 13 ?_;intro w M;exact bZ 9 (((Mem.aF 3 1 (cI .i64) M)).pick [0] aD)
  intro hb h;refine lG 4 28 h ?_ ?_
  ·intro hb h;refine eA 9 ?_;intro w M;exact bZ 9 (((Mem.aF 3 1 (cI .i64) M)).pick [0] aD)
  intro hb h;refine d7 5 h ?_ ?_
  ·intro hb h;refine eA 3 ?_;intro w M;exact bZ 9 (((Mem.aF 3 1 (cI .i64) M)).pick [0] aD)
  intro hb h;exact nS 8 (IntKind.i64.wrap (i+1)) (M.pick [0,1,2,3] aD)
 intro hb h;exact oB 3 (hk1 i) (M.pick [0,1,2,3] aD)
theorem BL {N:Nat} {phase x2 y:Int} {w0:World} {r:Int × Int} (h:lK N phase x2 y=some r) :
  Calls Tryz.prog 72 #[I phase,I x2,I y] w0 fun e w'=>∃v,e = .returned v∧v = .tuple #[I r.1,I r.2]∧Mem w0.heap.size w0 w' []:=by
 refine gE Tryz.func72 Tryz.ntmps72 ?_;intro M;unfold lK at h;refine lG 12 10 h ?_ ?_
 ·intro hb h;exact bZ 22 (M.pick [] aD)
 intro hb h;refine lG 4 14 h ?_ ?_
 ·intro hb h;exact bZ 18 (M.pick [] aD)
 intro hb h;refine lG 4 18 h ?_ ?_
 ·intro hb h;exact bZ 14 (M.pick [] aD)
 intro hb h;refine d7 5 h ?_ ?_
 ·intro hb h;exact bZ 8 (M.pick [] aD)
 intro hb h;obtain ⟨r2,dM,h⟩:=aB h;refine j1 9 (EU dM) ?_;intro w M;exact bZ 5 (M.pick [] aD)
end
section
open Go.RowKit Go.Shelf
attribute [local go_sem] Oper.semAt_some
abbrev LK (W H:Int) (q:YD W H):Array Value:=#[.int .i64 q.1.1,.int .i64 q.1.2]
def Tr (L:List Nat) (A B:World):Prop:=∀k∈L,k<A.heap.size→B.heap[k]? = A.heap[k]?
theorem LL (n:Nat) (hn:1≤n) (W H x y:Int) (A:Option Addr) (m c gp gx gy:Nat) (hW:W≤64) (hH:H≤64) (hx:0≤x∧x<W) (hy:0≤y∧y<H) (w:World)
  (bp:g9 w gp 50 #[.int .i64 W,.int .i64 H,.slice A m c]) (bx:g9 w gx 3 #[.int .i64 x]) (by_:g9 w gy 3 #[.int .i64 y]) :
  SeqStopsK Fence.wide n Tryz.prog 200 #[.pointer (some ⟨gy,0,none⟩),.pointer (some ⟨gp,0,none⟩),.pointer (some ⟨gx,0,none⟩)] (LK W H) (Tr [gp,gx,gy])
   (fun xs=>xs.map (·.1)=jH W H x y) (fun _=>True) (jH W H x y).length w:=fun l J Jx W0 hb0 hJ hJx hY h0=>by
 have bp0:g9 W0 gp 50 #[.int .i64 W,.int .i64 H,.slice A m c]:=bp.below hb0 bp.lt;have bx0:g9 W0 gx 3 #[.int .i64 x]:=bx.below hb0 bx.lt;have by0:g9 W0 gy 3 #[.int .i64 y]:=by_.below hb0 by_.lt;refine callsIn_of_wp Tryz.func200 rfl trivial ?_ rfl;simp only [Tryz.ntmps200,List.size_toArray,List.length_cons,List.length_nil,Nat.reduceAdd,Nat.reduceSub,Array.replicate_succ,Array.replicate_zero,List.push_toArray,List.append_toArray,List.nil_append,List.cons_append];have cy0:W0.cell? ⟨gy,0,none⟩=some (.int .i64 y):=by0.c1.1;have m1:IntKind.i64.wrap (y-1)=y-1:=IntWalk.i64_in _ (by omega);have m2:IntKind.i64.wrap (x-1)=x-1:=IntWalk.i64_in _ (by omega);have m3:IntKind.i64.wrap (y+1)=y+1:=IntWalk.i64_in _ (by omega);have m4:IntKind.i64.wrap (x+1)=x+1:=IntWalk.i64_in _ (by omega);have hst:∀v:Int,v=max (y-1) 0→∃(pre:List (YD W H)) (k:Nat),pre.map (·.1)++Ty W H x y k v=jH W H x y∧y+1-v<k∧0≤v∧v≤64∧J pre W0:=fun v hv=>⟨[],4,by subst hv;rfl,by omega,by omega,by omega,h0⟩
 clear hb0 bp bx by_ h0
 gi_wp2
 all_goals
  gi_loopw [5] (fun a wr=>∃(v:Int) (pre:List (YD W H)) (k:Nat),a = .int .i64 v∧pre.map (·.1)++Ty W H x y k v=jH W H x y∧y+1-v<k∧0≤v∧v≤64∧J pre wr ∧
    g9 wr gp 50 #[.int .i64 W,.int .i64 H,.slice A m c]∧g9 wr gx 3 #[.int .i64 x]∧g9 wr gy 3 #[.int .i64 y]) (fun a _=>70-(intOf a).toNat)
  case atStart=>
   obtain ⟨pre,k,h1,h2,h3,h4,h5⟩:=hst _ rfl;exact ⟨max (y-1) 0,pre,k,congrArg (Value.int .i64) (by omega),h1,h2,h3,h4,h5,bp0,bx0,by0⟩
  case round=>
   obtain ⟨v,pre,k,rfl,h1,h2,h3,h4,hJs,bp1,bx1,by1⟩:=hrel;have cy1:wr.cell? ⟨gy,0,none⟩=some (.int .i64 y):=by1.c1.1;have cx1:wr.cell? ⟨gx,0,none⟩=some (.int .i64 x):=bx1.c1.1;obtain ⟨cp0,cp1,cp2⟩:=bp1.c3;have m5:IntKind.i64.wrap (v+1)=v+1:=IntWalk.i64_in _ (by omega)
   by_cases hv:v≤y+1∧v<H
   ·obtain ⟨k,rfl⟩:∃q,k=q+1:=⟨k-1,by omega⟩
    rw [Ty,if_pos hv] at h1;obtain ⟨hv1,hv2⟩:=hv;have aEI:∃(H3:List (YD W H)) (j:Nat),H3.map (·.1)++(Vm W x y v j (max (x-1) 0)++Ty W H x y k (v+1))=jH W H x y∧x+1-max (x-1) 0<j∧J H3 wr:=⟨pre,4,h1,by omega,hJs⟩
    clear h1 hJs hst cy0 bp0 bx0 by0
    gi_wp2
    all_goals
     gi_loopw [6] (fun b wr2=>∃(u:Int) (H3:List (YD W H)) (j:Nat),b = .int .i64 u∧H3.map (·.1)++(Vm W x y v j u++Ty W H x y k (v+1))=jH W H x y∧x+1-u<j∧0≤u∧u≤64∧J H3 wr2 ∧
       g9 wr2 gp 50 #[.int .i64 W,.int .i64 H,.slice A m c]∧g9 wr2 gx 3 #[.int .i64 x]∧g9 wr2 gy 3 #[.int .i64 y]) (fun b _=>70-(intOf b).toNat)
     case atStart=>
      obtain ⟨H3,j,h5,h6,h7⟩:=aEI;exact ⟨max (x-1) 0,H3,j,congrArg (Value.int .i64) (by omega),h5,h6,by omega,by omega,h7,bp1,bx1,by1⟩
     case round=>
      clear aEI cy1 cx1 cp0 cp1 cp2 bp1 bx1 by1;obtain ⟨u,H3,j,rfl,h5,h6,h7,h8,hJ2,bp2,bx2,by2⟩:=hrel;have cy2:=by2.c1.1;have cx2:=bx2.c1.1;obtain ⟨cp0,cp1,cp2⟩:=bp2.c3;have m6:IntKind.i64.wrap (u+1)=u+1:=IntWalk.i64_in _ (by omega)
      by_cases hu:u≤x+1∧u<W
      ·obtain ⟨j,rfl⟩:∃q,j=q+1:=⟨j-1,by omega⟩
       rw [Vm,if_pos hu] at h5;obtain ⟨hu1,hu2⟩:=hu
       by_cases hne:u≠x∨v≠y
       ·rw [if_pos hne] at h5;have hlen:H3.length<(jH W H x y).length:=by rw [←h5];simp
        obtain ⟨fn,tmps,assign,body,hyl,hR⟩:=hY H3 ⟨(u,v),h7,hu2,h3,hv2⟩ _ hJ2 hlen;dsimp only [LK] at hyl;have h5':(H3++[(⟨(u,v),h7,hu2,h3,hv2⟩:YD W H)]).map (·.1)++(Vm W x y v j (u+1)++Ty W H x y k (v+1))=jH W H x y:=by rw [←h5];simp
        clear h5 hJ2
        by_cases hux:u=x
        ·have hvy:¬v=y:=by omega
         subst hux
         gi_wp2
         all_goals
          refine hR.mono ?_;rintro e W3 (⟨rfl,hJ3,hk3⟩ | ⟨rfl,hJx3⟩)
          ·have bp3:g9 W3 gp 50 _:=(hk3 gp (by simp) bp2.lt).trans bp2;have bx3:g9 W3 gx 3 _:=(hk3 gx (by simp) bx2.lt).trans bx2;have by3:g9 W3 gy 3 _:=(hk3 gy (by simp) by2.lt).trans by2;clear cy2 cx2 cp0 cp1 cp2 bp2 bx2 by2 hk3
           gi_wp2
           refine ⟨⟨_,_,j,rfl,h5',by omega,by omega,by omega,hJ3,bp3,bx3,by3⟩,by simp [intOf];omega⟩
          ·gi_wp2
           refine bodyPost_ret (results_none rfl _ _ _) rfl ?_;exact ⟨⟨_,rfl⟩,.inr ⟨_,trivial,hJx3⟩⟩
        ·gi_wp2
         all_goals
          refine hR.mono ?_;rintro e W3 (⟨rfl,hJ3,hk3⟩ | ⟨rfl,hJx3⟩)
          ·have bp3:g9 W3 gp 50 _:=(hk3 gp (by simp) bp2.lt).trans bp2;have bx3:g9 W3 gx 3 _:=(hk3 gx (by simp) bx2.lt).trans bx2;have by3:g9 W3 gy 3 _:=(hk3 gy (by simp) by2.lt).trans by2;clear cy2 cx2 cp0 cp1 cp2 bp2 bx2 by2 hk3
           gi_wp2
           refine ⟨⟨_,_,j,rfl,h5',by omega,by omega,by omega,hJ3,bp3,bx3,by3⟩,by simp [intOf];omega⟩
          ·gi_wp2
           refine bodyPost_ret (results_none rfl _ _ _) rfl ?_;exact ⟨⟨_,rfl⟩,.inr ⟨_,trivial,hJx3⟩⟩
       ·rw [if_neg hne] at h5;obtain ⟨rfl,rfl⟩:u=x∧v=y:=by omega
        gi_wp2
        all_goals
         refine ⟨fun _ h=>(by cases h),?_⟩
         gi_wp2
         refine ⟨⟨_,H3,j,rfl,h5,by omega,by omega,by omega,hJ2,bp2,bx2,by2⟩,by simp [intOf];omega⟩
      ·have hend:H3.map (·.1)++Ty W H x y k (v+1)=jH W H x y:=by
        cases j with
        | zero=>simpa [Vm] using h5
        | succ j=>rw [Vm,if_neg hu] at h5;simpa using h5
       clear h5
       gi_wp2
       all_goals exact ⟨⟨_,H3,k,rfl,hend,by omega,by omega,by omega,hJ2,bp2,bx2,by2⟩,by simp [intOf];omega⟩
   ·have hend:pre.map (·.1)=jH W H x y:=by
     cases k with
     | zero=>simpa [Ty] using h1
     | succ k=>rw [Ty,if_neg hv] at h1;simpa using h1
    clear h1
    gi_wp2
    all_goals
     go_end0
     exact ⟨⟨_,rfl⟩,.inl ⟨pre,hend,hJs⟩⟩
end
section
open Go.RowKit
section
variable {P:Program} {ops:Array Oper} {Q:Exit→Act→World→Prop} {a:Act} {w:World} {o:Oper} {lp n:Nat}
def J5 (ops:Array Oper):Bool:=ops.all fun o=>match o.op with | .defer _=>false | _=>true
theorem aEJ {row:String} {args:Array Value} {R:Value→World→Prop} (h:Rows P row args w R):RowsIn (Fence.wide.inRound lp) n P row args w R:=
 fun c cs _=>let ⟨v,w',r,s⟩:=h c cs;⟨v,w',r,stepsIn_wide.2 s⟩
theorem aCT (hnd:∀c,o.op≠.defer c) {nx nx':Act→World→Prop} (hn:∀a w,nx a w→nx' a w) (h:o.wp P a w nx Q):o.wpIn (Fence.wide.inRound lp) n P a w nx' Q:=by
 refine ⟨fun f _=>trivial,?_⟩;have hs:Oper.semAt (Fence.wide.inRound lp).round a.eval o=execOp a.eval o:=Oper.semAt_some lp _ _ hnd;rw [hs];unfold Oper.wp at h
 generalize (execOp a.eval o).run P w=res at h
 have hd:∀k:Nat,(Fence.wide.inRound lp).depth.isSome=true→1≤k:=fun _ h=>by simp [Fence.wide] at h
 match res,h with
 | .ok (.value v) w',h=>exact hn _ _ h
 | .ok .skip w',h=>exact hn _ _ h
 | .ok (.defer d) w',h=>exact hn _ _ h
 | .ok (.enter f args) w',h=>
  refine ⟨hd _,CallsIn.inRound lp (callsIn_wide.2 (Calls.mono h ?_))⟩;intro e w'' he;cases e with
  | returned v=>exact hn _ _ he
  | panicked c=>exact he
  | outgrown=>exact he
 | .ok (.row row args) w',h=>
  refine ⟨hd _,?_⟩;have:=aEJ (lp:=lp) (n:=n-1) h;exact this.mono fun v w'' hv=>hn _ _ hv
 | .halt (.panic v) w',h=>exact h
 | .ok (.round ..) w',h=>exact h.elim
theorem H4 (hnd:∀(i:Nat) (o:Oper),ops[i]? = some o→∀c,o.op≠.defer c) (hq:¬LetsOut Q):∀(l:List Nat) (a:Act) (w:World),wpOps P ops Q l a w→wpOpsIn (Fence.wide.inRound lp) n P ops Q l a w
 | [],a,w,h=>h
 | i::rest,a,w,h=>by
  unfold wpOps at h;unfold wpOpsIn;cases ho:ops[i]? with
  | none=>simp only [ho] at h ⊢;exact H4 hnd hq rest a w h
  | some o=>
   simp only [ho] at h ⊢
   by_cases hw:Region.wanted o (yielded ops a.tmps)=true
   ·rw [if_pos hw] at h ⊢
    rcases h with h | ⟨_,h⟩
    ·exact aCT (hnd i o ho) (fun a w h=>H4 hnd hq rest a w h) h
    ·exact absurd h hq
   ·rw [if_neg hw] at h ⊢;exact ⟨fun f _=>trivial,H4 hnd hq rest _ w h⟩
theorem H5 {ops:Array Oper} (h:J5 ops=true) (i:Nat) (o:Oper) (ho:ops[i]? = some o):∀c,o.op≠.defer c:=by
 intro c e;unfold J5 at h;obtain ⟨hi,he⟩:=Array.getElem?_eq_some_iff.1 ho;have:=Array.all_eq_true.1 h i hi;rw [he,e] at this;cases this
theorem I2 {id:Nat} {ol:List Oper} (hnd:J5 ol.toArray=true) (hq:¬LetsOut Q) (h:wpList P ol.toArray Q ol a w):(Code.region id ol.toArray false).wpIn (Fence.wide.inRound lp) n P Q a w:=by
 refine wpIn_region (H4 (H5 hnd) hq _ a w ?_);have:=wpOps_eq_wpList (P:=P) (ops:=ol.toArray) (Q:=Q) ol 0 (by simp);rw [List.range_eq_range',show ol.toArray.size=ol.length by simp,this];exact h
theorem N5 {id:Nat} {l:List Oper} (S:World→Prop) (f:List Nat) (hm:P.follows .mixedOrders=true) (hok:Og l.toArray (lZ f) (iL f)=true) (hnd:J5 l.toArray=true) (hq:¬LetsOut Q)
  (hS:S w.drew) (h:nU P l.toArray S (Q .normal) (marked f l) a w.drew):(Code.region id l.toArray true).wpIn (Fence.wide.inRound lp) n P Q a w:=by
 refine wpIn_region_draw fun t=>H4 (H5 hnd) hq _ a _ ?_
 simp only [Region.schedule,hm,Bool.true_or,if_true];refine wpAny_sound l.toArray.size t _ a _ ?_;have h2:=Gx (ops:=l.toArray) (lZ f) (iL f) (marked f l) 0 a w.drew (fun j x hj=>by simpa using Gy f l j x hj) h;rw [Gz] at h2;have h3:ID P l.toArray S (lZ f) (iL f) (Q .normal) (List.range l.toArray.size) a w.drew:=by simpa [List.range_eq_range'] using h2
 have Gw:jF l.toArray (Array.replicate l.toArray.size false)=List.range l.toArray.size:=by
  unfold jF;refine List.filter_eq_self.2 fun i hi=>?_
  have:=List.mem_range.1 hi
  simp at this
  simp [this]
 refine I8 hok l.toArray.size (Array.replicate l.toArray.size false) a _ (by simp) ?_ (by rw [Gw];simp) (fun _ _ _=>hS) (by rw [Gw];exact h3);intro i hi;rw [vH] at hi;cases hi
theorem JI {α:Type} {C:uK α} {W0 W:World} {L:List kH} {A:Option Addr} {xs:List α} (hb:Below W0.heap.size W0 W) (h:SL W0 C A xs):∀w,Mem W0.heap.size W w L→SL w C A xs:=fun _ M=>h.below (hb.trans M.low)
theorem Mem.back {b:Nat} {W V w:World} {L L':List kH} (M:Mem b W V L) (M':Mem b V w L'):Mem b W w L':=⟨M.low.trans M'.low,M.P5.trans M'.P5,M.bs,M'.has,M'.up,M'.one⟩
theorem aAl (o:Obj):Yq o=o.isCells:=by cases o <;> rfl
theorem Mem.others {b:Nat} {W w:World} {L:List kH} (M:Mem b W w L):KeepsOthers W w:=⟨M.low.size,fun k o hk ho=>M.P5 k o hk (by rw [aAl];exact ho)⟩
theorem J6 {L L':List kH} (hf:L'.map kH.foot=L.map kH.foot) {i:Nat} {e:kH} (h:L'[i]? = some e):∃e0,L[i]? = some e0∧e0.foot=e.foot:=by
 have h1:(L'.map kH.foot)[i]? = some e.foot:=by rw [List.getElem?_map,h];rfl
 rw [hf,List.getElem?_map,Option.map_eq_some_iff] at h1;exact h1
theorem Mem.round {b:Nat} {W w V:World} {L L':List kH} (M:Mem b W w L) (hf:L'.map kH.foot=L.map kH.foot) (hb:Below b W V) (has:∀(i:Nat) (e:kH),L'[i]? = some e→kH.holds V e):Mem b V V L':=
  ⟨Below.refl _ _,yP.refl _,Nat.le_trans M.bs hb.size,has,
   fun i e g h hg=>by obtain ⟨e0,h0,h1⟩:=J6 hf h;exact M.up i e0 g h0 (h1.trans hg),
   fun i j e e' g h h' hg hg'=>by
     obtain ⟨e0,h0,h1⟩:=J6 hf h
     obtain ⟨e0',h0',h1'⟩:=J6 hf h'
     exact M.one i j e0 e0' g h0 h0' (h1.trans hg) (h1'.trans hg')⟩
theorem UG {β:Type} {b B:Nat} {W w:World} (f:β→List kH) {L:List kH} (M:Mem b W w L) (hB:w.heap.size=B) (hf:∀s,(f s).map kH.foot=L.map kH.foot) :
  OwnFrom B (fun (s:β) V=>Below b W V∧∀(i:Nat) (e:kH),(f s)[i]? = some e→kH.holds V e):=fun s V V' row hs hg hr=>by
 obtain ⟨h1,h2⟩:=hs;refine ⟨h1.grown hg (Nat.le_trans M.bs h1.size) (fun k hk=>by have:=(hr k hk).1;have:=M.sz;omega),fun i e h=>kH.keep (h2 i e h) fun g hg'=>hg.block g ?_ fun e2=>?_⟩
 ·exact kH.lt (h2 i e h) hg'
 ·have h3:=(hr g e2.symm).1;obtain ⟨e0,h0,h1'⟩:=J6 (hf s) h;have:=M.G9 i e0 g h0 (h1'.trans hg')
  omega
theorem Kd.ps2 {D:List Deferred} {N:Nat} {l:List (Nat × Value)} {i j:Nat} {u v:Value} (K:Kd D a N l) (hi:Nat.blt i N=true) (hj:Nat.blt j N=true) :
  Kn { tmps:=(#[i,j].zip #[u,v]).foldl (fun t (p,v)=>t.setIfInBounds p v) a.tmps,defers:=[] } N ((j,v)::(i,u)::l):=by
 have h1:=(K.put (d:=some i) (by simpa [LZ] using hi) u).put (d:=some j) (by simpa [LZ] using hj) v;have e:(#[i,j].zip #[u,v]).foldl (fun t (p,v)=>t.setIfInBounds p v) a.tmps=((a.put (some i) u).put (some j) v).tmps:=by simp [Act.put]
 exact ⟨rfl,by show Array.size _=N;rw [e];exact h1.size,fun s v hs=>by show Array.getD _ s undef=v;rw [e];exact h1.get s v hs⟩
theorem Kd.mark {N:Nat} {l:List (Nat × Value)} (K:Kn a N l) (d:Deferred):Kd [d] { a with defers:=d::a.defers } N l:=⟨by show d::a.defers=[d];rw [K.defs],K.size,K.get⟩
theorem aA5 {ol:List Oper} {x:Operand} (ho:o.op = .assign x) (hg:o.guard=none) (h:wpList P ops Q ol (a.put o.dst (a.eval x)) w):wpList P ops Q (o::ol) a w:=by
 have hw:Region.wanted o (yielded ops a.tmps)=true:=by simp [Region.wanted,hg]
 simp only [wpList,hw,if_true];refine .inl ?_;show o.upon P a _ Q ((execOp a.eval o).run P w);have:(execOp a.eval o).run P w = .ok (.value (a.eval x)) w:=by unfold execOp;simp [ho]
 rw [this];exact h
theorem XL {fn:Func} {Rp:Ending→World→Prop} {D N:Nat} {l:List (Nat × Value)} {r1:ResultVar} {v1:Value} (K:Kd [{ target:=.collected D,args:=#[] }] a N l) (hK:w.heap[D]? = some (.deferred (some []))) (hr:fn.results = #[r1])
  (h1:yB P a (w.putObj D (.deferred none)) r1 v1) (h:Rp (.returned v1) (w.putObj D (.deferred none))):bodyPostM Fence.wide n P fn Rp .ret a w:=by
 show LeavesInM Fence.wide n P fn a.tmps Rp a.defers .returning w;rw [K.defs];refine ⟨by simp,.inl ⟨_,_,rfl,run_takeDeferred hK,?_⟩⟩;refine ⟨v1,?_,h⟩;unfold yB at h1;rw [uP,hr];simp [h1]
theorem Mem.aCU {b:Nat} {W w:World} {L:List kH} (M:Mem b W w L) {D:Nat} (hb:b≤D) (hK:w.heap[D]? = some (.deferred (some []))) {i g:Nat} {t:TypeId} {cs:List Value} (h:L[i]? = some (.blk g t cs)):g9 (w.putObj D (.deferred none)) g t cs.toArray:=by
 have hne:g≠D:=fun e=>by
  have h1:w.heap[g]? = some (.cells cs.toArray t):=M.aL h;rw [e,hK] at h1;cases h1
 exact (World.putObj_heap_other hne).trans (M.aL h)
theorem GV {b:Nat} {W w:World} (h:Below b W w) {D:Nat} (hb:b≤D) (o:Obj):Below b W (w.putObj D o):=
 ⟨h.os,h.tape,h.output,by simpa using h.size,fun k hk=>(World.putObj_heap_other (by omega)).trans (h.block k hk)⟩
theorem Mem.fin {W w:World} (h:Below W.heap.size W w):Mem W.heap.size W w []:=⟨h,yP.below h,Nat.le_refl _,fun i e he=>by simp at he,fun i e g he=>by simp at he,fun i j e e' g he=>by simp at he⟩
theorem PJ {fn:Func} {code:Code} {fid:FuncId} {args:Array Value} {N:Nat} {Rp:Ending→World→Prop} (hf:P.funcs[fid]? = some fn) (hb:fn.body=some code) (hN:fn.ntmps=N) (hs:Nat.ble args.size N=true)
  (h:∀a,Kn a N (G8 0 args.toList)→code.wp P (bodyPostM Fence.wide 3 P fn Rp) a w):Calls P fid args w Rp:=by
 refine callsIn_wide.1 (callsIn_of_wp_marks (n:=3) hf hb trivial (wpIn_wide.2 ?_) rfl);rw [hN];exact h _ (Kd.start args N hs)
theorem RF {f:FuncId} (hf:iD P f=true) (args:Array Value) (w:World):(callFunc f args).run P w = .ok (.enter f args) w:=by
 unfold iD at hf
 split at hf
 ·rename_i fn hfn
  simp only [Bool.and_eq_true,bne_iff_ne,ne_eq] at hf;obtain ⟨b,hb⟩:=Option.isSome_iff_exists.1 hf.1
  simp [callFunc,hfn,hb,hf.2]
 ·cases hf
theorem PK {L:List Nat} {A B C:World} (h1:Tr L A B) (h2:Tr L B C):Tr L A C:=fun k hk hlt=>by
 have e:=h1 k hk hlt
 have hB:k<B.heap.size:=by
  have hA:A.heap[k]? = some A.heap[k]:=Array.getElem?_eq_getElem hlt;rw [hA] at e;exact (Array.getElem?_eq_some_iff.1 e).1
 exact (h2 k hk hB).trans e
theorem Kd.aF4 {D:List Deferred} {N:Nat} {l:List (Nat × Value)} {x1 x2:Operand} {d1 d2:Nat} {v1 v2:Value} (K:Kd D a N l) (h1:g7 l x1=some v1) (hd1:Nat.blt d1 N=true) (h2:g7 ((d1,v1)::l) x2=some v2) (hd2:Nat.blt d2 N=true) :
  Kd D ((a.put (some d1) (a.eval x1)).put (some d2) ((a.put (some d1) (a.eval x1)).eval x2)) N ((d2,v2)::(d1,v1)::l):=by
 have K1:=K.put (d:=some d1) (by simpa [LZ] using hd1) v1;rw [K.ev h1];have K2:=K1.put (d:=some d2) (by simpa [LZ] using hd2) v2;have e:(a.put (some d1) v1).eval x2=v2:=K1.ev h2;rw [e];exact K2
end
theorem N6:∀xs:List Int,(cI .i64).all xs=VI xs
 | []=>rfl
 | x::xs=>by
  have:=N6 xs;simp only [uK.all,VI,List.flatMap_cons,List.map_cons] at this ⊢;rw [this];rfl
theorem XT {w:World} {A:Option Addr} {xs:List Int} (h:SL w (cI .i64) A xs):RI w 0 A xs.length xs:=by
 refine ⟨by simp [VI],fun hn=>?_⟩;obtain ⟨b,o,hA,hc⟩:=h hn;have hall:=N6 xs;rw [hall] at hc;refine ⟨b,o,hA,Nat.zero_le _,?_,hc⟩;have h0:(VI xs)[0]? = some (.int .i64 xs[0]):=by simp [VI,List.getElem?_eq_getElem hn]
 exact block_lt_of_cell (hc 0 _ h0)
theorem XU {w:World} {A:Option Addr} {l:List (Int × Int)} (h:SL w fA A l):RS w 0 A l.length l:=by
 refine ⟨rfl,fun hn=>?_⟩;obtain ⟨b,o,hA,hc⟩:=h hn
 have key:∀(k:Nat) x y,l[k]? = some (x,y)→(fA.all l)[k*2]? = some (.int .i64 x)∧(fA.all l)[k*2+1]? = some (.int .i64 y):=fun k x y hk=>by
  exact ⟨by simpa [fA] using uK.yR fA l k 0 (x,y) _ hk rfl,uK.yR fA l k 1 (x,y) _ hk rfl⟩
 have h0:=(key 0 l[0].1 l[0].2 (List.getElem?_eq_getElem hn)).1;refine ⟨b,o,hA,Nat.zero_le _,block_lt_of_cell (hc _ _ h0),fun k x y hk=>?_⟩;obtain ⟨h1,h2⟩:=key k x y hk;exact ⟨hc _ _ h1,by have:=hc _ _ h2;rwa [←Nat.add_assoc] at this⟩
theorem Mem.aF7 {w w':World} {A:Option Addr} {n c:Nat} {xs:List Int} (hb:Below w.heap.size w w') (h:OI w' w.heap.size A n c xs) (hn:n≤maxLen):Mem w.heap.size w w' [.row 3 1 A xs.length c ((cI .i64).all xs)]:=by
 obtain ⟨g,rfl,rfl,hg,hl,hB⟩:=h;have hall:=N6 xs
 have M1:Mem w.heap.size w w' [.blk g 3 (VI xs)]:=by
  refine (Mem.Yz hb).cons hB fun g' hg'=>?_
  simp [kH.foot] at hg'
  subst hg';exact ⟨hg,fun i e h=>by simp at h⟩
 exact M1.jM 0 rfl (cI .i64) xs hall hl rfl hn
theorem tJ (N:Nat) (jJ kV:Int) (hG:List Int) (fQ:Option Addr) (fR:Nat) (l:List (Int × Int)) (A_l:Option Addr) (c_l:Nat) (w0:World) (lV:SL w0 (cI .i64) fQ hG) (sR:hG.length≤fR) (R_l:SL w0 fA A_l l) (C_l:l.length≤c_l) (r:Int × Int × List Int × Int) (h:fY N jJ kV hG l=some r) :
  Calls Tryz.prog 34 #[.agg #[.int .i64 jJ,.int .i64 kV,.slice fQ hG.length fR],.slice A_l l.length c_l] w0 fun e w'=>∃v,e = .returned v∧∃A2 c2,v = .tuple #[.agg #[.int .i64 r.1,.int .i64 r.2.1,.slice A2 r.2.2.1.length c2],.int .i64 r.2.2.2]∧Mem w0.heap.size w0 w' [.row 3 1 A2 r.2.2.1.length c2 ((cI .i64).all r.2.2.1)]:=by
 unfold fY at h
 split at h
 ·cases h
 rename_i hn
 have hn':hG.length≤maxLen:=by simp only [maxLen];omega
 have no:∀{w':World} (k:Int),Below w0.heap.size w0 w'→∃v,Ending.returned (.tuple #[H6,.int .i64 k])=Ending.returned v∧∃A2 c2,v = .tuple #[.agg #[.int .i64 (0:Int),.int .i64 (0:Int),.slice A2 ([]:List Int).length c2],.int .i64 k]∧Mem w0.heap.size w0 w' [.row 3 1 A2 ([]:List Int).length c2 ((cI .i64).all [])]:=
  fun k hb=>⟨_,rfl,none,0,rfl,Mem.aF 3 1 (cI .i64) (Mem.Yz hb)⟩
 split at h
 ·rename_i hf
  cases h;refine (PO jJ kV fQ A_l hG.length fR l.length c_l hG l w0 (XT lV) (XU R_l) hn' hf).mono ?_;rintro e w' ⟨rfl,hb⟩;exact no 1 hb
 rename_i hf
 have hf':dJ jJ kV hG=true:=by simpa using hf
 split at h
 ·rename_i hm
  cases h;refine (PP jJ kV fQ A_l hG.length fR l.length c_l hG l w0 (XT lV) (XU R_l) hn' hf' hm).mono ?_;rintro e w' ⟨rfl,hb⟩;exact no 2 hb
 rename_i hm
 obtain ⟨⟨h1,h2,h3,h4⟩,_,_⟩:=pD.1 hf';obtain ⟨m,rfl⟩:∃m:Nat,jJ=m:=⟨jJ.toNat,by omega⟩
 have hr:=PQ kV fQ A_l hG.length fR l.length c_l hG l w0 m (XT lV) (XU R_l) hn' hf' (by omega);refine hr.mono ?_;intro e w' hp;unfold rP at hp
 split at h
 ·rename_i ha
  cases h;rw [if_neg (by simp [ha])] at hp;obtain ⟨rfl,hb⟩:=hp;exact no 3 hb
 ·rename_i ha
  cases h;rw [if_pos (by simpa using ha)] at hp;obtain ⟨A',c',rfl,⟨_,ho⟩,hb⟩:=hp;have hl:((List.range hG.length).map (qR (m:Int) kV l hG)).length=hG.length:=by simp
  refine ⟨_,rfl,A',c',by rw [hl],Mem.aF7 hb ho hn'⟩
end
end Go.Proofs.YtpmnfhifmmfglabGreatDoor
