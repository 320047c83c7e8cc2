/- Texts of the claim RestPictures, joined and made small by a program. -/
import Derived.Recover
import Derived.Test.YtpmnfhifmmfglacGreatDoorRestPicturesK4
import Derived.Test.YtpmnfhifmmfglacGreatDoorRestPicturesK5
import Derived.Test.YtpmnfhifmmfglacGreatDoorRestPicturesK8
import Derived.Test.YtpmnfhifmmfglacGreatDoorRestPicturesK9
import Derived.Test.YtpmnfhifmmfglacGreatDoorRestPicturesK11
set_option linter.unusedVariables false
set_option linter.unusedSimpArgs false
set_option linter.unusedSectionVars false
set_option maxRecDepth 100000
set_option maxHeartbeats 8000000
namespace Go.Proofs.YtpmnfhifmmfglacGreatDoor
section
open Go.RowKit
theorem KK {N:Nat} {lens:List Int} {DM:Option Addr} {DN:Nat} {w0:World} {r:Int} (h:zU N lens=some r) (DO:SL w0 (cI .i64) DM lens) (aAI:lens.length≤DN) :
  Calls Tryz.prog 118 #[.slice DM lens.length DN] w0 fun e w'=>∃v,e = .returned v∧v=I r∧Mem w0.heap.size w0 w' []:=by
 refine gE Tryz.func118 Tryz.ntmps118 ?_;intro M;unfold zU at h;refine mF 12 9 h ?_ ?_
 ·intro hb h;exact aJ 14 (M.pick [] aD)
 intro hb h;refine dS 6 h ?_ ?_
 ·intro hb h;exact aJ 7 (M.pick [] aD)
 intro hb h;refine sP 16 0 (fun (⟨room,i⟩:Int × Int) a w=>Kn a 40 [(3,I room),(14,.slice DM lens.length DN),(15,I (lens.length:Int)),(16,I i)]∧Mem w0.heap.size w0 w []) M.nQ ?_ ?_
 ·clear M h;rintro ⟨Pp,i2⟩ a w ⟨K,M⟩ h;try dsimp only at h
  revert a;refine mF 8 36 h ?_ ?_
  ·intro hb h;exact aJ 13 (M.pick [] aD)
  intro hb h;refine dS 5 h ?_ ?_
  ·intro hb h;exact aJ 7 (M.pick [] aD)
  intro hb h;exact aJ 8 (M.pick [] aD)
 clear M h;rintro kk fuel ⟨room,i⟩ a w hk1 ⟨K,M⟩ h;unfold sS at h;revert a;refine dS 6 h ?_ ?_
 ·intro hb h;obtain ⟨e2,lV,h⟩:=aA h;refine aG 6 ?_;refine bQ (fun _ K=>fP rfl g9 K rfl rfl (bE DO) lV) M ?_;refine bQ (fun _ K=>fM rfl jO K rfl rfl (bE DO) lV rfl) M ?_;refine mF 9 22 h ?_ ?_
  ·intro hb h;exact aJ 18 (M.pick [] aD)
  intro hb h;refine dS 5 h ?_ ?_
  ·intro hb h;exact aJ 12 (M.pick [] aD)
  intro hb h;refine dS 8 h ?_ ?_
  ·intro hb h;obtain ⟨_,h0,h⟩:=aA h;have h0:=t6 h0;refine aG 4 ?_;refine bQ (fun _ K=>AT rfl K rfl rfl h0) M ?_;obtain ⟨Yb,hx,h⟩:=dG h;refine nS 1 hx ?_;exact mR 8 (Yb,IntKind.i64.wrap (i+1)) M.nQ
  intro hb h;exact mR 8 (room,IntKind.i64.wrap (i+1)) M.nQ
 intro hb h;exact pI 3 (hk1 (room,i)) M.nQ
theorem Oh {N:Nat} {a2 b:Int} {v0:List Int} {SU:Option Addr} {SV uC:Nat} {w0:World} {r:Int} (h:yQ N a2 b v0=some r) (N4:SL w0 (cI .i64) SU v0) (aAB:v0.length≤SV) (wZ:jM w0 uC 29 #[.slice SU v0.length SV]) :
  Calls Tryz.prog 165 #[I a2,I b,.pointer (some ⟨uC,0,none⟩)] w0 fun e w'=>∃v,e = .returned v∧v=I r∧Mem w0.heap.size w0 w' []:=by
 refine gE Tryz.func165 Tryz.ntmps165 ?_;intro M;unfold yQ at h;refine aG 6 ?_;intro a K;refine aF (fun w=>Mem _ _ w _) [0,0,0,0,0,0,0,0,1,0] aE aE M.drew ?_;replace M:=M.drew;revert a;obtain ⟨e,IR,h⟩:=aA h;refine aG 2 ?_;refine eC (fun _ K=>eB rfl g9 K rfl rfl ((bE N4) _ M) IR) ?_;refine eC (fun _ K=>fM rfl jO K rfl rfl (bE N4) IR rfl) ?_;obtain ⟨e2,lV,h⟩:=aA h;refine aG 2 ?_;refine eC (fun _ K=>eB rfl g9 K rfl rfl ((bE N4) _ M) lV) ?_;refine eC (fun _ K=>fM rfl jO K rfl rfl (bE N4) lV rfl) ?_;obtain ⟨r2,eR,h⟩:=aA h;intro a K;refine nY K (sC aAb K (KJ eR)) ?_;clear K;rintro _ a w ⟨rfl,Zq⟩ K;replace M:=M.call Zq;clear Zq;refine ⟨M.pick [] aD,?_⟩;revert a;exact aJ 4 (M.pick [] aD)
theorem Rh {N:Nat} {d:List Int} {PL:Option Addr} {PM:Nat} {w0:World} {r:List (List UInt8) × Int} (h:wT N d=some r) (Fh:SL w0 (cI .i64) PL d) (C_d:d.length≤PM) :
  Calls Tryz.prog 123 #[.slice PL d.length PM] w0 fun e w'=>∃v,e = .returned v∧∃A0 c0,v = .tuple #[.slice A0 r.1.length c0,I r.2]∧Mem w0.heap.size w0 w' [.row 9 1 A0 r.1.length c0 (cS.all r.1)]:=by
 refine gE Tryz.func123 Tryz.ntmps123 ?_;intro M;unfold wT at h;refine fK 2 ?_;intro RA w M;obtain ⟨r2,eR,h⟩:=aA h;refine jE 8 (KK eR ((bE Fh) _ M) C_d) ?_;intro w M;refine dS 9 h ?_ ?_
 ·intro hb h;exact eG 9 (((Mem.aK 9 1 cS M)).pick [0] aD)
 intro hb h;refine aG 16 ?_;replace M:=Mem.aK 3 1 (cI .i64) M;refine sP 0 0 (fun (⟨l3,i⟩:List Int × Int) a w=>∃(A2:Option Addr) (c2:Nat),Kn a 74 [(1,.pointer (some ⟨RA,0,none⟩)),(5,.slice A2 l3.length c2),(19,.slice PL d.length PM),(20,I (d.length:Int)),(21,I i)]∧Mem w0.heap.size w0 w [.row 3 1 A2 l3.length c2 ((cI .i64).all l3),.blk RA 29 [.slice PL d.length PM]]) (M.pick [0,1] aD) ?_ ?_
 ·clear M h;rintro ⟨l6,i2⟩ a w ⟨A5,c5,K,M⟩ h;try dsimp only at h
  revert a;refine aG 6 ?_;intro a K;refine H9 (vs:=[.slice A5 l6.length c5,.func (.func 165) #[] #[.pointer (some ⟨RA,0,none⟩)]]) (cap:=[]) K (aB rfl) rfl rfl rfl Z9 rfl rfl ?_;clear K;refine uR Tryz.func164 rfl Tryz.ntmps164 rfl ?_;refine aG 5 ?_;intro a K;refine H9 (vs:=[.slice A5 l6.length c5,I (l6.length:Int),.func (.func 165) #[] #[.pointer (some ⟨RA,0,none⟩)]]) (cap:=[]) K (aB rfl) rfl rfl rfl aAg rfl rfl ?_;clear K;refine uR Tryz.func193 rfl Tryz.ntmps193 rfl ?_;refine aG 14 ?_;intro a K;refine NW 1 ?_;refine Da ?_;revert a;refine dS 8 h ?_ ?_
  ·intro hb h;intro a K;cases h
  intro hb h;refine aG 11 ?_;intro a K;refine H9 (vs:=[.slice A5 l6.length c5,I 0,I (l6.length:Int),.func (.func 165) #[] #[.pointer (some ⟨RA,0,none⟩)]]) (cap:=[]) K (aB rfl) rfl rfl rfl aAh rfl rfl ?_;clear K;refine uR Tryz.func209 rfl Tryz.ntmps209 rfl ?_;obtain ⟨i3,hx,h⟩:=dG h;refine nS 4 hx ?_;refine sP 3 0 (fun (⟨l7,b,i4⟩:List Int × Int × Int) a w=>Kn a 53 [(0,.slice A5 l7.length c5),(1,I 0),(2,I b),(3,.func (.func 165) #[] #[.pointer (some ⟨RA,0,none⟩)]),(8,I i4)]∧Mem w0.heap.size w0 w [.row 3 1 A5 l7.length c5 ((cI .i64).all l7),.blk RA 29 [.slice PL d.length PM]]) (M.pick [0,1] aD) ?_ ?_
  ·clear M h;rintro ⟨L5,b2,i7⟩ a w ⟨K,M⟩ h;try dsimp only at h
   revert a;refine aG 1 ?_;intro a K;refine XV ?_;refine aD5 K rfl ⟨_,rfl,?_⟩;clear K;intro a K;obtain ⟨_,h0,h⟩:=aA h;have h0:=Js h0;try rw [h0] at K
   try rw [h0] at M
   revert a;refine aG 3 ?_;intro a K;refine NW 1 ?_;refine Da ?_;revert a;refine dS 8 h ?_ ?_
   ·intro hb h;intro a K;cases h
   intro hb h;refine aG 4 ?_;intro a K;refine XV ?_;refine aD5 K rfl ⟨_,rfl,?_⟩;clear K;intro a K;obtain ⟨_,h0,h⟩:=aA h;have h0:=Js h0;try rw [h0] at K
   try rw [h0] at M
   revert a;refine aG 1 ?_;intro a K;refine XV ?_;refine aD5 K rfl ⟨_,rfl,?_⟩;clear K;intro a K;obtain ⟨_,h0,h⟩:=aA h;have h0:=Js h0;try rw [h0] at K
   try rw [h0] at M
   revert a;obtain ⟨x2,hx,h⟩:=dG h;refine aG 5 ?_;refine bQ (fun _ K=>RH hx (AU rfl Um K rfl)) M ?_;obtain ⟨l24,aHi,h⟩:=aA h;intro a K;refine sN K (q8 (C:=cS) (z:=([]:List UInt8)) rfl AH rfl z9 rfl K rfl rfl M aHi) ?_;clear K M;rintro _ a w ⟨A6,c6,rfl,M⟩ K;revert a;refine sP 17 2 (fun (⟨l25,i8,i9⟩:List (List UInt8) × Int × Int) a w=>Kn a 74 [(1,.pointer (some ⟨RA,0,none⟩)),(8,.slice A6 l25.length c6),(9,I i8),(39,.slice A5 L5.length c5),(40,I (L5.length:Int)),(41,I i9)]∧Mem w0.heap.size w0 w [.row 9 1 A6 l25.length c6 (cS.all l25),.row 3 1 A5 L5.length c5 ((cI .i64).all L5),.blk RA 29 [.slice PL d.length PM]]) (M.pick [0,1,2] aD) ?_ ?_
   ·clear M h;rintro ⟨l28,Ld,i11⟩ a w ⟨K,M⟩ h;try dsimp only at h
    revert a;exact eG 10 (M.pick [0] aD)
   clear M h;rintro kk fuel ⟨l25,i8,i9⟩ a w hk4 ⟨K,M⟩ h;unfold qS at h;revert a;refine dS 6 h ?_ ?_
   ·intro hb h;obtain ⟨e33,aDs,h⟩:=aA h;refine aG 6 ?_;refine bQ (fun _ K=>fP rfl g9 K rfl rfl (hF (C:=(cI .i64)) 1 rfl rfl) aDs) M ?_;refine bQ (fun _ K=>fM rfl jO K rfl rfl (hF (C:=(cI .i64)) 1 rfl rfl) aDs rfl) M ?_;refine aG 4 ?_;intro a K;refine aF (fun w=>Mem _ _ w _) [0,0,0,0,0,0,0,0,0,0,0,1,0,0,0,0,0] aE aE M.drew ?_;replace M:=M.drew;revert a;obtain ⟨e34,aDt,h⟩:=aA h;refine aG 3 ?_;refine eC (fun _ K=>eB rfl g9 K rfl rfl ((bE Fh) _ M) aDt) ?_;refine eC (fun _ K=>fM rfl jO K rfl rfl (bE Fh) aDt rfl) ?_;obtain ⟨_,h0,h⟩:=aA h;have h0:=t6 h0;refine aG 1 ?_;refine eC (fun _ K=>vV rfl K rfl rfl h0) ?_;obtain ⟨e35,aDu,h⟩:=aA h;refine aG 2 ?_;refine eC (fun _ K=>eB rfl g9 K rfl rfl ((bE Fh) _ M) aDu) ?_;refine eC (fun _ K=>fM rfl jO K rfl rfl (bE Fh) aDu rfl) ?_;obtain ⟨r7,CT,h⟩:=aA h;intro a K;refine nY K (sC Z4 K (AK CT)) ?_;clear K;rintro _ a w ⟨rfl,Zq⟩ K;replace M:=M.call Zq;clear Zq;refine ⟨M.pick [0,1,2] aD,?_⟩;revert a;obtain ⟨e36,aHj,h⟩:=aA h;refine aG 12 ?_;refine bQ (fun _ K=>fP rfl AH K rfl rfl (hF (C:=cS) 0 rfl rfl) aHj) M ?_;obtain ⟨l27,aDv,h⟩:=aA h;intro a K;refine CO K (gA (el:=r7.1) rfl sz9 rfl rfl K rfl rfl rfl 0 M rfl aDv) ?_;have M0:=M;clear K M;rintro _ a w M K;have hl:=jB aDv;try rw [hl] at M
    try rw [hl] at K
    clear hl;clear M0;revert a;obtain ⟨e37,aDw,h⟩:=aA h;refine aG 6 ?_;refine bQ (fun _ K=>fP rfl g9 K rfl rfl (bE Fh) aDw) M ?_;refine bQ (fun _ K=>fM rfl jO K rfl rfl (bE Fh) aDw rfl) M ?_;obtain ⟨_,h0,h⟩:=aA h;have h0:=t6 h0;refine aG 1 ?_;refine bQ (fun _ K=>AT rfl K rfl rfl h0) M ?_;obtain ⟨x4,hx,h⟩:=dG h;refine nS 1 hx ?_;exact mR 8 (l27,x4,IntKind.i64.wrap (i9+1)) (M.pick [0,1,2] aD)
   intro hb h;exact pI 3 (hk4 (l25,i8,i9)) (M.pick [0,1,2] aD)
  clear M h;rintro kk fuel ⟨l7,b,i4⟩ a w hk2 ⟨K,M⟩ h;unfold pH at h;revert a;refine dS 8 h ?_ ?_
  ·intro hb h;refine sP 11 2 (fun (⟨Qe,j4⟩:List Int × Int) a w=>Kn a 53 [(0,.slice A5 Qe.length c5),(1,I 0),(2,I b),(3,.func (.func 165) #[] #[.pointer (some ⟨RA,0,none⟩)]),(8,I i4),(9,I j4)]∧Mem w0.heap.size w0 w [.row 3 1 A5 Qe.length c5 ((cI .i64).all Qe),.blk RA 29 [.slice PL d.length PM]]) (M.pick [0,1] aD) ?_ ?_
   ·clear M h;rintro ⟨l22,j9⟩ a w ⟨K,M⟩ h;try dsimp only at h
    revert a;obtain ⟨i6,hx,h⟩:=dG h;refine nS 6 hx ?_;exact mR 2 (l22,b,i6) (M.pick [0,1] aD)
   clear M h;rintro kk fuel ⟨Qe,j4⟩ a w hk3 ⟨K,M⟩ h;unfold uO at h;revert a;refine aG 2 ?_;intro a K;refine aF (fun w=>Mem _ _ w _) [0,0,0,0,0,0,0,0,0,0,0,0,0,0,1,0,0] aE aE M.drew ?_;replace M:=M.drew;revert a;refine mF 4 21 h ?_ ?_
   ·intro hb h;obtain ⟨e20,aDx,h⟩:=aA h;refine aG 3 ?_;refine eC (fun _ K=>eB rfl g9 K rfl rfl ((hF (C:=(cI .i64)) 0 rfl rfl) _ M) aDx) ?_;refine eC (fun _ K=>fM rfl jO K rfl rfl (hF (C:=(cI .i64)) 0 rfl rfl) aDx rfl) ?_;obtain ⟨e21,aDy,h⟩:=aA h;refine aG 3 ?_;refine eC (fun _ K=>eB rfl g9 K rfl rfl ((hF (C:=(cI .i64)) 0 rfl rfl) _ M) aDy) ?_;refine eC (fun _ K=>fM rfl jO K rfl rfl (hF (C:=(cI .i64)) 0 rfl rfl) aDy rfl) ?_;obtain ⟨r5,tH,h⟩:=aA h;intro a K;refine nY K (gZ (vs:=[I e20,I e21]) (cap:=[.pointer (some ⟨RA,0,none⟩)]) rfl aAa K rfl rfl (Oh tH ((bE Fh) _ M) C_d (M.bN (i:=1) rfl))) ?_;clear K;rintro _ a w ⟨rfl,Zq⟩ K;replace M:=M.call Zq;clear Zq;refine ⟨M.pick [0,1] aD,?_⟩;revert a;refine dS 4 h ?_ ?_
    ·intro hb h;refine aG 4 ?_;intro a K;refine jU (fun w=>Mem _ _ w _) [0,0,0,0,0,0,0,0,0,1,0,0,0,1,0,1,0,2] 18 [0,1,2,3,4,5,6,7,8,9,10,11,12,13,14,15,16,17] aE aE aE rfl (M.pick [1] aD).drew ?_;replace M:=M.drew;revert a;obtain ⟨e22,aAJ,h⟩:=aA h;refine aG 8 ?_;intro a K;refine jR 8 [9,10,11,12,13,14,15,16,17] aE rfl K (aB rfl) rfl rfl (eB rfl g9 K rfl rfl ((hF (C:=(cI .i64)) 0 rfl rfl) _ M) aAJ) ?_;clear K;intro a K;refine jR 10 [9,11,12,13,14,15,16,17] aE rfl K (aB rfl) rfl rfl (bX rfl K rfl) ?_;clear K;intro a K;refine jR 11 [9,12,13,14,15,16,17] aE rfl K (aB rfl) rfl rfl (bX rfl K rfl) ?_;clear K;intro a K;obtain ⟨e23,aAK,h⟩:=aA h;refine jR 12 [9,13,14,15,16,17] aE rfl K (aB rfl) rfl rfl (eB rfl g9 K rfl rfl ((hF (C:=(cI .i64)) 0 rfl rfl) _ M) aAK) ?_;clear K;intro a K;refine gS [9,13] aE ⟨?_,?_,trivial⟩
     ·refine VM [13,14,15,16,17] aE rfl K (aB rfl) rfl rfl (fM rfl jO K rfl rfl (hF (C:=(cI .i64)) 0 rfl rfl) aAJ rfl) M ?_;clear K;intro a K;refine ⟨fun _=>M.pick [1] aD,?_⟩;refine gS [13] aE ⟨?_,trivial⟩;refine VM [14,15,16,17] aE rfl K (aB rfl) rfl rfl (fM rfl jO K rfl rfl (hF (C:=(cI .i64)) 0 rfl rfl) aAK rfl) M ?_;clear K;intro a K;refine ⟨fun _=>M.pick [1] aD,?_⟩;obtain ⟨e24,aHk,h⟩:=aA h;refine jR 14 [15,16,17] aE rfl K (aB rfl) rfl rfl (eB rfl g9 K rfl rfl ((hF (C:=(cI .i64)) 0 rfl rfl) _ M) aHk) ?_;clear K;intro a K;refine gS [15] aE ⟨?_,trivial⟩;obtain ⟨l18,aDz,h⟩:=aA h;refine vL [16,17] aE rfl K (aB rfl) rfl (gA (el:=e22) rfl uF rfl rfl K rfl rfl rfl 0 M rfl aDz) ?_;have M0:=M;clear K M;rintro _ a w M K;have hl:=jB aDz;try rw [hl] at M
      try rw [hl] at K
      clear hl;clear M0;refine ⟨fun _=>M.pick [1] aD,?_⟩;obtain ⟨e25,aHl,h⟩:=aA h;refine jR 16 [17] aE rfl K (aB rfl) rfl rfl (eB rfl g9 K rfl rfl ((hF (C:=(cI .i64)) 0 rfl rfl) _ M) aHl) ?_;clear K;intro a K;refine gS [17] aE ⟨?_,trivial⟩;obtain ⟨l19,aDA,h⟩:=aA h;refine vL [] aE rfl K (aB rfl) rfl (gA (el:=e23) rfl uF rfl rfl K rfl rfl rfl 0 M rfl aDA) ?_;have M0:=M;clear K M;rintro _ a w M K;have hl:=jB aDA;try rw [hl] at M
      try rw [hl] at K
      clear hl;clear M0;refine ⟨fun h=>absurd h aD,?_⟩;revert a;obtain ⟨j7,hx,h⟩:=dG h;refine nS 6 hx ?_;exact mR 2 (l19,j7) (M.pick [0,1] aD)
     ·refine VM [9,14,15,16,17] aE rfl K (aB rfl) rfl rfl (fM rfl jO K rfl rfl (hF (C:=(cI .i64)) 0 rfl rfl) aAK rfl) M ?_;clear K;intro a K;refine ⟨fun _=>M.pick [1] aD,?_⟩;refine gS [9] aE ⟨?_,trivial⟩;refine VM [14,15,16,17] aE rfl K (aB rfl) rfl rfl (fM rfl jO K rfl rfl (hF (C:=(cI .i64)) 0 rfl rfl) aAJ rfl) M ?_;clear K;intro a K;refine ⟨fun _=>M.pick [1] aD,?_⟩;obtain ⟨e26,aHm,h⟩:=aA h;refine jR 14 [15,16,17] aE rfl K (aB rfl) rfl rfl (eB rfl g9 K rfl rfl ((hF (C:=(cI .i64)) 0 rfl rfl) _ M) aHm) ?_;clear K;intro a K;refine gS [15] aE ⟨?_,trivial⟩;obtain ⟨l20,aDB,h⟩:=aA h;refine vL [16,17] aE rfl K (aB rfl) rfl (gA (el:=e22) rfl uF rfl rfl K rfl rfl rfl 0 M rfl aDB) ?_;have M0:=M;clear K M;rintro _ a w M K;have hl:=jB aDB;try rw [hl] at M
      try rw [hl] at K
      clear hl;clear M0;refine ⟨fun _=>M.pick [1] aD,?_⟩;obtain ⟨e27,V1,h⟩:=aA h;refine jR 16 [17] aE rfl K (aB rfl) rfl rfl (eB rfl g9 K rfl rfl ((hF (C:=(cI .i64)) 0 rfl rfl) _ M) V1) ?_;clear K;intro a K;refine gS [17] aE ⟨?_,trivial⟩;obtain ⟨l21,aDC,h⟩:=aA h;refine vL [] aE rfl K (aB rfl) rfl (gA (el:=e23) rfl uF rfl rfl K rfl rfl rfl 0 M rfl aDC) ?_;have M0:=M;clear K M;rintro _ a w M K;have hl:=jB aDC;try rw [hl] at M
      try rw [hl] at K
      clear hl;clear M0;refine ⟨fun h=>absurd h aD,?_⟩;revert a;obtain ⟨j8,hx,h⟩:=dG h;refine nS 6 hx ?_;exact mR 2 (l21,j8) (M.pick [0,1] aD)
    intro hb h;exact pI 3 (hk3 (Qe,j4)) (M.pick [0,1] aD)
   intro hb h;refine aG 10 ?_;intro a K;refine jV K (K.no rfl rfl rfl rfl) rfl rfl (M.pick [0,1] aD) ?_;clear K;intro a K;revert a;exact pI 8 (hk3 (Qe,j4)) (M.pick [0,1] aD)
  intro hb h;exact pI 3 (hk2 (l7,b,i4)) (M.pick [0,1] aD)
 clear M h;rintro kk fuel ⟨l3,i⟩ a w hk1 ⟨A2,c2,K,M⟩ h;unfold sV at h;revert a;refine dS 6 h ?_ ?_
 ·intro hb h;obtain ⟨e3,k8,h⟩:=aA h;refine aG 7 ?_;refine bQ (fun _ K=>fP rfl g9 K rfl rfl (bE Fh) k8) M ?_;refine bQ (fun _ K=>fM rfl jO K rfl rfl (bE Fh) k8 rfl) M ?_;refine dS 10 h ?_ ?_
  ·intro hb h;refine aG 3 ?_;intro a K;refine sN K (dK rfl g9 z3 K (vs:=[(0,I i)]) (cs:=[I i]) rfl aE rfl rfl M) ?_;have M0:=M;clear K M;rintro _ a w ⟨gs3,rfl,M⟩ K;replace M:=M.oI 0 rfl (cI .i64) ([i]:List Int) (n:=1) rfl rfl rfl;clear M0;obtain ⟨l5,wK,h⟩:=aA h;refine sN K (jZ (C:=(cI .i64)) (xs:=l3) (ys:=([i]:List Int)) rfl g9 rfl z3 rfl rfl K rfl rfl 1 M rfl ((hF (C:=(cI .i64)) 0 rfl rfl) _ M) wK) ?_;clear K M;rintro _ a w ⟨A4,c4,rfl,M⟩ K;revert a;exact mR 9 (l5,IntKind.i64.wrap (i+1)) (M.pick [1,2] aD)
  intro hb h;exact mR 8 (l3,IntKind.i64.wrap (i+1)) (M.pick [0,1] aD)
 intro hb h;exact pI 3 (hk1 (l3,i)) (M.pick [0,1] aD)
theorem KL {N:Nat} {x2:Int} {w0:World} {r:Int} (h:yG N x2=some r) :
  Calls Tryz.prog 168 #[.int .u64 x2] w0 fun e w'=>∃v,e = .returned v∧v=I r∧Mem w0.heap.size w0 w' []:=by
 refine gE Tryz.func168 Tryz.ntmps168 ?_;intro M;unfold yG at h;refine dS 12 h ?_ ?_
 ·intro hb h;refine aG 3 ?_;refine bQ (fun _ K=>vV rfl K rfl rfl aD) M ?_;obtain ⟨x3,hx,h⟩:=dG h;refine nS 0 hx ?_;refine dS 13 h ?_ ?_
  ·intro hb h;refine aG 3 ?_;refine bQ (fun _ K=>vV rfl K rfl rfl aD) M ?_;obtain ⟨x4,hx,h⟩:=dG h;refine nS 0 hx ?_;obtain ⟨n,hx,h⟩:=dG h;refine nS 5 hx ?_;refine dS 9 h ?_ ?_
   ·intro hb h;refine aG 3 ?_;refine bQ (fun _ K=>vV rfl K rfl rfl aD) M ?_;obtain ⟨x5,hx,h⟩:=dG h;refine nS 0 hx ?_;obtain ⟨n2,hx,h⟩:=dG h;refine nS 5 hx ?_;obtain ⟨b,h_b,h⟩:=aA h;refine aG 7 ?_;refine bQ (fun _ K=>E1 rfl I3 K rfl rfl h_b) M ?_;obtain ⟨n3,hx,h⟩:=dG h;refine nS 2 hx ?_;exact aJ 3 (M.pick [] aD)
   intro hb h;obtain ⟨b2,aFe,h⟩:=aA h;refine aG 7 ?_;refine bQ (fun _ K=>E1 rfl I3 K rfl rfl aFe) M ?_;obtain ⟨n4,hx,h⟩:=dG h;refine nS 2 hx ?_;exact aJ 3 (M.pick [] aD)
  intro hb h;refine dS 9 h ?_ ?_
  ·intro hb h;refine aG 3 ?_;refine bQ (fun _ K=>vV rfl K rfl rfl aD) M ?_;obtain ⟨x6,hx,h⟩:=dG h;refine nS 0 hx ?_;obtain ⟨n5,hx,h⟩:=dG h;refine nS 5 hx ?_;obtain ⟨b3,aFf,h⟩:=aA h;refine aG 7 ?_;refine bQ (fun _ K=>E1 rfl I3 K rfl rfl aFf) M ?_;obtain ⟨n6,hx,h⟩:=dG h;refine nS 2 hx ?_;exact aJ 3 (M.pick [] aD)
  intro hb h;obtain ⟨b4,aFg,h⟩:=aA h;refine aG 7 ?_;refine bQ (fun _ K=>E1 rfl I3 K rfl rfl aFg) M ?_;obtain ⟨n7,hx,h⟩:=dG h;refine nS 2 hx ?_;exact aJ 3 (M.pick [] aD)
 intro hb h;refine dS 9 h ?_ ?_
 ·intro hb h;refine aG 3 ?_;refine bQ (fun _ K=>vV rfl K rfl rfl aD) M ?_;obtain ⟨x7,hx,h⟩:=dG h;refine nS 0 hx ?_;obtain ⟨n8,hx,h⟩:=dG h;refine nS 5 hx ?_;refine dS 9 h ?_ ?_
  ·intro hb h;refine aG 3 ?_;refine bQ (fun _ K=>vV rfl K rfl rfl aD) M ?_;obtain ⟨x8,hx,h⟩:=dG h;refine nS 0 hx ?_;obtain ⟨n9,hx,h⟩:=dG h;refine nS 5 hx ?_;obtain ⟨b5,aJr,h⟩:=aA h;refine aG 7 ?_;refine bQ (fun _ K=>E1 rfl I3 K rfl rfl aJr) M ?_;obtain ⟨n10,hx,h⟩:=dG h;refine nS 2 hx ?_;exact aJ 3 (M.pick [] aD)
  intro hb h;obtain ⟨b6,aJs,h⟩:=aA h;refine aG 7 ?_;refine bQ (fun _ K=>E1 rfl I3 K rfl rfl aJs) M ?_;obtain ⟨n11,hx,h⟩:=dG h;refine nS 2 hx ?_;exact aJ 3 (M.pick [] aD)
 intro hb h;refine dS 9 h ?_ ?_
 ·intro hb h;refine aG 3 ?_;refine bQ (fun _ K=>vV rfl K rfl rfl aD) M ?_;obtain ⟨x9,hx,h⟩:=dG h;refine nS 0 hx ?_;obtain ⟨n12,hx,h⟩:=dG h;refine nS 5 hx ?_;obtain ⟨b7,aFh,h⟩:=aA h;refine aG 7 ?_;refine bQ (fun _ K=>E1 rfl I3 K rfl rfl aFh) M ?_;obtain ⟨n13,hx,h⟩:=dG h;refine nS 2 hx ?_;exact aJ 3 (M.pick [] aD)
 intro hb h;obtain ⟨b8,aFi,h⟩:=aA h;refine aG 7 ?_;refine bQ (fun _ K=>E1 rfl I3 K rfl rfl aFi) M ?_;obtain ⟨n14,hx,h⟩:=dG h;refine nS 2 hx ?_;exact aJ 3 (M.pick [] aD)
theorem Hw {N:Nat} {x2:Int} {w0:World} {r:Int} (h:sW N x2=some r) :
  Calls Tryz.prog 125 #[.int .u64 x2] w0 fun e w'=>∃v,e = .returned v∧v=I r∧Mem w0.heap.size w0 w' []:=by
 refine gE Tryz.func125 Tryz.ntmps125 ?_;intro M;unfold sW at h;obtain ⟨r2,eR,h⟩:=aA h;refine jE 12 (KL eR) ?_;intro w M;exact aJ 4 (M.pick [] aD)
theorem S8 {N:Nat} {gD jA:Int} {eI:List Int} {dW:Option Addr} {dX:Nat} {w0:World} {r:Bool} (h:Dk N gD jA eI=some r) (jW:SL w0 (cI .i64) dW eI) (rF:eI.length≤dX) :
  Calls Tryz.prog 122 #[.agg #[I gD,I jA,.slice dW eI.length dX]] w0 fun e w'=>∃v,e = .returned v∧v = .bool r∧Mem w0.heap.size w0 w' []:=by
 refine gE Tryz.func122 Tryz.ntmps122 ?_;intro M;unfold Dk at h;refine fK 2 ?_;intro xK w M;refine mF 10 8 h ?_ ?_
 ·intro hb h;exact aJ 35 (M.pick [] aD)
 intro hb h;refine mF 5 13 h ?_ ?_
 ·intro hb h;exact aJ 30 (M.pick [] aD)
 intro hb h;refine mF 5 18 h ?_ ?_
 ·intro hb h;exact aJ 25 (M.pick [] aD)
 intro hb h;refine mF 5 23 h ?_ ?_
 ·intro hb h;exact aJ 20 (M.pick [] aD)
 intro hb h;refine dS 12 h ?_ ?_
 ·intro hb h;exact aJ 7 (M.pick [] aD)
 intro hb h;refine sP 12 0 (fun (i:Int) a w=>Kn a 48 [(35,.slice dW eI.length dX),(36,I (eI.length:Int)),(37,I i)]∧Mem w0.heap.size w0 w []) M.nQ ?_ ?_
 ·clear M h;rintro i2 a w ⟨K,M⟩ h;try dsimp only at h
  revert a;exact aJ 8 (M.pick [] aD)
 clear M h;rintro kk fuel i a w hk1 ⟨K,M⟩ h;unfold wE at h;revert a;refine dS 6 h ?_ ?_
 ·intro hb h;obtain ⟨e2,lV,h⟩:=aA h;refine aG 6 ?_;refine bQ (fun _ K=>fP rfl g9 K rfl rfl (bE jW) lV) M ?_;refine bQ (fun _ K=>fM rfl jO K rfl rfl (bE jW) lV rfl) M ?_;refine mF 8 43 h ?_ ?_
  ·intro hb h;exact aJ 17 (M.pick [] aD)
  intro hb h;refine dS 5 h ?_ ?_
  ·intro hb h;exact aJ 11 (M.pick [] aD)
  intro hb h;exact mR 8 (IntKind.i64.wrap (i+1)) M.nQ
 intro hb h;exact pI 3 (hk1 i) M.nQ
theorem Ri {N:Nat} {dM fN:Int} {gI:List Int} {g7:Option Addr} {g8:Nat} {o p2:Int} {w0:World} {r:Int} (h:BS N dM fN gI o p2=some r) (jX:SL w0 (cI .i64) g7 gI) (vJ:gI.length≤g8) :
  Calls Tryz.prog 124 #[.agg #[I dM,I fN,.slice g7 gI.length g8],I o,I p2] w0 fun e w'=>∃v,e = .returned v∧v=I r∧Mem w0.heap.size w0 w' []:=by
 refine gE Tryz.func124 Tryz.ntmps124 ?_;intro M;unfold BS at h;refine fK 2 ?_;intro gW w M;refine Uv 4 ?_;replace M:=M.drew;obtain ⟨_,h0,h⟩:=aA h;have h0:=dJ h0;refine aG 3 ?_;refine eC (fun _ K=>pX rfl K rfl rfl h0) ?_;obtain ⟨_,h0,h⟩:=aA h;have h0:=dJ h0;refine aG 3 ?_;refine eC (fun _ K=>gX rfl K rfl rfl h0) ?_;refine dS 13 h ?_ ?_
 ·intro hb h;exact aJ 8 (M.pick [] aD)
 intro hb h;refine dS 7 h ?_ ?_
 ·intro hb h;obtain ⟨e,IR,h⟩:=aA h;refine aG 6 ?_;refine bQ (fun _ K=>fP rfl g9 K rfl rfl (bE jX) IR) M ?_;refine bQ (fun _ K=>fM rfl jO K rfl rfl (bE jX) IR rfl) M ?_;exact aJ 6 (M.pick [] aD)
 intro hb h;refine dS 7 h ?_ ?_
 ·intro hb h;obtain ⟨e2,lV,h⟩:=aA h;refine aG 8 ?_;refine bQ (fun _ K=>fP rfl g9 K rfl rfl (bE jX) lV) M ?_;refine bQ (fun _ K=>fM rfl jO K rfl rfl (bE jX) lV rfl) M ?_;exact aJ 6 (M.pick [] aD)
 intro hb h;refine Uv 4 ?_;replace M:=M.drew;obtain ⟨e3,k8,h⟩:=aA h;refine aG 4 ?_;refine eC (fun _ K=>eB rfl g9 K rfl rfl ((bE jX) _ M) k8) ?_;refine eC (fun _ K=>fM rfl jO K rfl rfl (bE jX) k8 rfl) ?_;obtain ⟨e4,qR,h⟩:=aA h;refine aG 6 ?_;refine eC (fun _ K=>eB rfl g9 K rfl rfl ((bE jX) _ M) qR) ?_;refine eC (fun _ K=>fM rfl jO K rfl rfl (bE jX) qR rfl) ?_;obtain ⟨e5,Ky,h⟩:=aA h;refine aG 7 ?_;refine eC (fun _ K=>eB rfl g9 K rfl rfl ((bE jX) _ M) Ky) ?_;refine eC (fun _ K=>fM rfl jO K rfl rfl (bE jX) Ky rfl) ?_;refine aG 19 ?_;refine bQ (fun _ K=>vV rfl K rfl rfl aD) M ?_;refine aG 5 ?_;refine bQ (fun _ K=>vV rfl K rfl rfl aD) M ?_;refine aG 4 ?_;refine bQ (fun _ K=>vV rfl K rfl rfl aD) M ?_;refine bQ (fun _ K=>bG rfl K (vs:=[(0,I 0),(1,I e3),(2,I e4),(3,I e5),(4,I (IntKind.i64.wrap ((IntKind.i64.wrap (e3+e4))-e5))),(5,I (IntKind.i64.wrap (e3+(rL .i64 (IntKind.i64.wrap (e4-e5)) 1)))),(6,I (IntKind.i64.wrap (e4+(rL .i64 (IntKind.i64.wrap (e3-e5)) 1)))),(7,I (rL .i64 (IntKind.i64.wrap (e3+e4)) 1))]) (cs:=[I 0,I e3,I e4,I e5,I (IntKind.i64.wrap ((IntKind.i64.wrap (e3+e4))-e5)),I (IntKind.i64.wrap (e3+(rL .i64 (IntKind.i64.wrap (e4-e5)) 1))),I (IntKind.i64.wrap (e4+(rL .i64 (IntKind.i64.wrap (e3-e5)) 1))),I (rL .i64 (IntKind.i64.wrap (e3+e4)) 1)]) rfl aE) M ?_;obtain ⟨e6,Iw,h⟩:=aA h;refine aG 1 ?_;refine bQ (fun _ K=>P6 (C:=(cI .i64)) (es:=[0,e3,e4,e5,IntKind.i64.wrap ((IntKind.i64.wrap (e3+e4))-e5),IntKind.i64.wrap (e3+(rL .i64 (IntKind.i64.wrap (e4-e5)) 1)),IntKind.i64.wrap (e4+(rL .i64 (IntKind.i64.wrap (e3-e5)) 1)),rL .i64 (IntKind.i64.wrap (e3+e4)) 1]) rfl aGV jO K rfl rfl rfl Iw rfl) M ?_;exact aJ 4 (M.pick [] aD)
theorem Rj {N:Nat} {dM fN:Int} {gI:List Int} {g7:Option Addr} {g8:Nat} {o:Int} {p2:List Int} {aAL:Option Addr} {aAM:Nat} {w0:World} {r:List UInt8 × Int} (h:BT N dM fN gI o p2=some r) (jX:SL w0 (cI .i64) g7 gI) (vJ:gI.length≤g8) (aCP:SL w0 (cI .i64) aAL p2) (aCQ:p2.length≤aAM) :
  Calls Tryz.prog 53 #[.agg #[I dM,I fN,.slice g7 gI.length g8],I o,.slice aAL p2.length aAM] w0 fun e w'=>∃v,e = .returned v∧v = .tuple #[.string (bs r.1),I r.2]∧Mem w0.heap.size w0 w' []:=by
 refine gE Tryz.func53 Tryz.ntmps53 ?_;intro M;unfold BT at h;refine fK 2 ?_;intro gW w M;obtain ⟨r2,eR,h⟩:=aA h;refine jE 8 (S8 eR ((bE jX) _ M) vJ) ?_;intro w M;refine dS 3 h ?_ ?_
 ·intro hb h;exact eG 8 (M.pick [] aD)
 intro hb h;refine mF 8 24 h ?_ ?_
 ·intro hb h;exact eG 14 (M.pick [] aD)
 intro hb h;refine dS 5 h ?_ ?_
 ·intro hb h;exact eG 8 (M.pick [] aD)
 intro hb h;obtain ⟨r3,kU,h⟩:=aA h;refine jE 5 (Rh kU ((bE aCP) _ M) aCQ) ?_;intro A c w M;refine dS 14 h ?_ ?_
 ·intro hb h;exact eG 9 (M.pick [] aD)
 intro hb h;refine aG 4 ?_;intro a K;refine sN K (eK rfl (show pZ Tryz.prog 148=some [.pointer none,.slice none 0 0] by kernel_rfl) M) ?_;have M0:=M;clear K M;rintro _ a w ⟨gH,rfl,M⟩ K;replace M:=Mem.aGJ 5 M;clear M0;revert a;refine sP 12 0 (fun (⟨l2,i⟩:List UInt8 × Int) a w=>∃(A2:Option Addr) (c2:Nat),Kn a 106 [(1,I o),(3,.pointer (some ⟨gW,0,none⟩)),(8,.slice A r3.1.length c),(10,.pointer (some ⟨gH,0,none⟩)),(37,.slice g7 gI.length g8),(38,I (gI.length:Int)),(39,I i)]∧Mem w0.heap.size w0 w [.row 5 1 A2 l2.length c2 ((cI .u8).all (Cc l2)),.ML gH 148 A2 l2.length c2,.row 9 1 A r3.1.length c (cS.all r3.1),.blk gW 31 [I dM,I fN,.slice g7 gI.length g8]]) (M.pick [0,1,2,3] aD) ?_ ?_
 ·clear M h;rintro ⟨l3,i2⟩ a w ⟨A15,c15,K,M⟩ h;try dsimp only at h
  revert a;refine aG 4 ?_;intro a K;refine sN K (gZ (vs:=[.pointer (some ⟨gH,0,none⟩)]) (cap:=[]) rfl aDo K rfl rfl (Rf (show Mem _ _ _ [.ML gH 148 A15 l3.length c15,.row 5 1 A15 l3.length c15 ((cI .u8).all (Cc l3)),.row 9 1 A r3.1.length c (cS.all r3.1),.blk gW 31 [I dM,I fN,.slice g7 gI.length g8]] from M.pick [1,0,2,3] aD))) ?_;clear K M;rintro _ a w ⟨rfl,M⟩ K;obtain ⟨TE,Oi,h⟩:=aA h;revert a;refine jE 0 (Rg Oi) ?_;intro w M;exact eG 15 (M.pick [] aD)
 clear M h;rintro kk fuel ⟨l2,i⟩ a w hk1 ⟨A2,c2,K,M⟩ h;unfold gN at h;revert a;refine dS 6 h ?_ ?_
 ·intro hb h;obtain ⟨e6,Iw,h⟩:=aA h;refine aG 7 ?_;refine bQ (fun _ K=>fP rfl g9 K rfl rfl (bE jX) Iw) M ?_;refine bQ (fun _ K=>fM rfl jO K rfl rfl (bE jX) Iw rfl) M ?_;obtain ⟨yP,AJ,h⟩:=aA h;refine jE 10 (Ri AJ ((bE jX) _ M) vJ) ?_;intro w M;obtain ⟨x6,hx,h⟩:=dG h;refine nS 3 hx ?_;refine dS 9 h ?_ ?_
  ·intro hb h;obtain ⟨x7,hx,h⟩:=dG h;refine nS 3 hx ?_;refine aG 6 ?_;refine bQ (fun _ K=>TA rfl K rfl) M ?_;obtain ⟨Ae,Dp,h⟩:=aA h;refine jE 2 (Hw Dp) ?_;intro w M;refine mF 11 66 h ?_ ?_
   ·intro hb h;exact eG 22 (M.pick [] aD)
   intro hb h;obtain ⟨e7,zE,h⟩:=aA h;refine aG 2 ?_;refine bQ (fun _ K=>fP rfl AH K rfl rfl (hF (C:=cS) 2 rfl rfl) zE) M ?_;refine bQ (fun _ K=>fM rfl sc9 K rfl rfl (hF (C:=cS) 2 rfl rfl) zE rfl) M ?_;refine bQ (fun _ K=>M8 rfl K rfl rfl) M ?_;refine dS 3 h ?_ ?_
   ·intro hb h;exact eG 13 (M.pick [] aD)
   intro hb h;obtain ⟨e8,Br,h⟩:=aA h;refine aG 6 ?_;refine bQ (fun _ K=>fP rfl AH K rfl rfl (hF (C:=cS) 2 rfl rfl) Br) M ?_;refine bQ (fun _ K=>fM rfl sc9 K rfl rfl (hF (C:=cS) 2 rfl rfl) Br rfl) M ?_;obtain ⟨b7,aFh,h⟩:=aA h;intro a K;refine sN K (gZ (vs:=[.pointer (some ⟨gH,0,none⟩),.string (bs e8)]) (cap:=[]) rfl NY K rfl rfl (BB (show Mem _ _ _ [.ML gH 148 A2 l2.length c2,.row 5 1 A2 l2.length c2 ((cI .u8).all (Cc l2)),.row 9 1 A r3.1.length c (cS.all r3.1),.blk gW 31 [I dM,I fN,.slice g7 gI.length g8]] from M.pick [1,0,2,3] aD) aFh)) ?_;clear K M;rintro _ a w ⟨A9,c9,M⟩ K;revert a;refine mF 7 80 h ?_ ?_
   ·intro hb h;refine dS 5 h ?_ ?_
    ·intro hb h;refine dS 7 h ?_ ?_
     ·intro hb h;obtain ⟨_,h0,h⟩:=aA h;have h0:=t6 h0;refine aG 3 ?_;refine bQ (fun _ K=>AT rfl K rfl rfl h0) M ?_;obtain ⟨x8,hx,h⟩:=dG h;refine nS 2 hx ?_;obtain ⟨DX,Dq,h⟩:=aA h;refine jE 6 (AK Dq) ?_;intro w M;obtain ⟨b8,aFi,h⟩:=aA h;refine aG 9 ?_;intro a K;refine sN K (gZ (vs:=[.pointer (some ⟨gH,0,none⟩),.string (bs DX.1)]) (cap:=[]) rfl NY K rfl rfl (BB (show Mem _ _ _ [.ML gH 148 A9 b7.length c9,.row 5 1 A9 b7.length c9 ((cI .u8).all (Cc b7)),.row 9 1 A r3.1.length c (cS.all r3.1),.blk gW 31 [I dM,I fN,.slice g7 gI.length g8]] from M.pick [0,1,2,3] aD) aFi)) ?_;clear K M;rintro _ a w ⟨XB,c10,M⟩ K;revert a;exact mR 8 (b8,IntKind.i64.wrap (i+1)) (M.pick [1,0,2,3] aD)
     intro hb h;obtain ⟨Ll,E9,h⟩:=aA h;refine jE 6 (AK E9) ?_;intro w M;obtain ⟨b9,aJt,h⟩:=aA h;refine aG 9 ?_;intro a K;refine sN K (gZ (vs:=[.pointer (some ⟨gH,0,none⟩),.string (bs Ll.1)]) (cap:=[]) rfl NY K rfl rfl (BB (show Mem _ _ _ [.ML gH 148 A9 b7.length c9,.row 5 1 A9 b7.length c9 ((cI .u8).all (Cc b7)),.row 9 1 A r3.1.length c (cS.all r3.1),.blk gW 31 [I dM,I fN,.slice g7 gI.length g8]] from M.pick [0,1,2,3] aD) aJt)) ?_;clear K M;rintro _ a w ⟨A11,c11,M⟩ K;revert a;exact mR 8 (b9,IntKind.i64.wrap (i+1)) (M.pick [1,0,2,3] aD)
    intro hb h;exact mR 8 (b7,IntKind.i64.wrap (i+1)) (M.pick [1,0,2,3] aD)
   intro hb h;exact mR 14 (b7,IntKind.i64.wrap (i+1)) (M.pick [1,0,2,3] aD)
  intro hb h;refine aG 6 ?_;refine bQ (fun _ K=>TA rfl K rfl) M ?_;obtain ⟨GZ,GC,h⟩:=aA h;refine jE 2 (Hw GC) ?_;intro w M;refine mF 11 66 h ?_ ?_
  ·intro hb h;exact eG 22 (M.pick [] aD)
  intro hb h;obtain ⟨e9,I4,h⟩:=aA h;refine aG 2 ?_;refine bQ (fun _ K=>fP rfl AH K rfl rfl (hF (C:=cS) 2 rfl rfl) I4) M ?_;refine bQ (fun _ K=>fM rfl sc9 K rfl rfl (hF (C:=cS) 2 rfl rfl) I4 rfl) M ?_;refine bQ (fun _ K=>M8 rfl K rfl rfl) M ?_;refine dS 3 h ?_ ?_
  ·intro hb h;exact eG 13 (M.pick [] aD)
  intro hb h;obtain ⟨e10,E3,h⟩:=aA h;refine aG 6 ?_;refine bQ (fun _ K=>fP rfl AH K rfl rfl (hF (C:=cS) 2 rfl rfl) E3) M ?_;refine bQ (fun _ K=>fM rfl sc9 K rfl rfl (hF (C:=cS) 2 rfl rfl) E3 rfl) M ?_;obtain ⟨b10,aHn,h⟩:=aA h;intro a K;refine sN K (gZ (vs:=[.pointer (some ⟨gH,0,none⟩),.string (bs e10)]) (cap:=[]) rfl NY K rfl rfl (BB (show Mem _ _ _ [.ML gH 148 A2 l2.length c2,.row 5 1 A2 l2.length c2 ((cI .u8).all (Cc l2)),.row 9 1 A r3.1.length c (cS.all r3.1),.blk gW 31 [I dM,I fN,.slice g7 gI.length g8]] from M.pick [1,0,2,3] aD) aHn)) ?_;clear K M;rintro _ a w ⟨A12,c12,M⟩ K;revert a;refine mF 7 80 h ?_ ?_
  ·intro hb h;refine dS 5 h ?_ ?_
   ·intro hb h;refine dS 7 h ?_ ?_
    ·intro hb h;obtain ⟨_,h0,h⟩:=aA h;have h0:=t6 h0;refine aG 3 ?_;refine bQ (fun _ K=>AT rfl K rfl rfl h0) M ?_;obtain ⟨x9,hx,h⟩:=dG h;refine nS 2 hx ?_;obtain ⟨r16,GD,h⟩:=aA h;refine jE 6 (AK GD) ?_;intro w M;obtain ⟨b11,aHo,h⟩:=aA h;refine aG 9 ?_;intro a K;refine sN K (gZ (vs:=[.pointer (some ⟨gH,0,none⟩),.string (bs r16.1)]) (cap:=[]) rfl NY K rfl rfl (BB (show Mem _ _ _ [.ML gH 148 A12 b10.length c12,.row 5 1 A12 b10.length c12 ((cI .u8).all (Cc b10)),.row 9 1 A r3.1.length c (cS.all r3.1),.blk gW 31 [I dM,I fN,.slice g7 gI.length g8]] from M.pick [0,1,2,3] aD) aHo)) ?_;clear K M;rintro _ a w ⟨Rw,c13,M⟩ K;revert a;exact mR 8 (b11,IntKind.i64.wrap (i+1)) (M.pick [1,0,2,3] aD)
    intro hb h;obtain ⟨Qb,KN,h⟩:=aA h;refine jE 6 (AK KN) ?_;intro w M;obtain ⟨b12,aHp,h⟩:=aA h;refine aG 9 ?_;intro a K;refine sN K (gZ (vs:=[.pointer (some ⟨gH,0,none⟩),.string (bs Qb.1)]) (cap:=[]) rfl NY K rfl rfl (BB (show Mem _ _ _ [.ML gH 148 A12 b10.length c12,.row 5 1 A12 b10.length c12 ((cI .u8).all (Cc b10)),.row 9 1 A r3.1.length c (cS.all r3.1),.blk gW 31 [I dM,I fN,.slice g7 gI.length g8]] from M.pick [0,1,2,3] aD) aHp)) ?_;clear K M;rintro _ a w ⟨A14,c14,M⟩ K;revert a;exact mR 8 (b12,IntKind.i64.wrap (i+1)) (M.pick [1,0,2,3] aD)
   intro hb h;exact mR 8 (b10,IntKind.i64.wrap (i+1)) (M.pick [1,0,2,3] aD)
  intro hb h;exact mR 14 (b10,IntKind.i64.wrap (i+1)) (M.pick [1,0,2,3] aD)
 intro hb h;exact pI 3 (hk1 (l2,i)) (M.pick [0,1,2,3] aD)
theorem H1 {N:Nat} {x2:List Int} {aFj:Option Addr} {aFk:Nat} {w0:World} {r:Int} (h:rA N x2=some r) (aCR:SL w0 (cI .i64) aFj x2) (aJT:x2.length≤aFk) :
  Calls Tryz.prog 47 #[.slice aFj x2.length aFk] w0 fun e w'=>∃v,e = .returned v∧v=I r∧Mem w0.heap.size w0 w' []:=by
 refine gE Tryz.func47 Tryz.ntmps47 ?_;intro M;unfold rA at h;refine dS 13 h ?_ ?_
 ·intro hb h;refine aG 1 ?_;refine bQ (fun _ K=>Dm rfl cc9 K rfl) M ?_;intro a K;cases h
 intro hb h;obtain ⟨e,IR,h⟩:=aA h;refine aG 5 ?_;refine bQ (fun _ K=>fP rfl g9 K rfl rfl (bE aCR) IR) M ?_;refine bQ (fun _ K=>fM rfl jO K rfl rfl (bE aCR) IR rfl) M ?_;refine sP 10 0 (fun (⟨m,i⟩:Int × Int) a w=>Kn a 25 [(0,.slice aFj x2.length aFk),(3,I m),(4,I i)]∧Mem w0.heap.size w0 w []) M.nQ ?_ ?_
 ·clear M h;rintro ⟨m4,i4⟩ a w ⟨K,M⟩ h;try dsimp only at h
  revert a;exact aJ 9 (M.pick [] aD)
 clear M h;rintro kk fuel ⟨m,i⟩ a w hk1 ⟨K,M⟩ h;unfold lX at h;revert a;refine dS 9 h ?_ ?_
 ·intro hb h;obtain ⟨e3,k8,h⟩:=aA h;refine aG 8 ?_;refine bQ (fun _ K=>fP rfl g9 K rfl rfl (bE aCR) k8) M ?_;refine bQ (fun _ K=>fM rfl jO K rfl rfl (bE aCR) k8 rfl) M ?_;obtain ⟨m3,hx,h⟩:=dG h;refine nS 1 hx ?_;obtain ⟨i3,hx,h⟩:=dG h;refine nS 6 hx ?_;exact mR 2 (m3,i3) M.nQ
 intro hb h;exact pI 3 (hk1 (m,i)) M.nQ
theorem GE {N:Nat} {s:List Int} {H4:Option Addr} {Jd:Nat} {w0:World} {r:List Int} (h:pM N s=some r) (L9:SL w0 (cI .i64) H4 s) (XA:s.length≤Jd) :
  Calls Tryz.prog 48 #[.slice H4 s.length Jd] w0 fun e w'=>∃v,e = .returned v∧∃A0 c0,v = .slice A0 r.length c0∧Mem w0.heap.size w0 w' [.row 3 1 A0 r.length c0 ((cI .i64).all r)]:=by
 refine gE Tryz.func48 Tryz.ntmps48 ?_;intro M;unfold pM at h;refine aG 9 ?_
 by_cases hA:(H4).isNone=true
 ·have hs:=SL.Kp L9 hA;replace h:some ([]:List Int)=some r:=by rw [hs] at h;exact h
  clear hs;refine bQ (fun _ K=>Tj (b':=true) hA (Bw rfl Um K rfl rfl)) M ?_;exact aJ 10 (((Mem.aK 3 1 (cI .i64) M)).pick [0] aD)
 refine bQ (fun _ K=>Tj (b':=false) ((Bool.not_eq_true _).mp hA) (Bw rfl Um K rfl rfl)) M ?_;refine aG 7 ?_;intro a K;refine sN K (vF (C:=(cI .i64)) rfl g9 rfl K M) ?_;clear K M;rintro _ a w ⟨gs,rfl,M⟩ K;revert a;obtain ⟨l2,uH,h⟩:=aA h;refine aG 1 ?_;intro a K;refine sN K (jZ (C:=(cI .i64)) (xs:=([]:List Int)) (ys:=s) rfl g9 rfl z3 rfl rfl K rfl rfl 0 M rfl ((bE L9) _ M) uH) ?_;clear K M;rintro _ a w ⟨A,c,rfl,M⟩ K;revert a;exact aJ 4 (M.pick [0] aD)
theorem UL {N:Nat} {C4 wL dN gO dI:Int} {eO:List Int} {iR:Option Addr} {iS:Nat} {cL:List (List UInt8)} {eL:Option Addr} {eM:Nat} {bJ aX aY aZ a7 bK:Int} {aH:List (Int × Int)} {bS:Option Addr} {bT:Nat} {a8 bA bB aO aP aQ aR aS aT aU aV aW:Int} {aI:List (Int × Int)} {bU:Option Addr} {bV:Nat} {bC:Int} {w0:World} {r:Int} (h:EK N C4 wL dN gO dI eO cL bJ aX aY aZ a7 bK aH a8 bA bB aO aP aQ aR aS aT aU aV aW aI bC=some r) (xF:SL w0 (cI .i64) iR eO) (zI:eO.length≤iS) (w7:SL w0 cS eL cL) (zJ:cL.length≤eM) (kV:SL w0 hG bS aH) (lW:aH.length≤bT) (nK:SL w0 hG bU aI) (pD:aI.length≤bV) :
  Calls Tryz.prog 45 #[.agg #[I C4,I wL,I dN,I gO,I dI,.slice iR eO.length iS,.slice eL cL.length eM,I bJ,I aX,I aY,I aZ,I a7,I bK,.slice bS aH.length bT,I a8,I bA,I bB,I aO,I aP,I aQ,I aR,I aS,I aT,I aU,I aV,I aW,.slice bU aI.length bV,I bC]] w0 fun e w'=>∃v,e = .returned v∧v=I r∧Mem w0.heap.size w0 w' []:=by
 refine gE Tryz.func45 Tryz.ntmps45 ?_;intro M;unfold EK at h;refine fK 2 ?_;intro MJ w M;refine aG 14 ?_;intro a K;refine E0 (Rel:=fun (i:Bool) a w=>Kn a 49 [(1,.pointer (some ⟨MJ,0,none⟩)),(3,.bool i)]∧Mem w0.heap.size w0 w [.blk MJ 37 [I C4,I wL,I dN,I gO,I dI,.slice iR eO.length iS,.slice eL cL.length eM,I bJ,I aX,I aY,I aZ,I a7,I bK,.slice bS aH.length bT,I a8,I bA,I bB,I aO,I aP,I aQ,I aR,I aS,I aT,I aU,I aV,I aW,.slice bU aI.length bV,I bC]]) h ?_ ?_
 ·clear K M h;rintro i2 a w ⟨K,M⟩ h;try dsimp only at h
  revert a;refine dS 1 h ?_ ?_
  ·intro hb h;exact aJ 8 (M.pick [] aD)
  intro hb h;refine aG 9 ?_;intro a K;refine E0 (Rel:=fun (Gp:Bool) a w=>Kn a 49 [(1,.pointer (some ⟨MJ,0,none⟩)),(30,.bool Gp)]∧Mem w0.heap.size w0 w [.blk MJ 37 [I C4,I wL,I dN,I gO,I dI,.slice iR eO.length iS,.slice eL cL.length eM,I bJ,I aX,I aY,I aZ,I a7,I bK,.slice bS aH.length bT,I a8,I bA,I bB,I aO,I aP,I aQ,I aR,I aS,I aT,I aU,I aV,I aW,.slice bU aI.length bV,I bC]]) h ?_ ?_
  ·clear K M h;rintro i16 a w ⟨K,M⟩ h;try dsimp only at h
   revert a;refine dS 1 h ?_ ?_
   ·intro hb h;exact aJ 8 (M.pick [] aD)
   intro hb h;refine dS 8 h ?_ ?_
   ·intro hb h;obtain ⟨r2,eR,h⟩:=aA h;refine jE 4 (KK eR ((bE xF) _ M) zI) ?_;intro w M;exact aJ 6 (M.pick [] aD)
   intro hb h;refine dS 9 h ?_ ?_
   ·intro hb h;exact aJ 8 (M.pick [] aD)
   intro hb h;exact aJ 9 (M.pick [] aD)
  clear h;rintro EI Oj h;unfold C5 at h;revert a;refine dS 0 h ?_ ?_
  ·intro hb h;exact pI 1 (Oj (decide (gO<0))) M.oQ
  intro hb h;exact pI 6 (Oj (decide (7<gO))) M.oQ
 clear h;rintro EJ hj1 h;unfold C6 at h;revert a;refine dS 0 h ?_ ?_
 ·intro hb h;exact pI 1 (hj1 (decide (C4<1))) M.oQ
 intro hb h;refine aG 8 ?_;intro a K;refine E0 (Rel:=fun (i3:Bool) a w=>Kn a 49 [(1,.pointer (some ⟨MJ,0,none⟩)),(3,.bool i3)]∧Mem w0.heap.size w0 w [.blk MJ 37 [I C4,I wL,I dN,I gO,I dI,.slice iR eO.length iS,.slice eL cL.length eM,I bJ,I aX,I aY,I aZ,I a7,I bK,.slice bS aH.length bT,I a8,I bA,I bB,I aO,I aP,I aQ,I aR,I aS,I aT,I aU,I aV,I aW,.slice bU aI.length bV,I bC]]) h ?_ ?_
 ·clear K M h;rintro i4 a w ⟨K,M⟩ h;try dsimp only at h
  exact hj1 i4 _ _ ⟨K.pick [1,3],M.pick [0] aD⟩ h
 clear h;rintro EH hj2 h;unfold C3 at h;revert a;refine dS 0 h ?_ ?_
 ·intro hb h;exact pI 1 (hj2 (decide (64<C4))) M.oQ
 intro hb h;refine aG 8 ?_;intro a K;refine E0 (Rel:=fun (i5:Bool) a w=>Kn a 49 [(1,.pointer (some ⟨MJ,0,none⟩)),(3,.bool i5)]∧Mem w0.heap.size w0 w [.blk MJ 37 [I C4,I wL,I dN,I gO,I dI,.slice iR eO.length iS,.slice eL cL.length eM,I bJ,I aX,I aY,I aZ,I a7,I bK,.slice bS aH.length bT,I a8,I bA,I bB,I aO,I aP,I aQ,I aR,I aS,I aT,I aU,I aV,I aW,.slice bU aI.length bV,I bC]]) h ?_ ?_
 ·clear K M h;rintro i6 a w ⟨K,M⟩ h;try dsimp only at h
  exact hj2 i6 _ _ ⟨K.pick [1,3],M.pick [0] aD⟩ h
 clear h;rintro EG hj3 h;unfold C2 at h;revert a;refine dS 0 h ?_ ?_
 ·intro hb h;exact pI 1 (hj3 (decide (wL<1))) M.oQ
 intro hb h;refine aG 8 ?_;intro a K;refine E0 (Rel:=fun (i7:Bool) a w=>Kn a 49 [(1,.pointer (some ⟨MJ,0,none⟩)),(3,.bool i7)]∧Mem w0.heap.size w0 w [.blk MJ 37 [I C4,I wL,I dN,I gO,I dI,.slice iR eO.length iS,.slice eL cL.length eM,I bJ,I aX,I aY,I aZ,I a7,I bK,.slice bS aH.length bT,I a8,I bA,I bB,I aO,I aP,I aQ,I aR,I aS,I aT,I aU,I aV,I aW,.slice bU aI.length bV,I bC]]) h ?_ ?_
 ·clear K M h;rintro i8 a w ⟨K,M⟩ h;try dsimp only at h
  exact hj3 i8 _ _ ⟨K.pick [1,3],M.pick [0] aD⟩ h
 clear h;rintro EF hj4 h;unfold C1 at h;revert a;refine dS 0 h ?_ ?_
 ·intro hb h;exact pI 1 (hj4 (decide (64<wL))) M.oQ
 intro hb h;refine aG 8 ?_;intro a K;refine E0 (Rel:=fun (i9:Bool) a w=>Kn a 49 [(1,.pointer (some ⟨MJ,0,none⟩)),(3,.bool i9)]∧Mem w0.heap.size w0 w [.blk MJ 37 [I C4,I wL,I dN,I gO,I dI,.slice iR eO.length iS,.slice eL cL.length eM,I bJ,I aX,I aY,I aZ,I a7,I bK,.slice bS aH.length bT,I a8,I bA,I bB,I aO,I aP,I aQ,I aR,I aS,I aT,I aU,I aV,I aW,.slice bU aI.length bV,I bC]]) h ?_ ?_
 ·clear K M h;rintro Ld a w ⟨K,M⟩ h;try dsimp only at h
  exact hj4 Ld _ _ ⟨K.pick [1,3],M.pick [0] aD⟩ h
 clear h;rintro EE hj5 h;unfold C0 at h;revert a;refine dS 0 h ?_ ?_
 ·intro hb h;exact pI 1 (hj5 (decide (dN<1))) M.oQ
 intro hb h;refine aG 8 ?_;intro a K;refine E0 (Rel:=fun (i11:Bool) a w=>Kn a 49 [(1,.pointer (some ⟨MJ,0,none⟩)),(3,.bool i11)]∧Mem w0.heap.size w0 w [.blk MJ 37 [I C4,I wL,I dN,I gO,I dI,.slice iR eO.length iS,.slice eL cL.length eM,I bJ,I aX,I aY,I aZ,I a7,I bK,.slice bS aH.length bT,I a8,I bA,I bB,I aO,I aP,I aQ,I aR,I aS,I aT,I aU,I aV,I aW,.slice bU aI.length bV,I bC]]) h ?_ ?_
 ·clear K M h;rintro i12 a w ⟨K,M⟩ h;try dsimp only at h
  exact hj5 i12 _ _ ⟨K.pick [1,3],M.pick [0] aD⟩ h
 clear h;rintro ED hj6 h;unfold CZ at h;revert a;refine dS 0 h ?_ ?_
 ·intro hb h;exact pI 1 (hj6 (decide (16<dN))) M.oQ
 intro hb h;refine aG 8 ?_;intro a K;refine E0 (Rel:=fun (i13:Bool) a w=>Kn a 49 [(1,.pointer (some ⟨MJ,0,none⟩)),(3,.bool i13)]∧Mem w0.heap.size w0 w [.blk MJ 37 [I C4,I wL,I dN,I gO,I dI,.slice iR eO.length iS,.slice eL cL.length eM,I bJ,I aX,I aY,I aZ,I a7,I bK,.slice bS aH.length bT,I a8,I bA,I bB,I aO,I aP,I aQ,I aR,I aS,I aT,I aU,I aV,I aW,.slice bU aI.length bV,I bC]]) h ?_ ?_
 ·clear K M h;rintro i14 a w ⟨K,M⟩ h;try dsimp only at h
  exact hj6 i14 _ _ ⟨K.pick [1,3],M.pick [0] aD⟩ h
 clear h;rintro EC hj7 h;unfold CY at h;revert a;refine dS 0 h ?_ ?_
 ·intro hb h;exact pI 1 (hj7 (decide (dI<1))) M.oQ
 intro hb h;exact pI 8 (hj7 (decide (wL<dI))) M.oQ
theorem Rk {N:Nat} {Xu Xv As Cv Nm Qc Qd:Int} {J6:List Int} {PN:Option Addr} {PO:Nat} {Gl:List (List UInt8)} {Mg:Option Addr} {Mh:Nat} {FT EL EM EN EO FU:Int} {At:List (Int × Int)} {Hx:Option Addr} {Hy:Nat} {EP EQ ER Dy Dz DA DB DC DD DE DF DG:Int} {Au:List (Int × Int)} {Hz:Option Addr} {HD:Nat} {ES:Int} {uC:Nat} {w0:World} {r:Bool} (h:Ei N Xu Xv As Cv Nm Qc Qd J6 Gl FT EL EM EN EO FU At EP EQ ER Dy Dz DA DB DC DD DE DF DG Au ES=some r) (aFD:SL w0 (cI .i64) PN J6) (aFE:J6.length≤PO) (aDD:SL w0 cS Mg Gl) (aDE:Gl.length≤Mh) (XC:SL w0 hG Hx At) (XD:At.length≤Hy) (XE:SL w0 hG Hz Au) (XF:Au.length≤HD) (wZ:jM w0 uC 37 #[I As,I Cv,I Nm,I Qc,I Qd,.slice PN J6.length PO,.slice Mg Gl.length Mh,I FT,I EL,I EM,I EN,I EO,I FU,.slice Hx At.length Hy,I EP,I EQ,I ER,I Dy,I Dz,I DA,I DB,I DC,I DD,I DE,I DF,I DG,.slice Hz Au.length HD,I ES]) :
  Calls Tryz.prog 120 #[.agg #[I Xu,I Xv],.pointer (some ⟨uC,0,none⟩)] w0 fun e w'=>∃v,e = .returned v∧v = .bool r∧Mem w0.heap.size w0 w' []:=by
 refine gE Tryz.func120 Tryz.ntmps120 ?_;intro M;unfold Ei at h;refine fK 2 ?_;intro g_s w M;refine mF 11 9 h ?_ ?_
 ·intro hb h;exact aJ 10 (M.pick [] aD)
 intro hb h;exact aJ 10 (M.pick [] aD)
theorem uD {N:Nat} {s:List (Int × Int)} {H4:Option Addr} {Jd:Nat} {sT sU lK nP nR:Int} {jL:List Int} {xG:Option Addr} {xH:Nat} {gK:List (List UInt8)} {uX:Option Addr} {uY:Nat} {gL fQ fR fS fT gM:Int} {dY:List (Int × Int)} {rG:Option Addr} {rH:Nat} {fU fV fW eX eY eZ fA fB fC fD fE fF:Int} {dZ:List (Int × Int)} {rI:Option Addr} {rJ:Nat} {fX:Int} {Bs:Nat} {w0:World} {r:Int} (h:fO N s sT sU lK nP nR jL gK gL fQ fR fS fT gM dY fU fV fW eX eY eZ fA fB fC fD fE fF dZ fX=some r) (L9:SL w0 hG H4 s) (XA:s.length≤Jd) (DP:SL w0 (cI .i64) xG jL) (DQ:jL.length≤xH) (B7:SL w0 cS uX gK) (B8:gK.length≤uY) (xW:SL w0 hG rG dY) (xX:dY.length≤rH) (xY:SL w0 hG rI dZ) (xZ:dZ.length≤rJ) (Hd:jM w0 Bs 37 #[I sT,I sU,I lK,I nP,I nR,.slice xG jL.length xH,.slice uX gK.length uY,I gL,I fQ,I fR,I fS,I fT,I gM,.slice rG dY.length rH,I fU,I fV,I fW,I eX,I eY,I eZ,I fA,I fB,I fC,I fD,I fE,I fF,.slice rI dZ.length rJ,I fX]) :
  Calls Tryz.prog 163 #[.slice H4 s.length Jd,.func (.func 120) #[] #[.pointer (some ⟨Bs,0,none⟩)]] w0 fun e w'=>∃v,e = .returned v∧v=I r∧Mem w0.heap.size w0 w' []:=by
 refine gE Tryz.func163 Tryz.ntmps163 ?_;intro M;unfold fO at h;refine sP 14 0 (fun (i:Int) a w=>Kn a 19 [(0,.slice H4 s.length Jd),(1,.func (.func 120) #[] #[.pointer (some ⟨Bs,0,none⟩)]),(7,I (s.length:Int)),(8,I i)]∧Mem w0.heap.size w0 w []) M.nQ ?_ ?_
 ·clear M h;rintro i2 a w ⟨K,M⟩ h;try dsimp only at h
  revert a;exact aJ 8 (M.pick [] aD)
 clear M h;rintro kk fuel i a w hk1 ⟨K,M⟩ h;unfold bR at h;revert a;refine dS 6 h ?_ ?_
 ·intro hb h;obtain ⟨e2,lV,h⟩:=aA h;refine aG 15 ?_;refine bQ (fun _ K=>fP rfl Gv K rfl rfl (bE L9) lV) M ?_;refine bQ (fun _ K=>mL rfl Un K rfl rfl rfl (bE L9) lV) M ?_;obtain ⟨r3,kU,h⟩:=aA h;intro a K;refine sN K (gZ (vs:=[.agg #[I e2.1,I e2.2]]) (cap:=[.pointer (some ⟨Bs,0,none⟩)]) rfl Z3 K rfl rfl (Rk kU ((bE DP) _ M) DQ ((bE B7) _ M) B8 ((bE xW) _ M) xX ((bE xY) _ M) xZ (Du Hd _ M))) ?_;clear K;rintro _ a w ⟨rfl,Zq⟩ K;replace M:=M.call Zq;clear Zq;revert a;refine dS 2 h ?_ ?_
  ·intro hb h;exact aJ 12 (M.pick [] aD)
  intro hb h;exact mR 8 (IntKind.i64.wrap (i+1)) M.nQ
 intro hb h;exact pI 3 (hk1 i) M.nQ
theorem tK {N:Nat} {s:List (Int × Int)} {H4:Option Addr} {Jd:Nat} {sT sU lK nP nR:Int} {jL:List Int} {xG:Option Addr} {xH:Nat} {gK:List (List UInt8)} {uX:Option Addr} {uY:Nat} {gL fQ fR fS fT gM:Int} {dY:List (Int × Int)} {rG:Option Addr} {rH:Nat} {fU fV fW eX eY eZ fA fB fC fD fE fF:Int} {dZ:List (Int × Int)} {rI:Option Addr} {rJ:Nat} {fX:Int} {Bs:Nat} {w0:World} {r:Bool} (h:dV N s sT sU lK nP nR jL gK gL fQ fR fS fT gM dY fU fV fW eX eY eZ fA fB fC fD fE fF dZ fX=some r) (L9:SL w0 hG H4 s) (XA:s.length≤Jd) (DP:SL w0 (cI .i64) xG jL) (DQ:jL.length≤xH) (B7:SL w0 cS uX gK) (B8:gK.length≤uY) (xW:SL w0 hG rG dY) (xX:dY.length≤rH) (xY:SL w0 hG rI dZ) (xZ:dZ.length≤rJ) (Hd:jM w0 Bs 37 #[I sT,I sU,I lK,I nP,I nR,.slice xG jL.length xH,.slice uX gK.length uY,I gL,I fQ,I fR,I fS,I fT,I gM,.slice rG dY.length rH,I fU,I fV,I fW,I eX,I eY,I eZ,I fA,I fB,I fC,I fD,I fE,I fF,.slice rI dZ.length rJ,I fX]) :
  Calls Tryz.prog 119 #[.slice H4 s.length Jd,.func (.func 120) #[] #[.pointer (some ⟨Bs,0,none⟩)]] w0 fun e w'=>∃v,e = .returned v∧v = .bool r∧Mem w0.heap.size w0 w' []:=by
 refine gE Tryz.func119 Tryz.ntmps119 ?_;intro M;unfold dV at h;obtain ⟨r2,eR,h⟩:=aA h;refine jE 9 (uD eR ((bE L9) _ M) XA ((bE DP) _ M) DQ ((bE B7) _ M) B8 ((bE xW) _ M) xX ((bE xY) _ M) xZ (Du Hd _ M)) ?_;intro w M;exact aJ 5 (M.pick [] aD)
theorem UM {N:Nat} {C4 wL dN gO dI:Int} {eO:List Int} {iR:Option Addr} {iS:Nat} {cL:List (List UInt8)} {eL:Option Addr} {eM:Nat} {bJ aX aY aZ a7 bK:Int} {aH:List (Int × Int)} {bS:Option Addr} {bT:Nat} {a8 bA bB aO aP aQ aR aS aT aU aV aW:Int} {aI:List (Int × Int)} {bU:Option Addr} {bV:Nat} {bC:Int} {w0:World} {r:Int} (h:ET N C4 wL dN gO dI eO cL bJ aX aY aZ a7 bK aH a8 bA bB aO aP aQ aR aS aT aU aV aW aI bC=some r) (xF:SL w0 (cI .i64) iR eO) (zI:eO.length≤iS) (w7:SL w0 cS eL cL) (zJ:cL.length≤eM) (kV:SL w0 hG bS aH) (lW:aH.length≤bT) (nK:SL w0 hG bU aI) (pD:aI.length≤bV) :
  Calls Tryz.prog 46 #[.agg #[I C4,I wL,I dN,I gO,I dI,.slice iR eO.length iS,.slice eL cL.length eM,I bJ,I aX,I aY,I aZ,I a7,I bK,.slice bS aH.length bT,I a8,I bA,I bB,I aO,I aP,I aQ,I aR,I aS,I aT,I aU,I aV,I aW,.slice bU aI.length bV,I bC]] w0 fun e w'=>∃v,e = .returned v∧v=I r∧Mem w0.heap.size w0 w' []:=by
 refine gE Tryz.func46 Tryz.ntmps46 ?_;intro M;unfold ET at h;refine fK 2 ?_;intro MJ w M;obtain ⟨r2,eR,h⟩:=aA h;refine jE 8 (z8 eR ((bE kV) _ M) lW ((bE nK) _ M) pD) ?_;intro w M;refine dS 9 h ?_ ?_
 ·intro hb h;exact aJ 8 (M.pick [] aD)
 intro hb h;obtain ⟨r3,kU,h⟩:=aA h;refine jE 9 (tK kU ((bE kV) _ M) lW ((bE xF) _ M) zI ((bE w7) _ M) zJ ((bE kV) _ M) lW ((bE nK) _ M) pD (M.bN (i:=0) rfl)) ?_;intro w M;refine dS 2 h ?_ ?_
 ·intro hb h;exact aJ 7 (M.pick [] aD)
 intro hb h;exact aJ 8 (M.pick [] aD)
theorem Rl {N:Nat} {C4 wL dN gO dI:Int} {eO:List Int} {iR:Option Addr} {iS:Nat} {cL:List (List UInt8)} {eL:Option Addr} {eM:Nat} {bJ aX aY aZ a7 bK:Int} {aH:List (Int × Int)} {bS:Option Addr} {bT:Nat} {a8 bA bB aO aP aQ aR aS aT aU aV aW:Int} {aI:List (Int × Int)} {bU:Option Addr} {bV:Nat} {bC:Int} {w0:World} {r:List (Int × Int)} (h:Ej N C4 wL dN gO dI eO cL bJ aX aY aZ a7 bK aH a8 bA bB aO aP aQ aR aS aT aU aV aW aI bC=some r) (xF:SL w0 (cI .i64) iR eO) (zI:eO.length≤iS) (w7:SL w0 cS eL cL) (zJ:cL.length≤eM) (kV:SL w0 hG bS aH) (lW:aH.length≤bT) (nK:SL w0 hG bU aI) (pD:aI.length≤bV) :
  Calls Tryz.prog 51 #[.agg #[I C4,I wL,I dN,I gO,I dI,.slice iR eO.length iS,.slice eL cL.length eM,I bJ,I aX,I aY,I aZ,I a7,I bK,.slice bS aH.length bT,I a8,I bA,I bB,I aO,I aP,I aQ,I aR,I aS,I aT,I aU,I aV,I aW,.slice bU aI.length bV,I bC]] w0 fun e w'=>∃v,e = .returned v∧∃A0 c0,v = .slice A0 r.length c0∧Mem w0.heap.size w0 w' [.row 96 2 A0 r.length c0 (hG.all r)]:=by
 refine gE Tryz.func51 Tryz.ntmps51 ?_;intro M;unfold Ej at h;refine fK 2 ?_;intro MJ w M;refine aG 15 ?_;replace M:=Mem.aK 96 2 hG M;refine sP 0 0 (fun (⟨l3,y2⟩:List (Int × Int) × Int) a w=>∃(A2:Option Addr) (c2:Nat),Kn a 26 [(1,.pointer (some ⟨MJ,0,none⟩)),(3,.slice A2 l3.length c2),(4,I y2)]∧Mem w0.heap.size w0 w [.row 96 2 A2 l3.length c2 (hG.all l3),.blk MJ 37 [I C4,I wL,I dN,I gO,I dI,.slice iR eO.length iS,.slice eL cL.length eM,I bJ,I aX,I aY,I aZ,I a7,I bK,.slice bS aH.length bT,I a8,I bA,I bB,I aO,I aP,I aQ,I aR,I aS,I aT,I aU,I aV,I aW,.slice bU aI.length bV,I bC]]) (M.pick [0,1] aD) ?_ ?_
 ·clear M h;rintro ⟨l6,y5⟩ a w ⟨A5,c5,K,M⟩ h;try dsimp only at h
  revert a;exact aJ 9 (M.pick [0] aD)
 clear M h;rintro kk fuel ⟨l3,y2⟩ a w hk1 ⟨A2,c2,K,M⟩ h;unfold uN at h;revert a;refine dS 9 h ?_ ?_
 ·intro hb h;refine aG 14 ?_;refine bQ (fun _ K=>bG rfl K (vs:=[(0,I y2),(1,I (min dI (IntKind.i64.wrap (wL-y2))))]) (cs:=[I y2,I (min dI (IntKind.i64.wrap (wL-y2)))]) rfl aE) M ?_;intro a K;refine sN K (dK rfl ZT z96 K (vs:=[(0,.agg #[I y2,I (min dI (IntKind.i64.wrap (wL-y2)))])]) (cs:=[I y2,I (min dI (IntKind.i64.wrap (wL-y2)))]) rfl aE rfl rfl M) ?_;have M0:=M;clear K M;rintro _ a w ⟨gs3,rfl,M⟩ K;replace M:=M.oI 0 rfl hG ([(y2,min dI (IntKind.i64.wrap (wL-y2)))]:List (Int × Int)) (n:=1) rfl rfl rfl;clear M0;obtain ⟨l5,wK,h⟩:=aA h;refine sN K (jZ (C:=hG) (xs:=l3) (ys:=([(y2,min dI (IntKind.i64.wrap (wL-y2)))]:List (Int × Int))) rfl ZT rfl z96 rfl rfl K rfl rfl 1 M rfl ((hF (C:=hG) 0 rfl rfl) _ M) wK) ?_;clear K M;rintro _ a w ⟨A4,c4,rfl,M⟩ K;revert a;obtain ⟨y4,hx,h⟩:=dG h;refine nS 9 hx ?_;exact mR 2 (l5,y4) (M.pick [1,2] aD)
 intro hb h;exact pI 3 (hk1 (l3,y2)) (M.pick [0,1] aD)
theorem Ok {N:Nat} {dM fN iI lL hZ:Int} {kI:List Int} {zK:Option Addr} {zL:Nat} {fI:List (List UInt8)} {tY:Option Addr} {tZ:Nat} {dO cQ cR cU cV dP:Int} {cM:List (Int × Int)} {nL:Option Addr} {nM:Nat} {cW cZ dA cA cB cC cD cE cG cH cJ cK:Int} {cN:List (Int × Int)} {nN:Option Addr} {nO:Nat} {dB vO Ab:Int} {xU:List Int} {pP:Option Addr} {kW:Nat} {w0:World} {r:Int × Int × Int × Int × Int × List Int × List (List UInt8) × Int × Int × Int × Int × Int × Int × List (Int × Int) × Int × Int × Int × Int × Int × Int × Int × Int × Int × Int × Int × Int × List (Int × Int) × Int × Int} (h:CJ N dM fN iI lL hZ kI fI dO cQ cR cU cV dP cM cW cZ dA cA cB cC cD cE cG cH cJ cK cN dB vO Ab xU=some r) (pQ:SL w0 (cI .i64) zK kI) (pR:kI.length≤zL) (oL:SL w0 cS tY fI) (qL:fI.length≤tZ) (iA:SL w0 hG nL cM) (iB:cM.length≤nM) (iC:SL w0 hG nN cN) (iD:cN.length≤nO) (rR:SL w0 (cI .i64) pP xU) (mJ:xU.length≤kW) :
  Calls Tryz.prog 11 #[.agg #[I dM,I fN,I iI,I lL,I hZ,.slice zK kI.length zL,.slice tY fI.length tZ,I dO,I cQ,I cR,I cU,I cV,I dP,.slice nL cM.length nM,I cW,I cZ,I dA,I cA,I cB,I cC,I cD,I cE,I cG,I cH,I cJ,I cK,.slice nN cN.length nO,I dB],.agg #[I vO,I Ab,.slice pP xU.length kW]] w0 fun e w'=>∃v,e = .returned v∧∃A5 c5 A6 c6 Rw c13 X6 Xt,v = .tuple #[.agg #[I r.1,I r.2.1,I r.2.2.1,I r.2.2.2.1,I r.2.2.2.2.1,.slice A5 r.2.2.2.2.2.1.length c5,.slice A6 r.2.2.2.2.2.2.1.length c6,I r.2.2.2.2.2.2.2.1,I r.2.2.2.2.2.2.2.2.1,I r.2.2.2.2.2.2.2.2.2.1,I r.2.2.2.2.2.2.2.2.2.2.1,I r.2.2.2.2.2.2.2.2.2.2.2.1,I r.2.2.2.2.2.2.2.2.2.2.2.2.1,.slice Rw r.2.2.2.2.2.2.2.2.2.2.2.2.2.1.length c13,I r.2.2.2.2.2.2.2.2.2.2.2.2.2.2.1,I r.2.2.2.2.2.2.2.2.2.2.2.2.2.2.2.1,I r.2.2.2.2.2.2.2.2.2.2.2.2.2.2.2.2.1,I r.2.2.2.2.2.2.2.2.2.2.2.2.2.2.2.2.2.1,I r.2.2.2.2.2.2.2.2.2.2.2.2.2.2.2.2.2.2.1,I r.2.2.2.2.2.2.2.2.2.2.2.2.2.2.2.2.2.2.2.1,I r.2.2.2.2.2.2.2.2.2.2.2.2.2.2.2.2.2.2.2.2.1,I r.2.2.2.2.2.2.2.2.2.2.2.2.2.2.2.2.2.2.2.2.2.1,I r.2.2.2.2.2.2.2.2.2.2.2.2.2.2.2.2.2.2.2.2.2.2.1,I r.2.2.2.2.2.2.2.2.2.2.2.2.2.2.2.2.2.2.2.2.2.2.2.1,I r.2.2.2.2.2.2.2.2.2.2.2.2.2.2.2.2.2.2.2.2.2.2.2.2.1,I r.2.2.2.2.2.2.2.2.2.2.2.2.2.2.2.2.2.2.2.2.2.2.2.2.2.1,.slice X6 r.2.2.2.2.2.2.2.2.2.2.2.2.2.2.2.2.2.2.2.2.2.2.2.2.2.2.1.length Xt,I r.2.2.2.2.2.2.2.2.2.2.2.2.2.2.2.2.2.2.2.2.2.2.2.2.2.2.2.1],I r.2.2.2.2.2.2.2.2.2.2.2.2.2.2.2.2.2.2.2.2.2.2.2.2.2.2.2.2]∧Mem w0.heap.size w0 w' [.row 3 1 A5 r.2.2.2.2.2.1.length c5 ((cI .i64).all r.2.2.2.2.2.1),.row 9 1 A6 r.2.2.2.2.2.2.1.length c6 (cS.all r.2.2.2.2.2.2.1),.row 92 2 Rw r.2.2.2.2.2.2.2.2.2.2.2.2.2.1.length c13 (hG.all r.2.2.2.2.2.2.2.2.2.2.2.2.2.1),.row 47 2 X6 r.2.2.2.2.2.2.2.2.2.2.2.2.2.2.2.2.2.2.2.2.2.2.2.2.2.2.1.length Xt (hG.all r.2.2.2.2.2.2.2.2.2.2.2.2.2.2.2.2.2.2.2.2.2.2.2.2.2.2.1)]:=by
 refine gE Tryz.func11 Tryz.ntmps11 ?_;intro M;unfold CJ at h;refine fK 2 ?_;intro gW w M;refine fK 0 ?_;intro gH w M;refine fK 0 ?_;intro lJ w M;obtain ⟨r2,eR,h⟩:=aA h;refine jE 7 (UL eR ((bE pQ) _ M) pR ((bE oL) _ M) qL ((bE iA) _ M) iB ((bE iC) _ M) iD) ?_;intro w M;refine dS 9 h ?_ ?_
 ·intro hb h;refine fL 4 ?_;intro w M;exact eG 5 (((Mem.aK 47 2 hG (Mem.aK 92 2 hG (Mem.aK 9 1 cS (Mem.aK 3 1 (cI .i64) M))))).pick [3,2,1,0] aD)
 intro hb h;obtain ⟨r3,kU,h⟩:=aA h;refine jE 6 (UM kU ((bE pQ) _ M) pR ((bE oL) _ M) qL ((bE iA) _ M) iB ((bE iC) _ M) iD) ?_;intro w M;refine dS 9 h ?_ ?_
 ·intro hb h;refine fL 4 ?_;intro w M;exact eG 5 (((Mem.aK 47 2 hG (Mem.aK 92 2 hG (Mem.aK 9 1 cS (Mem.aK 3 1 (cI .i64) M))))).pick [3,2,1,0] aD)
 intro hb h;obtain ⟨r4,qJ,h⟩:=aA h;refine jE 6 (xB N vO Ab xU pP kW (([]:List (Int × Int))) none 0 _ ((bE rR) _ M) mJ ((fun _ _=>SL.nil) _ M) (Nat.le_refl _) r4 qJ) ?_;intro A c w M;refine fK 3 ?_;intro sL w M;refine fL 0 ?_;intro w M;refine aG 4 ?_;intro a K;refine aF (fun w=>Mem _ _ w _) [0,0,0,0,0,0,0,0,0,0,0,0,0,0,0,0,0,0,0,1,0,0,0,0,0] aE aE M.drew ?_;replace M:=M.drew;revert a;refine mF 3 35 h ?_ ?_
 ·intro hb h;refine aG 16 ?_;intro a K;refine jV K (K.no rfl rfl rfl rfl) rfl rfl (M.pick [0,1,2,3,4] aD) ?_;clear K;intro a K;revert a;refine fL 11 ?_;intro w M;exact eG 5 (((Mem.aK 47 2 hG (Mem.aK 92 2 hG (Mem.aK 9 1 cS (Mem.aK 3 1 (cI .i64) M))))).pick [3,2,1,0] aD)
 intro hb h;refine mF 7 42 h ?_ ?_
 ·intro hb h;refine aG 9 ?_;intro a K;refine jV K (K.no rfl rfl rfl rfl) rfl rfl (M.pick [0,1,2,3,4] aD) ?_;clear K;intro a K;revert a;refine fL 11 ?_;intro w M;exact eG 5 (((Mem.aK 47 2 hG (Mem.aK 92 2 hG (Mem.aK 9 1 cS (Mem.aK 3 1 (cI .i64) M))))).pick [3,2,1,0] aD)
 intro hb h;refine mF 7 49 h ?_ ?_
 ·intro hb h;refine aG 2 ?_;intro a K;refine jV K (K.no rfl rfl rfl rfl) rfl rfl (M.pick [0,1,2,3,4] aD) ?_;clear K;intro a K;revert a;refine fL 11 ?_;intro w M;exact eG 5 (((Mem.aK 47 2 hG (Mem.aK 92 2 hG (Mem.aK 9 1 cS (Mem.aK 3 1 (cI .i64) M))))).pick [3,2,1,0] aD)
 intro hb h;obtain ⟨r5,tH,h⟩:=aA h;refine aG 2 ?_;intro a K;refine nY K (sC aDi K (H1 tH ((bE rR) _ M) mJ)) ?_;clear K;rintro _ a w ⟨rfl,Zq⟩ K;replace M:=M.call Zq;clear Zq;refine ⟨M.pick [0,1,2,3,4] aD,?_⟩;revert a;obtain ⟨_,h0,h⟩:=aA h;have h0:=t6 h0;refine aG 2 ?_;refine eC (fun _ K=>vV rfl K rfl rfl h0) ?_;refine dS 4 h ?_ ?_
 ·intro hb h;refine fL 3 ?_;intro w M;exact eG 5 (((Mem.aK 47 2 hG (Mem.aK 92 2 hG (Mem.aK 9 1 cS (Mem.aK 3 1 (cI .i64) M))))).pick [3,2,1,0] aD)
 intro hb h;refine fK 5 ?_;intro Do w M;refine fL 0 ?_;intro w M;refine aG 3 ?_;intro a K;refine aF (fun w=>Mem _ _ w _) [0,0,1,0,0,0,1,0,0,0,1,0,1,0,0,1,0,0,1] aE aE (M.pick [1,2,3,4,5] aD).drew ?_;replace M:=M.drew;revert a;obtain ⟨r6,w6,h⟩:=aA h;refine aG 2 ?_;intro a K;refine nY K (sC aDj K (GE w6 ((bE pQ) _ M) pR)) ?_;clear K;rintro _ a w ⟨A2,c2,rfl,Zq⟩ K;replace M:=M.call Zq;clear Zq;refine ⟨M.pick [2,3,4,5,6] aD,?_⟩;revert a;obtain ⟨r7,CT,h⟩:=aA h;refine aG 3 ?_;intro a K;refine nY K (sC aDk K (BH CT ((bE iA) _ M) iB)) ?_;clear K;rintro _ a w ⟨A3,c3,rfl,Zq⟩ K;replace M:=M.call Zq;clear Zq;refine ⟨M.pick [3,4,5,6,7] aD,?_⟩;revert a;obtain ⟨r8,DL,h⟩:=aA h;refine aG 3 ?_;intro a K;refine nY K (sC aDl K (AI DL ((bE iC) _ M) iD)) ?_;clear K;rintro _ a w ⟨A4,c4,rfl,Zq⟩ K;replace M:=M.call Zq;clear Zq;refine ⟨M.pick [4,5,6,7,8] aD,?_⟩;revert a;refine aG 1 ?_;intro a K;refine Gb K (aB rfl) rfl (bM rfl Iq K rfl rfl rfl 3 M rfl rfl) ?_;clear K M;rintro _ a w M K;refine ⟨M.pick [4,5,6,7,8] aD,?_⟩;revert a;refine aG 2 ?_;intro a K;refine Gb K (aB rfl) rfl (bM rfl ZS K rfl rfl rfl 3 M rfl rfl) ?_;clear K M;rintro _ a w M K;refine ⟨M.pick [4,5,6,7,8] aD,?_⟩;revert a;refine aG 2 ?_;intro a K;refine Gb K (aB rfl) rfl (bM rfl aGN K rfl rfl rfl 3 M rfl rfl) ?_;clear K M;rintro _ a w M K;refine ⟨M.pick [4,5,6,7,8] aD,?_⟩;revert a;refine fL 5 ?_;intro w M;obtain ⟨r9,E8,h⟩:=aA h;refine jE 6 (Rl E8 ((bE pQ) _ M) pR ((bE oL) _ M) qL ((bE iA) _ M) iB ((bE iC) _ M) iD) ?_;intro A5 c5 w M;refine aG 5 ?_;replace M:=Mem.aK 9 1 cS M;refine sP 0 0 (fun (⟨kJ,i⟩:List (List UInt8) × Int) a w=>∃(A6:Option Addr) (c6:Nat),Kn a 136 [(2,.pointer (some ⟨gW,0,none⟩)),(3,.pointer (some ⟨gH,0,none⟩)),(4,.pointer (some ⟨lJ,0,none⟩)),(10,.pointer (some ⟨Do,0,none⟩)),(78,.slice A5 r9.length c5),(79,I (r9.length:Int)),(80,I i)]∧Mem w0.heap.size w0 w [.row 9 1 A6 kJ.length c6 (cS.all kJ),.row 96 2 A5 r9.length c5 (hG.all r9),.row 47 2 A4 r8.length c4 (hG.all r8),.row 92 2 A3 r7.length c3 (hG.all r7),.row 3 1 A2 r6.length c2 ((cI .i64).all r6),.blk Do 37 [I dM,I fN,I iI,I lL,I hZ,.slice A2 r6.length c2,.slice A6 kJ.length c6,I dO,I cQ,I cR,I cU,I cV,I dP,.slice A3 r7.length c3,I cW,I cZ,I dA,I cA,I cB,I cC,I cD,I cE,I cG,I cH,I cJ,I cK,.slice A4 r8.length c4,I dB],.blk lJ 37 [I 0,I 0,I 0,I 0,I 0,.slice none ([]:List Int).length 0,.slice none (([]:List (List UInt8))).length 0,I 0,I 0,I 0,I 0,I 0,I 0,.slice none (([]:List (Int × Int))).length 0,I 0,I 0,I 0,I 0,I 0,I 0,I 0,I 0,I 0,I 0,I 0,I 0,.slice none (([]:List (Int × Int))).length 0,I 0],.blk gH 31 [I vO,I Ab,.slice pP xU.length kW],.blk gW 37 [I dM,I fN,I iI,I lL,I hZ,.slice zK kI.length zL,.slice tY fI.length tZ,I dO,I cQ,I cR,I cU,I cV,I dP,.slice nL cM.length nM,I cW,I cZ,I dA,I cA,I cB,I cC,I cD,I cE,I cG,I cH,I cJ,I cK,.slice nN cN.length nO,I dB]]) (M.pick [0,1,2,3,4,5,8,9,10] aD) ?_ ?_
 ·clear M h;rintro ⟨IG,i2⟩ a w ⟨A11,c11,K,M⟩ h;try dsimp only at h
  revert a;refine fL 5 ?_;intro w M;exact eG 4 (M.pick [4,0,3,2] aD)
 clear M h;rintro kk fuel ⟨kJ,i⟩ a w hk1 ⟨A6,c6,K,M⟩ h;unfold vD at h;revert a;refine dS 6 h ?_ ?_
 ·intro hb h;obtain ⟨e2,lV,h⟩:=aA h;refine aG 6 ?_;refine bQ (fun _ K=>fP rfl ZT K rfl rfl (hF (C:=hG) 1 rfl rfl) lV) M ?_;refine bQ (fun _ K=>mL rfl aGT K rfl rfl rfl (hF (C:=hG) 1 rfl rfl) lV) M ?_;refine fK 0 ?_;intro Re w M;refine fL 0 ?_;intro w M;refine aG 6 ?_;refine bQ (fun _ K=>dL rfl aCH uF K rfl rfl aD aD) M ?_;refine aG 4 ?_;refine bQ (fun _ K=>dL rfl aCH uF K rfl rfl aD aD) M ?_;refine aG 1 ?_;refine bQ (fun _ K=>dL rfl aCH uF K rfl rfl aD aD) M ?_;obtain ⟨l3,Hc,h⟩:=aA h;refine aG 5 ?_;refine bQ (fun _ K=>Ap (C:=(cI .i64)) (k:=.i64) (k':=.i64) rfl g9 rfl K rfl mJ rfl rfl Hc) M ?_;obtain ⟨Ae,Dp,h⟩:=aA h;refine jE 8 (S7 Dp ((fun w M=>(BN Hc mJ) w ((bE rR) w M)) _ M) (yC Hc mJ)) ?_;intro w M;refine dS 15 h ?_ ?_
  ·intro hb h;refine aG 3 ?_;refine bQ (fun _ K=>dL rfl aCH uF K rfl rfl aD aD) M ?_;refine aG 2 ?_;refine bQ (fun _ K=>bG rfl K (vs:=[(0,I vO),(1,I e2.2),(2,.slice ((Rv pP kW (IntKind.i64.wrap (e2.1*vO)) 1)) l3.length ((kW-Int.toNat (IntKind.i64.wrap (e2.1*vO)))))]) (cs:=[I vO,I e2.2,.slice ((Rv pP kW (IntKind.i64.wrap (e2.1*vO)) 1)) l3.length ((kW-Int.toNat (IntKind.i64.wrap (e2.1*vO))))]) rfl aE) M ?_;obtain ⟨DX,Dq,h⟩:=aA h;refine jE 4 (Rj Dq ((fun w M=>(BN Hc mJ) w ((bE rR) w M)) _ M) (yC Hc mJ) ((bE pQ) _ M) pR) ?_;intro w M;refine dS 14 h ?_ ?_
   ·intro hb h;refine fL 4 ?_;intro w M;exact eG 10 (((Mem.aK 47 2 hG (Mem.aK 92 2 hG (Mem.aK 9 1 cS (Mem.aK 3 1 (cI .i64) M))))).pick [3,2,1,0] aD)
   intro hb h;refine aG 6 ?_;intro a K;refine sN K (dK rfl AH z9 K (vs:=[(0,.string (bs DX.1))]) (cs:=[.string (bs DX.1)]) rfl aE rfl rfl M) ?_;have M0:=M;clear K M;rintro _ a w ⟨gs3,rfl,M⟩ K;replace M:=M.oI 0 rfl cS ([DX.1]:List (List UInt8)) (n:=1) rfl rfl rfl;clear M0;obtain ⟨Lm,S9,h⟩:=aA h;refine sN K (jZ (C:=cS) (xs:=kJ) (ys:=([DX.1]:List (List UInt8))) rfl AH rfl z9 rfl rfl K rfl rfl 2 M rfl ((hF (C:=cS) 0 rfl rfl) _ M) S9) ?_;clear K M;rintro _ a w ⟨A9,c9,rfl,M⟩ K;revert a;refine fL 1 ?_;intro w M;exact mR 8 (Lm,IntKind.i64.wrap (i+1)) (M.pick [2,3,4,5,6,7,8,9,10] aD)
  intro hb h;refine dS 9 h ?_ ?_
  ·intro hb h;refine fL 4 ?_;intro w M;exact eG 10 (((Mem.aK 47 2 hG (Mem.aK 92 2 hG (Mem.aK 9 1 cS (Mem.aK 3 1 (cI .i64) M))))).pick [3,2,1,0] aD)
  intro hb h;refine aG 6 ?_;intro a K;refine sN K (dK rfl AH z9 K (vs:=[(0,.string (bs Ae.1))]) (cs:=[.string (bs Ae.1)]) rfl aE rfl rfl M) ?_;have M0:=M;clear K M;rintro _ a w ⟨gs4,rfl,M⟩ K;replace M:=M.oI 0 rfl cS ([Ae.1]:List (List UInt8)) (n:=1) rfl rfl rfl;clear M0;obtain ⟨Ln,Ta,h⟩:=aA h;refine sN K (jZ (C:=cS) (xs:=kJ) (ys:=([Ae.1]:List (List UInt8))) rfl AH rfl z9 rfl rfl K rfl rfl 2 M rfl ((hF (C:=cS) 0 rfl rfl) _ M) Ta) ?_;clear K M;rintro _ a w ⟨XB,c10,rfl,M⟩ K;revert a;refine fL 1 ?_;intro w M;exact mR 8 (Ln,IntKind.i64.wrap (i+1)) (M.pick [2,3,4,5,6,7,8,9,10] aD)
 intro hb h;exact pI 3 (hk1 (kJ,i)) (M.pick [0,1,2,3,4,5,6,7,8] aD)
theorem IA {N:Nat} {C4 wL dN gO dI:Int} {eO:List Int} {iR:Option Addr} {iS:Nat} {cL:List (List UInt8)} {eL:Option Addr} {eM:Nat} {bJ aX aY aZ a7 bK:Int} {aH:List (Int × Int)} {bS:Option Addr} {bT:Nat} {a8 bA bB aO aP aQ aR aS aT aU aV aW:Int} {aI:List (Int × Int)} {bU:Option Addr} {bV:Nat} {bC:Int} {w0:World} {r:Int} (h:sH N C4 wL dN gO dI eO cL bJ aX aY aZ a7 bK aH a8 bA bB aO aP aQ aR aS aT aU aV aW aI bC=some r) (xF:SL w0 (cI .i64) iR eO) (zI:eO.length≤iS) (w7:SL w0 cS eL cL) (zJ:cL.length≤eM) (kV:SL w0 hG bS aH) (lW:aH.length≤bT) (nK:SL w0 hG bU aI) (pD:aI.length≤bV) :
  Calls Tryz.prog 59 #[.agg #[I C4,I wL,I dN,I gO,I dI,.slice iR eO.length iS,.slice eL cL.length eM,I bJ,I aX,I aY,I aZ,I a7,I bK,.slice bS aH.length bT,I a8,I bA,I bB,I aO,I aP,I aQ,I aR,I aS,I aT,I aU,I aV,I aW,.slice bU aI.length bV,I bC]] w0 fun e w'=>∃v,e = .returned v∧v=I r∧Mem w0.heap.size w0 w' []:=by
 refine gE Tryz.func59 Tryz.ntmps59 ?_;intro M;unfold sH at h;refine fK 2 ?_;intro MJ w M;obtain ⟨_,h0,h⟩:=aA h;have h0:=dJ h0;refine aG 13 ?_;refine bQ (fun _ K=>gX rfl K rfl rfl h0) M ?_;exact aJ 4 (M.pick [] aD)
theorem bI {N:Nat} {n low high:Int} {w0:World} {r:Bool} (h:aL N n low high=some r) :
  Calls Tryz.prog 74 #[I n,I low,I high] w0 fun e w'=>∃v,e = .returned v∧v = .bool r∧Mem w0.heap.size w0 w' []:=by
 refine gE Tryz.func74 Tryz.ntmps74 ?_;intro M;unfold aL at h;refine mF 11 10 h ?_ ?_
 ·intro hb h;exact aJ 8 (M.pick [] aD)
 intro hb h;exact aJ 8 (M.pick [] aD)
theorem vH {N:Nat} {lens:List Int} {DM:Option Addr} {DN:Nat} {w0:World} {r:Int} (h:j1 N lens=some r) (DO:SL w0 (cI .i64) DM lens) (aAI:lens.length≤DN) :
  Calls Tryz.prog 129 #[.slice DM lens.length DN] w0 fun e w'=>∃v,e = .returned v∧v=I r∧Mem w0.heap.size w0 w' []:=by
 refine gE Tryz.func129 Tryz.ntmps129 ?_;intro M;unfold j1 at h;obtain ⟨r2,eR,h⟩:=aA h;refine jE 10 (bI eR) ?_;intro w M;refine dS 3 h ?_ ?_
 ·intro hb h;exact aJ 7 (M.pick [] aD)
 intro hb h;refine sP 15 0 (fun (⟨sum,used,i⟩:Int × Bool × Int) a w=>Kn a 41 [(0,.slice DM lens.length DN),(3,I sum),(4,.bool used),(5,I i)]∧Mem w0.heap.size w0 w []) M.nQ ?_ ?_
 ·clear M h;rintro ⟨aBn,U1,i6⟩ a w ⟨K,M⟩ h;try dsimp only at h
  revert a;refine mF 8 37 h ?_ ?_
  ·intro hb h;exact aJ 13 (M.pick [] aD)
  intro hb h;refine dS 5 h ?_ ?_
  ·intro hb h;exact aJ 7 (M.pick [] aD)
  intro hb h;exact aJ 8 (M.pick [] aD)
 clear M h;rintro kk fuel ⟨sum,used,i⟩ a w hk1 ⟨K,M⟩ h;unfold iJ at h;revert a;refine dS 9 h ?_ ?_
 ·intro hb h;obtain ⟨e4,qR,h⟩:=aA h;refine aG 9 ?_;refine bQ (fun _ K=>fP rfl g9 K rfl rfl (bE DO) qR) M ?_;refine bQ (fun _ K=>fM rfl jO K rfl rfl (bE DO) qR rfl) M ?_;obtain ⟨r4,qJ,h⟩:=aA h;refine jE 0 (bI qJ) ?_;intro w M;refine dS 3 h ?_ ?_
  ·intro hb h;exact aJ 12 (M.pick [] aD)
  intro hb h;obtain ⟨e5,Ky,h⟩:=aA h;refine aG 6 ?_;refine bQ (fun _ K=>fP rfl g9 K rfl rfl (bE DO) Ky) M ?_;refine bQ (fun _ K=>fM rfl jO K rfl rfl (bE DO) Ky rfl) M ?_;refine dS 3 h ?_ ?_
  ·intro hb h;obtain ⟨e6,Iw,h⟩:=aA h;refine aG 9 ?_;refine bQ (fun _ K=>fP rfl g9 K rfl rfl (bE DO) Iw) M ?_;refine bQ (fun _ K=>fM rfl jO K rfl rfl (bE DO) Iw rfl) M ?_;obtain ⟨_,h0,h⟩:=aA h;have h0:=t6 h0;refine aG 1 ?_;refine bQ (fun _ K=>AT rfl K rfl rfl h0) M ?_;obtain ⟨aEf,hx,h⟩:=dG h;refine nS 1 hx ?_;obtain ⟨i4,hx,h⟩:=dG h;refine nS 6 hx ?_;exact mR 2 (aEf,true,i4) M.nQ
  intro hb h;obtain ⟨i5,hx,h⟩:=dG h;refine nS 6 hx ?_;exact mR 2 (sum,used,i5) M.nQ
 intro hb h;exact pI 3 (hk1 (sum,used,i)) M.nQ
theorem F3 {N:Nat} {C4 wL dN gO dI:Int} {eO:List Int} {iR:Option Addr} {iS:Nat} {cL:List (List UInt8)} {eL:Option Addr} {eM:Nat} {bJ aX aY aZ a7 bK:Int} {aH:List (Int × Int)} {bS:Option Addr} {bT:Nat} {a8 bA bB aO aP aQ aR aS aT aU aV aW:Int} {aI:List (Int × Int)} {bU:Option Addr} {bV:Nat} {bC:Int} {w0:World} {r:Int} (h:oV N C4 wL dN gO dI eO cL bJ aX aY aZ a7 bK aH a8 bA bB aO aP aQ aR aS aT aU aV aW aI bC=some r) (xF:SL w0 (cI .i64) iR eO) (zI:eO.length≤iS) (w7:SL w0 cS eL cL) (zJ:cL.length≤eM) (kV:SL w0 hG bS aH) (lW:aH.length≤bT) (nK:SL w0 hG bU aI) (pD:aI.length≤bV) :
  Calls Tryz.prog 55 #[.agg #[I C4,I wL,I dN,I gO,I dI,.slice iR eO.length iS,.slice eL cL.length eM,I bJ,I aX,I aY,I aZ,I a7,I bK,.slice bS aH.length bT,I a8,I bA,I bB,I aO,I aP,I aQ,I aR,I aS,I aT,I aU,I aV,I aW,.slice bU aI.length bV,I bC]] w0 fun e w'=>∃v,e = .returned v∧v=I r∧Mem w0.heap.size w0 w' []:=by
 refine gE Tryz.func55 Tryz.ntmps55 ?_;intro M;unfold oV at h;refine fK 2 ?_;intro MJ w M;obtain ⟨r2,eR,h⟩:=aA h;refine jE 8 (bI eR) ?_;intro w M;refine mF 2 7 h ?_ ?_
 ·intro hb h;exact aJ 29 (M.pick [] aD)
 intro hb h;obtain ⟨r3,kU,h⟩:=aA h;refine jE 2 (bI kU) ?_;intro w M;refine mF 3 13 h ?_ ?_
 ·intro hb h;exact aJ 23 (M.pick [] aD)
 intro hb h;obtain ⟨r4,qJ,h⟩:=aA h;refine jE 2 (bI qJ) ?_;intro w M;refine mF 3 19 h ?_ ?_
 ·intro hb h;exact aJ 17 (M.pick [] aD)
 intro hb h;obtain ⟨r5,tH,h⟩:=aA h;refine jE 4 (bI tH) ?_;intro w M;refine dS 4 h ?_ ?_
 ·intro hb h;exact aJ 7 (M.pick [] aD)
 intro hb h;obtain ⟨r6,w6,h⟩:=aA h;refine jE 7 (bI w6) ?_;intro w M;refine dS 3 h ?_ ?_
 ·intro hb h;exact aJ 7 (M.pick [] aD)
 intro hb h;refine mF 9 34 h ?_ ?_
 ·intro hb h;refine dS 7 h ?_ ?_
  ·intro hb h;exact aJ 7 (M.pick [] aD)
  intro hb h;refine dS 10 h ?_ ?_
  ·intro hb h;obtain ⟨r7,CT,h⟩:=aA h;refine jE 4 (vH CT ((bE xF) _ M) zI) ?_;intro w M;exact aJ 5 (M.pick [] aD)
  intro hb h;exact aJ 8 (M.pick [] aD)
 intro hb h;refine dS 18 h ?_ ?_
 ·intro hb h;obtain ⟨r8,DL,h⟩:=aA h;refine jE 4 (vH DL ((bE xF) _ M) zI) ?_;intro w M;exact aJ 5 (M.pick [] aD)
 intro hb h;exact aJ 8 (M.pick [] aD)
theorem H2 {N:Nat} {C4 wL dN gO dI:Int} {eO:List Int} {iR:Option Addr} {iS:Nat} {cL:List (List UInt8)} {eL:Option Addr} {eM:Nat} {bJ aX aY aZ a7 bK:Int} {aH:List (Int × Int)} {bS:Option Addr} {bT:Nat} {a8 bA bB aO aP aQ aR aS aT aU aV aW:Int} {aI:List (Int × Int)} {bU:Option Addr} {bV:Nat} {bC:Int} {w0:World} {r:Int × Int × Int × Int × Int × List Int × List (List UInt8) × Int × Int × Int × Int × Int × Int × List (Int × Int) × Int × Int × Int × Int × Int × Int × Int × Int × Int × Int × Int × Int × List (Int × Int) × Int} (h:rB N C4 wL dN gO dI eO cL bJ aX aY aZ a7 bK aH a8 bA bB aO aP aQ aR aS aT aU aV aW aI bC=some r) (xF:SL w0 (cI .i64) iR eO) (zI:eO.length≤iS) (w7:SL w0 cS eL cL) (zJ:cL.length≤eM) (kV:SL w0 hG bS aH) (lW:aH.length≤bT) (nK:SL w0 hG bU aI) (pD:aI.length≤bV) :
  Calls Tryz.prog 58 #[.agg #[I C4,I wL,I dN,I gO,I dI,.slice iR eO.length iS,.slice eL cL.length eM,I bJ,I aX,I aY,I aZ,I a7,I bK,.slice bS aH.length bT,I a8,I bA,I bB,I aO,I aP,I aQ,I aR,I aS,I aT,I aU,I aV,I aW,.slice bU aI.length bV,I bC]] w0 fun e w'=>∃v,e = .returned v∧∃A5 c5 A6 c6 Rw c13 X6 Xt,v = .agg #[I r.1,I r.2.1,I r.2.2.1,I r.2.2.2.1,I r.2.2.2.2.1,.slice A5 r.2.2.2.2.2.1.length c5,.slice A6 r.2.2.2.2.2.2.1.length c6,I r.2.2.2.2.2.2.2.1,I r.2.2.2.2.2.2.2.2.1,I r.2.2.2.2.2.2.2.2.2.1,I r.2.2.2.2.2.2.2.2.2.2.1,I r.2.2.2.2.2.2.2.2.2.2.2.1,I r.2.2.2.2.2.2.2.2.2.2.2.2.1,.slice Rw r.2.2.2.2.2.2.2.2.2.2.2.2.2.1.length c13,I r.2.2.2.2.2.2.2.2.2.2.2.2.2.2.1,I r.2.2.2.2.2.2.2.2.2.2.2.2.2.2.2.1,I r.2.2.2.2.2.2.2.2.2.2.2.2.2.2.2.2.1,I r.2.2.2.2.2.2.2.2.2.2.2.2.2.2.2.2.2.1,I r.2.2.2.2.2.2.2.2.2.2.2.2.2.2.2.2.2.2.1,I r.2.2.2.2.2.2.2.2.2.2.2.2.2.2.2.2.2.2.2.1,I r.2.2.2.2.2.2.2.2.2.2.2.2.2.2.2.2.2.2.2.2.1,I r.2.2.2.2.2.2.2.2.2.2.2.2.2.2.2.2.2.2.2.2.2.1,I r.2.2.2.2.2.2.2.2.2.2.2.2.2.2.2.2.2.2.2.2.2.2.1,I r.2.2.2.2.2.2.2.2.2.2.2.2.2.2.2.2.2.2.2.2.2.2.2.1,I r.2.2.2.2.2.2.2.2.2.2.2.2.2.2.2.2.2.2.2.2.2.2.2.2.1,I r.2.2.2.2.2.2.2.2.2.2.2.2.2.2.2.2.2.2.2.2.2.2.2.2.2.1,.slice X6 r.2.2.2.2.2.2.2.2.2.2.2.2.2.2.2.2.2.2.2.2.2.2.2.2.2.2.1.length Xt,I r.2.2.2.2.2.2.2.2.2.2.2.2.2.2.2.2.2.2.2.2.2.2.2.2.2.2.2]∧Mem w0.heap.size w0 w' [.row 3 1 A5 r.2.2.2.2.2.1.length c5 ((cI .i64).all r.2.2.2.2.2.1),.row 9 1 A6 r.2.2.2.2.2.2.1.length c6 (cS.all r.2.2.2.2.2.2.1),.row 92 2 Rw r.2.2.2.2.2.2.2.2.2.2.2.2.2.1.length c13 (hG.all r.2.2.2.2.2.2.2.2.2.2.2.2.2.1),.row 47 2 X6 r.2.2.2.2.2.2.2.2.2.2.2.2.2.2.2.2.2.2.2.2.2.2.2.2.2.2.1.length Xt (hG.all r.2.2.2.2.2.2.2.2.2.2.2.2.2.2.2.2.2.2.2.2.2.2.2.2.2.2.1)]:=by
 refine gE Tryz.func58 Tryz.ntmps58 ?_;intro M;unfold rB at h;refine fK 2 ?_;intro MJ w M;refine fK 0 ?_;intro gW w M;refine aG 4 ?_;intro a K;refine sN K (vF (C:=(cI .i64)) rfl g9 rfl K M) ?_;clear K M;rintro _ a w ⟨gs,rfl,M⟩ K;revert a;obtain ⟨l2,uH,h⟩:=aA h;refine aG 2 ?_;intro a K;refine sN K (jZ (C:=(cI .i64)) (xs:=([]:List Int)) (ys:=eO) rfl g9 rfl z3 rfl rfl K rfl rfl 0 M rfl ((bE xF) _ M) uH) ?_;clear K M;rintro _ a w ⟨A,c,rfl,M⟩ K;revert a;refine fL 1 ?_;intro w M;refine aG 4 ?_;intro a K;refine sN K (vF (C:=cS) rfl AH rfl K M) ?_;clear K M;rintro _ a w ⟨gs2,rfl,M⟩ K;revert a;obtain ⟨l3,Hc,h⟩:=aA h;refine aG 2 ?_;intro a K;refine sN K (jZ (C:=cS) (xs:=([]:List (List UInt8))) (ys:=cL) rfl AH rfl z9 rfl rfl K rfl rfl 0 M rfl ((bE w7) _ M) Hc) ?_;clear K M;rintro _ a w ⟨A2,c2,rfl,M⟩ K;revert a;refine fL 1 ?_;intro w M;refine aG 4 ?_;intro a K;refine sN K (vF (C:=hG) rfl Gv rfl K M) ?_;clear K M;rintro _ a w ⟨gs3,rfl,M⟩ K;revert a;obtain ⟨l4,zZ,h⟩:=aA h;refine aG 3 ?_;intro a K;refine sN K (jZ (C:=hG) (xs:=([]:List (Int × Int))) (ys:=aH) rfl Gv rfl z92 rfl rfl K rfl rfl 0 M rfl ((bE kV) _ M) zZ) ?_;clear K M;rintro _ a w ⟨A3,c3,rfl,M⟩ K;revert a;refine fL 2 ?_;intro w M;refine aG 4 ?_;intro a K;refine sN K (vF (C:=hG) rfl Ag rfl K M) ?_;clear K M;rintro _ a w ⟨gs4,rfl,M⟩ K;revert a;obtain ⟨l5,wK,h⟩:=aA h;refine aG 3 ?_;intro a K;refine sN K (jZ (C:=hG) (xs:=([]:List (Int × Int))) (ys:=aI) rfl Ag rfl z47 rfl rfl K rfl rfl 0 M rfl ((bE nK) _ M) wK) ?_;clear K M;rintro _ a w ⟨A4,c4,rfl,M⟩ K;revert a;refine fL 2 ?_;intro w M;refine fL 5 ?_;intro w M;exact aJ 3 (M.pick [3,2,1,0] aD)
theorem Dr {N:Nat} {b:List UInt8} {w0:World} {r:List UInt8} (h:jT N b=some r) :
  Calls Tryz.prog 133 #[.string (bs b)] w0 fun e w'=>∃v,e = .returned v∧v = .string (bs r)∧Mem w0.heap.size w0 w' []:=by
 refine gE Tryz.func133 Tryz.ntmps133 ?_;intro M;unfold jT at h;refine aG 8 ?_;refine bQ (fun _ K=>G6 rfl I3 K rfl) M ?_;refine bQ (fun _ K=>gX rfl K rfl rfl aD) M ?_;obtain ⟨_,h0,h⟩:=aA h;refine aG 1 ?_;have h0:=RD h0;intro a K;refine sN K (RG (C:=(cI .u8)) rfl tX rfl (by rw [z5];rfl) rfl K rfl rfl M h0) ?_;clear K M;rintro _ a w ⟨A,c,rfl,M⟩ K;revert a;refine sP 10 0 (fun (⟨l2,i⟩:List Int × Int) a w=>∃(A2:Option Addr) (c2:Nat),Kn a 46 [(0,.string (bs b)),(3,.slice A2 l2.length c2),(4,I i)]∧Mem w0.heap.size w0 w [.row 5 1 A2 l2.length c2 ((cI .u8).all l2)]) M.oQ ?_ ?_
 ·clear M h;rintro ⟨l5,i4⟩ a w ⟨A5,c5,K,M⟩ h;try dsimp only at h
  revert a;refine aG 5 ?_;refine bQ (fun _ K=>By rfl tX Xz I3 K rfl (hF (C:=(cI .u8)) 0 rfl rfl)) M ?_;exact aJ 4 (M.pick [] aD)
 clear M h;rintro kk fuel ⟨l2,i⟩ a w hk1 ⟨A2,c2,K,M⟩ h;unfold kK at h;revert a;refine aG 5 ?_;refine bQ (fun _ K=>G6 rfl I3 K rfl) M ?_;refine dS 3 h ?_ ?_
 ·intro hb h;refine sP 17 2 (fun (⟨n4,k5⟩:Int × Int) a w=>Kn a 46 [(0,.string (bs b)),(3,.slice A2 l2.length c2),(4,I i),(5,I n4),(6,I k5)]∧Mem w0.heap.size w0 w [.row 5 1 A2 l2.length c2 ((cI .u8).all l2)]) M.oQ ?_ ?_
  ·clear M h;rintro ⟨n9,k12⟩ a w ⟨K,M⟩ h;try dsimp only at h
   revert a;refine aG 6 ?_;intro a K;refine sN K (dK rfl tX z5 K (vs:=[(0,.int .u8 (IntKind.u8.wrap n9))]) (cs:=[.int .u8 (IntKind.u8.wrap n9)]) rfl aE rfl rfl M) ?_;have M0:=M;clear K M;rintro _ a w ⟨gs2,rfl,M⟩ K;replace M:=M.oI 0 rfl (cI .u8) ([IntKind.u8.wrap n9]:List Int) (n:=1) rfl rfl rfl;clear M0;obtain ⟨l4,zZ,h⟩:=aA h;refine sN K (jZ (C:=(cI .u8)) (xs:=l2) (ys:=([IntKind.u8.wrap n9]:List Int)) rfl tX rfl z5 rfl rfl K rfl rfl 1 M rfl ((hF (C:=(cI .u8)) 0 rfl rfl) _ M) zZ) ?_;clear K M;rintro _ a w ⟨A4,c4,rfl,M⟩ K;revert a;obtain ⟨i3,hx,h⟩:=dG h;refine nS 7 hx ?_;exact mR 2 (l4,i3) (M.pick [1] aD)
  clear M h;rintro kk fuel ⟨n4,k5⟩ a w hk2 ⟨K,M⟩ h;unfold jG at h;revert a;refine dS 9 h ?_ ?_
  ·intro hb h;obtain ⟨n7,hx,h⟩:=dG h;refine nS 8 hx ?_;refine aG 6 ?_;refine bQ (fun _ K=>G6 rfl I3 K rfl) M ?_;refine mF 2 31 h ?_ ?_
   ·intro hb h;obtain ⟨b4,aFg,h⟩:=aA h;refine aG 2 ?_;refine bQ (fun _ K=>E1 rfl I3 K rfl rfl aFg) M ?_;refine dS 4 h ?_ ?_
    ·intro hb h;obtain ⟨n8,hx,h⟩:=dG h;refine nS 3 hx ?_;obtain ⟨k9,hx,h⟩:=dG h;refine nS 6 hx ?_;exact mR 2 (n8,k9) M.oQ
    intro hb h;obtain ⟨k10,hx,h⟩:=dG h;refine nS 6 hx ?_;exact mR 2 (n7,k10) M.oQ
   intro hb h;obtain ⟨k11,hx,h⟩:=dG h;refine nS 14 hx ?_;exact mR 2 (n7,k11) M.oQ
  intro hb h;exact pI 3 (hk2 (n4,k5)) M.oQ
 intro hb h;exact pI 3 (hk1 (l2,i)) M.oQ
theorem GF (N:Nat):∀(fu:Nat) (n:Int) (size:Int) (w0:World)  (r:List UInt8) (h:jF N fu n size=some r),
  Calls Tryz.prog 132 #[I n,I size] w0 fun e w'=>∃v,e = .returned v∧v = .string (bs r)∧Mem w0.heap.size w0 w' []:=by
 intro fu
 induction fu with
 | zero=>intros;rename_i h;unfold jF at h;cases h
 | succ fu ih=>
  intro n size w0 r h;refine uR Tryz.func132 rfl Tryz.ntmps132 rfl ?_;intro a K;have M:=Mem.start w0;have K:Kn a 19 [(0,_),(1,_)]:=K;unfold jF at h;refine wp_seq (dQ ?_);refine p7 K M ?_;clear K;intro a K;refine qQ (aM (wp_seq (wp_seq (dQ ?_))));refine p7 K M ?_;clear K;refine oS M ?_;intro a K;refine qQ (aM ?_);refine s9 K rfl (fun hb=>?_) (fun hb=>?_)
  ·have h:=oT hb h;refine wp_seq (dQ ?_);refine p7 K M ?_;clear K;intro a K;refine qQ (aM (wp_ret (wO ?_)));cases h;exact vK K rfl (f7 K rfl) ⟨_,rfl,rfl,M.pick [] aD⟩
  have h:=jY hb h;refine wp_skip (aM (wp_seq ?_));refine jU (fun w=>Mem _ _ w _) [0,0,0,0,1,0,0,0,0,1,1,0,0] 13 [0,1,2,3,4,5,6,7,8,9,10,11,12] aE aE aE rfl M.drew ?_;replace M:=M.drew;refine jR 0 [1,2,3,4,5,6,7,8,9,10,11,12] aE rfl K (aB rfl) rfl rfl (bX rfl K rfl) ?_;clear K;intro a K;refine jR 1 [2,3,4,5,6,7,8,9,10,11,12] aE rfl K (aB rfl) rfl rfl (gX rfl K rfl rfl aD) ?_;clear K;intro a K;refine jR 2 [3,4,5,6,7,8,9,10,11,12] aE rfl K (aB rfl) rfl rfl (bX rfl K rfl) ?_;clear K;intro a K;refine jR 3 [4,5,6,7,8,9,10,11,12] aE rfl K (aB rfl) rfl rfl (GS rfl K rfl rfl) ?_;clear K;intro a K;refine jR 5 [4,6,7,8,9,10,11,12] aE rfl K (aB rfl) rfl rfl (bX rfl K rfl) ?_;clear K;intro a K;refine jR 6 [4,7,8,9,10,11,12] aE rfl K (aB rfl) rfl rfl (pX rfl K rfl rfl aD) ?_;clear K;intro a K;refine jR 7 [4,8,9,10,11,12] aE rfl K (aB rfl) rfl rfl (J4 rfl rfl Xz K rfl) ?_;clear K;intro a K;refine jR 8 [4,9,10,11,12] aE rfl K (aB rfl) rfl rfl (Ad rfl K rfl rfl) ?_;clear K;intro a K;refine gS [4,9] aE ⟨?_,?_,trivial⟩
  ·
   obtain ⟨r2,eR,h⟩:=aA h;refine kD [9,10,11,12] aE rfl K (aB rfl) rfl rfl (gZ (vs:=[I (IntKind.i64.wrap (Int.tdiv n 2)),I (IntKind.i64.wrap (size-1))]) (cap:=[]) rfl Q4 K rfl rfl (ih (IntKind.i64.wrap (Int.tdiv n 2)) (IntKind.i64.wrap (size-1)) _  r2 eR)) ?_;clear K;rintro _ a w ⟨rfl,Zq⟩ K;replace M:=M.call Zq;clear Zq;refine ⟨fun _=>M.pick [] aD,?_⟩;refine gS [9] aE ⟨?_,trivial⟩;refine kD [10,11,12] aE rfl K (aB rfl) rfl rfl (dK rfl tX z5 K (vs:=[(0,.int .u8 (IntKind.u8.wrap (48+(IntKind.u8.wrap (Int.tmod n 2)))))]) (cs:=[.int .u8 (IntKind.u8.wrap (48+(IntKind.u8.wrap (Int.tmod n 2))))]) rfl aE rfl rfl M) ?_;have M0:=M;clear K M;rintro _ a w ⟨gs,rfl,M⟩ K;replace M:=M.oI 0 rfl (cI .u8) ([IntKind.u8.wrap (48+(IntKind.u8.wrap (Int.tmod n 2)))]:List Int) (n:=1) rfl rfl rfl;clear M0;refine ⟨fun _=>M.pick [] aD,?_⟩;refine gS [10] aE ⟨?_,trivial⟩;refine kD [11,12] aE rfl K (aB rfl) rfl rfl (LL rfl tX Xz I3 K rfl M ((hF (C:=(cI .u8)) 0 rfl rfl) _ M)) ?_;clear K M;rintro _ a w ⟨rfl,M⟩ K;refine ⟨fun _=>M.pick [] aD,?_⟩;obtain ⟨s,h_s,h⟩:=aA h;refine jR 11 [12] aE rfl K (aB rfl) rfl rfl (QT rfl K rfl rfl h_s) ?_;clear K;intro a K;refine jR 12 [] aE rfl K (aB rfl) rfl rfl (vU rfl K rfl) ?_;clear K;intro a K;refine VL ?_;refine aM (wp_ret ?_);cases h;exact vK K rfl (f7 K rfl) ⟨_,rfl,rfl,M.pick [] aD⟩
  ·
   refine kD [4,10,11,12] aE rfl K (aB rfl) rfl rfl (dK rfl tX z5 K (vs:=[(0,.int .u8 (IntKind.u8.wrap (48+(IntKind.u8.wrap (Int.tmod n 2)))))]) (cs:=[.int .u8 (IntKind.u8.wrap (48+(IntKind.u8.wrap (Int.tmod n 2))))]) rfl aE rfl rfl M) ?_;have M0:=M;clear K M;rintro _ a w ⟨gs2,rfl,M⟩ K;replace M:=M.oI 0 rfl (cI .u8) ([IntKind.u8.wrap (48+(IntKind.u8.wrap (Int.tmod n 2)))]:List Int) (n:=1) rfl rfl rfl;clear M0;refine ⟨fun _=>M.pick [] aD,?_⟩;refine gS [4,10] aE ⟨?_,?_,trivial⟩
   ·
    obtain ⟨r3,kU,h⟩:=aA h;refine kD [10,11,12] aE rfl K (aB rfl) rfl rfl (gZ (vs:=[I (IntKind.i64.wrap (Int.tdiv n 2)),I (IntKind.i64.wrap (size-1))]) (cap:=[]) rfl Q4 K rfl rfl (ih (IntKind.i64.wrap (Int.tdiv n 2)) (IntKind.i64.wrap (size-1)) _  r3 kU)) ?_;clear K;rintro _ a w ⟨rfl,Zq⟩ K;replace M:=M.call Zq;clear Zq;refine ⟨fun _=>M.pick [] aD,?_⟩;refine gS [10] aE ⟨?_,trivial⟩;refine kD [11,12] aE rfl K (aB rfl) rfl rfl (LL rfl tX Xz I3 K rfl M ((hF (C:=(cI .u8)) 0 rfl rfl) _ M)) ?_;clear K M;rintro _ a w ⟨rfl,M⟩ K;refine ⟨fun _=>M.pick [] aD,?_⟩;obtain ⟨s2,aJu,h⟩:=aA h;refine jR 11 [12] aE rfl K (aB rfl) rfl rfl (QT rfl K rfl rfl aJu) ?_;clear K;intro a K;refine jR 12 [] aE rfl K (aB rfl) rfl rfl (vU rfl K rfl) ?_;clear K;intro a K;refine VL ?_;refine aM (wp_ret ?_);cases h;exact vK K rfl (f7 K rfl) ⟨_,rfl,rfl,M.pick [] aD⟩
   ·
    refine kD [4,11,12] aE rfl K (aB rfl) rfl rfl (LL rfl tX Xz I3 K rfl M ((hF (C:=(cI .u8)) 0 rfl rfl) _ M)) ?_;clear K M;rintro _ a w ⟨rfl,M⟩ K;refine ⟨fun _=>M.pick [] aD,?_⟩;refine gS [4] aE ⟨?_,trivial⟩;obtain ⟨r4,qJ,h⟩:=aA h;refine kD [11,12] aE rfl K (aB rfl) rfl rfl (gZ (vs:=[I (IntKind.i64.wrap (Int.tdiv n 2)),I (IntKind.i64.wrap (size-1))]) (cap:=[]) rfl Q4 K rfl rfl (ih (IntKind.i64.wrap (Int.tdiv n 2)) (IntKind.i64.wrap (size-1)) _  r4 qJ)) ?_;clear K;rintro _ a w ⟨rfl,Zq⟩ K;replace M:=M.call Zq;clear Zq;refine ⟨fun _=>M.pick [] aD,?_⟩;obtain ⟨s3,aJv,h⟩:=aA h;refine jR 11 [12] aE rfl K (aB rfl) rfl rfl (QT rfl K rfl rfl aJv) ?_;clear K;intro a K;refine jR 12 [] aE rfl K (aB rfl) rfl rfl (vU rfl K rfl) ?_;clear K;intro a K;refine VL ?_;refine aM (wp_ret ?_);cases h;exact vK K rfl (f7 K rfl) ⟨_,rfl,rfl,M.pick [] aD⟩
theorem t7 {N:Nat} {n size:Int} {w0:World} {r:List UInt8} (h:mM N n size=some r) :
  Calls Tryz.prog 132 #[I n,I size] w0 fun e w'=>∃v,e = .returned v∧v = .string (bs r)∧Mem w0.heap.size w0 w' []:=GF N N n size w0 r h
theorem yA {N:Nat} {l2:List Int} {xC:Option Addr} {xD:Nat} {depth:Int} {w0:World} {r:List UInt8} (h:rE N l2 depth=some r) (uW:SL w0 (cI .i64) xC l2) (Gx:l2.length≤xD) :
  Calls Tryz.prog 61 #[.slice xC l2.length xD,I depth] w0 fun e w'=>∃v,e = .returned v∧v = .string (bs r)∧Mem w0.heap.size w0 w' []:=by
 refine gE Tryz.func61 Tryz.ntmps61 ?_;intro M;unfold rE at h;refine aG 17 ?_;replace M:=Mem.aK 5 1 (cI .u8) M;refine sP 0 0 (fun (⟨l4,i2⟩:List Int × Int) a w=>∃(A2:Option Addr) (c2:Nat),Kn a 24 [(0,.slice xC l2.length xD),(1,I depth),(5,.slice A2 l4.length c2),(6,I i2)]∧Mem w0.heap.size w0 w [.row 5 1 A2 l4.length c2 ((cI .u8).all l4)]) M.oQ ?_ ?_
 ·clear M h;rintro ⟨l7,i5⟩ a w ⟨A5,c5,K,M⟩ h;try dsimp only at h
  revert a;refine aG 5 ?_;refine bQ (fun _ K=>By rfl tX Xz I3 K rfl (hF (C:=(cI .u8)) 0 rfl rfl)) M ?_;obtain ⟨r5,tH,h⟩:=aA h;refine jE 0 (Dr tH) ?_;intro w M;exact aJ 4 (M.pick [] aD)
 clear M h;rintro kk fuel ⟨l4,i2⟩ a w hk1 ⟨A2,c2,K,M⟩ h;unfold lY at h;revert a;refine dS 9 h ?_ ?_
 ·intro hb h;obtain ⟨e3,k8,h⟩:=aA h;refine aG 8 ?_;refine bQ (fun _ K=>fP rfl g9 K rfl rfl (bE uW) k8) M ?_;refine bQ (fun _ K=>fM rfl jO K rfl rfl (bE uW) k8 rfl) M ?_;obtain ⟨r4,qJ,h⟩:=aA h;refine jE 1 (t7 qJ) ?_;intro w M;obtain ⟨l6,UN,h⟩:=aA h;intro a K;refine sN K (M9 rfl tX I3 zu5 K rfl rfl 0 M rfl UN) ?_;clear K M;rintro _ a w ⟨A4,c4,rfl,M⟩ K;revert a;obtain ⟨i4,hx,h⟩:=dG h;refine nS 7 hx ?_;exact mR 2 (l6,i4) M.oQ
 intro hb h;exact pI 3 (hk1 (l4,i2)) M.oQ
theorem mG {N:Nat} {gD jA:Int} {eI:List Int} {dW:Option Addr} {dX:Nat} {w0:World} {r:Bool} (h:dE N gD jA eI=some r) (jW:SL w0 (cI .i64) dW eI) (rF:eI.length≤dX) :
  Calls Tryz.prog 19 #[.agg #[I gD,I jA,.slice dW eI.length dX]] w0 fun e w'=>∃v,e = .returned v∧v = .bool r∧Mem w0.heap.size w0 w' []:=by
 refine gE Tryz.func19 Tryz.ntmps19 ?_;intro M;unfold dE at h;refine fK 2 ?_;intro xK w M;obtain ⟨r2,eR,h⟩:=aA h;refine jE 8 (bI eR) ?_;intro w M;refine mF 2 8 h ?_ ?_
 ·intro hb h;exact aJ 26 (M.pick [] aD)
 intro hb h;obtain ⟨r3,kU,h⟩:=aA h;refine jE 2 (bI kU) ?_;intro w M;refine mF 3 14 h ?_ ?_
 ·intro hb h;exact aJ 20 (M.pick [] aD)
 intro hb h;refine dS 12 h ?_ ?_
 ·intro hb h;exact aJ 7 (M.pick [] aD)
 intro hb h;refine sP 9 0 (fun (i:Int) a w=>Kn a 39 [(1,.pointer (some ⟨xK,0,none⟩)),(3,I i)]∧Mem w0.heap.size w0 w [.blk xK 31 [I gD,I jA,.slice dW eI.length dX]]) M.oQ ?_ ?_
 ·clear M h;rintro i4 a w ⟨K,M⟩ h;try dsimp only at h
  revert a;exact aJ 8 (M.pick [] aD)
 clear M h;rintro kk fuel i a w hk1 ⟨K,M⟩ h;unfold eU at h;revert a;refine dS 10 h ?_ ?_
 ·intro hb h;obtain ⟨e2,lV,h⟩:=aA h;refine aG 9 ?_;refine bQ (fun _ K=>fP rfl g9 K rfl rfl (bE jW) lV) M ?_;refine bQ (fun _ K=>fM rfl jO K rfl rfl (bE jW) lV rfl) M ?_;obtain ⟨r5,tH,h⟩:=aA h;refine jE 0 (bI tH) ?_;intro w M;refine dS 3 h ?_ ?_
  ·intro hb h;exact aJ 11 (M.pick [] aD)
  intro hb h;obtain ⟨i3,hx,h⟩:=dG h;refine nS 6 hx ?_;exact mR 2 i3 M.oQ
 intro hb h;exact pI 3 (hk1 i) M.oQ
theorem F4 {N:Nat} {d:List (Int × Int)} {PL:Option Addr} {PM:Nat} {w0:World} {r:Bool} (h:gP N d=some r) (Fh:SL w0 hG PL d) (C_d:d.length≤PM) :
  Calls Tryz.prog 173 #[.slice PL d.length PM] w0 fun e w'=>∃v,e = .returned v∧v = .bool r∧Mem w0.heap.size w0 w' []:=by
 refine gE Tryz.func173 Tryz.ntmps173 ?_;intro M;unfold gP at h;obtain ⟨r2,eR,h⟩:=aA h;refine jE 10 (bI eR) ?_;intro w M;refine mF 2 8 h ?_ ?_
 ·intro hb h;exact aJ 26 (M.pick [] aD)
 intro hb h;obtain ⟨e,IR,h⟩:=aA h;refine aG 1 ?_;refine bQ (fun _ K=>fP rfl Ag K rfl rfl (bE Fh) IR) M ?_;refine aG 1 ?_;refine bQ (fun _ K=>sQ rfl jO K rfl rfl (bE Fh) IR rfl) M ?_;refine mF 3 15 h ?_ ?_
 ·intro hb h;exact aJ 19 (M.pick [] aD)
 intro hb h;obtain ⟨e2,lV,h⟩:=aA h;refine aG 4 ?_;refine bQ (fun _ K=>fP rfl Ag K rfl rfl (bE Fh) lV) M ?_;refine aG 1 ?_;refine bQ (fun _ K=>sQ rfl jO K rfl rfl (bE Fh) lV rfl) M ?_;refine dS 4 h ?_ ?_
 ·intro hb h;exact aJ 7 (M.pick [] aD)
 intro hb h;refine sP 9 0 (fun (i:Int) a w=>Kn a 70 [(0,.slice PL d.length PM),(3,I i)]∧Mem w0.heap.size w0 w []) M.nQ ?_ ?_
 ·clear M h;rintro i2 a w ⟨K,M⟩ h;try dsimp only at h
  revert a;exact aJ 8 (M.pick [] aD)
 clear M h;rintro kk fuel i a w hk1 ⟨K,M⟩ h;unfold iK at h;revert a;refine dS 9 h ?_ ?_
 ·intro hb h;refine aG 5 ?_;intro a K;refine aF (fun w=>Mem _ _ w _) [0,0,0,0,0,1,0,0,0,0,0,0,0,0,0,0,0,0,0,0,0,0,0,0,0,0,0,0,0,0,0,0,0,0,0,0,0,0,0] aE aE M.drew ?_;replace M:=M.drew;revert a;obtain ⟨e8,Br,h⟩:=aA h;refine aG 2 ?_;refine eC (fun _ K=>eB rfl Ag K rfl rfl ((bE Fh) _ M) Br) ?_;refine aG 1 ?_;refine eC (fun _ K=>sQ rfl jO K rfl rfl (bE Fh) Br rfl) ?_;obtain ⟨r4,qJ,h⟩:=aA h;intro a K;refine nY K (sC Z1 K (bI qJ)) ?_;clear K;rintro _ a w ⟨rfl,Zq⟩ K;replace M:=M.call Zq;clear Zq;refine ⟨M.pick [] aD,?_⟩;revert a;refine mF 2 38 h ?_ ?_
  ·intro hb h;exact aJ 45 (M.pick [] aD)
  intro hb h;refine mF 3 41 h ?_ ?_
  ·intro hb h;obtain ⟨e9,I4,h⟩:=aA h;refine aG 2 ?_;refine eC (fun _ K=>eB rfl Ag K rfl rfl ((bE Fh) _ M) I4) ?_;refine aG 1 ?_;refine eC (fun _ K=>sQ rfl jO K rfl rfl (bE Fh) I4 rfl) ?_;obtain ⟨e10,E3,h⟩:=aA h;refine aG 3 ?_;refine eC (fun _ K=>eB rfl Ag K rfl rfl ((bE Fh) _ M) E3) ?_;refine aG 1 ?_;refine eC (fun _ K=>sQ rfl jO K rfl rfl (bE Fh) E3 rfl) ?_;refine mF 2 54 h ?_ ?_
   ·intro hb h;exact aJ 29 (M.pick [] aD)
   intro hb h;obtain ⟨e11,Ji,h⟩:=aA h;refine aG 2 ?_;refine eC (fun _ K=>eB rfl Ag K rfl rfl ((bE Fh) _ M) Ji) ?_;refine aG 1 ?_;refine eC (fun _ K=>sQ rfl jO K rfl rfl (bE Fh) Ji rfl) ?_;obtain ⟨e12,Mb,h⟩:=aA h;refine aG 3 ?_;refine eC (fun _ K=>eB rfl Ag K rfl rfl ((bE Fh) _ M) Mb) ?_;refine aG 1 ?_;refine eC (fun _ K=>sQ rfl jO K rfl rfl (bE Fh) Mb rfl) ?_;refine dS 6 h ?_ ?_
   ·intro hb h;exact aJ 11 (M.pick [] aD)
   intro hb h;obtain ⟨x4,hx,h⟩:=dG h;refine nS 6 hx ?_;exact mR 2 x4 M.nQ
  intro hb h;obtain ⟨x5,hx,h⟩:=dG h;refine nS 37 hx ?_;exact mR 2 x5 M.nQ
 intro hb h;exact pI 3 (hk1 i) M.nQ
theorem He {N:Nat} {m0 m1 m2 m3 m4 m5 m6 m7 m8:Int} {w0:World} {r:Bool} (h:qA N m0 m1 m2 m3 m4 m5 m6 m7 m8=some r) :
  Calls Tryz.prog 172 #[.agg #[I m0,I m1,I m2,I m3,I m4,I m5,I m6,I m7,I m8]] w0 fun e w'=>∃v,e = .returned v∧v = .bool r∧Mem w0.heap.size w0 w' []:=by
 refine gE Tryz.func172 Tryz.ntmps172 ?_;intro M;unfold qA at h;refine fK 2 ?_;intro g_m w M;refine sP 10 0 (fun (i:Int) a w=>Kn a 13 [(1,.pointer (some ⟨g_m,0,none⟩)),(3,I i)]∧Mem w0.heap.size w0 w [.blk g_m 25 [I m0,I m1,I m2,I m3,I m4,I m5,I m6,I m7,I m8]]) M.oQ ?_ ?_
 ·clear M h;rintro i4 a w ⟨K,M⟩ h;try dsimp only at h
  revert a;exact aJ 8 (M.pick [] aD)
 clear M h;rintro kk fuel i a w hk1 ⟨K,M⟩ h;unfold lC at h;revert a;refine dS 7 h ?_ ?_
 ·intro hb h;obtain ⟨_,h0,h⟩:=aA h;have h0:=mN h0;refine aG 7 ?_;refine bQ (fun _ K=>dL rfl OY uF K rfl rfl h0.1 h0.2) M ?_;obtain ⟨e2,lV,h⟩:=aA h;refine bQ (fun _ K=>pT rfl jO K rfl (sD 0 rfl) rfl rfl lV) M ?_;obtain ⟨r3,kU,h⟩:=aA h;refine jE 0 (bI kU) ?_;intro w M;refine dS 3 h ?_ ?_
  ·intro hb h;exact aJ 11 (M.pick [] aD)
  intro hb h;obtain ⟨i3,hx,h⟩:=dG h;refine nS 6 hx ?_;exact mR 2 i3 M.oQ
 intro hb h;exact pI 3 (hk1 i) M.oQ
theorem B9 {N:Nat} {l2:List (Int × Int)} {xC:Option Addr} {xD:Nat} {w2 h2:Int} {w0:World} {r:Bool} (h:p9 N l2 w2 h2=some r) (uW:SL w0 hG xC l2) (Gx:l2.length≤xD) :
  Calls Tryz.prog 131 #[.slice xC l2.length xD,I w2,I h2] w0 fun e w'=>∃v,e = .returned v∧v = .bool r∧Mem w0.heap.size w0 w' []:=by
 refine gE Tryz.func131 Tryz.ntmps131 ?_;intro M;unfold p9 at h;refine sP 12 0 (fun (i:Int) a w=>Kn a 34 [(0,.slice xC l2.length xD),(1,I w2),(2,I h2),(7,I i)]∧Mem w0.heap.size w0 w []) M.nQ ?_ ?_
 ·clear M h;rintro i4 a w ⟨K,M⟩ h;try dsimp only at h
  revert a;exact aJ 8 (M.pick [] aD)
 clear M h;rintro kk fuel i a w hk1 ⟨K,M⟩ h;unfold lB at h;revert a;refine dS 9 h ?_ ?_
 ·intro hb h;obtain ⟨e3,k8,h⟩:=aA h;refine aG 8 ?_;refine bQ (fun _ K=>fP rfl Gv K rfl rfl (bE uW) k8) M ?_;refine aG 1 ?_;refine bQ (fun _ K=>sQ rfl jO K rfl rfl (bE uW) k8 rfl) M ?_;obtain ⟨r4,qJ,h⟩:=aA h;refine jE 2 (bI qJ) ?_;intro w M;refine mF 2 23 h ?_ ?_
  ·intro hb h;exact aJ 24 (M.pick [] aD)
  intro hb h;obtain ⟨e4,qR,h⟩:=aA h;refine aG 2 ?_;refine bQ (fun _ K=>fP rfl Gv K rfl rfl (bE uW) qR) M ?_;refine aG 1 ?_;refine bQ (fun _ K=>sQ rfl jO K rfl rfl (bE uW) qR rfl) M ?_;obtain ⟨r5,tH,h⟩:=aA h;refine jE 2 (bI tH) ?_;intro w M;refine dS 4 h ?_ ?_
  ·intro hb h;exact aJ 11 (M.pick [] aD)
  intro hb h;obtain ⟨i3,hx,h⟩:=dG h;refine nS 6 hx ?_;exact mR 2 i3 M.nQ
 intro hb h;exact pI 3 (hk1 i) M.nQ
theorem F5 {N:Nat} {da Fq Fr Fs Ft dc:Int} {dd:List (Int × Int)} {Add:Option Addr} {MI:Nat} {Fu Fv Fw Gd Ge df2 Gf Gg Gh Gi Gj Gk:Int} {dg:List (Int × Int)} {Nd:Option Addr} {Nf:Nat} {dh:Int} {w0:World} {r:Int} (h:oX N da Fq Fr Fs Ft dc dd Fu Fv Fw Gd Ge df2 Gf Gg Gh Gi Gj Gk dg dh=some r) (Rz:SL w0 hG Add dd) (Tt:dd.length≤MI) (Rc:SL w0 hG Nd dg) (S3:dg.length≤Nf) :
  Calls Tryz.prog 130 #[.agg #[I da,I Fq,I Fr,I Fs,I Ft,I dc,.slice Add dd.length MI,I Fu,I Fv,I Fw,I Gd,I Ge,I df2,I Gf,I Gg,I Gh,I Gi,I Gj,I Gk,.slice Nd dg.length Nf,I dh]] w0 fun e w'=>∃v,e = .returned v∧v=I r∧Mem w0.heap.size w0 w' []:=by
 refine gE Tryz.func130 Tryz.ntmps130 ?_;intro M;unfold oX at h;refine fK 2 ?_;intro RA w M;obtain ⟨r2,eR,h⟩:=aA h;refine jE 8 (bI eR) ?_;intro w M;refine mF 2 9 h ?_ ?_
 ·intro hb h;exact aJ 39 (M.pick [] aD)
 intro hb h;obtain ⟨r3,kU,h⟩:=aA h;refine jE 2 (bI kU) ?_;intro w M;refine mF 3 15 h ?_ ?_
 ·intro hb h;exact aJ 33 (M.pick [] aD)
 intro hb h;refine mF 6 21 h ?_ ?_
 ·intro hb h;exact aJ 27 (M.pick [] aD)
 intro hb h;obtain ⟨r4,qJ,h⟩:=aA h;refine jE 2 (B9 qJ ((bE Rz) _ M) Tt) ?_;intro w M;refine mF 3 27 h ?_ ?_
 ·intro hb h;exact aJ 21 (M.pick [] aD)
 intro hb h;obtain ⟨r5,tH,h⟩:=aA h;refine jE 2 (He tH) ?_;intro w M;refine mF 3 33 h ?_ ?_
 ·intro hb h;exact aJ 15 (M.pick [] aD)
 intro hb h;obtain ⟨r6,w6,h⟩:=aA h;refine jE 2 (bI w6) ?_;intro w M;refine dS 4 h ?_ ?_
 ·intro hb h;exact aJ 7 (M.pick [] aD)
 intro hb h;refine sP 9 0 (fun (i:Int) a w=>Kn a 66 [(1,.pointer (some ⟨RA,0,none⟩)),(3,I i)]∧Mem w0.heap.size w0 w [.blk RA 28 [I da,I Fq,I Fr,I Fs,I Ft,I dc,.slice Add dd.length MI,I Fu,I Fv,I Fw,I Gd,I Ge,I df2,I Gf,I Gg,I Gh,I Gi,I Gj,I Gk,.slice Nd dg.length Nf,I dh]]) M.oQ ?_ ?_
 ·clear M h;rintro i2 a w ⟨K,M⟩ h;try dsimp only at h
  revert a;refine sP 9 2 (fun (i3:Int) a w=>Kn a 66 [(1,.pointer (some ⟨RA,0,none⟩)),(4,I i3)]∧Mem w0.heap.size w0 w [.blk RA 28 [I da,I Fq,I Fr,I Fs,I Ft,I dc,.slice Add dd.length MI,I Fu,I Fv,I Fw,I Gd,I Ge,I df2,I Gf,I Gg,I Gh,I Gi,I Gj,I Gk,.slice Nd dg.length Nf,I dh]]) M.oQ ?_ ?_
  ·clear M h;rintro i4 a w ⟨K,M⟩ h;try dsimp only at h
   revert a;obtain ⟨yP,AJ,h⟩:=aA h;refine jE 7 (F4 AJ ((bE Rc) _ M) S3) ?_;intro w M;refine dS 3 h ?_ ?_
   ·intro hb h;exact aJ 7 (M.pick [] aD)
   intro hb h;exact aJ 8 (M.pick [] aD)
  clear M h;rintro kk fuel i3 a w hk2 ⟨K,M⟩ h;unfold eD at h;revert a;refine dS 7 h ?_ ?_
  ·intro hb h;obtain ⟨_,h0,h⟩:=aA h;have h0:=mN h0;refine aG 8 ?_;refine bQ (fun _ K=>dL rfl pO uF K rfl rfl h0.1 h0.2) M ?_;obtain ⟨e4,qR,h⟩:=aA h;refine bQ (fun _ K=>pT rfl jO K rfl (sD 0 rfl) rfl rfl qR) M ?_;obtain ⟨Di,B6,h⟩:=aA h;refine jE 0 (bI B6) ?_;intro w M;refine dS 3 h ?_ ?_
   ·intro hb h;exact aJ 11 (M.pick [] aD)
   intro hb h;obtain ⟨x5,hx,h⟩:=dG h;refine nS 6 hx ?_;exact mR 2 x5 M.oQ
  intro hb h;exact pI 3 (hk2 i3) M.oQ
 clear M h;rintro kk fuel i a w hk1 ⟨K,M⟩ h;unfold eE at h;revert a;refine dS 7 h ?_ ?_
 ·intro hb h;refine aG 5 ?_;intro a K;refine aF (fun w=>Mem _ _ w _) [0,0,0,0,0,0,0,1,0] aE aE M.drew ?_;replace M:=M.drew;revert a;obtain ⟨_,h0,h⟩:=aA h;have h0:=mN h0;refine aG 2 ?_;refine eC (fun _ K=>dL rfl OX uF K rfl rfl h0.1 h0.2) ?_;obtain ⟨e2,lV,h⟩:=aA h;refine eC (fun _ K=>pT rfl jO K rfl (sD 0 rfl) rfl rfl lV) ?_;obtain ⟨r8,DL,h⟩:=aA h;refine aG 3 ?_;intro a K;refine nY K (sC Z1 K (bI DL)) ?_;clear K;rintro _ a w ⟨rfl,Zq⟩ K;replace M:=M.call Zq;clear Zq;refine ⟨M.pick [0] aD,?_⟩;revert a;refine dS 3 h ?_ ?_
  ·intro hb h;exact aJ 11 (M.pick [] aD)
  intro hb h;obtain ⟨x3,hx,h⟩:=dG h;refine nS 6 hx ?_;exact mR 2 x3 M.oQ
 intro hb h;exact pI 3 (hk1 i) M.oQ
theorem F6 {N:Nat} {C4 wL dN gO dI:Int} {eO:List Int} {iR:Option Addr} {iS:Nat} {cL:List (List UInt8)} {eL:Option Addr} {eM:Nat} {bJ aX aY aZ a7 bK:Int} {aH:List (Int × Int)} {bS:Option Addr} {bT:Nat} {a8 bA bB aO aP aQ aR aS aT aU aV aW:Int} {aI:List (Int × Int)} {bU:Option Addr} {bV:Nat} {bC:Int} {w0:World} {r:Int} (h:oY N C4 wL dN gO dI eO cL bJ aX aY aZ a7 bK aH a8 bA bB aO aP aQ aR aS aT aU aV aW aI bC=some r) (xF:SL w0 (cI .i64) iR eO) (zI:eO.length≤iS) (w7:SL w0 cS eL cL) (zJ:cL.length≤eM) (kV:SL w0 hG bS aH) (lW:aH.length≤bT) (nK:SL w0 hG bU aI) (pD:aI.length≤bV) :
  Calls Tryz.prog 56 #[.agg #[I C4,I wL,I dN,I gO,I dI,.slice iR eO.length iS,.slice eL cL.length eM,I bJ,I aX,I aY,I aZ,I a7,I bK,.slice bS aH.length bT,I a8,I bA,I bB,I aO,I aP,I aQ,I aR,I aS,I aT,I aU,I aV,I aW,.slice bU aI.length bV,I bC]] w0 fun e w'=>∃v,e = .returned v∧v=I r∧Mem w0.heap.size w0 w' []:=by
 refine gE Tryz.func56 Tryz.ntmps56 ?_;intro M;unfold oY at h;refine fK 2 ?_;intro MJ w M;obtain ⟨r2,eR,h⟩:=aA h;refine jE 8 (F5 eR ((bE kV) _ M) lW ((bE nK) _ M) pD) ?_;intro w M;refine dS 9 h ?_ ?_
 ·intro hb h;exact aJ 8 (M.pick [] aD)
 intro hb h;obtain ⟨r3,kU,h⟩:=aA h;refine jE 12 (B9 kU ((bE kV) _ M) lW) ?_;intro w M;refine dS 3 h ?_ ?_
 ·intro hb h;exact aJ 7 (M.pick [] aD)
 intro hb h;exact aJ 8 (M.pick [] aD)
theorem rK {N:Nat} {C4 wL dN gO dI:Int} {eO:List Int} {iR:Option Addr} {iS:Nat} {cL:List (List UInt8)} {eL:Option Addr} {eM:Nat} {bJ aX aY aZ a7 bK:Int} {aH:List (Int × Int)} {bS:Option Addr} {bT:Nat} {a8 bA bB aO aP aQ aR aS aT aU aV aW:Int} {aI:List (Int × Int)} {bU:Option Addr} {bV:Nat} {bC strip:Int} {w0:World} {r:Int} (h:rD N C4 wL dN gO dI eO cL bJ aX aY aZ a7 bK aH a8 bA bB aO aP aQ aR aS aT aU aV aW aI bC strip=some r) (xF:SL w0 (cI .i64) iR eO) (zI:eO.length≤iS) (w7:SL w0 cS eL cL) (zJ:cL.length≤eM) (kV:SL w0 hG bS aH) (lW:aH.length≤bT) (nK:SL w0 hG bU aI) (pD:aI.length≤bV) :
  Calls Tryz.prog 60 #[.agg #[I C4,I wL,I dN,I gO,I dI,.slice iR eO.length iS,.slice eL cL.length eM,I bJ,I aX,I aY,I aZ,I a7,I bK,.slice bS aH.length bT,I a8,I bA,I bB,I aO,I aP,I aQ,I aR,I aS,I aT,I aU,I aV,I aW,.slice bU aI.length bV,I bC],I strip] w0 fun e w'=>∃v,e = .returned v∧v=I r∧Mem w0.heap.size w0 w' []:=by
 refine gE Tryz.func60 Tryz.ntmps60 ?_;intro M;unfold rD at h;refine fK 2 ?_;intro MJ w M;exact aJ 19 (M.pick [] aD)
theorem Hf {N:Nat} {l2:List Int} {xC:Option Addr} {xD:Nat} {depth:Int} {w0:World} {r:Bool} (h:qB N l2 depth=some r) (uW:SL w0 (cI .i64) xC l2) (Gx:l2.length≤xD) :
  Calls Tryz.prog 57 #[.slice xC l2.length xD,I depth] w0 fun e w'=>∃v,e = .returned v∧v = .bool r∧Mem w0.heap.size w0 w' []:=by
 refine gE Tryz.func57 Tryz.ntmps57 ?_;intro M;unfold qB at h;refine sP 12 0 (fun (i:Int) a w=>Kn a 20 [(0,.slice xC l2.length xD),(1,I depth),(5,I i)]∧Mem w0.heap.size w0 w []) M.nQ ?_ ?_
 ·clear M h;rintro i4 a w ⟨K,M⟩ h;try dsimp only at h
  revert a;exact aJ 8 (M.pick [] aD)
 clear M h;rintro kk fuel i a w hk1 ⟨K,M⟩ h;unfold lD at h;revert a;refine dS 9 h ?_ ?_
 ·intro hb h;refine Uv 5 ?_;replace M:=M.drew;obtain ⟨e2,lV,h⟩:=aA h;refine aG 2 ?_;refine eC (fun _ K=>eB rfl g9 K rfl rfl ((bE uW) _ M) lV) ?_;refine eC (fun _ K=>fM rfl jO K rfl rfl (bE uW) lV rfl) ?_;obtain ⟨_,h0,h⟩:=aA h;have h0:=t6 h0;refine aG 1 ?_;refine eC (fun _ K=>AT rfl K rfl rfl h0) ?_;refine dS 4 h ?_ ?_
  ·intro hb h;exact aJ 11 (M.pick [] aD)
  intro hb h;obtain ⟨i3,hx,h⟩:=dG h;refine nS 6 hx ?_;exact mR 2 i3 M.nQ
 intro hb h;exact pI 3 (hk1 i) M.nQ
theorem Ca {N:Nat} {d:Int} {w0:World} {r:Int} (h:oF N d=some r) :
  Calls Tryz.prog 136 #[I d] w0 fun e w'=>∃v,e = .returned v∧v=I r∧Mem w0.heap.size w0 w' []:=by
 refine gE Tryz.func136 Tryz.ntmps136 ?_;intro M;unfold oF at h;refine aG 15 ?_;refine bQ (fun _ K=>TA rfl K rfl) M ?_;obtain ⟨k,hx,h⟩:=dG h;refine nS 1 hx ?_;refine sP 3 0 (fun (⟨n,k2⟩:Int × Int) a w=>Kn a 16 [(3,I n),(4,I k2)]∧Mem w0.heap.size w0 w []) M.nQ ?_ ?_
 ·clear M h;rintro ⟨n4,k5⟩ a w ⟨K,M⟩ h;try dsimp only at h
  revert a;exact aJ 9 (M.pick [] aD)
 clear M h;rintro kk fuel ⟨n,k2⟩ a w hk1 ⟨K,M⟩ h;unfold lF at h;revert a;refine dS 7 h ?_ ?_
 ·intro hb h;obtain ⟨n3,hx,h⟩:=dG h;refine nS 7 hx ?_;refine aG 5 ?_;refine bQ (fun _ K=>gX rfl K rfl rfl aD) M ?_;obtain ⟨k4,hx,h⟩:=dG h;refine nS 0 hx ?_;exact mR 2 (n3,k4) M.nQ
 intro hb h;exact pI 3 (hk1 (n,k2)) M.nQ
theorem d7 {N:Nat} {gD jA:Int} {eI:List Int} {dW:Option Addr} {dX:Nat} {x2 y:Int} {w0:World} {r:Int} (h:bL N gD jA eI x2 y=some r) (jW:SL w0 (cI .i64) dW eI) (rF:eI.length≤dX) :
  Calls Tryz.prog 141 #[.agg #[I gD,I jA,.slice dW eI.length dX],I x2,I y] w0 fun e w'=>∃v,e = .returned v∧v=I r∧Mem w0.heap.size w0 w' []:=by
 refine gE Tryz.func141 Tryz.ntmps141 ?_;intro M;unfold bL at h;refine fK 2 ?_;intro xK w M;obtain ⟨e,IR,h⟩:=aA h;refine aG 13 ?_;refine bQ (fun _ K=>fP rfl g9 K rfl rfl (bE jW) IR) M ?_;refine bQ (fun _ K=>fM rfl jO K rfl rfl (bE jW) IR rfl) M ?_;exact aJ 4 (M.pick [] aD)
theorem Fi {N:Nat} {Qf guess:Int} {w0:World} {r:Int} (h:oJ N Qf guess=some r) :
  Calls Tryz.prog 174 #[I Qf,I guess] w0 fun e w'=>∃v,e = .returned v∧v=I r∧Mem w0.heap.size w0 w' []:=by
 refine gE Tryz.func174 Tryz.ntmps174 ?_;intro M;unfold oJ at h;obtain ⟨d,hx,h⟩:=dG h;refine nS 10 hx ?_;refine sP 4 0 (fun (d2:Int) a w=>Kn a 18 [(5,I d2)]∧Mem w0.heap.size w0 w []) M.nQ ?_ ?_
 ·clear M h;rintro d5 a w ⟨K,M⟩ h;try dsimp only at h
  revert a;refine sP 4 2 (fun (d6:Int) a w=>Kn a 18 [(5,I d6)]∧Mem w0.heap.size w0 w []) M.nQ ?_ ?_
  ·clear M h;rintro d9 a w ⟨K,M⟩ h;try dsimp only at h
   revert a;exact aJ 9 (M.pick [] aD)
  clear M h;rintro kk fuel d6 a w hk2 ⟨K,M⟩ h;unfold eP at h;revert a;refine dS 7 h ?_ ?_
  ·intro hb h;obtain ⟨d8,hx,h⟩:=dG h;refine nS 6 hx ?_;exact mR 3 d8 M.nQ
  intro hb h;exact pI 3 (hk2 d6) M.nQ
 clear M h;rintro kk fuel d2 a w hk1 ⟨K,M⟩ h;unfold fY at h;revert a;refine dS 7 h ?_ ?_
 ·intro hb h;obtain ⟨d4,hx,h⟩:=dG h;refine nS 6 hx ?_;exact mR 3 d4 M.nQ
 intro hb h;exact pI 3 (hk1 d2) M.nQ
theorem iE {N:Nat} {n byA:Int} {w0:World} {r:Int} (h:bD N n byA=some r) :
  Calls Tryz.prog 142 #[I n,I byA] w0 fun e w'=>∃v,e = .returned v∧v=I r∧Mem w0.heap.size w0 w' []:=by
 refine gE Tryz.func142 Tryz.ntmps142 ?_;intro M;unfold bD at h;obtain ⟨_,h0,h⟩:=aA h;have h0:=dJ h0;refine aG 9 ?_;refine bQ (fun _ K=>gX rfl K rfl rfl h0) M ?_;obtain ⟨q,hx,h⟩:=dG h;refine nS 0 hx ?_;refine dS 12 h ?_ ?_
 ·intro hb h;obtain ⟨q2,hx,h⟩:=dG h;refine nS 3 hx ?_;exact aJ 9 (M.pick [] aD)
 intro hb h;exact aJ 9 (M.pick [] aD)
theorem Hg {N:Nat} {dM fN:Int} {gI:List Int} {g7:Option Addr} {g8:Nat} {o p2 p3:Int} {w0:World} {r:Int} (h:qC N dM fN gI o p2 p3=some r) (jX:SL w0 (cI .i64) g7 gI) (vJ:gI.length≤g8) :
  Calls Tryz.prog 175 #[.agg #[I dM,I fN,.slice g7 gI.length g8],I o,I p2,I p3] w0 fun e w'=>∃v,e = .returned v∧v=I r∧Mem w0.heap.size w0 w' []:=by
 refine gE Tryz.func175 Tryz.ntmps175 ?_;intro M;unfold qC at h;refine fK 2 ?_;intro gW w M;refine mF 10 15 h ?_ ?_
 ·intro hb h;refine dS 6 h ?_ ?_
  ·intro hb h;exact aJ 8 (M.pick [] aD)
  intro hb h;refine dS 7 h ?_ ?_
  ·intro hb h;obtain ⟨r2,eR,h⟩:=aA h;refine jE 5 (d7 eR ((bE jX) _ M) vJ) ?_;intro w M;exact aJ 6 (M.pick [] aD)
  intro hb h;refine dS 7 h ?_ ?_
  ·intro hb h;obtain ⟨r3,kU,h⟩:=aA h;refine jE 5 (d7 kU ((bE jX) _ M) vJ) ?_;intro w M;exact aJ 6 (M.pick [] aD)
  intro hb h;refine aG 4 ?_;intro a K;refine aF (fun w=>Mem _ _ w _) [0,0,0,0,1,0,0,0,0,1,0,0,0,0,0,1,0,0,0] aE aE M.drew ?_;replace M:=M.drew;revert a;obtain ⟨r4,qJ,h⟩:=aA h;refine aG 4 ?_;intro a K;refine nY K (sC B5 K (d7 qJ ((bE jX) _ M) vJ)) ?_;clear K;rintro _ a w ⟨rfl,Zq⟩ K;replace M:=M.call Zq;clear Zq;refine ⟨M.pick [0] aD,?_⟩;revert a;obtain ⟨r5,tH,h⟩:=aA h;refine aG 4 ?_;intro a K;refine nY K (sC B5 K (d7 tH ((bE jX) _ M) vJ)) ?_;clear K;rintro _ a w ⟨rfl,Zq⟩ K;replace M:=M.call Zq;clear Zq;refine ⟨M.pick [0] aD,?_⟩;revert a;obtain ⟨r6,w6,h⟩:=aA h;refine aG 5 ?_;intro a K;refine nY K (sC B5 K (d7 w6 ((bE jX) _ M) vJ)) ?_;clear K;rintro _ a w ⟨rfl,Zq⟩ K;replace M:=M.call Zq;clear Zq;refine ⟨M.pick [0] aD,?_⟩;revert a;refine dS 18 h ?_ ?_
  ·intro hb h;exact aJ 9 (M.pick [] aD)
  intro hb h;refine dS 6 h ?_ ?_
  ·intro hb h;exact aJ 9 (M.pick [] aD)
  intro hb h;refine dS 6 h ?_ ?_
  ·intro hb h;exact aJ 9 (M.pick [] aD)
  intro hb h;refine dS 6 h ?_ ?_
  ·intro hb h;exact aJ 13 (M.pick [] aD)
  intro hb h;refine dS 6 h ?_ ?_
  ·intro hb h;obtain ⟨r7,CT,h⟩:=aA h;refine jE 6 (iE CT) ?_;intro w M;exact aJ 7 (M.pick [] aD)
  intro hb h;refine dS 6 h ?_ ?_
  ·intro hb h;obtain ⟨r8,DL,h⟩:=aA h;refine jE 6 (iE DL) ?_;intro w M;exact aJ 7 (M.pick [] aD)
  intro hb h;obtain ⟨r9,E8,h⟩:=aA h;refine jE 8 (iE E8) ?_;intro w M;exact aJ 4 (M.pick [] aD)
 intro hb h;refine dS 14 h ?_ ?_
 ·intro hb h;obtain ⟨Di,B6,h⟩:=aA h;refine jE 5 (d7 B6 ((bE jX) _ M) vJ) ?_;intro w M;exact aJ 6 (M.pick [] aD)
 intro hb h;refine dS 7 h ?_ ?_
 ·intro hb h;obtain ⟨yP,AJ,h⟩:=aA h;refine jE 5 (d7 AJ ((bE jX) _ M) vJ) ?_;intro w M;exact aJ 6 (M.pick [] aD)
 intro hb h;refine aG 4 ?_;intro a K;refine aF (fun w=>Mem _ _ w _) [0,0,0,0,1,0,0,0,0,1,0,0,0,0,0,1,0,0,0] aE aE M.drew ?_;replace M:=M.drew;revert a;obtain ⟨Ae,Dp,h⟩:=aA h;refine aG 4 ?_;intro a K;refine nY K (sC B5 K (d7 Dp ((bE jX) _ M) vJ)) ?_;clear K;rintro _ a w ⟨rfl,Zq⟩ K;replace M:=M.call Zq;clear Zq;refine ⟨M.pick [0] aD,?_⟩;revert a;obtain ⟨DX,Dq,h⟩:=aA h;refine aG 4 ?_;intro a K;refine nY K (sC B5 K (d7 Dq ((bE jX) _ M) vJ)) ?_;clear K;rintro _ a w ⟨rfl,Zq⟩ K;replace M:=M.call Zq;clear Zq;refine ⟨M.pick [0] aD,?_⟩;revert a;obtain ⟨Ll,E9,h⟩:=aA h;refine aG 5 ?_;intro a K;refine nY K (sC B5 K (d7 E9 ((bE jX) _ M) vJ)) ?_;clear K;rintro _ a w ⟨rfl,Zq⟩ K;replace M:=M.call Zq;clear Zq;refine ⟨M.pick [0] aD,?_⟩;revert a;refine dS 18 h ?_ ?_
 ·intro hb h;exact aJ 9 (M.pick [] aD)
 intro hb h;refine dS 6 h ?_ ?_
 ·intro hb h;exact aJ 9 (M.pick [] aD)
 intro hb h;refine dS 6 h ?_ ?_
 ·intro hb h;exact aJ 9 (M.pick [] aD)
 intro hb h;refine dS 6 h ?_ ?_
 ·intro hb h;exact aJ 13 (M.pick [] aD)
 intro hb h;refine dS 6 h ?_ ?_
 ·intro hb h;obtain ⟨GZ,GC,h⟩:=aA h;refine jE 6 (iE GC) ?_;intro w M;exact aJ 7 (M.pick [] aD)
 intro hb h;refine dS 6 h ?_ ?_
 ·intro hb h;obtain ⟨r16,GD,h⟩:=aA h;refine jE 6 (iE GD) ?_;intro w M;exact aJ 7 (M.pick [] aD)
 intro hb h;obtain ⟨Qb,KN,h⟩:=aA h;refine jE 8 (iE KN) ?_;intro w M;exact aJ 4 (M.pick [] aD)
theorem Fa {N:Nat} {gD jA:Int} {eI:List Int} {dW:Option Addr} {dX:Nat} {kind:Int} {w0:World} {r:List Int} (h:qD N gD jA eI kind=some r) (jW:SL w0 (cI .i64) dW eI) (rF:eI.length≤dX) :
  Calls Tryz.prog 135 #[.agg #[I gD,I jA,.slice dW eI.length dX],I kind] w0 fun e w'=>∃v,e = .returned v∧∃A0 c0,v = .slice A0 r.length c0∧Mem w0.heap.size w0 w' [.row 3 1 A0 r.length c0 ((cI .i64).all r)]:=by
 refine gE Tryz.func135 Tryz.ntmps135 ?_;intro M;unfold qD at h;refine fK 2 ?_;intro xK w M;refine aG 15 ?_;replace M:=Mem.aK 3 1 (cI .i64) M;refine sP 0 0 (fun (⟨l5,y2⟩:List Int × Int) a w=>∃(A4:Option Addr) (c4:Nat),Kn a 34 [(1,I kind),(2,.pointer (some ⟨xK,0,none⟩)),(5,.slice A4 l5.length c4),(6,I y2)]∧Mem w0.heap.size w0 w [.row 3 1 A4 l5.length c4 ((cI .i64).all l5),.blk xK 31 [I gD,I jA,.slice dW eI.length dX]]) (M.pick [0,1] aD) ?_ ?_
 ·clear M h;rintro ⟨l12,y5⟩ a w ⟨A11,c11,K,M⟩ h;try dsimp only at h
  revert a;exact aJ 9 (M.pick [0] aD)
 clear M h;rintro kk fuel ⟨l5,y2⟩ a w hk1 ⟨A4,c4,K,M⟩ h;unfold gT at h;revert a;refine dS 9 h ?_ ?_
 ·intro hb h;refine sP 10 2 (fun (⟨l8,x7⟩:List Int × Int) a w=>∃(A7:Option Addr) (c7:Nat),Kn a 34 [(1,I kind),(2,.pointer (some ⟨xK,0,none⟩)),(5,.slice A7 l8.length c7),(6,I y2),(7,I x7)]∧Mem w0.heap.size w0 w [.row 3 1 A7 l8.length c7 ((cI .i64).all l8),.blk xK 31 [I gD,I jA,.slice dW eI.length dX]]) (M.pick [0,1] aD) ?_ ?_
  ·clear M h;rintro ⟨Xw,x10⟩ a w ⟨XB,c10,K,M⟩ h;try dsimp only at h
   revert a;obtain ⟨y4,hx,h⟩:=dG h;refine nS 6 hx ?_;exact mR 2 (Xw,y4) (M.pick [0,1] aD)
  clear M h;rintro kk fuel ⟨l8,x7⟩ a w hk2 ⟨A7,c7,K,M⟩ h;unfold jH at h;revert a;refine dS 9 h ?_ ?_
  ·intro hb h;refine aG 4 ?_;intro a K;refine aF (fun w=>Mem _ _ w _) [0,0,0,0,1,0,0,0,0,1,1,1,1,0] aE aE (M.pick [1] aD).drew ?_;replace M:=M.drew;revert a;obtain ⟨Ll,E9,h⟩:=aA h;refine aG 4 ?_;intro a K;refine nY K (sC B5 K (d7 E9 ((bE jW) _ M) rF)) ?_;clear K;rintro _ a w ⟨rfl,Zq⟩ K;replace M:=M.call Zq;clear Zq;refine ⟨M.pick [1] aD,?_⟩;revert a;obtain ⟨GZ,GC,h⟩:=aA h;refine aG 4 ?_;intro a K;refine nY K (sC aAe K (Hg GC ((bE jW) _ M) rF)) ?_;clear K;rintro _ a w ⟨rfl,Zq⟩ K;replace M:=M.call Zq;clear Zq;refine ⟨M.pick [1] aD,?_⟩;obtain ⟨r16,GD,h⟩:=aA h;refine nY K (sC aAd K (Fi GD)) ?_;clear K;rintro _ a w ⟨rfl,Zq⟩ K;replace M:=M.call Zq;clear Zq;refine ⟨M.pick [1] aD,?_⟩;refine nY K (dK rfl g9 z3 K (vs:=[(0,I r16)]) (cs:=[I r16]) rfl aE rfl rfl M) ?_;have M0:=M;clear K M;rintro _ a w ⟨gs5,rfl,M⟩ K;replace M:=M.oI 0 rfl (cI .i64) ([r16]:List Int) (n:=1) rfl rfl rfl;clear M0;refine ⟨M.pick [2] aD,?_⟩;obtain ⟨l10,S2,h⟩:=aA h;refine nY K (jZ (C:=(cI .i64)) (xs:=l8) (ys:=([r16]:List Int)) rfl g9 rfl z3 rfl rfl K rfl rfl 1 M rfl ((hF (C:=(cI .i64)) 0 rfl rfl) _ M) S2) ?_;clear K M;rintro _ a w ⟨A9,c9,rfl,M⟩ K;refine ⟨M.pick [2] aD,?_⟩;revert a;obtain ⟨x9,hx,h⟩:=dG h;refine nS 7 hx ?_;exact mR 2 (l10,x9) (M.pick [1,2] aD)
  intro hb h;exact pI 3 (hk2 (l8,x7)) (M.pick [0,1] aD)
 intro hb h;exact pI 3 (hk1 (l5,y2)) (M.pick [0,1] aD)
theorem I6 {N:Nat} {d:Int} {w0:World} {r:List UInt8} (h:sZ N d=some r) :
  Calls Tryz.prog 137 #[I d] w0 fun e w'=>∃v,e = .returned v∧v = .string (bs r)∧Mem w0.heap.size w0 w' []:=by
 refine gE Tryz.func137 Tryz.ntmps137 ?_;intro M;unfold sZ at h;obtain ⟨r2,eR,h⟩:=aA h;refine jE 8 (Ca eR) ?_;intro w M;refine mF 10 9 h ?_ ?_
 ·intro hb h;exact aJ 15 (M.pick [] aD)
 intro hb h;refine dS 6 h ?_ ?_
 ·intro hb h;exact aJ 8 (M.pick [] aD)
 intro hb h;refine dS 7 h ?_ ?_
 ·intro hb h;obtain ⟨r3,kU,h⟩:=aA h;refine jE 4 (t7 kU) ?_;intro w M;exact aJ 6 (M.pick [] aD)
 intro hb h;obtain ⟨_,h0,h⟩:=aA h;have h0:=t6 h0;refine aG 7 ?_;refine bQ (fun _ K=>AT rfl K rfl rfl h0) M ?_;obtain ⟨r4,qJ,h⟩:=aA h;refine jE 3 (t7 qJ) ?_;intro w M;exact aJ 4 (M.pick [] aD)
theorem Hh {N:Nat} {lens:List Int} {DM:Option Addr} {DN:Nat} {w0:World} {r:List (List UInt8)} (h:oE N lens=some r) (DO:SL w0 (cI .i64) DM lens) (aAI:lens.length≤DN) :
  Calls Tryz.prog 134 #[.slice DM lens.length DN] w0 fun e w'=>∃v,e = .returned v∧∃A0 c0,v = .slice A0 r.length c0∧Mem w0.heap.size w0 w' [.row 9 1 A0 r.length c0 (cS.all r)]:=by
 refine gE Tryz.func134 Tryz.ntmps134 ?_;intro M;unfold oE at h;obtain ⟨x2,hx,h⟩:=dG h;refine aG 8 ?_;refine bQ (fun _ K=>RH hx (AU rfl Um K rfl)) M ?_;obtain ⟨l2,uH,h⟩:=aA h;intro a K;refine sN K (q8 (C:=cS) (z:=([]:List UInt8)) rfl AH rfl z9 rfl K rfl rfl M uH) ?_;clear K M;rintro _ a w ⟨A,c,rfl,M⟩ K;revert a;refine sP 16 0 (fun (⟨l3,next,last,size⟩:List (List UInt8) × Int × Int × Int) a w=>Kn a 42 [(0,.slice DM lens.length DN),(3,.slice A l3.length c),(4,I next),(5,I last),(6,I size)]∧Mem w0.heap.size w0 w [.row 9 1 A l3.length c (cS.all l3)]) M.oQ ?_ ?_
 ·clear M h;rintro ⟨l10,aEg,aGp,aGq⟩ a w ⟨K,M⟩ h;try dsimp only at h
  revert a;exact aJ 9 (M.pick [0] aD)
 clear M h;rintro kk fuel ⟨l3,next,last,size⟩ a w hk1 ⟨K,M⟩ h;unfold lE at h;revert a;refine dS 7 h ?_ ?_
 ·intro hb h;refine sP 10 2 (fun (⟨l6,L6,last3,i4⟩:List (List UInt8) × Int × Int × Int) a w=>Kn a 42 [(0,.slice DM lens.length DN),(3,.slice A l6.length c),(4,I L6),(5,I last3),(6,I size),(7,I i4)]∧Mem w0.heap.size w0 w [.row 9 1 A l6.length c (cS.all l6)]) M.oQ ?_ ?_
  ·clear M h;rintro ⟨l9,TF,Ye,i9⟩ a w ⟨K,M⟩ h;try dsimp only at h
   revert a;obtain ⟨Yf,hx,h⟩:=dG h;refine nS 6 hx ?_;exact mR 2 (l9,TF,Ye,Yf) M.oQ
  clear M h;rintro kk fuel ⟨l6,L6,last3,i4⟩ a w hk2 ⟨K,M⟩ h;unfold jP at h;revert a;refine dS 9 h ?_ ?_
  ·intro hb h;obtain ⟨e5,Ky,h⟩:=aA h;refine aG 9 ?_;refine bQ (fun _ K=>fP rfl g9 K rfl rfl (bE DO) Ky) M ?_;refine bQ (fun _ K=>fM rfl jO K rfl rfl (bE DO) Ky rfl) M ?_;refine dS 4 h ?_ ?_
   ·intro hb h;obtain ⟨i7,hx,h⟩:=dG h;refine nS 7 hx ?_;exact mR 2 (l6,L6,last3,i7) M.oQ
   intro hb h;obtain ⟨_,h0,h⟩:=aA h;have h0:=t6 h0;refine aG 8 ?_;refine bQ (fun _ K=>AT rfl K rfl rfl h0) M ?_;obtain ⟨Yc,hx,h⟩:=dG h;refine nS 0 hx ?_;obtain ⟨r4,qJ,h⟩:=aA h;refine jE 14 (t7 qJ) ?_;intro w M;obtain ⟨e6,Iw,h⟩:=aA h;refine bQ (fun _ K=>fP rfl AH K rfl rfl (hF (C:=cS) 0 rfl rfl) Iw) M ?_;obtain ⟨l8,aCS,h⟩:=aA h;intro a K;refine CO K (gA (el:=r4) rfl sz9 rfl rfl K rfl rfl rfl 0 M rfl aCS) ?_;have M0:=M;clear K M;rintro _ a w M K;have hl:=jB aCS;try rw [hl] at M
   try rw [hl] at K
   clear hl;clear M0;revert a;obtain ⟨Yd,hx,h⟩:=dG h;refine nS 5 hx ?_;obtain ⟨i8,hx,h⟩:=dG h;refine nS 6 hx ?_;exact mR 2 (l8,Yd,size,i8) M.oQ
  intro hb h;exact pI 3 (hk2 (l6,L6,last3,i4)) M.oQ
 intro hb h;exact pI 3 (hk1 (l3,next,last,size)) M.oQ
theorem vI {N:Nat} {dM fN:Int} {gI:List Int} {g7:Option Addr} {g8:Nat} {o:Int} {p2:List Int} {aAL:Option Addr} {aAM:Nat} {w0:World} {r:List UInt8 × Int} (h:oZ N dM fN gI o p2=some r) (jX:SL w0 (cI .i64) g7 gI) (vJ:gI.length≤g8) (aCP:SL w0 (cI .i64) aAL p2) (aCQ:p2.length≤aAM) :
  Calls Tryz.prog 62 #[.agg #[I dM,I fN,.slice g7 gI.length g8],I o,.slice aAL p2.length aAM] w0 fun e w'=>∃v,e = .returned v∧v = .tuple #[.string (bs r.1),I r.2]∧Mem w0.heap.size w0 w' []:=by
 refine gE Tryz.func62 Tryz.ntmps62 ?_;intro M;unfold oZ at h;refine fK 2 ?_;intro gW w M;obtain ⟨r2,eR,h⟩:=aA h;refine jE 8 (mG eR ((bE jX) _ M) vJ) ?_;intro w M;refine dS 3 h ?_ ?_
 ·intro hb h;exact eG 8 (M.pick [] aD)
 intro hb h;obtain ⟨r3,kU,h⟩:=aA h;refine jE 6 (bI kU) ?_;intro w M;refine dS 3 h ?_ ?_
 ·intro hb h;exact eG 8 (M.pick [] aD)
 intro hb h;obtain ⟨r4,qJ,h⟩:=aA h;refine jE 6 (vH qJ ((bE aCP) _ M) aCQ) ?_;intro w M;refine dS 9 h ?_ ?_
 ·intro hb h;exact eG 9 (M.pick [] aD)
 intro hb h;obtain ⟨r5,tH,h⟩:=aA h;refine jE 5 (Hh tH ((bE aCP) _ M) aCQ) ?_;intro A c w M;obtain ⟨r6,w6,h⟩:=aA h;refine jE 7 (Fa w6 ((bE jX) _ M) vJ) ?_;intro A2 c2 w M;refine aG 15 ?_;replace M:=Mem.aK 5 1 (cI .u8) M;refine sP 0 0 (fun (⟨l4,i⟩:List Int × Int) a w=>∃(A5:Option Addr) (c5:Nat),Kn a 68 [(9,.slice A r5.length c),(10,.slice A2 r6.length c2),(11,.slice A5 l4.length c5),(12,I i)]∧Mem w0.heap.size w0 w [.row 5 1 A5 l4.length c5 ((cI .u8).all l4),.row 3 1 A2 r6.length c2 ((cI .i64).all r6),.row 9 1 A r5.length c (cS.all r5)]) (M.pick [0,1,2] aD) ?_ ?_
 ·clear M h;rintro ⟨l9,i2⟩ a w ⟨XB,c10,K,M⟩ h;try dsimp only at h
  revert a;refine aG 5 ?_;refine bQ (fun _ K=>By rfl tX Xz I3 K rfl (hF (C:=(cI .u8)) 0 rfl rfl)) M ?_;obtain ⟨DX,Dq,h⟩:=aA h;refine jE 0 (Dr Dq) ?_;intro w M;exact eG 5 (M.pick [] aD)
 clear M h;rintro kk fuel ⟨l4,i⟩ a w hk1 ⟨A5,c5,K,M⟩ h;unfold j6 at h;revert a;refine dS 9 h ?_ ?_
 ·intro hb h;obtain ⟨e9,I4,h⟩:=aA h;refine aG 8 ?_;refine bQ (fun _ K=>fP rfl g9 K rfl rfl (hF (C:=(cI .i64)) 1 rfl rfl) I4) M ?_;refine bQ (fun _ K=>fM rfl jO K rfl rfl (hF (C:=(cI .i64)) 1 rfl rfl) I4 rfl) M ?_;obtain ⟨yP,AJ,h⟩:=aA h;refine jE 0 (Ca AJ) ?_;intro w M;refine mF 11 45 h ?_ ?_
  ·intro hb h;exact eG 22 (M.pick [] aD)
  intro hb h;obtain ⟨e10,E3,h⟩:=aA h;refine aG 2 ?_;refine bQ (fun _ K=>fP rfl AH K rfl rfl (hF (C:=cS) 2 rfl rfl) E3) M ?_;refine bQ (fun _ K=>fM rfl sc9 K rfl rfl (hF (C:=cS) 2 rfl rfl) E3 rfl) M ?_;refine bQ (fun _ K=>M8 rfl K rfl rfl) M ?_;refine dS 3 h ?_ ?_
  ·intro hb h;exact eG 13 (M.pick [] aD)
  intro hb h;obtain ⟨e11,Ji,h⟩:=aA h;refine aG 7 ?_;refine bQ (fun _ K=>fP rfl AH K rfl rfl (hF (C:=cS) 2 rfl rfl) Ji) M ?_;refine bQ (fun _ K=>fM rfl sc9 K rfl rfl (hF (C:=cS) 2 rfl rfl) Ji rfl) M ?_;obtain ⟨l7,w5,h⟩:=aA h;intro a K;refine sN K (M9 rfl tX I3 zu5 K rfl rfl 0 M rfl w5) ?_;clear K M;rintro _ a w ⟨A8,c8,rfl,M⟩ K;revert a;obtain ⟨e12,Mb,h⟩:=aA h;refine aG 7 ?_;refine bQ (fun _ K=>fP rfl g9 K rfl rfl (hF (C:=(cI .i64)) 1 rfl rfl) Mb) M ?_;refine bQ (fun _ K=>fM rfl jO K rfl rfl (hF (C:=(cI .i64)) 1 rfl rfl) Mb rfl) M ?_;obtain ⟨Ae,Dp,h⟩:=aA h;refine jE 0 (I6 Dp) ?_;intro w M;obtain ⟨l8,aCS,h⟩:=aA h;intro a K;refine sN K (M9 rfl tX I3 zu5 K rfl rfl 0 M rfl aCS) ?_;clear K M;rintro _ a w ⟨A9,c9,rfl,M⟩ K;revert a;obtain ⟨x4,hx,h⟩:=dG h;refine nS 7 hx ?_;exact mR 2 (l8,x4) (M.pick [0,1,2] aD)
 intro hb h;exact pI 3 (hk1 (l4,i)) (M.pick [0,1,2] aD)
theorem Hi {N:Nat} {dM fN iI lL hZ:Int} {kI:List Int} {zK:Option Addr} {zL:Nat} {fI:List (List UInt8)} {tY:Option Addr} {tZ:Nat} {dO cQ cR cU cV dP:Int} {cM:List (Int × Int)} {nL:Option Addr} {nM:Nat} {cW cZ dA cA cB cC cD cE cG cH cJ cK:Int} {cN:List (Int × Int)} {nN:Option Addr} {nO:Nat} {dB vO Ab:Int} {xU:List Int} {pP:Option Addr} {kW:Nat} {w0:World} {r:Int × Int × Int × Int × Int × List Int × List (List UInt8) × Int × Int × Int × Int × Int × Int × List (Int × Int) × Int × Int × Int × Int × Int × Int × Int × Int × Int × Int × Int × Int × List (Int × Int) × Int × Int} (h:qE N dM fN iI lL hZ kI fI dO cQ cR cU cV dP cM cW cZ dA cA cB cC cD cE cG cH cJ cK cN dB vO Ab xU=some r) (pQ:SL w0 (cI .i64) zK kI) (pR:kI.length≤zL) (oL:SL w0 cS tY fI) (qL:fI.length≤tZ) (iA:SL w0 hG nL cM) (iB:cM.length≤nM) (iC:SL w0 hG nN cN) (iD:cN.length≤nO) (rR:SL w0 (cI .i64) pP xU) (mJ:xU.length≤kW) :
  Calls Tryz.prog 13 #[.agg #[I dM,I fN,I iI,I lL,I hZ,.slice zK kI.length zL,.slice tY fI.length tZ,I dO,I cQ,I cR,I cU,I cV,I dP,.slice nL cM.length nM,I cW,I cZ,I dA,I cA,I cB,I cC,I cD,I cE,I cG,I cH,I cJ,I cK,.slice nN cN.length nO,I dB],.agg #[I vO,I Ab,.slice pP xU.length kW]] w0 fun e w'=>∃v,e = .returned v∧∃A5 c5 A6 c6 Rw c13 X6 Xt,v = .tuple #[.agg #[I r.1,I r.2.1,I r.2.2.1,I r.2.2.2.1,I r.2.2.2.2.1,.slice A5 r.2.2.2.2.2.1.length c5,.slice A6 r.2.2.2.2.2.2.1.length c6,I r.2.2.2.2.2.2.2.1,I r.2.2.2.2.2.2.2.2.1,I r.2.2.2.2.2.2.2.2.2.1,I r.2.2.2.2.2.2.2.2.2.2.1,I r.2.2.2.2.2.2.2.2.2.2.2.1,I r.2.2.2.2.2.2.2.2.2.2.2.2.1,.slice Rw r.2.2.2.2.2.2.2.2.2.2.2.2.2.1.length c13,I r.2.2.2.2.2.2.2.2.2.2.2.2.2.2.1,I r.2.2.2.2.2.2.2.2.2.2.2.2.2.2.2.1,I r.2.2.2.2.2.2.2.2.2.2.2.2.2.2.2.2.1,I r.2.2.2.2.2.2.2.2.2.2.2.2.2.2.2.2.2.1,I r.2.2.2.2.2.2.2.2.2.2.2.2.2.2.2.2.2.2.1,I r.2.2.2.2.2.2.2.2.2.2.2.2.2.2.2.2.2.2.2.1,I r.2.2.2.2.2.2.2.2.2.2.2.2.2.2.2.2.2.2.2.2.1,I r.2.2.2.2.2.2.2.2.2.2.2.2.2.2.2.2.2.2.2.2.2.1,I r.2.2.2.2.2.2.2.2.2.2.2.2.2.2.2.2.2.2.2.2.2.2.1,I r.2.2.2.2.2.2.2.2.2.2.2.2.2.2.2.2.2.2.2.2.2.2.2.1,I r.2.2.2.2.2.2.2.2.2.2.2.2.2.2.2.2.2.2.2.2.2.2.2.2.1,I r.2.2.2.2.2.2.2.2.2.2.2.2.2.2.2.2.2.2.2.2.2.2.2.2.2.1,.slice X6 r.2.2.2.2.2.2.2.2.2.2.2.2.2.2.2.2.2.2.2.2.2.2.2.2.2.2.1.length Xt,I r.2.2.2.2.2.2.2.2.2.2.2.2.2.2.2.2.2.2.2.2.2.2.2.2.2.2.2.1],I r.2.2.2.2.2.2.2.2.2.2.2.2.2.2.2.2.2.2.2.2.2.2.2.2.2.2.2.2]∧Mem w0.heap.size w0 w' [.row 3 1 A5 r.2.2.2.2.2.1.length c5 ((cI .i64).all r.2.2.2.2.2.1),.row 9 1 A6 r.2.2.2.2.2.2.1.length c6 (cS.all r.2.2.2.2.2.2.1),.row 92 2 Rw r.2.2.2.2.2.2.2.2.2.2.2.2.2.1.length c13 (hG.all r.2.2.2.2.2.2.2.2.2.2.2.2.2.1),.row 47 2 X6 r.2.2.2.2.2.2.2.2.2.2.2.2.2.2.2.2.2.2.2.2.2.2.2.2.2.2.1.length Xt (hG.all r.2.2.2.2.2.2.2.2.2.2.2.2.2.2.2.2.2.2.2.2.2.2.2.2.2.2.1)]:=by
 refine gE Tryz.func13 Tryz.ntmps13 ?_;intro M;unfold qE at h;refine fK 2 ?_;intro gW w M;refine fK 0 ?_;intro gH w M;refine fK 0 ?_;intro lJ w M;obtain ⟨r2,eR,h⟩:=aA h;refine jE 7 (F3 eR ((bE pQ) _ M) pR ((bE oL) _ M) qL ((bE iA) _ M) iB ((bE iC) _ M) iD) ?_;intro w M;refine dS 9 h ?_ ?_
 ·intro hb h;refine fL 4 ?_;intro w M;exact eG 5 (((Mem.aK 47 2 hG (Mem.aK 92 2 hG (Mem.aK 9 1 cS (Mem.aK 3 1 (cI .i64) M))))).pick [3,2,1,0] aD)
 intro hb h;obtain ⟨r3,kU,h⟩:=aA h;refine jE 6 (F6 kU ((bE pQ) _ M) pR ((bE oL) _ M) qL ((bE iA) _ M) iB ((bE iC) _ M) iD) ?_;intro w M;refine dS 9 h ?_ ?_
 ·intro hb h;refine fL 4 ?_;intro w M;exact eG 5 (((Mem.aK 47 2 hG (Mem.aK 92 2 hG (Mem.aK 9 1 cS (Mem.aK 3 1 (cI .i64) M))))).pick [3,2,1,0] aD)
 intro hb h;obtain ⟨r4,qJ,h⟩:=aA h;refine jE 6 (mG qJ ((bE rR) _ M) mJ) ?_;intro w M;refine mF 2 28 h ?_ ?_
 ·intro hb h;refine fL 27 ?_;intro w M;exact eG 5 (((Mem.aK 47 2 hG (Mem.aK 92 2 hG (Mem.aK 9 1 cS (Mem.aK 3 1 (cI .i64) M))))).pick [3,2,1,0] aD)
 intro hb h;refine mF 7 35 h ?_ ?_
 ·intro hb h;refine fL 20 ?_;intro w M;exact eG 5 (((Mem.aK 47 2 hG (Mem.aK 92 2 hG (Mem.aK 9 1 cS (Mem.aK 3 1 (cI .i64) M))))).pick [3,2,1,0] aD)
 intro hb h;refine mF 7 42 h ?_ ?_
 ·intro hb h;refine fL 13 ?_;intro w M;exact eG 5 (((Mem.aK 47 2 hG (Mem.aK 92 2 hG (Mem.aK 9 1 cS (Mem.aK 3 1 (cI .i64) M))))).pick [3,2,1,0] aD)
 intro hb h;obtain ⟨r5,tH,h⟩:=aA h;refine jE 4 (Hf tH ((bE rR) _ M) mJ) ?_;intro w M;refine dS 4 h ?_ ?_
 ·intro hb h;refine fL 3 ?_;intro w M;exact eG 5 (((Mem.aK 47 2 hG (Mem.aK 92 2 hG (Mem.aK 9 1 cS (Mem.aK 3 1 (cI .i64) M))))).pick [3,2,1,0] aD)
 intro hb h;obtain ⟨r6,w6,h⟩:=aA h;refine jE 5 (H2 w6 ((bE pQ) _ M) pR ((bE oL) _ M) qL ((bE iA) _ M) iB ((bE iC) _ M) iD) ?_;intro A c A2 c2 A3 c3 A4 c4 w M;refine fK 0 ?_;intro sL w M;refine fL 0 ?_;intro w M;refine fL 5 ?_;intro w M;refine aG 9 ?_;replace M:=Mem.aK 9 1 cS M;refine sP 0 0 (fun (⟨kJ,i⟩:List (List UInt8) × Int) a w=>∃(A5:Option Addr) (c5:Nat),Kn a 115 [(2,.pointer (some ⟨gW,0,none⟩)),(3,.pointer (some ⟨gH,0,none⟩)),(4,.pointer (some ⟨lJ,0,none⟩)),(8,.pointer (some ⟨sL,0,none⟩)),(9,I i)]∧Mem w0.heap.size w0 w [.row 9 1 A5 kJ.length c5 (cS.all kJ),.blk sL 37 [I r6.1,I r6.2.1,I r6.2.2.1,I r6.2.2.2.1,I r6.2.2.2.2.1,.slice A r6.2.2.2.2.2.1.length c,.slice A5 kJ.length c5,I r6.2.2.2.2.2.2.2.1,I r6.2.2.2.2.2.2.2.2.1,I r6.2.2.2.2.2.2.2.2.2.1,I r6.2.2.2.2.2.2.2.2.2.2.1,I r6.2.2.2.2.2.2.2.2.2.2.2.1,I r6.2.2.2.2.2.2.2.2.2.2.2.2.1,.slice A3 r6.2.2.2.2.2.2.2.2.2.2.2.2.2.1.length c3,I r6.2.2.2.2.2.2.2.2.2.2.2.2.2.2.1,I r6.2.2.2.2.2.2.2.2.2.2.2.2.2.2.2.1,I r6.2.2.2.2.2.2.2.2.2.2.2.2.2.2.2.2.1,I r6.2.2.2.2.2.2.2.2.2.2.2.2.2.2.2.2.2.1,I r6.2.2.2.2.2.2.2.2.2.2.2.2.2.2.2.2.2.2.1,I r6.2.2.2.2.2.2.2.2.2.2.2.2.2.2.2.2.2.2.2.1,I r6.2.2.2.2.2.2.2.2.2.2.2.2.2.2.2.2.2.2.2.2.1,I r6.2.2.2.2.2.2.2.2.2.2.2.2.2.2.2.2.2.2.2.2.2.1,I r6.2.2.2.2.2.2.2.2.2.2.2.2.2.2.2.2.2.2.2.2.2.2.1,I r6.2.2.2.2.2.2.2.2.2.2.2.2.2.2.2.2.2.2.2.2.2.2.2.1,I r6.2.2.2.2.2.2.2.2.2.2.2.2.2.2.2.2.2.2.2.2.2.2.2.2.1,I r6.2.2.2.2.2.2.2.2.2.2.2.2.2.2.2.2.2.2.2.2.2.2.2.2.2.1,.slice A4 r6.2.2.2.2.2.2.2.2.2.2.2.2.2.2.2.2.2.2.2.2.2.2.2.2.2.2.1.length c4,I r6.2.2.2.2.2.2.2.2.2.2.2.2.2.2.2.2.2.2.2.2.2.2.2.2.2.2.2],.row 3 1 A r6.2.2.2.2.2.1.length c ((cI .i64).all r6.2.2.2.2.2.1),.row 92 2 A3 r6.2.2.2.2.2.2.2.2.2.2.2.2.2.1.length c3 (hG.all r6.2.2.2.2.2.2.2.2.2.2.2.2.2.1),.row 47 2 A4 r6.2.2.2.2.2.2.2.2.2.2.2.2.2.2.2.2.2.2.2.2.2.2.2.2.2.2.1.length c4 (hG.all r6.2.2.2.2.2.2.2.2.2.2.2.2.2.2.2.2.2.2.2.2.2.2.2.2.2.2.1),.blk lJ 37 [I 0,I 0,I 0,I 0,I 0,.slice none ([]:List Int).length 0,.slice none (([]:List (List UInt8))).length 0,I 0,I 0,I 0,I 0,I 0,I 0,.slice none (([]:List (Int × Int))).length 0,I 0,I 0,I 0,I 0,I 0,I 0,I 0,I 0,I 0,I 0,I 0,I 0,.slice none (([]:List (Int × Int))).length 0,I 0],.blk gH 31 [I vO,I Ab,.slice pP xU.length kW],.blk gW 37 [I dM,I fN,I iI,I lL,I hZ,.slice zK kI.length zL,.slice tY fI.length tZ,I dO,I cQ,I cR,I cU,I cV,I dP,.slice nL cM.length nM,I cW,I cZ,I dA,I cA,I cB,I cC,I cD,I cE,I cG,I cH,I cJ,I cK,.slice nN cN.length nO,I dB]]) (M.pick [0,1,2,4,5,6,7,8] aD) ?_ ?_
 ·clear M h;rintro ⟨G0,i2⟩ a w ⟨A18,c18,K,M⟩ h;try dsimp only at h
  revert a;refine fL 5 ?_;intro w M;exact eG 4 (M.pick [2,0,3,4] aD)
 clear M h;rintro kk fuel ⟨kJ,i⟩ a w hk1 ⟨A5,c5,K,M⟩ h;unfold jQ at h;revert a;obtain ⟨Yg,Tb,h⟩:=aA h;refine jE 5 (IA Tb ((bE pQ) _ M) pR ((bE oL) _ M) qL ((bE iA) _ M) iB ((bE iC) _ M) iD) ?_;intro w M;refine dS 3 h ?_ ?_
 ·intro hb h;refine aG 5 ?_;intro a K;refine jU (fun w=>Mem _ _ w _) [0,0,0,0,1,0,0,0,0,0,0,0,0,0,0,0,0,0,0,0,1,0,0,0,0,0,0,1,2] 29 [0,1,2,3,4,5,6,7,8,9,10,11,12,13,14,15,16,17,18,19,20,21,22,23,24,25,26,27,28] aE aE aE rfl M.drew ?_;replace M:=M.drew;revert a;refine aG 4 ?_;intro a K;refine jR 5 [4,6,7,8,9,10,11,12,13,14,15,16,17,18,19,20,21,22,23,24,25,26,27,28] aE rfl K (aB rfl) rfl rfl (cP rfl FA K rfl) ?_;clear K;intro a K;refine jR 6 [4,7,8,9,10,11,12,13,14,15,16,17,18,19,20,21,22,23,24,25,26,27,28] aE rfl K (aB rfl) rfl rfl (gY rfl Iq K rfl (sD 6 rfl) rfl) ?_;clear K;intro a K;refine jR 7 [4,8,9,10,11,12,13,14,15,16,17,18,19,20,21,22,23,24,25,26,27,28] aE rfl K (aB rfl) rfl rfl (bX rfl K rfl) ?_;clear K;intro a K;refine jR 8 [4,9,10,11,12,13,14,15,16,17,18,19,20,21,22,23,24,25,26,27,28] aE rfl K (aB rfl) rfl rfl (cP rfl QX K rfl) ?_;clear K;intro a K;refine jR 9 [4,10,11,12,13,14,15,16,17,18,19,20,21,22,23,24,25,26,27,28] aE rfl K (aB rfl) rfl rfl (gY rfl jO K rfl (sD 7 rfl) rfl) ?_;clear K;intro a K;refine jR 10 [4,11,12,13,14,15,16,17,18,19,20,21,22,23,24,25,26,27,28] aE rfl K (aB rfl) rfl rfl (Es rfl K rfl rfl) ?_;clear K;intro a K;refine jR 11 [4,12,13,14,15,16,17,18,19,20,21,22,23,24,25,26,27,28] aE rfl K (aB rfl) rfl rfl (cP rfl QW K rfl) ?_;clear K;intro a K;refine jR 12 [4,13,14,15,16,17,18,19,20,21,22,23,24,25,26,27,28] aE rfl K (aB rfl) rfl rfl (gY rfl jO K rfl (sD 7 rfl) rfl) ?_;clear K;intro a K;refine jR 13 [4,14,15,16,17,18,19,20,21,22,23,24,25,26,27,28] aE rfl K (aB rfl) rfl rfl (Es rfl K rfl rfl) ?_;clear K;intro a K;refine jR 14 [4,15,16,17,18,19,20,21,22,23,24,25,26,27,28] aE rfl K (aB rfl) rfl rfl (bX rfl K rfl) ?_;clear K;intro a K;refine jR 15 [4,16,17,18,19,20,21,22,23,24,25,26,27,28] aE rfl K (aB rfl) rfl rfl (cP rfl QX K rfl) ?_;clear K;intro a K;refine jR 16 [4,17,18,19,20,21,22,23,24,25,26,27,28] aE rfl K (aB rfl) rfl rfl (gY rfl jO K rfl (sD 7 rfl) rfl) ?_;clear K;intro a K;refine jR 17 [4,18,19,20,21,22,23,24,25,26,27,28] aE rfl K (aB rfl) rfl rfl (Es rfl K rfl rfl) ?_;clear K;intro a K;refine jR 18 [4,19,20,21,22,23,24,25,26,27,28] aE rfl K (aB rfl) rfl rfl (Eu rfl aGO K rfl (sD 7 rfl) rfl rfl) ?_;clear K;intro a K;refine jR 19 [4,20,21,22,23,24,25,26,27,28] aE rfl K (aB rfl) rfl rfl (bX rfl K rfl) ?_;clear K;intro a K;refine jR 22 [4,20,21,23,24,25,26,27,28] aE rfl K (aB rfl) rfl rfl (cP rfl QW K rfl) ?_;clear K;intro a K;refine jR 23 [4,20,21,24,25,26,27,28] aE rfl K (aB rfl) rfl rfl (gY rfl jO K rfl (sD 7 rfl) rfl) ?_;clear K;intro a K;refine gS [4,27] aE ⟨?_,?_,trivial⟩
  ·obtain ⟨HW,Ol,h⟩:=aA h;refine kD [20,21,24,25,26,27,28] aE rfl K (aB rfl) rfl rfl (sC PK K (rK Ol ((bE pQ) _ M) pR ((bE oL) _ M) qL ((bE iA) _ M) iB ((bE iC) _ M) iD)) ?_;clear K;rintro _ a w ⟨rfl,Zq⟩ K;replace M:=M.call Zq;clear Zq;refine ⟨fun _=>M.pick [0,1,2,3,4,5,6,7] aD,?_⟩;refine gS [20,27] aE ⟨?_,?_,trivial⟩
   ·obtain ⟨r21,Tc,h⟩:=aA h;refine kD [21,24,25,26,27,28] aE rfl K (aB rfl) rfl rfl (sC PK K (rK Tc ((bE pQ) _ M) pR ((bE oL) _ M) qL ((bE iA) _ M) iB ((bE iC) _ M) iD)) ?_;clear K;rintro _ a w ⟨rfl,Zq⟩ K;replace M:=M.call Zq;clear Zq;refine ⟨fun _=>M.pick [0,1,2,3,4,5,6,7] aD,?_⟩;revert a;obtain ⟨l5,wK,h⟩:=aA h;refine aG 2 ?_;intro a K;refine jR 25 [26,27,28] aE rfl K (aB rfl) rfl rfl (Ap (C:=(cI .i64)) (k:=.i64) (k':=.i64) rfl g9 rfl K rfl mJ rfl rfl wK) ?_;clear K;intro a K;refine jR 26 [27,28] aE rfl K (aB rfl) rfl rfl (bG rfl K (vs:=[(0,I dM),(1,I HW),(2,.slice ((Rv pP kW (IntKind.i64.wrap ((IntKind.i64.wrap (i*hZ))*dM)) 1)) l5.length ((kW-Int.toNat (IntKind.i64.wrap ((IntKind.i64.wrap (i*hZ))*dM)))))]) (cs:=[I dM,I HW,.slice ((Rv pP kW (IntKind.i64.wrap ((IntKind.i64.wrap (i*hZ))*dM)) 1)) l5.length ((kW-Int.toNat (IntKind.i64.wrap ((IntKind.i64.wrap (i*hZ))*dM))))]) rfl aE) ?_;clear K;intro a K;refine gS [27] aE ⟨?_,trivial⟩;refine kD [28] aE rfl K (aB rfl) rfl rfl (eK rfl z31 M) ?_;clear K M;rintro _ a w ⟨O3,rfl,M⟩ K;refine ⟨fun _=>M.pick [1,2,3,4,5,6,7,8] aD,?_⟩;refine gS [28] aE ⟨?_,trivial⟩;refine vL [] aE rfl K (aB rfl) rfl (bF rfl Cw K rfl (ds:=[I dM,I HW,.slice ((Rv pP kW (IntKind.i64.wrap ((IntKind.i64.wrap (i*hZ))*dM)) 1)) l5.length ((kW-Int.toNat (IntKind.i64.wrap ((IntKind.i64.wrap (i*hZ))*dM))))]) rfl rfl 0 M rfl rfl rfl) ?_;clear K M;rintro _ a w M K;refine ⟨fun h=>absurd h aD,?_⟩;revert a;obtain ⟨Wm,Td,h⟩:=aA h;refine jE 8 (yA Td ((fun w M=>(BN wK mJ) w ((bE rR) w M)) _ M) (yC wK mJ)) ?_;intro w M;refine dS 11 h ?_ ?_
    ·intro hb h;obtain ⟨Jz,Om,h⟩:=aA h;refine jE 12 (vI Om ((fun w M=>(BN wK mJ) w ((bE rR) w M)) _ M) (yC wK mJ) ((bE pQ) _ M) pR) ?_;intro w M;refine dS 13 h ?_ ?_
     ·intro hb h;refine fL 4 ?_;intro w M;exact eG 10 (((Mem.aK 47 2 hG (Mem.aK 92 2 hG (Mem.aK 9 1 cS (Mem.aK 3 1 (cI .i64) M))))).pick [3,2,1,0] aD)
     intro hb h;refine aG 6 ?_;intro a K;refine sN K (dK rfl AH z9 K (vs:=[(0,.string (bs Jz.1))]) (cs:=[.string (bs Jz.1)]) rfl aE rfl rfl M) ?_;have M0:=M;clear K M;rintro _ a w ⟨gs7,rfl,M⟩ K;replace M:=M.oI 0 rfl cS ([Jz.1]:List (List UInt8)) (n:=1) rfl rfl rfl;clear M0;obtain ⟨Lo,Te,h⟩:=aA h;refine sN K (jZ (C:=cS) (xs:=kJ) (ys:=([Jz.1]:List (List UInt8))) rfl AH rfl z9 rfl rfl K rfl rfl 2 M rfl ((hF (C:=cS) 0 rfl rfl) _ M) Te) ?_;clear K M;rintro _ a w ⟨A12,c12,rfl,M⟩ K;revert a;refine fL 1 ?_;intro w M;obtain ⟨x8,hx,h⟩:=dG h;refine nS 6 hx ?_;exact mR 2 (Lo,x8) (M.pick [2,3,4,5,6,7,8,9] aD)
    intro hb h;refine aG 6 ?_;intro a K;refine sN K (dK rfl AH z9 K (vs:=[(0,.string (bs Wm))]) (cs:=[.string (bs Wm)]) rfl aE rfl rfl M) ?_;have M0:=M;clear K M;rintro _ a w ⟨gs8,rfl,M⟩ K;replace M:=M.oI 0 rfl cS ([Wm]:List (List UInt8)) (n:=1) rfl rfl rfl;clear M0;obtain ⟨Lp,Tf,h⟩:=aA h;refine sN K (jZ (C:=cS) (xs:=kJ) (ys:=([Wm]:List (List UInt8))) rfl AH rfl z9 rfl rfl K rfl rfl 2 M rfl ((hF (C:=cS) 0 rfl rfl) _ M) Tf) ?_;clear K M;rintro _ a w ⟨Rw,c13,rfl,M⟩ K;revert a;refine fL 1 ?_;intro w M;obtain ⟨x9,hx,h⟩:=dG h;refine nS 6 hx ?_;exact mR 2 (Lp,x9) (M.pick [2,3,4,5,6,7,8,9] aD)
   ·refine kD [20,21,24,25,26,28] aE rfl K (aB rfl) rfl rfl (eK rfl z31 M) ?_;clear K M;rintro _ a w ⟨aHh,rfl,M⟩ K;refine ⟨fun _=>M.pick [1,2,3,4,5,6,7,8] aD,?_⟩;refine gS [20] aE ⟨?_,trivial⟩;obtain ⟨r24,Tg,h⟩:=aA h;refine kD [21,24,25,26,28] aE rfl K (aB rfl) rfl rfl (sC PK K (rK Tg ((bE pQ) _ M) pR ((bE oL) _ M) qL ((bE iA) _ M) iB ((bE iC) _ M) iD)) ?_;clear K;rintro _ a w ⟨rfl,Zq⟩ K;replace M:=M.call Zq;clear Zq;refine ⟨fun _=>M.pick [1,2,3,4,5,6,7,8] aD,?_⟩;revert a;obtain ⟨l6,UN,h⟩:=aA h;refine aG 2 ?_;intro a K;refine jR 25 [26,28] aE rfl K (aB rfl) rfl rfl (Ap (C:=(cI .i64)) (k:=.i64) (k':=.i64) rfl g9 rfl K rfl mJ rfl rfl UN) ?_;clear K;intro a K;refine jR 26 [28] aE rfl K (aB rfl) rfl rfl (bG rfl K (vs:=[(0,I dM),(1,I HW),(2,.slice ((Rv pP kW (IntKind.i64.wrap ((IntKind.i64.wrap (i*hZ))*dM)) 1)) l6.length ((kW-Int.toNat (IntKind.i64.wrap ((IntKind.i64.wrap (i*hZ))*dM)))))]) (cs:=[I dM,I HW,.slice ((Rv pP kW (IntKind.i64.wrap ((IntKind.i64.wrap (i*hZ))*dM)) 1)) l6.length ((kW-Int.toNat (IntKind.i64.wrap ((IntKind.i64.wrap (i*hZ))*dM))))]) rfl aE) ?_;clear K;intro a K;refine gS [28] aE ⟨?_,trivial⟩;refine vL [] aE rfl K (aB rfl) rfl (bF rfl Cw K rfl (ds:=[I dM,I HW,.slice ((Rv pP kW (IntKind.i64.wrap ((IntKind.i64.wrap (i*hZ))*dM)) 1)) l6.length ((kW-Int.toNat (IntKind.i64.wrap ((IntKind.i64.wrap (i*hZ))*dM))))]) rfl rfl 0 M rfl rfl rfl) ?_;clear K M;rintro _ a w M K;refine ⟨fun h=>absurd h aD,?_⟩;revert a;obtain ⟨r25,aAN,h⟩:=aA h;refine jE 8 (yA aAN ((fun w M=>(BN UN mJ) w ((bE rR) w M)) _ M) (yC UN mJ)) ?_;intro w M;refine dS 11 h ?_ ?_
    ·intro hb h;obtain ⟨r26,aAO,h⟩:=aA h;refine jE 12 (vI aAO ((fun w M=>(BN UN mJ) w ((bE rR) w M)) _ M) (yC UN mJ) ((bE pQ) _ M) pR) ?_;intro w M;refine dS 13 h ?_ ?_
     ·intro hb h;refine fL 4 ?_;intro w M;exact eG 10 (((Mem.aK 47 2 hG (Mem.aK 92 2 hG (Mem.aK 9 1 cS (Mem.aK 3 1 (cI .i64) M))))).pick [3,2,1,0] aD)
     intro hb h;refine aG 6 ?_;intro a K;refine sN K (dK rfl AH z9 K (vs:=[(0,.string (bs r26.1))]) (cs:=[.string (bs r26.1)]) rfl aE rfl rfl M) ?_;have M0:=M;clear K M;rintro _ a w ⟨gs9,rfl,M⟩ K;replace M:=M.oI 0 rfl cS ([r26.1]:List (List UInt8)) (n:=1) rfl rfl rfl;clear M0;obtain ⟨UO,Rm,h⟩:=aA h;refine sN K (jZ (C:=cS) (xs:=kJ) (ys:=([r26.1]:List (List UInt8))) rfl AH rfl z9 rfl rfl K rfl rfl 2 M rfl ((hF (C:=cS) 0 rfl rfl) _ M) Rm) ?_;clear K M;rintro _ a w ⟨A14,c14,rfl,M⟩ K;revert a;refine fL 1 ?_;intro w M;obtain ⟨x10,hx,h⟩:=dG h;refine nS 6 hx ?_;exact mR 2 (UO,x10) (M.pick [2,3,4,5,6,7,8,9] aD)
    intro hb h;refine aG 6 ?_;intro a K;refine sN K (dK rfl AH z9 K (vs:=[(0,.string (bs r25))]) (cs:=[.string (bs r25)]) rfl aE rfl rfl M) ?_;have M0:=M;clear K M;rintro _ a w ⟨aJU,rfl,M⟩ K;replace M:=M.oI 0 rfl cS ([r25]:List (List UInt8)) (n:=1) rfl rfl rfl;clear M0;obtain ⟨UP,Rn,h⟩:=aA h;refine sN K (jZ (C:=cS) (xs:=kJ) (ys:=([r25]:List (List UInt8))) rfl AH rfl z9 rfl rfl K rfl rfl 2 M rfl ((hF (C:=cS) 0 rfl rfl) _ M) Rn) ?_;clear K M;rintro _ a w ⟨A15,c15,rfl,M⟩ K;revert a;refine fL 1 ?_;intro w M;obtain ⟨P7,hx,h⟩:=dG h;refine nS 6 hx ?_;exact mR 2 (UP,P7) (M.pick [2,3,4,5,6,7,8,9] aD)
  ·refine kD [4,20,21,24,25,26,28] aE rfl K (aB rfl) rfl rfl (eK rfl z31 M) ?_;clear K M;rintro _ a w ⟨Ds,rfl,M⟩ K;refine ⟨fun _=>M.pick [1,2,3,4,5,6,7,8] aD,?_⟩;refine gS [4] aE ⟨?_,trivial⟩;obtain ⟨r27,aHq,h⟩:=aA h;refine kD [20,21,24,25,26,28] aE rfl K (aB rfl) rfl rfl (sC PK K (rK aHq ((bE pQ) _ M) pR ((bE oL) _ M) qL ((bE iA) _ M) iB ((bE iC) _ M) iD)) ?_;clear K;rintro _ a w ⟨rfl,Zq⟩ K;replace M:=M.call Zq;clear Zq;refine ⟨fun _=>M.pick [1,2,3,4,5,6,7,8] aD,?_⟩;refine gS [20] aE ⟨?_,trivial⟩;obtain ⟨Yi,aAP,h⟩:=aA h;refine kD [21,24,25,26,28] aE rfl K (aB rfl) rfl rfl (sC PK K (rK aAP ((bE pQ) _ M) pR ((bE oL) _ M) qL ((bE iA) _ M) iB ((bE iC) _ M) iD)) ?_;clear K;rintro _ a w ⟨rfl,Zq⟩ K;replace M:=M.call Zq;clear Zq;refine ⟨fun _=>M.pick [1,2,3,4,5,6,7,8] aD,?_⟩;revert a;obtain ⟨l7,w5,h⟩:=aA h;refine aG 2 ?_;intro a K;refine jR 25 [26,28] aE rfl K (aB rfl) rfl rfl (Ap (C:=(cI .i64)) (k:=.i64) (k':=.i64) rfl g9 rfl K rfl mJ rfl rfl w5) ?_;clear K;intro a K;refine jR 26 [28] aE rfl K (aB rfl) rfl rfl (bG rfl K (vs:=[(0,I dM),(1,I r27),(2,.slice ((Rv pP kW (IntKind.i64.wrap ((IntKind.i64.wrap (i*hZ))*dM)) 1)) l7.length ((kW-Int.toNat (IntKind.i64.wrap ((IntKind.i64.wrap (i*hZ))*dM)))))]) (cs:=[I dM,I r27,.slice ((Rv pP kW (IntKind.i64.wrap ((IntKind.i64.wrap (i*hZ))*dM)) 1)) l7.length ((kW-Int.toNat (IntKind.i64.wrap ((IntKind.i64.wrap (i*hZ))*dM))))]) rfl aE) ?_;clear K;intro a K;refine gS [28] aE ⟨?_,trivial⟩;refine vL [] aE rfl K (aB rfl) rfl (bF rfl Cw K rfl (ds:=[I dM,I r27,.slice ((Rv pP kW (IntKind.i64.wrap ((IntKind.i64.wrap (i*hZ))*dM)) 1)) l7.length ((kW-Int.toNat (IntKind.i64.wrap ((IntKind.i64.wrap (i*hZ))*dM))))]) rfl rfl 0 M rfl rfl rfl) ?_;clear K M;rintro _ a w M K;refine ⟨fun h=>absurd h aD,?_⟩;revert a;obtain ⟨r29,aAQ,h⟩:=aA h;refine jE 8 (yA aAQ ((fun w M=>(BN w5 mJ) w ((bE rR) w M)) _ M) (yC w5 mJ)) ?_;intro w M;refine dS 11 h ?_ ?_
   ·intro hb h;obtain ⟨Yj,Th,h⟩:=aA h;refine jE 12 (vI Th ((fun w M=>(BN w5 mJ) w ((bE rR) w M)) _ M) (yC w5 mJ) ((bE pQ) _ M) pR) ?_;intro w M;refine dS 13 h ?_ ?_
    ·intro hb h;refine fL 4 ?_;intro w M;exact eG 10 (((Mem.aK 47 2 hG (Mem.aK 92 2 hG (Mem.aK 9 1 cS (Mem.aK 3 1 (cI .i64) M))))).pick [3,2,1,0] aD)
    intro hb h;refine aG 6 ?_;intro a K;refine sN K (dK rfl AH z9 K (vs:=[(0,.string (bs Yj.1))]) (cs:=[.string (bs Yj.1)]) rfl aE rfl rfl M) ?_;have M0:=M;clear K M;rintro _ a w ⟨aJV,rfl,M⟩ K;replace M:=M.oI 0 rfl cS ([Yj.1]:List (List UInt8)) (n:=1) rfl rfl rfl;clear M0;obtain ⟨UQ,Ro,h⟩:=aA h;refine sN K (jZ (C:=cS) (xs:=kJ) (ys:=([Yj.1]:List (List UInt8))) rfl AH rfl z9 rfl rfl K rfl rfl 2 M rfl ((hF (C:=cS) 0 rfl rfl) _ M) Ro) ?_;clear K M;rintro _ a w ⟨A16,c16,rfl,M⟩ K;revert a;refine fL 1 ?_;intro w M;obtain ⟨OR,hx,h⟩:=dG h;refine nS 6 hx ?_;exact mR 2 (UQ,OR) (M.pick [2,3,4,5,6,7,8,9] aD)
   intro hb h;refine aG 6 ?_;intro a K;refine sN K (dK rfl AH z9 K (vs:=[(0,.string (bs r29))]) (cs:=[.string (bs r29)]) rfl aE rfl rfl M) ?_;have M0:=M;clear K M;rintro _ a w ⟨aJW,rfl,M⟩ K;replace M:=M.oI 0 rfl cS ([r29]:List (List UInt8)) (n:=1) rfl rfl rfl;clear M0;obtain ⟨UR,Rq,h⟩:=aA h;refine sN K (jZ (C:=cS) (xs:=kJ) (ys:=([r29]:List (List UInt8))) rfl AH rfl z9 rfl rfl K rfl rfl 2 M rfl ((hF (C:=cS) 0 rfl rfl) _ M) Rq) ?_;clear K M;rintro _ a w ⟨A17,c17,rfl,M⟩ K;revert a;refine fL 1 ?_;intro w M;obtain ⟨Wf,hx,h⟩:=dG h;refine nS 6 hx ?_;exact mR 2 (UR,Wf) (M.pick [2,3,4,5,6,7,8,9] aD)
 intro hb h;exact pI 3 (hk1 (kJ,i)) (M.pick [0,1,2,3,4,5,6,7] aD)
theorem BC {N:Nat} {a2:List Int} {aFl:Option Addr} {aFm:Nat} {b:List Int} {A_b:Option Addr} {c_b:Nat} {w0:World} {r:Bool} (h:jI N a2 b=some r) (aHr:SL w0 (cI .i64) aFl a2) (aJX:a2.length≤aFm) (R_b:SL w0 (cI .i64) A_b b) (C_b:b.length≤c_b) :
  Calls Tryz.prog 14 #[.slice aFl a2.length aFm,.slice A_b b.length c_b] w0 fun e w'=>∃v,e = .returned v∧v = .bool r∧Mem w0.heap.size w0 w' []:=by
 refine gE Tryz.func14 Tryz.ntmps14 ?_;intro M;unfold jI at h;refine dS 15 h ?_ ?_
 ·intro hb h;exact aJ 7 (M.pick [] aD)
 intro hb h;refine sP 9 0 (fun (i:Int) a w=>Kn a 26 [(0,.slice aFl a2.length aFm),(1,.slice A_b b.length c_b),(5,I i)]∧Mem w0.heap.size w0 w []) M.nQ ?_ ?_
 ·clear M h;rintro i4 a w ⟨K,M⟩ h;try dsimp only at h
  revert a;exact aJ 8 (M.pick [] aD)
 clear M h;rintro kk fuel i a w hk1 ⟨K,M⟩ h;unfold kL at h;revert a;refine dS 9 h ?_ ?_
 ·intro hb h;refine Uv 5 ?_;replace M:=M.drew;obtain ⟨e3,k8,h⟩:=aA h;refine aG 2 ?_;refine eC (fun _ K=>eB rfl g9 K rfl rfl ((bE aHr) _ M) k8) ?_;refine eC (fun _ K=>fM rfl jO K rfl rfl (bE aHr) k8 rfl) ?_;obtain ⟨e4,qR,h⟩:=aA h;refine aG 2 ?_;refine eC (fun _ K=>eB rfl g9 K rfl rfl ((bE R_b) _ M) qR) ?_;refine eC (fun _ K=>fM rfl jO K rfl rfl (bE R_b) qR rfl) ?_;refine dS 3 h ?_ ?_
  ·intro hb h;exact aJ 11 (M.pick [] aD)
  intro hb h;obtain ⟨i3,hx,h⟩:=dG h;refine nS 6 hx ?_;exact mR 2 i3 M.nQ
 intro hb h;exact pI 3 (hk1 i) M.nQ
theorem F7 {N:Nat} {da Fq Fr Fs Ft dc:Int} {dd:List (Int × Int)} {Add:Option Addr} {MI:Nat} {Fu Fv Fw Gd Ge df2 Gf Gg Gh Gi Gj Gk:Int} {dg:List (Int × Int)} {Nd:Option Addr} {Nf:Nat} {dh oa ob0 TG ob2 ob3 oc:Int} {od:List (Int × Int)} {Aod:Option Addr} {cod:Nat} {oe0 oe1 oe2 of0 of1 of2 of3 of4 of5 of6 of7 of8:Int} {og:List (Int × Int)} {Aog:Option Addr} {cog:Nat} {oh:Int} {w0:World} {r:Bool} (h:o9 N da Fq Fr Fs Ft dc dd Fu Fv Fw Gd Ge df2 Gf Gg Gh Gi Gj Gk dg dh oa ob0 TG ob2 ob3 oc od oe0 oe1 oe2 of0 of1 of2 of3 of4 of5 of6 of7 of8 og oh=some r) (Rz:SL w0 hG Add dd) (Tt:dd.length≤MI) (Rc:SL w0 hG Nd dg) (S3:dg.length≤Nf) (Rod:SL w0 hG Aod od) (yB:od.length≤cod) (Rog:SL w0 hG Aog og) (Cog:og.length≤cog) :
  Calls Tryz.prog 63 #[.agg #[I da,I Fq,I Fr,I Fs,I Ft,I dc,.slice Add dd.length MI,I Fu,I Fv,I Fw,I Gd,I Ge,I df2,I Gf,I Gg,I Gh,I Gi,I Gj,I Gk,.slice Nd dg.length Nf,I dh],.agg #[I oa,I ob0,I TG,I ob2,I ob3,I oc,.slice Aod od.length cod,I oe0,I oe1,I oe2,I of0,I of1,I of2,I of3,I of4,I of5,I of6,I of7,I of8,.slice Aog og.length cog,I oh]] w0 fun e w'=>∃v,e = .returned v∧v = .bool r∧Mem w0.heap.size w0 w' []:=by
 refine gE Tryz.func63 Tryz.ntmps63 ?_;intro M;unfold o9 at h;refine fK 2 ?_;intro gW w M;refine fK 0 ?_;intro gH w M;refine mF 12 12 h ?_ ?_
 ·intro hb h;exact aJ 62 (M.pick [] aD)
 intro hb h;refine aG 4 ?_;refine bQ (fun _ K=>IF aJe rfl K rfl rfl (aGW _ _ _ _ _ _ _ _)) M ?_;refine mF 2 19 h ?_ ?_
 ·intro hb h;exact aJ 55 (M.pick [] aD)
 intro hb h;refine mF 7 26 h ?_ ?_
 ·intro hb h;exact aJ 48 (M.pick [] aD)
 intro hb h;refine aG 4 ?_;refine bQ (fun _ K=>IF aJf rfl K rfl rfl (aGX _ _ _ _ _ _)) M ?_;refine mF 2 33 h ?_ ?_
 ·intro hb h;exact aJ 41 (M.pick [] aD)
 intro hb h;refine aG 4 ?_;refine bQ (fun _ K=>IF aJg rfl K rfl rfl (aGY _ _ _ _ _ _ _ _ _ _ _ _ _ _ _ _ _ _)) M ?_;refine mF 2 40 h ?_ ?_
 ·intro hb h;exact aJ 34 (M.pick [] aD)
 intro hb h;refine mF 7 47 h ?_ ?_
 ·intro hb h;exact aJ 27 (M.pick [] aD)
 intro hb h;refine mF 9 56 h ?_ ?_
 ·intro hb h;exact aJ 18 (M.pick [] aD)
 intro hb h;refine dS 10 h ?_ ?_
 ·intro hb h;exact aJ 7 (M.pick [] aD)
 intro hb h;refine sP 9 0 (fun (i:Int) a w=>Kn a 101 [(2,.pointer (some ⟨gW,0,none⟩)),(3,.pointer (some ⟨gH,0,none⟩)),(5,I i)]∧Mem w0.heap.size w0 w [.blk gH 28 [I oa,I ob0,I TG,I ob2,I ob3,I oc,.slice Aod od.length cod,I oe0,I oe1,I oe2,I of0,I of1,I of2,I of3,I of4,I of5,I of6,I of7,I of8,.slice Aog og.length cog,I oh],.blk gW 28 [I da,I Fq,I Fr,I Fs,I Ft,I dc,.slice Add dd.length MI,I Fu,I Fv,I Fw,I Gd,I Ge,I df2,I Gf,I Gg,I Gh,I Gi,I Gj,I Gk,.slice Nd dg.length Nf,I dh]]) (M.pick [0,1] aD) ?_ ?_
 ·clear M h;rintro i2 a w ⟨K,M⟩ h;try dsimp only at h
  revert a;refine sP 9 2 (fun (i3:Int) a w=>Kn a 101 [(2,.pointer (some ⟨gW,0,none⟩)),(3,.pointer (some ⟨gH,0,none⟩)),(6,I i3)]∧Mem w0.heap.size w0 w [.blk gH 28 [I oa,I ob0,I TG,I ob2,I ob3,I oc,.slice Aod od.length cod,I oe0,I oe1,I oe2,I of0,I of1,I of2,I of3,I of4,I of5,I of6,I of7,I of8,.slice Aog og.length cog,I oh],.blk gW 28 [I da,I Fq,I Fr,I Fs,I Ft,I dc,.slice Add dd.length MI,I Fu,I Fv,I Fw,I Gd,I Ge,I df2,I Gf,I Gg,I Gh,I Gi,I Gj,I Gk,.slice Nd dg.length Nf,I dh]]) (M.pick [0,1] aD) ?_ ?_
  ·clear M h;rintro i4 a w ⟨K,M⟩ h;try dsimp only at h
   revert a;exact aJ 8 (M.pick [] aD)
  clear M h;rintro kk fuel i3 a w hk2 ⟨K,M⟩ h;unfold kA at h;revert a;refine dS 10 h ?_ ?_
  ·intro hb h;refine Uv 5 ?_;replace M:=M.drew;obtain ⟨e7,zE,h⟩:=aA h;refine aG 3 ?_;refine eC (fun _ K=>eB rfl Ag K rfl rfl ((bE Rc) _ M) zE) ?_;refine eC (fun _ K=>mL rfl JO K rfl rfl rfl (bE Rc) zE) ?_;obtain ⟨e8,Br,h⟩:=aA h;refine aG 3 ?_;refine eC (fun _ K=>eB rfl Ag K rfl rfl ((bE Rog) _ M) Br) ?_;refine eC (fun _ K=>mL rfl JO K rfl rfl rfl (bE Rog) Br) ?_;refine eC (fun _ K=>IF aI9 rfl K rfl rfl (aGQ _ _ _ _)) ?_;refine dS 2 h ?_ ?_
   ·intro hb h;exact aJ 11 (M.pick [] aD)
   intro hb h;obtain ⟨x5,hx,h⟩:=dG h;refine nS 6 hx ?_;exact mR 2 x5 (M.pick [0,1] aD)
  intro hb h;exact pI 3 (hk2 i3) (M.pick [0,1] aD)
 clear M h;rintro kk fuel i a w hk1 ⟨K,M⟩ h;unfold kC at h;revert a;refine dS 10 h ?_ ?_
 ·intro hb h;refine Uv 5 ?_;replace M:=M.drew;obtain ⟨e3,k8,h⟩:=aA h;refine aG 3 ?_;refine eC (fun _ K=>eB rfl Gv K rfl rfl ((bE Rz) _ M) k8) ?_;refine eC (fun _ K=>mL rfl Un K rfl rfl rfl (bE Rz) k8) ?_;obtain ⟨e4,qR,h⟩:=aA h;refine aG 3 ?_;refine eC (fun _ K=>eB rfl Gv K rfl rfl ((bE Rod) _ M) qR) ?_;refine eC (fun _ K=>mL rfl Un K rfl rfl rfl (bE Rod) qR) ?_;refine eC (fun _ K=>IF aJc rfl K rfl rfl (aGS _ _ _ _)) ?_;refine dS 2 h ?_ ?_
  ·intro hb h;exact aJ 11 (M.pick [] aD)
  intro hb h;obtain ⟨x3,hx,h⟩:=dG h;refine nS 6 hx ?_;exact mR 2 x3 (M.pick [0,1] aD)
 intro hb h;exact pI 3 (hk1 i) (M.pick [0,1] aD)
theorem GG {N:Nat} {dM fN iI lL hZ:Int} {kI:List Int} {zK:Option Addr} {zL:Nat} {fI:List (List UInt8)} {tY:Option Addr} {tZ:Nat} {dO cQ cR cU cV dP:Int} {cM:List (Int × Int)} {nL:Option Addr} {nM:Nat} {cW cZ dA cA cB cC cD cE cG cH cJ cK:Int} {cN:List (Int × Int)} {nN:Option Addr} {nO:Nat} {dB vO Ab J7 Nn Np:Int} {JA:List Int} {On:Option Addr} {Oo:Nat} {yR:List (List UInt8)} {JX:Option Addr} {JY:Nat} {BU Ax Ay Az AA BV:Int} {wU:List (Int × Int)} {Fb:Option Addr} {Fc:Nat} {AB AC AD yS yT yU yV yW yX yY yZ y9:Int} {wV:List (Int × Int)} {Fd:Option Addr} {Fe:Nat} {AE:Int} {w0:World} {r:Bool} (h:mT N dM fN iI lL hZ kI fI dO cQ cR cU cV dP cM cW cZ dA cA cB cC cD cE cG cH cJ cK cN dB vO Ab J7 Nn Np JA yR BU Ax Ay Az AA BV wU AB AC AD yS yT yU yV yW yX yY yZ y9 wV AE=some r) (pQ:SL w0 (cI .i64) zK kI) (pR:kI.length≤zL) (oL:SL w0 cS tY fI) (qL:fI.length≤tZ) (iA:SL w0 hG nL cM) (iB:cM.length≤nM) (iC:SL w0 hG nN cN) (iD:cN.length≤nO) (aAR:SL w0 (cI .i64) On JA) (aAS:JA.length≤Oo) (Oq:SL w0 cS JX yR) (aFo:yR.length≤JY) (Ot:SL w0 hG Fb wU) (Ou:wU.length≤Fc) (Ov:SL w0 hG Fd wV) (Ow:wV.length≤Fe) :
  Calls Tryz.prog 16 #[.agg #[I dM,I fN,I iI,I lL,I hZ,.slice zK kI.length zL,.slice tY fI.length tZ,I dO,I cQ,I cR,I cU,I cV,I dP,.slice nL cM.length nM,I cW,I cZ,I dA,I cA,I cB,I cC,I cD,I cE,I cG,I cH,I cJ,I cK,.slice nN cN.length nO,I dB],.agg #[I vO,I Ab,I J7,I Nn,I Np,.slice On JA.length Oo,.slice JX yR.length JY,I BU,I Ax,I Ay,I Az,I AA,I BV,.slice Fb wU.length Fc,I AB,I AC,I AD,I yS,I yT,I yU,I yV,I yW,I yX,I yY,I yZ,I y9,.slice Fd wV.length Fe,I AE]] w0 fun e w'=>∃v,e = .returned v∧v = .bool r∧Mem w0.heap.size w0 w' []:=by
 refine gE Tryz.func16 Tryz.ntmps16 ?_;intro M;unfold mT at h;refine fK 2 ?_;intro gW w M;refine fK 0 ?_;intro gH w M;refine mF 12 11 h ?_ ?_
 ·intro hb h;exact aJ 62 (M.pick [] aD)
 intro hb h;refine mF 7 18 h ?_ ?_
 ·intro hb h;exact aJ 55 (M.pick [] aD)
 intro hb h;refine mF 7 25 h ?_ ?_
 ·intro hb h;exact aJ 48 (M.pick [] aD)
 intro hb h;refine mF 7 32 h ?_ ?_
 ·intro hb h;exact aJ 41 (M.pick [] aD)
 intro hb h;refine mF 7 39 h ?_ ?_
 ·intro hb h;exact aJ 34 (M.pick [] aD)
 intro hb h;obtain ⟨r2,eR,h⟩:=aA h;refine jE 4 (BC eR ((bE pQ) _ M) pR ((bE aAR) _ M) aAS) ?_;intro w M;refine mF 3 47 h ?_ ?_
 ·intro hb h;exact aJ 26 (M.pick [] aD)
 intro hb h;refine mF 9 56 h ?_ ?_
 ·intro hb h;exact aJ 17 (M.pick [] aD)
 intro hb h;obtain ⟨r3,kU,h⟩:=aA h;refine jE 4 (F7 kU ((bE iA) _ M) iB ((bE iC) _ M) iD ((bE Ot) _ M) Ou ((bE Ov) _ M) Ow) ?_;intro w M;refine dS 4 h ?_ ?_
 ·intro hb h;exact aJ 7 (M.pick [] aD)
 intro hb h;refine sP 9 0 (fun (i:Int) a w=>Kn a 82 [(2,.pointer (some ⟨gW,0,none⟩)),(3,.pointer (some ⟨gH,0,none⟩)),(5,I i)]∧Mem w0.heap.size w0 w [.blk gH 37 [I vO,I Ab,I J7,I Nn,I Np,.slice On JA.length Oo,.slice JX yR.length JY,I BU,I Ax,I Ay,I Az,I AA,I BV,.slice Fb wU.length Fc,I AB,I AC,I AD,I yS,I yT,I yU,I yV,I yW,I yX,I yY,I yZ,I y9,.slice Fd wV.length Fe,I AE],.blk gW 37 [I dM,I fN,I iI,I lL,I hZ,.slice zK kI.length zL,.slice tY fI.length tZ,I dO,I cQ,I cR,I cU,I cV,I dP,.slice nL cM.length nM,I cW,I cZ,I dA,I cA,I cB,I cC,I cD,I cE,I cG,I cH,I cJ,I cK,.slice nN cN.length nO,I dB]]) (M.pick [0,1] aD) ?_ ?_
 ·clear M h;rintro i2 a w ⟨K,M⟩ h;try dsimp only at h
  revert a;exact aJ 8 (M.pick [] aD)
 clear M h;rintro kk fuel i a w hk1 ⟨K,M⟩ h;unfold kN at h;revert a;refine dS 10 h ?_ ?_
 ·intro hb h;refine Uv 5 ?_;replace M:=M.drew;obtain ⟨e3,k8,h⟩:=aA h;refine aG 3 ?_;refine eC (fun _ K=>eB rfl AH K rfl rfl ((bE oL) _ M) k8) ?_;refine eC (fun _ K=>fM rfl sc9 K rfl rfl (bE oL) k8 rfl) ?_;obtain ⟨e4,qR,h⟩:=aA h;refine aG 3 ?_;refine eC (fun _ K=>eB rfl AH K rfl rfl ((bE Oq) _ M) qR) ?_;refine eC (fun _ K=>fM rfl sc9 K rfl rfl (bE Oq) qR rfl) ?_;refine eC (fun _ K=>aCF rfl K rfl rfl) ?_;refine dS 2 h ?_ ?_
  ·intro hb h;exact aJ 11 (M.pick [] aD)
  intro hb h;obtain ⟨x3,hx,h⟩:=dG h;refine nS 6 hx ?_;exact mR 2 x3 (M.pick [0,1] aD)
 intro hb h;exact pI 3 (hk1 i) (M.pick [0,1] aD)
end
end Go.Proofs.YtpmnfhifmmfglacGreatDoor
