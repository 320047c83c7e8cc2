/- Parts of the proof. -/
import Derived.Test.YtpmnfhifmmfgladGreatDoorShotDevelopsK5
import Derived.Test.YtpmnfhifmmfgladGreatDoorShotDevelopsK10
import Derived.Test.YtpmnfhifmmfgladGreatDoorShotDevelopsK11
import Derived.Test.YtpmnfhifmmfgladGreatDoorShotDevelopsK17
set_option linter.unusedVariables false
set_option linter.unusedSimpArgs false
set_option linter.unusedSectionVars false
set_option maxRecDepth 100000
set_option maxHeartbeats 8000000
open Go.IntKind renaming i64→aC,u8→iH
open Nat renaming le_refl→pK
namespace Go.Proofs.YtpmnfhifmmfgladGreatDoor
section
open Go.RowKit
section
variable {IM zI zJ EN CQ wM wN AO iJ cD cE eC O6 Uw:Option Addr} {N IN zK zL EO CR wO wP AP iK cG cH eD RP Ux JD Ca MS:Nat} {TL:List mM} {W w0:World} {lV fY qS dZ eI eJ eK eL eM eN eO dO dP dQ dR dS dU dV dW dX eW eX uG eA n pC wA qQ iY iR iS iT iU iV iW iX gY gZ g7 g8 g9 hF hG hU hZ jJ jK qR v9 cP sV d7 bL bE bF bG bH bI bJ bK aV aW aX aY aZ bA bB bC bD bN bO cU v8:Int} {oD lM dE YV:List Int} {dB dA eU eT aP aO:List aN} {gM jF bX:List aR} {YI:aR}
theorem BY {r:FR} (h:lG N YI n=some (some r)) (M:jL W w0 (.blk Ca 73 [.string (bs YI)]::TL)) :
  lL 26 #[pQ Ca,I n] w0 fun v w'=>v = .string (bs r.1)∧jL W w' (.blk Ca 73 [.string (bs r.2)]::TL):=by
 refine gE Tryz.func26 Tryz.ntmps26 ?_;intro _;unfold lG at h;refine kJ 11 8 h ?_ ?_
 ·intro hb h;refine aH 14 ?_;intro a K;cases h
 intro hb h;refine cB 10 h ?_ ?_
 ·intro hb h;refine aH 3 ?_;intro a K;cases h
 intro hb h;obtain ⟨s,_,h⟩:=aB h;refine aH 21 ?_;obtain ⟨s2,_,h⟩:=aB h;refine cV 3 ?_;intro w M;refine aH 9 ?_;intro a K
 injection h with h
 injection h with h
 subst h;exact D4 K rfl (jD K rfl) ⟨_,rfl,rfl,Mem.uZ (H:=[.blk Ca 73 [.string (bs s2)]]) 1 rfl M [0] aL aL⟩
theorem Cb (h:lG N YI n=some none) (M:jL W w0 (.blk Ca 73 [.string (bs YI)]::TL)) :
  Calls Tryz.prog 26 #[pQ Ca,I n] w0 fun e w'=>∃ch,e = .panicked ch∧ch=[{ v:=.iface 77 (.agg #[]),recovered:=false }]∧jL W w' TL:=by
 refine gE Tryz.func26 Tryz.ntmps26 ?_;intro _;unfold lG at h;refine kJ 11 8 h ?_ ?_
 ·intro hb h;refine aH 14 ?_;intro a K;refine ZO (Pn:=fun ch w'=>ch=[{ v:=.iface 77 (.agg #[]),recovered:=false }]∧jL W w' TL) K (cA rfl) (RL rfl K rfl ⟨rfl,M.tl⟩) ?_;rintro ch w ⟨rfl,M⟩;refine AF ?_;exact FU K.defs ⟨_,rfl,rfl,M⟩
 intro hb h;refine cB 10 h ?_ ?_
 ·intro hb h;refine aH 3 ?_;intro a K;refine ZO (Pn:=fun ch w'=>ch=[{ v:=.iface 77 (.agg #[]),recovered:=false }]∧jL W w' TL) K (cA rfl) (RL rfl K rfl ⟨rfl,M.tl⟩) ?_;rintro ch w ⟨rfl,M⟩;refine AF ?_;exact FU K.defs ⟨_,rfl,rfl,M⟩
 intro hb h;obtain ⟨s,_,h⟩:=aB h;refine aH 21 ?_;obtain ⟨s2,_,h⟩:=aB h;refine cV 3 ?_;intro w M;refine aH 9 ?_;intro a K;cases h
theorem X4 {p:Prop} (h:p:=by exact iG 8 (n3,aC.wrap (i+1)) (Mem.uZ (H:=[.frz gf ((cI .u8).all (rT r2.1)),.blk Ca 73 [.string (bs r2.2)]]) 2 rfl M [0,1] aL aL)):p:=h
theorem X5 {p:Prop} (h:p:=by exact jY 3 (hk1 (n,i)) (Mem.uZ (H:=[.frz gf ((cI .u8).all (rT r2.1)),.blk Ca 73 [.string (bs r2.2)]]) 2 rfl M [0,1] aL aL)):p:=h
theorem bM {r:HD} (h:aS N YI=some (some r)) (M:jL W w0 (.blk Ca 73 [.string (bs YI)]::TL)) :
  lL 27 #[pQ Ca] w0 fun v w'=>v=I r.1∧jL W w' (.blk Ca 73 [.string (bs r.2)]::TL):=by
 refine gE Tryz.func27 Tryz.ntmps27 ?_;intro _;unfold aS at h;obtain ⟨q,h_q,h⟩:=aB h;refine aH 14 ?_;intro a K
 rcases q with _|r2
 ·replace h:=Iu h;cases h
 replace h:=fR h;have cR:=h_q;revert a;refine Za (fun _ K=>u0 K (BY cR M)) ?_;rintro _ w ⟨rfl,M⟩;refine Za (fun _ K=>Up rfl Ok nI SV K rfl M) ?_;rintro _ w ⟨gf,c,rfl,hc,M⟩;refine gLQ 5 0 (fun (⟨n,i⟩:aN) a w=>Kn a 23 [(3,I n),(8,.slice (some ⟨gf,0,none⟩) (rT r2.1).length c),(9,I (((rT r2.1).length:Int))),(10,I i)]∧jL W w (.frz gf ((cI .u8).all (rT r2.1)) :: .blk Ca 73 [.string (bs r2.2)]::TL)) (Mem.uZ (H:=[.frz gf ((cI .u8).all (rT r2.1)),.blk Ca 73 [.string (bs r2.2)]]) 2 rfl M [0,1] aL aL) ?_ ?_
 ·rintro ⟨n4,i2⟩ a w ⟨K,M⟩ h
  revert a;refine aH 11 ?_;intro a K
  injection h with h
  injection h with h
  subst h;exact D4 K rfl (jD K rfl) ⟨_,rfl,rfl,Mem.uZ (H:=[.frz gf ((cI .u8).all (rT r2.1)),.blk Ca 73 [.string (bs r2.2)]]) 2 rfl M [1] aL aL⟩
 rintro kk aA ⟨n,i⟩ a w hk1 ⟨K,M⟩ h;unfold lU at h;revert a;refine cB 6 h ?_ ?_
 ·intro hb h;obtain ⟨e2,Hw,h⟩:=aB h;refine aH 6 ?_;refine jO (fun _ K=>aAm rfl nI K rfl rfl (inF (C:=(cI .u8)) 0 rfl) Hw) M ?_;refine jO (fun _ K=>DA rfl sc5 K rfl rfl (inF (C:=(cI .u8)) 0 rfl) Hw rfl) M ?_;obtain ⟨n3,hx,h⟩:=cL h;refine kN 9 hx ?_;exact X4
 intro hb h;exact X5
theorem aU (h:aS N YI=some none) (M:jL W w0 (.blk Ca 73 [.string (bs YI)]::TL)) :
  Calls Tryz.prog 27 #[pQ Ca] w0 fun e w'=>∃ch,e = .panicked ch∧ch=[{ v:=.iface 77 (.agg #[]),recovered:=false }]∧jL W w' TL:=by
 refine gE Tryz.func27 Tryz.ntmps27 ?_;intro _;unfold aS at h;obtain ⟨q,h_q,h⟩:=aB h;refine aH 14 ?_;intro a K
 rcases q with _|r2
 ·replace h:=Iu h;refine ZO (Pn:=fun ch w'=>ch=[{ v:=.iface 77 (.agg #[]),recovered:=false }]∧jL W w' TL) K (cA rfl) (boQ (B8 26 aQ) K (Calls.mono (Cb h_q M) fun e w' hp=>let ⟨ch,he,hc,M⟩:=hp;⟨ch,he,hc,M⟩)) ?_;rintro ch w ⟨rfl,M⟩;iterate 2 (refine AF ?_)
  exact FU K.defs ⟨_,rfl,rfl,M⟩
 replace h:=fR h;have cR:=h_q;revert a;refine Za (fun _ K=>u0 K (BY cR M)) ?_;rintro _ w ⟨rfl,M⟩;refine Za (fun _ K=>Up rfl Ok nI SV K rfl M) ?_;rintro _ w ⟨gf,c,rfl,hc,M⟩;refine gLQ 5 0 (fun (⟨n,i⟩:aN) a w=>Kn a 23 [(3,I n),(8,.slice (some ⟨gf,0,none⟩) (rT r2.1).length c),(9,I (((rT r2.1).length:Int))),(10,I i)]∧jL W w (.frz gf ((cI .u8).all (rT r2.1)) :: .blk Ca 73 [.string (bs r2.2)]::TL)) (Mem.uZ (H:=[.frz gf ((cI .u8).all (rT r2.1)),.blk Ca 73 [.string (bs r2.2)]]) 2 rfl M [0,1] aL aL) ?_ ?_
 ·rintro ⟨n4,i2⟩ a w ⟨K,M⟩ h
  revert a;refine aH 11 ?_;intro a K;cases h
 rintro kk aA ⟨n,i⟩ a w hk1 ⟨K,M⟩ h;unfold lU at h;revert a;refine cB 6 h ?_ ?_
 ·intro hb h;obtain ⟨e2,Hw,h⟩:=aB h;refine aH 6 ?_;refine jO (fun _ K=>aAm rfl nI K rfl rfl (inF (C:=(cI .u8)) 0 rfl) Hw) M ?_;refine jO (fun _ K=>DA rfl sc5 K rfl rfl (inF (C:=(cI .u8)) 0 rfl) Hw rfl) M ?_;obtain ⟨n3,hx,h⟩:=cL h;refine kN 9 hx ?_;exact X4
 intro hb h;exact X5
theorem Sh {r:Int} (h:Ek N v8 sV cP d7 cU dE bX bN bE bF bG bH bO aO bI bJ bK aV aW aX aY aZ bA bB bC bD aP bL=some r) (At:SL w0 (cI .i64) iJ dE) (Au:dE.length≤iK) (yF:SL w0 cS eC bX) (yG:bX.length≤eD) (rG:SL w0 jG cE aO) (rH:aO.length≤cH) (rI:SL w0 jG cD aP) (rJ:aP.length≤cG) :
  lL 35 #[.agg #[I v8,I sV,I cP,I d7,I cU,.slice iJ dE.length iK,.slice eC bX.length eD,I bN,I bE,I bF,I bG,I bH,I bO,.slice cE aO.length cH,I bI,I bJ,I bK,I aV,I aW,I aX,I aY,I aZ,I bA,I bB,I bC,I bD,.slice cD aP.length cG,I bL]] w0 (zO r w0):=by
 refine gE Tryz.func35 Tryz.ntmps35 ?_;intro M;unfold Ek at h;refine eE 2 ?_;intro Ca w M;refine aH 14 ?_;intro a K;refine w8 (Rel:=fun (i:Bool) a w=>Kn a 49 [(1,pQ Ca),(3,.bool i)]∧jL w0 w [.blk Ca 41 [I v8,I sV,I cP,I d7,I cU,.slice iJ dE.length iK,.slice eC bX.length eD,I bN,I bE,I bF,I bG,I bH,I bO,.slice cE aO.length cH,I bI,I bJ,I bK,I aV,I aW,I aX,I aY,I aZ,I bA,I bB,I bC,I bD,.slice cD aP.length cG,I bL]]) h ?_ ?_
 ·clear K M h;rintro i2 a w ⟨K,M⟩ h;try dsimp only at h
  revert a;refine cB 1 h ?_ ?_
  ·intro hb h;exact bP 8 M.nQ
  intro hb h;refine aH 9 ?_;intro a K;refine w8 (Rel:=fun (D2:Bool) a w=>Kn a 49 [(1,pQ Ca),(30,.bool D2)]∧jL w0 w [.blk Ca 41 [I v8,I sV,I cP,I d7,I cU,.slice iJ dE.length iK,.slice eC bX.length eD,I bN,I bE,I bF,I bG,I bH,I bO,.slice cE aO.length cH,I bI,I bJ,I bK,I aV,I aW,I aX,I aY,I aZ,I bA,I bB,I bC,I bD,.slice cD aP.length cG,I bL]]) h ?_ ?_
  ·clear K M h;rintro i16 a w ⟨K,M⟩ h;try dsimp only at h
   revert a;refine cB 1 h ?_ ?_
   ·intro hb h;exact bP 8 M.nQ
   intro hb h;refine cB 8 h ?_ ?_
   ·intro hb h;obtain ⟨r2,cR,h⟩:=aB h;refine fP 4 (Jt cR) ?_;intro w M;exact bP 6 M.nQ
   intro hb h;refine cB 9 h ?_ ?_
   ·intro hb h;exact bP 8 M.nQ
   intro hb h;exact bP 9 M.nQ
  clear h;rintro Gq hj8 h;unfold EY at h;revert a;refine cB 0 h ?_ ?_
  ·intro hb h;exact jY 1 (hj8 (decide (d7<0))) M.oQ
  intro hb h;exact jY 6 (hj8 (decide (7<d7))) M.oQ
 clear h;rintro Gr hj1 h;unfold EZ at h;revert a;refine cB 0 h ?_ ?_
 ·intro hb h;exact jY 1 (hj1 (decide (v8<1))) M.oQ
 intro hb h;refine aH 8 ?_;intro a K;refine w8 (Rel:=fun (i3:Bool) a w=>Kn a 49 [(1,pQ Ca),(3,.bool i3)]∧jL w0 w [.blk Ca 41 [I v8,I sV,I cP,I d7,I cU,.slice iJ dE.length iK,.slice eC bX.length eD,I bN,I bE,I bF,I bG,I bH,I bO,.slice cE aO.length cH,I bI,I bJ,I bK,I aV,I aW,I aX,I aY,I aZ,I bA,I bB,I bC,I bD,.slice cD aP.length cG,I bL]]) h ?_ ?_
 ·clear K M h;rintro i4 a w ⟨K,M⟩ h;try dsimp only at h
  exact hj1 i4 _ _ ⟨K.pick [1,3],M.pick [0] aL⟩ h
 clear h;rintro Gp hj2 h;unfold EX at h;revert a;refine cB 0 h ?_ ?_
 ·intro hb h;exact jY 1 (hj2 (decide (64<v8))) M.oQ
 intro hb h;refine aH 8 ?_;intro a K;refine w8 (Rel:=fun (i5:Bool) a w=>Kn a 49 [(1,pQ Ca),(3,.bool i5)]∧jL w0 w [.blk Ca 41 [I v8,I sV,I cP,I d7,I cU,.slice iJ dE.length iK,.slice eC bX.length eD,I bN,I bE,I bF,I bG,I bH,I bO,.slice cE aO.length cH,I bI,I bJ,I bK,I aV,I aW,I aX,I aY,I aZ,I bA,I bB,I bC,I bD,.slice cD aP.length cG,I bL]]) h ?_ ?_
 ·clear K M h;rintro i6 a w ⟨K,M⟩ h;try dsimp only at h
  exact hj2 i6 _ _ ⟨K.pick [1,3],M.pick [0] aL⟩ h
 clear h;rintro Gn hj3 h;unfold EW at h;revert a;refine cB 0 h ?_ ?_
 ·intro hb h;exact jY 1 (hj3 (decide (sV<1))) M.oQ
 intro hb h;refine aH 8 ?_;intro a K;refine w8 (Rel:=fun (i7:Bool) a w=>Kn a 49 [(1,pQ Ca),(3,.bool i7)]∧jL w0 w [.blk Ca 41 [I v8,I sV,I cP,I d7,I cU,.slice iJ dE.length iK,.slice eC bX.length eD,I bN,I bE,I bF,I bG,I bH,I bO,.slice cE aO.length cH,I bI,I bJ,I bK,I aV,I aW,I aX,I aY,I aZ,I bA,I bB,I bC,I bD,.slice cD aP.length cG,I bL]]) h ?_ ?_
 ·clear K M h;rintro i8 a w ⟨K,M⟩ h;try dsimp only at h
  exact hj3 i8 _ _ ⟨K.pick [1,3],M.pick [0] aL⟩ h
 clear h;rintro Gm VZ h;unfold EU at h;revert a;refine cB 0 h ?_ ?_
 ·intro hb h;exact jY 1 (VZ (decide (64<sV))) M.oQ
 intro hb h;refine aH 8 ?_;intro a K;refine w8 (Rel:=fun (i9:Bool) a w=>Kn a 49 [(1,pQ Ca),(3,.bool i9)]∧jL w0 w [.blk Ca 41 [I v8,I sV,I cP,I d7,I cU,.slice iJ dE.length iK,.slice eC bX.length eD,I bN,I bE,I bF,I bG,I bH,I bO,.slice cE aO.length cH,I bI,I bJ,I bK,I aV,I aW,I aX,I aY,I aZ,I bA,I bB,I bC,I bD,.slice cD aP.length cG,I bL]]) h ?_ ?_
 ·clear K M h;rintro EV a w ⟨K,M⟩ h;try dsimp only at h
  exact VZ EV _ _ ⟨K.pick [1,3],M.pick [0] aL⟩ h
 clear h;rintro Gl hj5 h;unfold ET at h;revert a;refine cB 0 h ?_ ?_
 ·intro hb h;exact jY 1 (hj5 (decide (cP<1))) M.oQ
 intro hb h;refine aH 8 ?_;intro a K;refine w8 (Rel:=fun (i11:Bool) a w=>Kn a 49 [(1,pQ Ca),(3,.bool i11)]∧jL w0 w [.blk Ca 41 [I v8,I sV,I cP,I d7,I cU,.slice iJ dE.length iK,.slice eC bX.length eD,I bN,I bE,I bF,I bG,I bH,I bO,.slice cE aO.length cH,I bI,I bJ,I bK,I aV,I aW,I aX,I aY,I aZ,I bA,I bB,I bC,I bD,.slice cD aP.length cG,I bL]]) h ?_ ?_
 ·clear K M h;rintro i12 a w ⟨K,M⟩ h;try dsimp only at h
  exact hj5 i12 _ _ ⟨K.pick [1,3],M.pick [0] aL⟩ h
 clear h;rintro Gk Si h;unfold ES at h;revert a;refine cB 0 h ?_ ?_
 ·intro hb h;exact jY 1 (Si (decide (16<cP))) M.oQ
 intro hb h;refine aH 8 ?_;intro a K;refine w8 (Rel:=fun (Na:Bool) a w=>Kn a 49 [(1,pQ Ca),(3,.bool Na)]∧jL w0 w [.blk Ca 41 [I v8,I sV,I cP,I d7,I cU,.slice iJ dE.length iK,.slice eC bX.length eD,I bN,I bE,I bF,I bG,I bH,I bO,.slice cE aO.length cH,I bI,I bJ,I bK,I aV,I aW,I aX,I aY,I aZ,I bA,I bB,I bC,I bD,.slice cD aP.length cG,I bL]]) h ?_ ?_
 ·clear K M h;rintro Yo a w ⟨K,M⟩ h;try dsimp only at h
  exact Si Yo _ _ ⟨K.pick [1,3],M.pick [0] aL⟩ h
 clear h;rintro Gj hj7 h;unfold EQ at h;revert a;refine cB 0 h ?_ ?_
 ·intro hb h;exact jY 1 (hj7 (decide (cU<1))) M.oQ
 intro hb h;exact jY 8 (hj7 (decide (sV<cU))) M.oQ
theorem NZ {r:List aN} (h:DC N v8 sV cP d7 cU dE bX bN bE bF bG bH bO aO bI bJ bK aV aW aX aY aZ bA bB bC bD aP bL=some r) (At:SL w0 (cI .i64) iJ dE) (Au:dE.length≤iK) (yF:SL w0 cS eC bX) (yG:bX.length≤eD) (rG:SL w0 jG cE aO) (rH:aO.length≤cH) (rI:SL w0 jG cD aP) (rJ:aP.length≤cG) :
  lL 36 #[.agg #[I v8,I sV,I cP,I d7,I cU,.slice iJ dE.length iK,.slice eC bX.length eD,I bN,I bE,I bF,I bG,I bH,I bO,.slice cE aO.length cH,I bI,I bJ,I bK,I aV,I aW,I aX,I aY,I aZ,I bA,I bB,I bC,I bD,.slice cD aP.length cG,I bL]] w0 fun v w'=>∃A0 c0,v = .slice A0 r.length c0∧jL w0 w' [.row 90 2 A0 r.length c0 (jG.all r)]:=by
 refine gE Tryz.func36 Tryz.ntmps36 ?_;intro M;unfold DC at h;refine eE 2 ?_;intro Ca w M;refine aH 15 ?_;replace M:=Mem.cC 90 2 jG M;refine pM 0 0 [1] [1] (fun ZL ZM (⟨l3,y2⟩:Km) a w=>∃(A2:Option Addr) (c2:Nat),Kn a 26 ((3,.slice A2 l3.length c2)::(4,I y2)::ZL)∧jL w0 w (.row 90 2 A2 l3.length c2 (jG.all l3)::ZM)) (M.pick [0,1] aL) ?_ ?_
 ·rintro ⟨l6,y5⟩ a w ⟨A5,c5,K,M⟩ h
  revert a;exact bP 9 M.oQ
 rintro kk aA ⟨l3,y2⟩ a w hk1 ⟨A2,c2,K,M⟩ h;unfold xA at h;revert a;refine cB 9 h ?_ ?_
 ·intro hb h;refine aH 14 ?_;refine jO (fun _ K=>bQ rfl K (vs:=[(0,I y2),(1,I (min cU (aC.wrap (sV-y2))))]) (cs:=[I y2,I (min cU (aC.wrap (sV-y2)))]) rfl aQ) M ?_;refine Za (fun _ K=>bS rfl aH6 z90 K (vs:=[(0,.agg #[I y2,I (min cU (aC.wrap (sV-y2)))])]) (cs:=[I y2,I (min cU (aC.wrap (sV-y2)))]) rfl aQ rfl rfl M) ?_;rintro _ w ⟨gs3,rfl,M⟩;replace M:=M.fX 0 rfl jG ([(y2,min cU (aC.wrap (sV-y2)))]:List aN) (n:=1) rfl rfl rfl;obtain ⟨l5,B9,h⟩:=aB h;refine Za (fun _ K=>fQ (C:=jG) (xs:=l3) (ys:=([(y2,min cU (aC.wrap (sV-y2)))]:List aN)) rfl aH6 rfl z90 rfl rfl K rfl rfl 1 M rfl ((p9 (C:=jG) 0 rfl rfl) _ M) B9) ?_;rintro _ w ⟨A4,c4,rfl,M⟩;obtain ⟨y4,hx,h⟩:=cL h;refine kN 9 hx ?_;exact iG 2 (l5,y4) (M.pick [1,2] aL)
 intro hb h;exact jY 3 (hk1 (l3,y2)) (M.pick [0,1] aL)
theorem V0 {s_X s_Y Dt Fc QM UN UO:Int} {M9:List Int} {Uy:Option Addr} {Uz:Nat} {Iv:List aR} {PE:Option Addr} {PG:Nat} {H5 Gu Gv Gw Gx H6:Int} {Cj:List aN} {JX:Option Addr} {JY:Nat} {Gy Gz GA Ft Fu Fv Fw Fx Fy Fz FA FB:Int} {Ck:List aN} {JZ:Option Addr} {J0:Nat} {GB:Int} {BC:Nat} {r:Bool} (h:FW N s_X s_Y Dt Fc QM UN UO M9 Iv H5 Gu Gv Gw Gx H6 Cj Gy Gz GA Ft Fu Fv Fw Fx Fy Fz FA FB Ck GB=some r) (aLZ:SL w0 (cI .i64) Uy M9) (aL0:M9.length≤Uz) (aJr:SL w0 cS PE Iv) (aJs:Iv.length≤PG) (aC2:SL w0 jG JX Cj) (aC3:Cj.length≤JY) (aC4:SL w0 jG JZ Ck) (aC5:Ck.length≤J0) (Aa:kX w0 BC 41 #[I Dt,I Fc,I QM,I UN,I UO,.slice Uy M9.length Uz,.slice PE Iv.length PG,I H5,I Gu,I Gv,I Gw,I Gx,I H6,.slice JX Cj.length JY,I Gy,I Gz,I GA,I Ft,I Fu,I Fv,I Fw,I Fx,I Fy,I Fz,I FA,I FB,.slice JZ Ck.length J0,I GB]) :
  lL 81 #[.agg #[I s_X,I s_Y],pQ BC] w0 (DQ r w0):=by
 refine gE Tryz.func81 Tryz.ntmps81 ?_;intro M;unfold FW at h;refine eE 2 ?_;intro g_s w M;refine kJ 11 9 h ?_ ?_
 ·intro hb h;exact bP 10 M.nQ
 intro hb h;exact bP 10 M.nQ
theorem wV {s:List aN} {r:Int} (h:gJ N s v9 wA pC qQ qR lM jF jJ iR iS iT iU jK eT iV iW iX gY gZ g7 g8 g9 hF hG hU hZ eU iY=some r) (XB:SL w0 jG O6 s) (C_s:s.length≤RP) (PU:SL w0 (cI .i64) CQ lM) (PV:lM.length≤CR) (N0:SL w0 cS AO jF) (N1:jF.length≤AP) (Kb:SL w0 jG wN eT) (Ke:eT.length≤wP) (Kf:SL w0 jG wM eU) (Kg:eU.length≤wO) (V1:kX w0 JD 41 #[I v9,I wA,I pC,I qQ,I qR,.slice CQ lM.length CR,.slice AO jF.length AP,I jJ,I iR,I iS,I iT,I iU,I jK,.slice wN eT.length wP,I iV,I iW,I iX,I gY,I gZ,I g7,I g8,I g9,I hF,I hG,I hU,I hZ,.slice wM eU.length wO,I iY]) :
  lL 123 #[.slice O6 s.length RP,.func (.func 81) #[] #[pQ JD]] w0 (zO r w0):=by
 refine gE Tryz.func123 Tryz.ntmps123 ?_;intro M;unfold gJ at h;refine pM 14 0 [0,1,7] [] (fun ZL ZM (i:Int) a w=>Kn a 19 ((8,I i)::ZL)∧jL w0 w []) M.nQ ?_ ?_
 ·rintro i2 a w ⟨K,M⟩ h
  revert a;exact bP 8 M.nQ
 rintro kk aA i a w hk1 ⟨K,M⟩ h;unfold cQ at h;revert a;refine cB 6 h ?_ ?_
 ·intro hb h;obtain ⟨e2,_,h⟩:=aB h;refine aH 17 ?_;obtain ⟨r3,gP,h⟩:=aB h;refine fP 0 (V0 gP) ?_;intro w M;refine cB 2 h ?_ ?_
  ·intro hb h;exact bP 12 M.nQ
  intro hb h;exact iG 8 (aC.wrap (i+1)) M.nQ
 intro hb h;exact jY 3 (hk1 i) M.nQ
theorem vN {s:List aN} {r:Bool} (h:dN N s v9 wA pC qQ qR lM jF jJ iR iS iT iU jK eT iV iW iX gY gZ g7 g8 g9 hF hG hU hZ eU iY=some r) (XB:SL w0 jG O6 s) (C_s:s.length≤RP) (PU:SL w0 (cI .i64) CQ lM) (PV:lM.length≤CR) (N0:SL w0 cS AO jF) (N1:jF.length≤AP) (Kb:SL w0 jG wN eT) (Ke:eT.length≤wP) (Kf:SL w0 jG wM eU) (Kg:eU.length≤wO) (V1:kX w0 JD 41 #[I v9,I wA,I pC,I qQ,I qR,.slice CQ lM.length CR,.slice AO jF.length AP,I jJ,I iR,I iS,I iT,I iU,I jK,.slice wN eT.length wP,I iV,I iW,I iX,I gY,I gZ,I g7,I g8,I g9,I hF,I hG,I hU,I hZ,.slice wM eU.length wO,I iY]) :
  lL 80 #[.slice O6 s.length RP,.func (.func 81) #[] #[pQ JD]] w0 (DQ r w0):=by
 refine gE Tryz.func80 Tryz.ntmps80 ?_;intro M;unfold dN at h;obtain ⟨r2,cR,h⟩:=aB h;refine fP 9 (wV cR) ?_;intro w M;exact bP 5 M.nQ
theorem Sj {r:Int} (h:Ev N v8 sV cP d7 cU dE bX bN bE bF bG bH bO aO bI bJ bK aV aW aX aY aZ bA bB bC bD aP bL=some r) (At:SL w0 (cI .i64) iJ dE) (Au:dE.length≤iK) (yF:SL w0 cS eC bX) (yG:bX.length≤eD) (rG:SL w0 jG cE aO) (rH:aO.length≤cH) (rI:SL w0 jG cD aP) (rJ:aP.length≤cG) :
  lL 37 #[.agg #[I v8,I sV,I cP,I d7,I cU,.slice iJ dE.length iK,.slice eC bX.length eD,I bN,I bE,I bF,I bG,I bH,I bO,.slice cE aO.length cH,I bI,I bJ,I bK,I aV,I aW,I aX,I aY,I aZ,I bA,I bB,I bC,I bD,.slice cD aP.length cG,I bL]] w0 (zO r w0):=by
 refine gE Tryz.func37 Tryz.ntmps37 ?_;intro M;unfold Ev at h;refine eE 2 ?_;intro Ca w M;obtain ⟨r2,cR,h⟩:=aB h;refine fP 8 (F7 cR) ?_;intro w M;refine cB 9 h ?_ ?_
 ·intro hb h;exact bP 8 M.nQ
 intro hb h;obtain ⟨r3,gP,h⟩:=aB h;refine fP 9 (vN gP) ?_;intro w M;refine cB 2 h ?_ ?_
 ·intro hb h;exact bP 7 M.nQ
 intro hb h;exact bP 8 M.nQ
theorem Ta {s:aR} {rows:Int} {r:gL} (h:Cm N v8 sV cP d7 cU dE bX bN bE bF bG bH bO aO bI bJ bK aV aW aX aY aZ bA bB bC bD aP bL s rows=some r) (At:SL w0 (cI .i64) iJ dE) (Au:dE.length≤iK) (yF:SL w0 cS eC bX) (yG:bX.length≤eD) (rG:SL w0 jG cE aO) (rH:aO.length≤cH) (rI:SL w0 jG cD aP) (rJ:aP.length≤cG) :
  lL 38 #[.agg #[I v8,I sV,I cP,I d7,I cU,.slice iJ dE.length iK,.slice eC bX.length eD,I bN,I bE,I bF,I bG,I bH,I bO,.slice cE aO.length cH,I bI,I bJ,I bK,I aV,I aW,I aX,I aY,I aZ,I bA,I bB,I bC,I bD,.slice cD aP.length cG,I bL],.string (bs s),I rows] w0 (aLD r w0):=by
 refine gE Tryz.func38 Tryz.ntmps38 ?_;intro M;unfold Cm at h;refine eE 2 ?_;intro Ca w M;refine cB 12 h ?_ ?_
 ·intro hb h;obtain ⟨r2,cR,h⟩:=aB h;refine fP 9 (SZ cR) ?_;intro A c w M;exact eB 8 M.oQ
 intro hb h;obtain ⟨r3,gP,h⟩:=aB h;refine fP 12 (XK gP) ?_;intro A2 c2 w M;refine eE 3 ?_;intro Ie w M;refine cV 0 ?_;intro w M;refine aH 5 ?_;intro a K;refine aK (fun w=>Mem _ _ w _) [0,0,0,0,0,1,0,0,0,0,0] aQ aQ M.drew ?_;replace M:=M.drew;revert a;refine kJ 3 37 h ?_ ?_
 ·intro hb h;obtain ⟨r4,lJ,h⟩:=aB h;refine rU 2 (Ed lJ) ?_;intro w M;obtain ⟨_,h0,h⟩:=aB h;have h0:=qB h0;refine cB 7 h ?_ ?_
  ·intro hb h;exact eB 14 (M.pick [1] aL)
  intro hb h;exact eB 12 (M.pick [1] aL)
 intro hb h;refine aH 2 ?_;intro a K;refine tL K (K.no rfl rfl rfl rfl) rfl rfl (M.pick [0,1,2] aL) ?_;clear K;intro a K;revert a;exact eB 20 (M.pick [1] aL)
theorem Sk {p:Prop} (h:p:=by exact eB 5 (((Mem.cC 3 1 (cI .i64) M)).pick [0] aL)):p:=h
theorem PH {r:pW} (h:Dl N eA fY lV qS uG oD gM eW eI eJ eK eL eX dA eM eN eO dO dP dQ dR dS dU dV dW dX dB dZ=some r) (N2:SL w0 (cI .i64) IM oD) (N3:oD.length≤IN) (Sl:SL w0 cS EN gM) (Sm:gM.length≤EO) (Lh:SL w0 jG zJ dA) (Li:dA.length≤zL) (Lj:SL w0 jG zI dB) (Ll:dB.length≤zK) :
  lL 8 #[.agg #[I eA,I fY,I lV,I qS,I uG,.slice IM oD.length IN,.slice EN gM.length EO,I eW,I eI,I eJ,I eK,I eL,I eX,.slice zJ dA.length zL,I eM,I eN,I eO,I dO,I dP,I dQ,I dR,I dS,I dU,I dV,I dW,I dX,.slice zI dB.length zK,I dZ]] w0 (ZT r w0):=by
 refine gE Tryz.func8 Tryz.ntmps8 ?_;intro M;unfold Dl at h;refine eE 2 ?_;intro g_o w M;refine eE 0 ?_;intro jM w M;obtain ⟨r2,cR,h⟩:=aB h;refine fP 7 (Sh cR) ?_;intro w M;refine cB 9 h ?_ ?_
 ·intro hb h;refine cV 4 ?_;intro w M;exact Sk
 intro hb h;obtain ⟨r3,gP,h⟩:=aB h;refine fP 5 (NZ gP) ?_;intro A c w M;refine cB 14 h ?_ ?_
 ·intro hb h;refine cV 3 ?_;intro w M;exact Sk
 intro hb h;obtain ⟨r4,lJ,h⟩:=aB h;refine fP 6 (Sj lJ) ?_;intro w M;refine cB 9 h ?_ ?_
 ·intro hb h;refine cV 4 ?_;intro w M;exact Sk
 intro hb h;refine aH 8 ?_;refine jO (fun _ K=>bQ rfl K (vs:=[(0,I eA),(1,I fY)]) (cs:=[I eA,I fY,.slice none ([]:List Int).length 0]) rfl aQ) M ?_;refine eE 0 ?_;intro dY w M;refine cV 0 ?_;intro w M;refine aH 12 ?_;replace M:=Mem.cC 3 1 (cI .i64) M;refine pM 0 0 [1,2,5,7,39,40] [2,3,4] (fun ZL ZM (⟨tE,i⟩:gL) a w=>∃(A2:Option Addr) (c2:Nat),Kn a 67 ((41,I i)::ZL)∧jL w0 w (.row 3 1 A2 tE.length c2 ((cI .i64).all tE) :: .blk dY 45 [I eA,I fY,.slice A2 tE.length c2]::ZM)) (M.pick [0,1,2,3,4] aL) ?_ ?_
 ·rintro ⟨sZ,i2⟩ a w ⟨A7,c7,K,M⟩ h
  revert a;refine cV 5 ?_;intro w M;exact eB 4 M.oQ
 rintro kk aA ⟨tE,i⟩ a w hk1 ⟨A2,c2,K,M⟩ h;unfold yV at h;revert a;refine cB 6 h ?_ ?_
 ·intro hb h;obtain ⟨e3,_,h⟩:=aB h;refine aH 14 ?_;intro a K;refine aK (fun w=>Mem _ _ w _) [0,0,0,0,0,0,0,1,0,0,0,0,0] aQ aQ M.drew ?_;replace M:=M.drew;revert a;refine aH 4 ?_;obtain ⟨e4,_,h⟩:=aB h;refine aH 3 ?_;obtain ⟨r6,tA,h⟩:=aB h;refine rU 0 (Ta tA) ?_;intro A5 c5 w M;refine cB 14 h ?_ ?_
  ·intro hb h;refine cV 3 ?_;intro w M;exact eB 10 (((Mem.cC 3 1 (cI .i64) M)).pick [0] aL)
  intro hb h;obtain ⟨Ak,Ju,h⟩:=aB h;refine aH 6 ?_;refine Za (fun _ K=>fQ (C:=(cI .i64)) (xs:=tE) (ys:=r6.1) rfl pI rfl z3 rfl rfl K rfl rfl 1 M rfl ((p9 (C:=(cI .i64)) 0 rfl rfl) _ M) Ju) ?_;rintro _ w ⟨A6,c6,rfl,M⟩;refine cV 1 ?_;intro w M;exact iG 8 (Ak,aC.wrap (i+1)) (M.pick [1,2,3,4,5] aL)
 intro hb h;exact jY 3 (hk1 (tE,i)) (M.pick [0,1,2,3,4] aL)
theorem PI {r:Int} (h:Be N v8 sV cP d7 cU dE bX bN bE bF bG bH bO aO bI bJ bK aV aW aX aY aZ bA bB bC bD aP bL=some r) (At:SL w0 (cI .i64) iJ dE) (Au:dE.length≤iK) (yF:SL w0 cS eC bX) (yG:bX.length≤eD) (rG:SL w0 jG cE aO) (rH:aO.length≤cH) (rI:SL w0 jG cD aP) (rJ:aP.length≤cG) :
  lL 34 #[.agg #[I v8,I sV,I cP,I d7,I cU,.slice iJ dE.length iK,.slice eC bX.length eD,I bN,I bE,I bF,I bG,I bH,I bO,.slice cE aO.length cH,I bI,I bJ,I bK,I aV,I aW,I aX,I aY,I aZ,I bA,I bB,I bC,I bD,.slice cD aP.length cG,I bL]] w0 (zO r w0):=by
 refine gE Tryz.func34 Tryz.ntmps34 ?_;intro M;unfold Be at h;refine eE 2 ?_;intro Ca w M;obtain ⟨r2,cR,h⟩:=aB h;refine fP 6 (PH cR) ?_;intro A c w M;refine eE 3 ?_;intro g__ w M;refine cV 0 ?_;intro w M;exact bP 10 M.nQ
theorem aFT {p:Prop} (h:p:=by obtain ⟨rfl,⟨cs,M,hcs⟩,h⟩:=hp;cases h;exact RM K rfl (Ge (B8 25 aQ)) (zH M hcs) (fun w' M=>⟨lF K rfl Xv (M.gQ (i:=0) rfl) rfl,qH K rfl Xt (M.gQ (i:=1) rfl) rfl,⟨_,rfl,_,_,_,_,_,_,_,_,rfl,((Mem.cC 84 2 jG (Mem.cC 83 2 jG (Mem.cC 9 1 cS (Mem.cC 3 1 (cI .i64) M))))).pick [3,2,1,0] aL⟩⟩)):p:=h
theorem X6 {p:Prop} (h:p:=by obtain ⟨rfl,⟨cs,M,hcs⟩,h⟩:=hp;cases h;exact RM KP3 rfl (Ge (B8 25 aQ)) (zH M hcs) (fun w' M=>⟨lF KP3 rfl Xv (M.gQ (i:=0) rfl) rfl,qH KP3 rfl Xt (M.gQ (i:=1) rfl) rfl,⟨_,rfl,_,_,_,_,_,_,_,_,rfl,((Mem.cC 84 2 jG (Mem.cC 83 2 jG (Mem.cC 9 1 cS (Mem.cC 3 1 (cI .i64) M))))).pick [3,2,1,0] aL⟩⟩)):p:=h
theorem X7 {p:Prop} (h:p:=by obtain ⟨rfl,⟨cs,M,hcs⟩,h⟩:=hp;cases h;exact RM KP8 rfl (Ge (B8 25 aQ)) (zH M hcs) (fun w' M=>⟨lF KP8 rfl Xv (M.gQ (i:=0) rfl) rfl,qH KP8 rfl Xt (M.gQ (i:=1) rfl) rfl,⟨_,rfl,_,_,_,_,_,_,_,_,rfl,((Mem.cC 84 2 jG (Mem.cC 83 2 jG (Mem.cC 9 1 cS (Mem.cC 3 1 (cI .i64) M))))).pick [3,2,1,0] aL⟩⟩)):p:=h
theorem Sn {p:Prop} (h:p:=by obtain ⟨rfl,⟨cs,M,hcs⟩,h⟩:=hp;cases h;exact RM aLS rfl (Ge (B8 25 aQ)) (zH M hcs) (fun w' M=>⟨lF aLS rfl Xv (M.gQ (i:=0) rfl) rfl,qH aLS rfl Xt (M.gQ (i:=1) rfl) rfl,⟨_,rfl,_,_,_,_,_,_,_,_,rfl,((Mem.cC 84 2 jG (Mem.cC 83 2 jG (Mem.cC 9 1 cS (Mem.cC 3 1 (cI .i64) M))))).pick [3,2,1,0] aL⟩⟩)):p:=h
theorem So {p:Prop} (h:p:=by obtain ⟨rfl,⟨cs,M,hcs⟩,h⟩:=hp;cases h;exact RM aLT rfl (Ge (B8 25 aQ)) (zH M hcs) (fun w' M=>⟨lF aLT rfl Xv (M.gQ (i:=0) rfl) rfl,qH aLT rfl Xt (M.gQ (i:=1) rfl) rfl,⟨_,rfl,_,_,_,_,_,_,_,_,rfl,((Mem.cC 84 2 jG (Mem.cC 83 2 jG (Mem.cC 9 1 cS (Mem.cC 3 1 (cI .i64) M))))).pick [3,2,1,0] aL⟩⟩)):p:=h
theorem peQ {p:Prop} (h:p:=by (repeat (with_reducible first|refine ID ?_|refine AF ?_|refine FU K.defs (.inr ⟨_,rfl,?_⟩)));first|exact hp|exact aFT|exact X6|exact X7|exact Sn|exact So):p:=h
theorem PW {Y p:Prop} (X:Y) (H:Y→p:=by
 intro X
 replace h:=Iu h
 refine ZO (Pn:=Yu w0 jM dY r) K (cA rfl) (boQ (B8 _ aQ) K (Calls.mono X fun e w' hp=>let ⟨ch,he,hc,M⟩:=hp;⟨ch,he,⟨hc,⟨_,M.toS,rfl⟩,h⟩⟩)) ?_
 rintro ch w hp
 exact peQ):p:=H X
theorem pbQ {Z Y p:Prop} (K0:Z) (X:Y) (H:Z→Y→p:=by
 intro K0 X
 replace h:=Iu h
 exact aPA rfl K0 (cA rfl) (boQ (B8 _ aQ) K (Calls.mono X fun e w' hp=>let ⟨ch,he,hc,M⟩:=hp;⟨ch,he,⟨hc,⟨_,M.toS,rfl⟩,h⟩⟩))):p:=H K0 X
theorem ppQ {p:Prop} (H:p:=by
 refine ZO (Pn:=Yu w0 jM dY r) K (cA rfl) (RL rfl K rfl ⟨rfl,⟨_,M.toS,rfl⟩,h⟩) ?_
 rintro ch w hp
 exact peQ):p:=H
theorem aPZ {P:Program} {S:World→Prop} {a:Act} {o:Oper} {m v:Int} (_:Bx v) (h:Rd P S a o (I m)) (he:m=v:=by rfl):Rd P S a o (I v):=he▸h
theorem aP0 {P:Program} {S:World→Prop} {a:Act} {o:Oper} {b c:Bool} (_:Bx c) (h:Rd P S a o (.bool b)) (he:b=c:=by decide):Rd P S a o (.bool c):=he▸h
theorem KP.ks {l:List (Nat×Value)}:∀{ss:List Nat} {r:List (Nat×Value)},KP l ss r→KS l r
 | _,_,.nil=>.nil
 | _,_,.cons h k=>.cons h k.ks
theorem KP.to {D:List Deferred} {a:Act} {N:Nat} {l:List (Nat×Value)} (ss:List Nat) {r:List (Nat×Value)} (K:Kd D a N l) (h:KP l ss r:=by repeat (first|exact KP.nil|apply KP.cons|exact rfl)):Kd D a N r:=K.sub h.ks.get
theorem ruQ (v:Int) (b:Bool) {q p:Prop} (k:q) (H:Bx v→Bx b→Hq q→p:=by
 intro V B k
 refine cV 1 ?_
 intro w M
 refine aH 4 ?_
 refine jO (fun _ K=>aPZ V (nM rfl K rfl rfl)) M ?_
 refine aH 3 ?_
 intro a K
 replace K:=KP.to [0,1,6,7] K
 replace M:=M.NA
 refine lA ?_
 revert a
 refine aH 2 ?_
 refine jO (fun _ K=>aP0 B (nA rfl K rfl rfl)) M ?_
 revert w
 exact k.out):p:=H ⟨⟩ ⟨⟩ ⟨k⟩
theorem aAb {d:aR} {r:J3} (h:zV N d=some r) :
  lL 7 #[.string (bs d)] w0 (aJe r w0):=by
 refine aFw Tryz.func7 rfl Tryz.ntmps7 rfl ?_;intro a K;have M:=Mem.start w0;replace K:Kn a 95 [(0,_)]:=K;unfold zV at h;revert a;refine eE 2 ?_;intro jM w M;refine eE 0 ?_;intro dY w M;refine aH 5 ?_;intro a K;refine aPB K (cA rfl) rfl rfl rfl ?_;clear K;intro a K;revert a;refine aH 5 ?_;refine jO (fun _ K=>bQ rfl K (vs:=[(0,.string (bs d))]) (cs:=[.string (bs d)]) rfl aQ) M ?_;refine eE 0 ?_;intro fN w M;refine eE 0 ?_;intro vM w M;refine cV 0 ?_;intro w M;refine aH 4 ?_;intro a K;refine rR (D:=[{ target:=.fn (.func 25) #[pQ jM,pQ dY],args:=#[] }]) (N:=95) [(2,pQ jM),(3,pQ dY)] (Yu w0 jM dY r) aQ ?_ (fun w=>Mem _ _ w _) [0,0,1,1,0] 5 [0,1,2,3,4] aQ aQ aQ rfl (M.pick [0,2,3] aL).drew ?_
 ·rintro ch a w hp K;exact peQ
 replace M:=M.drew;revert a;refine aH 2 ?_;refine nK 2 ?_;obtain ⟨q,h_q,h⟩:=aB h;intro a K
 rcases q with _|r2
 ·exact pbQ (K.pick [2,3]) (aU h_q M.rE)
 replace h:=fR h;have cR:=h_q;revert a;refine rD rfl (fun _ K=>u0 K (bM cR M.rE)) ?_;rintro _ w ⟨rfl,M⟩;refine ⟨fun _=>M.toS,?_⟩;refine nK 3 ?_;obtain ⟨q2,aOl,h⟩:=aB h;intro a K
 rcases q2 with _|r3
 ·exact pbQ (K.pick [2,3]) (Cb aOl M)
 replace h:=fR h;revert a;refine rD rfl (fun _ K=>u0 K (BY aOl M)) ?_;rintro _ w ⟨rfl,M⟩;refine ⟨fun _=>M.toS,?_⟩;refine cB 3 h ?_ ?_
 ·intro hb h;refine aH 3 ?_;intro a K;exact ppQ
 intro hb h;refine eE 4 ?_;intro D8 w M;refine aH 3 ?_;intro a K;refine rR (D:=[{ target:=.fn (.func 25) #[pQ jM,pQ dY],args:=#[] }]) (N:=95) [(2,pQ jM),(3,pQ dY)] (Yu w0 jM dY r) aQ ?_ (fun w=>Mem _ _ w _) [0,0,2] 3 [0,1,2] aQ aQ aQ rfl M.drew ?_
 ·rintro ch a w hp K;exact peQ
 replace M:=M.drew;revert a;refine aH 1 ?_;refine Ce 1 rfl (fun _ K=>vR rfl aNA Pr K rfl) ?_;refine nK 2 ?_;intro a K;have KP2:Kd [{ target:=.fn (.func 25) #[pQ jM,pQ dY],args:=#[] }] a 95 [(2,pQ jM),(3,pQ dY)]:=K.pick [2,3];refine VQ (vs:=[pQ fN,.slice (some ⟨D8,0,none⟩) 5 5]) (cap:=[]) [] aQ rfl K (cA rfl) rfl rfl KP2 rfl (B8 28 aQ) rfl rfl ?_;clear K;refine qC Tryz.func28 rfl Tryz.ntmps28 rfl ?_;refine aH 3 ?_;refine jO (fun _ K=>rdv (v:=I 5) rQ (AV rfl RN K rfl)) M ?_;refine aH 4 ?_;intro a K;refine G3 6 ?_;refine lA ?_;revert a;refine aH 2 ?_;refine jO (fun _ K=>It (b':=true) aL (nA rfl K rfl rfl)) M ?_;obtain ⟨q3,aIi,h⟩:=aB h;refine aH 18 ?_;intro a K
 rcases q3 with _|r4
 ·exact PW (aU aIi M.rE)
 replace h:=fR h;revert a;refine Za (fun _ K=>u0 K (bM aIi M.rE)) ?_;rintro _ w ⟨rfl,M⟩;refine cV 1 ?_;intro w M;refine aH 4 ?_;refine jO (fun _ K=>rdv (v:=I 1) rQ (nM rfl K rfl rfl)) M ?_;refine aH 3 ?_;intro a K;replace K:Kn a 16 [(0,pQ fN),(1,.slice (some ⟨D8,0,none⟩) 5 5),(6,I 5),(7,I 1)]:=K.pick [0,1,6,7];replace M:=M.NA;refine lA ?_;revert a;refine aH 2 ?_;refine jO (fun _ K=>It (b':=true) aL (nA rfl K rfl rfl)) M ?_;obtain ⟨q4,aOm,h⟩:=aB h;refine aH 18 ?_;intro a K
 rcases q4 with _|r5
 ·exact PW (aU aOm M)
 replace h:=fR h;revert a;refine Za (fun _ K=>u0 K (bM aOm M)) ?_;rintro _ w ⟨rfl,M⟩;refine cV 1 ?_;intro w M;refine aH 4 ?_;refine jO (fun _ K=>rdv (v:=I 2) rQ (nM rfl K rfl rfl)) M ?_;refine aH 3 ?_;intro a K;replace K:Kn a 16 [(0,pQ fN),(1,.slice (some ⟨D8,0,none⟩) 5 5),(6,I 5),(7,I 2)]:=K.pick [0,1,6,7];replace M:=M.NA;refine lA ?_;revert a;refine aH 2 ?_;refine jO (fun _ K=>It (b':=true) aL (nA rfl K rfl rfl)) M ?_;obtain ⟨q5,aOn,h⟩:=aB h;refine aH 18 ?_;intro a K
 rcases q5 with _|r6
 ·exact PW (aU aOn M)
 replace h:=fR h;revert a;refine Za (fun _ K=>u0 K (bM aOn M)) ?_;rintro _ w ⟨rfl,M⟩;refine cV 1 ?_;intro w M;refine aH 4 ?_;refine jO (fun _ K=>rdv (v:=I 3) rQ (nM rfl K rfl rfl)) M ?_;refine aH 3 ?_;intro a K;replace K:Kn a 16 [(0,pQ fN),(1,.slice (some ⟨D8,0,none⟩) 5 5),(6,I 5),(7,I 3)]:=K.pick [0,1,6,7];replace M:=M.NA;refine lA ?_;revert a;refine aH 2 ?_;refine jO (fun _ K=>It (b':=true) aL (nA rfl K rfl rfl)) M ?_;obtain ⟨q6,aOo,h⟩:=aB h;refine aH 18 ?_;intro a K
 rcases q6 with _|r7
 ·exact PW (aU aOo M)
 replace h:=fR h;revert a;refine Za (fun _ K=>u0 K (bM aOo M)) ?_;rintro _ w ⟨rfl,M⟩;refine cV 1 ?_;intro w M;refine aH 4 ?_;refine jO (fun _ K=>rdv (v:=I 4) rQ (nM rfl K rfl rfl)) M ?_;refine aH 3 ?_;intro a K;replace K:Kn a 16 [(0,pQ fN),(1,.slice (some ⟨D8,0,none⟩) 5 5),(6,I 5),(7,I 4)]:=K.pick [0,1,6,7];replace M:=M.NA;refine lA ?_;revert a;refine aH 2 ?_;refine jO (fun _ K=>It (b':=true) aL (nA rfl K rfl rfl)) M ?_;obtain ⟨q7,aIh,h⟩:=aB h;refine aH 18 ?_;intro a K
 rcases q7 with _|r8
 ·exact PW (aU aIh M)
 replace h:=fR h;revert a;refine Za (fun _ K=>u0 K (bM aIh M)) ?_;rintro _ w ⟨rfl,M⟩;refine cV 1 ?_;intro w M;refine aH 4 ?_;refine jO (fun _ K=>rdv (v:=I 5) rQ (nM rfl K rfl rfl)) M ?_;refine aH 3 ?_;intro a K;replace K:Kn a 16 [(0,pQ fN),(1,.slice (some ⟨D8,0,none⟩) 5 5),(6,I 5),(7,I 5)]:=K.pick [0,1,6,7];replace M:=M.NA;refine lA ?_;revert a;refine aH 2 ?_;refine jO (fun _ K=>It (b':=false) aL (nA rfl K rfl rfl)) M ?_;refine aH 8 ?_;intro a K;refine Ci ?_;refine H1 K rfl (.inl ⟨_,rfl,?_⟩);clear K;intro a K;refine ⟨fun h=>absurd h aL,?_⟩;revert a;refine cV 15 ?_;intro w M;refine cV 1 ?_;intro w M;refine cV 1 ?_;intro w M;refine cV 1 ?_;intro w M;refine cV 1 ?_;intro w M;refine aH 6 ?_;intro a K;have KP3:Kd [{ target:=.fn (.func 25) #[pQ jM,pQ dY],args:=#[] }] a 95 [(2,pQ jM),(3,pQ dY)]:=K.pick [2,3];refine KY (vs:=[pQ fN,.func (.func 30) #[] #[pQ jM,pQ vM]]) (cap:=[]) K (cA rfl) rfl rfl rfl (B8 29 aQ) rfl rfl ?_;clear K;refine qC Tryz.func29 rfl Tryz.ntmps29 rfl ?_;obtain ⟨q8,aOp,h⟩:=aB h;refine aH 3 ?_;intro a K
 rcases q8 with _|r9
 ·exact PW (aU aOp M)
 replace h:=fR h;revert a;refine Za (fun _ K=>u0 K (bM aOp M)) ?_;rintro _ w ⟨rfl,M⟩;refine kJ 9 9 h ?_ ?_
 ·intro hb h;refine aH 14 ?_;intro a K;exact ppQ
 intro hb h;refine cB 10 h ?_ ?_
 ·intro hb h;refine aH 3 ?_;intro a K;exact ppQ
 intro hb h;refine aH 9 ?_;replace M:=Mem.cC 3 1 (cI .i64) M;refine pM 0 0 [1,20] [] (fun ZL ZM (⟨l2,aBG,i⟩:Cf) a w=>∃(A:Option Addr) (c:Nat),Kn a 26 ((21,I i)::ZL)∧jL w0 w [.row 3 1 A l2.length c ((cI .i64).all l2),.blk fN 73 [.string (bs aBG)],.blk D8 78 [I r4.1,I r5.1,I r6.1,I r7.1,I r8.1],.blk vM 71 [pQ fN],.blk dY 26 [I 0],.blk jM 41 [I r4.1,I r5.1,I r6.1,I r7.1,I r8.1,.slice A l2.length c,.slice none (([]:List aR)).length 0,I 0,I 0,I 0,I 0,I 0,I 0,.slice none (([]:List aN)).length 0,I 0,I 0,I 0,I 0,I 0,I 0,I 0,I 0,I 0,I 0,I 0,I 0,.slice none (([]:List aN)).length 0,I 0]]) (M.pick [0,1,2,3,4,5] aL) ?_ ?_
 ·rintro ⟨l3,aMe,i2⟩ a w ⟨A4,c4,K,M⟩ h
  revert a;refine aH 1 ?_;intro a K;refine Ci ?_;refine H1 K rfl (.inl ⟨_,rfl,?_⟩);clear K;intro a K;revert a;refine aH 6 ?_;intro a K;have KP8:Kd [{ target:=.fn (.func 25) #[pQ jM,pQ dY],args:=#[] }] a 95 [(2,pQ jM),(3,pQ dY)]:=K.pick [2,3];refine KY (vs:=[pQ fN,.func (.func 31) #[] #[pQ jM,pQ vM]]) (cap:=[]) K (cA rfl) rfl rfl rfl (B8 29 aQ) rfl rfl ?_;clear K;refine qC Tryz.func29 rfl Tryz.ntmps29 rfl ?_;obtain ⟨q11,aJt,h⟩:=aB h;refine aH 3 ?_;intro a K
  rcases q11 with _|AE
  ·exact PW (aU aJt M.rE)
  replace h:=fR h;revert a;refine Za (fun _ K=>u0 K (bM aJt M.rE)) ?_;rintro _ w ⟨rfl,M⟩;refine kJ 9 9 h ?_ ?_
  ·intro hb h;refine aH 14 ?_;intro a K;exact ppQ
  intro hb h;refine cB 10 h ?_ ?_
  ·intro hb h;refine aH 3 ?_;intro a K;exact ppQ
  intro hb h;refine aH 9 ?_;replace M:=Mem.cC 9 1 cS M;refine pM 0 0 [1,20] [] (fun ZL ZM (⟨l4,aBF,i3⟩:aDj) a w=>∃(A5:Option Addr) (c5:Nat),Kn a 26 ((21,I i3)::ZL)∧jL w0 w [.row 9 1 A5 l4.length c5 (cS.all l4),.blk fN 73 [.string (bs aBF)],.row 3 1 A4 l3.length c4 ((cI .i64).all l3),.blk D8 78 [I r4.1,I r5.1,I r6.1,I r7.1,I r8.1],.blk vM 71 [pQ fN],.blk dY 26 [I 0],.blk jM 41 [I r4.1,I r5.1,I r6.1,I r7.1,I r8.1,.slice A4 l3.length c4,.slice A5 l4.length c5,I 0,I 0,I 0,I 0,I 0,I 0,.slice none (([]:List aN)).length 0,I 0,I 0,I 0,I 0,I 0,I 0,I 0,I 0,I 0,I 0,I 0,I 0,.slice none (([]:List aN)).length 0,I 0]]) (M.pick [0,1,2,3,4,5,6] aL) ?_ ?_
  ·rintro ⟨l5,aMf,i4⟩ a w ⟨A8,c8,K,M⟩ h
   revert a;refine aH 1 ?_;intro a K;refine Ci ?_;refine H1 K rfl (.inl ⟨_,rfl,?_⟩);clear K;intro a K;revert a;refine eE 5 ?_;intro Jv w M;refine cV 0 ?_;intro w M;refine aH 3 ?_;intro a K;refine rR (D:=[{ target:=.fn (.func 25) #[pQ jM,pQ dY],args:=#[] }]) (N:=95) [(2,pQ jM),(3,pQ dY)] (Yu w0 jM dY r) aQ ?_ (fun w=>Mem _ _ w _) [0,0,1,0,0,1] 6 [0,1,2,3,4,5] aQ aQ aQ rfl (M.pick [0,1,3,4,5,6] aL).drew ?_
   ·rintro ch a w hp K;exact peQ
   replace M:=M.drew;revert a;refine aH 2 ?_;refine nK 2 ?_;obtain ⟨q16,aJu,h⟩:=aB h;intro a K
   rcases q16 with _|Lw
   ·exact pbQ (K.pick [2,3]) (aU aJu M.Xy)
   replace h:=fR h;revert a;refine rD rfl (fun _ K=>u0 K (bM aJu M.Xy)) ?_;rintro _ w ⟨rfl,M⟩;refine ⟨fun _=>M.toS,?_⟩;refine aH 2 ?_;refine nK 5 ?_;refine D3 rfl (fun _ K=>jX M K 7) ?_;intro _ w M;refine ⟨fun _=>M.toS,?_⟩;refine aH 3 ?_;intro a K;refine rR (D:=[{ target:=.fn (.func 25) #[pQ jM,pQ dY],args:=#[] }]) (N:=95) [(2,pQ jM),(3,pQ dY)] (Yu w0 jM dY r) aQ ?_ (fun w=>Mem _ _ w _) [0,0,0,0,0,1] 6 [0,1,2,3,4,5] aQ aQ aQ rfl (M.pick [1,2,3,4,5,6] aL).drew ?_
   ·rintro ch a w hp K;exact peQ
   replace M:=M.drew;revert a;refine aH 4 ?_;refine Ce 4 rfl (fun _ K=>vR rfl aFy Pr K rfl) ?_;refine nK 5 ?_;intro a K;have aP1:Kd [{ target:=.fn (.func 25) #[pQ jM,pQ dY],args:=#[] }] a 95 [(2,pQ jM),(3,pQ dY)]:=K.pick [2,3];refine VQ (vs:=[pQ fN,.slice (some ⟨jM,8,none⟩) 4 4]) (cap:=[]) [] aQ rfl K (cA rfl) rfl rfl aP1 rfl (B8 28 aQ) rfl rfl ?_;clear K;refine qC Tryz.func28 rfl Tryz.ntmps28 rfl ?_;refine aH 3 ?_;refine jO (fun _ K=>rdv (v:=I 4) rQ (AV rfl RN K rfl)) M ?_;refine aH 4 ?_;intro a K;refine G3 5 ?_;refine lA ?_;revert a;refine aH 2 ?_;refine jO (fun _ K=>It (b':=true) aL (nA rfl K rfl rfl)) M ?_;obtain ⟨q17,aJv,h⟩:=aB h;refine aH 18 ?_;intro a K
   rcases q17 with _|Mr
   ·exact PW (aU aJv M)
   replace h:=fR h;revert a;refine Za (fun _ K=>u0 K (bM aJv M)) ?_;rintro _ w ⟨rfl,M⟩;refine cV 1 ?_;intro w M;refine aH 4 ?_;refine jO (fun _ K=>rdv (v:=I 1) rQ (nM rfl K rfl rfl)) M ?_;refine aH 3 ?_;intro a K;replace K:Kn a 16 [(0,pQ fN),(1,.slice (some ⟨jM,8,none⟩) 4 4),(6,I 4),(7,I 1)]:=K.pick [0,1,6,7];replace M:=M.NA;refine lA ?_;revert a;refine aH 2 ?_;refine jO (fun _ K=>It (b':=true) aL (nA rfl K rfl rfl)) M ?_;obtain ⟨q18,aJw,h⟩:=aB h;refine aH 18 ?_;intro a K
   rcases q18 with _|TA
   ·exact PW (aU aJw M)
   replace h:=fR h;revert a;refine Za (fun _ K=>u0 K (bM aJw M)) ?_;rintro _ w ⟨rfl,M⟩;refine cV 1 ?_;intro w M;refine aH 4 ?_;refine jO (fun _ K=>rdv (v:=I 2) rQ (nM rfl K rfl rfl)) M ?_;refine aH 3 ?_;intro a K;replace K:Kn a 16 [(0,pQ fN),(1,.slice (some ⟨jM,8,none⟩) 4 4),(6,I 4),(7,I 2)]:=K.pick [0,1,6,7];replace M:=M.NA;refine lA ?_;revert a;refine aH 2 ?_;refine jO (fun _ K=>It (b':=true) aL (nA rfl K rfl rfl)) M ?_;obtain ⟨q19,aJx,h⟩:=aB h;refine aH 18 ?_;intro a K
   rcases q19 with _|Ow
   ·exact PW (aU aJx M)
   replace h:=fR h;revert a;refine Za (fun _ K=>u0 K (bM aJx M)) ?_;rintro _ w ⟨rfl,M⟩;refine cV 1 ?_;intro w M;refine aH 4 ?_;refine jO (fun _ K=>rdv (v:=I 3) rQ (nM rfl K rfl rfl)) M ?_;refine aH 3 ?_;intro a K;replace K:Kn a 16 [(0,pQ fN),(1,.slice (some ⟨jM,8,none⟩) 4 4),(6,I 4),(7,I 3)]:=K.pick [0,1,6,7];replace M:=M.NA;refine lA ?_;revert a;refine aH 2 ?_;refine jO (fun _ K=>It (b':=true) aL (nA rfl K rfl rfl)) M ?_;obtain ⟨q20,aJy,h⟩:=aB h;refine aH 18 ?_;intro a K
   rcases q20 with _|YL
   ·exact PW (aU aJy M)
   replace h:=fR h;revert a;refine Za (fun _ K=>u0 K (bM aJy M)) ?_;rintro _ w ⟨rfl,M⟩;refine cV 1 ?_;intro w M;refine aH 4 ?_;refine jO (fun _ K=>rdv (v:=I 4) rQ (nM rfl K rfl rfl)) M ?_;refine aH 3 ?_;intro a K;replace K:Kn a 16 [(0,pQ fN),(1,.slice (some ⟨jM,8,none⟩) 4 4),(6,I 4),(7,I 4)]:=K.pick [0,1,6,7];replace M:=M.NA;refine lA ?_;revert a;refine aH 2 ?_;refine jO (fun _ K=>It (b':=false) aL (nA rfl K rfl rfl)) M ?_;refine aH 8 ?_;intro a K;refine Ci ?_;refine H1 K rfl (.inl ⟨_,rfl,?_⟩);clear K;intro a K;refine ⟨fun _=>M.pick [1,2,3,4,5,6] aL,?_⟩;revert a;refine aH 3 ?_;intro a K;refine rR (D:=[{ target:=.fn (.func 25) #[pQ jM,pQ dY],args:=#[] }]) (N:=95) [(2,pQ jM),(3,pQ dY)] (Yu w0 jM dY r) aQ ?_ (fun w=>Mem _ _ w _) [0,0,1,0,0,1] 6 [0,1,2,3,4,5] aQ aQ aQ rfl (M.pick [1,2,3,4,5,6] aL).drew ?_
   ·rintro ch a w hp K;exact peQ
   replace M:=M.drew;revert a;refine aH 2 ?_;refine nK 2 ?_;obtain ⟨q21,aJz,h⟩:=aB h;intro a K
   rcases q21 with _|r22
   ·exact pbQ (K.pick [2,3]) (aU aJz M)
   replace h:=fR h;revert a;refine rD rfl (fun _ K=>u0 K (bM aJz M)) ?_;rintro _ w ⟨rfl,M⟩;refine ⟨fun _=>M.toS,?_⟩;refine aH 2 ?_;refine nK 5 ?_;refine D3 rfl (fun _ K=>jX M K 7) ?_;intro _ w M;refine ⟨fun _=>M.toS,?_⟩;refine aH 6 ?_;intro a K;have aLS:Kd [{ target:=.fn (.func 25) #[pQ jM,pQ dY],args:=#[] }] a 95 [(2,pQ jM),(3,pQ dY)]:=K.pick [2,3];refine KY (vs:=[pQ fN,.func (.func 32) #[] #[pQ vM,pQ Jv]]) (cap:=[]) K (cA rfl) rfl rfl rfl (B8 29 aQ) rfl rfl ?_;clear K;refine qC Tryz.func29 rfl Tryz.ntmps29 rfl ?_;obtain ⟨q22,aJA,h⟩:=aB h;refine aH 3 ?_;intro a K
   rcases q22 with _|I6
   ·exact PW (aU aJA M)
   replace h:=fR h;revert a;refine Za (fun _ K=>u0 K (bM aJA M)) ?_;rintro _ w ⟨rfl,M⟩;refine kJ 9 9 h ?_ ?_
   ·intro hb h;refine aH 14 ?_;intro a K;exact ppQ
   intro hb h;refine cB 10 h ?_ ?_
   ·intro hb h;refine aH 3 ?_;intro a K;exact ppQ
   intro hb h;refine aH 9 ?_;replace M:=Mem.cC 83 2 jG M;refine pM 0 0 [1,20] [] (fun ZL ZM (⟨l6,aBE,i5⟩:Tp) a w=>∃(A9:Option Addr) (c9:Nat),Kn a 26 ((21,I i5)::ZL)∧jL w0 w [.row 83 2 A9 l6.length c9 (jG.all l6),.blk fN 73 [.string (bs aBE)],.blk Jv 81 [.pointer (some ⟨jM,7,none⟩)],.row 9 1 A8 l5.length c8 (cS.all l5),.row 3 1 A4 l3.length c4 ((cI .i64).all l3),.blk D8 78 [I r4.1,I r5.1,I r6.1,I r7.1,I r8.1],.blk vM 71 [pQ fN],.blk dY 26 [I 0],.blk jM 41 [I r4.1,I r5.1,I r6.1,I r7.1,I r8.1,.slice A4 l3.length c4,.slice A8 l5.length c8,I Lw.1,I Mr.1,I TA.1,I Ow.1,I YL.1,I r22.1,.slice A9 l6.length c9,I 0,I 0,I 0,I 0,I 0,I 0,I 0,I 0,I 0,I 0,I 0,I 0,.slice none (([]:List aN)).length 0,I 0]]) (M.pick [0,1,2,3,4,5,6,7,8] aL) ?_ ?_
   ·rintro ⟨l7,aMg,i6⟩ a w ⟨A16,c16,K,M⟩ h
    revert a;refine aH 1 ?_;intro a K;refine Ci ?_;refine H1 K rfl (.inl ⟨_,rfl,?_⟩);clear K;intro a K;revert a;refine aH 3 ?_;intro a K;refine rR (D:=[{ target:=.fn (.func 25) #[pQ jM,pQ dY],args:=#[] }]) (N:=95) [(2,pQ jM),(3,pQ dY)] (Yu w0 jM dY r) aQ ?_ (fun w=>Mem _ _ w _) [0,0,0,0,0,1] 6 [0,1,2,3,4,5] aQ aQ aQ rfl (M.pick [0,2,3,4,5,6,7] aL).drew ?_
    ·rintro ch a w hp K;exact peQ
    replace M:=M.drew;revert a;refine aH 4 ?_;refine Ce 4 rfl (fun _ K=>vR rfl ZS Pr K rfl) ?_;refine nK 5 ?_;intro a K;have aP2:Kd [{ target:=.fn (.func 25) #[pQ jM,pQ dY],args:=#[] }] a 95 [(2,pQ jM),(3,pQ dY)]:=K.pick [2,3];refine VQ (vs:=[pQ fN,.slice (some ⟨jM,14,none⟩) 3 3]) (cap:=[]) [] aQ rfl K (cA rfl) rfl rfl aP2 rfl (B8 28 aQ) rfl rfl ?_;clear K;refine qC Tryz.func28 rfl Tryz.ntmps28 rfl ?_;refine aH 3 ?_;refine jO (fun _ K=>rdv (v:=I 3) rQ (AV rfl RN K rfl)) M ?_;refine aH 4 ?_;intro a K;refine G3 4 ?_;refine lA ?_;revert a;refine aH 2 ?_;refine jO (fun _ K=>It (b':=true) aL (nA rfl K rfl rfl)) M ?_;obtain ⟨q29,aJB,h⟩:=aB h;refine aH 18 ?_;intro a K
    rcases q29 with _|L4
    ·exact PW (aU aJB M.rE)
    replace h:=fR h;revert a;refine Za (fun _ K=>u0 K (bM aJB M.rE)) ?_;rintro _ w ⟨rfl,M⟩;refine cV 1 ?_;intro w M;refine aH 4 ?_;refine jO (fun _ K=>rdv (v:=I 1) rQ (nM rfl K rfl rfl)) M ?_;refine aH 3 ?_;intro a K;replace K:Kn a 16 [(0,pQ fN),(1,.slice (some ⟨jM,14,none⟩) 3 3),(6,I 3),(7,I 1)]:=K.pick [0,1,6,7];replace M:=M.NA;refine lA ?_;revert a;refine aH 2 ?_;refine jO (fun _ K=>It (b':=true) aL (nA rfl K rfl rfl)) M ?_;obtain ⟨q30,aJC,h⟩:=aB h;refine aH 18 ?_;intro a K
    rcases q30 with _|r31
    ·exact PW (aU aJC M)
    replace h:=fR h;revert a;refine Za (fun _ K=>u0 K (bM aJC M)) ?_;rintro _ w ⟨rfl,M⟩;refine cV 1 ?_;intro w M;refine aH 4 ?_;refine jO (fun _ K=>rdv (v:=I 2) rQ (nM rfl K rfl rfl)) M ?_;refine aH 3 ?_;intro a K;replace K:Kn a 16 [(0,pQ fN),(1,.slice (some ⟨jM,14,none⟩) 3 3),(6,I 3),(7,I 2)]:=K.pick [0,1,6,7];replace M:=M.NA;refine lA ?_;revert a;refine aH 2 ?_;refine jO (fun _ K=>It (b':=true) aL (nA rfl K rfl rfl)) M ?_;obtain ⟨q31,aJD,h⟩:=aB h;refine aH 18 ?_;intro a K
    rcases q31 with _|r32
    ·exact PW (aU aJD M)
    replace h:=fR h;revert a;refine Za (fun _ K=>u0 K (bM aJD M)) ?_;rintro _ w ⟨rfl,M⟩;refine cV 1 ?_;intro w M;refine aH 4 ?_;refine jO (fun _ K=>rdv (v:=I 3) rQ (nM rfl K rfl rfl)) M ?_;refine aH 3 ?_;intro a K;replace K:Kn a 16 [(0,pQ fN),(1,.slice (some ⟨jM,14,none⟩) 3 3),(6,I 3),(7,I 3)]:=K.pick [0,1,6,7];replace M:=M.NA;refine lA ?_;revert a;refine aH 2 ?_;refine jO (fun _ K=>It (b':=false) aL (nA rfl K rfl rfl)) M ?_;refine aH 8 ?_;intro a K;refine Ci ?_;refine H1 K rfl (.inl ⟨_,rfl,?_⟩);clear K;intro a K;refine ⟨fun _=>M.pick [1,2,3,4,5,6,7] aL,?_⟩;revert a;refine aH 3 ?_;intro a K;refine rR (D:=[{ target:=.fn (.func 25) #[pQ jM,pQ dY],args:=#[] }]) (N:=95) [(2,pQ jM),(3,pQ dY)] (Yu w0 jM dY r) aQ ?_ (fun w=>Mem _ _ w _) [0,0,0,0,0,1] 6 [0,1,2,3,4,5] aQ aQ aQ rfl (M.pick [1,2,3,4,5,6,7] aL).drew ?_
    ·rintro ch a w hp K;exact peQ
    replace M:=M.drew;revert a;refine aH 4 ?_;refine Ce 4 rfl (fun _ K=>vR rfl aFz Pr K rfl) ?_;refine nK 5 ?_;intro a K;have aP3:Kd [{ target:=.fn (.func 25) #[pQ jM,pQ dY],args:=#[] }] a 95 [(2,pQ jM),(3,pQ dY)]:=K.pick [2,3];refine VQ (vs:=[pQ fN,.slice (some ⟨jM,17,none⟩) 9 9]) (cap:=[]) [] aQ rfl K (cA rfl) rfl rfl aP3 rfl (B8 28 aQ) rfl rfl ?_;clear K;refine qC Tryz.func28 rfl Tryz.ntmps28 rfl ?_;refine aH 3 ?_;refine jO (fun _ K=>rdv (v:=I 9) rQ (AV rfl RN K rfl)) M ?_;refine aH 4 ?_;intro a K;refine G3 10 ?_;refine lA ?_;revert a;refine aH 2 ?_;refine jO (fun _ K=>It (b':=true) aL (nA rfl K rfl rfl)) M ?_;obtain ⟨q32,aJE,h⟩:=aB h;refine aH 18 ?_;intro a K
    rcases q32 with _|UR
    ·exact PW (aU aJE M)
    replace h:=fR h;revert a;refine Za (fun _ K=>u0 K (bM aJE M)) ?_;rintro _ w ⟨rfl,M⟩;refine cV 1 ?_;intro w M;refine aH 4 ?_;refine jO (fun _ K=>rdv (v:=I 1) rQ (nM rfl K rfl rfl)) M ?_;refine aH 3 ?_;intro a K;replace K:Kn a 16 [(0,pQ fN),(1,.slice (some ⟨jM,17,none⟩) 9 9),(6,I 9),(7,I 1)]:=K.pick [0,1,6,7];replace M:=M.NA;refine lA ?_;revert a;refine aH 2 ?_;refine jO (fun _ K=>It (b':=true) aL (nA rfl K rfl rfl)) M ?_;obtain ⟨q33,aJF,h⟩:=aB h;refine aH 18 ?_;intro a K
    rcases q33 with _|PK
    ·exact PW (aU aJF M)
    replace h:=fR h;revert a;refine Za (fun _ K=>u0 K (bM aJF M)) ?_;rintro _ w ⟨rfl,M⟩;refine cV 1 ?_;intro w M;refine aH 4 ?_;refine jO (fun _ K=>rdv (v:=I 2) rQ (nM rfl K rfl rfl)) M ?_;refine aH 3 ?_;intro a K;replace K:Kn a 16 [(0,pQ fN),(1,.slice (some ⟨jM,17,none⟩) 9 9),(6,I 9),(7,I 2)]:=K.pick [0,1,6,7];replace M:=M.NA;refine lA ?_;revert a;refine aH 2 ?_;refine jO (fun _ K=>It (b':=true) aL (nA rfl K rfl rfl)) M ?_;obtain ⟨q34,aJG,h⟩:=aB h;refine aH 18 ?_;intro a K
    rcases q34 with _|Pi
    ·exact PW (aU aJG M)
    replace h:=fR h;revert a;refine Za (fun _ K=>u0 K (bM aJG M)) ?_;rintro _ w ⟨rfl,M⟩;refine cV 1 ?_;intro w M;refine aH 4 ?_;refine jO (fun _ K=>rdv (v:=I 3) rQ (nM rfl K rfl rfl)) M ?_;refine aH 3 ?_;intro a K;replace K:Kn a 16 [(0,pQ fN),(1,.slice (some ⟨jM,17,none⟩) 9 9),(6,I 9),(7,I 3)]:=K.pick [0,1,6,7];replace M:=M.NA;refine lA ?_;revert a;refine aH 2 ?_;refine jO (fun _ K=>It (b':=true) aL (nA rfl K rfl rfl)) M ?_;obtain ⟨q35,aJH,h⟩:=aB h;refine aH 18 ?_;intro a K
    rcases q35 with _|I7
    ·exact PW (aU aJH M)
    replace h:=fR h;revert a;refine Za (fun _ K=>u0 K (bM aJH M)) ?_;rintro _ w ⟨rfl,M⟩;refine cV 1 ?_;intro w M;refine aH 4 ?_;refine jO (fun _ K=>rdv (v:=I 4) rQ (nM rfl K rfl rfl)) M ?_;refine aH 3 ?_;intro a K;replace K:Kn a 16 [(0,pQ fN),(1,.slice (some ⟨jM,17,none⟩) 9 9),(6,I 9),(7,I 4)]:=K.pick [0,1,6,7];replace M:=M.NA;refine lA ?_;revert a;refine aH 2 ?_;refine jO (fun _ K=>It (b':=true) aL (nA rfl K rfl rfl)) M ?_;obtain ⟨q36,aJI,h⟩:=aB h;refine aH 18 ?_;intro a K
    rcases q36 with _|r37
    ·exact PW (aU aJI M)
    replace h:=fR h;revert a;refine Za (fun _ K=>u0 K (bM aJI M)) ?_;rintro _ w ⟨rfl,M⟩;refine cV 1 ?_;intro w M;refine aH 4 ?_;refine jO (fun _ K=>rdv (v:=I 5) rQ (nM rfl K rfl rfl)) M ?_;refine aH 3 ?_;intro a K;replace K:Kn a 16 [(0,pQ fN),(1,.slice (some ⟨jM,17,none⟩) 9 9),(6,I 9),(7,I 5)]:=K.pick [0,1,6,7];replace M:=M.NA;refine lA ?_;revert a;refine aH 2 ?_;refine jO (fun _ K=>It (b':=true) aL (nA rfl K rfl rfl)) M ?_;obtain ⟨q37,aJJ,h⟩:=aB h;refine aH 18 ?_;intro a K
    rcases q37 with _|r38
    ·exact PW (aU aJJ M)
    replace h:=fR h;revert a;refine Za (fun _ K=>u0 K (bM aJJ M)) ?_;rintro _ w ⟨rfl,M⟩;refine cV 1 ?_;intro w M;refine aH 4 ?_;refine jO (fun _ K=>rdv (v:=I 6) rQ (nM rfl K rfl rfl)) M ?_;refine aH 3 ?_;intro a K;replace K:Kn a 16 [(0,pQ fN),(1,.slice (some ⟨jM,17,none⟩) 9 9),(6,I 9),(7,I 6)]:=K.pick [0,1,6,7];replace M:=M.NA;refine lA ?_;revert a;refine aH 2 ?_;refine jO (fun _ K=>It (b':=true) aL (nA rfl K rfl rfl)) M ?_;obtain ⟨q38,aJK,h⟩:=aB h;refine aH 18 ?_;intro a K
    rcases q38 with _|Yp
    ·exact PW (aU aJK M)
    replace h:=fR h;revert a;refine Za (fun _ K=>u0 K (bM aJK M)) ?_;rintro _ w ⟨rfl,M⟩;refine cV 1 ?_;intro w M;refine aH 4 ?_;refine jO (fun _ K=>rdv (v:=I 7) rQ (nM rfl K rfl rfl)) M ?_;refine aH 3 ?_;intro a K;replace K:Kn a 16 [(0,pQ fN),(1,.slice (some ⟨jM,17,none⟩) 9 9),(6,I 9),(7,I 7)]:=K.pick [0,1,6,7];replace M:=M.NA;refine lA ?_;revert a;refine aH 2 ?_;refine jO (fun _ K=>It (b':=true) aL (nA rfl K rfl rfl)) M ?_;obtain ⟨q39,aJL,h⟩:=aB h;refine aH 18 ?_;intro a K
    rcases q39 with _|V7
    ·exact PW (aU aJL M)
    replace h:=fR h;revert a;refine Za (fun _ K=>u0 K (bM aJL M)) ?_;rintro _ w ⟨rfl,M⟩;refine cV 1 ?_;intro w M;refine aH 4 ?_;refine jO (fun _ K=>rdv (v:=I 8) rQ (nM rfl K rfl rfl)) M ?_;refine aH 3 ?_;intro a K;replace K:Kn a 16 [(0,pQ fN),(1,.slice (some ⟨jM,17,none⟩) 9 9),(6,I 9),(7,I 8)]:=K.pick [0,1,6,7];replace M:=M.NA;refine lA ?_;revert a;refine aH 2 ?_;refine jO (fun _ K=>It (b':=true) aL (nA rfl K rfl rfl)) M ?_;obtain ⟨q40,aJM,h⟩:=aB h;refine aH 18 ?_;intro a K
    rcases q40 with _|Sx
    ·exact PW (aU aJM M)
    replace h:=fR h;revert a;refine Za (fun _ K=>u0 K (bM aJM M)) ?_;rintro _ w ⟨rfl,M⟩;refine cV 1 ?_;intro w M;refine aH 4 ?_;refine jO (fun _ K=>rdv (v:=I 9) rQ (nM rfl K rfl rfl)) M ?_;refine aH 3 ?_;intro a K;replace K:Kn a 16 [(0,pQ fN),(1,.slice (some ⟨jM,17,none⟩) 9 9),(6,I 9),(7,I 9)]:=K.pick [0,1,6,7];replace M:=M.NA;refine lA ?_;revert a;refine aH 2 ?_;refine jO (fun _ K=>It (b':=false) aL (nA rfl K rfl rfl)) M ?_;refine aH 8 ?_;intro a K;refine Ci ?_;refine H1 K rfl (.inl ⟨_,rfl,?_⟩);clear K;intro a K;refine ⟨fun _=>M.pick [1,2,3,4,5,6,7] aL,?_⟩;revert a;refine aH 6 ?_;intro a K;have aLT:Kd [{ target:=.fn (.func 25) #[pQ jM,pQ dY],args:=#[] }] a 95 [(2,pQ jM),(3,pQ dY)]:=K.pick [2,3];refine KY (vs:=[pQ fN,.func (.func 33) #[] #[pQ vM,pQ Jv]]) (cap:=[]) K (cA rfl) rfl rfl rfl (B8 29 aQ) rfl rfl ?_;clear K;refine qC Tryz.func29 rfl Tryz.ntmps29 rfl ?_;obtain ⟨q41,aJN,h⟩:=aB h;refine aH 3 ?_;intro a K
    rcases q41 with _|V6
    ·exact PW (aU aJN M)
    replace h:=fR h;revert a;refine Za (fun _ K=>u0 K (bM aJN M)) ?_;rintro _ w ⟨rfl,M⟩;refine kJ 9 9 h ?_ ?_
    ·intro hb h;refine aH 14 ?_;intro a K;exact ppQ
    intro hb h;refine cB 10 h ?_ ?_
    ·intro hb h;refine aH 3 ?_;intro a K;exact ppQ
    intro hb h;refine aH 9 ?_;replace M:=Mem.cC 84 2 jG M;refine pM 0 0 [1,20] [] (fun ZL ZM (⟨l8,TB,i7⟩:Tp) a w=>∃(A17:Option Addr) (c17:Nat),Kn a 26 ((21,I i7)::ZL)∧jL w0 w [.row 84 2 A17 l8.length c17 (jG.all l8),.blk fN 73 [.string (bs TB)],.row 83 2 A16 l7.length c16 (jG.all l7),.blk Jv 81 [.pointer (some ⟨jM,7,none⟩)],.row 9 1 A8 l5.length c8 (cS.all l5),.row 3 1 A4 l3.length c4 ((cI .i64).all l3),.blk D8 78 [I r4.1,I r5.1,I r6.1,I r7.1,I r8.1],.blk vM 71 [pQ fN],.blk dY 26 [I 0],.blk jM 41 [I r4.1,I r5.1,I r6.1,I r7.1,I r8.1,.slice A4 l3.length c4,.slice A8 l5.length c8,I Lw.1,I Mr.1,I TA.1,I Ow.1,I YL.1,I r22.1,.slice A16 l7.length c16,I L4.1,I r31.1,I r32.1,I UR.1,I PK.1,I Pi.1,I I7.1,I r37.1,I r38.1,I Yp.1,I V7.1,I Sx.1,.slice A17 l8.length c17,I 0]]) (M.pick [0,1,2,3,4,5,6,7,8,9] aL) ?_ ?_
    ·rintro ⟨l9,aIP,i8⟩ a w ⟨A24,c24,K,M⟩ h
     revert a;refine aH 1 ?_;intro a K;refine Ci ?_;refine H1 K rfl (.inl ⟨_,rfl,?_⟩);clear K;intro a K;revert a;refine aH 3 ?_;intro a K;refine rR (D:=[{ target:=.fn (.func 25) #[pQ jM,pQ dY],args:=#[] }]) (N:=95) [(2,pQ jM),(3,pQ dY)] (Yu w0 jM dY r) aQ ?_ (fun w=>Mem _ _ w _) [0,0,1,0,0,1] 6 [0,1,2,3,4,5] aQ aQ aQ rfl (M.pick [0,2,3,4,5,6,7,8] aL).drew ?_
     ·rintro ch a w hp K;exact peQ
     replace M:=M.drew;revert a;refine aH 2 ?_;refine nK 2 ?_;obtain ⟨q48,aJO,h⟩:=aB h;intro a K
     rcases q48 with _|r49
     ·exact pbQ (K.pick [2,3]) (aU aJO M.rE)
     replace h:=fR h;revert a;refine rD rfl (fun _ K=>u0 K (bM aJO M.rE)) ?_;rintro _ w ⟨rfl,M⟩;refine ⟨fun _=>M.toS,?_⟩;refine aH 2 ?_;refine nK 5 ?_;refine D3 rfl (fun _ K=>jX M K 9) ?_;intro _ w M;refine ⟨fun _=>M.toS,?_⟩;refine kJ 11 87 h ?_ ?_
     ·intro hb h;refine aH 10 ?_;intro a K;exact ppQ
     intro hb h;obtain ⟨r50,aOq,h⟩:=aB h;refine fP 1 (PI aOq) ?_;intro w M;refine cB 4 h ?_ ?_
     ·intro hb h;refine aH 3 ?_;intro a K;exact ppQ
     intro hb h;refine cV 5 ?_;intro w M;refine cV 0 ?_;intro w M;refine aH 3 ?_;intro a K;cases h;exact aNt K rfl (lF K rfl Xv (M.gQ (i:=9) rfl) rfl) (qH K rfl Xt (M.gQ (i:=8) rfl) rfl) (Ge (B8 25 aQ)) (PT _) ⟨_,rfl,_,_,_,_,_,_,_,_,rfl,M.pick [5,4,2,1] aL⟩
    rintro kk aA ⟨l8,TB,i7⟩ a w hk4 ⟨A17,c17,K,M⟩ h;unfold xV at h;revert a;refine cB 6 h ?_ ?_
    ·intro hb h;refine aH 6 ?_;intro a K;have aOr:Kn a 26 []:=K.pick [];refine KY (vs:=[]) (cap:=[pQ vM,pQ Jv]) K (cA rfl) rfl rfl rfl (B8 33 aQ) rfl rfl ?_;clear K;refine qC Tryz.func33 rfl Tryz.ntmps33 rfl ?_;obtain ⟨q45,aJP,h⟩:=aB h;refine aH 3 ?_;intro a K
     rcases q45 with _|UP
     ·replace h:=Iu h;refine ZO (Pn:=Yu w0 jM dY r) K (cA rfl) (boQ (B8 27 aQ) K (Calls.mono (aU aJP M.rE) fun e w' hp=>let ⟨ch,he,hc,M⟩:=hp;⟨ch,he,⟨hc,⟨_,M.pick [8,7] aL,rfl⟩,h⟩⟩)) ?_;rintro ch w hp;refine AF ?_;refine FU K.defs (.inr ⟨_,rfl,?_⟩);refine ID ?_;iterate 2 (refine AF ?_)
      refine ID ?_;refine FU aOr.defs (.inr ⟨_,rfl,?_⟩);refine AF ?_;exact So
     replace h:=fR h;revert a;refine Za (fun _ K=>u0 K (bM aJP M.rE)) ?_;rintro _ w ⟨rfl,M⟩;refine aH 3 ?_;intro a K;refine rR (D:=[]) (N:=18) [] (Yu w0 jM dY r) aQ ?_ (fun w=>Mem _ _ w _) [0,0,0,0,1,0,0,1,0,1,1,0,0,1] 14 [0,1,2,3,4,5,6,7,8,9,10,11,12,13] aQ aQ aQ rfl (M.pick [2,3,4,5,6,7,8] aL).drew ?_
     ·rintro ch a w hp K;refine FU K.defs (.inr ⟨_,rfl,?_⟩);refine ID ?_;iterate 2 (refine AF ?_)
      refine ID ?_;refine FU aOr.defs (.inr ⟨_,rfl,?_⟩);refine AF ?_;exact So
     replace M:=M.drew;revert a;refine aH 4 ?_;refine Ce 5 rfl (fun _ K=>tO rfl K rfl) ?_;refine Ce 6 rfl (fun _ K=>vI rfl aLv K rfl (Aw 5 rfl) rfl) ?_;refine MX 4 7 ?_ ?_
     ·refine Uq rfl M (fun _ K=>vI rfl Xu K rfl (Aw 9 rfl) rfl) ?_;refine ⟨fun _=>M.toS,?_⟩;refine nK 7 ?_;obtain ⟨q46,aJQ,h⟩:=aB h;intro a K
      rcases q46 with _|r47
      ·exact pbQ (K.pick []) (aU aJQ M)
      replace h:=fR h;revert a;refine rD rfl (fun _ K=>u0 K (bM aJQ M)) ?_;rintro _ w ⟨rfl,M⟩;refine ⟨fun _=>M.toS,?_⟩;refine Ce 8 rfl (fun _ K=>bQ rfl K (vs:=[(0,I UP.1),(1,I r47.1)]) (cs:=[I UP.1,I r47.1]) rfl aQ) ?_;refine nK 9 ?_;refine rD rfl (fun _ K=>bS rfl IE z84 K (vs:=[(0,.agg #[I UP.1,I r47.1])]) (cs:=[I UP.1,I r47.1]) rfl aQ rfl rfl M) ?_;rintro _ w ⟨aQC,rfl,M⟩;replace M:=M.fX 0 rfl jG ([(UP.1,r47.1)]:List aN) (n:=1) rfl rfl rfl;refine ⟨fun _=>M.toS,?_⟩;refine nK 10 ?_;obtain ⟨H7,PX,h⟩:=aB h;refine rD rfl (fun _ K=>fQ (C:=jG) (xs:=l8) (ys:=([(UP.1,r47.1)]:List aN)) rfl IE rfl z84 rfl rfl K rfl rfl 2 M rfl ((p9 (C:=jG) 0 rfl rfl) _ M) PX) ?_;rintro _ w ⟨A21,c21,rfl,M⟩;refine ⟨fun _=>M.toS,?_⟩;refine aH 2 ?_;refine nK 13 ?_;refine D3 rfl (fun _ K=>jX M K 10) ?_;intro _ w M;refine ⟨fun _=>M.toS,?_⟩;refine aH 1 ?_;intro a K;refine Ci ?_;refine H1 K rfl (.inl ⟨_,rfl,?_⟩);clear K;intro a K;revert a;exact iG 8 (H7,r47.2,aC.wrap (i7+1)) (M.pick [2,1,3,4,5,6,7,8,9,10] aL)
     ·obtain ⟨q47,aJR,h⟩:=aB h;intro a K
      rcases q47 with _|r48
      ·exact pbQ (K.pick []) (aU aJR M)
      replace h:=fR h;revert a;refine rD rfl (fun _ K=>u0 K (bM aJR M)) ?_;rintro _ w ⟨rfl,M⟩;refine ⟨fun _=>M.toS,?_⟩;refine Ce 8 rfl (fun _ K=>bQ rfl K (vs:=[(0,I UP.1),(1,I r48.1)]) (cs:=[I UP.1,I r48.1]) rfl aQ) ?_;refine MX 4 9 ?_ ?_
      ·refine Uq rfl M (fun _ K=>vI rfl Xu K rfl (Aw 9 rfl) rfl) ?_;refine ⟨fun _=>M.toS,?_⟩;refine nK 9 ?_;refine rD rfl (fun _ K=>bS rfl IE z84 K (vs:=[(0,.agg #[I UP.1,I r48.1])]) (cs:=[I UP.1,I r48.1]) rfl aQ rfl rfl M) ?_;rintro _ w ⟨aQD,rfl,M⟩;replace M:=M.fX 0 rfl jG ([(UP.1,r48.1)]:List aN) (n:=1) rfl rfl rfl;refine ⟨fun _=>M.toS,?_⟩;refine nK 10 ?_;obtain ⟨Tb,PY,h⟩:=aB h;refine rD rfl (fun _ K=>fQ (C:=jG) (xs:=l8) (ys:=([(UP.1,r48.1)]:List aN)) rfl IE rfl z84 rfl rfl K rfl rfl 2 M rfl ((p9 (C:=jG) 0 rfl rfl) _ M) PY) ?_;rintro _ w ⟨A22,c22,rfl,M⟩;refine ⟨fun _=>M.toS,?_⟩;refine aH 2 ?_;refine nK 13 ?_;refine D3 rfl (fun _ K=>jX M K 10) ?_;intro _ w M;refine ⟨fun _=>M.toS,?_⟩;refine aH 1 ?_;intro a K;refine Ci ?_;refine H1 K rfl (.inl ⟨_,rfl,?_⟩);clear K;intro a K;revert a;exact iG 8 (Tb,r48.2,aC.wrap (i7+1)) (M.pick [2,1,3,4,5,6,7,8,9,10] aL)
      ·refine rD rfl (fun _ K=>bS rfl IE z84 K (vs:=[(0,.agg #[I UP.1,I r48.1])]) (cs:=[I UP.1,I r48.1]) rfl aQ rfl rfl M) ?_;rintro _ w ⟨aQE,rfl,M⟩;replace M:=M.fX 0 rfl jG ([(UP.1,r48.1)]:List aN) (n:=1) rfl rfl rfl;refine ⟨fun _=>M.toS,?_⟩;refine nK 4 ?_;refine Uq rfl M (fun _ K=>vI rfl Xu K rfl (Aw 10 rfl) rfl) ?_;refine ⟨fun _=>M.toS,?_⟩;refine nK 10 ?_;obtain ⟨Cp,FL,h⟩:=aB h;refine rD rfl (fun _ K=>fQ (C:=jG) (xs:=l8) (ys:=([(UP.1,r48.1)]:List aN)) rfl IE rfl z84 rfl rfl K rfl rfl 2 M rfl ((p9 (C:=jG) 0 rfl rfl) _ M) FL) ?_;rintro _ w ⟨A23,c23,rfl,M⟩;refine ⟨fun _=>M.toS,?_⟩;refine aH 2 ?_;refine nK 13 ?_;refine D3 rfl (fun _ K=>jX M K 10) ?_;intro _ w M;refine ⟨fun _=>M.toS,?_⟩;refine aH 1 ?_;intro a K;refine Ci ?_;refine H1 K rfl (.inl ⟨_,rfl,?_⟩);clear K;intro a K;revert a;exact iG 8 (Cp,r48.2,aC.wrap (i7+1)) (M.pick [2,1,3,4,5,6,7,8,9,10] aL)
    intro hb h;exact jY 3 (hk4 (l8,TB,i7)) (M.pick [0,1,2,3,4,5,6,7,8,9] aL)
   rintro kk aA ⟨l6,aBE,i5⟩ a w hk3 ⟨A9,c9,K,M⟩ h;unfold xW at h;revert a;refine cB 6 h ?_ ?_
   ·intro hb h;refine aH 6 ?_;intro a K;have aOs:Kn a 26 []:=K.pick [];refine KY (vs:=[]) (cap:=[pQ vM,pQ Jv]) K (cA rfl) rfl rfl rfl (B8 32 aQ) rfl rfl ?_;clear K;refine qC Tryz.func32 rfl Tryz.ntmps32 rfl ?_;obtain ⟨q26,aJS,h⟩:=aB h;refine aH 3 ?_;intro a K
    rcases q26 with _|Oi
    ·replace h:=Iu h;refine ZO (Pn:=Yu w0 jM dY r) K (cA rfl) (boQ (B8 27 aQ) K (Calls.mono (aU aJS M.rE) fun e w' hp=>let ⟨ch,he,hc,M⟩:=hp;⟨ch,he,⟨hc,⟨_,M.pick [7,6] aL,rfl⟩,h⟩⟩)) ?_;rintro ch w hp;refine AF ?_;refine FU K.defs (.inr ⟨_,rfl,?_⟩);refine ID ?_;iterate 2 (refine AF ?_)
     refine ID ?_;refine FU aOs.defs (.inr ⟨_,rfl,?_⟩);refine AF ?_;exact Sn
    replace h:=fR h;revert a;refine Za (fun _ K=>u0 K (bM aJS M.rE)) ?_;rintro _ w ⟨rfl,M⟩;refine aH 3 ?_;intro a K;refine rR (D:=[]) (N:=18) [] (Yu w0 jM dY r) aQ ?_ (fun w=>Mem _ _ w _) [0,0,0,0,1,0,0,1,0,1,1,0,0,1] 14 [0,1,2,3,4,5,6,7,8,9,10,11,12,13] aQ aQ aQ rfl (M.pick [2,3,4,5,6,7] aL).drew ?_
    ·rintro ch a w hp K;refine FU K.defs (.inr ⟨_,rfl,?_⟩);refine ID ?_;iterate 2 (refine AF ?_)
     refine ID ?_;refine FU aOs.defs (.inr ⟨_,rfl,?_⟩);refine AF ?_;exact Sn
    replace M:=M.drew;revert a;refine aH 4 ?_;refine Ce 5 rfl (fun _ K=>tO rfl K rfl) ?_;refine Ce 6 rfl (fun _ K=>vI rfl aLv K rfl (Aw 4 rfl) rfl) ?_;refine MX 4 7 ?_ ?_
    ·refine Uq rfl M (fun _ K=>vI rfl VR K rfl (Aw 8 rfl) rfl) ?_;refine ⟨fun _=>M.toS,?_⟩;refine nK 7 ?_;obtain ⟨q27,aJT,h⟩:=aB h;intro a K
     rcases q27 with _|MU
     ·exact pbQ (K.pick []) (aU aJT M)
     replace h:=fR h;revert a;refine rD rfl (fun _ K=>u0 K (bM aJT M)) ?_;rintro _ w ⟨rfl,M⟩;refine ⟨fun _=>M.toS,?_⟩;refine Ce 8 rfl (fun _ K=>bQ rfl K (vs:=[(0,I Oi.1),(1,I MU.1)]) (cs:=[I Oi.1,I MU.1]) rfl aQ) ?_;refine nK 9 ?_;refine rD rfl (fun _ K=>bS rfl Hv z83 K (vs:=[(0,.agg #[I Oi.1,I MU.1])]) (cs:=[I Oi.1,I MU.1]) rfl aQ rfl rfl M) ?_;rintro _ w ⟨gs8,rfl,M⟩;replace M:=M.fX 0 rfl jG ([(Oi.1,MU.1)]:List aN) (n:=1) rfl rfl rfl;refine ⟨fun _=>M.toS,?_⟩;refine nK 10 ?_;obtain ⟨H8,PZ,h⟩:=aB h;refine rD rfl (fun _ K=>fQ (C:=jG) (xs:=l6) (ys:=([(Oi.1,MU.1)]:List aN)) rfl Hv rfl z83 rfl rfl K rfl rfl 2 M rfl ((p9 (C:=jG) 0 rfl rfl) _ M) PZ) ?_;rintro _ w ⟨Yv,c13,rfl,M⟩;refine ⟨fun _=>M.toS,?_⟩;refine aH 2 ?_;refine nK 13 ?_;refine D3 rfl (fun _ K=>jX M K 9) ?_;intro _ w M;refine ⟨fun _=>M.toS,?_⟩;refine aH 1 ?_;intro a K;refine Ci ?_;refine H1 K rfl (.inl ⟨_,rfl,?_⟩);clear K;intro a K;revert a;exact iG 8 (H8,MU.2,aC.wrap (i5+1)) (M.pick [2,1,3,4,5,6,7,8,9] aL)
    ·obtain ⟨q28,aJU,h⟩:=aB h;intro a K
     rcases q28 with _|Yq
     ·exact pbQ (K.pick []) (aU aJU M)
     replace h:=fR h;revert a;refine rD rfl (fun _ K=>u0 K (bM aJU M)) ?_;rintro _ w ⟨rfl,M⟩;refine ⟨fun _=>M.toS,?_⟩;refine Ce 8 rfl (fun _ K=>bQ rfl K (vs:=[(0,I Oi.1),(1,I Yq.1)]) (cs:=[I Oi.1,I Yq.1]) rfl aQ) ?_;refine MX 4 9 ?_ ?_
     ·refine Uq rfl M (fun _ K=>vI rfl VR K rfl (Aw 8 rfl) rfl) ?_;refine ⟨fun _=>M.toS,?_⟩;refine nK 9 ?_;refine rD rfl (fun _ K=>bS rfl Hv z83 K (vs:=[(0,.agg #[I Oi.1,I Yq.1])]) (cs:=[I Oi.1,I Yq.1]) rfl aQ rfl rfl M) ?_;rintro _ w ⟨gs9,rfl,M⟩;replace M:=M.fX 0 rfl jG ([(Oi.1,Yq.1)]:List aN) (n:=1) rfl rfl rfl;refine ⟨fun _=>M.toS,?_⟩;refine nK 10 ?_;obtain ⟨Tc,P0,h⟩:=aB h;refine rD rfl (fun _ K=>fQ (C:=jG) (xs:=l6) (ys:=([(Oi.1,Yq.1)]:List aN)) rfl Hv rfl z83 rfl rfl K rfl rfl 2 M rfl ((p9 (C:=jG) 0 rfl rfl) _ M) P0) ?_;rintro _ w ⟨A14,c14,rfl,M⟩;refine ⟨fun _=>M.toS,?_⟩;refine aH 2 ?_;refine nK 13 ?_;refine D3 rfl (fun _ K=>jX M K 9) ?_;intro _ w M;refine ⟨fun _=>M.toS,?_⟩;refine aH 1 ?_;intro a K;refine Ci ?_;refine H1 K rfl (.inl ⟨_,rfl,?_⟩);clear K;intro a K;revert a;exact iG 8 (Tc,Yq.2,aC.wrap (i5+1)) (M.pick [2,1,3,4,5,6,7,8,9] aL)
     ·refine rD rfl (fun _ K=>bS rfl Hv z83 K (vs:=[(0,.agg #[I Oi.1,I Yq.1])]) (cs:=[I Oi.1,I Yq.1]) rfl aQ rfl rfl M) ?_;rintro _ w ⟨aOt,rfl,M⟩;replace M:=M.fX 0 rfl jG ([(Oi.1,Yq.1)]:List aN) (n:=1) rfl rfl rfl;refine ⟨fun _=>M.toS,?_⟩;refine nK 4 ?_;refine Uq rfl M (fun _ K=>vI rfl VR K rfl (Aw 9 rfl) rfl) ?_;refine ⟨fun _=>M.toS,?_⟩;refine nK 10 ?_;obtain ⟨Cq,FM,h⟩:=aB h;refine rD rfl (fun _ K=>fQ (C:=jG) (xs:=l6) (ys:=([(Oi.1,Yq.1)]:List aN)) rfl Hv rfl z83 rfl rfl K rfl rfl 2 M rfl ((p9 (C:=jG) 0 rfl rfl) _ M) FM) ?_;rintro _ w ⟨A15,c15,rfl,M⟩;refine ⟨fun _=>M.toS,?_⟩;refine aH 2 ?_;refine nK 13 ?_;refine D3 rfl (fun _ K=>jX M K 9) ?_;intro _ w M;refine ⟨fun _=>M.toS,?_⟩;refine aH 1 ?_;intro a K;refine Ci ?_;refine H1 K rfl (.inl ⟨_,rfl,?_⟩);clear K;intro a K;revert a;exact iG 8 (Cq,Yq.2,aC.wrap (i5+1)) (M.pick [2,1,3,4,5,6,7,8,9] aL)
   intro hb h;exact jY 3 (hk3 (l6,aBE,i5)) (M.pick [0,1,2,3,4,5,6,7,8] aL)
  rintro kk aA ⟨l4,aBF,i3⟩ a w hk2 ⟨A5,c5,K,M⟩ h;unfold xX at h;revert a;refine cB 6 h ?_ ?_
  ·intro hb h;refine aH 6 ?_;intro a K;have aP4:Kn a 26 []:=K.pick [];refine KY (vs:=[]) (cap:=[pQ jM,pQ vM]) K (cA rfl) rfl rfl rfl (B8 31 aQ) rfl rfl ?_;clear K;refine qC Tryz.func31 rfl Tryz.ntmps31 rfl ?_;intro a K;refine rR (D:=[]) (N:=11) [] (Yu w0 jM dY r) aQ ?_ (fun w=>Mem _ _ w _) [0,0,0,0,1,1,1,1,0,2] 10 [0,1,2,3,4,5,6,7,8,9] aQ aQ aQ rfl (M.pick [2,3,4,5,6] aL).drew ?_
   ·rintro ch a w hp K;refine FU K.defs (.inr ⟨_,rfl,?_⟩);refine ID ?_;iterate 2 (refine AF ?_)
    refine ID ?_;refine FU aP4.defs (.inr ⟨_,rfl,?_⟩);refine AF ?_;exact X7
   replace M:=M.drew;revert a;refine aH 4 ?_;refine nK 4 ?_;obtain ⟨q14,aJV,h⟩:=aB h;intro a K
   rcases q14 with _|J5
   ·exact pbQ (K.pick []) (aU aJV M.rE)
   replace h:=fR h;revert a;refine rD rfl (fun _ K=>u0 K (bM aJV M.rE)) ?_;rintro _ w ⟨rfl,M⟩;refine ⟨fun _=>M.toS,?_⟩;refine nK 5 ?_;obtain ⟨q15,aJW,h⟩:=aB h;intro a K
   rcases q15 with _|r16
   ·exact pbQ (K.pick []) (Cb aJW M)
   replace h:=fR h;revert a;refine rD rfl (fun _ K=>u0 K (BY aJW M)) ?_;rintro _ w ⟨rfl,M⟩;refine ⟨fun _=>M.toS,?_⟩;refine nK 6 ?_;refine rD rfl (fun _ K=>bS rfl PP z9 K (vs:=[(0,.string (bs r16.1))]) (cs:=[.string (bs r16.1)]) rfl aQ rfl rfl M) ?_;rintro _ w ⟨gs4,rfl,M⟩;replace M:=M.fX 0 rfl cS ([r16.1]:List aR) (n:=1) rfl rfl rfl;refine ⟨fun _=>M.toS,?_⟩;refine nK 7 ?_;obtain ⟨Ox,X8,h⟩:=aB h;refine rD rfl (fun _ K=>fQ (C:=cS) (xs:=l4) (ys:=([r16.1]:List aR)) rfl PP rfl z9 rfl rfl K rfl rfl 2 M rfl ((p9 (C:=cS) 0 rfl rfl) _ M) X8) ?_;rintro _ w ⟨A7,c7,rfl,M⟩;refine ⟨fun _=>M.toS,?_⟩;refine aH 1 ?_;refine nK 9 ?_;refine D3 rfl (fun _ K=>jX M K 7) ?_;intro _ w M;refine ⟨fun h=>absurd h aL,?_⟩;refine aH 1 ?_;intro a K;refine Ci ?_;refine H1 K rfl (.inl ⟨_,rfl,?_⟩);clear K;intro a K;revert a;exact iG 8 (Ox,r16.2,aC.wrap (i3+1)) (M.pick [2,1,3,4,5,6,7] aL)
  intro hb h;exact jY 3 (hk2 (l4,aBF,i3)) (M.pick [0,1,2,3,4,5,6] aL)
 rintro kk aA ⟨l2,aBG,i⟩ a w hk1 ⟨A,c,K,M⟩ h;unfold xY at h;revert a;refine cB 6 h ?_ ?_
 ·intro hb h;refine aH 6 ?_;intro a K;have KP7:Kn a 26 []:=K.pick [];refine KY (vs:=[]) (cap:=[pQ jM,pQ vM]) K (cA rfl) rfl rfl rfl (B8 30 aQ) rfl rfl ?_;clear K;refine qC Tryz.func30 rfl Tryz.ntmps30 rfl ?_;intro a K;refine rR (D:=[]) (N:=9) [] (Yu w0 jM dY r) aQ ?_ (fun w=>Mem _ _ w _) [0,0,0,1,1,1,0,2] 8 [0,1,2,3,4,5,6,7] aQ aQ aQ rfl (M.pick [2,3,4,5] aL).drew ?_
  ·rintro ch a w hp K;refine FU K.defs (.inr ⟨_,rfl,?_⟩);refine ID ?_;iterate 2 (refine AF ?_)
   refine ID ?_;refine FU KP7.defs (.inr ⟨_,rfl,?_⟩);refine AF ?_;exact X6
  replace M:=M.drew;revert a;refine aH 3 ?_;refine nK 3 ?_;obtain ⟨q10,aJX,h⟩:=aB h;intro a K
  rcases q10 with _|Al
  ·exact pbQ (K.pick []) (aU aJX M.rE)
  replace h:=fR h;revert a;refine rD rfl (fun _ K=>u0 K (bM aJX M.rE)) ?_;rintro _ w ⟨rfl,M⟩;refine ⟨fun _=>M.toS,?_⟩;refine nK 4 ?_;refine rD rfl (fun _ K=>bS rfl pI z3 K (vs:=[(0,I Al.1)]) (cs:=[I Al.1]) rfl aQ rfl rfl M) ?_;rintro _ w ⟨gs2,rfl,M⟩;replace M:=M.fX 0 rfl (cI .i64) ([Al.1]:List Int) (n:=1) rfl rfl rfl;refine ⟨fun _=>M.toS,?_⟩;refine nK 5 ?_;obtain ⟨UQ,aCU,h⟩:=aB h;refine rD rfl (fun _ K=>fQ (C:=(cI .i64)) (xs:=l2) (ys:=([Al.1]:List Int)) rfl pI rfl z3 rfl rfl K rfl rfl 2 M rfl ((p9 (C:=(cI .i64)) 0 rfl rfl) _ M) aCU) ?_;rintro _ w ⟨A3,c3,rfl,M⟩;refine ⟨fun _=>M.toS,?_⟩;refine aH 1 ?_;refine nK 7 ?_;refine D3 rfl (fun _ K=>jX M K 6) ?_;intro _ w M;refine ⟨fun h=>absurd h aL,?_⟩;refine aH 1 ?_;intro a K;refine Ci ?_;refine H1 K rfl (.inl ⟨_,rfl,?_⟩);clear K;intro a K;revert a;exact iG 8 (UQ,Al.2,aC.wrap (i+1)) (M.pick [2,1,3,4,5,6] aL)
 intro hb h;exact jY 3 (hk1 (l2,aBG,i)) (M.pick [0,1,2,3,4,5] aL)
theorem IP {p:Prop} (h:p:=by exact eB 5 (((Mem.cC 84 2 jG (Mem.cC 83 2 jG (Mem.cC 9 1 cS (Mem.cC 3 1 (cI .i64) M))))).pick [3,2,1,0] aL)):p:=h
theorem X9 {p:Prop} (h:p:=by exact eB 10 (((Mem.cC 84 2 jG (Mem.cC 83 2 jG (Mem.cC 9 1 cS (Mem.cC 3 1 (cI .i64) M))))).pick [3,2,1,0] aL)):p:=h
theorem aAc {C8 GJ:Int} {LP:List Int} {HW:Option Addr} {Ee:Nat} {r:J3} (h:My N eA fY lV qS uG oD gM eW eI eJ eK eL eX dA eM eN eO dO dP dQ dR dS dU dV dW dX dB dZ C8 GJ LP=some r) (N2:SL w0 (cI .i64) IM oD) (N3:oD.length≤IN) (Sl:SL w0 cS EN gM) (Sm:gM.length≤EO) (Lh:SL w0 jG zJ dA) (Li:dA.length≤zL) (Lj:SL w0 jG zI dB) (Ll:dB.length≤zK) (JW:SL w0 (cI .i64) HW LP) (Ef:LP.length≤Ee) :
  lL 75 #[.agg #[I eA,I fY,I lV,I qS,I uG,.slice IM oD.length IN,.slice EN gM.length EO,I eW,I eI,I eJ,I eK,I eL,I eX,.slice zJ dA.length zL,I eM,I eN,I eO,I dO,I dP,I dQ,I dR,I dS,I dU,I dV,I dW,I dX,.slice zI dB.length zK,I dZ],.agg #[I C8,I GJ,.slice HW LP.length Ee]] w0 (aJe r w0):=by
 refine gE Tryz.func75 Tryz.ntmps75 ?_;intro M;unfold My at h;refine eE 2 ?_;intro jM w M;refine eE 0 ?_;intro dY w M;refine eE 0 ?_;intro fN w M;obtain ⟨r2,cR,h⟩:=aB h;refine fP 7 (Sh cR) ?_;intro w M;refine cB 9 h ?_ ?_
 ·intro hb h;refine cV 4 ?_;intro w M;exact IP
 intro hb h;obtain ⟨r3,gP,h⟩:=aB h;refine fP 6 (Sj gP) ?_;intro w M;refine cB 9 h ?_ ?_
 ·intro hb h;refine cV 4 ?_;intro w M;exact IP
 intro hb h;obtain ⟨r4,lJ,h⟩:=aB h;refine fP 6 (Aq N C8 GJ LP HW Ee (([]:List aN)) none 0 _ ((Cc JW) _ M) Ef ((fun _ _=>SL.nil) _ M) (pK _) r4 lJ) ?_;intro A c w M;refine eE 3 ?_;intro vM w M;refine cV 0 ?_;intro w M;refine aH 4 ?_;intro a K;refine aK (fun w=>Mem _ _ w _) [0,0,0,0,0,0,0,0,0,0,0,0,0,0,0,0,0,0,0,1,0,0,0,0,0] aQ aQ M.drew ?_;replace M:=M.drew;revert a;refine kJ 3 35 h ?_ ?_
 ·intro hb h;refine aH 16 ?_;intro a K;refine tL K (K.no rfl rfl rfl rfl) rfl rfl (M.pick [0,1,2,3,4] aL) ?_;clear K;intro a K;revert a;refine cV 11 ?_;intro w M;exact IP
 intro hb h;refine kJ 7 42 h ?_ ?_
 ·intro hb h;refine aH 9 ?_;intro a K;refine tL K (K.no rfl rfl rfl rfl) rfl rfl (M.pick [0,1,2,3,4] aL) ?_;clear K;intro a K;revert a;refine cV 11 ?_;intro w M;exact IP
 intro hb h;refine kJ 7 49 h ?_ ?_
 ·intro hb h;refine aH 2 ?_;intro a K;refine tL K (K.no rfl rfl rfl rfl) rfl rfl (M.pick [0,1,2,3,4] aL) ?_;clear K;intro a K;revert a;refine cV 11 ?_;intro w M;exact IP
 intro hb h;obtain ⟨r5,qA,h⟩:=aB h;refine rU 2 (Ed qA) ?_;intro w M;obtain ⟨_,h0,h⟩:=aB h;have h0:=qB h0;refine cB 7 h ?_ ?_
 ·intro hb h;refine cV 3 ?_;intro w M;exact IP
 intro hb h;refine eE 5 ?_;intro D8 w M;refine cV 0 ?_;intro w M;refine aH 3 ?_;intro a K;refine aK (fun w=>Mem _ _ w _) [0,0,1,0,0,0,1,0,0,0,1,0,1,0,0,1,0,0,1] aQ aQ (M.pick [1,2,3,4,5] aL).drew ?_;replace M:=M.drew;revert a;refine aH 2 ?_;obtain ⟨r6,tA,h⟩:=aB h;refine rU 0 (II tA) ?_;intro A2 c2 w M;obtain ⟨r7,zG,h⟩:=aB h;refine rU 3 (Dv zG) ?_;intro A3 c3 w M;obtain ⟨r8,BF,h⟩:=aB h;refine rU 3 (Cv BF) ?_;intro A4 c4 w M;refine aH 1 ?_;refine J8 (fun _ K=>jX M K 3) ?_;intro _ w M;refine ⟨M.toS,?_⟩;refine aH 2 ?_;refine J8 (fun _ K=>jX M K 3) ?_;intro _ w M;refine ⟨M.toS,?_⟩;refine aH 2 ?_;refine J8 (fun _ K=>jX M K 3) ?_;intro _ w M;refine ⟨M.toS,?_⟩;refine cV 5 ?_;intro w M;obtain ⟨r9,EK,h⟩:=aB h;refine fP 6 (NZ EK) ?_;intro A5 c5 w M;refine aH 5 ?_;replace M:=Mem.cC 9 1 cS M;refine pM 0 0 [2,3,4,10,78,79] [8,9,10] (fun ZL ZM (⟨pG,i⟩:D9) a w=>∃(A6:Option Addr) (c6:Nat),Kn a 136 ((80,I i)::ZL)∧jL w0 w (.row 9 1 A6 pG.length c6 (cS.all pG) :: .row 90 2 A5 r9.length c5 (jG.all r9) :: .row 84 2 A4 r8.length c4 (jG.all r8) :: .row 83 2 A3 r7.length c3 (jG.all r7) :: .row 3 1 A2 r6.length c2 ((cI .i64).all r6) :: .blk D8 41 [I eA,I fY,I lV,I qS,I uG,.slice A2 r6.length c2,.slice A6 pG.length c6,I eW,I eI,I eJ,I eK,I eL,I eX,.slice A3 r7.length c3,I eM,I eN,I eO,I dO,I dP,I dQ,I dR,I dS,I dU,I dV,I dW,I dX,.slice A4 r8.length c4,I dZ]::ZM)) (M.pick [0,1,2,3,4,5,8,9,10] aL) ?_ ?_
 ·rintro ⟨TY,i2⟩ a w ⟨A11,c11,K,M⟩ h
  revert a;refine cV 5 ?_;intro w M;exact eB 4 (M.pick [4,0,3,2] aL)
 rintro kk aA ⟨pG,i⟩ a w hk1 ⟨A6,c6,K,M⟩ h;unfold E3 at h;revert a;refine cB 6 h ?_ ?_
 ·intro hb h;obtain ⟨e2,_,h⟩:=aB h;refine eE 8 ?_;intro aIx w M;refine cV 0 ?_;intro w M;refine aH 19 ?_;obtain ⟨l3,Ih,h⟩:=aB h;refine jO (fun _ K=>Fa (C:=(cI .i64)) (k:=.i64) (k':=.i64) rfl pI rfl K rfl Ef rfl rfl Ih) M ?_;obtain ⟨AE,Fl,h⟩:=aB h;refine fP 8 (XI Fl ((fun w M=>(I4 Ih Ef) w ((Cc JW) w M)) _ M) (I5 Ih Ef)) ?_;intro w M;refine cB 15 h ?_ ?_
  ·intro hb h;refine aH 6 ?_;refine jO (fun _ K=>bQ rfl K (vs:=[(0,I C8),(1,I e2.2),(2,.slice ((slA HW Ee (aC.wrap (e2.1*C8)) 1)) l3.length ((Ee-Int.toNat (aC.wrap (e2.1*C8)))))]) (cs:=[I C8,I e2.2,.slice ((slA HW Ee (aC.wrap (e2.1*C8)) 1)) l3.length ((Ee-Int.toNat (aC.wrap (e2.1*C8))))]) rfl aQ) M ?_;obtain ⟨B1,Cx,h⟩:=aB h;refine fP 4 (VV Cx ((fun w M=>(I4 Ih Ef) w ((Cc JW) w M)) _ M) (I5 Ih Ef) ((Cc N2) _ M) N3) ?_;intro w M;refine cB 14 h ?_ ?_
   ·intro hb h;refine cV 4 ?_;intro w M;exact X9
   intro hb h;refine aH 6 ?_;refine Za (fun _ K=>bS rfl PP z9 K (vs:=[(0,.string (bs B1.1))]) (cs:=[.string (bs B1.1)]) rfl aQ rfl rfl M) ?_;rintro _ w ⟨gs3,rfl,M⟩;replace M:=M.fX 0 rfl cS ([B1.1]:List aR) (n:=1) rfl rfl rfl;obtain ⟨mY,Ya,h⟩:=aB h;refine Za (fun _ K=>fQ (C:=cS) (xs:=pG) (ys:=([B1.1]:List aR)) rfl PP rfl z9 rfl rfl K rfl rfl 2 M rfl ((p9 (C:=cS) 0 rfl rfl) _ M) Ya) ?_;rintro _ w ⟨A9,c9,rfl,M⟩;refine cV 1 ?_;intro w M;exact iG 8 (mY,aC.wrap (i+1)) (M.pick [2,3,4,5,6,7,8,9,10] aL)
  intro hb h;refine cB 9 h ?_ ?_
  ·intro hb h;refine cV 4 ?_;intro w M;exact X9
  intro hb h;refine aH 6 ?_;refine Za (fun _ K=>bS rfl PP z9 K (vs:=[(0,.string (bs AE.1))]) (cs:=[.string (bs AE.1)]) rfl aQ rfl rfl M) ?_;rintro _ w ⟨gs4,rfl,M⟩;replace M:=M.fX 0 rfl cS ([AE.1]:List aR) (n:=1) rfl rfl rfl;obtain ⟨OF,Yb,h⟩:=aB h;refine Za (fun _ K=>fQ (C:=cS) (xs:=pG) (ys:=([AE.1]:List aR)) rfl PP rfl z9 rfl rfl K rfl rfl 2 M rfl ((p9 (C:=cS) 0 rfl rfl) _ M) Yb) ?_;rintro _ w ⟨Us,c10,rfl,M⟩;refine cV 1 ?_;intro w M;exact iG 8 (OF,aC.wrap (i+1)) (M.pick [2,3,4,5,6,7,8,9,10] aL)
 intro hb h;exact jY 3 (hk1 (pG,i)) (M.pick [0,1,2,3,4,5,6,7,8] aL)
theorem jE {l2:List Int} {BW:Option Addr} {BX:Nat} {r:List Int} (h:gC N YV l2=some r) (O9:∀w,jL W w TL→SL w (cI .i64) BW l2) (R8:l2.length≤BX) (M:jL W w0 (.blk MS 135 [.slice Uw YV.length Ux] :: .row 5 1 Uw YV.length Ux ((cI .u8).all YV)::TL)) :
  lL 74 #[pQ MS,.slice BW l2.length BX] w0 (aJf W MS r TL):=by
 refine gE Tryz.func74 Tryz.ntmps74 ?_;intro _;unfold gC at h;refine gLQ 8 0 (fun (⟨Iw,i⟩:gL) a w=>∃(A:Option Addr) (c:Nat),Kn a 32 [(0,pQ MS),(7,.slice BW l2.length BX),(8,I (l2.length:Int)),(9,I i)]∧jL W w (.blk MS 135 [.slice A Iw.length c] :: .row 5 1 A Iw.length c ((cI .u8).all Iw)::TL)) (Mem.uZ (H:=[.blk MS 135 [.slice Uw YV.length Ux],.row 5 1 Uw YV.length Ux ((cI .u8).all YV)]) 2 rfl M [0,1] aL aL) ?_ ?_
 ·rintro ⟨Wx,i11⟩ a w ⟨A11,c11,K,M⟩ h
  revert a;refine aH 1 ?_;intro a K;refine Ci ?_
  injection h with h
  subst h;exact H1 K rfl  ⟨_,rfl,_,_,rfl,Mem.uZ (H:=[.blk MS 135 [.slice A11 Wx.length c11],.row 5 1 A11 Wx.length c11 ((cI .u8).all Wx)]) 2 rfl M [0,1] aL aL⟩
 rintro kk aA ⟨Iw,i⟩ a w hk1 ⟨A,c,K,M⟩ h;unfold Bw at h;revert a;refine cB 6 h ?_ ?_
 ·intro hb h;obtain ⟨e2,Hw,h⟩:=aB h;refine aH 6 ?_;refine jO (fun _ K=>aAm rfl pI K rfl rfl (fun w (M:Mem _ _ w _)=>O9 w M.tl.tl) Hw) M ?_;refine jO (fun _ K=>DA rfl Hc K rfl rfl (fun w (M:Mem _ _ w _)=>O9 w M.tl.tl) Hw rfl) M ?_;refine gLQ 9 2 (fun (⟨Du,i5⟩:gL) a w=>∃(A5:Option Addr) (c5:Nat),Kn a 32 [(0,pQ MS),(7,.slice BW l2.length BX),(8,I (l2.length:Int)),(9,I i),(5,I e2),(6,I i5)]∧jL W w (.blk MS 135 [.slice A5 Du.length c5] :: .row 5 1 A5 Du.length c5 ((cI .u8).all Du)::TL)) (Mem.uZ (H:=[.blk MS 135 [.slice A Iw.length c],.row 5 1 A Iw.length c ((cI .u8).all Iw)]) 2 rfl M [0,1] aL aL) ?_ ?_
  ·rintro ⟨TZ,EV⟩ a w ⟨Us,c10,K,M⟩ h
   revert a;exact iG 8 (TZ,aC.wrap (i+1)) (Mem.uZ (H:=[.blk MS 135 [.slice Us TZ.length c10],.row 5 1 Us TZ.length c10 ((cI .u8).all TZ)]) 2 rfl M [0,1] aL aL)
  rintro kk aA ⟨Du,i5⟩ a w hk2 ⟨A5,c5,K,M⟩ h;unfold Bv at h;revert a;refine cB 7 h ?_ ?_
  ·intro hb h;refine aH 4 ?_;refine Jr [0,0,0,0,1,0,0,0,0,0,1,1,0,0,1] 15 [0,1,2,3,4,5,6,7,8,9,10,11,12,13,14] (Mem.uZ (H:=[.blk MS 135 [.slice A5 Du.length c5],.row 5 1 A5 Du.length c5 ((cI .u8).all Du)]) 2 rfl M [] aL aL) ?_;replace M:=M.drew;refine aH 4 ?_;refine Ce 5 rfl (fun _ K=>tO rfl K rfl) ?_;refine Ce 6 rfl (fun _ K=>tO rfl K rfl) ?_;refine Ce 7 rfl (fun _ K=>I2 rfl K rfl rfl) ?_;obtain ⟨_,h0,h⟩:=aB h;have h0:=qB h0;refine Ce 8 rfl (fun _ K=>aDo rfl K rfl rfl h0) ?_;refine Ce 9 rfl (fun _ K=>I3 rfl rfl SV K rfl) ?_;refine MX 4 10 ?_ ?_
   ·refine Uq rfl M (fun _ K=>vI rfl RO K rfl (Aw 0 rfl) rfl) ?_;refine ⟨fun _=>Mem.uZ (H:=[.blk MS 135 [.slice A5 Du.length c5],.row 5 1 A5 Du.length c5 ((cI .u8).all Du)]) 2 rfl M [] aL aL,?_⟩;refine nK 10 ?_;refine rD rfl (fun _ K=>bS rfl nI z5 K (vs:=[(0,.int .u8 (iH.wrap (jN .i64 e2 (aC.wrap (8*i5)))))]) (cs:=[.int .u8 (iH.wrap (jN .i64 e2 (aC.wrap (8*i5))))]) rfl aQ rfl rfl M) ?_;rintro _ w ⟨gs5,rfl,M⟩;replace M:=M.fX 0 rfl (cI .u8) ([iH.wrap (jN .i64 e2 (aC.wrap (8*i5)))]:List Int) (n:=1) rfl rfl rfl;refine ⟨fun _=>Mem.uZ (H:=[.row 5 1 (some ⟨gs5,0,none⟩) (([iH.wrap (jN .i64 e2 (aC.wrap (8*i5)))]:List Int)).length 1 ((cI .u8).all (([iH.wrap (jN .i64 e2 (aC.wrap (8*i5)))]:List Int))),.blk MS 135 [.slice A5 Du.length c5],.row 5 1 A5 Du.length c5 ((cI .u8).all Du)]) 3 rfl M [] aL aL,?_⟩;refine nK 11 ?_;obtain ⟨Q5,aLU,h⟩:=aB h;refine rD rfl (fun _ K=>fQ (C:=(cI .u8)) (xs:=Du) (ys:=([iH.wrap (jN .i64 e2 (aC.wrap (8*i5)))]:List Int)) rfl nI rfl z5 rfl rfl K rfl rfl 2 M rfl ((p9 (C:=(cI .u8)) 0 rfl rfl) _ M) aLU) ?_;rintro _ w ⟨A8,c8,rfl,M⟩;refine ⟨fun _=>Mem.uZ (H:=[.row 5 1 (some ⟨gs5,0,none⟩) (([iH.wrap (jN .i64 e2 (aC.wrap (8*i5)))]:List Int)).length 1 ((cI .u8).all (([iH.wrap (jN .i64 e2 (aC.wrap (8*i5)))]:List Int))),.blk MS 135 [.slice A5 Du.length c5],.row 5 1 A8 Q5.length c8 ((cI .u8).all Q5)]) 3 rfl M [] aL aL,?_⟩;refine aH 2 ?_;refine nK 14 ?_;refine D3 rfl (fun _ K=>jX M K 1) ?_;intro _ w M;refine ⟨fun _=>Mem.uZ (H:=[.row 5 1 (some ⟨gs5,0,none⟩) (([iH.wrap (jN .i64 e2 (aC.wrap (8*i5)))]:List Int)).length 1 ((cI .u8).all (([iH.wrap (jN .i64 e2 (aC.wrap (8*i5)))]:List Int))),.blk MS 135 [.slice A8 Q5.length c8],.row 5 1 A8 Q5.length c8 ((cI .u8).all Q5)]) 3 rfl M [] aL aL,?_⟩;obtain ⟨i8,hx,h⟩:=cL h;refine kN 6 hx ?_;exact iG 2 (Q5,i8) (Mem.uZ (H:=[.row 5 1 (some ⟨gs5,0,none⟩) (([iH.wrap (jN .i64 e2 (aC.wrap (8*i5)))]:List Int)).length 1 ((cI .u8).all (([iH.wrap (jN .i64 e2 (aC.wrap (8*i5)))]:List Int))),.blk MS 135 [.slice A8 Q5.length c8],.row 5 1 A8 Q5.length c8 ((cI .u8).all Q5)]) 3 rfl M [1,2] aL aL)
   ·refine rD rfl (fun _ K=>bS rfl nI z5 K (vs:=[(0,.int .u8 (iH.wrap (jN .i64 e2 (aC.wrap (8*i5)))))]) (cs:=[.int .u8 (iH.wrap (jN .i64 e2 (aC.wrap (8*i5))))]) rfl aQ rfl rfl M) ?_;rintro _ w ⟨gs6,rfl,M⟩;replace M:=M.fX 0 rfl (cI .u8) ([iH.wrap (jN .i64 e2 (aC.wrap (8*i5)))]:List Int) (n:=1) rfl rfl rfl;refine ⟨fun _=>Mem.uZ (H:=[.row 5 1 (some ⟨gs6,0,none⟩) (([iH.wrap (jN .i64 e2 (aC.wrap (8*i5)))]:List Int)).length 1 ((cI .u8).all (([iH.wrap (jN .i64 e2 (aC.wrap (8*i5)))]:List Int))),.blk MS 135 [.slice A5 Du.length c5],.row 5 1 A5 Du.length c5 ((cI .u8).all Du)]) 3 rfl M [] aL aL,?_⟩;refine nK 4 ?_;refine Uq rfl M (fun _ K=>vI rfl RO K rfl (Aw 1 rfl) rfl) ?_;refine ⟨fun _=>Mem.uZ (H:=[.row 5 1 (some ⟨gs6,0,none⟩) (([iH.wrap (jN .i64 e2 (aC.wrap (8*i5)))]:List Int)).length 1 ((cI .u8).all (([iH.wrap (jN .i64 e2 (aC.wrap (8*i5)))]:List Int))),.blk MS 135 [.slice A5 Du.length c5],.row 5 1 A5 Du.length c5 ((cI .u8).all Du)]) 3 rfl M [] aL aL,?_⟩;refine nK 11 ?_;obtain ⟨N4,aIy,h⟩:=aB h;refine rD rfl (fun _ K=>fQ (C:=(cI .u8)) (xs:=Du) (ys:=([iH.wrap (jN .i64 e2 (aC.wrap (8*i5)))]:List Int)) rfl nI rfl z5 rfl rfl K rfl rfl 2 M rfl ((p9 (C:=(cI .u8)) 0 rfl rfl) _ M) aIy) ?_;rintro _ w ⟨A9,c9,rfl,M⟩;refine ⟨fun _=>Mem.uZ (H:=[.row 5 1 (some ⟨gs6,0,none⟩) (([iH.wrap (jN .i64 e2 (aC.wrap (8*i5)))]:List Int)).length 1 ((cI .u8).all (([iH.wrap (jN .i64 e2 (aC.wrap (8*i5)))]:List Int))),.blk MS 135 [.slice A5 Du.length c5],.row 5 1 A9 N4.length c9 ((cI .u8).all N4)]) 3 rfl M [] aL aL,?_⟩;refine aH 2 ?_;refine nK 14 ?_;refine D3 rfl (fun _ K=>jX M K 1) ?_;intro _ w M;refine ⟨fun _=>Mem.uZ (H:=[.row 5 1 (some ⟨gs6,0,none⟩) (([iH.wrap (jN .i64 e2 (aC.wrap (8*i5)))]:List Int)).length 1 ((cI .u8).all (([iH.wrap (jN .i64 e2 (aC.wrap (8*i5)))]:List Int))),.blk MS 135 [.slice A9 N4.length c9],.row 5 1 A9 N4.length c9 ((cI .u8).all N4)]) 3 rfl M [] aL aL,?_⟩;obtain ⟨i9,hx,h⟩:=cL h;refine kN 6 hx ?_;exact iG 2 (N4,i9) (Mem.uZ (H:=[.row 5 1 (some ⟨gs6,0,none⟩) (([iH.wrap (jN .i64 e2 (aC.wrap (8*i5)))]:List Int)).length 1 ((cI .u8).all (([iH.wrap (jN .i64 e2 (aC.wrap (8*i5)))]:List Int))),.blk MS 135 [.slice A9 N4.length c9],.row 5 1 A9 N4.length c9 ((cI .u8).all N4)]) 3 rfl M [1,2] aL aL)
  intro hb h;exact jY 3 (hk2 (Du,i5)) (Mem.uZ (H:=[.blk MS 135 [.slice A5 Du.length c5],.row 5 1 A5 Du.length c5 ((cI .u8).all Du)]) 2 rfl M [0,1] aL aL)
 intro hb h;exact jY 3 (hk1 (Iw,i)) (Mem.uZ (H:=[.blk MS 135 [.slice A Iw.length c],.row 5 1 A Iw.length c ((cI .u8).all Iw)]) 2 rfl M [0,1] aL aL)
theorem Lm {s:aR} {r:List Int} (h:DJ N YV s=some r) (M:jL W w0 (.blk MS 135 [.slice Uw YV.length Ux] :: .row 5 1 Uw YV.length Ux ((cI .u8).all YV)::TL)) :
  lL 73 #[pQ MS,.string (bs s)] w0 (aJf W MS r TL):=by
 refine gE Tryz.func73 Tryz.ntmps73 ?_;intro _;unfold DJ at h;refine aH 5 ?_;refine Za (fun _ K=>bS rfl pI z3 K (vs:=[(0,I (s.length:Int))]) (cs:=[I (s.length:Int)]) rfl aQ rfl rfl M) ?_;rintro _ w ⟨gs,rfl,M⟩;replace M:=M.fX 0 rfl (cI .i64) ([(s.length:Int)]:List Int) (n:=1) rfl rfl rfl;obtain ⟨r2,cR,h⟩:=aB h;refine Za (fun _ K=>u0 K (jE cR (p9 (C:=(cI .i64)) 0 rfl rfl) (M.cap 0 rfl) M.IF)) ?_;rintro _ w ⟨A,c,rfl,M⟩;obtain ⟨Iw,aLV,h⟩:=aB h;refine aH 9 ?_;refine Za (fun _ K=>Nz rfl nI Ok zu5 K rfl rfl 1 M rfl aLV) ?_;rintro _ w ⟨A2,c2,rfl,M⟩;refine cV 2 ?_;intro w M;refine aH 1 ?_;intro a K;refine Ci ?_
 injection h with h
 subst h;exact H1 K rfl  ⟨_,rfl,_,_,rfl,Mem.uZ (H:=[.blk MS 135 [.slice A2 Iw.length c2],.row 5 1 A2 Iw.length c2 ((cI .u8).all Iw),.row 3 1 (some ⟨gs,0,none⟩) (([(s.length:Int)]:List Int)).length 1 ((cI .i64).all (([(s.length:Int)]:List Int)))]) 3 rfl M [0,1] aL aL⟩
theorem Yc {r:lC} (h:KF N eA fY lV qS uG oD gM eW eI eJ eK eL eX dA eM eN eO dO dP dQ dR dS dU dV dW dX dB dZ=some r) (N2:SL w0 (cI .i64) IM oD) (N3:oD.length≤IN) (Sl:SL w0 cS EN gM) (Sm:gM.length≤EO) (Lh:SL w0 jG zJ dA) (Li:dA.length≤zL) (Lj:SL w0 jG zI dB) (Ll:dB.length≤zK) :
  lL 22 #[.agg #[I eA,I fY,I lV,I qS,I uG,.slice IM oD.length IN,.slice EN gM.length EO,I eW,I eI,I eJ,I eK,I eL,I eX,.slice zJ dA.length zL,I eM,I eN,I eO,I dO,I dP,I dQ,I dR,I dS,I dU,I dV,I dW,I dX,.slice zI dB.length zK,I dZ]] w0 (VS r w0):=by
 refine gE Tryz.func22 Tryz.ntmps22 ?_;intro M;unfold KF at h;refine eE 2 ?_;intro g_o w M;obtain ⟨r2,cR,h⟩:=aB h;refine fP 8 (PI cR) ?_;intro w M;refine cB 9 h ?_ ?_
 ·intro hb h;exact eB 9 M.nQ
 intro hb h;refine eE 5 ?_;intro jM w M;refine aH 6 ?_;replace M:=Mem.cC 5 1 (cI .u8) M;obtain ⟨r3,gP,h⟩:=aB h;refine Za (fun _ K=>u0 K (Lm gP M.rE)) ?_;rintro _ w ⟨A,c,rfl,M⟩;refine aH 18 ?_;refine Za (fun _ K=>bS rfl pI z3 K (vs:=[(0,I eA),(1,I fY),(2,I lV),(3,I qS),(4,I uG),(5,I (oD.length:Int))]) (cs:=[I eA,I fY,I lV,I qS,I uG,I (oD.length:Int)]) rfl aQ rfl rfl M) ?_;rintro _ w ⟨gs,rfl,M⟩;replace M:=M.fX 0 rfl (cI .i64) ([eA,fY,lV,qS,uG,(oD.length:Int)]:List Int) (n:=6) rfl rfl rfl;obtain ⟨r4,lJ,h⟩:=aB h;refine Za (fun _ K=>u0 K (jE lJ (p9 (C:=(cI .i64)) 0 rfl rfl) (M.cap 0 rfl) M.IF)) ?_;rintro _ w ⟨A2,c2,rfl,M⟩;obtain ⟨r5,qA,h⟩:=aB h;refine aH 7 ?_;refine Za (fun _ K=>u0 K (jE qA (Cc N2) N3 M)) ?_;rintro _ w ⟨A3,c3,rfl,M⟩;refine aH 8 ?_;refine Za (fun _ K=>bS rfl pI z3 K (vs:=[(0,I (gM.length:Int))]) (cs:=[I (gM.length:Int)]) rfl aQ rfl rfl M) ?_;rintro _ w ⟨gs2,rfl,M⟩;replace M:=M.fX 0 rfl (cI .i64) ([(gM.length:Int)]:List Int) (n:=1) rfl rfl rfl;obtain ⟨r6,tA,h⟩:=aB h;refine Za (fun _ K=>u0 K (jE tA (p9 (C:=(cI .i64)) 0 rfl rfl) (M.cap 0 rfl) M.IF)) ?_;rintro _ w ⟨A4,c4,rfl,M⟩;refine pM 12 0 [1,5,49,50] [4] (fun ZL ZM (⟨x_b,i⟩:gL) a w=>∃(A5:Option Addr) (c5:Nat),Kn a 132 ((51,I i)::ZL)∧jL w0 w (.blk jM 135 [.slice A5 x_b.length c5] :: .row 5 1 A5 x_b.length c5 ((cI .u8).all x_b)::ZM)) (M.pick [0,1,4] aL) ?_ ?_
 ·rintro ⟨aMp,i2⟩ a w ⟨A8,c8,K,M⟩ h
  revert a;refine eE 6 ?_;intro dY w M;refine cV 0 ?_;intro w M;refine aH 7 ?_;refine Za (fun _ K=>bS rfl pI z3 K (vs:=[(0,I eW)]) (cs:=[I eW]) rfl aQ rfl rfl M) ?_;rintro _ w ⟨gs3,rfl,M⟩;replace M:=M.fX 0 rfl (cI .i64) ([eW]:List Int) (n:=1) rfl rfl rfl;obtain ⟨r9,EK,h⟩:=aB h;refine Za (fun _ K=>u0 K (jE EK (p9 (C:=(cI .i64)) 0 rfl rfl) (M.cap 0 rfl) M.MM)) ?_;rintro _ w ⟨A9,c9,rfl,M⟩;refine aH 6 ?_;refine jO (fun _ K=>vR rfl aFy Pr K rfl) M ?_;obtain ⟨Cd,BG,h⟩:=aB h;refine Za (fun _ K=>u0 K (jE BG (fun w M=>O5 (C:=(cI .i64)) (xs:=[eI,eJ,eK,eL]) rfl ((Aw 1 rfl) w M)) (pK _) M)) ?_;rintro _ w ⟨Us,c10,rfl,M⟩;refine aH 10 ?_;refine Za (fun _ K=>bS rfl pI z3 K (vs:=[(0,I eX),(1,I (dA.length:Int))]) (cs:=[I eX,I (dA.length:Int)]) rfl aQ rfl rfl M) ?_;rintro _ w ⟨gs4,rfl,M⟩;replace M:=M.fX 0 rfl (cI .i64) ([eX,(dA.length:Int)]:List Int) (n:=2) rfl rfl rfl;obtain ⟨Al,Ap,h⟩:=aB h;refine Za (fun _ K=>u0 K (jE Ap (p9 (C:=(cI .i64)) 0 rfl rfl) (M.cap 0 rfl) M.IF)) ?_;rintro _ w ⟨A11,c11,rfl,M⟩;refine pM 12 2 [5,8,79,80] [4] (fun ZL ZM (⟨Wz,i3⟩:gL) a w=>∃(A12:Option Addr) (c12:Nat),Kn a 132 ((81,I i3)::ZL)∧jL w0 w (.blk jM 135 [.slice A12 Wz.length c12] :: .row 5 1 A12 Wz.length c12 ((cI .u8).all Wz)::ZM)) (M.pick [0,1,4] aL) ?_ ?_
  ·rintro ⟨aMq,i4⟩ a w ⟨A15,c15,K,M⟩ h
   revert a;refine aH 6 ?_;refine jO (fun _ K=>vR rfl ZS Pr K rfl) M ?_;obtain ⟨IX,Fm,h⟩:=aB h;refine Za (fun _ K=>u0 K (jE Fm (fun w M=>O5 (C:=(cI .i64)) (xs:=[eM,eN,eO]) rfl ((Aw 0 rfl) w M)) (pK _) M)) ?_;rintro _ w ⟨A16,c16,rfl,M⟩;refine aH 6 ?_;refine jO (fun _ K=>vR rfl aFz Pr K rfl) M ?_;obtain ⟨J5,G6,h⟩:=aB h;refine Za (fun _ K=>u0 K (jE G6 (fun w M=>O5 (C:=(cI .i64)) (xs:=[dO,dP,dQ,dR,dS,dU,dV,dW,dX]) rfl ((Aw 0 rfl) w M)) (pK _) M)) ?_;rintro _ w ⟨A17,c17,rfl,M⟩;refine aH 8 ?_;refine Za (fun _ K=>bS rfl pI z3 K (vs:=[(0,I (dB.length:Int))]) (cs:=[I (dB.length:Int)]) rfl aQ rfl rfl M) ?_;rintro _ w ⟨gs7,rfl,M⟩;replace M:=M.fX 0 rfl (cI .i64) ([(dB.length:Int)]:List Int) (n:=1) rfl rfl rfl;obtain ⟨r16,DS,h⟩:=aB h;refine Za (fun _ K=>u0 K (jE DS (p9 (C:=(cI .i64)) 0 rfl rfl) (M.cap 0 rfl) M.IF)) ?_;rintro _ w ⟨A18,c18,rfl,M⟩;refine pM 12 4 [5,8,108,109] [3] (fun ZL ZM (⟨Wy,i5⟩:gL) a w=>∃(XA:Option Addr) (c19:Nat),Kn a 132 ((110,I i5)::ZL)∧jL w0 w (.blk jM 135 [.slice XA Wy.length c19] :: .row 5 1 XA Wy.length c19 ((cI .u8).all Wy)::ZM)) (M.pick [0,1,3] aL) ?_ ?_
   ·rintro ⟨aMr,i6⟩ a w ⟨A22,c22,K,M⟩ h
    revert a;refine aH 7 ?_;refine Za (fun _ K=>bS rfl pI z3 K (vs:=[(0,I dZ)]) (cs:=[I dZ]) rfl aQ rfl rfl M) ?_;rintro _ w ⟨aOt,rfl,M⟩;replace M:=M.fX 0 rfl (cI .i64) ([dZ]:List Int) (n:=1) rfl rfl rfl;obtain ⟨TA,RX,h⟩:=aB h;refine Za (fun _ K=>u0 K (jE RX (p9 (C:=(cI .i64)) 0 rfl rfl) (M.cap 0 rfl) M.IF)) ?_;rintro _ w ⟨A23,c23,rfl,M⟩;refine aH 8 ?_;refine jO (fun _ K=>zF rfl nI SV Ok K rfl (p9 (C:=(cI .u8)) 1 rfl rfl)) M ?_;exact eB 5 M.nQ
   rintro kk aA ⟨Wy,i5⟩ a w hk3 ⟨XA,c19,K,M⟩ h;unfold GV at h;revert a;refine cB 6 h ?_ ?_
   ·intro hb h;obtain ⟨e6,_,h⟩:=aB h;refine eE 8 ?_;intro Jv w M;refine cV 0 ?_;intro w M;refine aH 8 ?_;refine Za (fun _ K=>bS rfl pI z3 K (vs:=[(0,I e6.1),(1,I e6.2)]) (cs:=[I e6.1,I e6.2]) rfl aQ rfl rfl M) ?_;rintro _ w ⟨gs9,rfl,M⟩;replace M:=M.fX 0 rfl (cI .i64) ([e6.1,e6.2]:List Int) (n:=2) rfl rfl rfl;obtain ⟨Mr,IH,h⟩:=aB h;refine Za (fun _ K=>u0 K (jE IH (p9 (C:=(cI .i64)) 0 rfl rfl) (M.cap 0 rfl) M.MM)) ?_;rintro _ w ⟨A21,c21,rfl,M⟩;exact iG 8 (Mr,aC.wrap (i5+1)) (M.pick [0,1,4] aL)
   intro hb h;exact jY 3 (hk3 (Wy,i5)) (M.pick [0,1,2] aL)
  rintro kk aA ⟨Wz,i3⟩ a w hk2 ⟨A12,c12,K,M⟩ h;unfold GW at h;revert a;refine cB 6 h ?_ ?_
  ·intro hb h;obtain ⟨e4,_,h⟩:=aB h;refine eE 8 ?_;intro vM w M;refine cV 0 ?_;intro w M;refine aH 8 ?_;refine Za (fun _ K=>bS rfl pI z3 K (vs:=[(0,I e4.1),(1,I e4.2)]) (cs:=[I e4.1,I e4.2]) rfl aQ rfl rfl M) ?_;rintro _ w ⟨gs6,rfl,M⟩;replace M:=M.fX 0 rfl (cI .i64) ([e4.1,e4.2]:List Int) (n:=2) rfl rfl rfl;obtain ⟨B1,Cx,h⟩:=aB h;refine Za (fun _ K=>u0 K (jE Cx (p9 (C:=(cI .i64)) 0 rfl rfl) (M.cap 0 rfl) M.MM)) ?_;rintro _ w ⟨A14,c14,rfl,M⟩;exact iG 8 (B1,aC.wrap (i3+1)) (M.pick [0,1,4] aL)
  intro hb h;exact jY 3 (hk2 (Wz,i3)) (M.pick [0,1,2] aL)
 rintro kk aA ⟨x_b,i⟩ a w hk1 ⟨A5,c5,K,M⟩ h;unfold GX at h;revert a;refine cB 6 h ?_ ?_
 ·intro hb h;obtain ⟨e2,_,h⟩:=aB h;refine aH 14 ?_;obtain ⟨r8,BF,h⟩:=aB h;refine Za (fun _ K=>u0 K (Lm BF M)) ?_;rintro _ w ⟨A7,c7,rfl,M⟩;exact iG 8 (r8,aC.wrap (i+1)) (M.pick [0,1,2] aL)
 intro hb h;exact jY 3 (hk1 (x_b,i)) (M.pick [0,1,2] aL)
end
end
end Go.Proofs.YtpmnfhifmmfgladGreatDoor
