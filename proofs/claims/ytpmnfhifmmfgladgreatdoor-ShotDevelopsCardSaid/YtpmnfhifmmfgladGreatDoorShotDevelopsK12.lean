/- Parts of the proof. -/
import Derived.Test.YtpmnfhifmmfgladGreatDoorShotDevelopsK5
import Derived.Test.YtpmnfhifmmfgladGreatDoorShotDevelopsK6
import Derived.Test.YtpmnfhifmmfgladGreatDoorShotDevelopsK10
import Derived.Test.YtpmnfhifmmfgladGreatDoorShotDevelopsK11
set_option linter.unusedVariables false
set_option linter.unusedSimpArgs false
set_option linter.unusedSectionVars false
set_option maxRecDepth 100000
set_option maxHeartbeats 8000000
open Go.IntKind renaming i64→aC
open Int renaming tdiv→gI
open Nat renaming le_refl→pK
namespace Go.Proofs.YtpmnfhifmmfgladGreatDoor
section
open Go.RowKit
section
variable {kK:Option Addr} {N kW:Nat} {aI lK gF:Int} {gG:List bU} {w0:World}
theorem Ab {p:Prop} (h:p:=by exact (show _=_ from M.gQ (i:=2) rfl).trans (show _=_ from MV.gQ (i:=2) rfl).symm):p:=h
theorem Ad {p:Prop} (h:p:=by exact (show _=_ from M.gQ (i:=1) rfl).trans (show _=_ from MV.gQ (i:=1) rfl).symm):p:=h
theorem Ae {p:Prop} (h:p:=by exact (show _=_ from M.gQ (i:=0) rfl).trans (show _=_ from MV.gQ (i:=0) rfl).symm):p:=h
theorem Af {p:Prop} (h:p:=by exact (M.pick [0,1,2,3,4,5,6,7] aL).has i e hi):p:=h
theorem Lc {p:Prop} (h:p:=by exact aOd K hDw rfl (lF K rfl aNy (M.aPS hBD hDw (i:=2) rfl) rfl) ⟨_,rfl,rfl,Mem.fin (ZX (PR.trans M.low) hBD _)⟩):p:=h
theorem Ld {p:Prop} (h:p:=by exact iG 8 (Bi,Bj,Bl,aC.wrap (i+1)) (M.pick [0,1,2,3,4] aL)):p:=h
theorem R7 {eA fY:Int} {fZ:List Int} {kY:Option Addr} {kZ:Nat} {o p2 p3:Int} {r:bU} (h:Bm N eA fY fZ o p2 p3=some r) (AN:SL w0 (cI .i64) kY fZ) (IG:fZ.length≤kZ) :
  lL 256 #[.agg #[I eA,I fY,.slice kY fZ.length kZ],I o,I p2,I p3] w0 (Ur r w0):=by
 refine XO Tryz.func256 rfl Tryz.ntmps256 rfl ?_;intro a K;have M:=Mem.start w0;replace K:Kn a 92 [(0,_),(1,_),(2,_),(3,_)]:=K;unfold Bm at h;revert a;refine eE 2 ?_;intro jM w M;refine eE 0 ?_;intro dY w M;refine eE 0 ?_;intro fN w M;refine eE 4 ?_;intro vM w M;refine eE 0 ?_;intro D8 w M;refine aH 8 ?_;refine Zin 257 Tryz.func257 Tryz.ntmps257 ?_;refine eE 2 ?_;intro Ie w M;refine eE 0 ?_;intro Jv w M;refine eE 0 ?_;intro g_y w M;refine aH 10 ?_;refine Ps ?_;refine aH 3 ?_;obtain ⟨hC,h⟩:=aBC h;intro a K;replace K:Kn a 92 [(2,I p2),(3,I p3),(4,pQ jM),(5,pQ dY),(8,pQ fN),(9,pQ vM),(10,pQ D8),(22,.func (.func 258) #[] #[pQ g_y,pQ Ie,pQ Jv])]:=K.pick [2,3,4,5,8,9,10,22]
 have hkL:∀k∈[Ie,Jv,g_y],k<_:=fun k hk=>by
  simp only [List.mem_cons,List.not_mem_nil,or_false] at hk
  rcases hk with rfl|rfl|rfl
  ·exact (M.gQ (i:=2) rfl).lt
  ·exact (M.gQ (i:=1) rfl).lt
  exact (M.gQ (i:=0) rfl).lt
 refine wpIn_wide.1 (wpIn_rangeFunc_ownF (F:=Fence.wide) (n:=3) rfl aL (gf:=258) (lb:=#[pQ g_y,pQ Ie,pQ Jv]) (K.ev (x:=.tmp 22) rfl) trivial (ZY (B8 258 aQ))
  (S4 2 aL eA fY p2 p3 kY fZ.length kZ Ie Jv g_y hC.2.2.1 hC.2.2.2.2.2.1 ⟨hC.1,hC.2.1⟩ ⟨hC.2.2.2.1,hC.2.2.2.2.1⟩ _ (M.gQ (i:=2) rfl) (M.gQ (i:=1) rfl) (M.gQ (i:=0) rfl)) XP (fun V l o o' hl _ _ _ k hk _=>World.putObj_heap_other (by have:=hkL k hk;omega)) (Below.refl _ _) (fun _=>rfl)
  (fun (pre:List (InP eA fY)) V=>Below w0.heap.size w0 V∧∀(i:Nat) (e:mM),([.blk g_y 3 [I p3],.blk Jv 3 [I p2],.blk Ie 45 [I eA,I fY,.slice kY fZ.length kZ],.blk D8 65 [I ((List.foldl (gH N eA fZ o) (0,0,0,0,0,0) (pre.map (·.1)))).1,I ((List.foldl (gH N eA fZ o) (0,0,0,0,0,0) (pre.map (·.1)))).2.1,I ((List.foldl (gH N eA fZ o) (0,0,0,0,0,0) (pre.map (·.1)))).2.2.1],.blk vM 65 [I ((List.foldl (gH N eA fZ o) (0,0,0,0,0,0) (pre.map (·.1)))).2.2.2.1,I ((List.foldl (gH N eA fZ o) (0,0,0,0,0,0) (pre.map (·.1)))).2.2.2.2.1,I ((List.foldl (gH N eA fZ o) (0,0,0,0,0,0) (pre.map (·.1)))).2.2.2.2.2],.blk fN 65 [I 0,I 0,I 0],.blk dY 3 [I o],.blk jM 45 [I eA,I fY,.slice kY fZ.length kZ]]:List mM)[i]? = some e→mM.holds V e) (fun _ _ _=>False)
  (fun pre V V' row hs hg hr=>aCN (β:=Qw) (fun s=>[.blk g_y 3 [I p3],.blk Jv 3 [I p2],.blk Ie 45 [I eA,I fY,.slice kY fZ.length kZ],.blk D8 65 [I s.1,I s.2.1,I s.2.2.1],.blk vM 65 [I s.2.2.2.1,I s.2.2.2.2.1,I s.2.2.2.2.2],.blk fN 65 [I 0,I 0,I 0],.blk dY 3 [I o],.blk jM 45 [I eA,I fY,.slice kY fZ.length kZ]]) M rfl (fun _=>rfl) (List.foldl (gH N eA fZ o) (0,0,0,0,0,0) (pre.map (·.1))) V V' row hs hg hr) (fun c s V V' row hs _ _=>hs) ⟨M.low,fun i e h=>M.has i e h⟩
  (fun q=>((({ tmps:=(#[23,24].zip (S3 eA fY q)).foldl (fun t (p,v)=>t.setIfInBounds p v) a.tmps,defers:=[] }:Act).put (some 11) (({ tmps:=(#[23,24].zip (S3 eA fY q)).foldl (fun t (p,v)=>t.setIfInBounds p v) a.tmps,defers:=[] }:Act).eval (.tmp 23))).put (some 12) ((({ tmps:=(#[23,24].zip (S3 eA fY q)).foldl (fun t (p,v)=>t.setIfInBounds p v) a.tmps,defers:=[] }:Act).put (some 11) (({ tmps:=(#[23,24].zip (S3 eA fY q)).foldl (fun t (p,v)=>t.setIfInBounds p v) a.tmps,defers:=[] }:Act).eval (.tmp 23))).eval (.tmp 24)))) ?_ ?_ ?_ (fun D c pre V _ _ h _=>h.elim))
 ·intro lp q V K2 hK2;refine wpIn_seq ?_;refine O7 aQ (fun ⟨_,_,h⟩=>h) ?_;refine aJp rfl rfl ?_;refine wnQ (wY ?_);refine O7 aQ (fun ⟨_,_,h⟩=>h) ?_;refine aJp rfl rfl ?_;refine wnQ ?_;exact hK2
 ·clear h;rintro lp pre ⟨⟨u,v⟩,hq⟩ V ⟨PR,Z2⟩ _;obtain ⟨s,hs⟩:∃s,List.foldl (gH N eA fZ o) (0,0,0,0,0,0) (pre.map (·.1))=s:=⟨_,rfl⟩
  simp only [hs] at Z2;obtain ⟨GE,GF,GG,LM,LN,LO⟩:=s;have MV:Mem w0.heap.size V V [.blk g_y 3 [I p3],.blk Jv 3 [I p2],.blk Ie 45 [I eA,I fY,.slice kY fZ.length kZ],.blk D8 65 [I GE,I GF,I GG],.blk vM 65 [I LM,I LN,I LO],.blk fN 65 [I 0,I 0,I 0],.blk dY 3 [I o],.blk jM 45 [I eA,I fY,.slice kY fZ.length kZ]]:=M.round rfl PR Z2;replace K:Kn ((({ tmps:=(#[23,24].zip (S3 eA fY ⟨(u,v),hq⟩)).foldl (fun t (p,v)=>t.setIfInBounds p v) a.tmps,defers:=[] }:Act).put (some 11) (({ tmps:=(#[23,24].zip (S3 eA fY ⟨(u,v),hq⟩)).foldl (fun t (p,v)=>t.setIfInBounds p v) a.tmps,defers:=[] }:Act).eval (.tmp 23))).put (some 12) ((({ tmps:=(#[23,24].zip (S3 eA fY ⟨(u,v),hq⟩)).foldl (fun t (p,v)=>t.setIfInBounds p v) a.tmps,defers:=[] }:Act).put (some 11) (({ tmps:=(#[23,24].zip (S3 eA fY ⟨(u,v),hq⟩)).foldl (fun t (p,v)=>t.setIfInBounds p v) a.tmps,defers:=[] }:Act).eval (.tmp 23))).eval (.tmp 24))) 92 [(12,I v),(11,I u),(24,I v),(23,I u),(2,I p2),(3,I p3),(4,pQ jM),(5,pQ dY),(8,pQ fN),(9,pQ vM),(10,pQ D8),(22,.func (.func 258) #[] #[pQ g_y,pQ Ie,pQ Jv])]:=(K.ps2 (i:=23) (j:=24) (u:=I u) (v:=I v) rfl rfl).aPT rfl rfl rfl rfl;clear M;have M:=MV;obtain ⟨r,hr⟩:=J6 N eA fZ o hC hq GE GF GG LM LN LO;have h:=hr;unfold rY at h;refine wpIn_block ?_;refine wpIn_seq ?_;refine O7 aQ (fun ⟨_,_,h⟩=>h) ?_;refine X_r K (vI rfl Hc K rfl (Aw 6 rfl) rfl) M ?_;clear K;obtain ⟨r3,gP,h⟩:=aB h;refine fP 2 (FK gP) ?_;intro w M;refine aH 7 ?_;intro a K;refine wpIn_seq ?_;refine VW (fun w=>Mem _ _ w _) [0,1,0,0,0,0,0,0,0,0,0,0,0,0,0,0,2] aQ aQ aQ (fun ⟨_,_,h⟩=>h) M.drew ?_;replace M:=M.drew;revert a;refine aH 1 ?_;intro a K;refine aDv (vs:=[pQ vM,I r3.1]) (cap:=[]) K (cA rfl) rfl rfl rfl (B8 96 aQ) rfl rfl ?_;clear K;refine qC Tryz.func96 rfl Tryz.ntmps96 rfl ?_;refine cB 18 h ?_ ?_
  ·intro hb h;refine aH 11 ?_;intro a K;refine D4 K rfl (jD K rfl) ⟨_,rfl,?_⟩;clear K;intro a K;refine ⟨M.pick [0,1,2,3,4,5,6,7] aL,?_⟩;revert a;obtain ⟨e4,aCQ,h⟩:=aB h;refine aH 10 ?_;refine G4 (fun _ K=>KW rfl pI K rfl rfl ((PQ PR AN) _ M) aCQ) ?_;refine G4 (fun _ K=>DA rfl Hc K rfl rfl (PQ PR AN) aCQ rfl) ?_;refine aH 2 ?_;refine z7 (fun _ K=>jX M K 4) ?_;intro _ w M;refine aH 2 ?_;intro a K;refine O7 aQ (fun ⟨_,_,h⟩=>h) ?_;revert a;refine aH 1 ?_;refine Zin 96 Tryz.func96 Tryz.ntmps96 ?_;refine cB 18 h ?_ ?_
   ·intro hb h;refine aH 11 ?_;refine Ps ?_;refine cV 4 ?_;intro w M;refine aH 2 ?_;intro a K;cases h;refine ⟨M.others,fun k hk _=>?_,PR.trans M.low,fun i e hi=>?_⟩
    ·simp only [List.mem_cons,List.not_mem_nil,or_false] at hk
     rcases hk with rfl|rfl|rfl
     ·exact Ab
     ·exact Ad
     exact Ae
    have hS:=lW N eA fZ o pre ⟨(u,v),hq⟩ hs hr;simp only [hS] at hi;exact Af
   intro hb h;refine cB 6 h ?_ ?_
   ·intro hb h;refine aH 11 ?_;refine Ps ?_;refine cV 4 ?_;intro w M;refine aH 2 ?_;intro a K;cases h;refine ⟨M.others,fun k hk _=>?_,PR.trans M.low,fun i e hi=>?_⟩
    ·simp only [List.mem_cons,List.not_mem_nil,or_false] at hk
     rcases hk with rfl|rfl|rfl
     ·exact Ab
     ·exact Ad
     exact Ae
    have hS:=lW N eA fZ o pre ⟨(u,v),hq⟩ hs hr;simp only [hS] at hi;exact Af
   intro hb h;refine aH 12 ?_;refine Ps ?_;refine cV 4 ?_;intro w M;refine aH 2 ?_;intro a K;cases h;refine ⟨M.others,fun k hk _=>?_,PR.trans M.low,fun i e hi=>?_⟩
   ·simp only [List.mem_cons,List.not_mem_nil,or_false] at hk
    rcases hk with rfl|rfl|rfl
    ·exact Ab
    ·exact Ad
    exact Ae
   have hS:=lW N eA fZ o pre ⟨(u,v),hq⟩ hs hr;simp only [hS] at hi;exact Af
  intro hb h;refine cB 6 h ?_ ?_
  ·intro hb h;refine aH 11 ?_;intro a K;refine D4 K rfl (jD K rfl) ⟨_,rfl,?_⟩;clear K;intro a K;refine ⟨M.pick [0,1,2,3,4,5,6,7] aL,?_⟩;revert a;obtain ⟨e5,aIs,h⟩:=aB h;refine aH 10 ?_;refine G4 (fun _ K=>KW rfl pI K rfl rfl ((PQ PR AN) _ M) aIs) ?_;refine G4 (fun _ K=>DA rfl Hc K rfl rfl (PQ PR AN) aIs rfl) ?_;refine aH 2 ?_;refine z7 (fun _ K=>jX M K 4) ?_;intro _ w M;refine aH 2 ?_;intro a K;refine O7 aQ (fun ⟨_,_,h⟩=>h) ?_;revert a;refine aH 1 ?_;refine Zin 96 Tryz.func96 Tryz.ntmps96 ?_;refine cB 18 h ?_ ?_
   ·intro hb h;refine aH 11 ?_;refine Ps ?_;refine cV 4 ?_;intro w M;refine aH 2 ?_;intro a K;cases h;refine ⟨M.others,fun k hk _=>?_,PR.trans M.low,fun i e hi=>?_⟩
    ·simp only [List.mem_cons,List.not_mem_nil,or_false] at hk
     rcases hk with rfl|rfl|rfl
     ·exact Ab
     ·exact Ad
     exact Ae
    have hS:=lW N eA fZ o pre ⟨(u,v),hq⟩ hs hr;simp only [hS] at hi;exact Af
   intro hb h;refine cB 6 h ?_ ?_
   ·intro hb h;refine aH 11 ?_;refine Ps ?_;refine cV 4 ?_;intro w M;refine aH 2 ?_;intro a K;cases h;refine ⟨M.others,fun k hk _=>?_,PR.trans M.low,fun i e hi=>?_⟩
    ·simp only [List.mem_cons,List.not_mem_nil,or_false] at hk
     rcases hk with rfl|rfl|rfl
     ·exact Ab
     ·exact Ad
     exact Ae
    have hS:=lW N eA fZ o pre ⟨(u,v),hq⟩ hs hr;simp only [hS] at hi;exact Af
   intro hb h;refine aH 12 ?_;refine Ps ?_;refine cV 4 ?_;intro w M;refine aH 2 ?_;intro a K;cases h;refine ⟨M.others,fun k hk _=>?_,PR.trans M.low,fun i e hi=>?_⟩
   ·simp only [List.mem_cons,List.not_mem_nil,or_false] at hk
    rcases hk with rfl|rfl|rfl
    ·exact Ab
    ·exact Ad
    exact Ae
   have hS:=lW N eA fZ o pre ⟨(u,v),hq⟩ hs hr;simp only [hS] at hi;exact Af
  intro hb h;refine aH 12 ?_;intro a K;refine D4 K rfl (jD K rfl) ⟨_,rfl,?_⟩;clear K;intro a K;refine ⟨M.pick [0,1,2,3,4,5,6,7] aL,?_⟩;revert a;obtain ⟨e6,aIj,h⟩:=aB h;refine aH 10 ?_;refine G4 (fun _ K=>KW rfl pI K rfl rfl ((PQ PR AN) _ M) aIj) ?_;refine G4 (fun _ K=>DA rfl Hc K rfl rfl (PQ PR AN) aIj rfl) ?_;refine aH 2 ?_;refine z7 (fun _ K=>jX M K 4) ?_;intro _ w M;refine aH 2 ?_;intro a K;refine O7 aQ (fun ⟨_,_,h⟩=>h) ?_;revert a;refine aH 1 ?_;refine Zin 96 Tryz.func96 Tryz.ntmps96 ?_;refine cB 18 h ?_ ?_
  ·intro hb h;refine aH 11 ?_;refine Ps ?_;refine cV 4 ?_;intro w M;refine aH 2 ?_;intro a K;cases h;refine ⟨M.others,fun k hk _=>?_,PR.trans M.low,fun i e hi=>?_⟩
   ·simp only [List.mem_cons,List.not_mem_nil,or_false] at hk
    rcases hk with rfl|rfl|rfl
    ·exact Ab
    ·exact Ad
    exact Ae
   have hS:=lW N eA fZ o pre ⟨(u,v),hq⟩ hs hr;simp only [hS] at hi;exact Af
  intro hb h;refine cB 6 h ?_ ?_
  ·intro hb h;refine aH 11 ?_;refine Ps ?_;refine cV 4 ?_;intro w M;refine aH 2 ?_;intro a K;cases h;refine ⟨M.others,fun k hk _=>?_,PR.trans M.low,fun i e hi=>?_⟩
   ·simp only [List.mem_cons,List.not_mem_nil,or_false] at hk
    rcases hk with rfl|rfl|rfl
    ·exact Ab
    ·exact Ad
    exact Ae
   have hS:=lW N eA fZ o pre ⟨(u,v),hq⟩ hs hr;simp only [hS] at hi;exact Af
  intro hb h;refine aH 12 ?_;refine Ps ?_;refine cV 4 ?_;intro w M;refine aH 2 ?_;intro a K;cases h;refine ⟨M.others,fun k hk _=>?_,PR.trans M.low,fun i e hi=>?_⟩
  ·simp only [List.mem_cons,List.not_mem_nil,or_false] at hk
   rcases hk with rfl|rfl|rfl
   ·exact Ab
   ·exact Ad
   exact Ae
  have hS:=lW N eA fZ o pre ⟨(u,v),hq⟩ hs hr;simp only [hS] at hi;exact Af
 rintro D xs V hBD hxs ⟨PR,Z2⟩ hD;replace hBD:=Nat.le_trans M.sz hBD;rw [hxs] at Z2;obtain ⟨s,hs⟩:∃s,List.foldl (gH N eA fZ o) (0,0,0,0,0,0) (nC eA fY p2 p3)=s:=⟨_,rfl⟩
 rw [hs] at h;simp only [hs] at Z2;obtain ⟨GE,GF,GG,LM,LN,LO⟩:=s;replace M:Mem w0.heap.size V V [.blk g_y 3 [I p3],.blk Jv 3 [I p2],.blk Ie 45 [I eA,I fY,.slice kY fZ.length kZ],.blk D8 65 [I GE,I GF,I GG],.blk vM 65 [I LM,I LN,I LO],.blk fN 65 [I 0,I 0,I 0],.blk dY 3 [I o],.blk jM 45 [I eA,I fY,.slice kY fZ.length kZ]]:=M.round rfl PR Z2;replace K:=K.mark { target:=.collected D,args:=#[] }
 generalize ({ tmps:=a.tmps,defers:={ target:=.collected D,args:=#[] } :: a.defers }:Act)=a at K ⊢
 clear hs Z2 hxs;unfold EB at h
 revert a;refine pM 9 2 [2,3,4,5,8,9,10] [5,6,7] (fun ZL ZM (⟨Bi,Bj,Bl,i⟩:yN) a w=>Kd [{ target:=.collected D,args:=#[] }] a 92 ((54,I i)::ZL)∧Mem w0.heap.size V w (.blk D8 65 [I GE,I GF,I GG] :: .blk vM 65 [I Bi,I Bj,I Bl]::ZM)) (M.pick [3,4,5,6,7] aL) ?_ ?_
 ·rintro ⟨YP,YQ,YR,i2⟩ a w ⟨K,M⟩ h
  revert a;obtain ⟨r4,lJ,h⟩:=aB h;refine fP 7 (FK lJ) ?_;intro w M;refine aH 8 ?_;intro a K;refine aK (fun w=>Mem _ _ w _) [0,1,0,0,0,0,0,0,0,0,0,0,0,2] aQ aQ M.drew ?_;replace M:=M.drew;revert a;refine aH 1 ?_;intro a K;refine aDv (vs:=[pQ vM,I r4.1]) (cap:=[]) K (cA rfl) rfl rfl rfl (B8 96 aQ) rfl rfl ?_;clear K;refine qC Tryz.func96 rfl Tryz.ntmps96 rfl ?_;refine cB 18 h ?_ ?_
  ·intro hb h;refine aH 11 ?_;intro a K;refine D4 K rfl (jD K rfl) ⟨_,rfl,?_⟩;clear K;intro a K;refine ⟨M.pick [0,1,2,3,4] aL,?_⟩;revert a;obtain ⟨e7,aIt,h⟩:=aB h;refine aH 8 ?_;refine G4 (fun _ K=>KW rfl pI K rfl rfl ((PQ PR AN) _ M) aIt) ?_;refine G4 (fun _ K=>DA rfl Hc K rfl rfl (PQ PR AN) aIt rfl) ?_;refine aH 1 ?_;refine z7 (fun _ K=>jX M K 1) ?_;intro _ w M;refine cV 5 ?_;intro w M;refine aH 3 ?_;intro a K;cases h;have hDw:=M.UH D _ hD rfl;exact Lc
  intro hb h;refine cB 6 h ?_ ?_
  ·intro hb h;refine aH 11 ?_;intro a K;refine D4 K rfl (jD K rfl) ⟨_,rfl,?_⟩;clear K;intro a K;refine ⟨M.pick [0,1,2,3,4] aL,?_⟩;revert a;obtain ⟨e8,aIu,h⟩:=aB h;refine aH 8 ?_;refine G4 (fun _ K=>KW rfl pI K rfl rfl ((PQ PR AN) _ M) aIu) ?_;refine G4 (fun _ K=>DA rfl Hc K rfl rfl (PQ PR AN) aIu rfl) ?_;refine aH 1 ?_;refine z7 (fun _ K=>jX M K 1) ?_;intro _ w M;refine cV 5 ?_;intro w M;refine aH 3 ?_;intro a K;cases h;have hDw:=M.UH D _ hD rfl;exact Lc
  intro hb h;refine aH 12 ?_;intro a K;refine D4 K rfl (jD K rfl) ⟨_,rfl,?_⟩;clear K;intro a K;refine ⟨M.pick [0,1,2,3,4] aL,?_⟩;revert a;obtain ⟨e9,aIv,h⟩:=aB h;refine aH 8 ?_;refine G4 (fun _ K=>KW rfl pI K rfl rfl ((PQ PR AN) _ M) aIv) ?_;refine G4 (fun _ K=>DA rfl Hc K rfl rfl (PQ PR AN) aIv rfl) ?_;refine aH 1 ?_;refine z7 (fun _ K=>jX M K 1) ?_;intro _ w M;refine cV 5 ?_;intro w M;refine aH 3 ?_;intro a K;cases h;have hDw:=M.UH D _ hD rfl;exact Lc
 rintro kk aA ⟨Bi,Bj,Bl,i⟩ a w hk1 ⟨K,M⟩ h;unfold cW at h;revert a;refine cB 6 h ?_ ?_
 ·intro hb h;refine aH 13 ?_;refine Zin 96 Tryz.func96 Tryz.ntmps96 ?_;refine cB 18 h ?_ ?_
  ·intro hb h;refine aH 11 ?_;refine Ps ?_;refine cB 11 h ?_ ?_
   ·intro hb h;refine aH 2 ?_;refine Zin 96 Tryz.func96 Tryz.ntmps96 ?_;refine cB 18 h ?_ ?_
    ·intro hb h;refine aH 11 ?_;refine Ps ?_;obtain ⟨_,h0,h⟩:=aB h;have h0:=dG h0;refine cV 5 ?_;intro w M;exact iG 8 (aC.wrap (gI Bi GE),Bj,Bl,aC.wrap (i+1)) (M.pick [0,1,2,3,4] aL)
    intro hb h;refine cB 6 h ?_ ?_
    ·intro hb h;refine aH 11 ?_;refine Ps ?_;obtain ⟨_,h0,h⟩:=aB h;have h0:=dG h0;refine cV 5 ?_;intro w M;exact iG 8 (Bi,aC.wrap (gI Bj GE),Bl,aC.wrap (i+1)) (M.pick [0,1,2,3,4] aL)
    intro hb h;refine aH 12 ?_;refine Ps ?_;obtain ⟨_,h0,h⟩:=aB h;have h0:=dG h0;refine cV 5 ?_;intro w M;exact iG 8 (Bi,Bj,aC.wrap (gI Bl GE),aC.wrap (i+1)) (M.pick [0,1,2,3,4] aL)
   intro hb h;exact Ld
  intro hb h;refine cB 6 h ?_ ?_
  ·intro hb h;refine aH 11 ?_;refine Ps ?_;refine cB 11 h ?_ ?_
   ·intro hb h;refine aH 2 ?_;refine Zin 96 Tryz.func96 Tryz.ntmps96 ?_;refine cB 18 h ?_ ?_
    ·intro hb h;refine aH 11 ?_;refine Ps ?_;obtain ⟨_,h0,h⟩:=aB h;have h0:=dG h0;refine cV 5 ?_;intro w M;exact iG 8 (aC.wrap (gI Bi GF),Bj,Bl,aC.wrap (i+1)) (M.pick [0,1,2,3,4] aL)
    intro hb h;refine cB 6 h ?_ ?_
    ·intro hb h;refine aH 11 ?_;refine Ps ?_;obtain ⟨_,h0,h⟩:=aB h;have h0:=dG h0;refine cV 5 ?_;intro w M;exact iG 8 (Bi,aC.wrap (gI Bj GF),Bl,aC.wrap (i+1)) (M.pick [0,1,2,3,4] aL)
    intro hb h;refine aH 12 ?_;refine Ps ?_;obtain ⟨_,h0,h⟩:=aB h;have h0:=dG h0;refine cV 5 ?_;intro w M;exact iG 8 (Bi,Bj,aC.wrap (gI Bl GF),aC.wrap (i+1)) (M.pick [0,1,2,3,4] aL)
   intro hb h;exact Ld
  intro hb h;refine aH 12 ?_;refine Ps ?_;refine cB 11 h ?_ ?_
  ·intro hb h;refine aH 2 ?_;refine Zin 96 Tryz.func96 Tryz.ntmps96 ?_;refine cB 18 h ?_ ?_
   ·intro hb h;refine aH 11 ?_;refine Ps ?_;obtain ⟨_,h0,h⟩:=aB h;have h0:=dG h0;refine cV 5 ?_;intro w M;exact iG 8 (aC.wrap (gI Bi GG),Bj,Bl,aC.wrap (i+1)) (M.pick [0,1,2,3,4] aL)
   intro hb h;refine cB 6 h ?_ ?_
   ·intro hb h;refine aH 11 ?_;refine Ps ?_;obtain ⟨_,h0,h⟩:=aB h;have h0:=dG h0;refine cV 5 ?_;intro w M;exact iG 8 (Bi,aC.wrap (gI Bj GG),Bl,aC.wrap (i+1)) (M.pick [0,1,2,3,4] aL)
   intro hb h;refine aH 12 ?_;refine Ps ?_;obtain ⟨_,h0,h⟩:=aB h;have h0:=dG h0;refine cV 5 ?_;intro w M;exact iG 8 (Bi,Bj,aC.wrap (gI Bl GG),aC.wrap (i+1)) (M.pick [0,1,2,3,4] aL)
  intro hb h;exact Ld
 intro hb h;exact jY 3 (hk1 (Bi,Bj,Bl,i)) (M.pick [0,1,2,3,4] aL)
theorem Le {p:Prop} (h:p:=by exact eB 5 (((Mem.cC 65 3 dJ M)).pick [0] aL)):p:=h
theorem S5 {lE mS:Int} {iI:List Int} {kC:Option Addr} {kD:Nat} {r:yH} (h:AA N lE mS iI aI=some r) (xN:SL w0 (cI .i64) kC iI) (zS:iI.length≤kD) :
  lL 255 #[.agg #[I lE,I mS,.slice kC iI.length kD],I aI] w0 (JN r w0):=by
 refine gE Tryz.func255 Tryz.ntmps255 ?_;intro M;unfold AA at h;refine eE 2 ?_;intro Ie w M;refine eE 0 ?_;intro jM w M;obtain ⟨r2,cR,h⟩:=aB h;refine fP 7 (Aq N lE mS iI kC kD (([]:List aN)) none 0 _ ((Cc xN) _ M) zS ((fun _ _=>SL.nil) _ M) (pK _) r2 cR) ?_;intro A c w M;refine eE 3 ?_;intro g__ w M;refine cV 0 ?_;intro w M;refine cB 9 h ?_ ?_
 ·intro hb h;refine cV 4 ?_;intro w M;exact Le
 intro hb h;refine kJ 8 22 h ?_ ?_
 ·intro hb h;refine cV 9 ?_;intro w M;exact Le
 intro hb h;refine cB 5 h ?_ ?_
 ·intro hb h;refine cV 3 ?_;intro w M;exact Le
 intro hb h;refine aH 8 ?_;refine jO (fun _ K=>bQ rfl K (vs:=[(0,I lE),(1,I mS)]) (cs:=[I lE,I mS,.slice none (([]:List bU)).length 0]) rfl aQ) M ?_;refine eE 0 ?_;intro vF w M;refine cV 0 ?_;intro w M;refine aH 11 ?_;replace M:=Mem.cC 65 3 dJ M;refine pM 0 0 [1,2,4,8,33] [4,5] (fun ZL ZM (⟨cJ,i⟩:pN) a w=>∃(A2:Option Addr) (c2:Nat),Kn a 55 ((34,I i)::ZL)∧jL w0 w (.row 65 3 A2 cJ.length c2 (dJ.all cJ) :: .blk vF 50 [I lE,I mS,.slice A2 cJ.length c2]::ZM)) (M.pick [0,1,4,5] aL) ?_ ?_
 ·rintro ⟨H9,i5⟩ a w ⟨A9,c9,K,M⟩ h
  revert a;refine cV 5 ?_;intro w M;exact eB 4 M.oQ
 rintro kk aA ⟨cJ,i⟩ a w hk1 ⟨A2,c2,K,M⟩ h;unfold tG at h;revert a;refine cB 6 h ?_ ?_
 ·intro hb h;refine pM 18 2 [1,2,4,8,33,34,9,38] [2,3] (fun ZL ZM (⟨nD,i3⟩:pN) a w=>∃(A5:Option Addr) (c5:Nat),Kn a 55 ((39,I i3)::ZL)∧jL w0 w (.row 65 3 A5 nD.length c5 (dJ.all nD) :: .blk vF 50 [I lE,I mS,.slice A5 nD.length c5]::ZM)) (M.pick [0,1,2,3] aL) ?_ ?_
  ·rintro ⟨GI,i4⟩ a w ⟨A8,c8,K,M⟩ h
   revert a;exact iG 8 (GI,aC.wrap (i+1)) (M.pick [0,1,2,3] aL)
  rintro kk aA ⟨nD,i3⟩ a w hk2 ⟨A5,c5,K,M⟩ h;unfold vX at h;revert a;refine cB 6 h ?_ ?_
  ·intro hb h;refine aH 10 ?_;intro a K;refine aK (fun w=>Mem _ _ w _) [0,0,0,0,0,0,1,1,1,0,2] aQ aQ (M.pick [1,2,3] aL).drew ?_;replace M:=M.drew;revert a;obtain ⟨r5,qA,h⟩:=aB h;refine rU 6 (R7 qA) ?_;intro w M;refine Gf (fun _ K=>bS rfl wU z65 K (vs:=[(0,.agg #[I r5.1,I r5.2.1,I r5.2.2])]) (cs:=[I r5.1,I r5.2.1,I r5.2.2]) rfl aQ rfl rfl M) ?_;rintro _ w ⟨gs3,rfl,M⟩;replace M:=M.fX 0 rfl dJ ([(r5.1,r5.2.1,r5.2.2)]:List bU) (n:=1) rfl rfl rfl;refine ⟨M.toS,?_⟩;obtain ⟨GH,Lf,h⟩:=aB h;refine Gf (fun _ K=>fQ (C:=dJ) (xs:=nD) (ys:=([(r5.1,r5.2.1,r5.2.2)]:List bU)) rfl wU rfl z65 rfl rfl K rfl rfl 1 M rfl ((p9 (C:=dJ) 0 rfl rfl) _ M) Lf) ?_;rintro _ w ⟨A7,c7,rfl,M⟩;refine ⟨M.toS,?_⟩;refine aH 1 ?_;refine z7 (fun _ K=>jX M K 2) ?_;intro _ w M;exact iG 8 (GH,aC.wrap (i3+1)) (M.pick [1,2,3,4] aL)
  intro hb h;exact jY 3 (hk2 (nD,i3)) (M.pick [0,1,2,3] aL)
 intro hb h;exact jY 3 (hk1 (cJ,i)) (M.pick [0,1,2,3] aL)
theorem S6 {r:Bool} (h:Cn N gF lK gG=some r) (Ar:SL w0 dJ kK gG) (zT:gG.length≤kW) :
  lL 94 #[.agg #[I gF,I lK,.slice kK gG.length kW]] w0 (DQ r w0):=by
 refine gE Tryz.func94 Tryz.ntmps94 ?_;intro M;unfold Cn at h;refine eE 2 ?_;intro LK w M;refine kJ 10 8 h ?_ ?_
 ·intro hb h;exact bP 35 M.nQ
 intro hb h;refine kJ 5 13 h ?_ ?_
 ·intro hb h;exact bP 30 M.nQ
 intro hb h;refine kJ 5 18 h ?_ ?_
 ·intro hb h;exact bP 25 M.nQ
 intro hb h;refine kJ 5 23 h ?_ ?_
 ·intro hb h;exact bP 20 M.nQ
 intro hb h;refine cB 12 h ?_ ?_
 ·intro hb h;exact bP 7 M.nQ
 intro hb h;refine pM 12 0 [35,36] [] (fun ZL ZM (i:Int) a w=>Kn a 60 ((37,I i)::ZL)∧jL w0 w []) M.nQ ?_ ?_
 ·rintro i2 a w ⟨K,M⟩ h
  revert a;exact bP 8 M.nQ
 rintro kk aA i a w hk1 ⟨K,M⟩ h;unfold vY at h;revert a;refine cB 6 h ?_ ?_
 ·intro hb h;obtain ⟨e2,_,h⟩:=aB h;refine eE 8 ?_;intro XW w M;refine cV 0 ?_;intro w M;refine aH 10 ?_;refine jO (fun _ K=>aGf rfl K rfl rfl rfl) M ?_;refine kJ 2 49 h ?_ ?_
  ·intro hb h;exact bP 23 M.nQ
  intro hb h;refine aH 6 ?_;refine jO (fun _ K=>aGe rfl K rfl rfl rfl) M ?_;refine cB 4 h ?_ ?_
  ·intro hb h;exact bP 11 M.nQ
  intro hb h;exact iG 8 (aC.wrap (i+1)) M.nQ
 intro hb h;exact jY 3 (hk1 i) M.nQ
theorem Lg {p:Prop} (h:p:=by exact eB 5 (((Mem.cC 3 1 (cI .i64) M)).pick [0] aL)):p:=h
theorem AD {r:pW} (h:qT N gF lK gG aI=some r) (Ar:SL w0 dJ kK gG) (zT:gG.length≤kW) :
  lL 42 #[.agg #[I gF,I lK,.slice kK gG.length kW],I aI] w0 (ZT r w0):=by
 refine gE Tryz.func42 Tryz.ntmps42 ?_;intro M;unfold qT at h;refine eE 2 ?_;intro LK w M;refine eE 0 ?_;intro jM w M;obtain ⟨r2,cR,h⟩:=aB h;refine fP 7 (S6 cR) ?_;intro w M;refine cB 3 h ?_ ?_
 ·intro hb h;refine cV 3 ?_;intro w M;exact Lg
 intro hb h;refine kJ 8 16 h ?_ ?_
 ·intro hb h;refine cV 9 ?_;intro w M;exact Lg
 intro hb h;refine cB 5 h ?_ ?_
 ·intro hb h;refine cV 3 ?_;intro w M;exact Lg
 intro hb h;refine aH 8 ?_;refine jO (fun _ K=>bQ rfl K (vs:=[(0,I gF),(1,I lK)]) (cs:=[I gF,I lK,.slice none ([]:List Int).length 0]) rfl aQ) M ?_;refine eE 0 ?_;intro vF w M;refine cV 0 ?_;intro w M;refine aH 12 ?_;replace M:=Mem.cC 3 1 (cI .i64) M;refine pM 0 0 [1,2,4,6,28] [2,3] (fun ZL ZM (⟨cJ,i⟩:gL) a w=>∃(A:Option Addr) (c:Nat),Kn a 60 ((29,I i)::ZL)∧jL w0 w (.row 3 1 A cJ.length c ((cI .i64).all cJ) :: .blk vF 45 [I gF,I lK,.slice A cJ.length c]::ZM)) (M.pick [0,1,2,3] aL) ?_ ?_
 ·rintro ⟨H9,i2⟩ a w ⟨A8,c8,K,M⟩ h
  revert a;refine cV 5 ?_;intro w M;exact eB 4 M.oQ
 rintro kk aA ⟨cJ,i⟩ a w hk1 ⟨A,c,K,M⟩ h;unfold pP at h;revert a;refine cB 6 h ?_ ?_
 ·intro hb h;refine aH 11 ?_;intro a K;refine aK (fun w=>Mem _ _ w _) [0,0,0,0,0,0,0,0,0,1,0,0,0,0,0] aQ aQ M.drew ?_;replace M:=M.drew;revert a;obtain ⟨_,h0,h⟩:=aB h;have h0:=dG h0;refine aH 8 ?_;obtain ⟨_,h0,h⟩:=aB h;have h0:=dG h0;refine aH 1 ?_;obtain ⟨r4,lJ,h⟩:=aB h;refine rU 0 (FK lJ) ?_;intro w M;refine aH 7 ?_;intro a K;refine aK (fun w=>Mem _ _ w _) [0,0,0,0,0,0,0,1,1,1,1,1,0,2] aQ aQ (M.pick [1,2,3] aL).drew ?_;replace M:=M.drew;revert a;obtain ⟨e2,_,h⟩:=aB h;refine aH 7 ?_;intro a K;refine aDv (vs:=[.pointer (some (((adr kK).add (Int.toNat i*3)))),I r4.1]) (cap:=[]) K (cA rfl) rfl rfl rfl (B8 96 aQ) rfl rfl ?_;clear K;refine qC Tryz.func96 rfl Tryz.ntmps96 rfl ?_;refine cB 18 h ?_ ?_
  ·intro hb h;refine aH 11 ?_;intro a K;refine D4 K rfl (jD K rfl) ⟨_,rfl,?_⟩;clear K;intro a K;refine ⟨M.pick [1,2,3] aL,?_⟩;revert a;refine aH 2 ?_;refine Gf (fun _ K=>bS rfl pI z3 K (vs:=[(0,I e2.1)]) (cs:=[I e2.1]) rfl aQ rfl rfl M) ?_;rintro _ w ⟨gs4,rfl,M⟩;replace M:=M.fX 0 rfl (cI .i64) ([e2.1]:List Int) (n:=1) rfl rfl rfl;refine ⟨M.toS,?_⟩;obtain ⟨YS,aFP,h⟩:=aB h;refine Gf (fun _ K=>fQ (C:=(cI .i64)) (xs:=cJ) (ys:=([e2.1]:List Int)) rfl pI rfl z3 rfl rfl K rfl rfl 1 M rfl ((p9 (C:=(cI .i64)) 0 rfl rfl) _ M) aFP) ?_;rintro _ w ⟨A5,c5,rfl,M⟩;refine ⟨M.toS,?_⟩;refine aH 1 ?_;refine z7 (fun _ K=>jX M K 2) ?_;intro _ w M;exact iG 8 (YS,aC.wrap (i+1)) (M.pick [1,2,3,4] aL)
  intro hb h;refine cB 6 h ?_ ?_
  ·intro hb h;refine aH 11 ?_;intro a K;refine D4 K rfl (jD K rfl) ⟨_,rfl,?_⟩;clear K;intro a K;refine ⟨M.pick [1,2,3] aL,?_⟩;revert a;refine aH 2 ?_;refine Gf (fun _ K=>bS rfl pI z3 K (vs:=[(0,I e2.2.1)]) (cs:=[I e2.2.1]) rfl aQ rfl rfl M) ?_;rintro _ w ⟨gs5,rfl,M⟩;replace M:=M.fX 0 rfl (cI .i64) ([e2.2.1]:List Int) (n:=1) rfl rfl rfl;refine ⟨M.toS,?_⟩;obtain ⟨GH,Lf,h⟩:=aB h;refine Gf (fun _ K=>fQ (C:=(cI .i64)) (xs:=cJ) (ys:=([e2.2.1]:List Int)) rfl pI rfl z3 rfl rfl K rfl rfl 1 M rfl ((p9 (C:=(cI .i64)) 0 rfl rfl) _ M) Lf) ?_;rintro _ w ⟨A6,c6,rfl,M⟩;refine ⟨M.toS,?_⟩;refine aH 1 ?_;refine z7 (fun _ K=>jX M K 2) ?_;intro _ w M;exact iG 8 (GH,aC.wrap (i+1)) (M.pick [1,2,3,4] aL)
  intro hb h;refine aH 12 ?_;intro a K;refine D4 K rfl (jD K rfl) ⟨_,rfl,?_⟩;clear K;intro a K;refine ⟨M.pick [1,2,3] aL,?_⟩;revert a;refine aH 2 ?_;refine Gf (fun _ K=>bS rfl pI z3 K (vs:=[(0,I e2.2.2)]) (cs:=[I e2.2.2]) rfl aQ rfl rfl M) ?_;rintro _ w ⟨gs6,rfl,M⟩;replace M:=M.fX 0 rfl (cI .i64) ([e2.2.2]:List Int) (n:=1) rfl rfl rfl;refine ⟨M.toS,?_⟩;obtain ⟨GI,aFQ,h⟩:=aB h;refine Gf (fun _ K=>fQ (C:=(cI .i64)) (xs:=cJ) (ys:=([e2.2.2]:List Int)) rfl pI rfl z3 rfl rfl K rfl rfl 1 M rfl ((p9 (C:=(cI .i64)) 0 rfl rfl) _ M) aFQ) ?_;rintro _ w ⟨A7,c7,rfl,M⟩;refine ⟨M.toS,?_⟩;refine aH 1 ?_;refine z7 (fun _ K=>jX M K 2) ?_;intro _ w M;exact iG 8 (GI,aC.wrap (i+1)) (M.pick [1,2,3,4] aL)
 intro hb h;exact jY 3 (hk1 (cJ,i)) (M.pick [0,1,2,3] aL)
end
section
variable {BW kK ZU:Option Addr} {N BX kW ZV BC NJ:Nat} {SK SJ SI n lK gF y:Int} {gG:List bU} {w0:World}
theorem NQ {d:List aN} {A_d:Option Addr} {c_d:Nat} {r:Bool} (h:jP N d=some r) (R_d:SL w0 jG A_d d) (C_d:d.length≤c_d) :
  lL 134 #[.slice A_d d.length c_d] w0 (DQ r w0):=by
 refine gE Tryz.func134 Tryz.ntmps134 ?_;intro M;unfold jP at h;refine kJ 12 7 h ?_ ?_
 ·intro hb h;exact bP 48 M.nQ
 intro hb h;refine kJ 5 12 h ?_ ?_
 ·intro hb h;exact bP 43 M.nQ
 intro hb h;obtain ⟨e,_,h⟩:=aB h;refine kJ 7 19 h ?_ ?_
 ·intro hb h;exact bP 36 M.nQ
 intro hb h;refine aH 4 ?_;obtain ⟨e2,_,h⟩:=aB h;refine kJ 6 29 h ?_ ?_
 ·intro hb h;exact bP 26 M.nQ
 intro hb h;refine aH 1 ?_;obtain ⟨e3,_,h⟩:=aB h;refine kJ 6 36 h ?_ ?_
 ·intro hb h;exact bP 19 M.nQ
 intro hb h;refine aH 4 ?_;obtain ⟨e4,_,h⟩:=aB h;refine cB 7 h ?_ ?_
 ·intro hb h;exact bP 7 M.nQ
 intro hb h;refine aH 6 ?_;obtain ⟨l2,z8,h⟩:=aB h;refine jO (fun _ K=>Fa (C:=jG) (k:=.i64) (k':=.i64) rfl IE rfl K rfl C_d rfl rfl z8) M ?_;refine pM 5 0 [0,48] [] (fun ZL ZM (i:Int) a w=>Kn a 79 ((49,I i)::ZL)∧jL w0 w []) M.nQ ?_ ?_
 ·rintro i2 a w ⟨K,M⟩ h
  revert a;exact bP 8 M.nQ
 rintro kk aA i a w hk1 ⟨K,M⟩ h;unfold xB at h;revert a;refine cB 6 h ?_ ?_
 ·intro hb h;refine Xx 11 ?_;replace M:=M.drew;obtain ⟨e9,_,h⟩:=aB h;refine aH 8 ?_;obtain ⟨e10,_,h⟩:=aB h;refine kJ 5 64 h ?_ ?_
  ·intro hb h;exact bP 27 M.nQ
  intro hb h;refine aH 2 ?_;obtain ⟨e11,_,h⟩:=aB h;refine aH 6 ?_;obtain ⟨e12,_,h⟩:=aB h;refine cB 7 h ?_ ?_
  ·intro hb h;exact bP 11 M.nQ
  intro hb h;exact iG 8 (aC.wrap (i+1)) M.nQ
 intro hb h;exact jY 3 (hk1 i) M.nQ
theorem XX {i:Int} {v0:List aN} {v1:Int} {r:Bool} (h:HJ N i v0 v1=some r) (aN3:SL w0 jG ZU v0) (aN4:v0.length≤ZV) (Aa:kX w0 BC 37 #[.slice ZU v0.length ZV]) (RZ:kX w0 NJ 3 #[I v1]) :
  lL 163 #[I i,pQ BC,pQ NJ] w0 (DQ r w0):=by
 refine gE Tryz.func163 Tryz.ntmps163 ?_;intro M;unfold HJ at h;refine Xx 6 ?_;replace M:=M.drew;obtain ⟨e,_,h⟩:=aB h;exact bP 11 M.nQ
theorem If {H4:List aN} {XY:Option Addr} {XZ:Nat} {Ku:Int} {X0 X1:Nat} {r:Int} (h:tP N n H4 Ku=some r) (aOe:SL w0 jG XY H4) (aOf:H4.length≤XZ) (aLL:kX w0 X0 37 #[.slice XY H4.length XZ]) (aLM:kX w0 X1 3 #[I Ku]) :
  lL 162 #[I n,.func (.func 163) #[] #[pQ X0,pQ X1]] w0 (zO r w0):=by
 refine gE Tryz.func162 Tryz.ntmps162 ?_;intro M;unfold tP at h;refine pM 14 0 [1] [] (fun ZL ZM (⟨i,j⟩:aN) a w=>Kn a 26 ((5,I i)::(6,I j)::ZL)∧jL w0 w []) M.nQ ?_ ?_
 ·rintro ⟨i4,j2⟩ a w ⟨K,M⟩ h
  revert a;exact bP 9 M.nQ
 rintro kk aA ⟨i,j⟩ a w hk1 ⟨K,M⟩ h;unfold fT at h;revert a;refine cB 8 h ?_ ?_
 ·intro hb h;obtain ⟨h3,hx,h⟩:=cL h;refine kN 11 hx ?_;obtain ⟨r3,gP,h⟩:=aB h;refine fP 6 (XX gP) ?_;intro w M;refine cB 3 h ?_ ?_
  ·intro hb h;obtain ⟨i3,hx,h⟩:=cL h;refine kN 3 hx ?_;exact iG 3 (i3,j) M.nQ
  intro hb h;exact iG 6 (i,h3) M.nQ
 intro hb h;exact jY 3 (hk1 (i,j)) M.nQ
theorem LL {l2:List aN} {x2:Int} {r:Int} (h:yT N l2 x2=some r) (O9:SL w0 jG BW l2) (R8:l2.length≤BX) :
  lL 135 #[.slice BW l2.length BX,I x2] w0 (zO r w0):=by
 refine gE Tryz.func135 Tryz.ntmps135 ?_;intro M;unfold yT at h;refine eE 2 ?_;intro g_l w M;refine eE 0 ?_;intro jM w M;obtain ⟨r2,cR,h⟩:=aB h;refine fP 8 (If cR) ?_;intro w M;refine cB 12 h ?_ ?_
 ·intro hb h;obtain ⟨e,_,h⟩:=aB h;exact bP 13 M.nQ
 intro hb h;refine aH 3 ?_;refine Jr [0,0,0,0,0,0,0,0,0,1,1,1,2] 13 [0,1,2,3,4,5,6,7,8,9,10,11,12] M ?_;replace M:=M.drew;obtain ⟨e2,_,h⟩:=aB h;obtain ⟨e3,_,h⟩:=aB h;refine aH 9 ?_;refine MX 9 10 ?_ ?_
 ·refine rD rfl (fun _ K=>Ka M) ?_;rintro _ w ⟨g_a,rfl,M⟩;refine ⟨fun _=>M.toS,?_⟩;refine nK 10 ?_;refine rD rfl (fun _ K=>Ka M) ?_;rintro _ w ⟨g_b,rfl,M⟩;refine ⟨fun _=>M.toS,?_⟩;refine nK 11 ?_;refine D3 rfl (fun _ K=>oO M K 1) ?_;intro _ w M;refine ⟨fun _=>M.toS,?_⟩;refine nK 12 ?_;refine D3 rfl (fun _ K=>oO M K 0) ?_;intro _ w M;refine ⟨fun h=>absurd h aL,?_⟩;refine Xx 3 ?_;replace M:=M.drew;obtain ⟨_,h0,h⟩:=aB h;have h0:=dG h0;obtain ⟨x3,hx,h⟩:=cL h;refine gmQ 18 hx ?_;exact bP 4 M.nQ
 ·refine rD rfl (fun _ K=>Ka M) ?_;rintro _ w ⟨aPX,rfl,M⟩;refine ⟨fun _=>M.toS,?_⟩;refine nK 9 ?_;refine rD rfl (fun _ K=>Ka M) ?_;rintro _ w ⟨aOg,rfl,M⟩;refine ⟨fun _=>M.toS,?_⟩;refine nK 11 ?_;refine D3 rfl (fun _ K=>oO M K 0) ?_;intro _ w M;refine ⟨fun _=>M.toS,?_⟩;refine nK 12 ?_;refine D3 rfl (fun _ K=>oO M K 1) ?_;intro _ w M;refine ⟨fun h=>absurd h aL,?_⟩;refine Xx 3 ?_;replace M:=M.drew;obtain ⟨_,h0,h⟩:=aB h;have h0:=dG h0;obtain ⟨x4,hx,h⟩:=cL h;refine gmQ 18 hx ?_;exact bP 4 M.nQ
theorem VY {l2:List aN} {x2:Int} {r:aN} (h:DD N l2 x2=some r) (O9:SL w0 jG BW l2) (R8:l2.length≤BX) :
  lL 87 #[.slice BW l2.length BX,I x2] w0 (aIa r w0):=by
 refine gE Tryz.func87 Tryz.ntmps87 ?_;intro M;unfold DD at h;obtain ⟨r2,cR,h⟩:=aB h;refine fP 10 (NQ cR) ?_;intro w M;refine cB 3 h ?_ ?_
 ·intro hb h;exact eB 8 M.nQ
 intro hb h;refine kJ 8 11 h ?_ ?_
 ·intro hb h;exact eB 14 M.nQ
 intro hb h;refine cB 5 h ?_ ?_
 ·intro hb h;exact eB 8 M.nQ
 intro hb h;obtain ⟨r3,gP,h⟩:=aB h;refine fP 6 (LL gP) ?_;intro w M;exact eB 5 M.nQ
theorem NR {r:Int} (h:FY N n=some r) :
  lL 262 #[I n] w0 (zO r w0):=by
 refine gE Tryz.func262 Tryz.ntmps262 ?_;intro M;unfold FY at h;exact bP 14 M.nQ
theorem Jw {k YM YN YO v03 v04 v05 v06 v07 v08:Int} {r:Int} (h:DF N SI SJ SK k YM YN YO v03 v04 v05 v06 v07 v08=some r) (Aa:kX w0 BC 36 #[I YM,I YN,I YO,I v03,I v04,I v05,I v06,I v07,I v08]) :
  lL 261 #[.agg #[I SI,I SJ,I SK],I k,pQ BC] w0 (zO r w0):=by
 refine gE Tryz.func261 Tryz.ntmps261 ?_;intro M;unfold DF at h;refine eE 2 ?_;intro g_c w M;refine aH 4 ?_;intro a K;refine aK (fun w=>Mem _ _ w _) [0,0,0,0,0,0,0,0,0,0,0,0,0,0,0,0,0,0,0,0,0,0,0,1,0] aQ aQ M.drew ?_;replace M:=M.drew;revert a;obtain ⟨_,h0,h⟩:=aB h;have h0:=mQ h0;refine aH 2 ?_;obtain ⟨e,h_e,h⟩:=aB h;refine G4 (fun _ K=>qD rfl Hc K rfl (inO Aa) rfl rfl h_e) ?_;obtain ⟨_,h0,h⟩:=aB h;have h0:=mQ h0;refine aH 6 ?_;obtain ⟨e2,Hw,h⟩:=aB h;refine G4 (fun _ K=>qD rfl Hc K rfl (inO Aa) rfl rfl Hw) ?_;obtain ⟨_,h0,h⟩:=aB h;have h0:=mQ h0;refine aH 7 ?_;obtain ⟨e3,aLN,h⟩:=aB h;refine G4 (fun _ K=>qD rfl Hc K rfl (inO Aa) rfl rfl aLN) ?_;obtain ⟨r2,cR,h⟩:=aB h;refine rU 5 (NR cR) ?_;intro w M;exact bP 4 M.nQ
theorem NS {x2 TC TD TE TF TG TH TI TJ TK:Int} {aFR:Nat} {r:bU} (h:BQ N SI SJ SK x2 y TC TD TE TF TG TH TI TJ TK=some r) (aOh:kX w0 aFR 36 #[I TC,I TD,I TE,I TF,I TG,I TH,I TI,I TJ,I TK]) (Aa:kX w0 BC 302 #[.func (.func 261) #[] #[pQ aFR]]) :
  lL 264 #[.agg #[I SI,I SJ,I SK],I x2,I y,pQ BC] w0 (Ur r w0):=by
 refine gE Tryz.func264 Tryz.ntmps264 ?_;intro M;unfold BQ at h;refine eE 2 ?_;intro g_c w M;refine eE 0 ?_;intro jM w M;refine aH 3 ?_;intro a K;refine aK (fun w=>Mem _ _ w _) [0,0,1,0,0,1,0,0,1,0,2] aQ aQ M.drew ?_;replace M:=M.drew;revert a;obtain ⟨r2,cR,h⟩:=aB h;refine rU 2 (Jw cR) ?_;intro w M;obtain ⟨r3,gP,h⟩:=aB h;refine rU 2 (Jw gP) ?_;intro w M;obtain ⟨r4,lJ,h⟩:=aB h;refine rU 2 (Jw lJ) ?_;intro w M;refine G4 (fun _ K=>bQ rfl K (vs:=[(0,I r2),(1,I r3),(2,I r4)]) (cs:=[I r2,I r3,I r4]) rfl aQ) ?_;refine z7 (fun _ K=>oO M K 0) ?_;intro _ w M;exact bP 3 M.nQ
theorem G7 {p:Prop} (h:p:=by exact eB 5 (((Mem.cC 65 3 dJ M)).pick [0] aL)):p:=h
theorem R9 {p:Prop} (h:p:=by exact iG 8 (l4,aC.wrap (i+1)) (M.pick [1,2,3,4] aL)):p:=h
theorem Sa {p:Prop} (h:p:=by exact jY 3 (hk1 (cJ,i)) (M.pick [0,1,2,3] aL)):p:=h
theorem Sb {p:Prop} (h:p:=by exact iG 8 (l7,aC.wrap (i3+1)) (M.pick [1,2,3,4] aL)):p:=h
theorem Pa {p:Prop} (h:p:=by exact jY 3 (hk1 (gA,i3)) (M.pick [0,1,2,3] aL)):p:=h
theorem IK {CZ C0 C1 C2 C3 C4 C5 C6 C7:Int} {PB Uu:Nat} {r:yH} (h:lZ N gF lK gG CZ C0 C1 C2 C3 C4 C5 C6 C7=some r) (Ar:SL w0 dJ kK gG) (zT:gG.length≤kW) (aF6:kX w0 PB 36 #[I CZ,I C0,I C1,I C2,I C3,I C4,I C5,I C6,I C7]) (aJq:kX w0 Uu 302 #[.func (.func 261) #[] #[pQ PB]]) :
  lL 263 #[.agg #[I gF,I lK,.slice kK gG.length kW],.func (.func 264) #[] #[pQ Uu]] w0 (JN r w0):=by
 refine gE Tryz.func263 Tryz.ntmps263 ?_;intro M;unfold lZ at h;refine eE 2 ?_;intro LK w M;refine eE 0 ?_;intro jM w M;obtain ⟨r2,cR,h⟩:=aB h;refine fP 7 (AD cR) ?_;intro A c w M;refine eE 3 ?_;intro g__ w M;refine cV 0 ?_;intro w M;refine cB 9 h ?_ ?_
 ·intro hb h;refine cV 4 ?_;intro w M;exact G7
 intro hb h;refine aH 3 ?_;refine Jr [0,0,0,0,0,0,0,1,0,1,2] 11 [0,1,2,3,4,5,6,7,8,9,10] M ?_;replace M:=M.drew;obtain ⟨x2,hx,h⟩:=cL h;refine aH 6 ?_;refine Ce 6 rfl (fun _ K=>V4 hx (AV rfl SX K rfl)) ?_;refine MX 7 9 ?_ ?_
 ·obtain ⟨l2,z8,h⟩:=aB h;refine rD rfl (fun _ K=>sJ (C:=dJ) (z:=(0,0,0)) rfl wU rfl z65 rfl K rfl rfl M z8) ?_;rintro _ w ⟨A2,c2,rfl,M⟩;refine ⟨fun _=>M.toS,?_⟩;refine Ce 8 rfl (fun _ K=>bQ rfl K (vs:=[(0,I gF),(1,I lK),(2,.slice A2 l2.length c2)]) (cs:=[I gF,I lK,.slice A2 l2.length c2]) rfl aQ) ?_;refine nK 9 ?_;refine rD rfl (fun _ K=>Ka M) ?_;rintro _ w ⟨vF,rfl,M⟩;refine ⟨fun _=>M.toS,?_⟩;refine nK 10 ?_;refine D3 rfl (fun _ K=>oO M K 0) ?_;intro _ w M;refine ⟨fun h=>absurd h aL,?_⟩;refine pM 12 0 [1,2,4,8,30,31] [4,5] (fun ZL ZM (⟨cJ,i⟩:pN) a w=>Kn a 54 ((32,I i)::ZL)∧jL w0 w (.blk vF 50 [I gF,I lK,.slice A2 cJ.length c2] :: .row 65 3 A2 cJ.length c2 (dJ.all cJ)::ZM)) (M.pick [0,1,4,5] aL) ?_ ?_
  ·rintro ⟨uJ,i2⟩ a w ⟨K,M⟩ h
   revert a;refine cV 5 ?_;intro w M;exact eB 4 (M.pick [1] aL)
  rintro kk aA ⟨cJ,i⟩ a w hk1 ⟨K,M⟩ h;unfold kH at h;revert a;refine cB 6 h ?_ ?_
  ·intro hb h;obtain ⟨e3,_,h⟩:=aB h;refine eE 9 ?_;intro XW w M;refine cV 1 ?_;intro w M;refine aH 2 ?_;intro a K;refine aK (fun w=>Mem _ _ w _) [0,0,0,0,0,0,0,0,0,0,0,0,0,1,0,2] aQ aQ M.drew ?_;replace M:=M.drew;revert a;refine aH 8 ?_;obtain ⟨_,h0,h⟩:=aB h;have h0:=dG h0;refine aH 4 ?_;obtain ⟨_,h0,h⟩:=aB h;have h0:=dG h0;refine aH 1 ?_;obtain ⟨r4,lJ,h⟩:=aB h;refine rU 0 (NS lJ) ?_;intro w M;obtain ⟨e4,_,h⟩:=aB h;refine aH 1 ?_;obtain ⟨l4,Cy,h⟩:=aB h;refine z7 (fun _ K=>gD (el:=(r4.1,r4.2.1,r4.2.2)) rfl ML rfl rfl K rfl rfl rfl 2 M rfl Cy) ?_;intro _ w M;have hl:=jI Cy;intro a K;try rw [hl] at M
   try rw [hl] at K
   clear hl;revert a;exact R9
  intro hb h;exact Sa
 ·refine rD rfl (fun _ K=>Ka M) ?_;rintro _ w ⟨BD,rfl,M⟩;refine ⟨fun _=>M.toS,?_⟩;refine nK 7 ?_;obtain ⟨l5,B9,h⟩:=aB h;refine rD rfl (fun _ K=>sJ (C:=dJ) (z:=(0,0,0)) rfl wU rfl z65 rfl K rfl rfl M B9) ?_;rintro _ w ⟨A3,c3,rfl,M⟩;refine ⟨fun _=>M.toS,?_⟩;refine Ce 8 rfl (fun _ K=>bQ rfl K (vs:=[(0,I gF),(1,I lK),(2,.slice A3 l5.length c3)]) (cs:=[I gF,I lK,.slice A3 l5.length c3]) rfl aQ) ?_;refine nK 10 ?_;refine D3 rfl (fun _ K=>oO M K 1) ?_;intro _ w M;refine ⟨fun h=>absurd h aL,?_⟩;refine pM 12 0 [1,2,4,8,30,31] [4,5] (fun ZL ZM (⟨gA,i3⟩:pN) a w=>Kn a 54 ((32,I i3)::ZL)∧jL w0 w (.row 65 3 A3 gA.length c3 (dJ.all gA) :: .blk BD 50 [I gF,I lK,.slice A3 gA.length c3]::ZM)) (M.pick [0,1,4,5] aL) ?_ ?_
  ·rintro ⟨nD,i4⟩ a w ⟨K,M⟩ h
   revert a;refine cV 5 ?_;intro w M;exact eB 4 M.oQ
  rintro kk aA ⟨gA,i3⟩ a w hk1 ⟨K,M⟩ h;unfold kH at h;revert a;refine cB 6 h ?_ ?_
  ·intro hb h;obtain ⟨e7,_,h⟩:=aB h;refine eE 9 ?_;intro aCR w M;refine cV 1 ?_;intro w M;refine aH 2 ?_;intro a K;refine aK (fun w=>Mem _ _ w _) [0,0,0,0,0,0,0,0,0,0,0,0,0,1,0,2] aQ aQ M.drew ?_;replace M:=M.drew;revert a;refine aH 8 ?_;obtain ⟨_,h0,h⟩:=aB h;have h0:=dG h0;refine aH 4 ?_;obtain ⟨_,h0,h⟩:=aB h;have h0:=dG h0;refine aH 1 ?_;obtain ⟨r6,tA,h⟩:=aB h;refine rU 0 (NS tA) ?_;intro w M;obtain ⟨e8,_,h⟩:=aB h;refine aH 1 ?_;obtain ⟨l7,Ao,h⟩:=aB h;refine z7 (fun _ K=>gD (el:=(r6.1,r6.2.1,r6.2.2)) rfl ML rfl rfl K rfl rfl rfl 1 M rfl Ao) ?_;intro _ w M;have hl:=jI Ao;intro a K;try rw [hl] at M
   try rw [hl] at K
   clear hl;revert a;exact Sb
  intro hb h;exact Pa
theorem Z3 {m0 m1 m2 m3 m4 m5 m6 m7 m8:Int} {r:yH} (h:EC N gF lK gG m0 m1 m2 m3 m4 m5 m6 m7 m8=some r) (Ar:SL w0 dJ kK gG) (zT:gG.length≤kW) :
  lL 260 #[.agg #[I gF,I lK,.slice kK gG.length kW],.agg #[I m0,I m1,I m2,I m3,I m4,I m5,I m6,I m7,I m8]] w0 (JN r w0):=by
 refine gE Tryz.func260 Tryz.ntmps260 ?_;intro M;unfold EC at h;refine eE 2 ?_;intro LK w M;refine eE 0 ?_;intro g_m w M;refine eE 0 ?_;intro jM w M;refine pM 16 0 [2,3,4,12] [0,1,2] (fun ZL ZM (⟨fine,i⟩:Tr) a w=>Kn a 42 ((6,.bool fine)::(13,I i)::ZL)∧jL w0 w ZM) (M.pick [0,1,2] aL) ?_ ?_
 ·rintro ⟨aIQ,i2⟩ a w ⟨K,M⟩ h
  revert a;refine eE 5 ?_;intro aQc w M;refine cV 0 ?_;intro w M;obtain ⟨r2,cR,h⟩:=aB h;refine fP 6 (IK cR) ?_;intro A c w M;refine eE 3 ?_;intro vF w M;refine cV 0 ?_;intro w M;refine kJ 9 35 h ?_ ?_
  ·intro hb h;refine cB 5 h ?_ ?_
   ·intro hb h;refine cV 3 ?_;intro w M;exact G7
   intro hb h;refine cV 6 ?_;intro w M;exact eB 4 (M.pick [1] aL)
  intro hb h;refine cV 12 ?_;intro w M;exact eB 4 (M.pick [1] aL)
 rintro kk aA ⟨fine,i⟩ a w hk1 ⟨K,M⟩ h;unfold tT at h;revert a;refine cB 6 h ?_ ?_
 ·intro hb h;obtain ⟨e2,Hw,h⟩:=aB h;refine aH 6 ?_;refine jO (fun _ K=>Mq (C:=(cI .i64)) (es:=[m0,m1,m2,m3,m4,m5,m6,m7,m8]) rfl aFz Hc K rfl rfl rfl Hw rfl) M ?_;refine kJ 6 17 h ?_ ?_
  ·intro hb h;refine kJ 4 21 h ?_ ?_
   ·intro hb h;exact iG 12 (decide (e2≤32768),aC.wrap (i+1)) (M.pick [0,1,2] aL)
   intro hb h;exact iG 12 (false,aC.wrap (i+1)) (M.pick [0,1,2] aL)
  intro hb h;exact iG 16 (false,aC.wrap (i+1)) (M.pick [0,1,2] aL)
 intro hb h;exact jY 3 (hk1 (fine,i)) (M.pick [0,1,2] aL)
theorem Md {x2:Int} {v0:List aN} {r:bU} (h:xZ N SI SJ SK x2 y v0=some r) (aN3:SL w0 jG ZU v0) (aN4:v0.length≤ZV) (Aa:kX w0 BC 37 #[.slice ZU v0.length ZV]) :
  lL 267 #[.agg #[I SI,I SJ,I SK],I x2,I y,pQ BC] w0 (Ur r w0):=by
 refine gE Tryz.func267 Tryz.ntmps267 ?_;intro M;unfold xZ at h;refine eE 2 ?_;intro g_c w M;refine eE 0 ?_;intro jM w M;refine aH 3 ?_;intro a K;refine aK (fun w=>Mem _ _ w _) [0,0,0,1,0,0,0,1,0,0,0,1,0,2] aQ aQ M.drew ?_;replace M:=M.drew;revert a;obtain ⟨r2,cR,h⟩:=aB h;refine rU 3 (LL cR) ?_;intro w M;obtain ⟨r3,gP,h⟩:=aB h;refine rU 3 (LL gP) ?_;intro w M;obtain ⟨r4,lJ,h⟩:=aB h;refine rU 3 (LL lJ) ?_;intro w M;refine G4 (fun _ K=>bQ rfl K (vs:=[(0,I r2),(1,I r3),(2,I r4)]) (cs:=[I r2,I r3,I r4]) rfl aQ) ?_;refine z7 (fun _ K=>oO M K 0) ?_;intro _ w M;exact bP 3 M.nQ
theorem Ig {DG:List aN} {Sc:Option Addr} {Sd Se:Nat} {r:yH} (h:lN N gF lK gG DG=some r) (Ar:SL w0 dJ kK gG) (zT:gG.length≤kW) (aLO:SL w0 jG Sc DG) (aLP:DG.length≤Sd) (aIw:kX w0 Se 37 #[.slice Sc DG.length Sd]) :
  lL 263 #[.agg #[I gF,I lK,.slice kK gG.length kW],.func (.func 267) #[] #[pQ Se]] w0 (JN r w0):=by
 refine gE Tryz.func263 Tryz.ntmps263 ?_;intro M;unfold lN at h;refine eE 2 ?_;intro LK w M;refine eE 0 ?_;intro jM w M;obtain ⟨r2,cR,h⟩:=aB h;refine fP 7 (AD cR) ?_;intro A c w M;refine eE 3 ?_;intro g__ w M;refine cV 0 ?_;intro w M;refine cB 9 h ?_ ?_
 ·intro hb h;refine cV 4 ?_;intro w M;exact G7
 intro hb h;refine aH 3 ?_;refine Jr [0,0,0,0,0,0,0,1,0,1,2] 11 [0,1,2,3,4,5,6,7,8,9,10] M ?_;replace M:=M.drew;obtain ⟨x2,hx,h⟩:=cL h;refine aH 6 ?_;refine Ce 6 rfl (fun _ K=>V4 hx (AV rfl SX K rfl)) ?_;refine MX 7 9 ?_ ?_
 ·obtain ⟨l2,z8,h⟩:=aB h;refine rD rfl (fun _ K=>sJ (C:=dJ) (z:=(0,0,0)) rfl wU rfl z65 rfl K rfl rfl M z8) ?_;rintro _ w ⟨A2,c2,rfl,M⟩;refine ⟨fun _=>M.toS,?_⟩;refine Ce 8 rfl (fun _ K=>bQ rfl K (vs:=[(0,I gF),(1,I lK),(2,.slice A2 l2.length c2)]) (cs:=[I gF,I lK,.slice A2 l2.length c2]) rfl aQ) ?_;refine nK 9 ?_;refine rD rfl (fun _ K=>Ka M) ?_;rintro _ w ⟨vF,rfl,M⟩;refine ⟨fun _=>M.toS,?_⟩;refine nK 10 ?_;refine D3 rfl (fun _ K=>oO M K 0) ?_;intro _ w M;refine ⟨fun h=>absurd h aL,?_⟩;refine pM 12 0 [1,2,4,8,30,31] [4,5] (fun ZL ZM (⟨cJ,i⟩:pN) a w=>Kn a 54 ((32,I i)::ZL)∧jL w0 w (.blk vF 50 [I gF,I lK,.slice A2 cJ.length c2] :: .row 65 3 A2 cJ.length c2 (dJ.all cJ)::ZM)) (M.pick [0,1,4,5] aL) ?_ ?_
  ·rintro ⟨uJ,i2⟩ a w ⟨K,M⟩ h
   revert a;refine cV 5 ?_;intro w M;exact eB 4 (M.pick [1] aL)
  rintro kk aA ⟨cJ,i⟩ a w hk1 ⟨K,M⟩ h;unfold jQ at h;revert a;refine cB 6 h ?_ ?_
  ·intro hb h;obtain ⟨e3,_,h⟩:=aB h;refine eE 9 ?_;intro XW w M;refine cV 1 ?_;intro w M;refine aH 2 ?_;intro a K;refine aK (fun w=>Mem _ _ w _) [0,0,0,0,0,0,0,0,0,0,0,0,0,1,0,2] aQ aQ M.drew ?_;replace M:=M.drew;revert a;refine aH 8 ?_;obtain ⟨_,h0,h⟩:=aB h;have h0:=dG h0;refine aH 4 ?_;obtain ⟨_,h0,h⟩:=aB h;have h0:=dG h0;refine aH 1 ?_;obtain ⟨r4,lJ,h⟩:=aB h;refine rU 0 (Md lJ) ?_;intro w M;obtain ⟨e4,_,h⟩:=aB h;refine aH 1 ?_;obtain ⟨l4,Cy,h⟩:=aB h;refine z7 (fun _ K=>gD (el:=(r4.1,r4.2.1,r4.2.2)) rfl ML rfl rfl K rfl rfl rfl 2 M rfl Cy) ?_;intro _ w M;have hl:=jI Cy;intro a K;try rw [hl] at M
   try rw [hl] at K
   clear hl;revert a;exact R9
  intro hb h;exact Sa
 ·refine rD rfl (fun _ K=>Ka M) ?_;rintro _ w ⟨BD,rfl,M⟩;refine ⟨fun _=>M.toS,?_⟩;refine nK 7 ?_;obtain ⟨l5,B9,h⟩:=aB h;refine rD rfl (fun _ K=>sJ (C:=dJ) (z:=(0,0,0)) rfl wU rfl z65 rfl K rfl rfl M B9) ?_;rintro _ w ⟨A3,c3,rfl,M⟩;refine ⟨fun _=>M.toS,?_⟩;refine Ce 8 rfl (fun _ K=>bQ rfl K (vs:=[(0,I gF),(1,I lK),(2,.slice A3 l5.length c3)]) (cs:=[I gF,I lK,.slice A3 l5.length c3]) rfl aQ) ?_;refine nK 10 ?_;refine D3 rfl (fun _ K=>oO M K 1) ?_;intro _ w M;refine ⟨fun h=>absurd h aL,?_⟩;refine pM 12 0 [1,2,4,8,30,31] [4,5] (fun ZL ZM (⟨gA,i3⟩:pN) a w=>Kn a 54 ((32,I i3)::ZL)∧jL w0 w (.row 65 3 A3 gA.length c3 (dJ.all gA) :: .blk BD 50 [I gF,I lK,.slice A3 gA.length c3]::ZM)) (M.pick [0,1,4,5] aL) ?_ ?_
  ·rintro ⟨nD,i4⟩ a w ⟨K,M⟩ h
   revert a;refine cV 5 ?_;intro w M;exact eB 4 M.oQ
  rintro kk aA ⟨gA,i3⟩ a w hk1 ⟨K,M⟩ h;unfold jQ at h;revert a;refine cB 6 h ?_ ?_
  ·intro hb h;obtain ⟨e7,_,h⟩:=aB h;refine eE 9 ?_;intro aCR w M;refine cV 1 ?_;intro w M;refine aH 2 ?_;intro a K;refine aK (fun w=>Mem _ _ w _) [0,0,0,0,0,0,0,0,0,0,0,0,0,1,0,2] aQ aQ M.drew ?_;replace M:=M.drew;revert a;refine aH 8 ?_;obtain ⟨_,h0,h⟩:=aB h;have h0:=dG h0;refine aH 4 ?_;obtain ⟨_,h0,h⟩:=aB h;have h0:=dG h0;refine aH 1 ?_;obtain ⟨r6,tA,h⟩:=aB h;refine rU 0 (Md tA) ?_;intro w M;obtain ⟨e8,_,h⟩:=aB h;refine aH 1 ?_;obtain ⟨l7,Ao,h⟩:=aB h;refine z7 (fun _ K=>gD (el:=(r6.1,r6.2.1,r6.2.2)) rfl ML rfl rfl K rfl rfl rfl 1 M rfl Ao) ?_;intro _ w M;have hl:=jI Ao;intro a K;try rw [hl] at M
   try rw [hl] at K
   clear hl;revert a;exact Sb
  intro hb h;exact Pa
theorem X2 {l2:List aN} {r:yH} (h:Dm N gF lK gG l2=some r) (Ar:SL w0 dJ kK gG) (zT:gG.length≤kW) (O9:SL w0 jG BW l2) (R8:l2.length≤BX) :
  lL 266 #[.agg #[I gF,I lK,.slice kK gG.length kW],.slice BW l2.length BX] w0 (JN r w0):=by
 refine gE Tryz.func266 Tryz.ntmps266 ?_;intro M;unfold Dm at h;refine eE 2 ?_;intro LK w M;refine eE 0 ?_;intro g_l w M;refine eE 0 ?_;intro jM w M;obtain ⟨r2,cR,h⟩:=aB h;refine fP 7 (NQ cR) ?_;intro w M;refine cB 3 h ?_ ?_
 ·intro hb h;refine cV 3 ?_;intro w M;exact G7
 intro hb h;obtain ⟨r3,gP,h⟩:=aB h;refine fP 6 (Ig gP) ?_;intro A c w M;refine cV 2 ?_;intro w M;exact eB 4 M.oQ
theorem EJ {v Kv v0:Int} {r:Int} (h:y8 N v Kv v0=some r) (Aa:kX w0 BC 3 #[I v0]) :
  lL 270 #[I v,I Kv,pQ BC] w0 fun v w'=>v=I r∧jL w0 w' []:=by
 refine gE Tryz.func270 Tryz.ntmps270 ?_;intro M;unfold y8 at h;obtain ⟨r2,cR,h⟩:=aB h;refine fP 16 (NR cR) ?_;intro w M;exact bP 4 M.nQ
theorem IL {d_R d_G d_B o p2 Dt Fc:Int} {D6:List bU} {Jy:Option Addr} {Jz:Nat} {aBH:Int} {aFS:Nat} {r:bU} (h:tH N d_R d_G d_B o p2 Dt Fc D6 aBH=some r) (Z4:SL w0 dJ Jy D6) (Z5:D6.length≤Jz) (Aa:kX w0 BC 50 #[I Dt,I Fc,.slice Jy D6.length Jz]) (aOi:kX w0 aFS 3 #[I aBH]) (RZ:kX w0 NJ 101 #[.func (.func 270) #[] #[pQ aFS]]) :
  lL 271 #[.agg #[I d_R,I d_G,I d_B],I o,I p2,pQ BC,pQ NJ] w0 (Ur r w0):=by
 refine gE Tryz.func271 Tryz.ntmps271 ?_;intro M;unfold tH at h;refine eE 2 ?_;intro jM w M;refine eE 0 ?_;intro dY w M;refine eE 4 ?_;intro fN w M;refine pM 9 0 [1,2,3,4,5,8,9] [1,2] (fun ZL ZM (⟨GE,GF,GG,i⟩:yN) a w=>Kn a 98 ((10,I i)::ZL)∧jL w0 w (.blk fN 65 [I GE,I GF,I GG]::ZM)) (M.pick [0,1,2] aL) ?_ ?_
 ·rintro ⟨aMh,aMi,aMj,i5⟩ a w ⟨K,M⟩ h
  revert a;refine aH 3 ?_;intro a K;refine aK (fun w=>Mem _ _ w _) [0,0,0,0,0,1,0,0,0,0,0,1,0,0,0,0,0,1,0,2] aQ aQ M.drew ?_;replace M:=M.drew;revert a;obtain ⟨r2,cR,h⟩:=aB h;refine rU 5 (EJ cR) ?_;intro w M;obtain ⟨r3,gP,h⟩:=aB h;refine rU 5 (EJ gP) ?_;intro w M;obtain ⟨r4,lJ,h⟩:=aB h;refine rU 5 (EJ lJ) ?_;intro w M;refine G4 (fun _ K=>bQ rfl K (vs:=[(0,I r2),(1,I r3),(2,I r4)]) (cs:=[I r2,I r3,I r4]) rfl aQ) ?_;refine z7 (fun _ K=>oO M K 1) ?_;intro _ w M;exact bP 3 M.nQ
 rintro kk aA ⟨GE,GF,GG,i⟩ a w hk1 ⟨K,M⟩ h;unfold oC at h;revert a;refine cB 7 h ?_ ?_
 ·intro hb h;refine pM 10 2 [1,2,3,4,5,8,9,10] [1,2] (fun ZL ZM (⟨Bi,Bj,Bl,i3⟩:yN) a w=>Kn a 98 ((11,I i3)::ZL)∧jL w0 w (.blk fN 65 [I Bi,I Bj,I Bl]::ZM)) (M.pick [0,1,2] aL) ?_ ?_
  ·rintro ⟨YP,YQ,YR,i4⟩ a w ⟨K,M⟩ h
   revert a;obtain ⟨FX,hx,h⟩:=cL h;refine kN 6 hx ?_;exact iG 2 (YP,YQ,YR,FX) (M.pick [0,1,2] aL)
  rintro kk aA ⟨Bi,Bj,Bl,i3⟩ a w hk2 ⟨K,M⟩ h;unfold oB at h;revert a;refine cB 7 h ?_ ?_
  ·intro hb h;obtain ⟨x9,hx,h⟩:=cL h;refine kN 27 hx ?_;obtain ⟨e3,_,h⟩:=aB h;refine eE 2 ?_;intro Jv w M;refine cV 0 ?_;intro w M;obtain ⟨x10,hx,h⟩:=cL h;refine kN 13 hx ?_;refine cV 12 ?_;intro w M;refine cV 12 ?_;intro w M;refine cV 11 ?_;intro w M;obtain ⟨US,hx,h⟩:=cL h;refine kN 6 hx ?_;exact iG 2 (aC.wrap (Bi+(aC.wrap (x10*e3.1))),aC.wrap (Bj+(aC.wrap (x10*e3.2.1))),aC.wrap (Bl+(aC.wrap (x10*e3.2.2))),US) (M.pick [1,2,3] aL)
  intro hb h;exact jY 3 (hk2 (Bi,Bj,Bl,i3)) (M.pick [0,1,2] aL)
 intro hb h;exact jY 3 (hk1 (GE,GF,GG,i)) (M.pick [0,1,2] aL)
theorem F6 {yA yB:Int} {tU:List bU} {JT:Option Addr} {JU:Nat} {yC:Int} {Me JV Mf:Nat} {r:yH} (h:jR N gF lK gG yA yB tU yC=some r) (Ar:SL w0 dJ kK gG) (zT:gG.length≤kW) (aCY:SL w0 dJ JT tU) (aCZ:tU.length≤JU) (aC0:kX w0 Me 50 #[I yA,I yB,.slice JT tU.length JU]) (aBw:kX w0 JV 3 #[I yC]) (aC1:kX w0 Mf 101 #[.func (.func 270) #[] #[pQ JV]]) :
  lL 263 #[.agg #[I gF,I lK,.slice kK gG.length kW],.func (.func 271) #[] #[pQ Me,pQ Mf]] w0 (JN r w0):=by
 refine gE Tryz.func263 Tryz.ntmps263 ?_;intro M;unfold jR at h;refine eE 2 ?_;intro LK w M;refine eE 0 ?_;intro jM w M;obtain ⟨r2,cR,h⟩:=aB h;refine fP 7 (AD cR) ?_;intro A c w M;refine eE 3 ?_;intro g__ w M;refine cV 0 ?_;intro w M;refine cB 9 h ?_ ?_
 ·intro hb h;refine cV 4 ?_;intro w M;exact G7
 intro hb h;refine aH 3 ?_;refine Jr [0,0,0,0,0,0,0,1,0,1,2] 11 [0,1,2,3,4,5,6,7,8,9,10] M ?_;replace M:=M.drew;obtain ⟨x2,hx,h⟩:=cL h;refine aH 6 ?_;refine Ce 6 rfl (fun _ K=>V4 hx (AV rfl SX K rfl)) ?_;refine MX 7 9 ?_ ?_
 ·obtain ⟨l2,z8,h⟩:=aB h;refine rD rfl (fun _ K=>sJ (C:=dJ) (z:=(0,0,0)) rfl wU rfl z65 rfl K rfl rfl M z8) ?_;rintro _ w ⟨A2,c2,rfl,M⟩;refine ⟨fun _=>M.toS,?_⟩;refine Ce 8 rfl (fun _ K=>bQ rfl K (vs:=[(0,I gF),(1,I lK),(2,.slice A2 l2.length c2)]) (cs:=[I gF,I lK,.slice A2 l2.length c2]) rfl aQ) ?_;refine nK 9 ?_;refine rD rfl (fun _ K=>Ka M) ?_;rintro _ w ⟨vF,rfl,M⟩;refine ⟨fun _=>M.toS,?_⟩;refine nK 10 ?_;refine D3 rfl (fun _ K=>oO M K 0) ?_;intro _ w M;refine ⟨fun h=>absurd h aL,?_⟩;refine pM 12 0 [1,2,4,8,30,31] [4,5] (fun ZL ZM (⟨cJ,i⟩:pN) a w=>Kn a 54 ((32,I i)::ZL)∧jL w0 w (.blk vF 50 [I gF,I lK,.slice A2 cJ.length c2] :: .row 65 3 A2 cJ.length c2 (dJ.all cJ)::ZM)) (M.pick [0,1,4,5] aL) ?_ ?_
  ·rintro ⟨uJ,i2⟩ a w ⟨K,M⟩ h
   revert a;refine cV 5 ?_;intro w M;exact eB 4 (M.pick [1] aL)
  rintro kk aA ⟨cJ,i⟩ a w hk1 ⟨K,M⟩ h;unfold iC at h;revert a;refine cB 6 h ?_ ?_
  ·intro hb h;obtain ⟨e3,_,h⟩:=aB h;refine eE 9 ?_;intro XW w M;refine cV 1 ?_;intro w M;refine aH 2 ?_;intro a K;refine aK (fun w=>Mem _ _ w _) [0,0,0,0,0,0,0,0,0,0,0,0,0,1,0,2] aQ aQ M.drew ?_;replace M:=M.drew;revert a;refine aH 8 ?_;obtain ⟨_,h0,h⟩:=aB h;have h0:=dG h0;refine aH 4 ?_;obtain ⟨_,h0,h⟩:=aB h;have h0:=dG h0;refine aH 1 ?_;obtain ⟨r4,lJ,h⟩:=aB h;refine rU 0 (IL lJ) ?_;intro w M;obtain ⟨e4,_,h⟩:=aB h;refine aH 1 ?_;obtain ⟨l4,Cy,h⟩:=aB h;refine z7 (fun _ K=>gD (el:=(r4.1,r4.2.1,r4.2.2)) rfl ML rfl rfl K rfl rfl rfl 2 M rfl Cy) ?_;intro _ w M;have hl:=jI Cy;intro a K;try rw [hl] at M
   try rw [hl] at K
   clear hl;revert a;exact R9
  intro hb h;exact Sa
 ·refine rD rfl (fun _ K=>Ka M) ?_;rintro _ w ⟨BD,rfl,M⟩;refine ⟨fun _=>M.toS,?_⟩;refine nK 7 ?_;obtain ⟨l5,B9,h⟩:=aB h;refine rD rfl (fun _ K=>sJ (C:=dJ) (z:=(0,0,0)) rfl wU rfl z65 rfl K rfl rfl M B9) ?_;rintro _ w ⟨A3,c3,rfl,M⟩;refine ⟨fun _=>M.toS,?_⟩;refine Ce 8 rfl (fun _ K=>bQ rfl K (vs:=[(0,I gF),(1,I lK),(2,.slice A3 l5.length c3)]) (cs:=[I gF,I lK,.slice A3 l5.length c3]) rfl aQ) ?_;refine nK 10 ?_;refine D3 rfl (fun _ K=>oO M K 1) ?_;intro _ w M;refine ⟨fun h=>absurd h aL,?_⟩;refine pM 12 0 [1,2,4,8,30,31] [4,5] (fun ZL ZM (⟨gA,i3⟩:pN) a w=>Kn a 54 ((32,I i3)::ZL)∧jL w0 w (.row 65 3 A3 gA.length c3 (dJ.all gA) :: .blk BD 50 [I gF,I lK,.slice A3 gA.length c3]::ZM)) (M.pick [0,1,4,5] aL) ?_ ?_
  ·rintro ⟨nD,i4⟩ a w ⟨K,M⟩ h
   revert a;refine cV 5 ?_;intro w M;exact eB 4 M.oQ
  rintro kk aA ⟨gA,i3⟩ a w hk1 ⟨K,M⟩ h;unfold iC at h;revert a;refine cB 6 h ?_ ?_
  ·intro hb h;obtain ⟨e7,_,h⟩:=aB h;refine eE 9 ?_;intro aCR w M;refine cV 1 ?_;intro w M;refine aH 2 ?_;intro a K;refine aK (fun w=>Mem _ _ w _) [0,0,0,0,0,0,0,0,0,0,0,0,0,1,0,2] aQ aQ M.drew ?_;replace M:=M.drew;revert a;refine aH 8 ?_;obtain ⟨_,h0,h⟩:=aB h;have h0:=dG h0;refine aH 4 ?_;obtain ⟨_,h0,h⟩:=aB h;have h0:=dG h0;refine aH 1 ?_;obtain ⟨r6,tA,h⟩:=aB h;refine rU 0 (IL tA) ?_;intro w M;obtain ⟨e8,_,h⟩:=aB h;refine aH 1 ?_;obtain ⟨l7,Ao,h⟩:=aB h;refine z7 (fun _ K=>gD (el:=(r6.1,r6.2.1,r6.2.2)) rfl ML rfl rfl K rfl rfl rfl 1 M rfl Ao) ?_;intro _ w M;have hl:=jI Ao;intro a K;try rw [hl] at M
   try rw [hl] at K
   clear hl;revert a;exact Sb
  intro hb h;exact Pa
theorem Sf {fK:Int} {r:yH} (h:y9 N gF lK gG fK=some r) (Ar:SL w0 dJ kK gG) (zT:gG.length≤kW) :
  lL 269 #[.agg #[I gF,I lK,.slice kK gG.length kW],I fK] w0 (JN r w0):=by
 refine gE Tryz.func269 Tryz.ntmps269 ?_;intro M;unfold y9 at h;refine eE 2 ?_;intro LK w M;refine eE 0 ?_;intro aOj w M;refine eE 0 ?_;intro jM w M;refine eE 6 ?_;intro aQd w M;refine cV 0 ?_;intro w M;obtain ⟨r2,cR,h⟩:=aB h;refine fP 6 (F6 cR) ?_;intro A c w M;refine eE 3 ?_;intro vF w M;refine cV 0 ?_;intro w M;refine kJ 9 18 h ?_ ?_
 ·intro hb h;refine kJ 3 21 h ?_ ?_
  ·intro hb h;refine cV 10 ?_;intro w M;exact G7
  intro hb h;refine cB 6 h ?_ ?_
  ·intro hb h;refine cV 3 ?_;intro w M;exact G7
  intro hb h;refine cV 6 ?_;intro w M;exact eB 4 (M.pick [1] aL)
 intro hb h;refine cV 16 ?_;intro w M;exact eB 4 (M.pick [1] aL)
end
end
end Go.Proofs.YtpmnfhifmmfgladGreatDoor
