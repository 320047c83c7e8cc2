/- Parts of the proof. -/
import Derived.LaidLaws
import Derived.Lib.ItoaMem
import Derived.Lib.LaidTab
import Derived.Lib.SmallJoins
import Derived.Shelf.Strconv.ErrVarAll
import Derived.Shelf.Strconv.Itoa3
import Derived.Shelf.Strings.Search2
import Derived.Test.YtpmnfhifmmfgladGreatDoorProg
import Derived.Test.YtpmnfhifmmfgladGreatDoorShotDevelopsK5
import Derived.Test.YtpmnfhifmmfgladGreatDoorShotDevelopsK10
import Derived.Test.YtpmnfhifmmfgladGreatDoorShotDevelopsK12
import Derived.Test.YtpmnfhifmmfgladGreatDoorShotDevelopsK13
import Derived.Test.YtpmnfhifmmfgladGreatDoorShotDevelopsK16
import Derived.Test.YtpmnfhifmmfgladGreatDoorShotDevelopsK17
import Derived.Test.YtpmnfhifmmfgladGreatDoorShotDevelopsK18
set_option linter.unusedVariables false
set_option linter.unusedSimpArgs false
set_option linter.unusedSectionVars false
set_option maxRecDepth 100000
set_option maxHeartbeats 8000000
open Go.IntKind renaming i64→aC,u8→iH
open Nat renaming le_refl→pK
namespace Go.Proofs.YtpmnfhifmmfgladGreatDoor
section
open Go.RowKit
theorem LW {N:Nat} {w0:World} {r:aDa} (h:B5 N  = some r) :
  lL 23 #[] w0 fun v w'=>∃A5 c5 A6 c6 Yv c13 A26 c26,v = .agg #[I r.1,I r.2.1,I r.2.2.1,I r.2.2.2.1,I r.2.2.2.2.1,.slice A5 r.2.2.2.2.2.1.length c5,.slice A6 r.2.2.2.2.2.2.1.length c6,I r.2.2.2.2.2.2.2.1,I r.2.2.2.2.2.2.2.2.1,I r.2.2.2.2.2.2.2.2.2.1,I r.2.2.2.2.2.2.2.2.2.2.1,I r.2.2.2.2.2.2.2.2.2.2.2.1,I r.2.2.2.2.2.2.2.2.2.2.2.2.1,.slice Yv r.2.2.2.2.2.2.2.2.2.2.2.2.2.1.length c13,I r.2.2.2.2.2.2.2.2.2.2.2.2.2.2.1,I r.2.2.2.2.2.2.2.2.2.2.2.2.2.2.2.1,I r.2.2.2.2.2.2.2.2.2.2.2.2.2.2.2.2.1,I r.2.2.2.2.2.2.2.2.2.2.2.2.2.2.2.2.2.1,I r.2.2.2.2.2.2.2.2.2.2.2.2.2.2.2.2.2.2.1,I r.2.2.2.2.2.2.2.2.2.2.2.2.2.2.2.2.2.2.2.1,I r.2.2.2.2.2.2.2.2.2.2.2.2.2.2.2.2.2.2.2.2.1,I r.2.2.2.2.2.2.2.2.2.2.2.2.2.2.2.2.2.2.2.2.2.1,I r.2.2.2.2.2.2.2.2.2.2.2.2.2.2.2.2.2.2.2.2.2.2.1,I r.2.2.2.2.2.2.2.2.2.2.2.2.2.2.2.2.2.2.2.2.2.2.2.1,I r.2.2.2.2.2.2.2.2.2.2.2.2.2.2.2.2.2.2.2.2.2.2.2.2.1,I r.2.2.2.2.2.2.2.2.2.2.2.2.2.2.2.2.2.2.2.2.2.2.2.2.2.1,.slice A26 r.2.2.2.2.2.2.2.2.2.2.2.2.2.2.2.2.2.2.2.2.2.2.2.2.2.2.1.length c26,I r.2.2.2.2.2.2.2.2.2.2.2.2.2.2.2.2.2.2.2.2.2.2.2.2.2.2.2]∧jL w0 w' [.row 3 1 A5 r.2.2.2.2.2.1.length c5 ((cI .i64).all r.2.2.2.2.2.1),.row 9 1 A6 r.2.2.2.2.2.2.1.length c6 (cS.all r.2.2.2.2.2.2.1),.row 83 2 Yv r.2.2.2.2.2.2.2.2.2.2.2.2.2.1.length c13 (jG.all r.2.2.2.2.2.2.2.2.2.2.2.2.2.1),.row 84 2 A26 r.2.2.2.2.2.2.2.2.2.2.2.2.2.2.2.2.2.2.2.2.2.2.2.2.2.2.1.length c26 (jG.all r.2.2.2.2.2.2.2.2.2.2.2.2.2.2.2.2.2.2.2.2.2.2.2.2.2.2.1)]:=by
 refine gE Tryz.func23 Tryz.ntmps23 ?_;intro M;unfold B5 at h;refine eE 2 ?_;intro jM w M;obtain ⟨r2,cR,h⟩:=aB h;refine fP 4 (MN cR) ?_;intro A c w M;obtain ⟨r3,gP,h⟩:=aB h;refine fP 0 (K4 gP) ?_;intro A2 c2 A3 c3 w M;refine jO (fun _ K=>bQ rfl K (vs:=[(0,I 2),(1,I 2),(2,I 16),(3,I 7),(4,I 1),(5,.slice A r2.length c),(7,.agg #[I r3.1,I r3.2.1,I r3.2.2.1,I r3.2.2.2.1,I r3.2.2.2.2.1,I r3.2.2.2.2.2.1,.slice A2 r3.2.2.2.2.2.2.1.length c2,I r3.2.2.2.2.2.2.2.1,I r3.2.2.2.2.2.2.2.2.1,I r3.2.2.2.2.2.2.2.2.2.1,I r3.2.2.2.2.2.2.2.2.2.2.1,I r3.2.2.2.2.2.2.2.2.2.2.2.1,I r3.2.2.2.2.2.2.2.2.2.2.2.2.1,I r3.2.2.2.2.2.2.2.2.2.2.2.2.2.1,I r3.2.2.2.2.2.2.2.2.2.2.2.2.2.2.1,I r3.2.2.2.2.2.2.2.2.2.2.2.2.2.2.2.1,I r3.2.2.2.2.2.2.2.2.2.2.2.2.2.2.2.2.1,I r3.2.2.2.2.2.2.2.2.2.2.2.2.2.2.2.2.2.1,I r3.2.2.2.2.2.2.2.2.2.2.2.2.2.2.2.2.2.2.1,.slice A3 r3.2.2.2.2.2.2.2.2.2.2.2.2.2.2.2.2.2.2.2.1.length c3,I r3.2.2.2.2.2.2.2.2.2.2.2.2.2.2.2.2.2.2.2.2])]) (cs:=[I 2,I 2,I 16,I 7,I 1,.slice A r2.length c,.slice none (([]:List aR)).length 0,I r3.1,I r3.2.1,I r3.2.2.1,I r3.2.2.2.1,I r3.2.2.2.2.1,I r3.2.2.2.2.2.1,.slice A2 r3.2.2.2.2.2.2.1.length c2,I r3.2.2.2.2.2.2.2.1,I r3.2.2.2.2.2.2.2.2.1,I r3.2.2.2.2.2.2.2.2.2.1,I r3.2.2.2.2.2.2.2.2.2.2.1,I r3.2.2.2.2.2.2.2.2.2.2.2.1,I r3.2.2.2.2.2.2.2.2.2.2.2.2.1,I r3.2.2.2.2.2.2.2.2.2.2.2.2.2.1,I r3.2.2.2.2.2.2.2.2.2.2.2.2.2.2.1,I r3.2.2.2.2.2.2.2.2.2.2.2.2.2.2.2.1,I r3.2.2.2.2.2.2.2.2.2.2.2.2.2.2.2.2.1,I r3.2.2.2.2.2.2.2.2.2.2.2.2.2.2.2.2.2.1,I r3.2.2.2.2.2.2.2.2.2.2.2.2.2.2.2.2.2.2.1,.slice A3 r3.2.2.2.2.2.2.2.2.2.2.2.2.2.2.2.2.2.2.2.1.length c3,I r3.2.2.2.2.2.2.2.2.2.2.2.2.2.2.2.2.2.2.2.2]) rfl aQ) M ?_;obtain ⟨r4,lJ,h⟩:=aB h;refine fP 0 (K5 lJ) ?_;intro A4 c4 w M;obtain ⟨r5,qA,h⟩:=aB h;refine fP 0 (aAc qA ((p9 (C:=(cI .i64)) 3 rfl rfl) _ M) (M.cap 3 rfl) ((fun _ _=>SL.nil) _ M) (pK _) ((p9 (C:=jG) 1 rfl rfl) _ M) (M.cap 1 rfl) ((p9 (C:=jG) 2 rfl rfl) _ M) (M.cap 2 rfl) ((p9 (C:=(cI .i64)) 0 rfl rfl) _ M) (M.cap 0 rfl)) ?_;intro A5 c5 A6 c6 A7 c7 A8 c8 w M;refine eE 3 ?_;intro Ca w M;refine cV 0 ?_;intro w M;refine cV 6 ?_;intro w M;exact bP 3 (M.pick [1,2,3,4] aL)
end
section
open Go.Joins Go.RowKit
def Glob (w:World):Prop:=Lib.TabIs Tryz.prog w "internal/strconv.uint64pow10" .u64 Lib.pow10Tab∧(∃tp p,w.var? Tryz.prog "strconv.ErrSyntax" = some #[.iface tp p])∧∃tp p,w.var? Tryz.prog "strconv.ErrRange" = some #[.iface tp p]
theorem Glob.low {w w':World} (h:Glob w) (b:Below w.heap.size w w'):Glob w':=by
 obtain ⟨h1,⟨t2,p2,h2⟩,t3,p3,h3⟩:=h;exact ⟨tab_stays (g:=0) aQ h1 b (pK _),⟨t2,p2,var_stays (g:=2) aQ h2 b (pK _)⟩,t3,p3,var_stays (g:=3) aQ h3 b (pK _)⟩
end
section
open Go.RowKit Go.Shelf
theorem Mem.of_below {w w':World} (h:Below w.heap.size w w'):Mem w.heap.size w w' []:=(Mem.start w).below h
theorem V2 (w:World) (q:Nat) (os:Array Obj):Below w.heap.size w (Go.Sort.grow (w.drewN q) os):=
 ⟨rfl,rfl,rfl,by first|(simp [Go.Sort.grow];done)|(simp [Go.Sort.grow];omega),fun i hi=>by
  show ((w.drewN q).heap++os)[i]? = _;rw [Array.getElem?_append_left (by show i<w.heap.size;omega)]
  rfl⟩
theorem FN (N:Nat) (s substr:aR) (w0:World) (r:Int) (h:u3 N s substr=some r) :
  Calls Tryz.prog 175 #[.string (bs s),.string (bs substr)] w0 fun e w'=>∃v,e = .returned v∧v = .int .i64 r∧Mem w0.heap.size w0 w' []:=by
 unfold u3 at h
 split at h
 ·rename_i c
  cases h;refine (Any.stringslite_Index_one aIf (bs s) c w0).mono ?_;rintro e w' ⟨rfl,rfl⟩;exact ⟨_,rfl,rfl,Mem.start w'⟩
 ·cases h
theorem wK (N:Nat) (i:Int) (w0:World) (HG:Glob w0) (r:aR) (h:lX N i=some r) :
  Calls Tryz.prog 50 #[.int .i64 i] w0 fun e w'=>∃v,e = .returned v∧v = .string (bs r)∧Mem w0.heap.size w0 w' []:=by
 unfold lX at h
 split at h
 ·rename_i hi
  rw [aDx hi] at h;cases h;refine (Any.strconv_Itoa aIg i hi.1 hi.2 w0 HG.1).mono ?_;rintro e w' ⟨rfl,k,os,rfl⟩;exact ⟨_,rfl,rfl,Mem.of_below (V2 w0 k os)⟩
 ·cases h
theorem N5 (s:aR) (w0:World) (HG:Glob w0) {n:Int} (hA:Lib.atoiAll s = .ok n) (hl:s.length≤281474976710656) :
  Calls Tryz.prog 116 #[.string (bs s)] w0 fun e w'=>∃v,e = .returned v∧v = .tuple #[.int .i64 n,.nilIface]∧Mem w0.heap.size w0 w' []:=by
 refine (Any.strconv_Atoi_ok VT (bs s) (by rw [yK];omega) n hA w0).mono ?_;rintro e w' ⟨rfl,hw⟩;refine ⟨_,rfl,rfl,?_⟩
 rcases hw with rfl|⟨t,rfl⟩
 ·exact Mem.start _
 ·exact Mem.of_below (Lib.bytesWorld_below _ _ _)
theorem N6 (s:aR) (w0:World) (HG:Glob w0) {n:Int} (hA:Lib.atoiAll s = Lib.atoiAll []∧n=0∨Lib.atoiAll s = .range∧n=Lib.atoiSat s) (hl:s.length≤281474976710656) :
  Calls Tryz.prog 116 #[.string (bs s)] w0 fun e w'=>∃v,e = .returned v∧∃g,v = .tuple #[.int .i64 n,.iface 235 (.pointer (some ⟨g,0,none⟩))]∧Mem w0.heap.size w0 w' []:=by
 obtain ⟨_,⟨t1,p1,h1⟩,t2,p2,h2⟩:=HG
 rcases hA with ⟨hA,rfl⟩|⟨hA,rfl⟩
 ·refine (Any.strconv_Atoi_syntax_var VT (bs s) (by rw [yK];omega) hA t1 p1 w0 h1).mono ?_;rintro e w' ⟨g,rfl,_,_,hb⟩;exact ⟨_,rfl,g,rfl,Mem.of_below hb⟩
 ·refine (Any.strconv_Atoi_range_var VT (bs s) (by rw [yK];omega) hA t2 p2 w0 h2).mono ?_;rintro e w' ⟨g,rfl,_,_,hb⟩;exact ⟨_,rfl,g,rfl,Mem.of_below hb⟩
end
section
open Go.RowKit
section
variable {N:Nat} {yJ:aR} {w0:World}
theorem DT {s:aR} {r:Bool} (h:sS N s yJ=some r) :
  lL 148 #[.string (bs s),.string (bs yJ)] w0 (DQ r w0):=by
 refine gE Tryz.func148 Tryz.ntmps148 ?_;intro M;unfold sS at h;refine kJ 13 10 h ?_ ?_
 ·intro hb h;obtain ⟨s2,_,h⟩:=aB h;exact bP 11 M.nQ
 intro hb h;exact bP 11 M.nQ
theorem DU {s:aR} {r:Wh} (h:sT N s yJ=some r) :
  lL 114 #[.string (bs s),.string (bs yJ)] w0 (aJg r w0):=by
 refine gE Tryz.func114 Tryz.ntmps114 ?_;intro M;unfold sT at h;obtain ⟨r2,cR,h⟩:=aB h;refine fP 11 (DT cR) ?_;intro w M;refine cB 3 h ?_ ?_
 ·intro hb h;exact eB 9 M.nQ
 intro hb h;obtain ⟨s2,_,h⟩:=aB h;exact eB 13 M.nQ
theorem G8 {s sep:aR} {r:M5} (h:wJ N s sep=some r) :
  lL 149 #[.string (bs s),.string (bs sep)] w0 (aJh r w0):=by
 refine gE Tryz.func149 Tryz.ntmps149 ?_;intro M;unfold wJ at h;obtain ⟨r2,cR,h⟩:=aB h;refine fP 12 (FN N s sep _  r2 cR) ?_;intro w M;refine cB 9 h ?_ ?_
 ·intro hb h;refine Xx 1 ?_;replace M:=M.drew;obtain ⟨s2,_,h⟩:=aB h;refine aH 8 ?_;obtain ⟨s3,_,h⟩:=aB h;exact NB 8 M.nQ
 intro hb h;exact NB 11 M.nQ
end
section
variable {N:Nat} {w0:World}
theorem LX {s yJ:aR} {r:Wh} (h:B4 N s yJ=some r) :
  lL 70 #[.string (bs s),.string (bs yJ)] w0 (aJg r w0):=by
 refine gE Tryz.func70 Tryz.ntmps70 ?_;intro M;unfold B4 at h;obtain ⟨r2,cR,h⟩:=aB h;refine fP 10 (DU cR) ?_;intro w M;exact eB 7 M.nQ
theorem Td {s sep:aR} {r:M5} (h:Ib N s sep=some r) :
  lL 115 #[.string (bs s),.string (bs sep)] w0 (aJh r w0):=by
 refine gE Tryz.func115 Tryz.ntmps115 ?_;intro M;unfold Ib at h;obtain ⟨r2,cR,h⟩:=aB h;refine fP 11 (G8 cR) ?_;intro w M;exact NB 9 M.nQ
end
section
variable {N:Nat} {w0:World}
theorem xO {eA fY:Int} {fZ:List bU} {kY:Option Addr} {kZ:Nat} {o:Bool} {r:lC} (h:jS N eA fY fZ o=some r) (AN:SL w0 dJ kY fZ) (IG:fZ.length≤kZ) (HG:Glob w0) :
  lL 12 #[.agg #[I eA,I fY,.slice kY fZ.length kZ],.bool o] w0 (VS r w0):=by
 refine gE Tryz.func12 Tryz.ntmps12 ?_;intro M;unfold jS at h;refine eE 2 ?_;intro jM w M;obtain ⟨r2,cR,h⟩:=aB h;refine fP 8 (AD cR) ?_;intro A c w M;refine eE 3 ?_;intro dY w M;refine cV 0 ?_;intro w M;refine cB 9 h ?_ ?_
 ·intro hb h;exact eB 9 M.nQ
 intro hb h;refine aH 4 ?_;refine Za (fun _ K=>Kt rfl (show mR Tryz.prog 105=some [.pointer none,.slice none 0 0] by kernel_rfl) M) ?_;rintro _ w ⟨fN,rfl,M⟩;replace M:=Mem.aFt 5 M;refine cB 13 h ?_ ?_
 ·intro hb h;refine aH 5 ?_;intro a K;refine aK (fun w=>Mem _ _ w _) [0,0,1,0,0,0,0,1,0,0,0,1,0,0,1] aQ aQ (M.pick [2,3,4] aL).drew ?_;replace M:=M.drew;revert a;obtain ⟨r3,gP,h⟩:=aB h;refine rU 2 (wK N eA _ (HG.low M.low) r3 gP) ?_;intro w M;obtain ⟨s,_,h⟩:=aB h;refine aH 1 ?_;obtain ⟨s2,_,h⟩:=aB h;refine aH 3 ?_;obtain ⟨r4,lJ,h⟩:=aB h;refine rU 0 (wK N fY _ (HG.low M.low) r4 lJ) ?_;intro w M;obtain ⟨s3,_,h⟩:=aB h;refine aH 1 ?_;obtain ⟨s4,_,h⟩:=aB h;refine aH 2 ?_;obtain ⟨r5,qA,h⟩:=aB h;refine rU 0 (wK N 65535 _ (HG.low M.low) r5 qA) ?_;intro w M;obtain ⟨s5,_,h⟩:=aB h;refine aH 1 ?_;obtain ⟨s6,_,h⟩:=aB h;refine aH 1 ?_;obtain ⟨b,h_b,h⟩:=aB h;refine Gf (fun _ K=>oI (vs:=[pQ fN,.string (bs s6)]) (cap:=[]) rfl (B8 49 aQ) K rfl rfl (xM (show Mem _ _ _ [.H0 fN 105 none ([]:aR).length 0,.row 5 1 none ([]:aR).length 0 ((cI .u8).all (rT ([]:aR))),.blk dY 45 [I r2.1,I r2.2.1,.slice A r2.2.2.1.length c],.row 3 1 A r2.2.2.1.length c ((cI .i64).all r2.2.2.1),.blk jM 50 [I eA,I fY,.slice kY fZ.length kZ]] from M.pick [1,0,2,3,4] aL) h_b)) ?_;rintro _ w ⟨A2,c2,M⟩;refine ⟨M.toS,?_⟩;refine pM 12 0 [1,8,39,40] [] (fun ZL ZM (⟨l2,i⟩:lC) a w=>∃(A3:Option Addr) (c3:Nat),Kn a 66 ((41,I i)::ZL)∧jL w0 w [.H0 fN 105 A3 l2.length c3,.row 5 1 A3 l2.length c3 ((cI .u8).all (rT l2))]) (M.pick [0,1] aL) ?_ ?_
  ·rintro ⟨l6,i5⟩ a w ⟨Yv,c13,K,M⟩ h
   revert a;refine aH 4 ?_;refine Za (fun _ K=>oI (vs:=[pQ fN]) (cap:=[]) rfl (B8 52 aQ) K rfl rfl (F5 (show Mem _ _ _ [.H0 fN 105 Yv l6.length c13,.row 5 1 Yv l6.length c13 ((cI .u8).all (rT l6))] from M.pick [0,1] aL))) ?_;rintro _ w ⟨rfl,M⟩;exact eB 5 M.nQ
  rintro kk aA ⟨l2,i⟩ a w hk1 ⟨A3,c3,K,M⟩ h;unfold xF at h;revert a;refine cB 6 h ?_ ?_
  ·intro hb h;obtain ⟨e3,_,h⟩:=aB h;refine eE 8 ?_;intro D8 w M;refine cV 0 ?_;intro w M;refine aH 10 ?_;refine jO (fun _ K=>bQ rfl K (vs:=[(0,I e3.1),(1,I e3.2.1),(2,I e3.2.2)]) (cs:=[I e3.1,I e3.2.1,I e3.2.2]) rfl aQ) M ?_;refine pM 4 2 [1,8,39,40,41,51] [] (fun ZL ZM (⟨l4,i3⟩:lC) a w=>∃(A7:Option Addr) (c7:Nat),Kn a 66 ((52,I i3)::ZL)∧jL w0 w [.H0 fN 105 A7 l4.length c7,.row 5 1 A7 l4.length c7 ((cI .u8).all (rT l4))]) (M.pick [1,2] aL) ?_ ?_
   ·rintro ⟨l5,i4⟩ a w ⟨A12,c12,K,M⟩ h
    revert a;exact iG 8 (l5,aC.wrap (i+1)) (M.pick [0,1] aL)
   rintro kk aA ⟨l4,i3⟩ a w hk2 ⟨A7,c7,K,M⟩ h;unfold rO at h;revert a;refine cB 6 h ?_ ?_
   ·intro hb h;obtain ⟨e5,aIs,h⟩:=aB h;refine aH 6 ?_;refine jO (fun _ K=>Mq (C:=(cI .i64)) (es:=[e3.1,e3.2.1,e3.2.2]) rfl ZS Hc K rfl rfl rfl aIs rfl) M ?_;obtain ⟨b6,aP5,h⟩:=aB h;refine aH 8 ?_;refine Za (fun _ K=>oI (vs:=[pQ fN,.int .u8 (iH.wrap (jN .i64 e5 8))]) (cap:=[]) rfl (B8 51 aQ) K rfl rfl (Js (show Mem _ _ _ [.H0 fN 105 A7 l4.length c7,.row 5 1 A7 l4.length c7 ((cI .u8).all (rT l4))] from M.pick [0,1] aL) aP5)) ?_;rintro _ w ⟨Us,c10,M⟩;refine cB 7 h ?_ ?_
    ·intro hb h;obtain ⟨b7,aLE,h⟩:=aB h;refine aH 3 ?_;refine Za (fun _ K=>oI (vs:=[pQ fN,.int .u8 (iH.wrap e5)]) (cap:=[]) rfl (B8 51 aQ) K rfl rfl (Js (show Mem _ _ _ [.H0 fN 105 Us b6.length c10,.row 5 1 Us b6.length c10 ((cI .u8).all (rT b6))] from M.pick [0,1] aL) aLE)) ?_;rintro _ w ⟨A11,c11,M⟩;exact iG 8 (b7,aC.wrap (i3+1)) (M.pick [0,1] aL)
    intro hb h;exact iG 8 (b6,aC.wrap (i3+1)) (M.pick [0,1] aL)
   intro hb h;exact jY 3 (hk2 (l4,i3)) (M.pick [0,1] aL)
  intro hb h;exact jY 3 (hk1 (l2,i)) (M.pick [0,1] aL)
 intro hb h;refine aH 3 ?_;intro a K;refine aK (fun w=>Mem _ _ w _) [0,0,1,0,0,0,0,1,0,0,0,1,0,0,1] aQ aQ (M.pick [2,3,4] aL).drew ?_;replace M:=M.drew;revert a;obtain ⟨r6,tA,h⟩:=aB h;refine rU 2 (wK N eA _ (HG.low M.low) r6 tA) ?_;intro w M;obtain ⟨s7,_,h⟩:=aB h;refine aH 1 ?_;obtain ⟨s8,_,h⟩:=aB h;refine aH 3 ?_;obtain ⟨r7,zG,h⟩:=aB h;refine rU 0 (wK N fY _ (HG.low M.low) r7 zG) ?_;intro w M;obtain ⟨s9,_,h⟩:=aB h;refine aH 1 ?_;obtain ⟨s10,_,h⟩:=aB h;refine aH 2 ?_;obtain ⟨r8,BF,h⟩:=aB h;refine rU 0 (wK N 255 _ (HG.low M.low) r8 BF) ?_;intro w M;obtain ⟨s11,_,h⟩:=aB h;refine aH 1 ?_;obtain ⟨s12,_,h⟩:=aB h;refine aH 1 ?_;obtain ⟨b8,aLF,h⟩:=aB h;refine Gf (fun _ K=>oI (vs:=[pQ fN,.string (bs s12)]) (cap:=[]) rfl (B8 49 aQ) K rfl rfl (xM (show Mem _ _ _ [.H0 fN 105 none ([]:aR).length 0,.row 5 1 none ([]:aR).length 0 ((cI .u8).all (rT ([]:aR))),.blk dY 45 [I r2.1,I r2.2.1,.slice A r2.2.2.1.length c],.row 3 1 A r2.2.2.1.length c ((cI .i64).all r2.2.2.1),.blk jM 50 [I eA,I fY,.slice kY fZ.length kZ]] from M.pick [1,0,2,3,4] aL) aLF)) ?_;rintro _ w ⟨A14,c14,M⟩;refine ⟨M.toS,?_⟩;refine pM 12 0 [1,8,39,40] [] (fun ZL ZM (⟨l7,i6⟩:lC) a w=>∃(A15:Option Addr) (c15:Nat),Kn a 66 ((41,I i6)::ZL)∧jL w0 w [.H0 fN 105 A15 l7.length c15,.row 5 1 A15 l7.length c15 ((cI .u8).all (rT l7))]) (M.pick [0,1] aL) ?_ ?_
 ·rintro ⟨Qa,EV⟩ a w ⟨A25,c25,K,M⟩ h
  revert a;refine aH 4 ?_;refine Za (fun _ K=>oI (vs:=[pQ fN]) (cap:=[]) rfl (B8 52 aQ) K rfl rfl (F5 (show Mem _ _ _ [.H0 fN 105 A25 Qa.length c25,.row 5 1 A25 Qa.length c25 ((cI .u8).all (rT Qa))] from M.pick [0,1] aL))) ?_;rintro _ w ⟨rfl,M⟩;exact eB 5 M.nQ
 rintro kk aA ⟨l7,i6⟩ a w hk3 ⟨A15,c15,K,M⟩ h;unfold xG at h;revert a;refine cB 6 h ?_ ?_
 ·intro hb h;obtain ⟨e8,_,h⟩:=aB h;refine eE 8 ?_;intro aIx w M;refine cV 0 ?_;intro w M;refine aH 10 ?_;refine jO (fun _ K=>bQ rfl K (vs:=[(0,I e8.1),(1,I e8.2.1),(2,I e8.2.2)]) (cs:=[I e8.1,I e8.2.1,I e8.2.2]) rfl aQ) M ?_;refine pM 4 2 [1,8,39,40,41,51] [] (fun ZL ZM (⟨l9,i8⟩:lC) a w=>∃(XA:Option Addr) (c19:Nat),Kn a 66 ((52,I i8)::ZL)∧jL w0 w [.H0 fN 105 XA l9.length c19,.row 5 1 XA l9.length c19 ((cI .u8).all (rT l9))]) (M.pick [1,2] aL) ?_ ?_
  ·rintro ⟨l10,i9⟩ a w ⟨A24,c24,K,M⟩ h
   revert a;exact iG 8 (l10,aC.wrap (i6+1)) (M.pick [0,1] aL)
  rintro kk aA ⟨l9,i8⟩ a w hk4 ⟨XA,c19,K,M⟩ h;unfold rP at h;revert a;refine cB 6 h ?_ ?_
  ·intro hb h;obtain ⟨e10,aFU,h⟩:=aB h;refine aH 6 ?_;refine jO (fun _ K=>Mq (C:=(cI .i64)) (es:=[e8.1,e8.2.1,e8.2.2]) rfl ZS Hc K rfl rfl rfl aFU rfl) M ?_;obtain ⟨b13,aOu,h⟩:=aB h;refine aH 8 ?_;refine Za (fun _ K=>oI (vs:=[pQ fN,.int .u8 (iH.wrap (jN .i64 e10 8))]) (cap:=[]) rfl (B8 51 aQ) K rfl rfl (Js (show Mem _ _ _ [.H0 fN 105 XA l9.length c19,.row 5 1 XA l9.length c19 ((cI .u8).all (rT l9))] from M.pick [0,1] aL) aOu)) ?_;rintro _ w ⟨A22,c22,M⟩;refine cB 7 h ?_ ?_
   ·intro hb h;obtain ⟨b14,aOv,h⟩:=aB h;refine aH 3 ?_;refine Za (fun _ K=>oI (vs:=[pQ fN,.int .u8 (iH.wrap e10)]) (cap:=[]) rfl (B8 51 aQ) K rfl rfl (Js (show Mem _ _ _ [.H0 fN 105 A22 b13.length c22,.row 5 1 A22 b13.length c22 ((cI .u8).all (rT b13))] from M.pick [0,1] aL) aOv)) ?_;rintro _ w ⟨A23,c23,M⟩;exact iG 8 (b14,aC.wrap (i8+1)) (M.pick [0,1] aL)
   intro hb h;exact iG 8 (b13,aC.wrap (i8+1)) (M.pick [0,1] aL)
  intro hb h;exact jY 3 (hk4 (l9,i8)) (M.pick [0,1] aL)
 intro hb h;exact jY 3 (hk3 (l7,i6)) (M.pick [0,1] aL)
theorem Lo {d:aR} {UT Nb Nc Nd Nf Oy:Int} {I9:Bool} {r:lC} (h:uK N d UT Nb Nc Nd Nf Oy I9=some r) (HG:Glob w0) :
  lL 4 #[.string (bs d),.agg #[I UT,I Nb,I Nc,I Nd,I Nf,I Oy,.bool I9]] w0 (VS r w0):=by
 refine gE Tryz.func4 Tryz.ntmps4 ?_;intro M;unfold uK at h;refine eE 2 ?_;intro jM w M;obtain ⟨r2,cR,h⟩:=aB h;refine fP 7 (aAb cR) ?_;intro A c A2 c2 A3 c3 A4 c4 w M;refine eE 3 ?_;intro dY w M;refine cV 0 ?_;intro w M;refine cB 10 h ?_ ?_
 ·intro hb h;exact eB 9 M.nQ
 intro hb h;obtain ⟨r3,gP,h⟩:=aB h;refine fP 5 (PH gP) ?_;intro A5 c5 w M;refine eE 3 ?_;intro fN w M;refine cV 0 ?_;intro w M;obtain ⟨r4,lJ,h⟩:=aB h;refine fP 10 (S9 lJ) ?_;intro A6 c6 w M;refine eE 3 ?_;intro vM w M;refine cV 0 ?_;intro w M;refine kJ 9 35 h ?_ ?_
 ·intro hb h;refine aH 3 ?_;refine jO (fun _ K=>UL aNu rfl K rfl rfl (aI9 _ _ _ _ _ _ _ _)) M ?_;refine cB 3 h ?_ ?_
  ·intro hb h;obtain ⟨r5,qA,h⟩:=aB h;refine fP 4 (aAd qA) ?_;intro A7 c7 w M;refine cV 3 ?_;intro w M;refine cB 10 h ?_ ?_
   ·intro hb h;obtain ⟨r6,tA,h⟩:=aB h;refine fP 4 (Ln tA) ?_;intro A8 c8 w M;refine cV 3 ?_;intro w M;refine cB 10 h ?_ ?_
    ·intro hb h;exact eB 9 M.nQ
    intro hb h;obtain ⟨r7,zG,h⟩:=aB h;refine fP 7 (xO zG) ?_;intro w M;exact eB 7 M.nQ
   intro hb h;refine cB 9 h ?_ ?_
   ·intro hb h;exact eB 9 M.nQ
   intro hb h;obtain ⟨r8,BF,h⟩:=aB h;refine fP 7 (xO BF) ?_;intro w M;exact eB 7 M.nQ
  intro hb h;refine cB 9 h ?_ ?_
  ·intro hb h;obtain ⟨r9,EK,h⟩:=aB h;refine fP 4 (Ln EK) ?_;intro A9 c9 w M;refine cV 3 ?_;intro w M;refine cB 10 h ?_ ?_
   ·intro hb h;exact eB 9 M.nQ
   intro hb h;obtain ⟨Cd,BG,h⟩:=aB h;refine fP 7 (xO BG) ?_;intro w M;exact eB 7 M.nQ
  intro hb h;refine cB 9 h ?_ ?_
  ·intro hb h;exact eB 9 M.nQ
  intro hb h;obtain ⟨Al,Ap,h⟩:=aB h;refine fP 7 (xO Ap) ?_;intro w M;exact eB 7 M.nQ
 intro hb h;refine cB 17 h ?_ ?_
 ·intro hb h;obtain ⟨AE,Fl,h⟩:=aB h;refine fP 4 (Ln Fl) ?_;intro Us c10 w M;refine cV 3 ?_;intro w M;refine cB 10 h ?_ ?_
  ·intro hb h;exact eB 9 M.nQ
  intro hb h;obtain ⟨B1,Cx,h⟩:=aB h;refine fP 7 (xO Cx) ?_;intro w M;exact eB 7 M.nQ
 intro hb h;refine cB 9 h ?_ ?_
 ·intro hb h;exact eB 9 M.nQ
 intro hb h;obtain ⟨IX,Fm,h⟩:=aB h;refine fP 7 (xO Fm) ?_;intro w M;exact eB 7 M.nQ
theorem Te {s mark:aR} {r:Kl} (h:Ic N s mark=some r) (HG:Glob w0) :
  lL 71 #[.string (bs s),.string (bs mark)] w0 fun v w'=>v = .tuple #[I r.1,.string (bs r.2.1),.bool r.2.2]∧jL w0 w' []:=by
 refine gE Tryz.func71 Tryz.ntmps71 ?_;intro M;unfold Ic at h;obtain ⟨r2,cR,h⟩:=aB h;refine fP 11 (Td cR) ?_;intro w M;refine aH 12 ?_;intro a K
 rcases Wr h with ⟨n,hA,hl,h⟩|⟨n,hA,hl,h⟩
 ·revert a;refine fP 0 (N5 r2.1 _ (HG.low M.low) hA hl) ?_;intro w M;refine kJ 13 27 h ?_ ?_
  ·intro hb h;refine aH 1 ?_;refine jO (fun _ K=>aCJ aQ rfl K rfl) M ?_;obtain ⟨r3,gP,h⟩:=aB h;refine fP 3 (wK N n _ (HG.low M.low) r3 gP) ?_;intro w M;exact NB 9 M.nQ
  intro hb h;exact NB 15 M.nQ
 revert a;refine Za (fun _ K=>oI (vs:=[.string (bs r2.1)]) (cap:=[]) rfl (B8 116 aQ) K rfl rfl (N6 r2.1 _ (HG.low M.low) hA hl)) ?_;have M0:=M;rintro _ w ⟨e2,rfl,M⟩;replace M:=M0.call M;clear M0;refine kJ 13 27 h ?_ ?_
 ·intro hb h;refine aH 1 ?_;refine jO (fun _ K=>aCI aQ rfl K rfl) M ?_;exact NB 13 M.nQ
 intro hb h;exact NB 15 M.nQ
theorem Yd {d:aR} {r:FQ} (h:KC N d=some r) (HG:Glob w0) :
  lL 21 #[.string (bs d)] w0 fun v w'=>∃A2 c2,v = .tuple #[.agg #[I r.1,I r.2.1,.slice A2 r.2.2.1.length c2],.bool r.2.2.2.1,I r.2.2.2.2]∧jL w0 w' [.row 65 3 A2 r.2.2.1.length c2 (dJ.all r.2.2.1)]:=by
 refine gE Tryz.func21 Tryz.ntmps21 ?_;intro M;unfold KC at h;refine eE 2 ?_;intro jM w M;refine aH 4 ?_;intro a K;refine wp_scope_straight ?_;revert a;obtain ⟨r2,cR,h⟩:=aB h;refine fP 3 (LX cR) ?_;intro w M;refine eE 3 ?_;intro dY w M;refine cV 0 ?_;intro w M;refine eE 5 ?_;intro fN w M;refine aH 8 ?_;refine jO (fun _ K=>bQ rfl K (vs:=[(0,.string (bs ([32]:aR))),(1,.string (bs ([10]:aR))),(2,.string (bs ([10]:aR)))]) (cs:=[.string (bs ([32]:aR)),.string (bs ([10]:aR)),.string (bs ([10]:aR))]) rfl aQ) M ?_;refine pM 4 0 [2,5,7,23] [2] (fun ZL ZM (⟨x0,x1,x2,x3,i,i2⟩:aDg) a w=>Kn a 118 ((6,.bool i)::(24,I i2)::ZL)∧jL w0 w (.blk fN 35 [I x0,I x1,I x2] :: .blk dY 9 [.string (bs x3)]::ZM)) (M.pick [0,1,2] aL) ?_ ?_
 ·rintro ⟨Oj,FX,JJ,x4,D2,i16⟩ a w ⟨K,M⟩ h;try dsimp only at h
  revert a;refine Xx 3 ?_;replace M:=M.drew;refine aH 14 ?_;intro a K;refine w8 (Rel:=fun (i17:Bool) a w=>Kn a 118 [(2,pQ jM),(5,pQ dY),(11,I Oj),(12,I FX),(13,.bool (decide (JJ=65535))),(78,.bool i17)]∧jL w0 w [.blk fN 35 [I Oj,I FX,I JJ],.blk dY 9 [.string (bs x4)],.blk jM 50 [I 0,I 0,.slice none (([]:List bU)).length 0]]) h ?_ ?_
  ·clear K M h;rintro i18 a w ⟨K,M⟩ h;try dsimp only at h
   revert a;refine cB 1 h ?_ ?_
   ·intro hb h;refine cV 3 ?_;intro w M;refine aH 6 ?_;intro a K;refine aLq ?_;cases h;exact UK K rfl (lF K rfl aFA (M.gQ (i:=2) rfl) rfl) (jD K rfl) (jD K rfl) ⟨_,rfl,_,_,rfl,(((Mem.cC 65 3 dJ M)).pick [0] aL)⟩
   intro hb h;refine eE 4 ?_;intro vM w M;refine cV 0 ?_;intro w M;refine aH 8 ?_;intro a K;refine w8 (Rel:=fun (x5:Int) a w=>Kn a 118 [(2,pQ jM),(5,pQ dY),(11,I Oj),(12,I FX),(13,.bool (decide (JJ=65535))),(14,pQ vM)]∧jL w0 w [.blk vM 3 [I x5],.blk fN 35 [I Oj,I FX,I JJ],.blk dY 9 [.string (bs x4)],.blk jM 50 [I 0,I 0,.slice none (([]:List bU)).length 0]]) h ?_ ?_
   ·clear K M h;rintro x6 a w ⟨K,M⟩ h;try dsimp only at h
    revert a;refine cB 15 h ?_ ?_
    ·intro hb h;refine cV 3 ?_;intro w M;refine aH 6 ?_;intro a K;refine aLq ?_;cases h;exact UK K rfl (lF K rfl aFA (M.gQ (i:=3) rfl) rfl) (jD K rfl) (jD K rfl) ⟨_,rfl,_,_,rfl,(((Mem.cC 65 3 dJ M)).pick [0] aL)⟩
    intro hb h;refine aH 6 ?_;refine jO (fun _ K=>bQ rfl K (vs:=[(0,I Oj),(1,I FX)]) (cs:=[I Oj,I FX,.slice none (([]:List bU)).length 0]) rfl aQ) M ?_;refine eE 0 ?_;intro D8 w M;refine cV 0 ?_;intro w M;refine aH 18 ?_;replace M:=Mem.cC 65 3 dJ M;refine pM 0 2 [2,13,15,16,97] [5] (fun ZL ZM (⟨tE,x7,i19⟩:aDh) a w=>∃(A:Option Addr) (c:Nat),Kn a 118 ((98,I i19)::ZL)∧jL w0 w (.row 65 3 A tE.length c (dJ.all tE) :: .blk D8 50 [I Oj,I FX,.slice A tE.length c] :: .blk vM 3 [I x6] :: .blk dY 9 [.string (bs x7)]::ZM)) (M.pick [0,1,2,4,5] aL) ?_ ?_
    ·rintro ⟨sZ,x8,i20⟩ a w ⟨A4,c4,K,M⟩ h;try dsimp only at h
     revert a;refine cV 6 ?_;intro w M;refine aH 5 ?_;intro a K;refine aLq ?_;cases h;exact UK K rfl (lF K rfl aFA (M.gQ (i:=4) rfl) rfl) (jD K rfl) (jD K rfl) ⟨_,rfl,_,_,rfl,M.pick [0] aL⟩
    rintro kk aA ⟨tE,x7,i19⟩ a w hk2 ⟨A,c,K,M⟩ h;unfold GQ at h;revert a;refine cB 6 h ?_ ?_
    ·intro hb h;refine aH 7 ?_;intro a K;refine Tx (vs:=[]) (cap:=[pQ dY,pQ vM]) K (cA rfl) rfl rfl rfl (B8 72 aQ) rfl rfl ?_;clear K;refine qC Tryz.func72 rfl Tryz.ntmps72 rfl ?_;refine Xx 6 ?_;replace M:=M.drew;obtain ⟨b7,_,h⟩:=aB h;refine aH 7 ?_;obtain ⟨b8,_,h⟩:=aB h;refine aH 10 ?_;obtain ⟨s4,_,h⟩:=aB h;refine cV 1 ?_;intro w M;refine aH 9 ?_;refine Ps ?_;refine jO (fun _ K=>bQ rfl K (vs:=[(0,I (Ir .i64 (qF .i64 (aC.wrap (b7.toNat:Int)) 8) (aC.wrap (b8.toNat:Int))))]) (cs:=[I (Ir .i64 (qF .i64 (aC.wrap (b7.toNat:Int)) 8) (aC.wrap (b8.toNat:Int))),I 0,I 0]) rfl aQ) M ?_;refine eE 0 ?_;intro aIx w M;refine cV 0 ?_;intro w M;refine aH 5 ?_;intro a K;refine Tx (vs:=[]) (cap:=[pQ dY,pQ vM]) K (cA rfl) rfl rfl rfl (B8 72 aQ) rfl rfl ?_;clear K;refine qC Tryz.func72 rfl Tryz.ntmps72 rfl ?_;refine Xx 6 ?_;replace M:=M.drew;refine aH 1 ?_;obtain ⟨b9,_,h⟩:=aB h;refine aH 6 ?_;obtain ⟨b10,_,h⟩:=aB h;refine aH 10 ?_;obtain ⟨s5,_,h⟩:=aB h;refine cV 1 ?_;intro w M;refine aH 9 ?_;refine Ps ?_;refine cV 1 ?_;intro w M;refine aH 5 ?_;intro a K;refine Tx (vs:=[]) (cap:=[pQ dY,pQ vM]) K (cA rfl) rfl rfl rfl (B8 72 aQ) rfl rfl ?_;clear K;refine qC Tryz.func72 rfl Tryz.ntmps72 rfl ?_;refine Xx 6 ?_;replace M:=M.drew;refine aH 1 ?_;obtain ⟨b11,_,h⟩:=aB h;refine aH 6 ?_;obtain ⟨b12,_,h⟩:=aB h;refine aH 10 ?_;obtain ⟨s6,_,h⟩:=aB h;refine cV 1 ?_;intro w M;refine aH 9 ?_;refine Ps ?_;refine cV 1 ?_;intro w M;refine aH 6 ?_;refine Za (fun _ K=>bS rfl wU z65 K (vs:=[(0,.agg #[I (Ir .i64 (qF .i64 (aC.wrap (b7.toNat:Int)) 8) (aC.wrap (b8.toNat:Int))),I (Ir .i64 (qF .i64 (aC.wrap (b9.toNat:Int)) 8) (aC.wrap (b10.toNat:Int))),I (Ir .i64 (qF .i64 (aC.wrap (b11.toNat:Int)) 8) (aC.wrap (b12.toNat:Int)))])]) (cs:=[I (Ir .i64 (qF .i64 (aC.wrap (b7.toNat:Int)) 8) (aC.wrap (b8.toNat:Int))),I (Ir .i64 (qF .i64 (aC.wrap (b9.toNat:Int)) 8) (aC.wrap (b10.toNat:Int))),I (Ir .i64 (qF .i64 (aC.wrap (b11.toNat:Int)) 8) (aC.wrap (b12.toNat:Int)))]) rfl aQ rfl rfl M) ?_;rintro _ w ⟨gs2,rfl,M⟩;replace M:=M.fX 0 rfl dJ ([(Ir .i64 (qF .i64 (aC.wrap (b7.toNat:Int)) 8) (aC.wrap (b8.toNat:Int)),Ir .i64 (qF .i64 (aC.wrap (b9.toNat:Int)) 8) (aC.wrap (b10.toNat:Int)),Ir .i64 (qF .i64 (aC.wrap (b11.toNat:Int)) 8) (aC.wrap (b12.toNat:Int)))]:List bU) (n:=1) rfl rfl rfl;obtain ⟨Ak,Ju,h⟩:=aB h;refine Za (fun _ K=>fQ (C:=dJ) (xs:=tE) (ys:=([(Ir .i64 (qF .i64 (aC.wrap (b7.toNat:Int)) 8) (aC.wrap (b8.toNat:Int)),Ir .i64 (qF .i64 (aC.wrap (b9.toNat:Int)) 8) (aC.wrap (b10.toNat:Int)),Ir .i64 (qF .i64 (aC.wrap (b11.toNat:Int)) 8) (aC.wrap (b12.toNat:Int)))]:List bU)) rfl wU rfl z65 rfl rfl K rfl rfl 2 M rfl ((p9 (C:=dJ) 0 rfl rfl) _ M) Ju) ?_;rintro _ w ⟨A3,c3,rfl,M⟩;refine cV 1 ?_;intro w M;exact iG 8 (Ak,s6,aC.wrap (i19+1)) (M.pick [2,3,4,5,6] aL)
    intro hb h;exact jY 3 (hk2 (tE,x7,i19)) (M.pick [0,1,2,3,4] aL)
   clear h;rintro FF hj5 h;unfold Kz at h;revert a;refine cB 0 h ?_ ?_
   ·intro hb h;refine cV 1 ?_;intro w M;exact jY 1 (hj5 2) (M.pick [0,1,2,3] aL)
   intro hb h;exact jY 1 (hj5 1) (M.pick [0,1,2,3] aL)
  clear h;rintro sY VZ h;unfold KA at h;revert a;refine kJ 4 53 h ?_ ?_
  ·intro hb h;exact jY 26 (VZ true) (M.pick [0,1,2] aL)
  intro hb h;refine kJ 4 57 h ?_ ?_
  ·intro hb h;exact jY 22 (VZ true) (M.pick [0,1,2] aL)
  intro hb h;refine kJ 4 61 h ?_ ?_
  ·intro hb h;exact jY 18 (VZ true) (M.pick [0,1,2] aL)
  intro hb h;refine kJ 4 65 h ?_ ?_
  ·intro hb h;exact jY 14 (VZ true) (M.pick [0,1,2] aL)
  intro hb h;refine kJ 4 69 h ?_ ?_
  ·intro hb h;exact jY 10 (VZ true) (M.pick [0,1,2] aL)
  intro hb h;refine kJ 4 73 h ?_ ?_
  ·intro hb h;exact jY 6 (VZ (!decide (JJ=255))) (M.pick [0,1,2] aL)
  intro hb h;exact jY 6 (VZ false) (M.pick [0,1,2] aL)
 rintro kk aA ⟨x0,x1,x2,x3,i,i2⟩ a w hk1 ⟨K,M⟩ h;unfold Br at h;revert a;refine cB 6 h ?_ ?_
 ·intro hb h;obtain ⟨e2,Hw,h⟩:=aB h;refine aH 7 ?_;refine jO (fun _ K=>Mq (C:=cS) (es:=[([32]:aR),([10]:aR),([10]:aR)]) rfl aJa sc9 K rfl rfl rfl Hw rfl) M ?_;obtain ⟨r4,lJ,h⟩:=aB h;refine fP 14 (Te lJ) ?_;intro w M;refine aH 4 ?_;refine J9 h ?_ ?_
  ·intro hj2 h;refine yjQ hj2 0 M ?_;refine cV 0 ?_;intro w M;refine cV 0 ?_;intro w M;refine aH 4 ?_;intro a K;refine w8 (Rel:=fun (i9:Bool) a w=>Kn a 118 [(2,pQ jM),(5,pQ dY),(6,.bool i9),(7,pQ fN),(23,.agg #[.string (bs ([32]:aR)),.string (bs ([10]:aR)),.string (bs ([10]:aR))]),(24,I i2)]∧jL w0 w [.blk fN 35 [I r4.1,I x1,I x2],.blk dY 9 [.string (bs r4.2.1)],.blk jM 50 [I 0,I 0,.slice none (([]:List bU)).length 0]]) h ?_ ?_
   ·clear K M h;rintro EV a w ⟨K,M⟩ h;try dsimp only at h
    revert a;refine cB 7 h ?_ ?_
    ·intro hb h;exact jY 4 (hk1 (r4.1,x1,x2,r4.2.1,EV,i2)) (M.pick [0,1,2] aL)
    intro hb h;exact iG 8 (r4.1,x1,x2,r4.2.1,EV,aC.wrap (i2+1)) (M.pick [0,1,2] aL)
   clear h;rintro FC hj1 h;unfold Kw at h;revert a;refine kJ 3 38 h ?_ ?_
   ·intro hb h;exact jY 4 (hj1 r4.2.2) (M.pick [0,1,2] aL)
   intro hb h;exact jY 4 (hj1 false) (M.pick [0,1,2] aL)
  intro h;refine J9 h ?_ ?_
  ·intro hj2 h;refine yjQ hj2 1 M ?_;refine cV 0 ?_;intro w M;refine cV 0 ?_;intro w M;refine aH 4 ?_;intro a K;refine w8 (Rel:=fun (i11:Bool) a w=>Kn a 118 [(2,pQ jM),(5,pQ dY),(6,.bool i11),(7,pQ fN),(23,.agg #[.string (bs ([32]:aR)),.string (bs ([10]:aR)),.string (bs ([10]:aR))]),(24,I i2)]∧jL w0 w [.blk fN 35 [I x0,I r4.1,I x2],.blk dY 9 [.string (bs r4.2.1)],.blk jM 50 [I 0,I 0,.slice none (([]:List bU)).length 0]]) h ?_ ?_
   ·clear K M h;rintro i12 a w ⟨K,M⟩ h;try dsimp only at h
    revert a;refine cB 7 h ?_ ?_
    ·intro hb h;exact jY 4 (hk1 (x0,r4.1,x2,r4.2.1,i12,i2)) (M.pick [0,1,2] aL)
    intro hb h;exact iG 8 (x0,r4.1,x2,r4.2.1,i12,aC.wrap (i2+1)) (M.pick [0,1,2] aL)
   clear h;rintro FD hj2 h;unfold Kx at h;revert a;refine kJ 3 38 h ?_ ?_
   ·intro hb h;exact jY 4 (hj2 r4.2.2) (M.pick [0,1,2] aL)
   intro hb h;exact jY 4 (hj2 false) (M.pick [0,1,2] aL)
  intro h;refine J9 h ?_ ?_
  ·intro hj2 h;refine yjQ hj2 2 M ?_;refine cV 0 ?_;intro w M;refine cV 0 ?_;intro w M;refine aH 4 ?_;intro a K;refine w8 (Rel:=fun (Na:Bool) a w=>Kn a 118 [(2,pQ jM),(5,pQ dY),(6,.bool Na),(7,pQ fN),(23,.agg #[.string (bs ([32]:aR)),.string (bs ([10]:aR)),.string (bs ([10]:aR))]),(24,I i2)]∧jL w0 w [.blk fN 35 [I x0,I x1,I r4.1],.blk dY 9 [.string (bs r4.2.1)],.blk jM 50 [I 0,I 0,.slice none (([]:List bU)).length 0]]) h ?_ ?_
   ·clear K M h;rintro Yo a w ⟨K,M⟩ h;try dsimp only at h
    revert a;refine cB 7 h ?_ ?_
    ·intro hb h;exact jY 4 (hk1 (x0,x1,r4.1,r4.2.1,Yo,i2)) (M.pick [0,1,2] aL)
    intro hb h;exact iG 8 (x0,x1,r4.1,r4.2.1,Yo,aC.wrap (i2+1)) (M.pick [0,1,2] aL)
   clear h;rintro FE hj3 h;unfold Ky at h;revert a;refine kJ 3 38 h ?_ ?_
   ·intro hb h;exact jY 4 (hj3 r4.2.2) (M.pick [0,1,2] aL)
   intro hb h;exact jY 4 (hj3 false) (M.pick [0,1,2] aL)
  intro h;intro a K;cases h
 intro hb h;exact jY 3 (hk1 (x0,x1,x2,x3,i,i2)) (M.pick [0,1,2] aL)
end
theorem Ii {N:Nat} {w0:World} {r:Bool} (h:uB N  = some r) (HG:Glob w0) :
  lL 6 #[] w0 (DQ r w0):=by
 refine gE Tryz.func6 Tryz.ntmps6 ?_;intro M;unfold uB at h;refine aH 7 ?_;refine jO (fun _ K=>bQ rfl K (vs:=[(0,I 258),(1,I 1),(2,I 65535)]) (cs:=[I 258,I 1,I 65535]) rfl aQ) M ?_;refine Za (fun _ K=>bS rfl wU z65 K (vs:=[(0,.agg #[I 258,I 1,I 65535])]) (cs:=[I 258,I 1,I 65535]) rfl aQ rfl rfl M) ?_;rintro _ w ⟨gs,rfl,M⟩;replace M:=M.fX 0 rfl dJ ([(258,1,65535)]:List bU) (n:=1) rfl rfl rfl;refine jO (fun _ K=>bQ rfl K (vs:=[(0,I 1),(1,I 1),(2,.slice (some ⟨gs,0,none⟩) (([(258,1,65535)]:List bU)).length 1)]) (cs:=[I 1,I 1,.slice (some ⟨gs,0,none⟩) (([(258,1,65535)]:List bU)).length 1]) rfl aQ) M ?_;refine eE 0 ?_;intro g_o w M;refine cV 0 ?_;intro w M;obtain ⟨r2,cR,h⟩:=aB h;refine fP 5 (xO cR) ?_;intro w M;obtain ⟨r3,gP,h⟩:=aB h;refine fP 10 (xO gP) ?_;intro w M;obtain ⟨r4,lJ,h⟩:=aB h;refine fP 10 (Yd lJ) ?_;intro A c w M;refine eE 4 ?_;intro jM w M;refine cV 0 ?_;intro w M;obtain ⟨r5,qA,h⟩:=aB h;refine fP 6 (LW qA) ?_;intro A2 c2 A3 c3 A4 c4 A5 c5 w M;obtain ⟨r6,tA,h⟩:=aB h;refine fP 0 (Yc tA) ?_;intro w M;refine aH 10 ?_;refine jO (fun _ K=>bQ rfl K (vs:=[(0,I 1),(2,I 1)]) (cs:=[I 1,I 0,I 0,I 0,I 0,I 1,.bool false]) rfl aQ) M ?_;obtain ⟨r7,zG,h⟩:=aB h;refine fP 0 (Lo zG) ?_;intro w M;refine kJ 12 45 h ?_ ?_
 ·intro hb h;refine kJ 4 49 h ?_ ?_
  ·intro hb h;refine kJ 4 53 h ?_ ?_
   ·intro hb h;refine kJ 4 57 h ?_ ?_
    ·intro hb h;refine kJ 4 61 h ?_ ?_
     ·intro hb h;refine kJ 4 65 h ?_ ?_
      ·intro hb h;refine kJ 4 69 h ?_ ?_
       ·intro hb h;refine kJ 3 72 h ?_ ?_
        ·intro hb h;obtain ⟨r8,BF,h⟩:=aB h;refine fP 2 (F8 BF) ?_;intro w M;refine kJ 2 77 h ?_ ?_
         ·intro hb h;exact bP 8 M.nQ
         intro hb h;exact bP 8 M.nQ
        intro hb h;exact bP 13 M.nQ
       intro hb h;exact bP 16 M.nQ
      intro hb h;exact bP 20 M.nQ
     intro hb h;exact bP 24 M.nQ
    intro hb h;exact bP 28 M.nQ
   intro hb h;exact bP 32 M.nQ
  intro hb h;exact bP 36 M.nQ
 intro hb h;exact bP 40 M.nQ
theorem F9 (N:Nat) (s:aR) (Ia CL CM CN CO ED:Int) (GP:Bool) (w0:World) (HG:Glob w0) (r:Bool) (h:sE N s Ia CL CM CN CO ED GP=some r) :
  lL 3 #[.string (bs s),.agg #[I Ia,I CL,I CM,I CN,I CO,I ED,.bool GP]] w0 (DQ r w0):=by
 refine gE Tryz.func3 Tryz.ntmps3 ?_;intro M;unfold sE at h;refine eE 2 ?_;intro MS w M;obtain ⟨r2,cR,h⟩:=aB h;refine fP 7 (Lo cR) ?_;intro w M;obtain ⟨r3,gP,h⟩:=aB h;refine fP 11 (Ip gP) ?_;intro w M;obtain ⟨r4,lJ,h⟩:=aB h;refine fP 9 (Ii lJ) ?_;intro w M;refine kJ 1 22 h ?_ ?_
 ·intro hb h;refine kJ 5 27 h ?_ ?_
  ·intro hb h;exact bP 8 M.nQ
  intro hb h;exact bP 8 M.nQ
 intro hb h;exact bP 13 M.nQ
end
end Go.Proofs.YtpmnfhifmmfgladGreatDoor
