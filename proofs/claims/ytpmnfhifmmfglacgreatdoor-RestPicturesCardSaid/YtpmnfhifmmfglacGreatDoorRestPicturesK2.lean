/- Texts of the claim RestPictures, joined and made small by a program. -/
import Derived.Deep.DeepCutAuto
import Derived.Deep.OwnRows
import Derived.Test.YtpmnfhifmmfglacGreatDoorRows
import Derived.Test.YtpmnfhifmmfglacGreatDoorRestPicturesK1
set_option linter.unusedVariables false
set_option linter.unusedSimpArgs false
set_option linter.unusedSectionVars false
set_option maxRecDepth 100000
set_option maxHeartbeats 8000000
namespace Go.Proofs.YtpmnfhifmmfglacGreatDoor
section
open Go.RowKit
def Kw:Value:=.agg #[.int .i64 0,.int .i64 0,.slice none 0 0]
theorem N1 (W H:Int) (A:Option Addr) (n c:Nat) (xs:List Int) (w:World) (h:RI w 0 A n xs) (hn:n≤maxLen) :
  Calls Tryz.prog 110 #[.agg #[.int .i64 W,.int .i64 H,.slice A n c]] w fun e w'=>e = .returned (.bool (bW W H xs))∧Below w.heap.size w w':=by
 unfold maxLen at hn;have hlen:=h.len
 by_cases hs:xQ W H
 ·obtain ⟨hm1,hm2⟩:=RL hs
  by_cases hl:(n:Int)=W*H
  ·have HP:Hid (∀(k:Nat),n≤k→(xs.take k).all Jy=true→bW W H xs=true):=fun k hk h0=>rU.2 ⟨hs,by rw [hlen];exact hl,I8 Jy xs k (by omega) h0⟩
   have HF:Hid (∀(k:Nat) (x:Int),xs[k]? = some x→Jy x=false→bW W H xs=false):=fun k x hx h0=>by
    simp [bW,JZ Jy xs k x hx h0]
   obtain ⟨h1,h2,h3,h4⟩:=hs;have hb:((n:Int) != W*H)=false:=by simp [hl]
   clear hl hlen;have HR:=Lib.hid h;clear h
   go_enter Tryz.func110,Tryz.ntmps110
   go_wp2
   go_loopw [37] (fun i wr=>∃k:Nat,k≤n∧i = .int .i64 k∧(xs.take k).all Jy=true∧Below w.heap.size w wr) (fun i _=>n-(intOf i).toNat)
   case atStart=>exact ⟨0,Nat.zero_le _,rfl,rfl,(Below.refl _ _).alloc (Nat.le_refl _) _⟩
   case round=>
    obtain ⟨k,hk,rfl,hal,hbel⟩:=hrel;have HA:=Lib.hid hal;clear hal
    by_cases hlt:k<n
    ·obtain ⟨b,o,x,rfl,hbs,hx,hc⟩:=HR.out.at_ k hlt;have hc':=(hbel.cell (p:=⟨b,o+k,none⟩) hbs).trans hc;have HX:=Lib.hid hx;clear hc hx
     by_cases hok:0≤x∧x≤65535
     ·have HO:Hid (Jy x=true):=by show Jy x=true;simp [Jy,hok]
      go_wp2
      go_roundw
      case rel=>exact ⟨k+1,by omega,by go_num,I7 Jy xs k x HX.out HA.out HO.out,hbel⟩
      case measure=>simp [intOf];omega
     ·have HO:Hid (Jy x=false):=by show Jy x=false;simp [Jy];omega
      go_wp2
      all_goals go_ret
      all_goals exact ⟨UT (HF.out k x HX.out HO.out).symm,hbel⟩
    ·go_wp2
     go_ret
     exact ⟨UT (HP.out k (by omega) HA.out).symm,hbel⟩
  ·have HF:Hid (bW W H xs=false):=by show _=_;simp [bW,hlen,hl]
   obtain ⟨h1,h2,h3,h4⟩:=hs;have hb:((n:Int) != W*H)=true:=by simp [hl]
   clear hl hlen h
   go_enter Tryz.func110,Tryz.ntmps110
   go_wp2
   go_ret
   exact ⟨UT HF.out.symm,(Below.refl _ _).alloc (Nat.le_refl _) _⟩
 ·have HF:Hid (bW W H xs=false):=by show _=_;simp [bW,hs]
  unfold xQ at hs;clear hlen h
  go_enter Tryz.func110,Tryz.ntmps110
  go_wp2
  all_goals go_ret
  all_goals exact ⟨UT HF.out.symm,(Below.refl _ _).alloc (Nat.le_refl _) _⟩
def FB (f:Nat→Int) (n k:Nat):Array Value:=((List.range n).map fun j=>Value.int .i64 (if j<k then f j else 0)).toArray
theorem Ux (f:Nat→Int) (n:Nat):madeCells #[Value.int .i64 0] n=FB f n 0:=by
 apply Array.ext
 ·simp [madeCells,FB]
 ·intro i h1 h2
  simp [madeCells,FB,Nat.mod_one]
theorem Xh (f:Nat→Int) (n k:Nat) (v:Int) (hv:f k=v):FB f n (k+1)=(FB f n k).setIfInBounds k (.int .i64 v):=by
 subst hv;simp only [FB,List.setIfInBounds_toArray]
 congr 1
 apply List.ext_getElem
 ·simp
 ·intro i h1 h2;rw [List.getElem_set];simp only [List.getElem_map,List.getElem_range]
  by_cases hik:k=i
  ·subst hik;simp
  ·have:(i<k+1)↔(i<k):=by omega
   simp [hik,this]
theorem aAr (f:Nat→Int) (n k j:Nat) (h:j<n):(FB f n k)[j]? = some (.int .i64 (if j<k then f j else 0)):=by
 simp [FB,h]
theorem Uy (f:Nat→Int) (n:Nat):FB f n n=(VI ((List.range n).map f)).toArray:=by
 simp only [FB,VI,List.map_map]
 congr 1
 refine List.map_congr_left fun j hj=>?_
 simp [List.mem_range.1 hj]
theorem aE8 {w:World} {g:Nat} {t:TypeId} {xs:List Int} (h:jM w g t (VI xs).toArray) (B:Nat) (hB:B≤g):RI w B (some ⟨g,0,none⟩) xs.length xs:=
 ⟨by simp [VI],fun _=>⟨g,0,rfl,hB,h.lt,fun j u hu=>by rw [Nat.zero_add,h.cell j];simpa using hu⟩⟩
theorem Tryz.info3:(Tryz.prog.info? 3).map (fun i=>(i.zero,i.size,i.bytes))=some (some (.int .i64 0),1,8):=by kernel_rfl
def OI (w:World) (B:Nat) (A:Option Addr) (n c:Nat) (xs:List Int):Prop:=∃g,A=some ⟨g,0,none⟩∧c=n∧B≤g∧xs.length=n∧jM w g 3 (VI xs).toArray
theorem OI.BI {w:World} {B n c:Nat} {A:Option Addr} {xs:List Int} (h:OI w B A n c xs) {p:Addr} (hp:p.block<B) (u:Value):OI (w.setCell p u) B A n c xs:=by
 obtain ⟨g,h1,h2,h3,h4,h5⟩:=h;exact ⟨g,h1,h2,h3,h4,h5.far (by omega) u⟩
theorem OI.base {w:World} {B B' n c:Nat} {A:Option Addr} {xs:List Int} (h:OI w B A n c xs) (hB:B'≤B):OI w B' A n c xs:=by
 obtain ⟨g,h1,h2,h3,h4,h5⟩:=h;exact ⟨g,h1,h2,by omega,h4,h5⟩
def Ma (g:Int→Int→Int→Int) (W:Nat) (xs:List Int) (k:Nat):Int:=min (g (xs.getD k 0) ((k:Int)%W) ((k:Int)/W)) 65535
theorem aAs (fid:Nat) (p1 p2:Addr) (g:Int→Int→Int→Int) (W:Nat) (H:Int) (A:Option Addr) (n c:Nat) (xs:List Int) (w:World) (h:RI w 0 A n xs) (hn:n≤4096) (hW:1≤W) (hW2:W≤64)
  (hcf:∀(args:Array Value) (wx:World),(callFunc fid args).run Tryz.prog wx = .ok (.enter fid args) wx)
  (hcl:∀(k:Nat) (v:Int) (w1:World),xs[k]? = some v→Below w.heap.size w w1→Calls Tryz.prog fid #[.int .i64 v,.int .i64 ((k:Int)%W),.int .i64 ((k:Int)/W),.pointer (some p1),.pointer (some p2)] w1 fun e w2=>e = .returned (.int .i64 (g v ((k:Int)%W) ((k:Int)/W)))∧Below w1.heap.size w1 w2) :
  Calls Tryz.prog 111 #[.agg #[.int .i64 W,.int .i64 H,.slice A n c],.func (.func fid) #[] #[.pointer (some p1),.pointer (some p2)]] w fun e w'=>
   ∃A' c',e = .returned (.agg #[.int .i64 W,.int .i64 H,.slice A' n c'])∧(RI w' w.heap.size A' n ((List.range n).map (Ma g W xs))∧OI w' w.heap.size A' n c' ((List.range n).map (Ma g W xs)))∧Below w.heap.size w w':=by
 have HR:=Lib.hid h;have HC:=Lib.hid hcl;have HL:=Lib.hid h.len;clear h hcl
 have hmk:∀wx:World,(Instr.makeSlice 29 (.int .i64 (n:Int)) (.int .i64 (n:Int))).run Tryz.prog wx = .ok (.slice (some ⟨wx.heap.size,0,none⟩) n n) (wx.alloc (.cells (FB (Ma g W xs) n 0) 3)):=fun wx=>by
  rw [←Ux];exact run_make_row' 29 3 (.int .i64 0) 8 Tryz.underlying29 Tryz.info3 rfl .i64 .i64 n (by omega) (by omega) wx
 go_enter Tryz.func111,Tryz.ntmps111
 go_upto_region 1 with fail
 go_cut [5] (fun s5 wc=>∃og om:Nat,s5 = .pointer (some ⟨og,0,none⟩)∧w.heap.size+2≤og∧og<w.heap.size+4∧w.heap.size+2≤om∧om<w.heap.size+4∧og≠om ∧
   jM wc w.heap.size 31 #[.int .i64 W,.int .i64 H,.slice A n c]∧jM wc (w.heap.size+1) 31 #[.int .i64 0,.int .i64 0,.slice none 0 0]∧jM wc og 31 #[.int .i64 W,.int .i64 H,.slice (some ⟨om,0,none⟩) n n] ∧
   jM wc om 3 (FB (Ma g W xs) n 0)∧wc.heap.size=w.heap.size+4∧Below w.heap.size w wc)
 case first=>
  go_region
  all_goals (go_wp2_with fail;go_meet)
  ·refine ⟨w.heap.size+1+1+1,w.heap.size+1+1,rfl,by omega,by omega,by omega,by omega,by omega,?_,?_,?_,?_,by simp,?_⟩
   rotate_right
   ·exact (((((Below.refl _ _).alloc (Nat.le_refl _) _).alloc (by simp) _).alloc (by simp;omega) _).alloc (by simp;omega) _).drew
   all_goals (first | exact jM.newAt (by simp) | exact (jM.newAt (by simp)).alloc _ | exact ((jM.newAt (by simp)).alloc _).alloc _ | exact (((jM.newAt (by simp)).alloc _).alloc _).alloc _ | exact jM.drew (jM.newAt (by simp)) | exact jM.drew ((jM.newAt (by simp)).alloc _) | exact jM.drew (((jM.newAt (by simp)).alloc _).alloc _) | exact jM.drew ((((jM.newAt (by simp)).alloc _).alloc _).alloc _))
  ·refine ⟨w.heap.size+1+1,w.heap.size+1+1+1,rfl,by omega,by omega,by omega,by omega,by omega,?_,?_,?_,?_,by simp,?_⟩
   rotate_right
   ·exact (((((Below.refl _ _).alloc (Nat.le_refl _) _).alloc (by simp) _).alloc (by simp;omega) _).alloc (by simp;omega) _).drew
   all_goals (first | exact jM.newAt (by simp) | exact (jM.newAt (by simp)).alloc _ | exact ((jM.newAt (by simp)).alloc _).alloc _ | exact (((jM.newAt (by simp)).alloc _).alloc _).alloc _ | exact jM.drew (jM.newAt (by simp)) | exact jM.drew ((jM.newAt (by simp)).alloc _) | exact jM.drew (((jM.newAt (by simp)).alloc _).alloc _) | exact jM.drew ((((jM.newAt (by simp)).alloc _).alloc _).alloc _))
 case rest=>
  obtain ⟨og,om,rfl,h1,h2,h3,h4,h5,k0,k1,k2,k3,hsz,hbel⟩:=hcut;obtain ⟨c00,c01,c02⟩:=k0.c3;have K0:=Lib.hid k0;clear k0;have KX:=Lib.hid (show jM wc (w.heap.size+1) 31 #[.int .i64 0,.int .i64 0,.slice none 0 0]∧jM wc og 31 #[.int .i64 W,.int .i64 H,.slice (some ⟨om,0,none⟩) n n]∧jM wc om 3 (FB (Ma g W xs) n 0) from ⟨k1,k2,k3⟩);clear k1 k2 k3
  go_wp2
  go_loopw [20] (fun i wr=>∃k:Nat,k≤n∧i = .int .i64 k∧jM wr w.heap.size 31 #[.int .i64 W,.int .i64 H,.slice A n c]∧jM wr (w.heap.size+1) 31 #[.int .i64 0,.int .i64 0,.slice none 0 0]∧jM wr og 31 #[.int .i64 W,.int .i64 H,.slice (some ⟨om,0,none⟩) n n] ∧
   jM wr om 3 (FB (Ma g W xs) n k)∧w.heap.size+4≤wr.heap.size∧Below w.heap.size w wr) (fun i _=>n-(intOf i).toNat)
  case atStart=>exact ⟨0,Nat.zero_le _,rfl,K0.out,KX.out.1,KX.out.2.1,KX.out.2.2,by omega,hbel⟩
  case round=>
   clear c00 c01 c02 hbel hsz;obtain ⟨k,hk,rfl,k0,k1,k2,k3,hsz,hbel⟩:=hrel;obtain ⟨c00,c01,c02⟩:=k0.c3;obtain ⟨d0,d1,d2⟩:=k2.c3;have KX:=Lib.hid (And.intro k0 (And.intro k1 (And.intro k2 k3)))
   by_cases hlt:k<n
   ·obtain ⟨b,o,x,rfl,hbs,hx,hc⟩:=HR.out.at_ k hlt;have hc':=(hbel.cell (p:=⟨b,o+k,none⟩) hbs).trans hc;have HX:=Lib.hid hx;have e3:=(k3.cell k).trans (aAr _ n k k hlt);have f3:=k3.frozen k;clear hc hx k0 k1 k2 k3;have i1:(0:Int)≤(k:Int):=Int.natCast_nonneg _;have i2:(k:Int)<(n:Int):=by omega
    have aJN:W≠0:=by omega
    have t1:(k:Int).tmod (W:Int)=(k:Int)%(W:Int):=Int.tmod_eq_emod_of_nonneg (by omega);have t2:(k:Int).tdiv (W:Int)=(k:Int)/(W:Int):=Int.tdiv_eq_ediv_of_nonneg (by omega)
    have t3:IntKind.i64.wrap ((k:Int)/(W:Int))=(k:Int)/(W:Int):=IntWalk.i64_in _ (by
     have g1:0≤(k:Int)/(W:Int):=Int.ediv_nonneg (by omega) (by omega);have g2:(k:Int)/(W:Int)≤k:=Int.ediv_le_self _ (by omega)
     omega)
    have B0:=Lib.hid hbel
    go_wp2_with fail
    have L00:∀w',Below (w.heap.size+4) wr w'→w'.cell? ⟨w.heap.size,0,none⟩=some (.int .i64 W):=fun w' h=>Tu h c00 (by simp)
    have L32:∀w',Below (w.heap.size+4) wr w'→w'.cell? ⟨og,2,none⟩=some (.slice (some ⟨om,0,none⟩) n n):=fun w' h=>Tu h d2 (by simp;omega)
    refine aF (Below (w.heap.size+4) wr) [0,0,0,0,0,0,0,0,0,0,0,0,0,1,0,0,2] (by kernel_rfl) (by kernel_rfl) (Below.refl _ _).drew ?_;simp only [marked,List.headD_cons,List.tail_cons,beq_self_eq_true,Nat.reduceBEq]
    (apply vT (by rfl);(case hv=>(intro w' hS;conv=>lhs;simp [go_sem, *]));simp only [Act.put,List.setIfInBounds_toArray,List.set_cons_succ,List.set_cons_zero])
    (apply vT (by rfl);(case hv=>(intro w' hS;conv=>lhs;simp [go_sem, *]));simp only [Act.put,List.setIfInBounds_toArray,List.set_cons_succ,List.set_cons_zero])
    (apply vT (by rfl);(case hv=>(intro w' hS;conv=>lhs;simp [go_sem, *]));simp only [Act.put,List.setIfInBounds_toArray,List.set_cons_succ,List.set_cons_zero])
    (apply vT (by rfl);(case hv=>(intro w' hS;conv=>lhs;simp [go_sem, *]));simp only [Act.put,List.setIfInBounds_toArray,List.set_cons_succ,List.set_cons_zero])
    (apply vT (by rfl);(case hv=>(intro w' hS;conv=>lhs;simp [go_sem, *]));simp only [Act.put,List.setIfInBounds_toArray,List.set_cons_succ,List.set_cons_zero])
    (apply vT (by rfl);(case hv=>(intro w' hS;conv=>lhs;simp [go_sem, *]));simp only [Act.put,List.setIfInBounds_toArray,List.set_cons_succ,List.set_cons_zero])
    (apply vT (by rfl);(case hv=>(intro w' hS;conv=>lhs;simp [go_sem, *]));simp only [Act.put,List.setIfInBounds_toArray,List.set_cons_succ,List.set_cons_zero])
    (apply vT (by rfl);(case hv=>(intro w' hS;conv=>lhs;simp [go_sem, *]));simp only [Act.put,List.setIfInBounds_toArray,List.set_cons_succ,List.set_cons_zero])
    (apply vT (by rfl);(case hv=>(intro w' hS;conv=>lhs;simp [go_sem, *]));simp only [Act.put,List.setIfInBounds_toArray,List.set_cons_succ,List.set_cons_zero])
    (apply vT (by rfl);(case hv=>(intro w' hS;conv=>lhs;simp [go_sem, *]));simp only [Act.put,List.setIfInBounds_toArray,List.set_cons_succ,List.set_cons_zero])
    (apply vT (by rfl);(case hv=>(intro w' hS;conv=>lhs;simp [go_sem, *]));simp only [Act.put,List.setIfInBounds_toArray,List.set_cons_succ,List.set_cons_zero])
    (apply vT (by rfl);(case hv=>(intro w' hS;conv=>lhs;simp [go_sem, *]));simp only [Act.put,List.setIfInBounds_toArray,List.set_cons_succ,List.set_cons_zero])
    (apply vT (by rfl);(case hv=>(intro w' hS;conv=>lhs;simp [go_sem, *]));simp only [Act.put,List.setIfInBounds_toArray,List.set_cons_succ,List.set_cons_zero])
    (apply Jr (by rfl);intro K hK)
    go_simp
    refine (HC.out k x _ HX.out (by exact B0.out.drew)).mono ?_;rintro e w1 ⟨rfl,hb⟩;have hB:=((Below.refl (w.heap.size+4) wr).drew).trans (hb.mono (by simp;omega));refine hK _ _ (fun _=>hB) ?_;clear hK K
    (apply vT (by rfl);(case hv=>(intro w' hS;conv=>lhs;simp [go_sem, *]));simp only [Act.put,List.setIfInBounds_toArray,List.set_cons_succ,List.set_cons_zero])
    (apply vT (by rfl);(case hv=>(intro w' hS;conv=>lhs;simp [go_sem, *]));simp only [Act.put,List.setIfInBounds_toArray,List.set_cons_succ,List.set_cons_zero])
    (apply Jr (by rfl);intro K hK)
    have e3':=Tu hB e3 (by simp;omega);have f3':=aDV hB f3 (by simp;omega)
    go_simp
    refine hK _ _ (fun h=>by cases h) ?_;clear hK K;refine XP ?_
    go_wp2
    go_roundw
    case rel=>
     have hv:Ma g W xs k=if 65535<g x ((k:Int)%W) ((k:Int)/W) then 65535 else g x ((k:Int)%W) ((k:Int)/W):=by
      have hx:xs.getD k 0=x:=by simp [HX.out]
      rw [Ma,hx]
      split <;> omega
     obtain ⟨q0,q1,q2,q3⟩:=KX.out;refine ⟨k+1,by omega,by go_num,(q0.below hB (by omega)).far (by simp;omega) _,(q1.below hB (by omega)).far (by simp;omega) _,(q2.below hB (by omega)).far (by simp;omega) _,(q3.below hB (by omega)).BI _ _ (Xh _ n k _ hv),?_,(B0.out.trans (hB.mono (by omega))).setCell (by simp;omega) _⟩;have:=hB.size
     simp;omega
    case measure=>simp [intOf];omega
   ·obtain ⟨d10,d11,d12⟩:=k1.c3;obtain ⟨g0,g1,g2⟩:=k1.f3;have K1:=Lib.hid k1;obtain rfl:k=n:=by omega
    clear k0 k1 k2 k3
    go_wp2
    refine bodyPost_ret (results_cell_row rfl _ _ (w.heap.size+1) 31 _ (0,0) _ (by rfl) (((K1.out.BI 0 _ rfl).BI 1 _ rfl).BI 2 _ rfl) Tryz.underlying31 rfl (by kernel_rfl)) rfl ?_;refine ⟨some ⟨om,0,none⟩,k,rfl,?_,?_⟩
    ·have k3:=KX.out.2.2.2;rw [Uy] at k3;have h7:=(((k3.far (p:=⟨w.heap.size+1,0,none⟩) (by simp;omega) (.int .i64 W)).far (p:=⟨w.heap.size+1,1,none⟩) (by simp;omega) (.int .i64 H)).far (p:=⟨w.heap.size+1,2,none⟩) (by simp;omega) (.slice (some ⟨om,0,none⟩) k k))
     have h6:=aE8 (((k3.far (p:=⟨w.heap.size+1,0,none⟩) (by simp;omega) (.int .i64 W)).far (p:=⟨w.heap.size+1,1,none⟩) (by simp;omega) (.int .i64 H)).far (p:=⟨w.heap.size+1,2,none⟩) (by simp;omega) (.slice (some ⟨om,0,none⟩) k k)) w.heap.size (by omega);exact ⟨by simpa using h6,om,rfl,rfl,by omega,by simp,h7⟩
    ·exact ((hbel.setCell (by simp) _).setCell (by simp) _).setCell (by simp) _
end
end Go.Proofs.YtpmnfhifmmfglacGreatDoor
