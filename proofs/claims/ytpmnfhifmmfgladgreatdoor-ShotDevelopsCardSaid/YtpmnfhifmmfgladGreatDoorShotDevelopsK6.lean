/- Parts of the proof. -/
import Derived.Test.YtpmnfhifmmfgladGreatDoorShotDevelopsK5
set_option linter.unusedVariables false
set_option linter.unusedSimpArgs false
set_option linter.unusedSectionVars false
set_option maxRecDepth 100000
set_option maxHeartbeats 8000000
open Bool renaming and_eq_true→o9,true_and→tF
open Go.IntKind renaming i64→aC
open Int renaming toNat_natCast→fM,tdiv→gI,tmod→mN,natCast_mul→vA
open List renaming getElem?_eq_getElem→f9,range→gS,getD_eq_getElem?_getD→qG,length_append→kG,replicate→nH,append_assoc→pL,all_cons→tK,append_nil→v4,getElem?_eq_none→wW,length_map→xK,drop_eq_getElem_cons→zC
open Nat renaming le_refl→pK,mul_comm→oA,mul_le_mul→tM
open Option renaming bind→dH
namespace Go.Proofs.YtpmnfhifmmfgladGreatDoor
section
open Go
theorem cM {x:Int} (h:-9223372036854775808≤x∧x≤9223372036854775807):aC.wrap x=x:=IntWalk.i64_in x h
theorem dC {α:Type} (xs:List α) (k:Nat):idx xs (k:Int)=xs[k]?:=by simp [idx]
theorem EE {α:Type} {xs:List α} {p q:Int} (h:0≤p∧p≤q∧q≤xs.length):Fs xs p q=some ((xs.take q.toNat).drop p.toNat):=by unfold Fs;rw [aF h]
theorem iQ {α:Type} {b:Nat} {xs ys:List α} (h:(xs.length+ys.length)*b≤140737488355328):app b xs ys=some (xs++ys):=by unfold app;rw [aF h]
theorem mk_eq {α:Type} {b:Nat} {n:Int} {z:α} (h:0≤n∧n*b≤281474976710656):mk b n z=some (nH n.toNat z):=by unfold mk;rw [aF h]
theorem DK {α:Type} {xs:List α} {i:Int} {x:α} (h:0≤i∧i<xs.length):yO xs i x=some (xs.set i.toNat x):=by unfold yO;rw [aF h]
theorem AJ {n:Int} (h:n≠0):nz n=some ():=by unfold nz;rw [aE h]
theorem aD {α β:Type} (x:α) (f:α→Option β):dH (some x) f=f x:=rfl
theorem cT {α:Type} {b:Bool} (h:b=true) (x y:α):cond b x y=x:=by rw [h];rfl
theorem cF {α:Type} {b:Bool} (h:b=false) (x y:α):cond b x y=y:=by rw [h];rfl
theorem dT {p:Prop} [Decidable p] (h:p):decide p=true:=decide_eq_true h
theorem dF {p:Prop} [Decidable p] (h:¬p):decide p=false:=decide_eq_false h
def sW (p:bU):Bool:=decide (0≤p.1∧p.1≤65535∧0≤p.2.1∧p.2.1≤65535∧0≤p.2.2∧p.2.2≤65535)
def oN (W H:Int) (n:Nat):Prop:=1≤W∧W≤64∧1≤H∧H≤64∧(n:Int)=W*H
instance (W H:Int) (n:Nat):Decidable (oN W H n):=by unfold oN;infer_instance
def p7 (W H:Int) (P:List bU):Bool:=decide (oN W H P.length)&&P.all sW
theorem OG {W H:Int} (h:1≤W∧W≤64∧1≤H∧H≤64):1≤W*H∧W*H≤4096:=by
 obtain ⟨h1,h2,h3,h4⟩:=h;have a:=Int.mul_le_mul h2 h4 oQ oQ;have b:=Int.mul_le_mul h1 h3 oQ oQ
 omega
theorem An {W H:Int} {n:Nat} (h:oN W H n):n≤4096∧1≤n:=by
 obtain ⟨h1,h2,h3,h4,h5⟩:=h;have:=OG ⟨h1,h2,h3,h4⟩
 omega
theorem mZ {W H:Int} {P:List bU} (h:p7 W H P=true):oN W H P.length:=by
 simp only [p7,o9,decide_eq_true_eq] at h;exact h.1
theorem WA {W H:Int} {P:List bU} (h:p7 W H P=true) {k:Nat} {p:bU} (hk:P[k]? = some p):0≤p.1∧p.1≤65535∧0≤p.2.1∧p.2.1≤65535∧0≤p.2.2∧p.2.2≤65535:=by
 simp only [p7,o9] at h;have:=List.all_eq_true.1 h.2 p (List.mem_of_getElem? hk)
 simpa [sW] using this
abbrev Px:=bU
def FG:Px:=(0,0,0)
def Id (W H:Nat) (f:Nat→Nat→Px):List Px:=(gS (W*H)).map fun i=>f (i%W) (i/W)
theorem E4 (W H:Nat) (f:Nat→Nat→Px):(Id W H f).length=W*H:=by simp [Id]
theorem U3 {W H:Nat} (f:Nat→Nat→Px) {i:Nat} (h:i<W*H):(Id W H f)[i]? = some (f (i%W) (i/W)):=by simp [Id,h]
theorem kA {W H i:Nat} (h:i<W*H):i%W<W∧i/W<H∧0<W:=by
 have hW:0<W:=by
  rcases Nat.eq_zero_or_pos W with h0|h0
  ·subst h0;simp at h
  ·exact h0
 exact ⟨Nat.mod_lt _ hW,Nat.div_lt_of_lt_mul h,hW⟩
theorem Qb {W H:Nat} {f g:Nat→Nat→Px} (h:∀x y,x<W→y<H→f x y=g x y):Id W H f=Id W H g:=by
 refine List.map_congr_left fun i hi=>?_
 obtain ⟨h1,h2,_⟩:=kA (List.mem_range.1 hi);exact h _ _ h1 h2
def GY (P:List Px) (W x y:Nat):Px:=P.getD (y*W+x) FG
theorem WB {P:List Px} {W H:Nat} (h:P.length=W*H):Id W H (GY P W)=P:=by
 apply List.ext_getElem?
 intro i
 by_cases hi:i<W*H
 ·rw [U3 _ hi];simp only [GY];rw [Nat.div_add_mod'];rw [qG,f9 oQ]
  rfl
 ·rw [wW (by rw [E4];omega),wW oQ]
theorem dm {W x:Nat} (y:Nat) (h:x<W):(y*W+x)%W=x∧(y*W+x)/W=y:=by
 have h1:(y*W+x)%W=x:=by rw [Nat.add_comm,Nat.add_mul_mod_self_right,Nat.mod_eq_of_lt h]
 have h2:(y*W+x)/W=y:=by rw [Nat.add_comm,Nat.add_mul_div_right _ _ oQ,Nat.div_eq_of_lt h,Nat.zero_add]
 exact ⟨h1,h2⟩
theorem mL {W H x y:Nat} (hx:x<W) (hy:y<H):y*W+x<W*H:=by
 have:=Nat.mul_le_mul_right W (show y+1≤H from hy);rw [Nat.add_mul,Nat.one_mul,oA H W] at this
 omega
theorem Q6 {W H:Nat} (f:Nat→Nat→Px) {x y:Nat} (hx:x<W) (hy:y<H):GY (Id W H f) W x y=f x y:=by
 obtain ⟨h1,h2⟩:=dm y hx;rw [GY,qG,U3 f (mL hx hy),h1,h2];rfl
def Mz (P:List Px) (p:Nat→Nat) (n:Nat):Nat→List Px
 | 0=>nH n FG
 | k+1=>(Mz P p n k).set (p k) (P.getD k FG)
theorem GZ (P:List Px) (p:Nat→Nat) (n:Nat):∀k,(Mz P p n k).length=n
 | 0=>by simp [Mz]
 | k+1=>by simp [Mz,GZ P p n k]
theorem aAw (P:List Px) (p:Nat→Nat) (n:Nat) (hp:∀i,i<n→p i<n) (hinj:∀i j,i<n→j<n→p i=p j→i=j):∀k,k≤n→∀i,i<k→(Mz P p n k)[p i]? = some (P.getD i FG)
 | 0,_,i,hi=>by omega
 | k+1,hk,i,hi=>by
  rw [Mz,List.getElem?_set]
  by_cases h:p k=p i
  ·rw [aF h,aF (by rw [GZ];exact hp k oQ)];rw [hinj k i oQ oQ h]
  ·rw [aE h];have:i≠k:=fun e=>h (by rw [e])
   exact aAw P p n hp hinj k oQ i oQ
theorem Lz {P:List Px} {W H W' H':Nat} {p:Nat→Nat} {g:Nat→Nat→Nat} (hn:W*H=W'*H') (hp:∀i,i<W*H→p i<W*H) (hg:∀x y,x<W'→y<H'→g x y<W*H∧p (g x y)=y*W'+x)
  (hinj:∀i j,i<W*H→j<W*H→p i=p j→i=j):Mz P p (W*H) (W*H)=Id W' H' fun x y=>P.getD (g x y) FG:=by
 apply List.ext_getElem?
 intro i
 by_cases hi:i<W*H
 ·have hi':i<W'*H':=oQ
  obtain ⟨h1,h2,_⟩:=kA hi';obtain ⟨g1,g2⟩:=hg _ _ h1 h2;rw [U3 _ hi'];have:=aAw P p (W*H) hp hinj (W*H) (pK _) _ g1;rw [g2,Nat.div_add_mod'] at this;exact this
 ·rw [wW (by rw [GZ];omega),wW (by rw [E4];omega)]
theorem aAx {a b n:Nat} (ha:a<n) (hb:b<n) (h:n-1-a=n-1-b):a=b:=oQ
theorem tdm {W:Nat} (k:Nat) (hW:0<W):mN (k:Int) (W:Int)=((k%W:Nat):Int)∧gI (k:Int) (W:Int)=((k/W:Nat):Int):=by
 constructor
 ·rw [Int.tmod_eq_emod_of_nonneg oQ];rfl
 ·rw [Int.tdiv_eq_ediv_of_nonneg oQ];rfl
theorem uR (W H:Nat) (P:List Px) (hs:oN W H P.length):1≤W∧W≤64∧1≤H∧H≤64∧P.length=W*H∧W*H≤4096:=by
 obtain ⟨h1,h2,h3,h4,h5⟩:=hs;have h6:P.length=W*H:=by exact_mod_cast h5
 have h7:=tM (show W≤64 by omega) (show H≤64 by omega);exact ⟨by omega,by omega,by omega,by omega,h6,by omega⟩
theorem KG {W H:Nat} (h:1≤W∧W≤64∧1≤H∧H≤64) (f:Nat→Nat→Px):oN (W:Int) (H:Int) (Id W H f).length:=by
 rw [E4];exact ⟨by omega,by omega,by omega,by omega,by rw [vA]⟩
def pre {α:Type} (W:Nat) (f:Nat→Nat→α) (n:Nat):List α:=(gS n).map fun k=>f (k%W) (k/W)
theorem Jf {α:Type} (W:Nat) (f:Nat→Nat→α) (n:Nat):(pre W f n).length=n:=by simp [pre]
theorem Ix {α:Type} {W:Nat} (f:Nat→Nat→α) (y:Nat) {x:Nat} (hx:x<W):pre W f (y*W+(x+1))=pre W f (y*W+x)++[f x y]:=by
 obtain ⟨h1,h2⟩:=dm y hx;rw [show y*W+(x+1)=(y*W+x)+1 by omega,pre,List.range_succ,List.map_append,List.map_singleton,h1,h2];rfl
theorem LA {α:Type} {W:Nat} (f:Nat→Nat→α) (y:Nat):pre W f (y*W+W)=pre W f ((y+1)*W+0):=by
 rw [Nat.add_mul,Nat.one_mul];rfl
theorem U4 {W H:Nat} {f:Nat→Nat→Px} (h:1≤W∧W≤64∧1≤H∧H≤64) (hf:∀x y,x<W→y<H→sW (f x y)=true):p7 W H (Id W H f)=true:=by
 simp only [p7,o9,decide_eq_true_eq];refine ⟨KG h f,List.all_eq_true.2 fun p hp=>?_⟩;obtain ⟨i,hi,rfl⟩:=List.mem_map.1 hp;obtain ⟨h1,h2,_⟩:=kA (List.mem_range.1 hi);exact hf _ _ h1 h2
theorem Q7 {α β γ:Type} (x:Option α) (f:α→Option β) (g:β→Option γ):(dH x fun a=>dH (f a) g)=dH (dH x f) g:=by cases x <;> rfl
theorem Qc {W H:Int} {P:List Px} (hp:p7 W H P=true) {i:Nat} {p:Px} (hi:P[i]? = some p):sW p=true:=by
 have:=WA hp hi;simpa [sW] using this
theorem KH {x y:Int} {a b:Nat} (hx:-(a:Int)≤x∧x≤a) (hy:-(b:Int)≤y∧y≤b):-((a*b:Nat):Int)≤x*y∧x*y≤((a*b:Nat):Int):=by
 have h1:x.natAbs≤a:=oQ
 have h2:y.natAbs≤b:=oQ
 have h3:=tM h1 h2;rw [←Int.natAbs_mul] at h3
 omega
theorem Iy {α:Type} (g:Nat→α) (z:α) {n k:Nat} (hk:k<n):yO ((gS k).map g++nH (n-k) z) (k:Int) (g k)=some ((gS (k+1)).map g++nH (n-(k+1)) z):=by
 rw [DK uW,fM];obtain ⟨m,rfl⟩:∃m,n=k+1+m:=⟨n-(k+1),by omega⟩
 rw [show k+1+m-k=m+1 by omega,show k+1+m-(k+1)=m by omega,List.range_succ,List.map_append,pL,List.replicate_succ]
 congr 1
 rw [List.set_append_right _ _ sQ]
 simp
theorem Q8 {α:Type} (g:Nat→α) (k:Nat):(gS k).map g++[g k]=(gS (k+1)).map g:=by
 rw [List.range_succ,List.map_append];rfl
theorem Q9 (m:Int) (n:Nat) (hn:n≤64):jN .i64 m (n:Int)=m/2^n:=by
 unfold jN;rw [fM,show min n aC.bits=n from Nat.min_eq_left hn];exact Int.fdiv_eq_ediv_of_nonneg _ (Int.le_of_lt (Int.pow_pos aL))
theorem aMs (m:Int):jN .i64 m 12=m/4096:=Q9 m 12 aL
theorem aIW (m:Int):jN .i64 m 8=m/256:=Q9 m 8 aL
theorem aPh (m:Int):jN .i64 m 4=m/16:=Q9 m 4 aL
theorem aGs (N:Nat) (P:List bU) (kk:Int→Option Bool) (hP:P.length≤4096):∀(d k aA:Nat),k+d=P.length→d<aA→vY N P kk aA (k:Int)=if (P.drop k).all sW then kk P.length else some false:=by
 intro d
 induction d with
 | zero=>
  intro k aA hk hf;obtain ⟨aA,rfl⟩:=kF aA oQ;have hk':k=P.length:=oQ
  subst hk';unfold vY;rw [nL]
  simp
 | succ d ih=>
  intro k aA hk hf;obtain ⟨aA,rfl⟩:=kF aA oQ;have hlt:k<P.length:=oQ
  obtain ⟨⟨x,y,z⟩,hx⟩:∃p,P[k]? = some p:=⟨P[k],f9 hlt⟩
  unfold vY;rw [p8,dC,hx,aD,cM oQ]
  have hd:P.drop k=(x,y,z)::P.drop (k+1):=by
   rw [zC hlt]
   congr 1
   exact (List.getElem?_eq_some_iff.1 hx).2
  rw [hd,tK];have hih:=ih (k+1) aA oQ oQ
  by_cases h1:min (min x y) z<0
  ·rw [cT (dT h1)];have:sW (x,y,z)=false:=by simp only [sW,decide_eq_false_iff_not];omega
   simp [this]
  ·rw [cF (dF h1)]
   by_cases h2:65535<max (max x y) z
   ·rw [cT (dT h2)];have:sW (x,y,z)=false:=by simp only [sW,decide_eq_false_iff_not];omega
    simp [this]
   ·rw [cF (dF h2)];have:sW (x,y,z)=true:=by simp only [sW,decide_eq_true_eq];omega
    rw [this,tF,←hih]
    rfl
theorem aGt (N:Nat) (W H:Int) (P:List bU) (hN:5000≤N):Cn N W H P=some (p7 W H P):=by
 unfold Cn;have no:¬oN W H P.length→p7 W H P=false:=fun h=>by simp [p7,h]
 by_cases h1:W<1
 ·rw [cT (dT h1),no (fun h=>by unfold oN at h;omega)]
 rw [cF (dF h1)]
 by_cases h2:64<W
 ·rw [cT (dT h2),no (fun h=>by unfold oN at h;omega)]
 rw [cF (dF h2)]
 by_cases h3:H<1
 ·rw [cT (dT h3),no (fun h=>by unfold oN at h;omega)]
 rw [cF (dF h3)]
 by_cases h4:64<H
 ·rw [cT (dT h4),no (fun h=>by unfold oN at h;omega)]
 rw [cF (dF h4)];have hb:=OG (W:=W) (H:=H) oQ;rw [cM oQ]
 by_cases h5:(P.length:Int)=W*H
 ·rw [cF (by simp [h5])];have hs:oN W H P.length:=⟨by omega,by omega,by omega,by omega,h5⟩
  refine (aGs N P _ oQ P.length 0 N oQ oQ).trans ?_;simp only [p7,hs,decide_true,tF,List.drop_zero]
  cases P.all sW <;> rfl
 ·rw [cT (by simp [h5]),no (fun h=>h5 h.2.2.2.2)]
theorem sU (N:Nat) (n lo hi:Int):aM N n lo hi=some (decide (lo≤n∧n≤hi)):=by
 unfold aM
 by_cases h1:lo≤n
 ·rw [cT (dT h1)];simp [h1]
 ·rw [cF (dF h1)];simp [h1]
theorem Pm (N:Nat) (aI x y:Int):∃r,rN N aI x y=some r:=by
 unfold rN
 by_cases h1:aI<0
 ·rw [cT (dT h1)];exact ⟨_,rfl⟩
 rw [cF (dF h1)]
 by_cases h2:3<aI
 ·rw [cT (dT h2)];exact ⟨_,rfl⟩
 rw [cF (dF h2)]
 by_cases h3:x<0
 ·rw [cT (dT h3)];exact ⟨_,rfl⟩
 rw [cF (dF h3)]
 by_cases h4:y<0
 ·rw [cT (dT h4)];exact ⟨_,rfl⟩
 rw [cF (dF h4)];exact ⟨_,rfl⟩
theorem aGu (N:Nat) (W:Int) (P:List bU) (aI:Int) (kk:gL→Option pW) (hW:1≤W) (hP:P.length≤4096):∀(d k aA:Nat) (l:List Int),k+d=P.length→d<aA→l.length=k→∃l',pP N W P aI kk aA (l,(k:Int))=kk (l',(P.length:Int)):=by
 intro d
 induction d with
 | zero=>
  intro k aA l hk hf hl;obtain ⟨aA,rfl⟩:=kF aA oQ;have hk':k=P.length:=oQ
  subst hk';refine ⟨l,?_⟩;unfold pP;rw [nL]
 | succ d ih=>
  intro k aA l hk hf hl;obtain ⟨aA,rfl⟩:=kF aA oQ;have hlt:k<P.length:=oQ
  unfold pP;obtain ⟨r,hr⟩:=Pm N aI (mN k W) (aC.wrap (gI k W));rw [p8,AJ oQ,aD,aD,hr,aD,dC,f9 hlt,aD];rw [iQ uW,iQ uW,iQ uW,aD,aD,aD,cM oQ];have key:∀x:Int,∃l',pP N W P aI kk aA (l++[x],(k:Int)+1)=kk (l',(P.length:Int)):=fun x=>ih (k+1) aA (l++[x]) oQ oQ (by simp [hl])
  cases decide (r.1=0)
  ·cases decide (r.1=1)
   ·exact key _
   ·exact key _
  ·exact key _
theorem AC (N:Nat) (W H:Int) (P:List bU) (hN:5000≤N):∃a b l,qT N W H P 0=some (a,b,l,if p7 W H P then 0 else 1):=by
 unfold qT;rw [aGt N W H P hN,aD];cases hp:p7 W H P
 ·exact ⟨_,_,_,rfl⟩
 ·have hs:=mZ hp;have hl:=An hs;rw [cF rQ,cF rQ,cF rQ];obtain ⟨l',h⟩:=aGu N W P 0 (fun (H9,i2)=>some (W,H,H9,0)) hs.1 oQ P.length 0 N [] oQ oQ rfl;exact ⟨W,H,l',h⟩
def vL (aI u v:Int):Int:=(u%2+aI)%2+(v%2+aI/2)%2
theorem aGv:∀n:Fin 64,BJ .i64 ((n.val:Nat):Int) 1=((n.val:Nat):Int)%2:=by decide +kernel
theorem Ra {u:Int} (h:0≤u∧u<64):BJ .i64 u 1=u%2:=by
 have:=aGv ⟨u.toNat,by omega⟩;have e:((u.toNat:Nat):Int)=u:=oQ
 simp only [e] at this;exact this
theorem aGw:∀(p:Fin 4) (a b:Fin 2),aC.wrap (BJ .i64 (aC.wrap (((a.val:Nat):Int)+((p.val:Nat):Int))) 1+BJ .i64 (aC.wrap (((b.val:Nat):Int)+jN .i64 ((p.val:Nat):Int) 1)) 1)=(((a.val:Nat):Int)+((p.val:Nat):Int))%2+(((b.val:Nat):Int)+((p.val:Nat):Int)/2)%2:=by decide +kernel
theorem LB (aI u v:Int):0≤vL aI u v∧vL aI u v≤2:=by unfold vL;omega
theorem T0 (N:Nat) {aI u v:Int} (hp:0≤aI∧aI≤3) (hu:0≤u∧u<64) (hv:0≤v∧v<64):rN N aI u v=some (vL aI u v,0):=by
 unfold rN;rw [nL,nL,nL,nL,Ra hu,Ra hv];unfold u6;rw [aD];have:=aGw ⟨aI.toNat,by omega⟩ ⟨(u%2).toNat,by omega⟩ ⟨(v%2).toNat,by omega⟩;have e1:((aI.toNat:Nat):Int)=aI:=oQ
 have e2:(((u%2).toNat:Nat):Int)=u%2:=oQ
 have e3:(((v%2).toNat:Nat):Int)=v%2:=oQ
 simp only [e1,e2,e3] at this;rw [this];rfl
theorem KI (N:Nat) {aI u v:Int} (hp:0≤aI∧aI≤3) (hu:0≤u∧u<64) (hv:0≤v∧v<64):mI N aI u v=some (vL aI u v):=by
 have t1:mN aI 2=aI%2:=Int.tmod_eq_emod_of_nonneg hp.1;have t2:gI aI 2=aI/2:=Int.tdiv_eq_ediv_of_nonneg hp.1;have t3:mN (u+aI%2) 2=(u+aI%2)%2:=Int.tmod_eq_emod_of_nonneg oQ;have t4:mN (v+aI/2) 2=(v+aI/2)%2:=Int.tmod_eq_emod_of_nonneg oQ;unfold mI;rw [t1,t2,cM (x:=aI/2) oQ,cM (x:=u+aI%2) oQ,cM (x:=v+aI/2) oQ,t3,t4,aD,aD]
 by_cases a:(u+aI%2)%2=0
 ·by_cases b:(v+aI/2)%2=0
  ·rw [cT (dT a),cT (dT b)];congr 1;unfold vL;omega
  ·rw [cT (dT a),cF (dF b),nL];congr 1;unfold vL;omega
 ·by_cases b:(v+aI/2)%2=1
  ·rw [cF (dF a),p8,cT (dT b)];congr 1;unfold vL;omega
  ·rw [cF (dF a),p8,cF (dF b)];congr 1;unfold vL;omega
theorem EF {W H:Int} {P:List Int} (h:dK W H P=true):∃w h':Nat,W=w∧H=h'∧1≤w∧w≤64∧1≤h'∧h'≤64∧P.length=w*h'∧w*h'≤4096∧∀i,i<w*h'→0≤P.getD i 0∧P.getD i 0≤65535:=by
 obtain ⟨⟨h1,h2,h3,h4⟩,h5,h6⟩:=sI.1 h;obtain ⟨w,rfl⟩:∃n:Nat,W=n:=⟨W.toNat,by omega⟩
 obtain ⟨h',rfl⟩:∃n:Nat,H=n:=⟨H.toNat,by omega⟩
 have e:P.length=w*h':=by exact_mod_cast h5
 have:=tM (show w≤64 by omega) (show h'≤64 by omega);refine ⟨w,h',rfl,rfl,by omega,by omega,by omega,by omega,e,by omega,fun i hi=>?_⟩;have hx:P[i]? = some P[i]:=f9 oQ;have:=aDw (List.all_eq_true.1 h6 _ (List.mem_of_getElem? hx));rw [qG,hx];exact this
theorem Rb {W H:Int} {P:List Int} {x y u v:Int} (hC:Wp W H P x y) (hq:0≤u∧u<W∧0≤v∧v<H):aC.wrap (aC.wrap (v*W)+u)=v*W+u∧0≤v*W+u∧v*W+u<P.length∧idx P (v*W+u)=some (P.getD (v*W+u).toNat 0):=by
 obtain ⟨h1,h2,h3,h4,h5,h6,h7⟩:=hC;have m0:0≤v*W:=Int.mul_nonneg hq.2.2.1 oQ
 have m1:v*W+W≤H*W:=by
  have:=Int.mul_le_mul_of_nonneg_right (show v+1≤H by omega) (show 0≤W by omega)
  rwa [Int.add_mul,Int.one_mul] at this
 have m2:H*W≤64*64:=Int.mul_le_mul h6 h3 oQ oQ;have m3:(P.length:Int)=H*W:=by rw [h7,Int.mul_comm]
 refine ⟨by rw [cM (x:=v*W) oQ,cM oQ],by omega,by omega,?_⟩;unfold idx;rw [aF oQ,qG,f9 oQ];rfl
theorem J6 (N:Nat) (W:Int) (P:List Int) (o:Int) {H x y u v:Int} (hC:Wp W H P x y) (hq:0≤u∧u<W∧0≤v∧v<H) (x1 x2 x3 x4 x5 x6:Int):∃r,rY N W P o u v x1 x2 x3 x4 x5 x6=some r:=by
 obtain ⟨r,hr⟩:=Pm N o u v;obtain ⟨h1,_,_,h2⟩:=Rb hC hq;unfold rY;rw [hr,aD,h1,h2];simp only [aD]
 cases decide (r.1=0) <;> cases decide (r.1=1) <;> exact ⟨_,rfl⟩
abbrev Six:=Qw
def ofC (aI c:Int) (L:List aN):List aN:=L.filter fun q=>decide (vL aI q.1 q.2=c)
def Yr (W:Int) (P:List Int) (q:aN):Int:=P.getD (q.2*W+q.1).toNat 0
def cnt (aI c:Int) (L:List aN):Int:=((ofC aI c L).length:Nat)
def sm (W:Int) (P:List Int) (aI c:Int) (L:List aN):Int:=((ofC aI c L).map (Yr W P)).sum
def sH (W:Int) (P:List Int) (aI:Int) (L:List aN):Six:=(cnt aI 0 L,cnt aI 1 L,cnt aI 2 L,sm W P aI 0 L,sm W P aI 1 L,sm W P aI 2 L)
theorem WC (aI c:Int) (L:List aN) (q:aN):ofC aI c (L++[q])=if vL aI q.1 q.2=c then ofC aI c L++[q] else ofC aI c L:=by
 unfold ofC;rw [List.filter_append]
 by_cases h:vL aI q.1 q.2=c
 ·rw [aF h];simp [h]
 ·rw [aE h];simp [h]
theorem WD (aI c:Int) (L:List aN) (q:aN):cnt aI c (L++[q])=if vL aI q.1 q.2=c then cnt aI c L+1 else cnt aI c L:=by
 unfold cnt;rw [WC]
 split <;> simp
theorem aAy (W:Int) (P:List Int) (aI c:Int) (L:List aN) (q:aN):sm W P aI c (L++[q])=if vL aI q.1 q.2=c then sm W P aI c L+Yr W P q else sm W P aI c L:=by
 unfold sm;rw [WC]
 split <;> simp
theorem G0 (aI c:Int) (L:List aN):0≤cnt aI c L∧cnt aI c L≤L.length:=by
 have:=List.length_filter_le (fun q:aN=>decide (vL aI q.1 q.2=c)) L;unfold cnt ofC
 omega
theorem aDM (top:Int):∀l:List Int,(∀x∈l,0≤x∧x≤top)→0≤l.sum∧l.sum≤top*l.length
 | [],_=>by simp
 | x::l,h=>by
  have h1:=h x sQ;have h2:=aDM top l fun y hy=>h y (by simp [hy])
  rw [List.sum_cons,List.length_cons];have:top*((l.length+1:Nat):Int)=top*l.length+top:=by rw [Int.natCast_add,Int.mul_add];simp
  omega
def upTo (P:List Int) (top:Int):Prop:=∀i:Nat,0≤P.getD i 0∧P.getD i 0≤top
theorem aIX {W:Int} {P:List Int} {top:Int} (hP:upTo P top) (aI c:Int) (L:List aN):0≤sm W P aI c L∧sm W P aI c L≤top*cnt aI c L:=by
 have:=aDM top ((ofC aI c L).map (Yr W P)) fun x hx=>by
  obtain ⟨q,_,rfl⟩:=List.mem_map.1 hx;exact hP _
 rw [xK] at this;exact this
theorem FH {W:Int} {P:List Int} (hP:upTo P 65535) (aI c:Int) (L:List aN) (hL:L.length≤100):0≤sm W P aI c L∧sm W P aI c L≤6553500:=by
 have h1:=aIX (W:=W) hP aI c L;have h2:=G0 aI c L
 omega
theorem KJ {P:List Int} {n:Nat} (hl:P.length=n) (h:∀i,i<n→0≤P.getD i 0∧P.getD i 0≤65535):upTo P 65535:=fun i=>by
 by_cases hi:i<n
 ·exact h i hi
 ·rw [qG,wW oQ];simp
section
variable {W H x y aI:Int} {P:List Int} (hC:Wp W H P x y) (hp:0≤aI∧aI≤3) (hP:upTo P 65535)
include hC hp hP
theorem aDN {L:List aN} (hL:L.length≤99) {u v:Int} (hq:0≤u∧u<W∧0≤v∧v<H) :
  rY 8589934592 W P aI u v (sH W P aI L).1 (sH W P aI L).2.1 (sH W P aI L).2.2.1 (sH W P aI L).2.2.2.1 (sH W P aI L).2.2.2.2.1 (sH W P aI L).2.2.2.2.2=some (sH W P aI (L++[(u,v)])):=by
 have hC':=hC;obtain ⟨k1,k2,k3,k4,k5,k6,k7⟩:=hC';obtain ⟨h1,_,_,h2⟩:=Rb hC hq;have c0:=G0 aI 0 L;have c1:=G0 aI 1 L;have c2:=G0 aI 2 L;have s0:=FH (W:=W) hP aI 0 L oQ;have s1:=FH (W:=W) hP aI 1 L oQ;have s2:=FH (W:=W) hP aI 2 L oQ;have hpv:=hP (v*W+u).toNat;have hr:=LB aI u v;unfold rY;rw [T0 8589934592 hp oQ oQ,aD,h1,h2];simp only [sH,WD,aAy,aD];have e:Yr W P (u,v)=P.getD (v*W+u).toNat 0:=rfl;have hc:vL aI u v=0∨vL aI u v=1∨vL aI u v=2:=oQ
 rcases hc with hc|hc|hc
 ·rw [hc,cT aL,cT aL,cM oQ,cM oQ,e];rfl
 ·rw [hc,cF aL,cT aL,cF aL,cT aL,cM oQ,cM oQ,e];rfl
 ·rw [hc,cF aL,cF aL,cF aL,cF aL,cM oQ,cM oQ,e];rfl
theorem T1:∀(L pre:List aN),(pre++L).length≤99→(∀q∈L,0≤q.1∧q.1<W∧0≤q.2∧q.2<H)→List.foldl (gH 8589934592 W P aI) (sH W P aI pre) L=sH W P aI (pre++L)
 | [],pre,_,_=>by simp
 | (u,v)::L,pre,hl,hq=>by
  have h1:=aDN hC hp hP (L:=pre) (by simp at hl;omega) (hq (u,v) sQ);rw [List.foldl_cons]
  have:gH 8589934592 W P aI (sH W P aI pre) (u,v)=sH W P aI (pre++[(u,v)]):=by
   unfold gH;rw [h1];rfl
  rw [this,T1 L (pre++[(u,v)]) (by simpa using hl) (fun q h=>hq q (by simp [h]))]
  simp
end
def PM (W x v:Int):Nat→Int→List aN
 | 0,_=>[]
 | k+1,u=>if u≤min (W-1) (x+1) then (u,v)::PM W x v k (u+1) else []
def Rc (W H x y:Int):Nat→Int→List aN
 | 0,_=>[]
 | k+1,v=>if v≤min (H-1) (y+1) then PM W x v 4 (max 0 (x-1))++Rc W H x y k (v+1) else []
def tN (W H x y:Int):List aN:=Rc W H x y 4 (max 0 (y-1))
theorem YW (W x y v:Int):∀(k:Nat) (u:Int),arU W x y v k u=(PM W x v k u).filter fun q=>decide (q≠(x,y))
 | 0,_=>rfl
 | k+1,u=>by
  unfold arU PM
  by_cases h:u≤x+1∧u<W
  ·rw [aF h,aF (show u≤min (W-1) (x+1) by omega),List.filter_cons]
   by_cases h2:u≠x∨v≠y
   ·rw [aF h2,aF uW,YW W x y v k (u+1)]
   ·rw [aE h2,aE uW,YW W x y v k (u+1)]
  ·rw [aE h,aE (show ¬u≤min (W-1) (x+1) by omega)];rfl
theorem aDO (W H x y:Int):∀(k:Nat) (v:Int),arV W H x y k v=(Rc W H x y k v).filter fun q=>decide (q≠(x,y))
 | 0,_=>rfl
 | k+1,v=>by
  unfold arV Rc
  by_cases h:v≤y+1∧v<H
  ·rw [aF h,aF (show v≤min (H-1) (y+1) by omega),List.filter_append,YW,aDO W H x y k (v+1),Int.max_comm]
  ·rw [aE h,aE oQ];rfl
theorem OH (W H x y:Int):nC W H x y=(tN W H x y).filter fun q=>decide (q≠(x,y)):=by
 unfold nC tN;rw [aDO,Int.max_comm]
theorem YX (W x v:Int):∀(k:Nat) (u:Int),0≤u→(PM W x v k u).length≤k∧∀q∈PM W x v k u,0≤q.1∧q.1<W∧q.2=v
 | 0,_,_=>by simp [PM]
 | k+1,u,h=>by
  unfold PM
  by_cases h1:u≤min (W-1) (x+1)
  ·rw [aF h1];obtain ⟨a,b⟩:=YX W x v k (u+1) oQ;refine ⟨by simp;omega,fun q hq=>?_⟩
   rcases List.mem_cons.1 hq with rfl|hq
   ·exact ⟨h,by show u<W;omega,rfl⟩
   ·exact b q hq
  ·rw [aE h1];simp
theorem YY (W H x y:Int):∀(k:Nat) (v:Int),0≤v→(Rc W H x y k v).length≤4*k∧∀q∈Rc W H x y k v,0≤q.1∧q.1<W∧0≤q.2∧q.2<H
 | 0,_,_=>by simp [Rc]
 | k+1,v,h=>by
  unfold Rc
  by_cases h1:v≤min (H-1) (y+1)
  ·rw [aF h1];obtain ⟨a,b⟩:=YY W H x y k (v+1) oQ;obtain ⟨a',b'⟩:=YX W x v 4 (max 0 (x-1)) oQ;refine ⟨by rw [kG];omega,fun q hq=>?_⟩
   rcases List.mem_append.1 hq with hq|hq
   ·obtain ⟨c1,c2,c3⟩:=b' q hq;exact ⟨c1,c2,by omega,by omega⟩
   ·exact b q hq
  ·rw [aE h1];simp
theorem YZ (W H x y aI c:Int) (hc:c≠vL aI x y):ofC aI c (nC W H x y)=ofC aI c (tN W H x y):=by
 rw [OH];unfold ofC;rw [List.filter_filter];refine List.filter_congr fun q _=>?_
 by_cases h:vL aI q.1 q.2=c
 ·have hq:q≠(x,y):=fun e=>by subst e;exact hc h.symm
  simp [h,hq]
 ·simp [h]
def dv (n s:Int):Int:=if 0<n then s/n else s
def aKv (c v:Int) (p:Px):Px:=if c=0 then (v,p.2.1,p.2.2) else if c=1 then (p.1,v,p.2.2) else (p.1,p.2.1,v)
def Re (W H:Int) (P:List Int) (aI x y:Int):Px:=aKv (vL aI x y) (Yr W P (x,y)) (dv (cnt aI 0 (tN W H x y)) (sm W P aI 0 (tN W H x y)),dv (cnt aI 1 (tN W H x y)) (sm W P aI 1 (tN W H x y)),dv (cnt aI 2 (tN W H x y)) (sm W P aI 2 (tN W H x y)))
theorem aKw (N aA:Nat) (a b c:Int) (kk) (s:Px):cW N a b c kk (aA+1) (s.1,s.2.1,s.2.2,0)=cW N a b c kk aA ((if 0<a then aC.wrap (gI s.1 a) else s.1),s.2.1,s.2.2,1):=by
 conv=>lhs;unfold cW
 rw [cT aL,cT aL,cM (x:=0+1) oQ]
 by_cases h:0<a
 ·rw [cT (dT h),aF h,cT aL,AJ oQ];rfl
 ·rw [cF (dF h),aE h];rfl
theorem aKx (N aA:Nat) (a b c:Int) (kk) (s:Px):cW N a b c kk (aA+1) (s.1,s.2.1,s.2.2,1)=cW N a b c kk aA (s.1,(if 0<b then aC.wrap (gI s.2.1 b) else s.2.1),s.2.2,2):=by
 conv=>lhs;unfold cW
 rw [cT aL,cF aL,cT aL,cM (x:=1+1) oQ]
 by_cases h:0<b
 ·rw [cT (dT h),aF h,cF aL,cT aL,AJ oQ];rfl
 ·rw [cF (dF h),aE h];rfl
theorem aDP (N aA:Nat) (a b c:Int) (kk) (s:Px):cW N a b c kk (aA+2) (s.1,s.2.1,s.2.2,2)=kk (s.1,s.2.1,(if 0<c then aC.wrap (gI s.2.2 c) else s.2.2),3):=by
 conv=>lhs;unfold cW
 rw [cT aL,cF aL,cF aL,cM (x:=2+1) oQ]
 have e:∀t:Px,cW N a b c kk (aA+1) (t.1,t.2.1,t.2.2,2+1)=kk (t.1,t.2.1,t.2.2,3):=fun t=>by
  unfold cW;rw [cF aL];rfl
 by_cases h:0<c
 ·rw [cT (dT h),aF h,cF aL,cF aL,AJ oQ,aD];exact e (s.1,s.2.1,aC.wrap (gI s.2.2 c))
 ·rw [cF (dF h),aE h];exact e s
theorem U5 {n s:Int} (hs:0≤s∧s≤6553500):(if 0<n then aC.wrap (gI s n) else s)=dv n s:=by
 unfold dv
 split
 ·rename_i h
  have h1:=Int.ediv_nonneg hs.1 (show 0≤n by omega);have h2:=Int.ediv_le_self n hs.1;rw [Int.tdiv_eq_ediv_of_nonneg hs.1,cM oQ]
 ·rfl
section
variable {W H x y aI:Int} {P:List Int} (hC:Wp W H P x y) (hp:0≤aI∧aI≤3) (hP:upTo P 65535)
include hC hp hP
theorem aDQ:Bm 8589934592 W H P aI x y=some (Re W H P aI x y):=by
 have hC':=hC;obtain ⟨k1,k2,k3,k4,k5,k6,k7⟩:=hC';obtain ⟨fl,fi⟩:=YY W H x y 4 (max 0 (y-1)) oQ
 have al:(nC W H x y).length≤16:=by
  rw [OH];exact Nat.le_trans (List.length_filter_le _ _) fl
 have ai:∀q∈nC W H x y,0≤q.1∧q.1<W∧0≤q.2∧q.2<H:=fun q hq=>by
  rw [OH] at hq;exact fi q (List.mem_filter.1 hq).1
 have hf:=T1 hC hp hP (nC W H x y) [] uW ai;have s0:=FH (W:=W) hP aI 0 (nC W H x y) oQ;have s1:=FH (W:=W) hP aI 1 (nC W H x y) oQ;have s2:=FH (W:=W) hP aI 2 (nC W H x y) oQ;obtain ⟨e1,_,_,e2⟩:=Rb hC (u:=x) (v:=y) oQ;unfold Bm;rw [cT (dT hC)];have hf':List.foldl (gH 8589934592 W P aI) (0,0,0,0,0,0) (nC W H x y)=sH W P aI (nC W H x y):=hf;rw [hf'];unfold EB sH
 dsimp only
 rw [aKw 8589934592 8589934591 _ _ _ _ (sm W P aI 0 (nC W H x y),sm W P aI 1 (nC W H x y),sm W P aI 2 (nC W H x y))]
 dsimp only
 rw [aKx 8589934592 8589934590 _ _ _ _ (_,sm W P aI 1 (nC W H x y),sm W P aI 2 (nC W H x y))]
 dsimp only
 rw [aDP 8589934592 8589934588 _ _ _ _ (_,_,sm W P aI 2 (nC W H x y))]
 dsimp only
 rw [U5 s0,U5 s1,U5 s2,T0 8589934592 hp oQ oQ,aD,e1,e2];have hr:=LB aI x y
 have other:∀c,c≠vL aI x y→cnt aI c (nC W H x y)=cnt aI c (tN W H x y)∧sm W P aI c (nC W H x y)=sm W P aI c (tN W H x y):=fun c hc=>by
  unfold cnt sm;rw [YZ W H x y aI c hc];exact ⟨rfl,rfl⟩
 unfold Re aKv;have ep:Yr W P (x,y)=P.getD (y*W+x).toNat 0:=rfl;have hc:vL aI x y=0∨vL aI x y=1∨vL aI x y=2:=oQ
 rcases hc with hc|hc|hc
 ·rw [(other 1 oQ).1,(other 1 oQ).2,(other 2 oQ).1,(other 2 oQ).2,hc,cT aL,ep];rfl
 ·rw [(other 0 oQ).1,(other 0 oQ).2,(other 2 oQ).1,(other 2 oQ).2,hc,cF aL,cT aL,ep];rfl
 ·rw [(other 0 oQ).1,(other 0 oQ).2,(other 1 oQ).1,(other 1 oQ).2,hc,cF aL,cF aL,ep];rfl
end
theorem Y0 (N:Nat) (W H:Int) (P:List Int) (hl:P.length≤9223372036854775807):iL N W H P []=some (if dK W H P=false then (0,0,[],1) else (W,H,(gS P.length).map (uX W H [] P),0)):=by
 unfold iL;rw [aE oQ];cases dK W H P
 ·rfl
 ·rw [aE sQ,aE sQ,aE sQ,aE sQ]
section
variable {W H:Nat} {P:List Int} (hW:1≤W∧W≤64∧1≤H∧H≤64) (hl:P.length=W*H) (hP:upTo P 65535) {aI:Int} (hp:0≤aI∧aI≤3)
def pF (W H:Nat) (P:List Int) (aI:Int) (x y:Nat):Px:=Re W H P aI x y
include hW hl in
theorem Rf {x y:Nat} (hx:x<W) (hy:y<H):Wp (W:Int) (H:Int) P x y:=⟨by omega,by omega,by omega,by omega,by omega,by omega,by rw [hl,vA]⟩
include hW hl hP hp
theorem aGx (kk) {y:Nat} (hy:y<H):∀(d x aA:Nat),x+d=W→d<aA →
  vX 8589934592 W H P aI y kk aA (pre W (pF W H P aI) (y*W+x),(x:Int))=kk (pre W (pF W H P aI) ((y+1)*W+0),(W:Int)):=by
 have hm:=tM hW.2.1 hW.2.2.2;intro d
 induction d with
 | zero=>
  intro x aA hk hf;obtain ⟨aA,rfl⟩:=kF aA oQ;obtain rfl:x=W:=oQ
  unfold vX;rw [nL,LA]
 | succ d ih=>
  intro x aA hk hf;obtain ⟨aA,rfl⟩:=kF aA oQ;have hx:x<W:=oQ
  have hpl:=mL hx hy;unfold vX;rw [p8,aDQ (Rf hW hl hx hy) hp hP,aD];have e:((Re (W:Int) (H:Int) P aI x y).1,(Re (W:Int) (H:Int) P aI x y).2.1,(Re (W:Int) (H:Int) P aI x y).2.2)=pF W H P aI x y:=rfl;rw [e,iQ (by rw [Jf];simp;omega),aD,cM oQ,←Ix (pF W H P aI) y hx];exact ih (x+1) aA oQ oQ
theorem aGy (kk):∀(d y aA:Nat),y+d=H→d<aA →
  tG 8589934592 W H P aI kk aA (pre W (pF W H P aI) (y*W+0),(y:Int))=kk (pre W (pF W H P aI) (H*W+0),(H:Int)):=by
 intro d
 induction d with
 | zero=>
  intro y aA hk hf;obtain ⟨aA,rfl⟩:=kF aA oQ;obtain rfl:y=H:=oQ
  unfold tG;rw [nL]
 | succ d ih=>
  intro y aA hk hf;obtain ⟨aA,rfl⟩:=kF aA oQ;unfold tG;rw [p8];refine (aGx hW hl hP hp _ (y:=y) oQ W 0 8589934592 oQ oQ).trans ?_
  dsimp only
  rw [cM oQ];exact ih (y+1) aA oQ oQ
theorem aBQ (kk:List Px×Int→Option (Int×Int×List Px×Int)):tG 8589934592 W H P aI kk 8589934592 ([],0)=kk (Id W H (pF W H P aI),(H:Int)):=by
 have:=aGy hW hl hP hp kk H 0 8589934592 oQ oQ;simp only [Nat.zero_mul,Nat.add_zero,pre,List.range_zero,List.map_nil] at this;refine this.trans ?_;rw [Id,oA]
theorem aGz {x y:Nat} (hx:x<W) {v:Int} (hv:0≤v∧v<H) (kk):∀(k:Nat) (u:Int) (L:List aN) (aA:Nat),0≤u→(x:Int)+1-u<k→L.length+k≤99→k<aA →
  ∃z,iN 8589934592 W H P aI x v kk aA ((sH W P aI L).1,(sH W P aI L).2.1,(sH W P aI L).2.2.1,(sH W P aI L).2.2.2.1,(sH W P aI L).2.2.2.2.1,(sH W P aI L).2.2.2.2.2,u) =
   kk ((sH W P aI (L++PM W x v k u)).1,(sH W P aI (L++PM W x v k u)).2.1,(sH W P aI (L++PM W x v k u)).2.2.1,(sH W P aI (L++PM W x v k u)).2.2.2.1,(sH W P aI (L++PM W x v k u)).2.2.2.2.1,(sH W P aI (L++PM W x v k u)).2.2.2.2.2,z):=by
 intro k
 induction k with
 | zero=>
  intro u L aA hu hk hL hf;obtain ⟨aA,rfl⟩:=kF aA oQ;refine ⟨u,?_⟩;unfold iN;rw [cM (x:=(W:Int)-1) oQ,cM (x:=(x:Int)+1) oQ,nL,PM,v4]
 | succ k ih=>
  intro u L aA hu hk hL hf;obtain ⟨aA,rfl⟩:=kF aA oQ
  by_cases hc:u≤min ((W:Int)-1) ((x:Int)+1)
  ·obtain ⟨z,hz⟩:=ih (u+1) (L++[(u,v)]) aA oQ oQ uW oQ;refine ⟨z,?_⟩;rw [PM,aF hc];have hC:=Rf hW hl hx (show 0<H by omega);obtain ⟨e1,_,_,e2⟩:=Rb hC (u:=u) (v:=v) ⟨hu,by omega,hv.1,hv.2⟩;have c0:=G0 aI 0 L;have c1:=G0 aI 1 L;have c2:=G0 aI 2 L;have s0:=FH (W:=W) hP aI 0 L oQ;have s1:=FH (W:=W) hP aI 1 L oQ;have s2:=FH (W:=W) hP aI 2 L oQ;have hpv:=hP (v*W+u).toNat;have hr:=LB aI u v
   have hat:cK 8589934592 W H P u v=some (P.getD (v*W+u).toNat 0):=by
    unfold cK;rw [e1,e2];rfl
   have ee:L++(u,v)::PM W x v k (u+1)=L++[(u,v)]++PM W x v k (u+1):=by simp
   rw [ee,←hz]
   conv=>lhs;unfold iN
   rw [cM (x:=(W:Int)-1) oQ,cM (x:=(x:Int)+1) oQ,cT (dT hc),KI 8589934592 hp oQ oQ,aD,hat];simp only [sH,WD,aAy,aD];have e:Yr W P (u,v)=P.getD (v*W+u).toNat 0:=rfl;rw [cM (x:=u+1) oQ];have hcc:vL aI u v=0∨vL aI u v=1∨vL aI u v=2:=oQ
   rcases hcc with hcc|hcc|hcc
   ·rw [hcc,cT aL,cM oQ,cM oQ,e];rfl
   ·rw [hcc,cF aL,cT aL,cM oQ,cM oQ,e];rfl
   ·rw [hcc,cF aL,cF aL,cT aL,cM oQ,cM oQ,e];rfl
  ·refine ⟨u,?_⟩;unfold iN;rw [cM (x:=(W:Int)-1) oQ,cM (x:=(x:Int)+1) oQ,cF (dF hc),PM,aE hc,v4]
theorem aGA {x y:Nat} (hx:x<W) (hy:y<H) (kk):∀(k:Nat) (v:Int) (L:List aN) (aA:Nat),0≤v→(y:Int)+1-v<k→L.length+4*k≤60→k<aA →
  ∃z,j5 8589934592 W H P aI y x kk aA ((sH W P aI L).1,(sH W P aI L).2.1,(sH W P aI L).2.2.1,(sH W P aI L).2.2.2.1,(sH W P aI L).2.2.2.2.1,(sH W P aI L).2.2.2.2.2,v) =
   kk ((sH W P aI (L++Rc W H x y k v)).1,(sH W P aI (L++Rc W H x y k v)).2.1,(sH W P aI (L++Rc W H x y k v)).2.2.1,(sH W P aI (L++Rc W H x y k v)).2.2.2.1,(sH W P aI (L++Rc W H x y k v)).2.2.2.2.1,(sH W P aI (L++Rc W H x y k v)).2.2.2.2.2,z):=by
 intro k
 induction k with
 | zero=>
  intro v L aA hv hk hL hf;obtain ⟨aA,rfl⟩:=kF aA oQ;refine ⟨v,?_⟩;unfold j5;rw [cM (x:=(H:Int)-1) oQ,cM (x:=(y:Int)+1) oQ,nL,Rc,v4]
 | succ k ih=>
  intro v L aA hv hk hL hf;obtain ⟨aA,rfl⟩:=kF aA oQ
  by_cases hc:v≤min ((H:Int)-1) ((y:Int)+1)
  ·obtain ⟨a,_⟩:=YX W x v 4 (max 0 ((x:Int)-1)) oQ;obtain ⟨z,hz⟩:=ih (v+1) (L++PM W x v 4 (max 0 ((x:Int)-1))) aA oQ oQ (by rw [kG];omega) oQ;refine ⟨z,?_⟩;rw [Rc,aF hc,←pL,←hz]
   conv=>lhs;unfold j5
   rw [cM (x:=(H:Int)-1) oQ,cM (x:=(y:Int)+1) oQ,cT (dT hc),cM (x:=(x:Int)-1) oQ,aD];obtain ⟨z2,hz2⟩:=aGz hW hl hP hp (y:=y) hx (v:=v) oQ (fun (OC,Mw,U2,Mx,Ww,OD,Na)=>(some (aC.wrap (v+1))).bind fun x52=>j5 8589934592 W H P aI y x kk aA (OC,Mw,U2,Mx,Ww,OD,x52)) 4 (max 0 ((x:Int)-1)) L 8589934592 oQ oQ oQ oQ;refine hz2.trans ?_
   dsimp only
   rw [aD,cM (x:=v+1) oQ]
  ·refine ⟨v,?_⟩;unfold j5;rw [cM (x:=(H:Int)-1) oQ,cM (x:=(y:Int)+1) oQ,cF (dF hc),Rc,aE hc,v4]
omit hW hl hP hp in
theorem aGB (N aA:Nat) (a b c:Int) (s:Px) (kk):nX N a b c s.1 s.2.1 s.2.2 kk (aA+4) (0,0,0,0) =
  dH (nz (max a 1)) fun _=>dH (nz (max b 1)) fun _=>dH (nz (max c 1)) fun _=>kk (aC.wrap (gI s.1 (max a 1)),aC.wrap (gI s.2.1 (max b 1)),aC.wrap (gI s.2.2 (max c 1)),3):=aQ
omit hW hl hP hp in
theorem Y1 {n s:Int} (hn:0≤n) (hs:0≤s∧s≤6553500):aC.wrap (gI s (max n 1))=dv n s:=by
 have h1:=Int.ediv_nonneg hs.1 (show 0≤max n 1 by omega);have h2:=Int.ediv_le_self (max n 1) hs.1;rw [Int.tdiv_eq_ediv_of_nonneg hs.1,cM oQ];unfold dv
 by_cases h:0<n
 ·rw [aF h,Int.max_eq_left oQ]
 ·rw [aE h,Int.max_eq_right oQ,Int.ediv_one]
theorem aGC (kk) {y:Nat} (hy:y<H):∀(d x aA:Nat),x+d=W→d<aA →
  iO 8589934592 W H P aI y kk aA (pre W (pF W H P aI) (y*W+x),(x:Int))=kk (pre W (pF W H P aI) ((y+1)*W+0),(W:Int)):=by
 have hm:=tM hW.2.1 hW.2.2.2;intro d
 induction d with
 | zero=>
  intro x aA hk hf;obtain ⟨aA,rfl⟩:=kF aA oQ;obtain rfl:x=W:=oQ
  unfold iO;rw [nL,LA]
 | succ d ih=>
  intro x aA hk hf;obtain ⟨aA,rfl⟩:=kF aA oQ;have hx:x<W:=oQ
  have hpl:=mL hx hy;have hih:=ih (x+1) aA oQ oQ;have hC:=Rf hW hl hx hy;obtain ⟨e1,_,_,e2⟩:=Rb hC (u:=x) (v:=y) oQ
  have hat:cK 8589934592 W H P x y=some (Yr W P (x,y)):=by
   unfold cK;rw [e1,e2];rfl
  have L0:tN (W:Int) (H:Int) x y=[]++Rc W H x y 4 (max 0 ((y:Int)-1)):=rfl;obtain ⟨fl,_⟩:=YY (W:Int) (H:Int) x y 4 (max 0 ((y:Int)-1)) oQ;have c0:=G0 aI 0 (tN (W:Int) (H:Int) x y);have c1:=G0 aI 1 (tN (W:Int) (H:Int) x y);have c2:=G0 aI 2 (tN (W:Int) (H:Int) x y);have hfl:(tN (W:Int) (H:Int) x y).length≤100:=by rw [L0];simp;omega
  have s0:=FH (W:=W) hP aI 0 (tN (W:Int) (H:Int) x y) hfl;have s1:=FH (W:=W) hP aI 1 (tN (W:Int) (H:Int) x y) hfl;have s2:=FH (W:=W) hP aI 2 (tN (W:Int) (H:Int) x y) hfl;have hr:=LB aI x y;unfold iO;rw [p8,cM (x:=(y:Int)-1) oQ,aD];refine (aGA hW hl hP hp hx hy _ 4 (max 0 ((y:Int)-1)) [] 8589934592 oQ oQ sQ oQ).elim fun z hz=>hz.trans ?_
  rw [←L0];dsimp only [sH];refine (aGB 8589934592 8589934588 _ _ _ (sm W P aI 0 (tN W H x y),sm W P aI 1 (tN W H x y),sm W P aI 2 (tN W H x y)) _).trans ?_;rw [AJ oQ,aD,AJ oQ,aD,AJ oQ,aD]
  dsimp only
  rw [Y1 c0.1 s0,Y1 c1.1 s1,Y1 c2.1 s2,KI 8589934592 hp oQ oQ,aD,hat,aD];unfold j3;simp only [aD];rw [cM (x:=(x:Int)+1) oQ];have hcc:vL aI x y=0∨vL aI x y=1∨vL aI x y=2:=oQ
  have fin:∀p:Px,p=pF W H P aI x y→(dH (app 24 (pre W (pF W H P aI) (y*W+x)) ([(p.1,p.2.1,p.2.2)]:List Px)) fun xP=>iO 8589934592 W H P aI y kk aA (xP,(x:Int)+1))=kk (pre W (pF W H P aI) ((y+1)*W+0),(W:Int)):=fun p hpe=>by
   subst hpe;rw [iQ (by rw [Jf];simp;omega),aD];have:=Ix (pF W H P aI) y hx;rw [show ((pF W H P aI x y).1,(pF W H P aI x y).2.1,(pF W H P aI x y).2.2)=pF W H P aI x y from rfl,←this];exact hih
  rcases hcc with hcc|hcc|hcc
  ·rw [hcc,cT aL];exact fin (Yr W P (x,y),_,_) (by unfold pF Re;rw [hcc];rfl)
  ·rw [hcc,cF aL,cT aL];exact fin (_,Yr W P (x,y),_) (by unfold pF Re;rw [hcc];rfl)
  ·rw [hcc,cF aL,cF aL,cT aL];exact fin (_,_,Yr W P (x,y)) (by unfold pF Re;rw [hcc];rfl)
theorem aGD (kk):∀(d y aA:Nat),y+d=H→d<aA →
  nY 8589934592 W H P aI kk aA (pre W (pF W H P aI) (y*W+0),(y:Int))=kk (pre W (pF W H P aI) (H*W+0),(H:Int)):=by
 intro d
 induction d with
 | zero=>
  intro y aA hk hf;obtain ⟨aA,rfl⟩:=kF aA oQ;obtain rfl:y=H:=oQ
  unfold nY;rw [nL]
 | succ d ih=>
  intro y aA hk hf;obtain ⟨aA,rfl⟩:=kF aA oQ;unfold nY;rw [p8];refine (aGC hW hl hP hp _ (y:=y) oQ W 0 8589934592 oQ oQ).trans ?_
  dsimp only
  rw [aD,cM oQ];exact ih (y+1) aA oQ oQ
theorem aBR:qO 8589934592 W H P aI=some ((W:Int),(H:Int),Id W H (pF W H P aI)):=by
 unfold qO;have:=aGD hW hl hP hp (fun x:List Px×Int=>some ((W:Int),(H:Int),x.1)) H 0 8589934592 oQ oQ;simp only [Nat.zero_mul,Nat.add_zero,pre,List.range_zero,List.map_nil] at this;refine this.trans ?_;rw [Id,oA]
end
theorem fill_eq (W H:Int) (P:List Int) (aI:Int) (hl:P.length≤9223372036854775807):AA 8589934592 W H P aI=some (if dK W H P=false then (0,0,[],1) else if 0≤aI∧aI≤3 then (W,H,Id W.toNat H.toNat (pF W.toNat H.toNat P aI),0) else (0,0,[],3)):=by
 unfold AA;rw [Y0 8589934592 W H P hl,aD];cases hq:dK W H P
 ·rfl
 ·obtain ⟨w,h,rfl,rfl,w1,w2,w3,w4,gK,hm,hall⟩:=EF hq;rw [aE sQ,aE sQ,cF rQ]
  by_cases a1:aI<0
  ·rw [cT (dT a1),aE oQ]
  rw [cF (dF a1)]
  by_cases a2:3<aI
  ·rw [cT (dT a2),aE oQ]
  rw [cF (dF a2),aF oQ,fM,fM];exact aBQ ⟨w1,w2,w3,w4⟩ gK (KJ gK hall) oQ _
theorem aMt {n s top:Int} (ht:0≤top) (hn:0≤n) (hs:0≤s∧s≤top*n):0≤dv n s∧dv n s≤top:=by
 unfold dv
 by_cases h:0<n
 ·rw [aF h];exact ⟨Int.ediv_nonneg hs.1 hn,Int.ediv_le_of_le_mul h hs.2⟩
 ·rw [aE h];have:n=0:=oQ
  subst this
  simp at hs
  omega
theorem aKy {W H:Nat} {P:List Int} {top:Int} (ht:0≤top) (hP:upTo P top) (aI:Int) (x y:Nat):(0≤(pF W H P aI x y).1∧(pF W H P aI x y).1≤top)∧(0≤(pF W H P aI x y).2.1∧(pF W H P aI x y).2.1≤top)∧(0≤(pF W H P aI x y).2.2∧(pF W H P aI x y).2.2≤top):=by
 have own:0≤Yr W P ((x:Int),(y:Int))∧Yr W P ((x:Int),(y:Int))≤top:=hP _;have d:∀c,0≤dv (cnt aI c (tN W H x y)) (sm W P aI c (tN W H x y))∧dv (cnt aI c (tN W H x y)) (sm W P aI c (tN W H x y))≤top:=fun c=>aMt ht (G0 _ _ _).1 (aIX hP aI c _)
 unfold pF Re aKv
 split
 ·exact ⟨own,d 1,d 2⟩
 ·split
  ·exact ⟨d 0,own,d 2⟩
  ·exact ⟨d 0,d 1,own⟩
theorem aDR {W H:Nat} {P:List Int} (h:1≤W∧W≤64∧1≤H∧H≤64) (hP:upTo P 65535) (aI:Int):p7 W H (Id W H (pF W H P aI))=true:=U4 h fun x y _ _=>by
 obtain ⟨a,b,c⟩:=aKy (W:=W) (H:=H) oQ hP aI x y;simp only [sW,decide_eq_true_eq];omega
theorem Jg (N:Nat) {n b:Int} (hb:1≤b∧b≤1000000) (hn:-4611686018427387904≤n∧n≤4611686018427387904):bT N n b=some (n/b):=by
 have hd:=Int.mul_ediv_add_emod n b;have hr0:=Int.emod_nonneg n (show b≠0 by omega);have hr1:=Int.emod_lt_of_pos n (show 0<b by omega);obtain ⟨q,hq⟩:∃q,n/b=q:=⟨_,rfl⟩
 obtain ⟨r,hr⟩:∃r,n%b=r:=⟨_,rfl⟩
 rw [hq,hr] at hd;rw [hr] at hr0 hr1
 have hqb:-4611686018427387905≤q∧q≤4611686018427387904:=by
  have h1:q≤4611686018427387904:=by
   rw [←hq];exact Int.le_trans (Int.ediv_le_ediv oQ hn.2) (Int.ediv_le_of_le_mul oQ oQ)
  have h2:-4611686018427387905≤q:=by
   rw [←hq];exact Int.le_ediv_of_mul_le oQ oQ
  exact ⟨h2,h1⟩
 unfold bT;rw [AJ oQ,aD,aD,Int.tdiv_eq_ediv,hq]
 by_cases h:0≤n∨b∣n
 ·rw [aF h,Int.add_zero,cM (x:=q) oQ,Int.mul_comm q b,cM (x:=b*q) oQ,nL]
 ·rw [aE h,Int.sign_eq_one_of_pos oQ,cM (x:=q+1) oQ,Int.mul_comm (q+1) b,Int.mul_add,Int.mul_one,cM (x:=b*q+b) oQ,p8,aD,cM oQ,Int.add_sub_cancel]
theorem aDS (N:Nat) (P:List Int) (kk:Int→Option Bool) (hP:P.length≤4096):∀(d k aA:Nat),k+d=P.length→d<aA→vW N P kk aA (k:Int)=if (P.drop k).all Ph then kk P.length else some false:=by
 intro d
 induction d with
 | zero=>
  intro k aA hk hf;obtain ⟨aA,rfl⟩:=kF aA oQ;obtain rfl:k=P.length:=oQ
  unfold vW;rw [nL]
  simp
 | succ d ih=>
  intro k aA hk hf;obtain ⟨aA,rfl⟩:=kF aA oQ;have hlt:k<P.length:=oQ
  unfold vW;rw [p8,dC,f9 hlt,aD,zC hlt,tK];have hih:=ih (k+1) aA oQ oQ
  by_cases h1:P[k]<0
  ·rw [cT (dT h1)];have:Ph P[k]=false:=by simp only [Ph,Bool.and_eq_false_iff,decide_eq_false_iff_not];omega
   simp [this]
  rw [cF (dF h1)]
  by_cases h2:65535<P[k]
  ·rw [cT (dT h2)];have:Ph P[k]=false:=by simp only [Ph,Bool.and_eq_false_iff,decide_eq_false_iff_not];omega
   simp [this]
  rw [cF (dF h2),cM oQ];have:Ph P[k]=true:=by simp only [Ph,o9,decide_eq_true_eq];omega
  rw [this,tF,←hih]
  rfl
theorem WE (N:Nat) (W H:Int) (P:List Int) (hN:5000≤N):Ay N W H P=some (dK W H P):=by
 unfold Ay
 have no:¬(DB W H∧(P.length:Int)=W*H)→dK W H P=false:=fun h=>by
  cases hq:dK W H P
  ·rfl
  ·obtain ⟨a,b,_⟩:=sI.1 hq;exact absurd ⟨a,b⟩ h
 by_cases h1:W<1
 ·rw [cT (dT h1),no (fun h=>by unfold DB at h;omega)]
 rw [cF (dF h1)]
 by_cases h2:64<W
 ·rw [cT (dT h2),no (fun h=>by unfold DB at h;omega)]
 rw [cF (dF h2)]
 by_cases h3:H<1
 ·rw [cT (dT h3),no (fun h=>by unfold DB at h;omega)]
 rw [cF (dF h3)]
 by_cases h4:64<H
 ·rw [cT (dT h4),no (fun h=>by unfold DB at h;omega)]
 have hb:=OG (W:=W) (H:=H) oQ;rw [cF (dF h4),cM oQ]
 by_cases h5:(P.length:Int)=W*H
 rotate_left
 ·rw [cT (by rw [dF h5];rfl),no (fun h=>h5 h.2)]
 rw [cF (by rw [dT h5];rfl)];refine (aDS N P _ oQ P.length 0 N oQ oQ).trans ?_;have hs:DB W H:=⟨by omega,by omega,by omega,by omega⟩
 simp only [dK,hs,h5,decide_true,tF,List.drop_zero]
 cases P.all Ph <;> rfl
def MA (b0 b1 b2 b3:Int) (x y:Nat):Int:=if y%2=0 then (if x%2=0 then b0 else b1) else (if x%2=0 then b2 else b3)
def U6 (b w v:Int):Int:=min (max (v-b) 0*65535/(w-b)) 65535
def MB (W:Nat) (P:List Int) (b0 b1 b2 b3 w:Int) (i:Nat):Int:=U6 (MA b0 b1 b2 b3 (i%W) (i/W)) w (P.getD i 0)
def WF (b0 b1 b2 b3 w:Int):Prop:=(0≤b0∧b0<w)∧(0≤b1∧b1<w)∧(0≤b2∧b2<w)∧(0≤b3∧b3<w)
theorem U7 {b0 b1 b2 b3 w:Int} (h:WF b0 b1 b2 b3 w) (x y:Nat):0≤MA b0 b1 b2 b3 x y∧MA b0 b1 b2 b3 x y<w:=by
 obtain ⟨h0,h1,h2,h3⟩:=h;unfold MA
 split <;> split <;> assumption
theorem WG {n:Nat} (h:n<64):BJ .i64 (n:Int) 1=((n%2:Nat):Int):=by rw [Ra ⟨by omega,by omega⟩];omega
theorem or_fin:∀a b:Fin 2,Ir .i64 (qF .i64 ((a.val:Nat):Int) 1) ((b.val:Nat):Int)=((a.val*2+b.val:Nat):Int):=by decide +kernel
theorem aKz {x y:Nat} (hx:x<64) (hy:y<64):Ir .i64 (qF .i64 (BJ .i64 (y:Int) 1) 1) (BJ .i64 (x:Int) 1)=((y%2*2+x%2:Nat):Int):=by
 rw [WG hx,WG hy];exact or_fin ⟨y%2,by omega⟩ ⟨x%2,by omega⟩
theorem aAz (b0 b1 b2 b3:Int) (x y:Nat):idx [b0,b1,b2,b3] ((y%2*2+x%2:Nat):Int)=some (MA b0 b1 b2 b3 x y):=by
 rw [dC];unfold MA;have hy:y%2=0∨y%2=1:=oQ
 have hx:x%2=0∨x%2=1:=oQ
 rcases hy with hy|hy <;> rcases hx with hx|hx <;> rw [hy,hx] <;> rfl
theorem OJ {i:Int} {n:Nat} (h:0≤i∧i<n):inr i n=some ():=by unfold inr;rw [aF h]
theorem Rg {a b:Int} (ha:0≤a):gI a b=a/b:=Int.tdiv_eq_ediv_of_nonneg ha
theorem aKA {a b:Int} (ha:0≤a) (hb:1≤b):0≤a/b∧a/b≤a:=⟨Int.ediv_nonneg ha oQ,Int.ediv_le_self _ ha⟩
section
variable {b0 b1 b2 b3 w:Int} (hb:WF b0 b1 b2 b3 w) (hw:w≤65535)
include hb hw
theorem aGE (N:Nat) {x y:Nat} (hx:x<64) (hy:y<64) {v:Int} (hv:0≤v∧v≤65535) :
  ∃r,yW N v x y b0 b1 b2 b3 w=some r∧min r 65535=U6 (MA b0 b1 b2 b3 x y) w v:=by
 have hb4:=U7 hb x y;unfold yW;rw [aKz hx hy,OJ oQ,aD,aAz,aD]
 generalize MA b0 b1 b2 b3 x y=b at *
 have hm:0≤max (v-b) 0*65535∧max (v-b) 0*65535≤4294836225:=oQ
 rw [cM (x:=w-b) oQ,AJ oQ,aD,cM (x:=v-b) oQ,cM (x:=max (v-b) 0*65535) oQ,Rg hm.1];have:=aKA hm.1 (show 1≤w-b by omega);rw [cM oQ];exact ⟨_,rfl,rfl⟩
theorem aGF {b v:Int} (h:0≤b∧b<w):0≤U6 b w v∧U6 b w v≤65535:=by
 have hm:0≤max (v-b) 0*65535:=oQ
 have:=Int.ediv_nonneg hm (show 0≤w-b by omega);unfold U6
 omega
theorem Y2 (N:Nat) {W H:Nat} {P:List Int} (hs:1≤W∧W≤64∧1≤H∧H≤64) (hl:P.length=W*H) (hP:upTo P 65535) (kk:gL→Option qP):∀(d k aA:Nat),k+d=P.length→d<aA →
    gB N W P b0 b1 b2 b3 w kk aA ((gS k).map (MB W P b0 b1 b2 b3 w)++nH (P.length-k) 0,(k:Int))=kk ((gS P.length).map (MB W P b0 b1 b2 b3 w),(P.length:Int)):=by
  have hm:=tM hs.2.1 hs.2.2.2
  intro d
  induction d with
  | zero=>
    intro k aA hk hf
    obtain ⟨aA,rfl⟩:=kF aA oQ
    obtain rfl:k=P.length:=oQ
    unfold gB
    rw [nL,Nat.sub_self,List.replicate_zero,v4]
  | succ d ih=>
    intro k aA hk hf
    obtain ⟨aA,rfl⟩:=kF aA oQ
    have hlt:k<P.length:=oQ
    obtain ⟨e1,e2⟩:=tdm k (show 0<W by omega)
    obtain ⟨l1,l2,_⟩:=kA (show k<W*H by omega)
    have q1:(0:Int)≤((k/W:Nat):Int):=Int.natCast_nonneg _
    have q2:((k/W:Nat):Int)<64:=by have:k/W<64:=oQ
                                   exact_mod_cast this
    have hv:=hP k
    have hg:P.getD k 0=P[k]:=by rw [qG,f9 hlt];rfl
    rw [hg] at hv
    obtain ⟨r,hr,hr2⟩:=aGE hb hw N (x:=k%W) (y:=k/W) oQ oQ hv
    unfold gB
    rw [p8,dC,f9 hlt,aD,AJ oQ,aD,aD,e1,e2,cM (x:=((k/W:Nat):Int)) oQ,hr,aD,dC,f9 uW,aD,hr2]
    have hst:U6 (MA b0 b1 b2 b3 (k%W) (k/W)) w P[k]=MB W P b0 b1 b2 b3 w k:=by unfold MB;rw [hg]
    rw [hst,Iy (MB W P b0 b1 b2 b3 w) 0 hlt,aD,cM oQ]
    exact ih (k+1) aA oQ oQ
theorem Y3 (N:Nat) (kk:Int→Option pW):oJ N b0 b1 b2 b3 w kk 8589934592 0=kk 4:=by
 obtain ⟨⟨a0,c0⟩,⟨a1,c1⟩,⟨a2,c2⟩,⟨a3,c3⟩⟩:=hb
 have one:∀(aA:Nat) (i:Nat) (b:Int),i<4→idx [b0,b1,b2,b3] (i:Int)=some b→0≤b∧b<w→oJ N b0 b1 b2 b3 w kk (aA+1) (i:Int)=oJ N b0 b1 b2 b3 w kk aA ((i+1:Nat):Int):=fun aA i b hi hx hb'=>by
  conv=>lhs;unfold oJ
  rw [p8,hx,aD,nL,nL,nL,cM oQ]
  rfl
 have h0:=one 8589934591 0 b0 aL rfl ⟨a0,c0⟩;have h1:=one 8589934590 1 b1 aL rfl ⟨a1,c1⟩;have h2:=one 8589934589 2 b2 aL rfl ⟨a2,c2⟩;have h3:=one 8589934588 3 b3 aL rfl ⟨a3,c3⟩;refine h0.trans (h1.trans (h2.trans (h3.trans ?_)));show oJ N b0 b1 b2 b3 w kk (8589934587+1) 4=kk 4;unfold oJ;rw [cF aL]
theorem aDT {W H:Nat} {P:List Int} (hf:dK W H P=true):y7 8589934592 W H P b0 b1 b2 b3 w=some ((W:Int),(H:Int),(gS P.length).map (MB W P b0 b1 b2 b3 w),0):=by
 obtain ⟨w',h',e1,e2,w1,w2,w3,w4,gK,hm,hall⟩:=EF hf;obtain rfl:W=w':=oQ
 obtain rfl:H=h':=oQ
 unfold y7;rw [WE 8589934592 W H P oQ,aD,hf,cF rQ];refine (Y3 hb hw 8589934592 _).trans ?_;unfold qE;rw [aD,mk_eq oQ,aD,fM];have hL:=Y2 hb hw 8589934592 ⟨w1,w2,w3,w4⟩ gK (KJ gK hall) (fun x:gL=>some ((W:Int),(H:Int),x.1)) P.length 0 8589934592 oQ oQ;simp only [List.range_zero,List.map_nil,List.nil_append,Nat.sub_zero] at hL;exact (bZ (fun z=>dH z fun r3:qP=>some (r3.1,r3.2.1,r3.2.2,(0:Int))) hL).trans rfl
theorem aGG (N:Nat) {b v:Int} (h:0≤b∧b<w) (hv:0≤v∧v≤65535):(dH (bT N (aC.wrap (aC.wrap (v-b)*65535)) (aC.wrap (w-b))) fun r9=>dD N r9)=some (U6 b w v):=by
 rw [cM (x:=v-b) oQ,cM (x:=(v-b)*65535) oQ,cM (x:=w-b) oQ,Jg N oQ oQ,aD];unfold dD U6
 by_cases hvb:b≤v
 ·have:=Int.ediv_nonneg (show 0≤(v-b)*65535 by omega) (show 0≤w-b by omega);rw [Int.max_eq_left (show 0≤v-b by omega)]
  congr 1;omega
 ·rw [Int.max_eq_right (show v-b≤0 by omega)];have:(v-b)*65535/(w-b)<0:=Int.ediv_neg_of_neg_of_pos oQ oQ;rw [Int.zero_mul,Int.zero_ediv]
  congr 1;omega
end
def lvF (W:Nat) (P:List Int) (b0 b1 b2 b3 w:Int) (x y:Nat):Int:=U6 (MA b0 b1 b2 b3 x y) w (P.getD (y*W+x) 0)
theorem aDU (W:Nat) (P:List Int) (b0 b1 b2 b3 w:Int) (n:Nat):(gS n).map (MB W P b0 b1 b2 b3 w)=pre W (lvF W P b0 b1 b2 b3 w) n:=by
 unfold pre;refine List.map_congr_left fun i _=>?_
 unfold MB lvF;rw [oA,Nat.div_add_mod]
theorem at_eq (N:Nat) {W H:Nat} {P:List Int} (hs:1≤W∧W≤64∧1≤H∧H≤64) (hl:P.length=W*H) {x y:Nat} (hx:x<W) (hy:y<H):cK N W H P x y=some (P.getD (y*W+x) 0):=by
 have hm:=tM hs.2.1 hs.2.2.2;have hpl:=mL hx hy;have e:(y:Int)*(W:Int)=((y*W:Nat):Int):=by rw [vA]
 unfold cK;rw [e,cM (x:=((y*W:Nat):Int)) oQ,cM oQ,show ((y*W:Nat):Int)+(x:Int)=((y*W+x:Nat):Int) by omega,dC,f9 oQ,aD,qG,f9 oQ]
 rfl
theorem aIY (n:Nat):mN (n:Int) 2=((n%2:Nat):Int):=by rw [Int.tmod_eq_emod_of_nonneg oQ];omega
theorem U8 {P:List Int} (hP:upTo P 65535) (i:Nat):0≤P.getD i 0∧P.getD i 0≤65535:=hP i
section
variable {b0 b1 b2 b3 w:Int} (hb:WF b0 b1 b2 b3 w) (hw:w≤65535) {W H:Nat} {P:List Int} (hs:1≤W∧W≤64∧1≤H∧H≤64) (hl:P.length=W*H) (hP:upTo P 65535)
include hb hw hs hl hP
theorem aGH (kk) {y:Nat} (hy:y<H):∀(d x aA:Nat),x+d=W→d<aA →
  mF 8589934592 W H P b0 b1 b2 b3 w y kk aA (pre W (lvF W P b0 b1 b2 b3 w) (y*W+x),(x:Int))=kk (pre W (lvF W P b0 b1 b2 b3 w) ((y+1)*W+0),(W:Int)):=by
 have hm:=tM hs.2.1 hs.2.2.2;intro d
 induction d with
 | zero=>
  intro x aA hk hf;obtain ⟨aA,rfl⟩:=kF aA oQ;obtain rfl:x=W:=oQ
  unfold mF;rw [nL,LA]
 | succ d ih=>
  intro x aA hk hf;obtain ⟨aA,rfl⟩:=kF aA oQ;have hx:x<W:=oQ
  have hpl:=mL hx hy;have hpv:=U8 hP (y*W+x);have hb4:=U7 hb x y;have hih:=ih (x+1) aA oQ oQ;rw [Ix _ y hx] at hih
  have hix:aC.wrap (aC.wrap (mN (y:Int) 2*2)+mN (x:Int) 2)=((y%2*2+x%2:Nat):Int):=by
   rw [aIY,aIY,cM (x:=((y%2:Nat):Int)*2) oQ,cM oQ];omega
  have hd:=aGG hb hw 8589934592 hb4 hpv;unfold mF;rw [p8,hix,OJ oQ,aD,aAz,aD,at_eq 8589934592 hs hl hx hy,aD,Q7,hd,aD,iQ (by rw [Jf];simp;omega),aD,aD,cM (x:=(x:Int)+1) oQ];exact hih
theorem aGI (kk):∀(d y aA:Nat),y+d=H→d<aA →
  mG 8589934592 W H P b0 b1 b2 b3 w kk aA (pre W (lvF W P b0 b1 b2 b3 w) (y*W+0),(y:Int))=kk (pre W (lvF W P b0 b1 b2 b3 w) (H*W+0),(H:Int)):=by
 intro d
 induction d with
 | zero=>
  intro y aA hk hf;obtain ⟨aA,rfl⟩:=kF aA oQ;obtain rfl:y=H:=oQ
  unfold mG;rw [nL]
 | succ d ih=>
  intro y aA hk hf;obtain ⟨aA,rfl⟩:=kF aA oQ;unfold mG;rw [p8];refine (aGH hb hw hs hl hP _ (y:=y) oQ W 0 8589934592 oQ oQ).trans ?_
  dsimp only
  rw [aD,cM oQ];exact ih (y+1) aA oQ oQ
theorem WH:oR 8589934592 W H P b0 b1 b2 b3 w=some ((W:Int),(H:Int),(gS P.length).map (MB W P b0 b1 b2 b3 w)):=by
 unfold oR;have:=aGI hb hw hs hl hP (fun x:gL=>some ((W:Int),(H:Int),x.1)) H 0 8589934592 oQ oQ;simp only [Nat.zero_mul,Nat.add_zero,pre,List.range_zero,List.map_nil] at this;refine this.trans ?_;rw [hl,aDU,pre,oA]
end
theorem aDV:∀n:Fin 80,BJ .i64 ((n.val:Nat):Int) 1=((n.val:Nat):Int)%2:=by decide +kernel
theorem WI {u:Int} (h:0≤u∧u<80):BJ .i64 u 1=u%2:=by
 have:=aDV ⟨u.toNat,by omega⟩
 simpa [Int.toNat_of_nonneg h.1] using this
theorem aPi (m:Int):jN .i64 m 1=m/2:=Q9 m 1 aL
theorem Y4 (N:Nat) {aI:Int} (hp:0≤aI∧aI≤3) {x y:Nat} (hx:x<64) (hy:y<64):u6 N aI x y=some (vL aI x y):=by
 unfold u6;rw [aPi,cM (x:=(x:Int)+aI) oQ,cM (x:=(y:Int)+aI/2) oQ,WI oQ,WI oQ,cM oQ]
 congr 1
 unfold vL
 omega
def gn3 (g0 g1 g2 c:Int):Int:=if c=0 then g0 else if c=1 then g1 else g2
def gnV (g v:Int):Int:=min (v*g/256) 65535
def WJ (W:Nat) (P:List Int) (aI g0 g1 g2:Int) (i:Nat):Int:=gnV (gn3 g0 g1 g2 (vL aI ((i%W:Nat):Int) ((i/W:Nat):Int))) (P.getD i 0)
def aKB (g0 g1 g2:Int):Prop:=(0≤g0∧g0≤65535)∧(0≤g1∧g1≤65535)∧(0≤g2∧g2≤65535)
theorem Y5 {g0 g1 g2:Int} (h:aKB g0 g1 g2) (c:Int):0≤gn3 g0 g1 g2 c∧gn3 g0 g1 g2 c≤65535:=by
 obtain ⟨h0,h1,h2⟩:=h;unfold gn3;split
 ·exact h0
 ·split
  ·exact h1
  ·exact h2
theorem aAA (g0 g1 g2:Int) {c:Int} (h:0≤c∧c≤2):idx [g0,g1,g2] c=some (gn3 g0 g1 g2 c):=by
 have hc:c=0∨c=1∨c=2:=oQ
 rcases hc with rfl|rfl|rfl <;> rfl
theorem aDW {v g:Int} (hv:0≤v∧v≤65535) (hg:0≤g∧g≤65535):0≤v*g∧v*g≤4294836225:=by
 have:=KH (x:=v) (y:=g) (a:=65535) (b:=65535) oQ oQ;have h0:=Int.mul_nonneg hv.1 hg.1
 omega
theorem aKC {g v:Int} (hv:0≤v∧v≤65535) (hg:0≤g∧g≤65535):0≤gnV g v∧gnV g v≤65535:=by
 have:=aDW hv hg;unfold gnV;omega
section
variable {g0 g1 g2:Int} (hg:aKB g0 g1 g2) {aI:Int} (hp:0≤aI∧aI≤3)
include hg hp
theorem aKD (N:Nat) {x y:Nat} (hx:x<64) (hy:y<64) {v:Int} (hv:0≤v∧v≤65535) :
  ∃r,Am N v x y g0 g1 g2 aI=some r∧min r 65535=gnV (gn3 g0 g1 g2 (vL aI x y)) v:=by
 have hc:=LB aI x y;have hm:=aDW hv (Y5 hg (vL aI x y));unfold Am;rw [Y4 N hp hx hy,aD,OJ oQ,aD,aAA _ _ _ hc,aD,cM oQ,aIW];exact ⟨_,rfl,rfl⟩
theorem WK (N:Nat) {W H:Nat} {P:List Int} (hs:1≤W∧W≤64∧1≤H∧H≤64) (hl:P.length=W*H) (hP:upTo P 65535) (kk:gL→Option qP):∀(d k aA:Nat),k+d=P.length→d<aA →
    gO N W P g0 g1 g2 aI kk aA ((gS k).map (WJ W P aI g0 g1 g2)++nH (P.length-k) 0,(k:Int))=kk ((gS P.length).map (WJ W P aI g0 g1 g2),(P.length:Int)):=by
  have hm:=tM hs.2.1 hs.2.2.2
  intro d
  induction d with
  | zero=>
    intro k aA hk hf
    obtain ⟨aA,rfl⟩:=kF aA oQ
    obtain rfl:k=P.length:=oQ
    unfold gO
    rw [nL,Nat.sub_self,List.replicate_zero,v4]
  | succ d ih=>
    intro k aA hk hf
    obtain ⟨aA,rfl⟩:=kF aA oQ
    have hlt:k<P.length:=oQ
    obtain ⟨e1,e2⟩:=tdm k (show 0<W by omega)
    obtain ⟨l1,l2,_⟩:=kA (show k<W*H by omega)
    have q1:(0:Int)≤((k/W:Nat):Int):=Int.natCast_nonneg _
    have q2:((k/W:Nat):Int)<64:=by have:k/W<64:=oQ
                                   exact_mod_cast this
    have hv:=hP k
    have hg':P.getD k 0=P[k]:=by rw [qG,f9 hlt];rfl
    rw [hg'] at hv
    obtain ⟨r,hr,hr2⟩:=aKD hg hp N (x:=k%W) (y:=k/W) oQ oQ hv
    unfold gO
    rw [p8,dC,f9 hlt,aD,AJ oQ,aD,aD,e1,e2,cM (x:=((k/W:Nat):Int)) oQ,hr,aD,dC,f9 uW,aD,hr2]
    have hst:gnV (gn3 g0 g1 g2 (vL aI ((k%W:Nat):Int) ((k/W:Nat):Int))) P[k]=WJ W P aI g0 g1 g2 k:=by unfold WJ;rw [hg']
    rw [hst,Iy (WJ W P aI g0 g1 g2) 0 hlt,aD,cM oQ]
    exact ih (k+1) aA oQ oQ
theorem aBS (N:Nat) (kk:Int→Option pW):pO N aI g0 g1 g2 kk 8589934592 0=kk 3:=by
 obtain ⟨⟨a0,c0⟩,⟨a1,c1⟩,⟨a2,c2⟩⟩:=hg
 have one:∀(aA:Nat) (i:Nat) (b:Int),i<3→idx [g0,g1,g2] (i:Int)=some b→0≤b∧b≤65535→pO N aI g0 g1 g2 kk (aA+1) (i:Int)=pO N aI g0 g1 g2 kk aA ((i+1:Nat):Int):=fun aA i b hi hx hb'=>by
  conv=>lhs;unfold pO
  rw [p8,hx,aD,nL,nL,nL,nL,cM oQ]
  rfl
 have h0:=one 8589934591 0 g0 aL rfl ⟨a0,c0⟩;have h1:=one 8589934590 1 g1 aL rfl ⟨a1,c1⟩;have h2:=one 8589934589 2 g2 aL rfl ⟨a2,c2⟩;refine h0.trans (h1.trans (h2.trans ?_));show pO N aI g0 g1 g2 kk (8589934588+1) 3=kk 3;unfold pO;rw [cF aL]
theorem aGJ {W H:Nat} {P:List Int} (hf:dK W H P=true):Az 8589934592 W H P aI g0 g1 g2=some ((W:Int),(H:Int),(gS P.length).map (WJ W P aI g0 g1 g2),0):=by
 obtain ⟨w',h',e1,e2,w1,w2,w3,w4,gK,hm,hall⟩:=EF hf;obtain rfl:W=w':=oQ
 obtain rfl:H=h':=oQ
 unfold Az;rw [WE 8589934592 W H P oQ,aD,hf,cF rQ];refine (aBS hg hp 8589934592 _).trans ?_;unfold rM;rw [aD,mk_eq oQ,aD,fM];have hL:=WK hg hp 8589934592 ⟨w1,w2,w3,w4⟩ gK (KJ gK hall) (fun x:gL=>some ((W:Int),(H:Int),x.1)) P.length 0 8589934592 oQ oQ;simp only [List.range_zero,List.map_nil,List.nil_append,Nat.sub_zero] at hL;exact (bZ (fun z=>dH z fun r3:qP=>some (r3.1,r3.2.1,r3.2.2,(0:Int))) hL).trans rfl
theorem aBT {W H:Nat} {P:List Int} (hs:1≤W∧W≤64∧1≤H∧H≤64) (hl:P.length=W*H) (hP:upTo P 65535) (kk):∀(d k aA:Nat),k+d=P.length→d<aA →
    nW 8589934592 W P aI g0 g1 g2 kk aA ((gS k).map (WJ W P aI g0 g1 g2),(k:Int))=kk ((gS P.length).map (WJ W P aI g0 g1 g2),(P.length:Int)):=by
  have hm:=tM hs.2.1 hs.2.2.2
  intro d
  induction d with
  | zero=>
    intro k aA hk hf
    obtain ⟨aA,rfl⟩:=kF aA oQ
    obtain rfl:k=P.length:=oQ
    unfold nW
    rw [nL]
  | succ d ih=>
    intro k aA hk hf
    obtain ⟨aA,rfl⟩:=kF aA oQ
    have hlt:k<P.length:=oQ
    obtain ⟨e1,e2⟩:=tdm k (show 0<W by omega)
    obtain ⟨l1,l2,_⟩:=kA (show k<W*H by omega)
    have q0:(0:Int)≤((k%W:Nat):Int):=Int.natCast_nonneg _
    have q3:((k%W:Nat):Int)<64:=by have:k%W<64:=oQ
                                   exact_mod_cast this
    have q1:(0:Int)≤((k/W:Nat):Int):=Int.natCast_nonneg _
    have q2:((k/W:Nat):Int)<64:=by have:k/W<64:=oQ
                                   exact_mod_cast this
    have hv:=hP k
    have hg':P.getD k 0=P[k]:=by rw [qG,f9 hlt];rfl
    rw [hg'] at hv
    have hc:=LB aI ((k%W:Nat):Int) ((k/W:Nat):Int)
    have hmm:=aDW hv (Y5 hg (vL aI ((k%W:Nat):Int) ((k/W:Nat):Int)))
    have hst:gnV (gn3 g0 g1 g2 (vL aI ((k%W:Nat):Int) ((k/W:Nat):Int))) P[k]=WJ W P aI g0 g1 g2 k:=by unfold WJ;rw [hg']
    have hih:=ih (k+1) aA oQ oQ
    rw [←Q8,←hst] at hih
    unfold nW
    rw [p8,dC,f9 hlt,aD,AJ oQ,aD,aD,e1,e2,cM (x:=((k/W:Nat):Int)) oQ,KI 8589934592 hp ⟨q0,q3⟩ ⟨q1,q2⟩,aD,OJ oQ,aD,aAA _ _ _ hc,aD]
    generalize gn3 g0 g1 g2 (vL aI ((k%W:Nat):Int) ((k/W:Nat):Int))=g at *
    rw [cM (x:=P[k]*g) oQ,Rg hmm.1,cM (x:=P[k]*g/256) oQ]
    unfold dD
    rw [aD,iQ uW,aD,aD,cM (x:=(k:Int)+1) oQ,show max 0 (min (P[k]*g/256) 65535)=gnV g P[k] by unfold gnV;omega]
    exact hih
theorem aBU {W H:Nat} {P:List Int} (hs:1≤W∧W≤64∧1≤H∧H≤64) (hl:P.length=W*H) (hP:upTo P 65535):qN 8589934592 W H P aI g0 g1 g2=some ((W:Int),(H:Int),(gS P.length).map (WJ W P aI g0 g1 g2)):=by
 have hm:=tM hs.2.1 hs.2.2.2;unfold qN;exact aBT hg hp hs hl hP _ P.length 0 8589934592 oQ oQ
end
theorem aBV (N:Nat) (l:List aN) (x y:Int) (kk:Int→Option Bool) (hl:l.length≤4096):∀(d k aA:Nat),k+d=l.length→d<aA →
  lO N l x y kk aA (k:Int)=if (x,y)∈l.drop k then some true else kk l.length:=by
 intro d
 induction d with
 | zero=>
  intro k aA hk hf;obtain ⟨aA,rfl⟩:=kF aA oQ;obtain rfl:k=l.length:=oQ
  unfold lO;rw [nL]
  simp
 | succ d ih=>
  intro k aA hk hf;obtain ⟨aA,rfl⟩:=kF aA oQ;have hlt:k<l.length:=oQ
  have hih:=ih (k+1) aA oQ oQ;unfold lO;rw [p8,dC,f9 hlt,aD,aD,aD,cM oQ,zC hlt]
  by_cases h1:l[k].1=x
  ·rw [cT (dT h1)]
   by_cases h2:l[k].2=y
   ·rw [cT (dT h2),aF];subst h1 h2;exact List.mem_cons_self
   ·rw [cF (dF h2)];refine hih.trans ?_
    have:((x,y)∈l[k]::l.drop (k+1))↔(x,y)∈l.drop (k+1):=by
     rw [List.mem_cons];exact or_iff_right fun e=>h2 (by rw [←e])
    simp only [this]
  ·rw [cF (dF h1)];refine hih.trans ?_
   have:((x,y)∈l[k]::l.drop (k+1))↔(x,y)∈l.drop (k+1):=by
    rw [List.mem_cons];exact or_iff_right fun e=>h1 (by rw [←e])
   simp only [this]
theorem WL (l:List aN) (x y:Int):cntF l x y=0↔(x,y)∉l:=by
 unfold cntF;have:=List.count_eq_zero (a:=(x,y)) (l:=l);rw [←this]
 omega
theorem T2 (l:List aN) (x y:Int) (hl:l.length≤4096):qM 8589934592 l x y=some (!decide (cntF l x y=0)):=by
 unfold qM;have:=aBV 8589934592 l x y (fun _=>some false) hl l.length 0 8589934592 oQ oQ;refine this.trans ?_;rw [List.drop_zero]
 by_cases h:(x,y)∈l
 ·rw [aF h,dF (fun e=>(WL l x y).1 e h)];rfl
 ·rw [aE h,dT ((WL l x y).2 h)];rfl
section
variable {W H:Nat} {P:List Int} (hs:1≤W∧W≤64∧1≤H∧H≤64) (hl:P.length=W*H) (hP:upTo P 65535) {l:List aN} (hn:l.length≤4096)
def okT (W H:Nat) (l:List aN) (u v:Int):Prop:=0≤u∧u<W∧0≤v∧v<H∧cntF l u v=0
instance (W H:Nat) (l:List aN) (u v:Int):Decidable (okT W H l u v):=by unfold okT;infer_instance
def dI (x y u v:Int):Prop:=(u=x∧(v=y-2∨v=y+2))∨(v=y∧(u=x-2∨u=x+2))
instance (x y u v:Int):Decidable (dI x y u v):=by unfold dI;infer_instance
def tS (W H:Nat) (P:List Int) (l:List aN) (x y u v:Int):Int:=if dI x y u v∧okT W H l u v then P.getD (v*W+u).toNat 0 else 0
def tC (W H:Nat) (l:List aN) (x y u v:Int):Int:=if dI x y u v∧okT W H l u v then 1 else 0
theorem aKE (N:Nat) {x y u v:Int} (hx:0≤x∧x≤64) (hy:0≤y∧y≤64) (kk:Bool→Option qP):sR N y x v u kk=kk (decide (dI x y u v)):=by
 unfold sR;rw [cM (x:=y-2) oQ,cM (x:=y+2) oQ,cM (x:=x-2) oQ,cM (x:=x+2) oQ]
 by_cases a:u=x
 ·rw [cT (dT a)]
  by_cases b:v=y-2
  ·rw [cT (dT b),dT (show dI x y u v by unfold dI;omega)]
  rw [cF (dF b)]
  by_cases c:v=y+2
  ·rw [cT (dT c),dT (show dI x y u v by unfold dI;omega)]
  rw [cF (dF c)]
  by_cases d:v=y
  ·rw [cT (dT d),nL,dF (show ¬u=x+2 by omega),dF (show ¬dI x y u v by unfold dI;omega)]
  ·rw [cF (dF d),dF (show ¬dI x y u v by unfold dI;omega)]
 ·rw [cF (dF a)]
  by_cases d:v=y
  ·rw [cT (dT d)]
   by_cases e:u=x-2
   ·rw [cT (dT e),dT (show dI x y u v by unfold dI;omega)]
   ·rw [cF (dF e)]
    congr 1
    rw [decide_eq_decide];unfold dI;omega
  ·rw [cF (dF d),dF (show ¬dI x y u v by unfold dI;omega)]
include hs hn in
theorem aKF {u v:Int} (b:Bool) (kk:Bool→Option qP):sP 8589934592 W H l v u b kk=kk (b&&decide (okT W H l u v)):=by
 unfold sP;cases b
 ·rfl
 rw [cT rfl,sU,aD,cM oQ,sU,aD,cM oQ,T2 l u v hn,aD,tF]
 by_cases a:0≤u∧u≤(W:Int)-1
 ·rw [cT (dT a)]
  by_cases c:0≤v∧v≤(H:Int)-1
  ·rw [cT (dT c),Bool.not_not]
   congr 1
   rw [decide_eq_decide];unfold okT
   constructor
   ·intro h;exact ⟨by omega,by omega,by omega,by omega,h⟩
   ·intro h;exact h.2.2.2.2
  ·rw [cF (dF c),dF (fun h:okT W H l u v=>by unfold okT at h;omega)]
 ·rw [cF (dF a),dF (fun h:okT W H l u v=>by unfold okT at h;omega)]
theorem aDX (hP:upTo P 65535) (x y u v:Int):0≤tS W H P l x y u v∧tS W H P l x y u v≤65535:=by
 unfold tS
 split
 ·exact hP _
 ·omega
theorem aDY (x y u v:Int):0≤tC W H l x y u v∧tC W H l x y u v≤1:=by
 unfold tC
 split <;> omega
include hs hl hP hn
theorem aDZ {x y u v s c:Int} (hx:0≤x∧x≤64) (hy:0≤y∧y≤64) (hu:u≤x+2∧-2≤u) (hs0:0≤s∧s≤100000000) (hc0:0≤c∧c≤1000) (kk) (aA:Nat) :
  jA 8589934592 W H P l y x v kk (aA+1) (s,c,u)=jA 8589934592 W H P l y x v kk aA (s+tS W H P l x y u v,c+tC W H l x y u v,u+1):=by
 conv=>lhs;unfold jA
 have ht:=aDX (W:=W) (H:=H) (l:=l) hP x y u v;have hc:=aDY (W:=W) (H:=H) (l:=l) x y u v;rw [cM (x:=x+2) oQ,cT (dT hu.1),aKE 8589934592 hx hy,aKF hs hn];unfold wI
 by_cases h:dI x y u v∧okT W H l u v
 ·obtain ⟨h1,h2⟩:=h;have h2':=h2;obtain ⟨u',rfl⟩:∃n:Nat,u=n:=⟨u.toNat,by unfold okT at h2;omega⟩
  obtain ⟨v',rfl⟩:∃n:Nat,v=n:=⟨v.toNat,by unfold okT at h2;omega⟩
  unfold okT at h2'
  have e:tS W H P l x y u' v'=P.getD (v'*W+u') 0:=by
   unfold tS;rw [aF ⟨h1,h2⟩]
   congr 1
  have e2:tC W H l x y u' v'=1:=by unfold tC;rw [aF ⟨h1,h2⟩]
  rw [cT (by rw [dT h1,dT h2];rfl),at_eq 8589934592 hs hl oQ oQ,aD,aD,aD,e2,←e,cM (x:=s+tS W H P l x y u' v') oQ,cM (x:=c+1) oQ]
  dsimp only
  rw [aD,cM oQ]
 ·have e:tS W H P l x y u v=0:=by unfold tS;rw [aE h]
  have e2:tC W H l x y u v=0:=by unfold tC;rw [aE h]
  rw [cF (by rw [←Bool.decide_and];exact dF h),e,e2,Int.add_zero,Int.add_zero]
  dsimp only
  rw [aD,cM oQ]
def rS (W H:Nat) (P:List Int) (l:List aN) (x y v:Int):Int:=tS W H P l x y (x-2) v+tS W H P l x y (x-1) v+tS W H P l x y x v+tS W H P l x y (x+1) v+tS W H P l x y (x+2) v
def rC (W H:Nat) (l:List aN) (x y v:Int):Int:=tC W H l x y (x-2) v+tC W H l x y (x-1) v+tC W H l x y x v+tC W H l x y (x+1) v+tC W H l x y (x+2) v
theorem aGK {x y v s c:Int} (hx:0≤x∧x≤64) (hy:0≤y∧y≤64) (hs0:0≤s∧s≤10000000) (hc0:0≤c∧c≤900) (kk) :
  jA 8589934592 W H P l y x v kk 8589934592 (s,c,x-2)=kk (s+rS W H P l x y v,c+rC W H l x y v,x+3):=by
 have b:=fun u=>aDX (W:=W) (H:=H) (l:=l) hP x y u v
 have d:=fun u=>aDY (W:=W) (H:=H) (l:=l) x y u v
 have b1:=b (x-2);have b2:=b (x-1);have b3:=b x;have b4:=b (x+1);have b5:=b (x+2);have d1:=d (x-2);have d2:=d (x-1);have d3:=d x;have d4:=d (x+1);have d5:=d (x+2);have st:=fun (u s c:Int) aA h1 h2 h3=>aDZ hs hl hP hn (x:=x) (y:=y) (v:=v) (u:=u) (s:=s) (c:=c) hx hy h1 h2 h3 kk aA
 refine (st _ _ _ 8589934591 oQ oQ oQ).trans ?_;rw [show x-2+1=x-1 by omega];refine (st _ _ _ 8589934590 oQ oQ oQ).trans ?_;rw [show x-1+1=x by omega];refine (st _ _ _ 8589934589 oQ oQ oQ).trans ?_;refine (st _ _ _ 8589934588 oQ oQ oQ).trans ?_;rw [show x+1+1=x+2 by omega];refine (st _ _ _ 8589934587 oQ oQ oQ).trans ?_;rw [show x+2+1=x+3 by omega];unfold jA;rw [cM (x:=x+2) oQ,nL];unfold rS rC
 congr 1
 simp only [Prod.mk.injEq,and_true]
 constructor <;> omega
theorem aMu (x y v:Int):(0≤rS W H P l x y v∧rS W H P l x y v≤327675)∧(0≤rC W H l x y v∧rC W H l x y v≤5):=by
 have b:=fun u=>aDX (W:=W) (H:=H) (l:=l) hP x y u v
 have d:=fun u=>aDY (W:=W) (H:=H) (l:=l) x y u v
 have b1:=b (x-2);have b2:=b (x-1);have b3:=b x;have b4:=b (x+1);have b5:=b (x+2);have d1:=d (x-2);have d2:=d (x-1);have d3:=d x;have d4:=d (x+1);have d5:=d (x+2);unfold rS rC
 omega
theorem aGL {x y:Int} (hx:0≤x∧x≤64) (hy:0≤y∧y≤64) (kk) :
  jB 8589934592 W H P l y x kk 8589934592 (0,0,y-2)=kk (rS W H P l x y (y-2)+rS W H P l x y (y-1)+rS W H P l x y y+rS W H P l x y (y+1)+rS W H P l x y (y+2),rC W H l x y (y-2)+rC W H l x y (y-1)+rC W H l x y y+rC W H l x y (y+1)+rC W H l x y (y+2),y+3):=by
 have b:=fun v=>aMu hs hl hP hn x y v
 have b1:=b (y-2);have b2:=b (y-1);have b3:=b y;have b4:=b (y+1);have b5:=b (y+2)
 have st:∀(v s c:Int) (aA:Nat),v≤y+2→-2≤v→(0≤s∧s≤10000000)→(0≤c∧c≤900)→jB 8589934592 W H P l y x kk (aA+1) (s,c,v)=jB 8589934592 W H P l y x kk aA (s+rS W H P l x y v,c+rC W H l x y v,v+1):=fun v s c aA h1 h0 h2 h3=>by
  conv=>lhs;unfold jB
  rw [cM (x:=y+2) oQ,cT (dT h1),cM (x:=x-2) oQ,aD];refine (aGK hs hl hP hn hx hy h2 h3 _).trans ?_
  dsimp only
  rw [aD,cM (x:=v+1) oQ]
 refine (st _ _ _ 8589934591 oQ oQ oQ oQ).trans ?_;rw [show y-2+1=y-1 by omega];refine (st _ _ _ 8589934590 oQ oQ oQ oQ).trans ?_;rw [show y-1+1=y by omega];refine (st _ _ _ 8589934589 oQ oQ oQ oQ).trans ?_;refine (st _ _ _ 8589934588 oQ oQ oQ oQ).trans ?_;rw [show y+1+1=y+2 by omega];refine (st _ _ _ 8589934587 oQ oQ oQ oQ).trans ?_;rw [show y+2+1=y+3 by omega];unfold jB;rw [cM (x:=y+2) oQ,nL]
 congr 1
 simp only [Prod.mk.injEq,and_true]
 constructor <;> omega
end
section
variable {W H:Nat} {P:List Int} {l:List aN}
theorem aMv {x y u v:Int} (h:¬dI x y u v):tS W H P l x y u v=0:=by unfold tS;rw [aE (fun h'=>h h'.1)]
theorem aMw {x y u v:Int} (h:¬dI x y u v):tC W H l x y u v=0:=by unfold tC;rw [aE (fun h'=>h h'.1)]
theorem aAB {x y:Int} (k:Nat) (h:dI x y (Ov x k) (H2 y k)):tS W H P l x y (Ov x k) (H2 y k)=if J4 W H (cntF l) x y k then HH W P x y k else 0:=by
 unfold tS HH
 by_cases g:J4 W H (cntF l) x y k
 ·rw [aF g,aF ⟨h,g⟩]
 ·rw [aE g,aE (fun h'=>g h'.2)]
theorem aAC {x y:Int} (k:Nat) (h:dI x y (Ov x k) (H2 y k)):tC W H l x y (Ov x k) (H2 y k)=if J4 W H (cntF l) x y k then 1 else 0:=by
 unfold tC
 by_cases g:J4 W H (cntF l) x y k
 ·rw [aF g,aF ⟨h,g⟩]
 ·rw [aE g,aE (fun h'=>g h'.2)]
theorem aGM (x y:Int):rS W H P l x y (y-2)+rS W H P l x y (y-1)+rS W H P l x y y+rS W H P l x y (y+1)+rS W H P l x y (y+2)=BZ W H (cntF l) P x y 4:=by
 have n0:=aAB (W:=W) (H:=H) (P:=P) (l:=l) (x:=x) (y:=y) 0 (by show dI x y (x-2) y;unfold dI;omega);have n1:=aAB (W:=W) (H:=H) (P:=P) (l:=l) (x:=x) (y:=y) 1 (by show dI x y (x+2) y;unfold dI;omega);have n2:=aAB (W:=W) (H:=H) (P:=P) (l:=l) (x:=x) (y:=y) 2 (by show dI x y x (y-2);unfold dI;omega);have n3:=aAB (W:=W) (H:=H) (P:=P) (l:=l) (x:=x) (y:=y) 3 (by show dI x y x (y+2);unfold dI;omega);simp only [BZ,←n0,←n1,←n2,←n3];show _=0+tS W H P l x y (x-2) y+tS W H P l x y (x+2) y+tS W H P l x y x (y-2)+tS W H P l x y x (y+2);have no:∀u v,¬dI x y u v→tS W H P l x y u v=0:=fun u v h=>aMv h
 unfold rS
 rw [no (x-2) (y-2) (by unfold dI;omega),no (x-1) (y-2) (by unfold dI;omega),no (x+1) (y-2) (by unfold dI;omega),no (x+2) (y-2) (by unfold dI;omega),
  no (x-2) (y-1) (by unfold dI;omega),no (x-1) (y-1) (by unfold dI;omega),no x (y-1) (by unfold dI;omega),no (x+1) (y-1) (by unfold dI;omega),no (x+2) (y-1) (by unfold dI;omega),
  no (x-1) y (by unfold dI;omega),no x y (by unfold dI;omega),no (x+1) y (by unfold dI;omega),
  no (x-2) (y+1) (by unfold dI;omega),no (x-1) (y+1) (by unfold dI;omega),no x (y+1) (by unfold dI;omega),no (x+1) (y+1) (by unfold dI;omega),no (x+2) (y+1) (by unfold dI;omega),
  no (x-2) (y+2) (by unfold dI;omega),no (x-1) (y+2) (by unfold dI;omega),no (x+1) (y+2) (by unfold dI;omega),no (x+2) (y+2) (by unfold dI;omega)]
 omega
theorem aGN (x y:Int):rC W H l x y (y-2)+rC W H l x y (y-1)+rC W H l x y y+rC W H l x y (y+1)+rC W H l x y (y+2)=wX W H (cntF l) x y 4:=by
 have n0:=aAC (W:=W) (H:=H) (l:=l) (x:=x) (y:=y) 0 (by show dI x y (x-2) y;unfold dI;omega);have n1:=aAC (W:=W) (H:=H) (l:=l) (x:=x) (y:=y) 1 (by show dI x y (x+2) y;unfold dI;omega);have n2:=aAC (W:=W) (H:=H) (l:=l) (x:=x) (y:=y) 2 (by show dI x y x (y-2);unfold dI;omega);have n3:=aAC (W:=W) (H:=H) (l:=l) (x:=x) (y:=y) 3 (by show dI x y x (y+2);unfold dI;omega);simp only [wX,←n0,←n1,←n2,←n3];show _=0+tC W H l x y (x-2) y+tC W H l x y (x+2) y+tC W H l x y x (y-2)+tC W H l x y x (y+2);have no:∀u v,¬dI x y u v→tC W H l x y u v=0:=fun u v h=>aMw h
 unfold rC
 rw [no (x-2) (y-2) (by unfold dI;omega),no (x-1) (y-2) (by unfold dI;omega),no (x+1) (y-2) (by unfold dI;omega),no (x+2) (y-2) (by unfold dI;omega),
  no (x-2) (y-1) (by unfold dI;omega),no (x-1) (y-1) (by unfold dI;omega),no x (y-1) (by unfold dI;omega),no (x+1) (y-1) (by unfold dI;omega),no (x+2) (y-1) (by unfold dI;omega),
  no (x-1) y (by unfold dI;omega),no x y (by unfold dI;omega),no (x+1) y (by unfold dI;omega),
  no (x-2) (y+1) (by unfold dI;omega),no (x-1) (y+1) (by unfold dI;omega),no x (y+1) (by unfold dI;omega),no (x+1) (y+1) (by unfold dI;omega),no (x+2) (y+1) (by unfold dI;omega),
  no (x-2) (y+2) (by unfold dI;omega),no (x-1) (y+2) (by unfold dI;omega),no (x+1) (y+2) (by unfold dI;omega),no (x+2) (y+2) (by unfold dI;omega)]
 omega
theorem Y6 (hP:upTo P 65535) (x y:Int):∀k,0≤wX W H (cntF l) x y k∧wX W H (cntF l) x y k≤k∧0≤BZ W H (cntF l) P x y k∧BZ W H (cntF l) P x y k≤65535*wX W H (cntF l) x y k
 | 0=>by simp [wX,BZ]
 | k+1=>by
  have:=Y6 hP x y k;have hv:0≤HH W P x y k∧HH W P x y k≤65535:=hP _;simp only [wX,BZ]
  split <;> omega
def T3 (W H:Nat) (P:List Int) (l:List aN) (x y:Nat):Int:=min (BL W H (cntF l) P (P.getD (y*W+x) 0) x y) 65535
theorem WM (n:Nat):(gS n).map (uX W H l P)=pre W (T3 W H P l) n:=by
 unfold pre;refine List.map_congr_left fun i _=>?_
 unfold uX T3;rw [oA,Nat.div_add_mod,Int.natCast_emod,Int.natCast_ediv]
end
section
variable {W H:Nat} {P:List Int} (hs:1≤W∧W≤64∧1≤H∧H≤64) (hl:P.length=W*H) (hP:upTo P 65535) {l:List aN} (hn:l.length≤4096)
include hP in
theorem aKG (x y:Nat):0≤T3 W H P l x y∧T3 W H P l x y≤65535:=by
 have hv:=U8 hP (y*W+x);have hb:=Y6 (W:=W) (H:=H) (l:=l) hP x y 4
 have:0≤BL W H (cntF l) P (P.getD (y*W+x) 0) x y:=by
  unfold BL
  split
  ·exact hv.1
  ·split
   ·omega
   ·exact Int.ediv_nonneg hb.2.2.1 hb.1
 unfold T3
 omega
include hs hl hP hn
theorem aGO (kk) {y:Nat} (hy:y<H):∀(d x aA:Nat),x+d=W→d<aA →
  kI 8589934592 W H P l y kk aA (pre W (T3 W H P l) (y*W+x),(x:Int))=kk (pre W (T3 W H P l) ((y+1)*W+0),(W:Int)):=by
 have hm:=tM hs.2.1 hs.2.2.2;intro d
 induction d with
 | zero=>
  intro x aA hk hf;obtain ⟨aA,rfl⟩:=kF aA oQ;obtain rfl:x=W:=oQ
  unfold kI;rw [nL,LA]
 | succ d ih=>
  intro x aA hk hf;obtain ⟨aA,rfl⟩:=kF aA oQ;have hx:x<W:=oQ
  have hpl:=mL hx hy;have hpv:=U8 hP (y*W+x);have hb:=Y6 (W:=W) (H:=H) (l:=l) hP x y 4;have hih:=ih (x+1) aA oQ oQ;rw [Ix _ y hx] at hih;unfold kI;rw [p8,T2 l x y hn,aD,Bool.not_not]
  by_cases h:cntF l x y=0
  ·rw [cT (dT h),at_eq 8589934592 hs hl hx hy,aD,iQ (by rw [Jf];simp;omega),aD,aD,cM (x:=(x:Int)+1) oQ]
   have e:P.getD (y*W+x) 0=T3 W H P l x y:=by
    unfold T3 BL;rw [aF h];omega
   rw [e];exact hih
  ·rw [cF (dF h),cM (x:=(y:Int)-2) oQ,aD];refine (aGL hs hl hP hn oQ oQ _).trans ?_;rw [aGM,aGN]
   dsimp only
   have e:aC.wrap (gI (BZ W H (cntF l) P x y 4) (max (wX W H (cntF l) x y 4) 1))=T3 W H P l x y:=by
    have h1:T3 W H P l x y=min (if wX W H (cntF l) x y 4=0 then 0 else BZ W H (cntF l) P x y 4/wX W H (cntF l) x y 4) 65535:=by
     unfold T3 BL;rw [aE h]
    rw [h1,Rg hb.2.2.1]
    generalize BZ W H (cntF l) P x y 4=S at *
    generalize wX W H (cntF l) x y 4=C at *
    by_cases hc:C=0
    ·subst hc;rw [aF rfl,show S=0 by omega]
     rfl
    ·rw [aE hc,Int.max_eq_left oQ];have q1:=Int.ediv_nonneg (show 0≤S by omega) (show 0≤C by omega);have q2:S/C≤65535:=Int.ediv_le_of_le_mul oQ oQ;rw [cM oQ]
     omega
   rw [AJ oQ,aD,e,iQ (by rw [Jf];simp;omega),aD,aD,cM (x:=(x:Int)+1) oQ];exact hih
theorem aGP (kk):∀(d y aA:Nat),y+d=H→d<aA →
  mH 8589934592 W H P l kk aA (pre W (T3 W H P l) (y*W+0),(y:Int))=kk (pre W (T3 W H P l) (H*W+0),(H:Int)):=by
 intro d
 induction d with
 | zero=>
  intro y aA hk hf;obtain ⟨aA,rfl⟩:=kF aA oQ;obtain rfl:y=H:=oQ
  unfold mH;rw [nL]
 | succ d ih=>
  intro y aA hk hf;obtain ⟨aA,rfl⟩:=kF aA oQ;unfold mH;rw [p8];refine (aGO hs hl hP hn _ (y:=y) oQ W 0 8589934592 oQ oQ).trans ?_
  dsimp only
  rw [aD,cM oQ];exact ih (y+1) aA oQ oQ
theorem WN:oS 8589934592 W H P l=some ((W:Int),(H:Int),(gS P.length).map (uX W H l P)):=by
 unfold oS;have:=aGP hs hl hP hn (fun x:gL=>some ((W:Int),(H:Int),x.1)) H 0 8589934592 oQ oQ;simp only [Nat.zero_mul,Nat.add_zero,pre,List.range_zero,List.map_nil] at this;refine this.trans ?_;rw [hl,WM,pre,oA]
end
theorem aD0 (N:Nat) {W H:Nat} {P:List Px} (hs:oN W H P.length) (m0 m1 m2 m3 m4 m5 m6 m7 m8:Int) (g:Nat→Px) (hg:∀i p,P[i]? = some p→BQ N p.1 p.2.1 p.2.2 ((i%W:Nat):Int) ((i/W:Nat):Int) m0 m1 m2 m3 m4 m5 m6 m7 m8=some (g i)) (kk:List Px×Int→Option (Int×Int×List Px×Int)):∀(d k aA:Nat),k+d=P.length→d<aA →
  kH N W P m0 m1 m2 m3 m4 m5 m6 m7 m8 kk aA ((gS k).map g++nH (P.length-k) FG,(k:Int))=kk ((gS P.length).map g,(P.length:Int)):=by
 obtain ⟨h1,h2,h3,h4,h5,h6⟩:=uR W H P hs;intro d
 induction d with
 | zero=>
  intro k aA hk hf;obtain ⟨aA,rfl⟩:=kF aA oQ;obtain rfl:k=P.length:=oQ
  unfold kH;rw [nL,Nat.sub_self,List.replicate_zero,v4]
 | succ d ih=>
  intro k aA hk hf;obtain ⟨aA,rfl⟩:=kF aA oQ;have hlt:k<P.length:=oQ
  obtain ⟨e1,e2⟩:=tdm k (show 0<W by omega);have hq:k/W<H:=Nat.div_lt_of_lt_mul oQ;have hq0:(0:Int)≤((k/W:Nat):Int):=Int.natCast_nonneg _;unfold kH;rw [p8,dC,f9 hlt,aD,AJ oQ,aD,aD,e1,e2,cM (x:=((k/W:Nat):Int)) oQ];rw [hg k _ (f9 hlt),aD,dC,f9 uW,aD];rw [Iy g FG hlt,aD,cM oQ];exact ih (k+1) aA oQ oQ
theorem aD1 (N:Nat) {W H:Nat} {P:List Px} (hN:5000≤N) (m0 m1 m2 m3 m4 m5 m6 m7 m8:Int) (hp:p7 W H P=true) (g:Nat→Px) (hg:∀i p,P[i]? = some p→BQ N p.1 p.2.1 p.2.2 ((i%W:Nat):Int) ((i/W:Nat):Int) m0 m1 m2 m3 m4 m5 m6 m7 m8=some (g i)) :
  lZ N W H P m0 m1 m2 m3 m4 m5 m6 m7 m8=some ((W:Int),(H:Int),(gS P.length).map g,0):=by
 have hs:=mZ hp;have hl:=An hs;obtain ⟨a,b,l,ht⟩:=AC N W H P hN;rw [hp,aF rfl] at ht;unfold lZ;rw [ht,aD,cF rQ,aD,mk_eq oQ,aD,fM];exact aD0 N hs m0 m1 m2 m3 m4 m5 m6 m7 m8 g hg _ P.length 0 N oQ oQ
theorem aD2 (N:Nat) {W H:Int} {P:List Px} (hN:5000≤N) (m0 m1 m2 m3 m4 m5 m6 m7 m8:Int) (hp:p7 W H P=false):lZ N W H P m0 m1 m2 m3 m4 m5 m6 m7 m8=some (0,0,[],1):=by
 obtain ⟨a,b,l,ht⟩:=AC N W H P hN;rw [hp] at ht;unfold lZ;rw [ht]
 rfl
def okM (m:Int):Bool:=decide (-32768≤m∧m≤32768)
section
variable (N:Nat) (m0 m1 m2 m3 m4 m5 m6 m7 m8:Int)
theorem aKH (kk):∀(d k aA:Nat) (b:Bool),k+d=9→d<aA →
  tT N m0 m1 m2 m3 m4 m5 m6 m7 m8 kk aA (b,(k:Int))=kk (b&&([m0,m1,m2,m3,m4,m5,m6,m7,m8].drop k).all okM,9):=by
 intro d
 induction d with
 | zero=>
  intro k aA b hk hf;obtain ⟨aA,rfl⟩:=kF aA oQ;obtain rfl:k=9:=oQ
  unfold tT;rw [nL]
  simp
 | succ d ih=>
  intro k aA b hk hf;obtain ⟨aA,rfl⟩:=kF aA oQ;have hlt:k<[m0,m1,m2,m3,m4,m5,m6,m7,m8].length:=by show k<9;omega
  unfold tT;rw [p8,dC,f9 hlt,aD,cM oQ,zC hlt,tK];obtain ⟨e,he⟩:∃e,[m0,m1,m2,m3,m4,m5,m6,m7,m8][k]=e:=⟨_,rfl⟩
  rw [he];have key:∀c,tT N m0 m1 m2 m3 m4 m5 m6 m7 m8 kk aA (c,(k:Int)+1)=kk (c&&([m0,m1,m2,m3,m4,m5,m6,m7,m8].drop (k+1)).all okM,9):=fun c=>ih (k+1) aA c oQ oQ
  rw [key,key];cases b
  ·rfl
  ·rw [cond_true]
   by_cases h1:-32768≤e
   ·rw [cT (dT h1),okM]
    by_cases h2:e≤32768
    ·rw [dT h2,dT ⟨h1,h2⟩];simp
    ·rw [dF h2,dF (fun h=>h2 h.2)];simp
   ·rw [cF (dF h1),okM,dF (fun h=>h1 h.1)];simp
theorem Y7 (kk):∀(d k aA:Nat),k+d=9→d<aA →
  mU N m0 m1 m2 m3 m4 m5 m6 m7 m8 kk aA (k:Int)=if ([m0,m1,m2,m3,m4,m5,m6,m7,m8].drop k).all okM then kk 9 else some false:=by
 intro d
 induction d with
 | zero=>
  intro k aA hk hf;obtain ⟨aA,rfl⟩:=kF aA oQ;obtain rfl:k=9:=oQ
  unfold mU;rw [nL]
  simp
 | succ d ih=>
  intro k aA hk hf;obtain ⟨aA,rfl⟩:=kF aA oQ;have hlt:k<[m0,m1,m2,m3,m4,m5,m6,m7,m8].length:=by show k<9;omega
  unfold mU;rw [p8,show inr (k:Int) 9=some () from by unfold inr;rw [aF oQ],aD,dC,f9 hlt,aD,sU,aD,zC hlt,tK];obtain ⟨e,he⟩:∃e,[m0,m1,m2,m3,m4,m5,m6,m7,m8][k]=e:=⟨_,rfl⟩
  rw [he];have hih:=ih (k+1) aA oQ oQ
  by_cases h:-32768≤e∧e≤32768
  ·rw [cF (by simp [h]),aD,cM oQ,okM,dT h,tF];exact hih
  ·rw [cT (by simp only [Bool.not_eq_true',decide_eq_false_iff_not];exact h),okM,dF h];simp
def Dh:Bool:=[m0,m1,m2,m3,m4,m5,m6,m7,m8].all okM
theorem Y8 (hN:5000≤N):sM N m0 m1 m2 m3 m4 m5 m6 m7 m8=some (Dh m0 m1 m2 m3 m4 m5 m6 m7 m8):=by
 unfold sM;refine (Y7 N m0 m1 m2 m3 m4 m5 m6 m7 m8 _ 9 0 N oQ oQ).trans ?_;rw [List.drop_zero,←Dh]
 cases Dh m0 m1 m2 m3 m4 m5 m6 m7 m8 <;> rfl
def Rh (a b c:Int) (p:Px):Int:=max 0 (min (jN .i64 (aC.wrap (aC.wrap (aC.wrap (a*p.1)+aC.wrap (b*p.2.1))+aC.wrap (c*p.2.2))) 12) 65535)
def OK (p:Px):Px:=(Rh m0 m1 m2 p,Rh m3 m4 m5 p,Rh m6 m7 m8 p)
theorem aMx (p:Px) (x y:Int):BQ N p.1 p.2.1 p.2.2 x y m0 m1 m2 m3 m4 m5 m6 m7 m8=some (OK m0 m1 m2 m3 m4 m5 m6 m7 m8 p):=rfl
theorem aKI (hN:5000≤N) (W H:Int) (P:List Px):EC N W H P m0 m1 m2 m3 m4 m5 m6 m7 m8 =
  some (if p7 W H P=false then (0,0,[],1) else if Dh m0 m1 m2 m3 m4 m5 m6 m7 m8=false then (0,0,[],3) else (W,H,(gS P.length).map (fun i=>OK m0 m1 m2 m3 m4 m5 m6 m7 m8 (P.getD i FG)),0)):=by
 unfold EC;refine (aKH N m0 m1 m2 m3 m4 m5 m6 m7 m8 _ 9 0 N true oQ oQ).trans ?_;rw [List.drop_zero,←Dh,tF];cases hp:p7 W H P
 ·simp only [aD2 N hN m0 m1 m2 m3 m4 m5 m6 m7 m8 hp,aD];rw [cF aL];rfl
 ·have hs:=mZ hp;obtain ⟨W,rfl⟩:∃n:Nat,W=n:=⟨W.toNat,by have:=hs.1;omega⟩
  obtain ⟨H,rfl⟩:∃n:Nat,H=n:=⟨H.toNat,by have:=hs.2.2.1;omega⟩
  have:=aD1 N hN m0 m1 m2 m3 m4 m5 m6 m7 m8 hp (fun i=>OK m0 m1 m2 m3 m4 m5 m6 m7 m8 (P.getD i FG)) (fun i p hi=>by rw [aMx,qG,hi];rfl);simp only [this,aD];rw [cT rQ,aE sQ]
  cases Dh m0 m1 m2 m3 m4 m5 m6 m7 m8 <;> rfl
theorem aD3 (N aA:Nat) (r6:Px) (kk):oT N m0 m1 m2 m3 m4 m5 m6 m7 m8 r6 kk (aA+4) (0,0,0,0) =
  dH (bT N (aC.wrap (aC.wrap (aC.wrap (m0*r6.1)+aC.wrap (m1*r6.2.1))+aC.wrap (m2*r6.2.2))) 4096) fun a=>
  dH (dD N a) fun a'=>
  dH (bT N (aC.wrap (aC.wrap (aC.wrap (m3*r6.1)+aC.wrap (m4*r6.2.1))+aC.wrap (m5*r6.2.2))) 4096) fun b=>
  dH (dD N b) fun b'=>
  dH (bT N (aC.wrap (aC.wrap (aC.wrap (m6*r6.1)+aC.wrap (m7*r6.2.1))+aC.wrap (m8*r6.2.2))) 4096) fun c=>
  dH (dD N c) fun c'=>kk (a',b',c',3):=aQ
theorem U9 {a b c:Int} {p:Px} (ha:okM a=true) (hb:okM b=true) (hc:okM c=true) (hp:sW p=true) (N:Nat) :
  (dH (bT N (aC.wrap (aC.wrap (aC.wrap (a*p.1)+aC.wrap (b*p.2.1))+aC.wrap (c*p.2.2))) 4096) fun r=>dD N r)=some (Rh a b c p):=by
 simp only [okM,sW,decide_eq_true_eq] at ha hb hc hp;have h1:=KH (a:=32768) (b:=65535) (x:=a) (y:=p.1) oQ oQ;have h2:=KH (a:=32768) (b:=65535) (x:=b) (y:=p.2.1) oQ oQ;have h3:=KH (a:=32768) (b:=65535) (x:=c) (y:=p.2.2) oQ oQ;unfold Rh;rw [cM (x:=a*p.1) oQ,cM (x:=b*p.2.1) oQ,cM (x:=c*p.2.2) oQ,cM (x:=a*p.1+b*p.2.1) oQ,cM oQ,Jg N oQ oQ,aD,aMs]
 rfl
end
section
variable (m0 m1 m2 m3 m4 m5 m6 m7 m8:Int)
theorem aD4 {W H:Int} {P:List Px} (hp:p7 W H P=true) (hm:Dh m0 m1 m2 m3 m4 m5 m6 m7 m8=true) (kk):∀(d k aA:Nat),k+d=P.length→d<aA →
  oU 8589934592 P m0 m1 m2 m3 m4 m5 m6 m7 m8 kk aA ((gS k).map (fun i=>OK m0 m1 m2 m3 m4 m5 m6 m7 m8 (P.getD i FG)),(k:Int))=kk ((gS P.length).map (fun i=>OK m0 m1 m2 m3 m4 m5 m6 m7 m8 (P.getD i FG)),(P.length:Int)):=by
 have hl:=An (mZ hp);simp only [Dh,tK,List.all_nil,o9] at hm;obtain ⟨o0,o1,o2,o3,o4,o5,o6,o7,o8,_⟩:=hm;intro d
 induction d with
 | zero=>
  intro k aA hk hf;obtain ⟨aA,rfl⟩:=kF aA oQ;obtain rfl:k=P.length:=oQ
  unfold oU;rw [nL]
 | succ d ih=>
  intro k aA hk hf;obtain ⟨aA,rfl⟩:=kF aA oQ;have hlt:k<P.length:=oQ
  have hx:=f9 hlt;obtain ⟨p,hpe⟩:∃p,P[k]=p:=⟨_,rfl⟩
  rw [hpe] at hx;have hok:sW p=true:=by have:=WA hp hx;simpa [sW] using this
  have hg:P.getD k FG=p:=by rw [qG,hx];rfl
  unfold oU;rw [p8,dC,hx,aD];unfold j6;rw [aD];refine (aD3 m0 m1 m2 m3 m4 m5 m6 m7 m8 8589934592 8589934588 (p.1,p.2.1,p.2.2) _).trans ?_;rw [Q7,U9 (p:=p) o0 o1 o2 hok,aD,Q7,U9 (p:=p) o3 o4 o5 hok,aD,Q7,U9 (p:=p) o6 o7 o8 hok,aD];unfold j3
  dsimp only
  have e:(Rh m0 m1 m2 p,Rh m3 m4 m5 p,Rh m6 m7 m8 p)=OK m0 m1 m2 m3 m4 m5 m6 m7 m8 (P.getD k FG):=by rw [hg];rfl
  rw [aD,e,iQ uW,aD,aD,cM oQ,Q8 (fun i=>OK m0 m1 m2 m3 m4 m5 m6 m7 m8 (P.getD i FG))];exact ih (k+1) aA oQ oQ
theorem aD5 {W H:Int} {P:List Px} (hp:p7 W H P=true) (hm:Dh m0 m1 m2 m3 m4 m5 m6 m7 m8=true) :
  uP 8589934592 W H P m0 m1 m2 m3 m4 m5 m6 m7 m8=some (W,H,(gS P.length).map (fun i=>OK m0 m1 m2 m3 m4 m5 m6 m7 m8 (P.getD i FG))):=by
 have hl:=An (mZ hp);unfold uP;exact aD4 m0 m1 m2 m3 m4 m5 m6 m7 m8 hp hm (fun x=>some (W,H,x.1)) P.length 0 8589934592 oQ oQ
end
abbrev Pt:=aN
def cX (l:List Pt) (i:Nat):Int:=(l.getD i (0,0)).1
def cY (l:List Pt) (i:Nat):Int:=(l.getD i (0,0)).2
def Va (l:List Pt) (i:Nat):Prop:=cX l i<cX l (i+1)∧cY l i≤cY l (i+1)
structure pU (l:List Pt):Prop where
 len:2≤l.length∧l.length≤16
 x0:cX l 0=0
 xn:cX l (l.length-1)=65535
 y0:0≤cY l 0
 yn:cY l (l.length-1)≤65535
 step:∀i,i+1<l.length→Va l i
theorem zD (l:List Pt) {k:Nat} (h:k<l.length):idx l (k:Int)=some (l.getD k (0,0)):=by
 rw [dC,qG,f9 h];rfl
theorem Ri (l:List Pt) (h:1≤l.length∧l.length≤1000000):idx l (aC.wrap ((l.length:Int)-1))=some (l.getD (l.length-1) (0,0)):=by
 rw [cM oQ,show (l.length:Int)-1=((l.length-1:Nat):Int) by omega,zD l oQ]
theorem Y9 {l:List Pt} {j:Nat} (h:∀i,i<j→Va l i) {i:Nat} (hij:i≤j):cX l i≤cX l j∧cY l i≤cY l j∧(i<j→cX l i<cX l j):=by
  induction j with
  | zero=>obtain rfl:i=0:=oQ
          exact ⟨Int.le_refl _,Int.le_refl _,fun h=>by omega⟩
  | succ j ih=>
    by_cases e:i=j+1
    · subst e;exact ⟨Int.le_refl _,Int.le_refl _,fun h=>by omega⟩
    · obtain ⟨a,b,_⟩:=ih (fun i hi=>h i oQ) oQ
      obtain ⟨c,d⟩:=h j oQ
      exact ⟨by omega,by omega,fun _=>by omega⟩
theorem pU.mono {l:List Pt} (h:pU l) {i j:Nat} (hij:i≤j) (hj:j<l.length):cX l i≤cX l j∧cY l i≤cY l j∧(i<j→cX l i<cX l j):=Y9 (fun i hi=>h.step i oQ) hij
theorem pU.bd {l:List Pt} (h:pU l) {i:Nat} (hi:i<l.length):0≤cX l i∧cX l i≤65535∧0≤cY l i∧cY l i≤65535:=by
 obtain ⟨a,b,_⟩:=h.mono (i:=0) (j:=i) oQ hi;obtain ⟨c,d,_⟩:=h.mono (i:=i) (j:=l.length-1) oQ oQ;have:=h.x0;have:=h.xn;have:=h.y0;have:=h.yn
 omega
theorem aD6 (N:Nat) (l l2:List Pt) (hl:l2.length+1=l.length) (hb:l.length≤16):∀(d k aA:Nat),k+d=l2.length→d<aA →
  ∃b,xB N l l2 (fun _=>some true) aA (k:Int)=some b∧(b=true↔∀i,k≤i→i+1<l.length→Va l i):=by
 intro d
 induction d with
 | zero=>
  intro k aA hk hf;obtain ⟨aA,rfl⟩:=kF aA oQ;refine ⟨true,?_,by simp only [true_iff];intro i h1 h2;omega⟩;unfold xB;rw [nL]
 | succ d ih=>
  intro k aA hk hf;obtain ⟨aA,rfl⟩:=kF aA oQ;unfold xB;rw [p8,cM oQ,show (k:Int)+1=((k+1:Nat):Int) by omega];simp only [zD l (show k<l.length by omega),zD l (show k+1<l.length by omega),aD]
  by_cases h1:(l.getD (k+1) (0,0)).1≤(l.getD k (0,0)).1
  ·rw [cT (dT h1)];refine ⟨false,rfl,by simp only [Bool.false_eq_true,false_iff];intro h;have:=(h k (pK _) oQ).1;simp only [cX] at this;omega⟩
  rw [cF (dF h1)]
  by_cases h2:(l.getD (k+1) (0,0)).2<(l.getD k (0,0)).2
  ·rw [cT (dT h2)];refine ⟨false,rfl,by simp only [Bool.false_eq_true,false_iff];intro h;have:=(h k (pK _) oQ).2;simp only [cY] at this;omega⟩
  rw [cF (dF h2)];obtain ⟨b,e,hb'⟩:=ih (k+1) aA oQ oQ;refine ⟨b,e,hb'.trans ⟨fun h i hi hn=>?_,fun h i hi hn=>h i oQ hn⟩⟩
  by_cases hik:i=k
  ·subst hik;exact ⟨by simp only [cX];omega,by simp only [cY];omega⟩
  ·exact h i oQ hn
theorem right_eq (N:Nat) (l:List Pt) (hN:5000≤N):∃b,jP N l=some b∧(b=true↔pU l):=by
 unfold jP
 by_cases h1:(l.length:Int)<2
 ·rw [cT (dT h1)];exact ⟨false,rfl,by simp only [Bool.false_eq_true,false_iff];intro h;have:=h.len;omega⟩
 rw [cF (dF h1)]
 by_cases h2:16<(l.length:Int)
 ·rw [cT (dT h2)];exact ⟨false,rfl,by simp only [Bool.false_eq_true,false_iff];intro h;have:=h.len;omega⟩
 rw [cF (dF h2)];have i0:idx l 0=some (l.getD 0 (0,0)):=zD l (k:=0) oQ;have il:=Ri l oQ;simp only [i0,il,aD]
 by_cases h3:cX l 0=0
 rotate_left
 ·rw [cT (by simp only [cX] at h3;rw [dF h3];rfl)];exact ⟨false,rfl,by simp only [Bool.false_eq_true,false_iff];intro h;exact h3 h.x0⟩
 rw [cF (by simp only [cX] at h3;rw [dT h3];rfl)]
 by_cases h4:cX l (l.length-1)=65535
 rotate_left
 ·rw [cT (by simp only [cX] at h4;rw [dF h4];rfl)];exact ⟨false,rfl,by simp only [Bool.false_eq_true,false_iff];intro h;exact h4 h.xn⟩
 rw [cF (by simp only [cX] at h4;rw [dT h4];rfl)]
 by_cases h5:(l.getD 0 (0,0)).2<0
 ·rw [cT (dT h5)];exact ⟨false,rfl,by simp only [Bool.false_eq_true,false_iff];intro h;have:=h.y0;simp only [cY] at this;omega⟩
 rw [cF (dF h5)]
 by_cases h6:65535<(l.getD (l.length-1) (0,0)).2
 ·rw [cT (dT h6)];exact ⟨false,rfl,by simp only [Bool.false_eq_true,false_iff];intro h;have:=h.yn;simp only [cY] at this;omega⟩
 rw [cF (dF h6),EE oQ,aD];obtain ⟨b,e,hb⟩:=aD6 N l ((l.take (l.length:Int).toNat).drop (1:Int).toNat) uW oQ (l.length-1) 0 N sQ oQ;refine ⟨b,e,hb.trans ⟨fun h=>⟨by omega,h3,h4,by simp only [cY];omega,by simp only [cY];omega,fun i hi=>h i (Nat.zero_le _) hi⟩,fun h i _ hi=>h.step i hi⟩⟩
theorem Vb (N:Nat) (l:List Pt) (hb:l.length≤16):∀(d k aA:Nat),k+d=l.length→d<aA →
  ∃b,jU N l (fun _=>some true) aA (k:Int)=some b∧(b=true↔∀i,k≤i→i<l.length→(0≤cY l i∧cY l i≤65535)∧(0<i→Va l (i-1))):=by
 intro d
 induction d with
 | zero=>
  intro k aA hk hf;obtain ⟨aA,rfl⟩:=kF aA oQ;refine ⟨true,?_,by simp only [true_iff];intro i h1 h2;omega⟩;unfold jU;rw [nL]
 | succ d ih=>
  intro k aA hk hf;obtain ⟨aA,rfl⟩:=kF aA oQ;have no:∀{Q:Prop},¬Q→∃b,some false=some b∧(b=true↔Q):=fun h=>⟨false,rfl,by simp [h]⟩
  unfold jU;rw [p8,zD l (show k<l.length by omega),aD,sU,aD];obtain ⟨b,e,hb'⟩:=ih (k+1) aA oQ oQ
  by_cases h1:0≤cY l k∧cY l k≤65535
  rotate_left
  ·rw [cT (by simp only [cY] at h1;rw [dF h1];rfl)];exact no fun h=>h1 (h k (pK _) oQ).1
  rw [cF (by simp only [cY] at h1;rw [dT h1];rfl)]
  by_cases h2:0<k
  ·rw [p8,aD,cM (x:=(k:Int)-1) oQ,show (k:Int)-1=((k-1:Nat):Int) by omega,zD l (show k-1<l.length by omega)];simp only [aD];have hk1:k-1+1=k:=oQ
   by_cases h3:(l.getD k (0,0)).1≤(l.getD (k-1) (0,0)).1
   ·rw [cT (dT h3)];exact no fun h=>by have:=((h k (pK _) oQ).2 h2).1;rw [hk1] at this;simp only [cX] at this;omega
   rw [cF (dF h3)]
   by_cases h4:(l.getD k (0,0)).2<(l.getD (k-1) (0,0)).2
   ·rw [cT (dT h4)];exact no fun h=>by have:=((h k (pK _) oQ).2 h2).2;rw [hk1] at this;simp only [cY] at this;omega
   rw [cF (dF h4),cM oQ];refine ⟨b,e,hb'.trans ⟨fun h i hi hn=>?_,fun h i hi hn=>h i oQ hn⟩⟩
   by_cases hik:i=k
   ·subst hik;exact ⟨h1,fun _=>⟨by rw [hk1];simp only [cX];omega,by rw [hk1];simp only [cY];omega⟩⟩
   ·exact h i oQ hn
  ·rw [nL,aD,cM oQ];refine ⟨b,e,hb'.trans ⟨fun h i hi hn=>?_,fun h i hi hn=>h i oQ hn⟩⟩
   by_cases hik:i=k
   ·subst hik;exact ⟨h1,fun h=>absurd h h2⟩
   ·exact h i oQ hn
theorem Vc (N:Nat) (l:List Pt) (hN:5000≤N):∃b,iM N l=some b∧(b=true↔pU l):=by
 unfold iM;have no:∀{Q:Prop},¬Q→∃b,some false=some b∧(b=true↔Q):=fun h=>⟨false,rfl,by simp [h]⟩
 rw [sU,aD]
 by_cases h1:(2:Int)≤l.length∧(l.length:Int)≤16
 rotate_left
 ·rw [cT (by rw [dF h1];rfl)];exact no fun h=>h1 (by have:=h.len;omega)
 rw [cF (by rw [dT h1];rfl)];have i0:idx l 0=some (l.getD 0 (0,0)):=zD l (k:=0) oQ;have il:=Ri l oQ;simp only [i0,il,aD]
 by_cases h3:cX l 0=0
 rotate_left
 ·rw [cT (by simp only [cX] at h3;rw [dF h3];rfl)];exact no fun h=>h3 h.x0
 rw [cF (by simp only [cX] at h3;rw [dT h3];rfl)]
 by_cases h4:cX l (l.length-1)=65535
 rotate_left
 ·rw [cT (by simp only [cX] at h4;rw [dF h4];rfl)];exact no fun h=>h4 h.xn
 rw [cF (by simp only [cX] at h4;rw [dT h4];rfl)];obtain ⟨b,e,hb⟩:=Vb N l oQ l.length 0 N oQ oQ;refine ⟨b,e,hb.trans ⟨fun h=>⟨by omega,h3,h4,(h 0 (pK _) oQ).1.1,(h (l.length-1) (Nat.zero_le _) oQ).1.2,fun i hi=>(h (i+1) (Nat.zero_le _) hi).2 oQ⟩,fun h i _ hi=>⟨(h.bd hi).2.2,fun h0=>h.step (i-1) oQ⟩⟩⟩
def seg (l:List Pt) (i:Nat) (x:Int):Int:=cY l (i-1)+((cY l i-cY l (i-1))*(x-cX l (i-1)))/(cX l i-cX l (i-1))
section
variable {l:List Pt}
theorem aD7 {i:Nat}:seg l i (cX l (i-1))=cY l (i-1):=by
 unfold seg;rw [Int.sub_self,Int.mul_zero,Int.zero_ediv,Int.add_zero]
variable (h:pU l)
include h
theorem T4 {i:Nat} (hi:1≤i∧i<l.length) {x:Int} (hx:cX l (i-1)≤x∧x≤cX l i):cY l (i-1)≤seg l i x∧seg l i x≤cY l i:=by
 obtain ⟨s1,s2⟩:=h.step (i-1) oQ;rw [show i-1+1=i by omega] at s1 s2;unfold seg;have h0:0≤(cY l i-cY l (i-1))*(x-cX l (i-1)):=Int.mul_nonneg oQ oQ;have h1:=Int.ediv_nonneg h0 (show 0≤cX l i-cX l (i-1) by omega);have h2:(cY l i-cY l (i-1))*(x-cX l (i-1))≤(cY l i-cY l (i-1))*(cX l i-cX l (i-1)):=Int.mul_le_mul_of_nonneg_left oQ oQ;have h3:=Int.ediv_le_of_le_mul (show 0<cX l i-cX l (i-1) by omega) h2
 omega
theorem T5 {i:Nat} (hi:1≤i∧i<l.length):seg l i (cX l i)=cY l i:=by
 obtain ⟨s1,s2⟩:=h.step (i-1) oQ;rw [show i-1+1=i by omega] at s1 s2;unfold seg;rw [Int.mul_ediv_cancel _ oQ]
 omega
theorem aGQ {i j:Nat} (hi:1≤i∧i<l.length) (hj:1≤j∧j<l.length) {x:Int} (hx:cX l (i-1)≤x∧x≤cX l i) (hx':cX l (j-1)≤x∧x≤cX l j):seg l i x=seg l j x:=by
 have key:∀{i j:Nat},1≤i→i<j→j<l.length→x≤cX l i→cX l (j-1)≤x→seg l i x=seg l j x:=by
  intro i j h1 h2 h3 h4 h5;have m1:=h.mono (i:=i) (j:=j-1) oQ oQ;have e:x=cX l i:=oQ
  have e2:i=j-1:=by
   by_cases e2:i=j-1
   ·exact e2
   ·have:=m1.2.2 oQ;omega
  subst e;rw [T5 h ⟨h1,by omega⟩];subst e2;rw [aD7]
 rcases Nat.lt_trichotomy i j with hij|hij|hij
 ·exact key hi.1 hij hj.2 hx.2 hx'.1
 ·rw [hij]
 ·exact (key hj.1 hij hi.2 hx'.2 hx.1).symm
theorem WO {i:Nat} (hi:1≤i∧i<l.length) {x:Int} (hx:cX l (i-1)≤x∧x≤cX l i) :
  (dH (nz (aC.wrap (cX l i-cX l (i-1)))) fun _=>dH (some (aC.wrap (cY l (i-1)+aC.wrap (gI (aC.wrap (aC.wrap (cY l i-cY l (i-1))*aC.wrap (x-cX l (i-1)))) (aC.wrap (cX l i-cX l (i-1))))))) fun x3=>some x3)=some (seg l i x):=by
 obtain ⟨s1,s2⟩:=h.step (i-1) oQ;rw [show i-1+1=i by omega] at s1 s2;have b1:=h.bd hi.2;have b2:=h.bd (i:=i-1) oQ;have sf:=T4 h hi hx;unfold seg at sf ⊢;have h0:0≤(cY l i-cY l (i-1))*(x-cX l (i-1)):=Int.mul_nonneg oQ oQ;have h2:=KH (a:=65535) (b:=65535) (x:=cY l i-cY l (i-1)) (y:=x-cX l (i-1)) oQ oQ;rw [cM (x:=cX l i-cX l (i-1)) oQ,cM (x:=cY l i-cY l (i-1)) oQ,cM (x:=x-cX l (i-1)) oQ,cM (x:=(cY l i-cY l (i-1))*(x-cX l (i-1))) oQ];rw [Int.tdiv_eq_ediv_of_nonneg h0,cM (x:=_/_) oQ,cM oQ,AJ oQ]
 rfl
theorem aBW (N:Nat) (x:Int) (kk):∀(d i j aA:Nat),j-i≤d→i≤j→j≤l.length→d<aA→(∀k,k<i→cX l k≤x)→(∀k,j≤k→k<l.length→x<cX l k) →
  ∃r:Nat,r≤l.length∧(∀k,k<r→cX l k≤x)∧(∀k,r≤k→k<l.length→x<cX l k)∧fT N l x kk aA ((i:Int),(j:Int))=kk ((r:Int),(r:Int)):=by
 have gK:=h.len;intro d
 induction d with
 | zero=>
  intro i j aA hd hij hj hf h1 h2;obtain ⟨aA,rfl⟩:=kF aA oQ;obtain rfl:i=j:=oQ
  refine ⟨i,hj,h1,h2,?_⟩;unfold fT;rw [nL]
 | succ d ih=>
  intro i j aA hd hij hj hf h1 h2;obtain ⟨aA,rfl⟩:=kF aA oQ
  by_cases hlt:i<j
  ·unfold fT
   have hh:aC.wrap (jN .u64 (IntKind.u64.wrap (aC.wrap ((i:Int)+j))) 1)=(((i+j)/2:Nat):Int):=by
    rw [cM (x:=(i:Int)+j) oQ,IntWalk.u64_in _ oQ]
    have:jN .u64 ((i:Int)+j) 1=((i:Int)+j)/2:=by
     unfold jN;exact Int.fdiv_eq_ediv_of_nonneg _ aL
    rw [this,cM oQ]
    omega
   rw [p8,hh,aD];obtain ⟨m,hm⟩:∃m,(i+j)/2=m:=⟨_,rfl⟩
   have hm1:i≤m∧m<j:=oQ
   rw [hm];unfold HJ;rw [zD l (show m<l.length by omega),aD,aD]
   by_cases hc:x<cX l m
   ·rw [cF (by simp only [cX] at hc;rw [dT hc];rfl)]
    exact ih i m aA oQ oQ oQ oQ h1 fun k hk hk'=>by
     have:=(h.mono hk hk').1;omega
   ·rw [cT (by simp only [cX] at hc;rw [dF hc];rfl),aD,cM oQ]
    exact ih (m+1) j aA oQ oQ oQ oQ (fun k hk=>by
     have:=(h.mono (i:=k) (j:=m) oQ oQ).1;omega) h2
  ·obtain rfl:i=j:=oQ
   refine ⟨i,hj,h1,h2,?_⟩;unfold fT;rw [nL]
theorem aIZ (N:Nat) (hN:5000≤N) {x:Int} (hx:0≤x∧x≤65535):∃i,(1≤i∧i<l.length)∧(cX l (i-1)≤x∧x≤cX l i)∧yT N l x=some (seg l i x):=by
 have gK:=h.len;have hx0:=h.x0;have hxn:=h.xn;unfold yT tP;obtain ⟨r,hr,h1,h2,e⟩:=aBW h N x (fun (i4,j2)=>some i4) l.length 0 l.length N oQ oQ (pK _) oQ (fun k hk=>by omega) (fun k hk hk'=>by omega);have e':fT N l x (fun (i4,j2)=>some i4) N (0,(l.length:Int))=some (r:Int):=e
 have hr1:1≤r:=by
  by_cases h0:r=0
  ·have:=h2 0 oQ oQ;omega
  ·omega
 rw [e',aD];have il:=Ri l oQ
 by_cases hn:r=l.length
 ·subst hn;rw [cT (dT rfl),il,aD];have hle:=h1 (l.length-1) oQ;have hxe:x=cX l (l.length-1):=oQ
  have hm:=(h.mono (i:=l.length-1-1) (j:=l.length-1) oQ oQ).1;refine ⟨l.length-1,by omega,by omega,?_⟩;rw [hxe,T5 h oQ]
  rfl
 ·rw [nL,cM (x:=(r:Int)-1) oQ,show (r:Int)-1=((r-1:Nat):Int) by omega,zD l (show r-1<l.length by omega),zD l (show r<l.length by omega),aD,aD];have hx':cX l (r-1)≤x∧x≤cX l r:=⟨h1 _ oQ,by have:=h2 r (pK _) oQ;omega⟩
  exact ⟨r,by omega,hx',WO h oQ hx'⟩
theorem Zc (N:Nat) {x:Int} (hx:0≤x∧x≤65535) (kk):∀(d i aA:Nat),i+d=l.length→d≤aA→1≤i→i<l.length→(cX l (i-1)≤x) →
  ∃r:Nat,(1≤r∧r<l.length)∧(cX l (r-1)≤x∧x≤cX l r)∧pY N l x kk aA (i:Int)=kk (r:Int):=by
 have gK:=h.len;have hxn:=h.xn;intro d
 induction d with
 | zero=>intro i aA hd hf h1 h2 h3;omega
 | succ d ih=>
  intro i aA hd hf h1 h2 h3;obtain ⟨aA,rfl⟩:=kF aA oQ;unfold pY;rw [zD l h2,aD]
  by_cases hc:cX l i<x
  ·rw [cT (by simp only [cX] at hc;rw [dT hc]),aD,cM oQ];have hne:i≠l.length-1:=fun e=>by rw [e] at hc;omega
   exact ih (i+1) aA oQ oQ oQ oQ (by show cX l i≤x;omega)
  ·rw [cF (by simp only [cX] at hc;rw [dF hc])];exact ⟨i,⟨h1,h2⟩,⟨h3,by omega⟩,rfl⟩
theorem Zd (N:Nat) (hN:5000≤N) {x:Int} (hx:0≤x∧x≤65535):∃i,(1≤i∧i<l.length)∧(cX l (i-1)≤x∧x≤cX l i)∧jW N l x=some (seg l i x):=by
 have gK:=h.len;unfold jW
 obtain ⟨r,hr,hx',e⟩:=Zc h N hx (fun i4=>dH (idx l (aC.wrap (i4-1))) fun e3=>
  dH (idx l i4) fun e4=>dH (nz (aC.wrap (e4.1-e3.1))) fun _=>
  dH (some (aC.wrap (e3.2+(aC.wrap (gI (aC.wrap ((aC.wrap (e4.2-e3.2))*(aC.wrap (x-e3.1)))) (aC.wrap (e4.1-e3.1))))))) fun x3=>some x3) (l.length-1) 1 N oQ oQ oQ oQ (by show cX l 0≤x;rw [h.x0];exact hx.1)
 refine ⟨r,hr,hx',e.trans ?_⟩;rw [cM (x:=(r:Int)-1) oQ,show (r:Int)-1=((r-1:Nat):Int) by omega,zD l (show r-1<l.length by omega),zD l (show r<l.length by omega),aD,aD];exact WO h hr hx'
end
theorem aD8 (N:Nat) {W H:Nat} {P:List Px} (hs:oN W H P.length) (pts:List aN) (g:Nat→Px) (hg:∀i p,P[i]? = some p→xZ N p.1 p.2.1 p.2.2 ((i%W:Nat):Int) ((i/W:Nat):Int) pts=some (g i)) (kk:List Px×Int→Option (Int×Int×List Px×Int)):∀(d k aA:Nat),k+d=P.length→d<aA →
  jQ N W P pts kk aA ((gS k).map g++nH (P.length-k) FG,(k:Int))=kk ((gS P.length).map g,(P.length:Int)):=by
 obtain ⟨h1,h2,h3,h4,h5,h6⟩:=uR W H P hs;intro d
 induction d with
 | zero=>
  intro k aA hk hf;obtain ⟨aA,rfl⟩:=kF aA oQ;obtain rfl:k=P.length:=oQ
  unfold jQ;rw [nL,Nat.sub_self,List.replicate_zero,v4]
 | succ d ih=>
  intro k aA hk hf;obtain ⟨aA,rfl⟩:=kF aA oQ;have hlt:k<P.length:=oQ
  obtain ⟨e1,e2⟩:=tdm k (show 0<W by omega);have hq:k/W<H:=Nat.div_lt_of_lt_mul oQ;have hq0:(0:Int)≤((k/W:Nat):Int):=Int.natCast_nonneg _;unfold jQ;rw [p8,dC,f9 hlt,aD,AJ oQ,aD,aD,e1,e2,cM (x:=((k/W:Nat):Int)) oQ];rw [hg k _ (f9 hlt),aD,dC,f9 uW,aD];rw [Iy g FG hlt,aD,cM oQ];exact ih (k+1) aA oQ oQ
theorem aD9 (N:Nat) {W H:Nat} {P:List Px} (hN:5000≤N) (pts:List aN) (hp:p7 W H P=true) (g:Nat→Px) (hg:∀i p,P[i]? = some p→xZ N p.1 p.2.1 p.2.2 ((i%W:Nat):Int) ((i/W:Nat):Int) pts=some (g i)) :
  lN N W H P pts=some ((W:Int),(H:Int),(gS P.length).map g,0):=by
 have hs:=mZ hp;have hl:=An hs;obtain ⟨a,b,l,ht⟩:=AC N W H P hN;rw [hp,aF rfl] at ht;unfold lN;rw [ht,aD,cF rQ,aD,mk_eq oQ,aD,fM];exact aD8 N hs pts g hg _ P.length 0 N oQ oQ
theorem aEa (N:Nat) {W H:Int} {P:List Px} (hN:5000≤N) (pts:List aN) (hp:p7 W H P=false):lN N W H P pts=some (0,0,[],1):=by
 obtain ⟨a,b,l,ht⟩:=AC N W H P hN;rw [hp] at ht;unfold lN;rw [ht]
 rfl
theorem aGR {l:List Pt} (h:pU l) {x:Int} (hx:0≤x∧x≤65535):∃v,yT 8589934592 l x=some v∧jW 8589934592 l x=some v:=by
 obtain ⟨i,a,b,e⟩:=aIZ h 8589934592 oQ hx;obtain ⟨j,a',b',e'⟩:=Zd h 8589934592 oQ hx;exact ⟨_,e,by rw [e',aGQ h a' a b' b]⟩
def onV (l:List Pt) (x:Int):Int:=(yT 8589934592 l x).getD 0
theorem G1 {l:List Pt} (h:pU l) {x:Int} (hx:0≤x∧x≤65535):yT 8589934592 l x=some (onV l x)∧jW 8589934592 l x=some (onV l x):=by
 obtain ⟨v,e,e'⟩:=aGR h hx;unfold onV;rw [e,e'];exact ⟨rfl,rfl⟩
def Iz (l:List Pt) (p:Px):Px:=(onV l p.1,onV l p.2.1,onV l p.2.2)
theorem aKJ {l:List Pt} (h:pU l) {p:Px} (hp:sW p=true) (x y:Int):xZ 8589934592 p.1 p.2.1 p.2.2 x y l=some (Iz l p):=by
 simp only [sW,decide_eq_true_eq] at hp;unfold xZ;rw [(G1 h (show 0≤p.1∧p.1≤65535 by omega)).1,aD,(G1 h (show 0≤p.2.1∧p.2.1≤65535 by omega)).1,aD,(G1 h (show 0≤p.2.2∧p.2.2≤65535 by omega)).1];rfl
theorem aGS {l:List Pt} {b:Bool} (hb:jP 8589934592 l=some b) (hc:b=true↔pU l) (W H:Int) (P:List Px):Dm 8589934592 W H P l =
  some (if b=false then (0,0,[],1) else if p7 W H P=false then (0,0,[],1) else (W,H,(gS P.length).map (fun i=>Iz l (P.getD i FG)),0)):=by
 unfold Dm;rw [hb,aD];cases b
 ·rfl
 have h:=hc.1 rfl;rw [cF rQ];cases hp:p7 W H P
 ·rw [aEa 8589934592 oQ l hp];rfl
 ·have hs:=mZ hp;obtain ⟨W,rfl⟩:∃n:Nat,W=n:=⟨W.toNat,by have:=hs.1;omega⟩
  obtain ⟨H,rfl⟩:∃n:Nat,H=n:=⟨H.toNat,by have:=hs.2.2.1;omega⟩
  rw [aD9 8589934592 oQ l hp (fun i=>Iz l (P.getD i FG)) (fun i p hi=>by rw [aKJ h (Qc hp hi),qG,hi];rfl)]
  rfl
theorem aGT {l:List Pt} (h:pU l) {W H:Int} {P:List Px} (hp:p7 W H P=true) (kk):∀(d k aA:Nat),k+d=P.length→d<aA →
  pS 8589934592 P l kk aA ((gS k).map (fun i=>Iz l (P.getD i FG)),(k:Int))=kk ((gS P.length).map (fun i=>Iz l (P.getD i FG)),(P.length:Int)):=by
 have hl:=An (mZ hp);intro d
 induction d with
 | zero=>
  intro k aA hk hf;obtain ⟨aA,rfl⟩:=kF aA oQ;obtain rfl:k=P.length:=oQ
  unfold pS;rw [nL]
 | succ d ih=>
  intro k aA hk hf;obtain ⟨aA,rfl⟩:=kF aA oQ;have hlt:k<P.length:=oQ
  have hx:=f9 hlt;obtain ⟨p,hpe⟩:∃p,P[k]=p:=⟨_,rfl⟩
  rw [hpe] at hx;have hok:=Qc hp hx;simp only [sW,decide_eq_true_eq] at hok;have hg:P.getD k FG=p:=by rw [qG,hx];rfl
  unfold pS;rw [p8,dC,hx,aD,(G1 h (show 0≤p.1∧p.1≤65535 by omega)).2,aD,(G1 h (show 0≤p.2.1∧p.2.1≤65535 by omega)).2,aD,(G1 h (show 0≤p.2.2∧p.2.2≤65535 by omega)).2,aD];have e:(onV l p.1,onV l p.2.1,onV l p.2.2)=Iz l (P.getD k FG):=by rw [hg];rfl
  rw [e,iQ uW,aD,aD,cM oQ,Q8 (fun i=>Iz l (P.getD i FG))];exact ih (k+1) aA oQ oQ
theorem aGU {l:List Pt} (h:pU l) {W H:Int} {P:List Px} (hp:p7 W H P=true):vC 8589934592 W H P l=some (W,H,(gS P.length).map (fun i=>Iz l (P.getD i FG))):=by
 have hl:=An (mZ hp);unfold vC;exact aGT h hp (fun x=>some (W,H,x.1)) P.length 0 8589934592 oQ oQ
theorem aEb {l:List Pt} {b:Bool} (hb:jP 8589934592 l=some b) (hc:b=true↔pU l) (x:Int):DD 8589934592 l x=some (if b=false then (0,1) else if 0≤x∧x≤65535 then (onV l x,0) else (0,3)):=by
 unfold DD;rw [hb,aD];cases b
 ·rfl
 have h:=hc.1 rfl;rw [cF rQ,aE sQ]
 by_cases h1:x<0
 ·rw [cT (dT h1),aE oQ]
 rw [cF (dF h1)]
 by_cases h2:65535<x
 ·rw [cT (dT h2),aE oQ]
 rw [cF (dF h2),(G1 h oQ).1,aF oQ];rfl
theorem Rj (l:List Pt):∃b,jP 8589934592 l=some b∧iM 8589934592 l=some b∧(b=true↔pU l):=by
 obtain ⟨b,hb,hc⟩:=right_eq 8589934592 l oQ;obtain ⟨b',hb',hc'⟩:=Vc 8589934592 l oQ;have:b'=b:=Bool.eq_iff_iff.2 (hc'.trans hc.symm);exact ⟨b,hb,by rw [hb',this],hc⟩
theorem aEc (N:Nat) {W H:Nat} {P:List Px} (hs:oN W H P.length) (SW SH:Int) (SP:List Px) (SA:Int) (g:Nat→Px) (hg:∀i p,P[i]? = some p→tH N p.1 p.2.1 p.2.2 ((i%W:Nat):Int) ((i/W:Nat):Int) SW SH SP SA=some (g i)) (kk:List Px×Int→Option (Int×Int×List Px×Int)):∀(d k aA:Nat),k+d=P.length→d<aA →
  iC N W P SW SH SP SA kk aA ((gS k).map g++nH (P.length-k) FG,(k:Int))=kk ((gS P.length).map g,(P.length:Int)):=by
 obtain ⟨h1,h2,h3,h4,h5,h6⟩:=uR W H P hs;intro d
 induction d with
 | zero=>
  intro k aA hk hf;obtain ⟨aA,rfl⟩:=kF aA oQ;obtain rfl:k=P.length:=oQ
  unfold iC;rw [nL,Nat.sub_self,List.replicate_zero,v4]
 | succ d ih=>
  intro k aA hk hf;obtain ⟨aA,rfl⟩:=kF aA oQ;have hlt:k<P.length:=oQ
  obtain ⟨e1,e2⟩:=tdm k (show 0<W by omega);have hq:k/W<H:=Nat.div_lt_of_lt_mul oQ;have hq0:(0:Int)≤((k/W:Nat):Int):=Int.natCast_nonneg _;unfold iC;rw [p8,dC,f9 hlt,aD,AJ oQ,aD,aD,e1,e2,cM (x:=((k/W:Nat):Int)) oQ];rw [hg k _ (f9 hlt),aD,dC,f9 uW,aD];rw [Iy g FG hlt,aD,cM oQ];exact ih (k+1) aA oQ oQ
theorem aEd (N:Nat) {W H:Nat} {P:List Px} (hN:5000≤N) (SW SH:Int) (SP:List Px) (SA:Int) (hp:p7 W H P=true) (g:Nat→Px) (hg:∀i p,P[i]? = some p→tH N p.1 p.2.1 p.2.2 ((i%W:Nat):Int) ((i/W:Nat):Int) SW SH SP SA=some (g i)) :
  jR N W H P SW SH SP SA=some ((W:Int),(H:Int),(gS P.length).map g,0):=by
 have hs:=mZ hp;have hl:=An hs;obtain ⟨a,b,l,ht⟩:=AC N W H P hN;rw [hp,aF rfl] at ht;unfold jR;rw [ht,aD,cF rQ,aD,mk_eq oQ,aD,fM];exact aEc N hs SW SH SP SA g hg _ P.length 0 N oQ oQ
theorem aEe (N:Nat) {W H:Int} {P:List Px} (hN:5000≤N) (SW SH:Int) (SP:List Px) (SA:Int) (hp:p7 W H P=false):jR N W H P SW SH SP SA=some (0,0,[],1):=by
 obtain ⟨a,b,l,ht⟩:=AC N W H P hN;rw [hp] at ht;unfold jR;rw [ht]
 rfl
def cl (y:Nat) (dy:Int) (H:Nat):Nat:=(min (max ((y:Int)+dy) 0) ((H:Int)-1)).toNat
theorem T6 {y H:Nat} {dy:Int} (h:1≤H):cl y dy H<H:=by unfold cl;omega
theorem aAD {y H:Nat} {dy:Int} (h:1≤H):min (max ((y:Int)+dy) 0) ((H:Int)-1)=((cl y dy H:Nat):Int):=by unfold cl;omega
theorem aEf {y H:Nat} {dy:Int} (h:1≤H):max 0 (min ((H:Int)-1) ((y:Int)+dy))=((cl y dy H:Nat):Int):=by unfold cl;omega
def nb (P:List Px) (W H x y:Nat) (dy dx:Int):Px:=P.getD (cl y dy H*W+cl x dx W) FG
def wt (dx dy:Int):Int:=(2-dx*dx)*(2-dy*dy)
def Ng (w:Int) (n a:Px):Px:=(a.1+w*n.1,a.2.1+w*n.2.1,a.2.2+w*n.2.2)
def IY (a:Px) (m:Int):Prop:=(0≤a.1∧a.1≤m)∧(0≤a.2.1∧a.2.1≤m)∧(0≤a.2.2∧a.2.2≤m)
theorem aAE {d:Int} (h:-1≤d∧d≤1):0≤d*d∧d*d≤1:=by
 have:d = -1∨d=0∨d=1:=oQ
 rcases this with rfl|rfl|rfl <;> decide
theorem Nh {dx dy:Int} (hx:-1≤dx∧dx≤1) (hy:-1≤dy∧dy≤1):1≤wt dx dy∧wt dx dy≤4:=by
 have h1:dx = -1∨dx=0∨dx=1:=oQ
 have h2:dy = -1∨dy=0∨dy=1:=oQ
 rcases h1 with rfl|rfl|rfl <;> rcases h2 with rfl|rfl|rfl <;> decide
theorem E5 {p:Px} (h:sW p=true):IY p 65535:=by
 simp only [sW,decide_eq_true_eq] at h;unfold IY;omega
theorem Ze {w n:Int} (hw:1≤w∧w≤4) (hn:0≤n∧n≤65535):0≤w*n∧w*n≤262140:=by
 have h1:=Int.mul_nonneg (show 0≤w by omega) hn.1;have h2:=KH (a:=4) (b:=65535) (x:=w) (y:=n) oQ oQ
 omega
theorem Jh {w m:Int} {n a:Px} (hw:1≤w∧w≤4) (hn:IY n 65535) (ha:IY a m):IY (Ng w n a) (m+262140):=by
 obtain ⟨n1,n2,n3⟩:=hn;obtain ⟨a1,a2,a3⟩:=ha;have h1:=Ze hw n1;have h2:=Ze hw n2;have h3:=Ze hw n3;unfold IY Ng
 dsimp only
 omega
def J7 (P:List Px) (W H x y:Nat) (dy:Int) (a:Px):Px:=Ng (wt 1 dy) (nb P W H x y dy 1) (Ng (wt 0 dy) (nb P W H x y dy 0) (Ng (wt (-1) dy) (nb P W H x y dy (-1)) a))
def Ni (P:List Px) (W H x y:Nat):Px:=J7 P W H x y 1 (J7 P W H x y 0 (J7 P W H x y (-1) (0,0,0)))
def sh1 (fK v Kv:Int):Int:=max 0 (min (aC.wrap (v+jN .i64 (aC.wrap (aC.wrap (v-jN .i64 Kv 4)*fK)) 8)) 65535)
def shP (fK:Int) (p s:Px):Px:=(sh1 fK p.1 s.1,sh1 fK p.2.1 s.2.1,sh1 fK p.2.2 s.2.2)
section
variable {W H:Nat} {P:List Px} (hp:p7 W H P=true)
include hp
theorem HM:1≤W∧W≤64∧1≤H∧H≤64∧P.length=W*H∧W*H≤4096:=uR W H P (mZ hp)
theorem aEg {i:Nat} (h:i<W*H):idx P (i:Int)=some (P.getD i FG)∧sW (P.getD i FG)=true:=by
 have hl:=(HM hp).2.2.2.2.1;have hx:P[i]? = some P[i]:=f9 oQ;have hg:P.getD i FG=P[i]:=by rw [qG,hx];rfl
 rw [dC,hg,hx];exact ⟨rfl,Qc hp hx⟩
theorem Nj {x y:Nat} (dy dx:Int):idx P (((cl y dy H*W+cl x dx W:Nat):Nat):Int)=some (nb P W H x y dy dx)∧sW (nb P W H x y dy dx)=true:=by
 obtain ⟨h1,h2,h3,h4,h5,h6⟩:=HM hp;exact aEg hp (mL (T6 h1) (T6 h3))
theorem Ji {x y:Nat} {dy m:Int} (hy:-1≤dy∧dy≤1) {a:Px} (ha:IY a m):IY (J7 P W H x y dy a) (m+786420):=by
 have h1:=Jh (Nh (dx:=-1) oQ hy) (E5 (Nj (x:=x) (y:=y) hp dy (-1)).2) ha;have h2:=Jh (Nh (dx:=0) oQ hy) (E5 (Nj (x:=x) (y:=y) hp dy 0).2) h1;have h3:=Jh (Nh (dx:=1) oQ hy) (E5 (Nj (x:=x) (y:=y) hp dy 1).2) h2;unfold J7;unfold IY at h3 ⊢
 omega
theorem aGV {x y:Nat}:IY (Ni P W H x y) 2359260:=by
 have h0:IY ((0,0,0):Px) 0:=by unfold IY;simp
 have h1:=Ji (x:=x) (y:=y) hp (dy:=-1) oQ h0;have h2:=Ji (x:=x) (y:=y) hp (dy:=0) oQ h1;have h3:=Ji (x:=x) (y:=y) hp (dy:=1) oQ h2;exact h3
theorem OL (N aA:Nat) {x y:Nat} (hx:x<W) (hy:y<H) {dx dy:Int} (hdx:-1≤dx∧dx≤1) (hdy:-1≤dy∧dy≤1) (kk) {a:Px} (ha:IY a 100000000) {dx':Int} (hd':dx'=dx+1) :
  oB N x y W H P dy kk (aA+1) (a.1,a.2.1,a.2.2,dx)=oB N x y W H P dy kk aA ((Ng (wt dx dy) (nb P W H x y dy dx) a).1,(Ng (wt dx dy) (nb P W H x y dy dx) a).2.1,(Ng (wt dx dy) (nb P W H x y dy dx) a).2.2,dx'):=by
 subst hd';obtain ⟨h1,h2,h3,h4,h5,h6⟩:=HM hp;obtain ⟨n1,n2⟩:=Nj (x:=x) (y:=y) hp dy dx;obtain ⟨b1,b2,b3⟩:=E5 n2;obtain ⟨a1,a2,a3⟩:=ha;have hw:=Nh hdx hdy;have m1:=Ze hw b1;have m2:=Ze hw b2;have m3:=Ze hw b3;have q1:=aAE hdx;have q2:=aAE hdy;have c1:=T6 (y:=y) (dy:=dy) h3;have c2:=T6 (y:=x) (dy:=dx) h1;have c3:=mL c2 c1;have hwt:aC.wrap ((2-dx*dx)*(2-dy*dy))=wt dx dy:=cM (by unfold wt at hw;omega)
 conv=>lhs;unfold oB
 rw [cT (dT hdx.2),cM (x:=(y:Int)+dy) oQ,cM (x:=(H:Int)-1) oQ,cM (x:=(x:Int)+dx) oQ,cM (x:=(W:Int)-1) oQ,aAD h3,aAD h1];rw [cM (x:=((cl y dy H:Nat):Int)*(W:Int)) (by rw [←vA];omega),←vA,←Int.natCast_add,cM (x:=((cl y dy H*W+cl x dx W:Nat):Int)) oQ,aD,n1,aD];rw [cM (x:=dx*dx) oQ,cM (x:=dy*dy) oQ,cM (x:=2-dx*dx) oQ,cM (x:=2-dy*dy) oQ,hwt,aD,cM (x:=dx+1) oQ,aD];rw [cM (x:=wt dx dy*(nb P W H x y dy dx).1) oQ,cM (x:=wt dx dy*(nb P W H x y dy dx).2.1) oQ,cM (x:=wt dx dy*(nb P W H x y dy dx).2.2) oQ,cM (x:=a.1+_) oQ,cM (x:=a.2.1+_) oQ,cM (x:=a.2.2+_) oQ]
 rfl
theorem aEh (N aA:Nat) {x y:Nat} (hx:x<W) (hy:y<H) {dy:Int} (hdy:-1≤dy∧dy≤1) (kk) {a:Px} (ha:IY a 50000000) :
  oB N x y W H P dy kk (aA+4) (a.1,a.2.1,a.2.2,-1)=kk ((J7 P W H x y dy a).1,(J7 P W H x y dy a).2.1,(J7 P W H x y dy a).2.2,2):=by
 have b0:IY a 100000000:=by unfold IY at ha ⊢;omega
 have b1:=Jh (Nh (dx:=-1) oQ hdy) (E5 (Nj (x:=x) (y:=y) hp dy (-1)).2) ha;have b2:=Jh (Nh (dx:=0) oQ hdy) (E5 (Nj (x:=x) (y:=y) hp dy 0).2) b1;have up:∀{c:Px} {m:Int},IY c m→m≤100000000→IY c 100000000:=fun h hm=>by unfold IY at h ⊢;omega
 rw [OL hp N (aA+3) hx hy oQ hdy kk b0 (dx':=0) oQ,OL hp N (aA+2) hx hy (dx:=0) oQ hdy kk (up b1 oQ) (dx':=1) oQ,OL hp N (aA+1) hx hy (dx:=1) oQ hdy kk (up b2 oQ) (dx':=2) oQ];unfold oB;rw [nL]
 rfl
theorem aEi (N:Nat) {x y:Nat} (hx:x<W) (hy:y<H) (kk) :
  oC 8589934592 x y W H P kk 8589934592 (0,0,0,-1)=kk ((Ni P W H x y).1,(Ni P W H x y).2.1,(Ni P W H x y).2.2,2):=by
 have h0:IY ((0,0,0):Px) 0:=by unfold IY;simp
 have h1:=Ji (x:=x) (y:=y) hp (dy:=-1) oQ h0;have h2:=Ji (x:=x) (y:=y) hp (dy:=0) oQ h1;have up:∀{a:Px} {m:Int},IY a m→m≤50000000→IY a 50000000:=fun h hm=>by unfold IY at h ⊢;omega
 have one:∀(aA:Nat) (dy dy':Int),(-1≤dy∧dy≤1)→dy'=dy+1→∀(a:Px),IY a 50000000→oC 8589934592 x y W H P kk (aA+1) (a.1,a.2.1,a.2.2,dy)=oC 8589934592 x y W H P kk aA ((J7 P W H x y dy a).1,(J7 P W H x y dy a).2.1,(J7 P W H x y dy a).2.2,dy'):=by
  intro aA dy dy' hd hd' a ha;subst hd'
  conv=>lhs;unfold oC
  rw [cT (dT hd.2)];refine (aEh hp 8589934592 8589934588 hx hy hd _ ha).trans ?_
  dsimp only
  rw [cM (x:=dy+1) oQ,aD]
 refine (one 8589934591 (-1) 0 oQ oQ (0,0,0) (up h0 oQ)).trans ?_;refine (one 8589934590 0 1 oQ oQ _ (up h1 oQ)).trans ?_;refine (one 8589934589 1 2 oQ oQ _ (up h2 oQ)).trans ?_;unfold oC
 dsimp only
 rw [nL]
 rfl
theorem aGW (fK:Int) {x y:Nat} (hx:x<W) (hy:y<H) (p:Px):tH 8589934592 p.1 p.2.1 p.2.2 x y W H P fK=some (shP fK p (Ni P W H x y)):=by
 unfold tH;refine (aEi hp 8589934592 hx hy _).trans ?_
 rfl
def shF (fK:Int) (W H:Nat) (P:List Px) (x y:Nat):Px:=shP fK (GY P W x y) (Ni P W H x y)
omit hp in
theorem Zf (W H:Int) (P:List Px) (fK:Int):y9 8589934592 W H P fK=some (if p7 W H P=false then (0,0,[],1) else if 0≤fK∧fK≤1024 then (W,H,Id W.toNat H.toNat (shF fK W.toNat H.toNat P),0) else (0,0,[],3)):=by
 unfold y9;cases hp:p7 W H P
 ·rw [aEe 8589934592 oQ W H P fK hp];rfl
 ·have hs:=mZ hp;obtain ⟨W,rfl⟩:∃n:Nat,W=n:=⟨W.toNat,by have:=hs.1;omega⟩
  obtain ⟨H,rfl⟩:∃n:Nat,H=n:=⟨H.toNat,by have:=hs.2.2.1;omega⟩
  obtain ⟨h1,h2,h3,h4,h5,h6⟩:=HM hp
  rw [aEd 8589934592 oQ W H P fK hp (fun i=>shF fK W H P (i%W) (i/W)) (fun i p hi=>by
   have hlt:=(List.getElem?_eq_some_iff.1 hi).1;rw [h5] at hlt;obtain ⟨l1,l2,_⟩:=kA hlt;rw [aGW hp fK l1 l2 p];show _=some (shP fK (P.getD (i/W*W+i%W) FG) _)
   rw [Nat.div_add_mod',qG,hi];rfl)]
  rw [aD]
  dsimp only
  rw [cT rQ,aE sQ,h5,fM,fM]
  by_cases a1:fK<0
  ·rw [cT (dT a1),aE oQ]
  rw [cF (dF a1)]
  by_cases a2:1024<fK
  ·rw [cT (dT a2),aE oQ]
  rw [cF (dF a2),aF oQ]
  rfl
end
theorem Vd (N:Nat) {fK v Kv:Int} (ha:0≤fK∧fK≤1024) (hv:0≤v∧v≤65535) (hb:0≤Kv∧Kv≤2359260) :
  (dH (bT N (aC.wrap (aC.wrap (v-aC.wrap (gI Kv 16))*fK)) 256) fun r=>dD N (aC.wrap (v+r)))=some (sh1 fK v Kv):=by
 have h16:gI Kv 16=Kv/16:=Int.tdiv_eq_ediv_of_nonneg hb.1;unfold sh1;rw [h16,aPh,cM (x:=Kv/16) oQ,cM (x:=v-Kv/16) oQ];have hm:=KH (a:=2359260) (b:=1024) (x:=v-Kv/16) (y:=fK) oQ oQ;rw [cM (x:=(v-Kv/16)*fK) oQ,Jg N oQ oQ,aD,aIW]
 rfl
theorem aKK (N aA:Nat) (o:Int) (r s:Px) (kk):oV N o r s.1 s.2.1 s.2.2 kk (aA+4) (0,0,0,0) =
  dH (bT N (aC.wrap (aC.wrap (r.1-aC.wrap (gI s.1 16))*o)) 256) fun a=>
  dH (dD N (aC.wrap (r.1+a))) fun a'=>
  dH (bT N (aC.wrap (aC.wrap (r.2.1-aC.wrap (gI s.2.1 16))*o)) 256) fun b=>
  dH (dD N (aC.wrap (r.2.1+b))) fun b'=>
  dH (bT N (aC.wrap (aC.wrap (r.2.2-aC.wrap (gI s.2.2 16))*o)) 256) fun c=>
  dH (dD N (aC.wrap (r.2.2+c))) fun c'=>kk (a',b',c',3):=aQ
theorem Zg (N aA:Nat) {dx dy:Int} (hdx:-1≤dx∧dx≤1) (hdy:-1≤dy∧dy≤1) (n a:Px) (kk) :
  mJ N dy dx n kk (aA+4) (a.1,a.2.1,a.2.2,0)=kk (aC.wrap (a.1+aC.wrap (aC.wrap (n.1*(2-dx*dx))*(2-dy*dy))),aC.wrap (a.2.1+aC.wrap (aC.wrap (n.2.1*(2-dx*dx))*(2-dy*dy))),aC.wrap (a.2.2+aC.wrap (aC.wrap (n.2.2*(2-dx*dx))*(2-dy*dy))),3):=by
 have h1:dx = -1∨dx=0∨dx=1:=oQ
 have h2:dy = -1∨dy=0∨dy=1:=oQ
 rcases h1 with rfl|rfl|rfl <;> rcases h2 with rfl|rfl|rfl <;> (show _=_) <;> kernel_rfl
theorem aKL (N aA:Nat) {dx dy:Int} (hdx:-1≤dx∧dx≤1) (hdy:-1≤dy∧dy≤1) {n a:Px} (hn:IY n 65535) (ha:IY a 100000000) (kk) :
  mJ N dy dx n kk (aA+4) (a.1,a.2.1,a.2.2,0)=kk ((Ng (wt dx dy) n a).1,(Ng (wt dx dy) n a).2.1,(Ng (wt dx dy) n a).2.2,3):=by
 obtain ⟨n1,n2,n3⟩:=hn;obtain ⟨a1,a2,a3⟩:=ha;have raw:=Zg N aA hdx hdy n a kk;have hw:=Nh hdx hdy;have q1:=aAE hdx;have q2:=aAE hdy
 have part:∀m b:Int,(0≤m∧m≤65535)→(0≤b∧b≤100000000)→aC.wrap (b+aC.wrap (aC.wrap (m*(2-dx*dx))*(2-dy*dy)))=b+wt dx dy*m:=by
  intro m b hm hb;have e1:=KH (a:=65535) (b:=2) (x:=m) (y:=2-dx*dx) oQ oQ;have e2:m*(2-dx*dx)*(2-dy*dy)=wt dx dy*m:=by unfold wt;rw [Int.mul_assoc,Int.mul_comm]
  have e3:=Ze hw hm;rw [cM (x:=m*(2-dx*dx)) oQ,e2,cM (x:=wt dx dy*m) oQ,cM oQ]
 rw [raw,part _ _ n1 a1,part _ _ n2 a2,part _ _ n3 a3]
 rfl
section
variable {W H:Nat} {P:List Px} (hp:p7 W H P=true)
include hp
theorem Rk (aA:Nat) {x y:Nat} (hx:x<W) (hy:y<H) {dx dy dx':Int} (hdx:-1≤dx∧dx≤1) (hdy:-1≤dy∧dy≤1) (kk) {a:Px} (ha:IY a 100000000) (hd':dx'=dx+1) :
  kT 8589934592 W H P y x dy kk (aA+1) (a.1,a.2.1,a.2.2,dx)=kT 8589934592 W H P y x dy kk aA ((Ng (wt dx dy) (nb P W H x y dy dx) a).1,(Ng (wt dx dy) (nb P W H x y dy dx) a).2.1,(Ng (wt dx dy) (nb P W H x y dy dx) a).2.2,dx'):=by
 subst hd';obtain ⟨h1,h2,h3,h4,h5,h6⟩:=HM hp;obtain ⟨n1,n2⟩:=Nj (x:=x) (y:=y) hp dy dx;have c1:=T6 (y:=y) (dy:=dy) h3;have c2:=T6 (y:=x) (dy:=dx) h1;have c3:=mL c2 c1
 conv=>lhs;unfold kT
 rw [cT (dT hdx.2),cM (x:=(y:Int)+dy) oQ,cM (x:=(H:Int)-1) oQ,cM (x:=(x:Int)+dx) oQ,cM (x:=(W:Int)-1) oQ,aEf h3,aEf h1];rw [cM (x:=((cl y dy H:Nat):Int)*(W:Int)) (by rw [←vA];omega),←vA,←Int.natCast_add,cM (x:=((cl y dy H*W+cl x dx W:Nat):Int)) oQ,aD,n1,aD];unfold j6;rw [aD];refine (aKL 8589934592 8589934588 hdx hdy (n:=nb P W H x y dy dx) (E5 n2) ha _).trans ?_
 dsimp only
 rw [aD,cM (x:=dx+1) oQ]
theorem aGX (aA:Nat) {x y:Nat} (hx:x<W) (hy:y<H) {dy:Int} (hdy:-1≤dy∧dy≤1) (kk) {a:Px} (ha:IY a 50000000) :
  kT 8589934592 W H P y x dy kk (aA+4) (a.1,a.2.1,a.2.2,-1)=kk ((J7 P W H x y dy a).1,(J7 P W H x y dy a).2.1,(J7 P W H x y dy a).2.2,2):=by
 have b0:IY a 100000000:=by unfold IY at ha ⊢;omega
 have b1:=Jh (Nh (dx:=-1) oQ hdy) (E5 (Nj (x:=x) (y:=y) hp dy (-1)).2) ha;have b2:=Jh (Nh (dx:=0) oQ hdy) (E5 (Nj (x:=x) (y:=y) hp dy 0).2) b1;have up:∀{c:Px} {m:Int},IY c m→m≤100000000→IY c 100000000:=fun h hm=>by unfold IY at h ⊢;omega
 rw [Rk hp (aA+3) hx hy oQ hdy kk b0 (dx':=0) oQ,Rk hp (aA+2) hx hy (dx:=0) oQ hdy kk (up b1 oQ) (dx':=1) oQ,Rk hp (aA+1) hx hy (dx:=1) oQ hdy kk (up b2 oQ) (dx':=2) oQ];unfold kT;rw [nL]
 rfl
theorem aGY {x y:Nat} (hx:x<W) (hy:y<H) (kk) :
  kU 8589934592 W H P y x kk 8589934592 (0,0,0,-1)=kk ((Ni P W H x y).1,(Ni P W H x y).2.1,(Ni P W H x y).2.2,2):=by
 have h0:IY ((0,0,0):Px) 0:=by unfold IY;simp
 have h1:=Ji (x:=x) (y:=y) hp (dy:=-1) oQ h0;have h2:=Ji (x:=x) (y:=y) hp (dy:=0) oQ h1;have up:∀{a:Px} {m:Int},IY a m→m≤50000000→IY a 50000000:=fun h hm=>by unfold IY at h ⊢;omega
 have one:∀(aA:Nat) (dy dy':Int),(-1≤dy∧dy≤1)→dy'=dy+1→∀(a:Px),IY a 50000000→kU 8589934592 W H P y x kk (aA+1) (a.1,a.2.1,a.2.2,dy)=kU 8589934592 W H P y x kk aA ((J7 P W H x y dy a).1,(J7 P W H x y dy a).2.1,(J7 P W H x y dy a).2.2,dy'):=by
  intro aA dy dy' hd hd' a ha;subst hd'
  conv=>lhs;unfold kU
  rw [cT (dT hd.2)];refine (aGX hp 8589934588 hx hy hd _ ha).trans ?_
  dsimp only
  rw [cM (x:=dy+1) oQ,aD]
 refine (one 8589934591 (-1) 0 oQ oQ (0,0,0) (up h0 oQ)).trans ?_;refine (one 8589934590 0 1 oQ oQ _ (up h1 oQ)).trans ?_;refine (one 8589934589 1 2 oQ oQ _ (up h2 oQ)).trans ?_;unfold kU;rw [nL]
 rfl
theorem aKM {fK:Int} (ha:0≤fK∧fK≤1024) (kk) {y:Nat} (hy:y<H):∀(d x aA:Nat),x+d=W→d<aA →
  oW 8589934592 W H P fK y kk aA (pre W (shF fK W H P) (y*W+x),(x:Int))=kk (pre W (shF fK W H P) ((y+1)*W+0),(W:Int)):=by
 obtain ⟨h1,h2,h3,h4,h5,h6⟩:=HM hp;intro d
 induction d with
 | zero=>
  intro x aA hk hf;obtain ⟨aA,rfl⟩:=kF aA oQ;obtain rfl:x=W:=oQ
  unfold oW;rw [nL,LA]
 | succ d ih=>
  intro x aA hk hf;obtain ⟨aA,rfl⟩:=kF aA oQ;have hx:x<W:=oQ
  have hpl:=mL hx hy;obtain ⟨g1,g2⟩:=aEg hp hpl;have hs:=aGV (x:=x) (y:=y) hp;obtain ⟨s1,s2,s3⟩:=hs;obtain ⟨p1,p2,p3⟩:=E5 g2;unfold oW;rw [p8,cM (x:=(y:Int)*(W:Int)) (by rw [←vA];omega),←vA,←Int.natCast_add,cM (x:=((y*W+x:Nat):Int)) oQ,g1,aD];unfold j6;rw [aD];refine (aGY hp hx hy _).trans ?_
  dsimp only
  refine (aKK 8589934592 8589934588 fK (GY P W x y) (Ni P W H x y) _).trans ?_;rw [Q7,Vd 8589934592 (v:=(GY P W x y).1) ha p1 s1,aD,Q7,Vd 8589934592 (v:=(GY P W x y).2.1) ha p2 s2,aD,Q7,Vd 8589934592 (v:=(GY P W x y).2.2) ha p3 s3,aD];unfold j3
  dsimp only
  have e:(sh1 fK (GY P W x y).1 (Ni P W H x y).1,sh1 fK (GY P W x y).2.1 (Ni P W H x y).2.1,sh1 fK (GY P W x y).2.2 (Ni P W H x y).2.2)=shF fK W H P x y:=rfl;rw [aD,e,iQ (by rw [Jf];simp;omega),aD,aD,cM oQ,←Ix (shF fK W H P) y hx];exact ih (x+1) aA oQ oQ
theorem aKN {fK:Int} (ha:0≤fK∧fK≤1024) (kk):∀(d y aA:Nat),y+d=H→d<aA →
  oX 8589934592 W H P fK kk aA (pre W (shF fK W H P) (y*W+0),(y:Int))=kk (pre W (shF fK W H P) (H*W+0),(H:Int)):=by
 obtain ⟨h1,h2,h3,h4,h5,h6⟩:=HM hp;intro d
 induction d with
 | zero=>
  intro y aA hk hf;obtain ⟨aA,rfl⟩:=kF aA oQ;obtain rfl:y=H:=oQ
  unfold oX;rw [nL]
 | succ d ih=>
  intro y aA hk hf;obtain ⟨aA,rfl⟩:=kF aA oQ;unfold oX;rw [p8];refine (aKM hp ha _ (y:=y) oQ W 0 8589934592 oQ oQ).trans ?_
  dsimp only
  rw [aD,cM oQ];exact ih (y+1) aA oQ oQ
theorem aEj {fK:Int} (ha:0≤fK∧fK≤1024):uQ 8589934592 W H P fK=some ((W:Int),(H:Int),Id W H (shF fK W H P)):=by
 obtain ⟨h1,h2,h3,h4,h5,h6⟩:=HM hp;unfold uQ;have:=aKN hp ha (fun x:List Px×Int=>some ((W:Int),(H:Int),x.1)) H 0 8589934592 oQ oQ;simp only [Nat.zero_mul,Nat.add_zero,pre,List.range_zero,List.map_nil] at this;refine this.trans ?_;rw [Id,oA]
end
def qQq (lo hi n:Int):Bool:=decide (lo≤n∧n≤hi)
theorem aMy (N:Nat) (s:List Int) (lo hi:Int) (hl:s.length≤4096):∀(d k aA:Nat),k+d=s.length→d<aA →
  ∃r,eS N s lo hi (fun _=>some (-1)) aA (k:Int)=some r∧decide (0≤r) = !((s.drop k).all (qQq lo hi)):=by
 intro d
 induction d with
 | zero=>
  intro k aA hk hf;obtain ⟨aA,rfl⟩:=kF aA oQ;obtain rfl:k=s.length:=oQ
  unfold eS;rw [nL];exact ⟨_,rfl,by simp⟩
 | succ d ih=>
  intro k aA hk hf;obtain ⟨aA,rfl⟩:=kF aA oQ;have hlt:k<s.length:=oQ
  unfold eS HI;rw [p8,dC,f9 hlt,aD,zC hlt,tK]
  by_cases h1:s[k]<lo
  ·rw [cT (dT h1),aD,cT rQ];refine ⟨_,rfl,?_⟩;have:qQq lo hi s[k]=false:=dF oQ;rw [this,dT oQ];rfl
  rw [cF (dF h1),aD]
  by_cases h2:hi<s[k]
  ·rw [cT (dT h2)];refine ⟨_,rfl,?_⟩;have:qQq lo hi s[k]=false:=dF oQ;rw [this,dT oQ];rfl
  rw [cF (dF h2),cM oQ];have:qQq lo hi s[k]=true:=dT oQ;rw [this,tF];exact ih (k+1) aA oQ oQ
theorem Jj (lo hi:Int) (s:List Int) (hl:s.length≤4096):rX 8589934592 lo hi s=some (s.all (qQq lo hi)):=by
 obtain ⟨r,hr,hd⟩:=aMy 8589934592 s lo hi hl s.length 0 8589934592 oQ oQ;unfold rX kE lH;rw [show (0:Int)=((0:Nat):Int) from rfl] ;rw [hr,aD,aD];rw [List.drop_zero] at hd;have hd':decide (((0:Nat):Int)≤r) = !(s.all (qQq lo hi)):=hd;rw [hd',Bool.not_not]
theorem aEk {W H:Int} (hW:-1000≤W∧W≤1000) (hH:-1000≤H∧H≤1000) (x y:Int):AZ 8589934592 x y W H=some (!(gX W H (x,y))):=by
 unfold AZ;rw [cM oQ,cM oQ,Jj _ _ _ sQ,aD,Jj _ _ _ sQ];simp only [tK,List.all_nil,Bool.and_true]
 by_cases h1:0≤x∧x≤W-1
 ·have e1:qQq 0 (W-1) x=true:=dT h1;rw [e1,cF rQ,aD]
  congr 2
  unfold gX qQq;rw [dT (show (0:Int)≤x by omega),dT (show x<W by omega),tF,tF]
  by_cases h2:0≤y∧y≤H-1
  ·rw [dT h2,dT (show (0:Int)≤y by omega),dT (show y<H by omega)];rfl
  ·rw [dF h2]
   by_cases h3:0≤y
   ·rw [dF (show ¬y<H by omega)];simp
   ·rw [dF h3];rfl
 ·have e1:qQq 0 (W-1) x=false:=dF h1;rw [e1,cT rQ]
  congr 1
  unfold gX
  by_cases h3:0≤x
  ·rw [dF (show ¬x<W by omega)];simp
  ·rw [dF h3];rfl
theorem aEl (s:List aN) {W H:Int} (hW:-1000≤W∧W≤1000) (hH:-1000≤H∧H≤1000) (hl:s.length≤4096):∀(d k aA:Nat),k+d=s.length→d<aA →
  ∃r,cO 8589934592 s W H (fun _=>some (-1)) aA (k:Int)=some r∧decide (0≤r) = !((s.drop k).all (gX W H)):=by
 intro d
 induction d with
 | zero=>
  intro k aA hk hf;obtain ⟨aA,rfl⟩:=kF aA oQ;obtain rfl:k=s.length:=oQ
  unfold cO;rw [nL];exact ⟨_,rfl,by simp⟩
 | succ d ih=>
  intro k aA hk hf;obtain ⟨aA,rfl⟩:=kF aA oQ;have hlt:k<s.length:=oQ
  unfold cO;rw [p8,dC,f9 hlt,aD,zC hlt,tK,aEk hW hH,aD];cases h:gX W H s[k]
  ·rw [cT rQ];refine ⟨_,rfl,?_⟩;rw [dT oQ];rfl
  ·rw [cF rQ,cM oQ,tF];exact ih (k+1) aA oQ oQ
theorem T7 (s:List aN) {W H:Int} (hW:-1000≤W∧W≤1000) (hH:-1000≤H∧H≤1000) (hl:s.length≤4096):BM 8589934592 s W H=some (s.all (gX W H)):=by
 obtain ⟨r,hr,hd⟩:=aEl s hW hH hl s.length 0 8589934592 oQ oQ;have hr':cO 8589934592 s W H (fun _=>some (-1)) 8589934592 0=some r:=hr;unfold BM fJ f7;rw [hr',aD,aD,hd,List.drop_zero,Bool.not_not]
theorem Zh (s:List aN) {W H:Int} (hW:-1000≤W∧W≤1000) (hH:-1000≤H∧H≤1000) (hl:s.length≤4096):∀(d k aA:Nat),k+d=s.length→d<aA →
  mT 8589934592 s W H (fun _=>some true) aA (k:Int)=some ((s.drop k).all (gX W H)):=by
 intro d
 induction d with
 | zero=>
  intro k aA hk hf;obtain ⟨aA,rfl⟩:=kF aA oQ;obtain rfl:k=s.length:=oQ
  unfold mT;rw [nL]
  simp
 | succ d ih=>
  intro k aA hk hf;obtain ⟨aA,rfl⟩:=kF aA oQ;have hlt:k<s.length:=oQ
  unfold mT;rw [p8,dC,f9 hlt,aD,aD,aD,zC hlt,tK,cM (x:=W-1) oQ,cM (x:=H-1) oQ,sU,aD,sU,aD]
  by_cases h1:0≤s[k].1∧s[k].1≤W-1
  ·rw [cF (by rw [dT h1];rfl)]
   by_cases h2:0≤s[k].2∧s[k].2≤H-1
   ·rw [cF (by rw [dT h2];rfl),cM oQ]
    have:gX W H s[k]=true:=by
     unfold gX;simp only [o9,decide_eq_true_eq];omega
    rw [this,tF];exact ih (k+1) aA oQ oQ
   ·rw [cT (by rw [dF h2];rfl)]
    have:gX W H s[k]=false:=by
     unfold gX;simp only [Bool.and_eq_false_iff,decide_eq_false_iff_not];omega
    rw [this];rfl
  ·rw [cT (by rw [dF h1];rfl)]
   have:gX W H s[k]=false:=by
    unfold gX;simp only [Bool.and_eq_false_iff,decide_eq_false_iff_not];omega
   rw [this];rfl
theorem Rl (s:List aN) {W H:Int} (hW:-1000≤W∧W≤1000) (hH:-1000≤H∧H≤1000) (hl:s.length≤4096):sL 8589934592 s W H=some (s.all (gX W H)):=by
 have:=Zh s hW hH hl s.length 0 8589934592 oQ oQ;rw [List.drop_zero] at this;exact this
section
variable (ph b0 b1 b2 b3 w:Int) (sp:List aN) (g0 g1 g2 m0 m1 m2 m3 m4 m5 m6 m7 m8:Int) (cv:List aN) (am:Int)
def zP:Bool:=qQq 0 3 ph&&(qQq 1 65535 w&&([b0,b1,b2,b3].all (qQq 0 (w-1))&&(decide (sp.length≤64)&&(sp.all (gX 64 64)&&([g0,g1,g2].all (qQq 0 65535)&&(Dh m0 m1 m2 m3 m4 m5 m6 m7 m8&&qQq 0 1024 am))))))
theorem Nk {b:Bool} (hb:jP 8589934592 cv=some b) (hc:b=true↔pU cv):xI 8589934592 ph b0 b1 b2 b3 w sp g0 g1 g2 m0 m1 m2 m3 m4 m5 m6 m7 m8 cv am=some (if zP ph b0 b1 b2 b3 w sp g0 g1 g2 m0 m1 m2 m3 m4 m5 m6 m7 m8 am=false then 3 else if b=false then 1 else 0):=by
 unfold xI zP;rw [Jj _ _ _ sQ,aD];simp only [tK,List.all_nil,Bool.and_true];cases h1:qQq 0 3 ph
 ·rfl
 rw [cF rQ,Jj _ _ _ sQ,aD];simp only [tK,List.all_nil,Bool.and_true,tF];cases h2:qQq 1 65535 w
 ·rfl
 have h2':1≤w∧w≤65535:=bW h2;rw [cF rQ,cM oQ,Jj _ _ _ sQ,aD];simp only [tK,List.all_nil,Bool.and_true,tF];cases h3:(qQq 0 (w-1) b0&&(qQq 0 (w-1) b1&&(qQq 0 (w-1) b2&&qQq 0 (w-1) b3)))
 ·rfl
 rw [cF rQ]
 by_cases h4:sp.length≤64
 rotate_left
 ·rw [p8,dF h4];rfl
 rw [nL,dT h4,T7 sp oQ oQ oQ,aD];simp only [tF];cases h5:sp.all (gX 64 64)
 ·rfl
 rw [cF rQ,Jj _ _ _ sQ,aD];simp only [tK,List.all_nil,Bool.and_true,tF];cases h6:(qQq 0 65535 g0&&(qQq 0 65535 g1&&qQq 0 65535 g2))
 ·rfl
 rw [cF rQ,Jj _ _ _ sQ,aD,show [m0,m1,m2,m3,m4,m5,m6,m7,m8].all (qQq (-32768) 32768)=Dh m0 m1 m2 m3 m4 m5 m6 m7 m8 from rfl];simp only [tF];cases h7:Dh m0 m1 m2 m3 m4 m5 m6 m7 m8
 ·rfl
 rw [cF rQ,Jj _ _ _ sQ,aD];simp only [tK,List.all_nil,Bool.and_true,tF];cases h8:qQq 0 1024 am
 ·rfl
 rw [cF rQ,aEb hb hc 0,aD]
 cases b <;> rfl
theorem aBX (hw:1≤w∧w≤65535) (kk:Int→Option Int):eR 8589934592 b0 b1 b2 b3 w kk 8589934592 0=if [b0,b1,b2,b3].all (qQq 0 (w-1)) then kk 4 else some 3:=by
 have one:∀(aA:Nat) (i:Nat) (b:Int),i<4→idx [b0,b1,b2,b3] (i:Int)=some b→eR 8589934592 b0 b1 b2 b3 w kk (aA+1) (i:Int)=if qQq 0 (w-1) b then eR 8589934592 b0 b1 b2 b3 w kk aA ((i+1:Nat):Int) else some 3:=fun aA i b hi hx=>by
  conv=>lhs;unfold eR
  rw [p8,OJ oQ,aD,hx,aD,cM (x:=w-1) oQ,sU,aD,cM oQ,aD,show decide (0≤b∧b≤w-1)=qQq 0 (w-1) b from rfl]
  cases qQq 0 (w-1) b <;> rfl
 have h0:=one 8589934591 0 b0 aL rfl;have h1:=one 8589934590 1 b1 aL rfl;have h2:=one 8589934589 2 b2 aL rfl;have h3:=one 8589934588 3 b3 aL rfl
 have h4:eR 8589934592 b0 b1 b2 b3 w kk 8589934588 ((3+1:Nat):Int)=kk 4:=by
  show eR 8589934592 b0 b1 b2 b3 w kk (8589934587+1) 4=kk 4;unfold eR;rw [cF aL]
 refine h0.trans ?_;simp only [tK,List.all_nil,Bool.and_true];cases qQq 0 (w-1) b0
 ·rfl
 refine h1.trans ?_;cases qQq 0 (w-1) b1
 ·rfl
 refine h2.trans ?_;cases qQq 0 (w-1) b2
 ·rfl
 refine h3.trans ?_;cases qQq 0 (w-1) b3
 ·rfl
 exact h4
theorem aEm (kk:Int→Option Int):eQ 8589934592 g0 g1 g2 kk 8589934592 0=if [g0,g1,g2].all (qQq 0 65535) then kk 3 else some 3:=by
 have one:∀(aA:Nat) (i:Nat) (b:Int),i<3→idx [g0,g1,g2] (i:Int)=some b→eQ 8589934592 g0 g1 g2 kk (aA+1) (i:Int)=if qQq 0 65535 b then eQ 8589934592 g0 g1 g2 kk aA ((i+1:Nat):Int) else some 3:=fun aA i b hi hx=>by
  conv=>lhs;unfold eQ
  rw [p8,OJ oQ,aD,hx,aD,sU,aD,cM oQ,aD,show decide (0≤b∧b≤65535)=qQq 0 65535 b from rfl]
  cases qQq 0 65535 b <;> rfl
 have h0:=one 8589934591 0 g0 aL rfl;have h1:=one 8589934590 1 g1 aL rfl;have h2:=one 8589934589 2 g2 aL rfl
 have h3:eQ 8589934592 g0 g1 g2 kk 8589934589 ((2+1:Nat):Int)=kk 3:=by
  show eQ 8589934592 g0 g1 g2 kk (8589934588+1) 3=kk 3;unfold eQ;rw [cF aL]
 refine h0.trans ?_;simp only [tK,List.all_nil,Bool.and_true];cases qQq 0 65535 g0
 ·rfl
 refine h1.trans ?_;cases qQq 0 65535 g1
 ·rfl
 refine h2.trans ?_;cases qQq 0 65535 g2
 ·rfl
 exact h3
theorem Ve {b:Bool} (hb:iM 8589934592 cv=some b):qV 8589934592 ph b0 b1 b2 b3 w sp g0 g1 g2 m0 m1 m2 m3 m4 m5 m6 m7 m8 cv am=some (if zP ph b0 b1 b2 b3 w sp g0 g1 g2 m0 m1 m2 m3 m4 m5 m6 m7 m8 am=false then 3 else if b=false then 1 else 0):=by
 unfold qV zP;rw [sU,aD,show decide (0≤ph∧ph≤3)=qQq 0 3 ph from rfl];cases h1:qQq 0 3 ph
 ·rfl
 rw [cF rQ,sU,aD,show decide (1≤w∧w≤65535)=qQq 1 65535 w from rfl];simp only [tF];cases h2:qQq 1 65535 w
 ·rfl
 have h2':1≤w∧w≤65535:=bW h2;rw [cF rQ]
 by_cases h4:sp.length≤64
 rotate_left
 ·rw [p8,dF h4];simp
 rw [nL,dT h4,Rl sp oQ oQ oQ,aD];cases h5:sp.all (gX 64 64)
 ·simp
 rw [cF rQ,Y8 8589934592 m0 m1 m2 m3 m4 m5 m6 m7 m8 oQ,aD];cases h7:Dh m0 m1 m2 m3 m4 m5 m6 m7 m8
 ·simp
 rw [cF rQ,sU,aD,show decide (0≤am∧am≤1024)=qQq 0 1024 am from rfl];cases h8:qQq 0 1024 am
 ·simp
 rw [cF rQ,aBX b0 b1 b2 b3 w h2'];cases h3:[b0,b1,b2,b3].all (qQq 0 (w-1))
 ·rfl
 rw [aF rfl,aEm g0 g1 g2];cases h6:[g0,g1,g2].all (qQq 0 65535)
 ·rfl
 rw [aF rfl,hb,aD]
 cases b <;> rfl
end
end
end Go.Proofs.YtpmnfhifmmfgladGreatDoor
