/- Texts of the claim RestPictures, joined and made small by a program. -/
import Derived.Test.YtpmnfhifmmfglacGreatDoorRestPicturesK5
set_option linter.unusedVariables false
set_option linter.unusedSimpArgs false
set_option linter.unusedSectionVars false
set_option maxRecDepth 100000
set_option maxHeartbeats 8000000
namespace Go.Proofs.YtpmnfhifmmfglacGreatDoor
section
open Go
theorem L7 (N:Nat) (phase x y:Int):∃r,pG N phase x y=some r:=by
 unfold pG
 by_cases h1:phase<0
 ·rw [cT (dT h1)];exact ⟨_,rfl⟩
 rw [cF (dF h1)]
 by_cases h2:3<phase
 ·rw [cT (dT h2)];exact ⟨_,rfl⟩
 rw [cF (dF h2)]
 by_cases h3:x<0
 ·rw [cT (dT h3)];exact ⟨_,rfl⟩
 rw [cF (dF h3)]
 by_cases h4:y<0
 ·rw [cT (dT h4)];exact ⟨_,rfl⟩
 rw [cF (dF h4)];exact ⟨_,rfl⟩
theorem aBs (N:Nat) (W:Int) (P:List (Int × Int × Int)) (phase:Int) (kk:(List Int × Int)→Option (Int × Int × List Int × Int)) (hW:1≤W) (hP:P.length≤4096):∀(d k fuel:Nat) (l:List Int),k+d=P.length→d<fuel→l.length=k→∃l',oB N W P phase kk fuel (l,(k:Int))=kk (l',(P.length:Int)):=by
 intro d
 induction d with
 | zero=>
  intro k fuel l hk hf hl;obtain ⟨fuel,rfl⟩:=mK fuel (by omega);have hk':k=P.length:=by omega
  subst hk';refine ⟨l,?_⟩;unfold oB;rw [cF (dF (by omega))]
 | succ d ih=>
  intro k fuel l hk hf hl;obtain ⟨fuel,rfl⟩:=mK fuel (by omega);have hlt:k<P.length:=by omega
  unfold oB;obtain ⟨r,hr⟩:=L7 N phase (Int.tmod k W) (IntKind.i64.wrap (Int.tdiv k W));rw [cT (dT (by omega)),AF (by omega),aC,aC,hr,aC,dH,List.getElem?_eq_getElem hlt,aC];rw [lI (by simp;omega),lI (by simp;omega),lI (by simp;omega),aC,aC,aC,dC (by omega)];have key:∀x:Int,∃l',oB N W P phase kk fuel (l++[x],(k:Int)+1)=kk (l',(P.length:Int)):=fun x=>ih (k+1) fuel (l++[x]) (by omega) (by omega) (by simp [hl])
  cases decide (r.1=0)
  ·cases decide (r.1=1)
   ·exact key _
   ·exact key _
  ·exact key _
theorem CK (N:Nat) (W H:Int) (P:List (Int × Int × Int)) (hN:5000≤N):∃a b l,rX N W H P 0=some (a,b,l,if uB W H P then 0 else 1):=by
 unfold rX;rw [aBq N W H P hN,aC];cases hp:uB W H P
 ·exact ⟨_,_,_,rfl⟩
 ·have hs:=rO hp;have hl:=BZ hs;rw [cF (by rfl),cF (by rfl),cF (by rfl)];obtain ⟨l',h⟩:=aBs N W P 0 (fun (FQ,i2)=>some (W,H,FQ,0)) hs.1 (by omega) P.length 0 N [] (by omega) (by omega) rfl;exact ⟨W,H,l',h⟩
def tG (phase u v:Int):Int:=(u%2+phase)%2+(v%2+phase/2)%2
theorem aBt:∀n:Fin 64,Eg .i64 ((n.val:Nat):Int) 1=((n.val:Nat):Int)%2:=by decide +kernel
theorem Nz {u:Int} (h:0≤u∧u<64):Eg .i64 u 1=u%2:=by
 have:=aBt ⟨u.toNat,by omega⟩;have e:((u.toNat:Nat):Int)=u:=by omega
 simp only [e] at this;exact this
theorem aBu:∀(p:Fin 4) (a b:Fin 2),IntKind.i64.wrap (Eg .i64 (IntKind.i64.wrap (((a.val:Nat):Int)+((p.val:Nat):Int))) 1+Eg .i64 (IntKind.i64.wrap (((b.val:Nat):Int)+rL .i64 ((p.val:Nat):Int) 1)) 1)=(((a.val:Nat):Int)+((p.val:Nat):Int))%2+(((b.val:Nat):Int)+((p.val:Nat):Int)/2)%2:=by decide +kernel
theorem II (phase u v:Int):0≤tG phase u v∧tG phase u v≤2:=by unfold tG;omega
theorem Ps (N:Nat) {phase u v:Int} (hp:0≤phase∧phase≤3) (hu:0≤u∧u<64) (hv:0≤v∧v<64):pG N phase u v=some (tG phase u v,0):=by
 unfold pG;rw [cF (dF (by omega)),cF (dF (by omega)),cF (dF (by omega)),cF (dF (by omega)),Nz hu,Nz hv];unfold sR;rw [aC];have:=aBu ⟨phase.toNat,by omega⟩ ⟨(u%2).toNat,by omega⟩ ⟨(v%2).toNat,by omega⟩;have e1:((phase.toNat:Nat):Int)=phase:=by omega
 have e2:(((u%2).toNat:Nat):Int)=u%2:=by omega
 have e3:(((v%2).toNat:Nat):Int)=v%2:=by omega
 simp only [e1,e2,e3] at this;rw [this];rfl
theorem If (N:Nat) {phase u v:Int} (hp:0≤phase∧phase≤3) (hu:0≤u∧u<64) (hv:0≤v∧v<64):kS N phase u v=some (tG phase u v):=by
 have t1:Int.tmod phase 2=phase%2:=Int.tmod_eq_emod_of_nonneg hp.1;have t2:Int.tdiv phase 2=phase/2:=Int.tdiv_eq_ediv_of_nonneg hp.1;have t3:Int.tmod (u+phase%2) 2=(u+phase%2)%2:=Int.tmod_eq_emod_of_nonneg (by omega);have t4:Int.tmod (v+phase/2) 2=(v+phase/2)%2:=Int.tmod_eq_emod_of_nonneg (by omega);unfold kS;rw [t1,t2,dC (x:=phase/2) (by omega),dC (x:=u+phase%2) (by omega),dC (x:=v+phase/2) (by omega),t3,t4,aC,aC]
 by_cases a:(u+phase%2)%2=0
 ·by_cases b:(v+phase/2)%2=0
  ·rw [cT (dT a),cT (dT b)];congr 1;unfold tG;omega
  ·rw [cT (dT a),cF (dF b),cF (dF (by omega))];congr 1;unfold tG;omega
 ·by_cases b:(v+phase/2)%2=1
  ·rw [cF (dF a),cT (dT (by omega)),cT (dT b)];congr 1;unfold tG;omega
  ·rw [cF (dF a),cT (dT (by omega)),cF (dF b)];congr 1;unfold tG;omega
theorem aEo (N:Nat) (P:List Int) (kk:Int→Option Bool) (hP:P.length≤4096):∀(d k fuel:Nat),k+d=P.length→d<fuel→eU N P kk fuel (k:Int)=if (P.drop k).all Jy then kk P.length else some false:=by
 intro d
 induction d with
 | zero=>
  intro k fuel hk hf;obtain ⟨fuel,rfl⟩:=mK fuel (by omega);obtain rfl:k=P.length:=by omega
  unfold eU;rw [cF (dF (by omega))]
  simp
 | succ d ih=>
  intro k fuel hk hf;obtain ⟨fuel,rfl⟩:=mK fuel (by omega);have hlt:k<P.length:=by omega
  unfold eU;rw [cT (dT (by omega)),dH,List.getElem?_eq_getElem hlt,aC,rP,aC,List.drop_eq_getElem_cons hlt,List.all_cons];have hih:=ih (k+1) fuel (by omega) (by omega)
  by_cases h1:0≤P[k]∧P[k]≤65535
  ·rw [cF (by simp [h1]),aC,dC (by omega)];have:Jy P[k]=true:=by simp [Jy,h1]
   rw [this,Bool.true_and,←hih]
   rfl
  ·rw [cT (by simp only [Bool.not_eq_true',decide_eq_false_iff_not];exact h1)];have:Jy P[k]=false:=by simp only [Jy,Bool.and_eq_false_iff,decide_eq_false_iff_not];omega
   simp [this]
theorem Kf (N:Nat) (W H:Int) (P:List Int) (hN:5000≤N):dE N W H P=some (bW W H P):=by
 unfold dE
 have no:¬(xQ W H∧(P.length:Int)=W*H)→bW W H P=false:=fun h=>by
  cases hq:bW W H P
  ·rfl
  ·obtain ⟨a,b,_⟩:=rU.1 hq;exact absurd ⟨a,b⟩ h
 rw [rP,aC]
 by_cases h1:1≤W∧W≤64
 rotate_left
 ·rw [cT (by rw [dF h1];rfl),no (fun h=>by unfold xQ at h;omega)]
 rw [cF (by rw [dT h1];rfl),rP,aC]
 by_cases h2:1≤H∧H≤64
 rotate_left
 ·rw [cT (by rw [dF h2];rfl),no (fun h=>by unfold xQ at h;omega)]
 have hb:=Lt (W:=W) (H:=H) (by omega);rw [cF (by rw [dT h2];rfl),dC (by omega)]
 by_cases h3:(P.length:Int)=W*H
 rotate_left
 ·rw [cT (by rw [dF h3];rfl),no (fun h=>h3 h.2)]
 rw [cF (by rw [dT h3];rfl)];refine (aEo N P _ (by omega) P.length 0 N (by omega) (by omega)).trans ?_;have hs:xQ W H:=⟨by omega,by omega,by omega,by omega⟩
 simp only [bW,hs,h3,decide_true,Bool.true_and,List.drop_zero]
 cases P.all Jy <;> rfl
theorem zX {W H:Int} {P:List Int} (h:bW W H P=true):∃w h':Nat,W=w∧H=h'∧1≤w∧w≤64∧1≤h'∧h'≤64∧P.length=w*h'∧w*h'≤4096∧∀i,i<w*h'→0≤P.getD i 0∧P.getD i 0≤65535:=by
 obtain ⟨⟨h1,h2,h3,h4⟩,h5,h6⟩:=rU.1 h;obtain ⟨w,rfl⟩:∃n:Nat,W=n:=⟨W.toNat,by omega⟩
 obtain ⟨h',rfl⟩:∃n:Nat,H=n:=⟨H.toNat,by omega⟩
 have e:P.length=w*h':=by exact_mod_cast h5
 have:=Nat.mul_le_mul (show w≤64 by omega) (show h'≤64 by omega);refine ⟨w,h',rfl,rfl,by omega,by omega,by omega,by omega,e,by omega,fun i hi=>?_⟩;have hx:P[i]? = some P[i]:=List.getElem?_eq_getElem (by omega);have:=X8 (List.all_eq_true.1 h6 _ (List.mem_of_getElem? hx));rw [List.getD_eq_getElem?_getD,hx];exact this
theorem NA {W H:Int} {P:List Int} {x y u v:Int} (hC:RK W H P x y) (hq:0≤u∧u<W∧0≤v∧v<H):IntKind.i64.wrap (IntKind.i64.wrap (v*W)+u)=v*W+u∧0≤v*W+u∧v*W+u<P.length∧idx P (v*W+u)=some (P.getD (v*W+u).toNat 0):=by
 obtain ⟨h1,h2,h3,h4,h5,h6,h7⟩:=hC;have m0:0≤v*W:=Int.mul_nonneg hq.2.2.1 (by omega)
 have m1:v*W+W≤H*W:=by
  have:=Int.mul_le_mul_of_nonneg_right (show v+1≤H by omega) (show 0≤W by omega)
  rwa [Int.add_mul,Int.one_mul] at this
 have m2:H*W≤64*64:=Int.mul_le_mul h6 h3 (by omega) (by omega);have m3:(P.length:Int)=H*W:=by rw [h7,Int.mul_comm]
 refine ⟨by rw [dC (x:=v*W) (by omega),dC (by omega)],by omega,by omega,?_⟩;unfold idx;rw [if_pos (by omega),List.getD_eq_getElem?_getD,List.getElem?_eq_getElem (by omega)];rfl
theorem HY (N:Nat) (W:Int) (P:List Int) (o:Int) {H x y u v:Int} (hC:RK W H P x y) (hq:0≤u∧u<W∧0≤v∧v<H) (x1 x2 x3 x4 x5 x6:Int):∃r,pL N W P o u v x1 x2 x3 x4 x5 x6=some r:=by
 obtain ⟨r,hr⟩:=L7 N o u v;obtain ⟨h1,_,_,h2⟩:=NA hC hq;unfold pL;rw [hr,aC,h1,h2];simp only [aC]
 cases decide (r.1=0) <;> cases decide (r.1=1) <;> exact ⟨_,rfl⟩
abbrev Six:=Int × Int × Int × Int × Int × Int
def U4 (phase c:Int) (L:List (Int × Int)):List (Int × Int):=L.filter fun q=>decide (tG phase q.1 q.2=c)
def To (W:Int) (P:List Int) (q:Int × Int):Int:=P.getD (q.2*W+q.1).toNat 0
def cnt (phase c:Int) (L:List (Int × Int)):Int:=((U4 phase c L).length:Nat)
def sm (W:Int) (P:List Int) (phase c:Int) (L:List (Int × Int)):Int:=((U4 phase c L).map (To W P)).sum
def p6 (W:Int) (P:List Int) (phase:Int) (L:List (Int × Int)):Six:=(cnt phase 0 L,cnt phase 1 L,cnt phase 2 L,sm W P phase 0 L,sm W P phase 1 L,sm W P phase 2 L)
theorem RO (phase c:Int) (L:List (Int × Int)) (q:Int × Int):U4 phase c (L++[q])=if tG phase q.1 q.2=c then U4 phase c L++[q] else U4 phase c L:=by
 unfold U4;rw [List.filter_append]
 by_cases h:tG phase q.1 q.2=c
 ·rw [if_pos h];simp [h]
 ·rw [if_neg h];simp [h]
theorem RP (phase c:Int) (L:List (Int × Int)) (q:Int × Int):cnt phase c (L++[q])=if tG phase q.1 q.2=c then cnt phase c L+1 else cnt phase c L:=by
 unfold cnt;rw [RO]
 split <;> simp
theorem U5 (W:Int) (P:List Int) (phase c:Int) (L:List (Int × Int)) (q:Int × Int):sm W P phase c (L++[q])=if tG phase q.1 q.2=c then sm W P phase c L+To W P q else sm W P phase c L:=by
 unfold sm;rw [RO]
 split <;> simp
theorem EX (phase c:Int) (L:List (Int × Int)):0≤cnt phase c L∧cnt phase c L≤L.length:=by
 have:=List.length_filter_le (fun q:Int × Int=>decide (tG phase q.1 q.2=c)) L;unfold cnt U4
 omega
theorem Yo (top:Int):∀l:List Int,(∀x∈l,0≤x∧x≤top)→0≤l.sum∧l.sum≤top*l.length
 | [],_=>by simp
 | x::l,h=>by
  have h1:=h x (by simp);have h2:=Yo top l fun y hy=>h y (by simp [hy])
  rw [List.sum_cons,List.length_cons];have:top*((l.length+1:Nat):Int)=top*l.length+top:=by rw [Int.natCast_add,Int.mul_add];simp
  omega
def upTo (P:List Int) (top:Int):Prop:=∀i:Nat,0≤P.getD i 0∧P.getD i 0≤top
theorem aC2 {W:Int} {P:List Int} {top:Int} (hP:upTo P top) (phase c:Int) (L:List (Int × Int)):0≤sm W P phase c L∧sm W P phase c L≤top*cnt phase c L:=by
 have:=Yo top ((U4 phase c L).map (To W P)) fun x hx=>by
  obtain ⟨q,_,rfl⟩:=List.mem_map.1 hx;exact hP _
 rw [List.length_map] at this;exact this
theorem DH {W:Int} {P:List Int} (hP:upTo P 65535) (phase c:Int) (L:List (Int × Int)) (hL:L.length≤100):0≤sm W P phase c L∧sm W P phase c L≤6553500:=by
 have h1:=aC2 (W:=W) hP phase c L;have h2:=EX phase c L
 omega
theorem Ig {P:List Int} {n:Nat} (hl:P.length=n) (h:∀i,i<n→0≤P.getD i 0∧P.getD i 0≤65535):upTo P 65535:=fun i=>by
 by_cases hi:i<n
 ·exact h i hi
 ·rw [List.getD_eq_getElem?_getD,List.getElem?_eq_none (by omega)];simp
section
variable {W H x y phase:Int} {P:List Int} (hC:RK W H P x y) (hp:0≤phase∧phase≤3) (hP:upTo P 65535)
include hC hp hP
theorem Yp {L:List (Int × Int)} (hL:L.length≤99) {u v:Int} (hq:0≤u∧u<W∧0≤v∧v<H) :
  pL 1125899906842624 W P phase u v (p6 W P phase L).1 (p6 W P phase L).2.1 (p6 W P phase L).2.2.1 (p6 W P phase L).2.2.2.1 (p6 W P phase L).2.2.2.2.1 (p6 W P phase L).2.2.2.2.2=some (p6 W P phase (L++[(u,v)])):=by
 have hC':=hC;obtain ⟨k1,k2,k3,k4,k5,k6,k7⟩:=hC';obtain ⟨h1,_,_,h2⟩:=NA hC hq;have c0:=EX phase 0 L;have c1:=EX phase 1 L;have c2:=EX phase 2 L;have s0:=DH (W:=W) hP phase 0 L (by omega);have s1:=DH (W:=W) hP phase 1 L (by omega);have s2:=DH (W:=W) hP phase 2 L (by omega);have hpv:=hP (v*W+u).toNat;have hr:=II phase u v;unfold pL;rw [Ps 1125899906842624 hp (by omega) (by omega),aC,h1,h2];simp only [p6,RP,U5,aC];have e:To W P (u,v)=P.getD (v*W+u).toNat 0:=rfl;have hc:tG phase u v=0∨tG phase u v=1∨tG phase u v=2:=by omega
 rcases hc with hc | hc | hc
 ·rw [hc,cT (by decide),cT (by decide),dC (by omega),dC (by omega),e];rfl
 ·rw [hc,cF (by decide),cT (by decide),cF (by decide),cT (by decide),dC (by omega),dC (by omega),e];rfl
 ·rw [hc,cF (by decide),cF (by decide),cF (by decide),cF (by decide),dC (by omega),dC (by omega),e];rfl
theorem Pu:∀(L pre:List (Int × Int)),(pre++L).length≤99→(∀q∈L,0≤q.1∧q.1<W∧0≤q.2∧q.2<H)→List.foldl (fJ 1125899906842624 W P phase) (p6 W P phase pre) L=p6 W P phase (pre++L)
 | [],pre,_,_=>by simp
 | (u,v)::L,pre,hl,hq=>by
  have h1:=Yp hC hp hP (L:=pre) (by simp at hl;omega) (hq (u,v) (by simp));rw [List.foldl_cons]
  have:fJ 1125899906842624 W P phase (p6 W P phase pre) (u,v)=p6 W P phase (pre++[(u,v)]):=by
   unfold fJ;rw [h1];rfl
  rw [this,Pu L (pre++[(u,v)]) (by simpa using hl) (fun q h=>hq q (by simp [h]))]
  simp
end
def MA (W x v:Int):Nat→Int→List (Int × Int)
 | 0,_=>[]
 | k+1,u=>if u≤min (W-1) (x+1) then (u,v)::MA W x v k (u+1) else []
def NB (W H x y:Int):Nat→Int→List (Int × Int)
 | 0,_=>[]
 | k+1,v=>if v≤min (H-1) (y+1) then MA W x v 4 (max 0 (x-1))++NB W H x y k (v+1) else []
def rQ (W H x y:Int):List (Int × Int):=NB W H x y 4 (max 0 (y-1))
theorem TH (W x y v:Int):∀(k:Nat) (u:Int),X7 W x y v k u=(MA W x v k u).filter fun q=>decide (q≠(x,y))
 | 0,_=>rfl
 | k+1,u=>by
  unfold X7 MA
  by_cases h:u≤x+1∧u<W
  ·rw [if_pos h,if_pos (show u≤min (W-1) (x+1) by omega),List.filter_cons]
   by_cases h2:u≠x∨v≠y
   ·rw [if_pos h2,if_pos (by simp;omega),TH W x y v k (u+1)]
   ·rw [if_neg h2,if_neg (by simp;omega),TH W x y v k (u+1)]
  ·rw [if_neg h,if_neg (show ¬u≤min (W-1) (x+1) by omega)];rfl
theorem Yq (W H x y:Int):∀(k:Nat) (v:Int),Wh W H x y k v=(NB W H x y k v).filter fun q=>decide (q≠(x,y))
 | 0,_=>rfl
 | k+1,v=>by
  unfold Wh NB
  by_cases h:v≤y+1∧v<H
  ·rw [if_pos h,if_pos (show v≤min (H-1) (y+1) by omega),List.filter_append,TH,Yq W H x y k (v+1),Int.max_comm]
  ·rw [if_neg h,if_neg (by omega)];rfl
theorem Lw (W H x y:Int):lG W H x y=(rQ W H x y).filter fun q=>decide (q≠(x,y)):=by
 unfold lG rQ;rw [Yq,Int.max_comm]
theorem TI (W x v:Int):∀(k:Nat) (u:Int),0≤u→(MA W x v k u).length≤k∧∀q∈MA W x v k u,0≤q.1∧q.1<W∧q.2=v
 | 0,_,_=>by simp [MA]
 | k+1,u,h=>by
  unfold MA
  by_cases h1:u≤min (W-1) (x+1)
  ·rw [if_pos h1];obtain ⟨a,b⟩:=TI W x v k (u+1) (by omega);refine ⟨by simp;omega,fun q hq=>?_⟩
   rcases List.mem_cons.1 hq with rfl | hq
   ·exact ⟨h,by show u<W;omega,rfl⟩
   ·exact b q hq
  ·rw [if_neg h1];simp
theorem TJ (W H x y:Int):∀(k:Nat) (v:Int),0≤v→(NB W H x y k v).length≤4*k∧∀q∈NB W H x y k v,0≤q.1∧q.1<W∧0≤q.2∧q.2<H
 | 0,_,_=>by simp [NB]
 | k+1,v,h=>by
  unfold NB
  by_cases h1:v≤min (H-1) (y+1)
  ·rw [if_pos h1];obtain ⟨a,b⟩:=TJ W H x y k (v+1) (by omega);obtain ⟨a',b'⟩:=TI W x v 4 (max 0 (x-1)) (by omega);refine ⟨by rw [List.length_append];omega,fun q hq=>?_⟩
   rcases List.mem_append.1 hq with hq | hq
   ·obtain ⟨c1,c2,c3⟩:=b' q hq;exact ⟨c1,c2,by omega,by omega⟩
   ·exact b q hq
  ·rw [if_neg h1];simp
theorem TK (W H x y phase c:Int) (hc:c≠tG phase x y):U4 phase c (lG W H x y)=U4 phase c (rQ W H x y):=by
 rw [Lw];unfold U4;rw [List.filter_filter];refine List.filter_congr fun q _=>?_
 by_cases h:tG phase q.1 q.2=c
 ·have hq:q≠(x,y):=fun e=>by subst e;exact hc h.symm
  simp [h,hq]
 ·simp [h]
def dv (n s:Int):Int:=if 0<n then s/n else s
def aEp (c v:Int) (p:Px):Px:=if c=0 then (v,p.2.1,p.2.2) else if c=1 then (p.1,v,p.2.2) else (p.1,p.2.1,v)
def NC (W H:Int) (P:List Int) (phase x y:Int):Px:=aEp (tG phase x y) (To W P (x,y)) (dv (cnt phase 0 (rQ W H x y)) (sm W P phase 0 (rQ W H x y)),dv (cnt phase 1 (rQ W H x y)) (sm W P phase 1 (rQ W H x y)),dv (cnt phase 2 (rQ W H x y)) (sm W P phase 2 (rQ W H x y)))
theorem aEq (N fuel:Nat) (a b c:Int) (kk) (s:Px):bY N a b c kk (fuel+1) (s.1,s.2.1,s.2.2,0)=bY N a b c kk fuel ((if 0<a then IntKind.i64.wrap (Int.tdiv s.1 a) else s.1),s.2.1,s.2.2,1):=by
 conv=>lhs;unfold bY
 rw [cT (by decide),cT (by decide),dC (x:=0+1) (by omega)]
 by_cases h:0<a
 ·rw [cT (dT h),if_pos h,cT (by decide),AF (by omega)];rfl
 ·rw [cF (dF h),if_neg h];rfl
theorem aEr (N fuel:Nat) (a b c:Int) (kk) (s:Px):bY N a b c kk (fuel+1) (s.1,s.2.1,s.2.2,1)=bY N a b c kk fuel (s.1,(if 0<b then IntKind.i64.wrap (Int.tdiv s.2.1 b) else s.2.1),s.2.2,2):=by
 conv=>lhs;unfold bY
 rw [cT (by decide),cF (by decide),cT (by decide),dC (x:=1+1) (by omega)]
 by_cases h:0<b
 ·rw [cT (dT h),if_pos h,cF (by decide),cT (by decide),AF (by omega)];rfl
 ·rw [cF (dF h),if_neg h];rfl
theorem Yr (N fuel:Nat) (a b c:Int) (kk) (s:Px):bY N a b c kk (fuel+2) (s.1,s.2.1,s.2.2,2)=kk (s.1,s.2.1,(if 0<c then IntKind.i64.wrap (Int.tdiv s.2.2 c) else s.2.2),3):=by
 conv=>lhs;unfold bY
 rw [cT (by decide),cF (by decide),cF (by decide),dC (x:=2+1) (by omega)]
 have e:∀t:Px,bY N a b c kk (fuel+1) (t.1,t.2.1,t.2.2,2+1)=kk (t.1,t.2.1,t.2.2,3):=fun t=>by
  unfold bY;rw [cF (by decide)];rfl
 by_cases h:0<c
 ·rw [cT (dT h),if_pos h,cF (by decide),cF (by decide),AF (by omega),aC];exact e (s.1,s.2.1,IntKind.i64.wrap (Int.tdiv s.2.2 c))
 ·rw [cF (dF h),if_neg h];exact e s
theorem Qo {n s:Int} (hs:0≤s∧s≤6553500):(if 0<n then IntKind.i64.wrap (Int.tdiv s n) else s)=dv n s:=by
 unfold dv
 split
 ·rename_i h
  have h1:=Int.ediv_nonneg hs.1 (show 0≤n by omega);have h2:=Int.ediv_le_self n hs.1;rw [Int.tdiv_eq_ediv_of_nonneg hs.1,dC (by omega)]
 ·rfl
section
variable {W H x y phase:Int} {P:List Int} (hC:RK W H P x y) (hp:0≤phase∧phase≤3) (hP:upTo P 65535)
include hC hp hP
theorem Ys:yO 1125899906842624 W H P phase x y=some (NC W H P phase x y):=by
 have hC':=hC;obtain ⟨k1,k2,k3,k4,k5,k6,k7⟩:=hC';obtain ⟨fl,fi⟩:=TJ W H x y 4 (max 0 (y-1)) (by omega)
 have al:(lG W H x y).length≤16:=by
  rw [Lw];exact Nat.le_trans (List.length_filter_le _ _) fl
 have ai:∀q∈lG W H x y,0≤q.1∧q.1<W∧0≤q.2∧q.2<H:=fun q hq=>by
  rw [Lw] at hq;exact fi q (List.mem_filter.1 hq).1
 have hf:=Pu hC hp hP (lG W H x y) [] (by simp;omega) ai;have s0:=DH (W:=W) hP phase 0 (lG W H x y) (by omega);have s1:=DH (W:=W) hP phase 1 (lG W H x y) (by omega);have s2:=DH (W:=W) hP phase 2 (lG W H x y) (by omega);obtain ⟨e1,_,_,e2⟩:=NA hC (u:=x) (v:=y) (by omega);unfold yO;rw [cT (dT hC)];have hf':List.foldl (fJ 1125899906842624 W P phase) (0,0,0,0,0,0) (lG W H x y)=p6 W P phase (lG W H x y):=hf;rw [hf'];unfold CH p6
 dsimp only
 rw [aEq 1125899906842624 1125899906842623 _ _ _ _ (sm W P phase 0 (lG W H x y),sm W P phase 1 (lG W H x y),sm W P phase 2 (lG W H x y))]
 dsimp only
 rw [aEr 1125899906842624 1125899906842622 _ _ _ _ (_,sm W P phase 1 (lG W H x y),sm W P phase 2 (lG W H x y))]
 dsimp only
 rw [Yr 1125899906842624 1125899906842620 _ _ _ _ (_,_,sm W P phase 2 (lG W H x y))]
 dsimp only
 rw [Qo s0,Qo s1,Qo s2,Ps 1125899906842624 hp (by omega) (by omega),aC,e1,e2];have hr:=II phase x y
 have other:∀c,c≠tG phase x y→cnt phase c (lG W H x y)=cnt phase c (rQ W H x y)∧sm W P phase c (lG W H x y)=sm W P phase c (rQ W H x y):=fun c hc=>by
  unfold cnt sm;rw [TK W H x y phase c hc];exact ⟨rfl,rfl⟩
 unfold NC aEp;have ep:To W P (x,y)=P.getD (y*W+x).toNat 0:=rfl;have hc:tG phase x y=0∨tG phase x y=1∨tG phase x y=2:=by omega
 rcases hc with hc | hc | hc
 ·rw [(other 1 (by omega)).1,(other 1 (by omega)).2,(other 2 (by omega)).1,(other 2 (by omega)).2,hc,cT (by decide),ep];rfl
 ·rw [(other 0 (by omega)).1,(other 0 (by omega)).2,(other 2 (by omega)).1,(other 2 (by omega)).2,hc,cF (by decide),cT (by decide),ep];rfl
 ·rw [(other 0 (by omega)).1,(other 0 (by omega)).2,(other 1 (by omega)).1,(other 1 (by omega)).2,hc,cF (by decide),cF (by decide),ep];rfl
end
theorem ND (N:Nat) (W H:Int) (P:List Int) (hl:P.length≤9223372036854775807):gJ N W H P []=some (if bW W H P=false then (0,0,[],1) else (W,H,(List.range P.length).map (sO W H [] P),0)):=by
 unfold gJ;rw [if_neg (by omega)];cases bW W H P
 ·rfl
 ·rw [if_neg (by simp),if_neg (by simp),if_neg (by simp),if_neg (by simp)]
section
variable {W H:Nat} {P:List Int} (hW:1≤W∧W≤64∧1≤H∧H≤64) (hl:P.length=W*H) (hP:upTo P 65535) {phase:Int} (hp:0≤phase∧phase≤3)
def pF (W H:Nat) (P:List Int) (phase:Int) (x y:Nat):Px:=NC W H P phase x y
include hW hl in
theorem NE {x y:Nat} (hx:x<W) (hy:y<H):RK (W:Int) (H:Int) P x y:=⟨by omega,by omega,by omega,by omega,by omega,by omega,by rw [hl,Int.natCast_mul]⟩
include hW hl hP hp
theorem aBv (kk) {y:Nat} (hy:y<H):∀(d x fuel:Nat),x+d=W→d<fuel →
  tP 1125899906842624 W H P phase y kk fuel (pre W (pF W H P phase) (y*W+x),(x:Int))=kk (pre W (pF W H P phase) ((y+1)*W+0),(W:Int)):=by
 have hm:=Nat.mul_le_mul hW.2.1 hW.2.2.2;intro d
 induction d with
 | zero=>
  intro x fuel hk hf;obtain ⟨fuel,rfl⟩:=mK fuel (by omega);obtain rfl:x=W:=by omega
  unfold tP;rw [cF (dF (by omega)),Ke]
 | succ d ih=>
  intro x fuel hk hf;obtain ⟨fuel,rfl⟩:=mK fuel (by omega);have hx:x<W:=by omega
  have hpl:=s7 hx hy;unfold tP;rw [cT (dT (by omega)),Ys (NE hW hl hx hy) hp hP,aC];have e:((NC (W:Int) (H:Int) P phase x y).1,(NC (W:Int) (H:Int) P phase x y).2.1,(NC (W:Int) (H:Int) P phase x y).2.2)=pF W H P phase x y:=rfl;rw [e,lI (by rw [IH];simp;omega),aC,dC (by omega),←Id (pF W H P phase) y hx];exact ih (x+1) fuel (by omega) (by omega)
theorem aBw (kk):∀(d y fuel:Nat),y+d=H→d<fuel →
  rM 1125899906842624 W H P phase kk fuel (pre W (pF W H P phase) (y*W+0),(y:Int))=kk (pre W (pF W H P phase) (H*W+0),(H:Int)):=by
 intro d
 induction d with
 | zero=>
  intro y fuel hk hf;obtain ⟨fuel,rfl⟩:=mK fuel (by omega);obtain rfl:y=H:=by omega
  unfold rM;rw [cF (dF (by omega))]
 | succ d ih=>
  intro y fuel hk hf;obtain ⟨fuel,rfl⟩:=mK fuel (by omega);unfold rM;rw [cT (dT (by omega))];refine (aBv hW hl hP hp _ (y:=y) (by omega) W 0 1125899906842624 (by omega) (by omega)).trans ?_
  dsimp only
  rw [dC (by omega)];exact ih (y+1) fuel (by omega) (by omega)
theorem Wv (kk:List Px × Int→Option (Int × Int × List Px × Int)):rM 1125899906842624 W H P phase kk 1125899906842624 ([],0)=kk (Lu W H (pF W H P phase),(H:Int)):=by
 have:=aBw hW hl hP hp kk H 0 1125899906842624 (by omega) (by omega);simp only [Nat.zero_mul,Nat.add_zero,pre,List.range_zero,List.map_nil] at this;refine this.trans ?_;rw [Lu,Nat.mul_comm]
theorem aBx {x y:Nat} (hx:x<W) {v:Int} (hv:0≤v∧v<H) (kk):∀(k:Nat) (u:Int) (L:List (Int × Int)) (fuel:Nat),0≤u→(x:Int)+1-u<k→L.length+k≤99→k<fuel →
  ∃z,gQ 1125899906842624 W H P phase x v kk fuel ((p6 W P phase L).1,(p6 W P phase L).2.1,(p6 W P phase L).2.2.1,(p6 W P phase L).2.2.2.1,(p6 W P phase L).2.2.2.2.1,(p6 W P phase L).2.2.2.2.2,u) =
   kk ((p6 W P phase (L++MA W x v k u)).1,(p6 W P phase (L++MA W x v k u)).2.1,(p6 W P phase (L++MA W x v k u)).2.2.1,(p6 W P phase (L++MA W x v k u)).2.2.2.1,(p6 W P phase (L++MA W x v k u)).2.2.2.2.1,(p6 W P phase (L++MA W x v k u)).2.2.2.2.2,z):=by
 intro k
 induction k with
 | zero=>
  intro u L fuel hu hk hL hf;obtain ⟨fuel,rfl⟩:=mK fuel (by omega);refine ⟨u,?_⟩;unfold gQ;rw [dC (x:=(W:Int)-1) (by omega),dC (x:=(x:Int)+1) (by omega),cF (dF (by omega)),MA,List.append_nil]
 | succ k ih=>
  intro u L fuel hu hk hL hf;obtain ⟨fuel,rfl⟩:=mK fuel (by omega)
  by_cases hc:u≤min ((W:Int)-1) ((x:Int)+1)
  ·obtain ⟨z,hz⟩:=ih (u+1) (L++[(u,v)]) fuel (by omega) (by omega) (by simp;omega) (by omega);refine ⟨z,?_⟩;rw [MA,if_pos hc];have hC:=NE hW hl hx (show 0<H by omega);obtain ⟨e1,_,_,e2⟩:=NA hC (u:=u) (v:=v) ⟨hu,by omega,hv.1,hv.2⟩;have c0:=EX phase 0 L;have c1:=EX phase 1 L;have c2:=EX phase 2 L;have s0:=DH (W:=W) hP phase 0 L (by omega);have s1:=DH (W:=W) hP phase 1 L (by omega);have s2:=DH (W:=W) hP phase 2 L (by omega);have hpv:=hP (v*W+u).toNat;have hr:=II phase u v
   have hat:bL 1125899906842624 W H P u v=some (P.getD (v*W+u).toNat 0):=by
    unfold bL;rw [e1,e2];rfl
   have ee:L++(u,v)::MA W x v k (u+1)=L++[(u,v)]++MA W x v k (u+1):=by simp
   rw [ee,←hz]
   conv=>lhs;unfold gQ
   rw [dC (x:=(W:Int)-1) (by omega),dC (x:=(x:Int)+1) (by omega),cT (dT hc),If 1125899906842624 hp (by omega) (by omega),aC,hat];simp only [p6,RP,U5,aC];have e:To W P (u,v)=P.getD (v*W+u).toNat 0:=rfl;rw [dC (x:=u+1) (by omega)];have hcc:tG phase u v=0∨tG phase u v=1∨tG phase u v=2:=by omega
   rcases hcc with hcc | hcc | hcc
   ·rw [hcc,cT (by decide),dC (by omega),dC (by omega),e];rfl
   ·rw [hcc,cF (by decide),cT (by decide),dC (by omega),dC (by omega),e];rfl
   ·rw [hcc,cF (by decide),cF (by decide),cT (by decide),dC (by omega),dC (by omega),e];rfl
  ·refine ⟨u,?_⟩;unfold gQ;rw [dC (x:=(W:Int)-1) (by omega),dC (x:=(x:Int)+1) (by omega),cF (dF hc),MA,if_neg hc,List.append_nil]
theorem aBy {x y:Nat} (hx:x<W) (hy:y<H) (kk):∀(k:Nat) (v:Int) (L:List (Int × Int)) (fuel:Nat),0≤v→(y:Int)+1-v<k→L.length+4*k≤60→k<fuel →
  ∃z,iQ 1125899906842624 W H P phase y x kk fuel ((p6 W P phase L).1,(p6 W P phase L).2.1,(p6 W P phase L).2.2.1,(p6 W P phase L).2.2.2.1,(p6 W P phase L).2.2.2.2.1,(p6 W P phase L).2.2.2.2.2,v) =
   kk ((p6 W P phase (L++NB W H x y k v)).1,(p6 W P phase (L++NB W H x y k v)).2.1,(p6 W P phase (L++NB W H x y k v)).2.2.1,(p6 W P phase (L++NB W H x y k v)).2.2.2.1,(p6 W P phase (L++NB W H x y k v)).2.2.2.2.1,(p6 W P phase (L++NB W H x y k v)).2.2.2.2.2,z):=by
 intro k
 induction k with
 | zero=>
  intro v L fuel hv hk hL hf;obtain ⟨fuel,rfl⟩:=mK fuel (by omega);refine ⟨v,?_⟩;unfold iQ;rw [dC (x:=(H:Int)-1) (by omega),dC (x:=(y:Int)+1) (by omega),cF (dF (by omega)),NB,List.append_nil]
 | succ k ih=>
  intro v L fuel hv hk hL hf;obtain ⟨fuel,rfl⟩:=mK fuel (by omega)
  by_cases hc:v≤min ((H:Int)-1) ((y:Int)+1)
  ·obtain ⟨a,_⟩:=TI W x v 4 (max 0 ((x:Int)-1)) (by omega);obtain ⟨z,hz⟩:=ih (v+1) (L++MA W x v 4 (max 0 ((x:Int)-1))) fuel (by omega) (by omega) (by rw [List.length_append];omega) (by omega);refine ⟨z,?_⟩;rw [NB,if_pos hc,←List.append_assoc,←hz]
   conv=>lhs;unfold iQ
   rw [dC (x:=(H:Int)-1) (by omega),dC (x:=(y:Int)+1) (by omega),cT (dT hc),dC (x:=(x:Int)-1) (by omega),aC];obtain ⟨z2,hz2⟩:=aBx hW hl hP hp (y:=y) hx (v:=v) (by omega) (fun (J8,JF,Ql,JG,RM,J9,i13)=>(some (IntKind.i64.wrap (v+1))).bind fun x52=>iQ 1125899906842624 W H P phase y x kk fuel (J8,JF,Ql,JG,RM,J9,x52)) 4 (max 0 ((x:Int)-1)) L 1125899906842624 (by omega) (by omega) (by omega) (by omega);refine hz2.trans ?_
   dsimp only
   rw [aC,dC (x:=v+1) (by omega)]
  ·refine ⟨v,?_⟩;unfold iQ;rw [dC (x:=(H:Int)-1) (by omega),dC (x:=(y:Int)+1) (by omega),cF (dF hc),NB,if_neg hc,List.append_nil]
omit hW hl hP hp in
theorem aBz (N fuel:Nat) (a b c:Int) (s:Px) (kk):mA N a b c s.1 s.2.1 s.2.2 kk (fuel+4) (0,0,0,0) =
  Option.bind (nz (max a 1)) fun _=>Option.bind (nz (max b 1)) fun _=>Option.bind (nz (max c 1)) fun _=>kk (IntKind.i64.wrap (Int.tdiv s.1 (max a 1)),IntKind.i64.wrap (Int.tdiv s.2.1 (max b 1)),IntKind.i64.wrap (Int.tdiv s.2.2 (max c 1)),3):=by kernel_rfl
omit hW hl hP hp in
theorem TL {n s:Int} (hn:0≤n) (hs:0≤s∧s≤6553500):IntKind.i64.wrap (Int.tdiv s (max n 1))=dv n s:=by
 have h1:=Int.ediv_nonneg hs.1 (show 0≤max n 1 by omega);have h2:=Int.ediv_le_self (max n 1) hs.1;rw [Int.tdiv_eq_ediv_of_nonneg hs.1,dC (by omega)];unfold dv
 by_cases h:0<n
 ·rw [if_pos h,Int.max_eq_left (by omega)]
 ·rw [if_neg h,Int.max_eq_right (by omega),Int.ediv_one]
theorem aBA (kk) {y:Nat} (hy:y<H):∀(d x fuel:Nat),x+d=W→d<fuel →
  gR 1125899906842624 W H P phase y kk fuel (pre W (pF W H P phase) (y*W+x),(x:Int))=kk (pre W (pF W H P phase) ((y+1)*W+0),(W:Int)):=by
 have hm:=Nat.mul_le_mul hW.2.1 hW.2.2.2;intro d
 induction d with
 | zero=>
  intro x fuel hk hf;obtain ⟨fuel,rfl⟩:=mK fuel (by omega);obtain rfl:x=W:=by omega
  unfold gR;rw [cF (dF (by omega)),Ke]
 | succ d ih=>
  intro x fuel hk hf;obtain ⟨fuel,rfl⟩:=mK fuel (by omega);have hx:x<W:=by omega
  have hpl:=s7 hx hy;have hih:=ih (x+1) fuel (by omega) (by omega);have hC:=NE hW hl hx hy;obtain ⟨e1,_,_,e2⟩:=NA hC (u:=x) (v:=y) (by omega)
  have hat:bL 1125899906842624 W H P x y=some (To W P (x,y)):=by
   unfold bL;rw [e1,e2];rfl
  have L0:rQ (W:Int) (H:Int) x y=[]++NB W H x y 4 (max 0 ((y:Int)-1)):=rfl;obtain ⟨fl,_⟩:=TJ (W:Int) (H:Int) x y 4 (max 0 ((y:Int)-1)) (by omega);have c0:=EX phase 0 (rQ (W:Int) (H:Int) x y);have c1:=EX phase 1 (rQ (W:Int) (H:Int) x y);have c2:=EX phase 2 (rQ (W:Int) (H:Int) x y);have hfl:(rQ (W:Int) (H:Int) x y).length≤100:=by rw [L0];simp;omega
  have s0:=DH (W:=W) hP phase 0 (rQ (W:Int) (H:Int) x y) hfl;have s1:=DH (W:=W) hP phase 1 (rQ (W:Int) (H:Int) x y) hfl;have s2:=DH (W:=W) hP phase 2 (rQ (W:Int) (H:Int) x y) hfl;have hr:=II phase x y;unfold gR;rw [cT (dT (by omega)),dC (x:=(y:Int)-1) (by omega),aC];refine (aBy hW hl hP hp hx hy _ 4 (max 0 ((y:Int)-1)) [] 1125899906842624 (by omega) (by omega) (by simp) (by omega)).elim fun z hz=>hz.trans ?_
  rw [←L0];dsimp only [p6];refine (aBz 1125899906842624 1125899906842620 _ _ _ (sm W P phase 0 (rQ W H x y),sm W P phase 1 (rQ W H x y),sm W P phase 2 (rQ W H x y)) _).trans ?_;rw [AF (by omega),aC,AF (by omega),aC,AF (by omega),aC]
  dsimp only
  rw [TL c0.1 s0,TL c1.1 s1,TL c2.1 s2,If 1125899906842624 hp (by omega) (by omega),aC,hat,aC];unfold iP;simp only [aC];rw [dC (x:=(x:Int)+1) (by omega)];have hcc:tG phase x y=0∨tG phase x y=1∨tG phase x y=2:=by omega
  have fin:∀p:Px,p=pF W H P phase x y→(Option.bind (app 24 (pre W (pF W H P phase) (y*W+x)) ([(p.1,p.2.1,p.2.2)]:List Px)) fun xP=>gR 1125899906842624 W H P phase y kk fuel (xP,(x:Int)+1))=kk (pre W (pF W H P phase) ((y+1)*W+0),(W:Int)):=fun p hpe=>by
   subst hpe;rw [lI (by rw [IH];simp;omega),aC];have:=Id (pF W H P phase) y hx;rw [show ((pF W H P phase x y).1,(pF W H P phase x y).2.1,(pF W H P phase x y).2.2)=pF W H P phase x y from rfl,←this];exact hih
  rcases hcc with hcc | hcc | hcc
  ·rw [hcc,cT (by decide)];exact fin (To W P (x,y),_,_) (by unfold pF NC;rw [hcc];rfl)
  ·rw [hcc,cF (by decide),cT (by decide)];exact fin (_,To W P (x,y),_) (by unfold pF NC;rw [hcc];rfl)
  ·rw [hcc,cF (by decide),cF (by decide),cT (by decide)];exact fin (_,_,To W P (x,y)) (by unfold pF NC;rw [hcc];rfl)
theorem aBB (kk):∀(d y fuel:Nat),y+d=H→d<fuel →
  mC 1125899906842624 W H P phase kk fuel (pre W (pF W H P phase) (y*W+0),(y:Int))=kk (pre W (pF W H P phase) (H*W+0),(H:Int)):=by
 intro d
 induction d with
 | zero=>
  intro y fuel hk hf;obtain ⟨fuel,rfl⟩:=mK fuel (by omega);obtain rfl:y=H:=by omega
  unfold mC;rw [cF (dF (by omega))]
 | succ d ih=>
  intro y fuel hk hf;obtain ⟨fuel,rfl⟩:=mK fuel (by omega);unfold mC;rw [cT (dT (by omega))];refine (aBA hW hl hP hp _ (y:=y) (by omega) W 0 1125899906842624 (by omega) (by omega)).trans ?_
  dsimp only
  rw [aC,dC (by omega)];exact ih (y+1) fuel (by omega) (by omega)
theorem Ww:oR 1125899906842624 W H P phase=some ((W:Int),(H:Int),Lu W H (pF W H P phase)):=by
 unfold oR;have:=aBB hW hl hP hp (fun x:List Px × Int=>some ((W:Int),(H:Int),x.1)) H 0 1125899906842624 (by omega) (by omega);simp only [Nat.zero_mul,Nat.add_zero,pre,List.range_zero,List.map_nil] at this;refine this.trans ?_;rw [Lu,Nat.mul_comm]
end
theorem fill_eq (W H:Int) (P:List Int) (phase:Int) (hl:P.length≤9223372036854775807):u6 1125899906842624 W H P phase=some (if bW W H P=false then (0,0,[],1) else if 0≤phase∧phase≤3 then (W,H,Lu W.toNat H.toNat (pF W.toNat H.toNat P phase),0) else (0,0,[],3)):=by
 unfold u6;rw [ND 1125899906842624 W H P hl,aC];cases hq:bW W H P
 ·rfl
 ·obtain ⟨w,h,rfl,rfl,w1,w2,w3,w4,hlen,hm,hall⟩:=zX hq;rw [if_neg (by simp),if_neg (by simp),cF (by rfl)]
  by_cases a1:phase<0
  ·rw [cT (dT a1),if_neg (by omega)]
  rw [cF (dF a1)]
  by_cases a2:3<phase
  ·rw [cT (dT a2),if_neg (by omega)]
  rw [cF (dF a2),if_pos (by omega),Int.toNat_natCast,Int.toNat_natCast];exact Wv ⟨w1,w2,w3,w4⟩ hlen (Ig hlen hall) (by omega) _
theorem aGt {n s top:Int} (ht:0≤top) (hn:0≤n) (hs:0≤s∧s≤top*n):0≤dv n s∧dv n s≤top:=by
 unfold dv
 by_cases h:0<n
 ·rw [if_pos h];exact ⟨Int.ediv_nonneg hs.1 hn,Int.ediv_le_of_le_mul h hs.2⟩
 ·rw [if_neg h];have:n=0:=by omega
  subst this
  simp at hs
  omega
theorem aEs {W H:Nat} {P:List Int} {top:Int} (ht:0≤top) (hP:upTo P top) (phase:Int) (x y:Nat):(0≤(pF W H P phase x y).1∧(pF W H P phase x y).1≤top)∧(0≤(pF W H P phase x y).2.1∧(pF W H P phase x y).2.1≤top)∧(0≤(pF W H P phase x y).2.2∧(pF W H P phase x y).2.2≤top):=by
 have own:0≤To W P ((x:Int),(y:Int))∧To W P ((x:Int),(y:Int))≤top:=hP _;have d:∀c,0≤dv (cnt phase c (rQ W H x y)) (sm W P phase c (rQ W H x y))∧dv (cnt phase c (rQ W H x y)) (sm W P phase c (rQ W H x y))≤top:=fun c=>aGt ht (EX _ _ _).1 (aC2 hP phase c _)
 unfold pF NC aEp
 split
 ·exact ⟨own,d 1,d 2⟩
 ·split
  ·exact ⟨d 0,own,d 2⟩
  ·exact ⟨d 0,d 1,own⟩
theorem Yt {W H:Nat} {P:List Int} (h:1≤W∧W≤64∧1≤H∧H≤64) (hP:upTo P 65535) (phase:Int):uB W H (Lu W H (pF W H P phase))=true:=aBo h fun x y _ _=>by
 obtain ⟨a,b,c⟩:=aEs (W:=W) (H:=H) (by omega) hP phase x y;simp only [Af,decide_eq_true_eq];omega
theorem IJ (N:Nat) {n b:Int} (hb:1≤b∧b≤1000000) (hn:-4611686018427387904≤n∧n≤4611686018427387904):bD N n b=some (n/b):=by
 have hd:=Int.mul_ediv_add_emod n b;have hr0:=Int.emod_nonneg n (show b≠0 by omega);have hr1:=Int.emod_lt_of_pos n (show 0<b by omega);obtain ⟨q,hq⟩:∃q,n/b=q:=⟨_,rfl⟩
 obtain ⟨r,hr⟩:∃r,n%b=r:=⟨_,rfl⟩
 rw [hq,hr] at hd;rw [hr] at hr0 hr1
 have hqb:-4611686018427387905≤q∧q≤4611686018427387904:=by
  have h1:q≤4611686018427387904:=by
   rw [←hq];exact Int.le_trans (Int.ediv_le_ediv (by omega) hn.2) (Int.ediv_le_of_le_mul (by omega) (by omega))
  have h2:-4611686018427387905≤q:=by
   rw [←hq];exact Int.le_ediv_of_mul_le (by omega) (by omega)
  exact ⟨h2,h1⟩
 unfold bD;rw [AF (by omega),aC,aC,Int.tdiv_eq_ediv,hq]
 by_cases h:0≤n∨b∣n
 ·rw [if_pos h,Int.add_zero,dC (x:=q) (by omega),Int.mul_comm q b,dC (x:=b*q) (by omega),cF (dF (by omega))]
 ·rw [if_neg h,Int.sign_eq_one_of_pos (by omega),dC (x:=q+1) (by omega),Int.mul_comm (q+1) b,Int.mul_add,Int.mul_one,dC (x:=b*q+b) (by omega),cT (dT (by omega)),aC,dC (by omega),Int.add_sub_cancel]
theorem Yu (N:Nat) (P:List Int) (kk:Int→Option Bool) (hP:P.length≤4096):∀(d k fuel:Nat),k+d=P.length→d<fuel→tO N P kk fuel (k:Int)=if (P.drop k).all Jy then kk P.length else some false:=by
 intro d
 induction d with
 | zero=>
  intro k fuel hk hf;obtain ⟨fuel,rfl⟩:=mK fuel (by omega);obtain rfl:k=P.length:=by omega
  unfold tO;rw [cF (dF (by omega))]
  simp
 | succ d ih=>
  intro k fuel hk hf;obtain ⟨fuel,rfl⟩:=mK fuel (by omega);have hlt:k<P.length:=by omega
  unfold tO;rw [cT (dT (by omega)),dH,List.getElem?_eq_getElem hlt,aC,List.drop_eq_getElem_cons hlt,List.all_cons];have hih:=ih (k+1) fuel (by omega) (by omega)
  by_cases h1:P[k]<0
  ·rw [cT (dT h1)];have:Jy P[k]=false:=by simp only [Jy,Bool.and_eq_false_iff,decide_eq_false_iff_not];omega
   simp [this]
  rw [cF (dF h1)]
  by_cases h2:65535<P[k]
  ·rw [cT (dT h2)];have:Jy P[k]=false:=by simp only [Jy,Bool.and_eq_false_iff,decide_eq_false_iff_not];omega
   simp [this]
  rw [cF (dF h2),dC (by omega)];have:Jy P[k]=true:=by simp only [Jy,Bool.and_eq_true,decide_eq_true_eq];omega
  rw [this,Bool.true_and,←hih]
  rfl
theorem RQ (N:Nat) (W H:Int) (P:List Int) (hN:5000≤N):xI N W H P=some (bW W H P):=by
 unfold xI
 have no:¬(xQ W H∧(P.length:Int)=W*H)→bW W H P=false:=fun h=>by
  cases hq:bW W H P
  ·rfl
  ·obtain ⟨a,b,_⟩:=rU.1 hq;exact absurd ⟨a,b⟩ h
 by_cases h1:W<1
 ·rw [cT (dT h1),no (fun h=>by unfold xQ at h;omega)]
 rw [cF (dF h1)]
 by_cases h2:64<W
 ·rw [cT (dT h2),no (fun h=>by unfold xQ at h;omega)]
 rw [cF (dF h2)]
 by_cases h3:H<1
 ·rw [cT (dT h3),no (fun h=>by unfold xQ at h;omega)]
 rw [cF (dF h3)]
 by_cases h4:64<H
 ·rw [cT (dT h4),no (fun h=>by unfold xQ at h;omega)]
 have hb:=Lt (W:=W) (H:=H) (by omega);rw [cF (dF h4),dC (by omega)]
 by_cases h5:(P.length:Int)=W*H
 rotate_left
 ·rw [cT (by rw [dF h5];rfl),no (fun h=>h5 h.2)]
 rw [cF (by rw [dT h5];rfl)];refine (Yu N P _ (by omega) P.length 0 N (by omega) (by omega)).trans ?_;have hs:xQ W H:=⟨by omega,by omega,by omega,by omega⟩
 simp only [bW,hs,h5,decide_true,Bool.true_and,List.drop_zero]
 cases P.all Jy <;> rfl
def JH (b0 b1 b2 b3:Int) (x y:Nat):Int:=if y%2=0 then (if x%2=0 then b0 else b1) else (if x%2=0 then b2 else b3)
def Qp (b w v:Int):Int:=min (max (v-b) 0*65535/(w-b)) 65535
def JI (W:Nat) (P:List Int) (b0 b1 b2 b3 w:Int) (i:Nat):Int:=Qp (JH b0 b1 b2 b3 (i%W) (i/W)) w (P.getD i 0)
def RT (b0 b1 b2 b3 w:Int):Prop:=(0≤b0∧b0<w)∧(0≤b1∧b1<w)∧(0≤b2∧b2<w)∧(0≤b3∧b3<w)
theorem Qq {b0 b1 b2 b3 w:Int} (h:RT b0 b1 b2 b3 w) (x y:Nat):0≤JH b0 b1 b2 b3 x y∧JH b0 b1 b2 b3 x y<w:=by
 obtain ⟨h0,h1,h2,h3⟩:=h;unfold JH
 split <;> split <;> assumption
theorem RU {n:Nat} (h:n<64):Eg .i64 (n:Int) 1=((n%2:Nat):Int):=by rw [Nz ⟨by omega,by omega⟩];omega
theorem or_fin:∀a b:Fin 2,Ty .i64 (wN .i64 ((a.val:Nat):Int) 1) ((b.val:Nat):Int)=((a.val*2+b.val:Nat):Int):=by decide +kernel
theorem aEt {x y:Nat} (hx:x<64) (hy:y<64):Ty .i64 (wN .i64 (Eg .i64 (y:Int) 1) 1) (Eg .i64 (x:Int) 1)=((y%2*2+x%2:Nat):Int):=by
 rw [RU hx,RU hy];exact or_fin ⟨y%2,by omega⟩ ⟨x%2,by omega⟩
theorem U6 (b0 b1 b2 b3:Int) (x y:Nat):idx [b0,b1,b2,b3] ((y%2*2+x%2:Nat):Int)=some (JH b0 b1 b2 b3 x y):=by
 rw [dH];unfold JH;have hy:y%2=0∨y%2=1:=by omega
 have hx:x%2=0∨x%2=1:=by omega
 rcases hy with hy | hy <;> rcases hx with hx | hx <;> rw [hy,hx] <;> rfl
theorem Lx {i:Int} {n:Nat} (h:0≤i∧i<n):inr i n=some ():=by unfold inr;rw [if_pos h]
theorem NF {a b:Int} (ha:0≤a):Int.tdiv a b=a/b:=Int.tdiv_eq_ediv_of_nonneg ha
theorem aEu {a b:Int} (ha:0≤a) (hb:1≤b):0≤a/b∧a/b≤a:=⟨Int.ediv_nonneg ha (by omega),Int.ediv_le_self _ ha⟩
section
variable {b0 b1 b2 b3 w:Int} (hb:RT b0 b1 b2 b3 w) (hw:w≤65535)
include hb hw
theorem aBC (N:Nat) {x y:Nat} (hx:x<64) (hy:y<64) {v:Int} (hv:0≤v∧v≤65535) :
  ∃r,vX N v x y b0 b1 b2 b3 w=some r∧min r 65535=Qp (JH b0 b1 b2 b3 x y) w v:=by
 have hb4:=Qq hb x y;unfold vX;rw [aEt hx hy,Lx (by omega),aC,U6,aC]
 generalize JH b0 b1 b2 b3 x y=b at *
 have hm:0≤max (v-b) 0*65535∧max (v-b) 0*65535≤4294836225:=by omega
 rw [dC (x:=w-b) (by omega),AF (by omega),aC,dC (x:=v-b) (by omega),dC (x:=max (v-b) 0*65535) (by omega),NF hm.1];have:=aEu hm.1 (show 1≤w-b by omega);rw [dC (by omega)];exact ⟨_,rfl,rfl⟩
theorem aBD {b v:Int} (h:0≤b∧b<w):0≤Qp b w v∧Qp b w v≤65535:=by
 have hm:0≤max (v-b) 0*65535:=by omega
 have:=Int.ediv_nonneg hm (show 0≤w-b by omega);unfold Qp
 omega
theorem TM (N:Nat) {W H:Nat} {P:List Int} (hs:1≤W∧W≤64∧1≤H∧H≤64) (hl:P.length=W*H) (hP:upTo P 65535) (kk:List Int × Int→Option (Int × Int × List Int)):∀(d k fuel:Nat),k+d=P.length→d<fuel →
    fH N W P b0 b1 b2 b3 w kk fuel ((List.range k).map (JI W P b0 b1 b2 b3 w)++List.replicate (P.length-k) 0,(k:Int))=kk ((List.range P.length).map (JI W P b0 b1 b2 b3 w),(P.length:Int)):=by
  have hm:=Nat.mul_le_mul hs.2.1 hs.2.2.2
  intro d
  induction d with
  | zero=>
    intro k fuel hk hf
    obtain ⟨fuel,rfl⟩:=mK fuel (by omega)
    obtain rfl:k=P.length:=by omega
    unfold fH
    rw [cF (dF (by omega)),Nat.sub_self,List.replicate_zero,List.append_nil]
  | succ d ih=>
    intro k fuel hk hf
    obtain ⟨fuel,rfl⟩:=mK fuel (by omega)
    have hlt:k<P.length:=by omega
    obtain ⟨e1,e2⟩:=tdm k (show 0<W by omega)
    obtain ⟨l1,l2,_⟩:=wM (show k<W*H by omega)
    have q1:(0:Int)≤((k/W:Nat):Int):=Int.natCast_nonneg _
    have q2:((k/W:Nat):Int)<64:=by have:k/W<64:=by omega
                                   exact_mod_cast this
    have hv:=hP k
    have hg:P.getD k 0=P[k]:=by rw [List.getD_eq_getElem?_getD,List.getElem?_eq_getElem hlt];rfl
    rw [hg] at hv
    obtain ⟨r,hr,hr2⟩:=aBC hb hw N (x:=k%W) (y:=k/W) (by omega) (by omega) hv
    unfold fH
    rw [cT (dT (by omega)),dH,List.getElem?_eq_getElem hlt,aC,AF (by omega),aC,aC,e1,e2,dC (x:=((k/W:Nat):Int)) (by omega),hr,aC,dH,List.getElem?_eq_getElem (by simp;omega),aC,hr2]
    have hst:Qp (JH b0 b1 b2 b3 (k%W) (k/W)) w P[k]=JI W P b0 b1 b2 b3 w k:=by unfold JI;rw [hg]
    rw [hst,Gq (JI W P b0 b1 b2 b3 w) 0 hlt,aC,dC (by omega)]
    exact ih (k+1) fuel (by omega) (by omega)
theorem TN (N:Nat) (kk:Int→Option (Int × Int × List Int × Int)):mO N b0 b1 b2 b3 w kk 1125899906842624 0=kk 4:=by
 obtain ⟨⟨a0,c0⟩,⟨a1,c1⟩,⟨a2,c2⟩,⟨a3,c3⟩⟩:=hb
 have one:∀(fuel:Nat) (i:Nat) (b:Int),i<4→idx [b0,b1,b2,b3] (i:Int)=some b→0≤b∧b<w→mO N b0 b1 b2 b3 w kk (fuel+1) (i:Int)=mO N b0 b1 b2 b3 w kk fuel ((i+1:Nat):Int):=fun fuel i b hi hx hb'=>by
  conv=>lhs;unfold mO
  rw [cT (dT (by omega)),hx,aC,cF (dF (by omega)),cF (dF (by omega)),cF (dF (by omega)),dC (by omega)]
  rfl
 have h0:=one 1125899906842623 0 b0 (by decide) rfl ⟨a0,c0⟩;have h1:=one 1125899906842622 1 b1 (by decide) rfl ⟨a1,c1⟩;have h2:=one 1125899906842621 2 b2 (by decide) rfl ⟨a2,c2⟩;have h3:=one 1125899906842620 3 b3 (by decide) rfl ⟨a3,c3⟩;refine h0.trans (h1.trans (h2.trans (h3.trans ?_)));show mO N b0 b1 b2 b3 w kk (1125899906842619+1) 4=kk 4;unfold mO;rw [cF (by decide)]
theorem Yv {W H:Nat} {P:List Int} (hf:bW W H P=true):vY 1125899906842624 W H P b0 b1 b2 b3 w=some ((W:Int),(H:Int),(List.range P.length).map (JI W P b0 b1 b2 b3 w),0):=by
 obtain ⟨w',h',e1,e2,w1,w2,w3,w4,hlen,hm,hall⟩:=zX hf;obtain rfl:W=w':=by omega
 obtain rfl:H=h':=by omega
 unfold vY;rw [RQ 1125899906842624 W H P (by omega),aC,hf,cF (by rfl)];refine (TN hb hw 1125899906842624 _).trans ?_;unfold oM;rw [aC,mk_eq (by omega),aC,Int.toNat_natCast];have hL:=TM hb hw 1125899906842624 ⟨w1,w2,w3,w4⟩ hlen (Ig hlen hall) (fun x:List Int × Int=>some ((W:Int),(H:Int),x.1)) P.length 0 1125899906842624 (by omega) (by omega);simp only [List.range_zero,List.map_nil,List.nil_append,Nat.sub_zero] at hL;exact (congrArg (fun z=>Option.bind z fun r3:Int × Int × List Int=>some (r3.1,r3.2.1,r3.2.2,(0:Int))) hL).trans rfl
theorem aBE (N:Nat) {b v:Int} (h:0≤b∧b<w) (hv:0≤v∧v≤65535):(Option.bind (bD N (IntKind.i64.wrap (IntKind.i64.wrap (v-b)*65535)) (IntKind.i64.wrap (w-b))) fun r9=>cO N r9)=some (Qp b w v):=by
 rw [dC (x:=v-b) (by omega),dC (x:=(v-b)*65535) (by omega),dC (x:=w-b) (by omega),IJ N (by omega) (by omega),aC];unfold cO Qp
 by_cases hvb:b≤v
 ·have:=Int.ediv_nonneg (show 0≤(v-b)*65535 by omega) (show 0≤w-b by omega);rw [Int.max_eq_left (show 0≤v-b by omega)]
  congr 1;omega
 ·rw [Int.max_eq_right (show v-b≤0 by omega)];have:(v-b)*65535/(w-b)<0:=Int.ediv_neg_of_neg_of_pos (by omega) (by omega);rw [Int.zero_mul,Int.zero_ediv]
  congr 1;omega
end
def lvF (W:Nat) (P:List Int) (b0 b1 b2 b3 w:Int) (x y:Nat):Int:=Qp (JH b0 b1 b2 b3 x y) w (P.getD (y*W+x) 0)
theorem Yw (W:Nat) (P:List Int) (b0 b1 b2 b3 w:Int) (n:Nat):(List.range n).map (JI W P b0 b1 b2 b3 w)=pre W (lvF W P b0 b1 b2 b3 w) n:=by
 unfold pre;refine List.map_congr_left fun i _=>?_
 unfold JI lvF;rw [Nat.mul_comm,Nat.div_add_mod]
theorem at_eq (N:Nat) {W H:Nat} {P:List Int} (hs:1≤W∧W≤64∧1≤H∧H≤64) (hl:P.length=W*H) {x y:Nat} (hx:x<W) (hy:y<H):bL N W H P x y=some (P.getD (y*W+x) 0):=by
 have hm:=Nat.mul_le_mul hs.2.1 hs.2.2.2;have hpl:=s7 hx hy;have e:(y:Int)*(W:Int)=((y*W:Nat):Int):=by rw [Int.natCast_mul]
 unfold bL;rw [e,dC (x:=((y*W:Nat):Int)) (by omega),dC (by omega),show ((y*W:Nat):Int)+(x:Int)=((y*W+x:Nat):Int) by omega,dH,List.getElem?_eq_getElem (by omega),aC,List.getD_eq_getElem?_getD,List.getElem?_eq_getElem (by omega)]
 rfl
theorem aC3 (n:Nat):Int.tmod (n:Int) 2=((n%2:Nat):Int):=by rw [Int.tmod_eq_emod_of_nonneg (by omega)];omega
theorem Qr {P:List Int} (hP:upTo P 65535) (i:Nat):0≤P.getD i 0∧P.getD i 0≤65535:=hP i
section
variable {b0 b1 b2 b3 w:Int} (hb:RT b0 b1 b2 b3 w) (hw:w≤65535) {W H:Nat} {P:List Int} (hs:1≤W∧W≤64∧1≤H∧H≤64) (hl:P.length=W*H) (hP:upTo P 65535)
include hb hw hs hl hP
theorem aBF (kk) {y:Nat} (hy:y<H):∀(d x fuel:Nat),x+d=W→d<fuel →
  kO 1125899906842624 W H P b0 b1 b2 b3 w y kk fuel (pre W (lvF W P b0 b1 b2 b3 w) (y*W+x),(x:Int))=kk (pre W (lvF W P b0 b1 b2 b3 w) ((y+1)*W+0),(W:Int)):=by
 have hm:=Nat.mul_le_mul hs.2.1 hs.2.2.2;intro d
 induction d with
 | zero=>
  intro x fuel hk hf;obtain ⟨fuel,rfl⟩:=mK fuel (by omega);obtain rfl:x=W:=by omega
  unfold kO;rw [cF (dF (by omega)),Ke]
 | succ d ih=>
  intro x fuel hk hf;obtain ⟨fuel,rfl⟩:=mK fuel (by omega);have hx:x<W:=by omega
  have hpl:=s7 hx hy;have hpv:=Qr hP (y*W+x);have hb4:=Qq hb x y;have hih:=ih (x+1) fuel (by omega) (by omega);rw [Id _ y hx] at hih
  have hix:IntKind.i64.wrap (IntKind.i64.wrap (Int.tmod (y:Int) 2*2)+Int.tmod (x:Int) 2)=((y%2*2+x%2:Nat):Int):=by
   rw [aC3,aC3,dC (x:=((y%2:Nat):Int)*2) (by omega),dC (by omega)];omega
  have hd:=aBE hb hw 1125899906842624 hb4 hpv;unfold kO;rw [cT (dT (by omega)),hix,Lx (by omega),aC,U6,aC,at_eq 1125899906842624 hs hl hx hy,aC,Nw,hd,aC,lI (by rw [IH];simp;omega),aC,aC,dC (x:=(x:Int)+1) (by omega)];exact hih
theorem aBG (kk):∀(d y fuel:Nat),y+d=H→d<fuel →
  kQ 1125899906842624 W H P b0 b1 b2 b3 w kk fuel (pre W (lvF W P b0 b1 b2 b3 w) (y*W+0),(y:Int))=kk (pre W (lvF W P b0 b1 b2 b3 w) (H*W+0),(H:Int)):=by
 intro d
 induction d with
 | zero=>
  intro y fuel hk hf;obtain ⟨fuel,rfl⟩:=mK fuel (by omega);obtain rfl:y=H:=by omega
  unfold kQ;rw [cF (dF (by omega))]
 | succ d ih=>
  intro y fuel hk hf;obtain ⟨fuel,rfl⟩:=mK fuel (by omega);unfold kQ;rw [cT (dT (by omega))];refine (aBF hb hw hs hl hP _ (y:=y) (by omega) W 0 1125899906842624 (by omega) (by omega)).trans ?_
  dsimp only
  rw [aC,dC (by omega)];exact ih (y+1) fuel (by omega) (by omega)
theorem RW:mU 1125899906842624 W H P b0 b1 b2 b3 w=some ((W:Int),(H:Int),(List.range P.length).map (JI W P b0 b1 b2 b3 w)):=by
 unfold mU;have:=aBG hb hw hs hl hP (fun x:List Int × Int=>some ((W:Int),(H:Int),x.1)) H 0 1125899906842624 (by omega) (by omega);simp only [Nat.zero_mul,Nat.add_zero,pre,List.range_zero,List.map_nil] at this;refine this.trans ?_;rw [hl,Yw,pre,Nat.mul_comm]
end
theorem Yx:∀n:Fin 80,Eg .i64 ((n.val:Nat):Int) 1=((n.val:Nat):Int)%2:=by decide +kernel
theorem RX {u:Int} (h:0≤u∧u<80):Eg .i64 u 1=u%2:=by
 have:=Yx ⟨u.toNat,by omega⟩
 simpa [Int.toNat_of_nonneg h.1] using this
theorem aI0 (m:Int):rL .i64 m 1=m/2:=Ny m 1 (by decide)
theorem TO (N:Nat) {phase:Int} (hp:0≤phase∧phase≤3) {x y:Nat} (hx:x<64) (hy:y<64):sR N phase x y=some (tG phase x y):=by
 unfold sR;rw [aI0,dC (x:=(x:Int)+phase) (by omega),dC (x:=(y:Int)+phase/2) (by omega),RX (by omega),RX (by omega),dC (by omega)]
 congr 1
 unfold tG
 omega
def gn3 (g0 g1 g2 c:Int):Int:=if c=0 then g0 else if c=1 then g1 else g2
def gnV (g v:Int):Int:=min (v*g/256) 65535
def RY (W:Nat) (P:List Int) (phase g0 g1 g2:Int) (i:Nat):Int:=gnV (gn3 g0 g1 g2 (tG phase ((i%W:Nat):Int) ((i/W:Nat):Int))) (P.getD i 0)
def aEv (g0 g1 g2:Int):Prop:=(0≤g0∧g0≤65535)∧(0≤g1∧g1≤65535)∧(0≤g2∧g2≤65535)
theorem TP {g0 g1 g2:Int} (h:aEv g0 g1 g2) (c:Int):0≤gn3 g0 g1 g2 c∧gn3 g0 g1 g2 c≤65535:=by
 obtain ⟨h0,h1,h2⟩:=h;unfold gn3;split
 ·exact h0
 ·split
  ·exact h1
  ·exact h2
theorem U7 (g0 g1 g2:Int) {c:Int} (h:0≤c∧c≤2):idx [g0,g1,g2] c=some (gn3 g0 g1 g2 c):=by
 have hc:c=0∨c=1∨c=2:=by omega
 rcases hc with rfl | rfl | rfl <;> rfl
theorem Yy {v g:Int} (hv:0≤v∧v≤65535) (hg:0≤g∧g≤65535):0≤v*g∧v*g≤4294836225:=by
 have:=Ie (x:=v) (y:=g) (a:=65535) (b:=65535) (by omega) (by omega);have h0:=Int.mul_nonneg hv.1 hg.1
 omega
theorem aEw {g v:Int} (hv:0≤v∧v≤65535) (hg:0≤g∧g≤65535):0≤gnV g v∧gnV g v≤65535:=by
 have:=Yy hv hg;unfold gnV;omega
section
variable {g0 g1 g2:Int} (hg:aEv g0 g1 g2) {phase:Int} (hp:0≤phase∧phase≤3)
include hg hp
theorem aEx (N:Nat) {x y:Nat} (hx:x<64) (hy:y<64) {v:Int} (hv:0≤v∧v≤65535) :
  ∃r,w9 N v x y g0 g1 g2 phase=some r∧min r 65535=gnV (gn3 g0 g1 g2 (tG phase x y)) v:=by
 have hc:=II phase x y;have hm:=Yy hv (TP hg (tG phase x y));unfold w9;rw [TO N hp hx hy,aC,Lx (by omega),aC,U7 _ _ _ hc,aC,dC (by omega),aC1];exact ⟨_,rfl,rfl⟩
theorem RZ (N:Nat) {W H:Nat} {P:List Int} (hs:1≤W∧W≤64∧1≤H∧H≤64) (hl:P.length=W*H) (hP:upTo P 65535) (kk:List Int × Int→Option (Int × Int × List Int)):∀(d k fuel:Nat),k+d=P.length→d<fuel →
    fZ N W P g0 g1 g2 phase kk fuel ((List.range k).map (RY W P phase g0 g1 g2)++List.replicate (P.length-k) 0,(k:Int))=kk ((List.range P.length).map (RY W P phase g0 g1 g2),(P.length:Int)):=by
  have hm:=Nat.mul_le_mul hs.2.1 hs.2.2.2
  intro d
  induction d with
  | zero=>
    intro k fuel hk hf
    obtain ⟨fuel,rfl⟩:=mK fuel (by omega)
    obtain rfl:k=P.length:=by omega
    unfold fZ
    rw [cF (dF (by omega)),Nat.sub_self,List.replicate_zero,List.append_nil]
  | succ d ih=>
    intro k fuel hk hf
    obtain ⟨fuel,rfl⟩:=mK fuel (by omega)
    have hlt:k<P.length:=by omega
    obtain ⟨e1,e2⟩:=tdm k (show 0<W by omega)
    obtain ⟨l1,l2,_⟩:=wM (show k<W*H by omega)
    have q1:(0:Int)≤((k/W:Nat):Int):=Int.natCast_nonneg _
    have q2:((k/W:Nat):Int)<64:=by have:k/W<64:=by omega
                                   exact_mod_cast this
    have hv:=hP k
    have hg':P.getD k 0=P[k]:=by rw [List.getD_eq_getElem?_getD,List.getElem?_eq_getElem hlt];rfl
    rw [hg'] at hv
    obtain ⟨r,hr,hr2⟩:=aEx hg hp N (x:=k%W) (y:=k/W) (by omega) (by omega) hv
    unfold fZ
    rw [cT (dT (by omega)),dH,List.getElem?_eq_getElem hlt,aC,AF (by omega),aC,aC,e1,e2,dC (x:=((k/W:Nat):Int)) (by omega),hr,aC,dH,List.getElem?_eq_getElem (by simp;omega),aC,hr2]
    have hst:gnV (gn3 g0 g1 g2 (tG phase ((k%W:Nat):Int) ((k/W:Nat):Int))) P[k]=RY W P phase g0 g1 g2 k:=by unfold RY;rw [hg']
    rw [hst,Gq (RY W P phase g0 g1 g2) 0 hlt,aC,dC (by omega)]
    exact ih (k+1) fuel (by omega) (by omega)
theorem Wx (N:Nat) (kk:Int→Option (Int × Int × List Int × Int)):nZ N phase g0 g1 g2 kk 1125899906842624 0=kk 3:=by
 obtain ⟨⟨a0,c0⟩,⟨a1,c1⟩,⟨a2,c2⟩⟩:=hg
 have one:∀(fuel:Nat) (i:Nat) (b:Int),i<3→idx [g0,g1,g2] (i:Int)=some b→0≤b∧b≤65535→nZ N phase g0 g1 g2 kk (fuel+1) (i:Int)=nZ N phase g0 g1 g2 kk fuel ((i+1:Nat):Int):=fun fuel i b hi hx hb'=>by
  conv=>lhs;unfold nZ
  rw [cT (dT (by omega)),hx,aC,cF (dF (by omega)),cF (dF (by omega)),cF (dF (by omega)),cF (dF (by omega)),dC (by omega)]
  rfl
 have h0:=one 1125899906842623 0 g0 (by decide) rfl ⟨a0,c0⟩;have h1:=one 1125899906842622 1 g1 (by decide) rfl ⟨a1,c1⟩;have h2:=one 1125899906842621 2 g2 (by decide) rfl ⟨a2,c2⟩;refine h0.trans (h1.trans (h2.trans ?_));show nZ N phase g0 g1 g2 kk (1125899906842620+1) 3=kk 3;unfold nZ;rw [cF (by decide)]
theorem aBH {W H:Nat} {P:List Int} (hf:bW W H P=true):xJ 1125899906842624 W H P phase g0 g1 g2=some ((W:Int),(H:Int),(List.range P.length).map (RY W P phase g0 g1 g2),0):=by
 obtain ⟨w',h',e1,e2,w1,w2,w3,w4,hlen,hm,hall⟩:=zX hf;obtain rfl:W=w':=by omega
 obtain rfl:H=h':=by omega
 unfold xJ;rw [RQ 1125899906842624 W H P (by omega),aC,hf,cF (by rfl)];refine (Wx hg hp 1125899906842624 _).trans ?_;unfold pE;rw [aC,mk_eq (by omega),aC,Int.toNat_natCast];have hL:=RZ hg hp 1125899906842624 ⟨w1,w2,w3,w4⟩ hlen (Ig hlen hall) (fun x:List Int × Int=>some ((W:Int),(H:Int),x.1)) P.length 0 1125899906842624 (by omega) (by omega);simp only [List.range_zero,List.map_nil,List.nil_append,Nat.sub_zero] at hL;exact (congrArg (fun z=>Option.bind z fun r3:Int × Int × List Int=>some (r3.1,r3.2.1,r3.2.2,(0:Int))) hL).trans rfl
theorem Wy {W H:Nat} {P:List Int} (hs:1≤W∧W≤64∧1≤H∧H≤64) (hl:P.length=W*H) (hP:upTo P 65535) (kk):∀(d k fuel:Nat),k+d=P.length→d<fuel →
    lZ 1125899906842624 W P phase g0 g1 g2 kk fuel ((List.range k).map (RY W P phase g0 g1 g2),(k:Int))=kk ((List.range P.length).map (RY W P phase g0 g1 g2),(P.length:Int)):=by
  have hm:=Nat.mul_le_mul hs.2.1 hs.2.2.2
  intro d
  induction d with
  | zero=>
    intro k fuel hk hf
    obtain ⟨fuel,rfl⟩:=mK fuel (by omega)
    obtain rfl:k=P.length:=by omega
    unfold lZ
    rw [cF (dF (by omega))]
  | succ d ih=>
    intro k fuel hk hf
    obtain ⟨fuel,rfl⟩:=mK fuel (by omega)
    have hlt:k<P.length:=by omega
    obtain ⟨e1,e2⟩:=tdm k (show 0<W by omega)
    obtain ⟨l1,l2,_⟩:=wM (show k<W*H by omega)
    have q0:(0:Int)≤((k%W:Nat):Int):=Int.natCast_nonneg _
    have q3:((k%W:Nat):Int)<64:=by have:k%W<64:=by omega
                                   exact_mod_cast this
    have q1:(0:Int)≤((k/W:Nat):Int):=Int.natCast_nonneg _
    have q2:((k/W:Nat):Int)<64:=by have:k/W<64:=by omega
                                   exact_mod_cast this
    have hv:=hP k
    have hg':P.getD k 0=P[k]:=by rw [List.getD_eq_getElem?_getD,List.getElem?_eq_getElem hlt];rfl
    rw [hg'] at hv
    have hc:=II phase ((k%W:Nat):Int) ((k/W:Nat):Int)
    have hmm:=Yy hv (TP hg (tG phase ((k%W:Nat):Int) ((k/W:Nat):Int)))
    have hst:gnV (gn3 g0 g1 g2 (tG phase ((k%W:Nat):Int) ((k/W:Nat):Int))) P[k]=RY W P phase g0 g1 g2 k:=by unfold RY;rw [hg']
    have hih:=ih (k+1) fuel (by omega) (by omega)
    rw [←Nx,←hst] at hih
    unfold lZ
    rw [cT (dT (by omega)),dH,List.getElem?_eq_getElem hlt,aC,AF (by omega),aC,aC,e1,e2,dC (x:=((k/W:Nat):Int)) (by omega),If 1125899906842624 hp ⟨q0,q3⟩ ⟨q1,q2⟩,aC,Lx (by omega),aC,U7 _ _ _ hc,aC]
    generalize gn3 g0 g1 g2 (tG phase ((k%W:Nat):Int) ((k/W:Nat):Int))=g at *
    rw [dC (x:=P[k]*g) (by omega),NF hmm.1,dC (x:=P[k]*g/256) (by omega)]
    unfold cO
    rw [aC,lI (by simp;omega),aC,aC,dC (x:=(k:Int)+1) (by omega),show max 0 (min (P[k]*g/256) 65535)=gnV g P[k] by unfold gnV;omega]
    exact hih
theorem Wz {W H:Nat} {P:List Int} (hs:1≤W∧W≤64∧1≤H∧H≤64) (hl:P.length=W*H) (hP:upTo P 65535):oO 1125899906842624 W H P phase g0 g1 g2=some ((W:Int),(H:Int),(List.range P.length).map (RY W P phase g0 g1 g2)):=by
 have hm:=Nat.mul_le_mul hs.2.1 hs.2.2.2;unfold oO;exact Wy hg hp hs hl hP _ P.length 0 1125899906842624 (by omega) (by omega)
end
theorem WA (N:Nat) (l:List (Int × Int)) (x y:Int) (kk:Int→Option Bool) (hl:l.length≤4096):∀(d k fuel:Nat),k+d=l.length→d<fuel →
  j3 N l x y kk fuel (k:Int)=if (x,y)∈l.drop k then some true else kk l.length:=by
 intro d
 induction d with
 | zero=>
  intro k fuel hk hf;obtain ⟨fuel,rfl⟩:=mK fuel (by omega);obtain rfl:k=l.length:=by omega
  unfold j3;rw [cF (dF (by omega))]
  simp
 | succ d ih=>
  intro k fuel hk hf;obtain ⟨fuel,rfl⟩:=mK fuel (by omega);have hlt:k<l.length:=by omega
  have hih:=ih (k+1) fuel (by omega) (by omega);unfold j3;rw [cT (dT (by omega)),dH,List.getElem?_eq_getElem hlt,aC,aC,aC,dC (by omega),List.drop_eq_getElem_cons hlt]
  by_cases h1:l[k].1=x
  ·rw [cT (dT h1)]
   by_cases h2:l[k].2=y
   ·rw [cT (dT h2),if_pos];subst h1 h2;exact List.mem_cons_self
   ·rw [cF (dF h2)];refine hih.trans ?_
    have:((x,y)∈l[k]::l.drop (k+1))↔(x,y)∈l.drop (k+1):=by
     rw [List.mem_cons];exact or_iff_right fun e=>h2 (by rw [←e])
    simp only [this]
  ·rw [cF (dF h1)];refine hih.trans ?_
   have:((x,y)∈l[k]::l.drop (k+1))↔(x,y)∈l.drop (k+1):=by
    rw [List.mem_cons];exact or_iff_right fun e=>h1 (by rw [←e])
   simp only [this]
theorem R0 (l:List (Int × Int)) (x y:Int):cntF l x y=0↔(x,y)∉l:=by
 unfold cntF;have:=List.count_eq_zero (a:=(x,y)) (l:=l);rw [←this]
 omega
theorem Pv (l:List (Int × Int)) (x y:Int) (hl:l.length≤4096):oN 1125899906842624 l x y=some (!decide (cntF l x y=0)):=by
 unfold oN;have:=WA 1125899906842624 l x y (fun _=>some false) hl l.length 0 1125899906842624 (by omega) (by omega);refine this.trans ?_;rw [List.drop_zero]
 by_cases h:(x,y)∈l
 ·rw [if_pos h,dF (fun e=>(R0 l x y).1 e h)];rfl
 ·rw [if_neg h,dT ((R0 l x y).2 h)];rfl
section
variable {W H:Nat} {P:List Int} (hs:1≤W∧W≤64∧1≤H∧H≤64) (hl:P.length=W*H) (hP:upTo P 65535) {l:List (Int × Int)} (hn:l.length≤4096)
def U8 (W H:Nat) (l:List (Int × Int)) (u v:Int):Prop:=0≤u∧u<W∧0≤v∧v<H∧cntF l u v=0
instance (W H:Nat) (l:List (Int × Int)) (u v:Int):Decidable (U8 W H l u v):=by unfold U8;infer_instance
def dD (x y u v:Int):Prop:=(u=x∧(v=y-2∨v=y+2))∨(v=y∧(u=x-2∨u=x+2))
instance (x y u v:Int):Decidable (dD x y u v):=by unfold dD;infer_instance
def tS (W H:Nat) (P:List Int) (l:List (Int × Int)) (x y u v:Int):Int:=if dD x y u v∧U8 W H l u v then P.getD (v*W+u).toNat 0 else 0
def tC (W H:Nat) (l:List (Int × Int)) (x y u v:Int):Int:=if dD x y u v∧U8 W H l u v then 1 else 0
theorem aEy (N:Nat) {x y u v:Int} (hx:0≤x∧x≤64) (hy:0≤y∧y≤64) (kk:Bool→Option (Int × Int × List Int)):qG N y x v u kk=kk (decide (dD x y u v)):=by
 unfold qG;rw [dC (x:=y-2) (by omega),dC (x:=y+2) (by omega),dC (x:=x-2) (by omega),dC (x:=x+2) (by omega)]
 by_cases a:u=x
 ·rw [cT (dT a)]
  by_cases b:v=y-2
  ·rw [cT (dT b),dT (show dD x y u v by unfold dD;omega)]
  rw [cF (dF b)]
  by_cases c:v=y+2
  ·rw [cT (dT c),dT (show dD x y u v by unfold dD;omega)]
  rw [cF (dF c)]
  by_cases d:v=y
  ·rw [cT (dT d),cF (dF (by omega)),dF (show ¬u=x+2 by omega),dF (show ¬dD x y u v by unfold dD;omega)]
  ·rw [cF (dF d),dF (show ¬dD x y u v by unfold dD;omega)]
 ·rw [cF (dF a)]
  by_cases d:v=y
  ·rw [cT (dT d)]
   by_cases e:u=x-2
   ·rw [cT (dT e),dT (show dD x y u v by unfold dD;omega)]
   ·rw [cF (dF e)]
    congr 1
    rw [decide_eq_decide];unfold dD;omega
  ·rw [cF (dF d),dF (show ¬dD x y u v by unfold dD;omega)]
include hs hn in
theorem aEz {u v:Int} (b:Bool) (kk:Bool→Option (Int × Int × List Int)):qF 1125899906842624 W H l v u b kk=kk (b&&decide (U8 W H l u v)):=by
 unfold qF;cases b
 ·rfl
 rw [cT rfl,rP,aC,dC (by omega),rP,aC,dC (by omega),Pv l u v hn,aC,Bool.true_and]
 by_cases a:0≤u∧u≤(W:Int)-1
 ·rw [cT (dT a)]
  by_cases c:0≤v∧v≤(H:Int)-1
  ·rw [cT (dT c),Bool.not_not]
   congr 1
   rw [decide_eq_decide];unfold U8
   constructor
   ·intro h;exact ⟨by omega,by omega,by omega,by omega,h⟩
   ·intro h;exact h.2.2.2.2
  ·rw [cF (dF c),dF (fun h:U8 W H l u v=>by unfold U8 at h;omega)]
 ·rw [cF (dF a),dF (fun h:U8 W H l u v=>by unfold U8 at h;omega)]
theorem Yz (hP:upTo P 65535) (x y u v:Int):0≤tS W H P l x y u v∧tS W H P l x y u v≤65535:=by
 unfold tS
 split
 ·exact hP _
 ·omega
theorem YA (x y u v:Int):0≤tC W H l x y u v∧tC W H l x y u v≤1:=by
 unfold tC
 split <;> omega
include hs hl hP hn
theorem YB {x y u v s c:Int} (hx:0≤x∧x≤64) (hy:0≤y∧y≤64) (hu:u≤x+2∧-2≤u) (hs0:0≤s∧s≤100000000) (hc0:0≤c∧c≤1000) (kk) (fuel:Nat) :
  gU 1125899906842624 W H P l y x v kk (fuel+1) (s,c,u)=gU 1125899906842624 W H P l y x v kk fuel (s+tS W H P l x y u v,c+tC W H l x y u v,u+1):=by
 conv=>lhs;unfold gU
 have ht:=Yz (W:=W) (H:=H) (l:=l) hP x y u v;have hc:=YA (W:=W) (H:=H) (l:=l) x y u v;rw [dC (x:=x+2) (by omega),cT (dT hu.1),aEy 1125899906842624 hx hy,aEz hs hn];unfold tW
 by_cases h:dD x y u v∧U8 W H l u v
 ·obtain ⟨h1,h2⟩:=h;have h2':=h2;obtain ⟨u',rfl⟩:∃n:Nat,u=n:=⟨u.toNat,by unfold U8 at h2;omega⟩
  obtain ⟨v',rfl⟩:∃n:Nat,v=n:=⟨v.toNat,by unfold U8 at h2;omega⟩
  unfold U8 at h2'
  have e:tS W H P l x y u' v'=P.getD (v'*W+u') 0:=by
   unfold tS;rw [if_pos ⟨h1,h2⟩]
   congr 1
  have e2:tC W H l x y u' v'=1:=by unfold tC;rw [if_pos ⟨h1,h2⟩]
  rw [cT (by rw [dT h1,dT h2];rfl),at_eq 1125899906842624 hs hl (by omega) (by omega),aC,aC,aC,e2,←e,dC (x:=s+tS W H P l x y u' v') (by omega),dC (x:=c+1) (by omega)]
  dsimp only
  rw [aC,dC (by omega)]
 ·have e:tS W H P l x y u v=0:=by unfold tS;rw [if_neg h]
  have e2:tC W H l x y u v=0:=by unfold tC;rw [if_neg h]
  rw [cF (by rw [←Bool.decide_and];exact dF h),e,e2,Int.add_zero,Int.add_zero]
  dsimp only
  rw [aC,dC (by omega)]
def rS (W H:Nat) (P:List Int) (l:List (Int × Int)) (x y v:Int):Int:=tS W H P l x y (x-2) v+tS W H P l x y (x-1) v+tS W H P l x y x v+tS W H P l x y (x+1) v+tS W H P l x y (x+2) v
def rC (W H:Nat) (l:List (Int × Int)) (x y v:Int):Int:=tC W H l x y (x-2) v+tC W H l x y (x-1) v+tC W H l x y x v+tC W H l x y (x+1) v+tC W H l x y (x+2) v
theorem aBI {x y v s c:Int} (hx:0≤x∧x≤64) (hy:0≤y∧y≤64) (hs0:0≤s∧s≤10000000) (hc0:0≤c∧c≤900) (kk) :
  gU 1125899906842624 W H P l y x v kk 1125899906842624 (s,c,x-2)=kk (s+rS W H P l x y v,c+rC W H l x y v,x+3):=by
 have b:=fun u=>Yz (W:=W) (H:=H) (l:=l) hP x y u v
 have d:=fun u=>YA (W:=W) (H:=H) (l:=l) x y u v
 have b1:=b (x-2);have b2:=b (x-1);have b3:=b x;have b4:=b (x+1);have b5:=b (x+2);have d1:=d (x-2);have d2:=d (x-1);have d3:=d x;have d4:=d (x+1);have d5:=d (x+2);have st:=fun (u s c:Int) fuel h1 h2 h3=>YB hs hl hP hn (x:=x) (y:=y) (v:=v) (u:=u) (s:=s) (c:=c) hx hy h1 h2 h3 kk fuel
 refine (st _ _ _ 1125899906842623 (by omega) (by omega) (by omega)).trans ?_;rw [show x-2+1=x-1 by omega];refine (st _ _ _ 1125899906842622 (by omega) (by omega) (by omega)).trans ?_;rw [show x-1+1=x by omega];refine (st _ _ _ 1125899906842621 (by omega) (by omega) (by omega)).trans ?_;refine (st _ _ _ 1125899906842620 (by omega) (by omega) (by omega)).trans ?_;rw [show x+1+1=x+2 by omega];refine (st _ _ _ 1125899906842619 (by omega) (by omega) (by omega)).trans ?_;rw [show x+2+1=x+3 by omega];unfold gU;rw [dC (x:=x+2) (by omega),cF (dF (by omega))];unfold rS rC
 congr 1
 simp only [Prod.mk.injEq,and_true]
 constructor <;> omega
theorem aGu (x y v:Int):(0≤rS W H P l x y v∧rS W H P l x y v≤327675)∧(0≤rC W H l x y v∧rC W H l x y v≤5):=by
 have b:=fun u=>Yz (W:=W) (H:=H) (l:=l) hP x y u v
 have d:=fun u=>YA (W:=W) (H:=H) (l:=l) x y u v
 have b1:=b (x-2);have b2:=b (x-1);have b3:=b x;have b4:=b (x+1);have b5:=b (x+2);have d1:=d (x-2);have d2:=d (x-1);have d3:=d x;have d4:=d (x+1);have d5:=d (x+2);unfold rS rC
 omega
theorem aBJ {x y:Int} (hx:0≤x∧x≤64) (hy:0≤y∧y≤64) (kk) :
  gV 1125899906842624 W H P l y x kk 1125899906842624 (0,0,y-2)=kk (rS W H P l x y (y-2)+rS W H P l x y (y-1)+rS W H P l x y y+rS W H P l x y (y+1)+rS W H P l x y (y+2),rC W H l x y (y-2)+rC W H l x y (y-1)+rC W H l x y y+rC W H l x y (y+1)+rC W H l x y (y+2),y+3):=by
 have b:=fun v=>aGu hs hl hP hn x y v
 have b1:=b (y-2);have b2:=b (y-1);have b3:=b y;have b4:=b (y+1);have b5:=b (y+2)
 have st:∀(v s c:Int) (fuel:Nat),v≤y+2→-2≤v→(0≤s∧s≤10000000)→(0≤c∧c≤900)→gV 1125899906842624 W H P l y x kk (fuel+1) (s,c,v)=gV 1125899906842624 W H P l y x kk fuel (s+rS W H P l x y v,c+rC W H l x y v,v+1):=fun v s c fuel h1 h0 h2 h3=>by
  conv=>lhs;unfold gV
  rw [dC (x:=y+2) (by omega),cT (dT h1),dC (x:=x-2) (by omega),aC];refine (aBI hs hl hP hn hx hy h2 h3 _).trans ?_
  dsimp only
  rw [aC,dC (x:=v+1) (by omega)]
 refine (st _ _ _ 1125899906842623 (by omega) (by omega) (by omega) (by omega)).trans ?_;rw [show y-2+1=y-1 by omega];refine (st _ _ _ 1125899906842622 (by omega) (by omega) (by omega) (by omega)).trans ?_;rw [show y-1+1=y by omega];refine (st _ _ _ 1125899906842621 (by omega) (by omega) (by omega) (by omega)).trans ?_;refine (st _ _ _ 1125899906842620 (by omega) (by omega) (by omega) (by omega)).trans ?_;rw [show y+1+1=y+2 by omega];refine (st _ _ _ 1125899906842619 (by omega) (by omega) (by omega) (by omega)).trans ?_;rw [show y+2+1=y+3 by omega];unfold gV;rw [dC (x:=y+2) (by omega),cF (dF (by omega))]
 congr 1
 simp only [Prod.mk.injEq,and_true]
 constructor <;> omega
end
section
variable {W H:Nat} {P:List Int} {l:List (Int × Int)}
theorem aGv {x y u v:Int} (h:¬dD x y u v):tS W H P l x y u v=0:=by unfold tS;rw [if_neg (fun h'=>h h'.1)]
theorem aGw {x y u v:Int} (h:¬dD x y u v):tC W H l x y u v=0:=by unfold tC;rw [if_neg (fun h'=>h h'.1)]
theorem U9 {x y:Int} (k:Nat) (h:dD x y (Lk x k) (FO y k)):tS W H P l x y (Lk x k) (FO y k)=if HU W H (cntF l) x y k then Fm W P x y k else 0:=by
 unfold tS Fm
 by_cases g:HU W H (cntF l) x y k
 ·rw [if_pos g,if_pos ⟨h,g⟩]
 ·rw [if_neg g,if_neg (fun h'=>g h'.2)]
theorem Va {x y:Int} (k:Nat) (h:dD x y (Lk x k) (FO y k)):tC W H l x y (Lk x k) (FO y k)=if HU W H (cntF l) x y k then 1 else 0:=by
 unfold tC
 by_cases g:HU W H (cntF l) x y k
 ·rw [if_pos g,if_pos ⟨h,g⟩]
 ·rw [if_neg g,if_neg (fun h'=>g h'.2)]
theorem aBK (x y:Int):rS W H P l x y (y-2)+rS W H P l x y (y-1)+rS W H P l x y y+rS W H P l x y (y+1)+rS W H P l x y (y+2)=Aa W H (cntF l) P x y 4:=by
 have n0:=U9 (W:=W) (H:=H) (P:=P) (l:=l) (x:=x) (y:=y) 0 (by show dD x y (x-2) y;unfold dD;omega);have n1:=U9 (W:=W) (H:=H) (P:=P) (l:=l) (x:=x) (y:=y) 1 (by show dD x y (x+2) y;unfold dD;omega);have n2:=U9 (W:=W) (H:=H) (P:=P) (l:=l) (x:=x) (y:=y) 2 (by show dD x y x (y-2);unfold dD;omega);have n3:=U9 (W:=W) (H:=H) (P:=P) (l:=l) (x:=x) (y:=y) 3 (by show dD x y x (y+2);unfold dD;omega);simp only [Aa,←n0,←n1,←n2,←n3];show _=0+tS W H P l x y (x-2) y+tS W H P l x y (x+2) y+tS W H P l x y x (y-2)+tS W H P l x y x (y+2);have no:∀u v,¬dD x y u v→tS W H P l x y u v=0:=fun u v h=>aGv h
 unfold rS
 rw [no (x-2) (y-2) (by unfold dD;omega),no (x-1) (y-2) (by unfold dD;omega),no (x+1) (y-2) (by unfold dD;omega),no (x+2) (y-2) (by unfold dD;omega),
  no (x-2) (y-1) (by unfold dD;omega),no (x-1) (y-1) (by unfold dD;omega),no x (y-1) (by unfold dD;omega),no (x+1) (y-1) (by unfold dD;omega),no (x+2) (y-1) (by unfold dD;omega),
  no (x-1) y (by unfold dD;omega),no x y (by unfold dD;omega),no (x+1) y (by unfold dD;omega),
  no (x-2) (y+1) (by unfold dD;omega),no (x-1) (y+1) (by unfold dD;omega),no x (y+1) (by unfold dD;omega),no (x+1) (y+1) (by unfold dD;omega),no (x+2) (y+1) (by unfold dD;omega),
  no (x-2) (y+2) (by unfold dD;omega),no (x-1) (y+2) (by unfold dD;omega),no (x+1) (y+2) (by unfold dD;omega),no (x+2) (y+2) (by unfold dD;omega)]
 omega
theorem aBL (x y:Int):rC W H l x y (y-2)+rC W H l x y (y-1)+rC W H l x y y+rC W H l x y (y+1)+rC W H l x y (y+2)=uE W H (cntF l) x y 4:=by
 have n0:=Va (W:=W) (H:=H) (l:=l) (x:=x) (y:=y) 0 (by show dD x y (x-2) y;unfold dD;omega);have n1:=Va (W:=W) (H:=H) (l:=l) (x:=x) (y:=y) 1 (by show dD x y (x+2) y;unfold dD;omega);have n2:=Va (W:=W) (H:=H) (l:=l) (x:=x) (y:=y) 2 (by show dD x y x (y-2);unfold dD;omega);have n3:=Va (W:=W) (H:=H) (l:=l) (x:=x) (y:=y) 3 (by show dD x y x (y+2);unfold dD;omega);simp only [uE,←n0,←n1,←n2,←n3];show _=0+tC W H l x y (x-2) y+tC W H l x y (x+2) y+tC W H l x y x (y-2)+tC W H l x y x (y+2);have no:∀u v,¬dD x y u v→tC W H l x y u v=0:=fun u v h=>aGw h
 unfold rC
 rw [no (x-2) (y-2) (by unfold dD;omega),no (x-1) (y-2) (by unfold dD;omega),no (x+1) (y-2) (by unfold dD;omega),no (x+2) (y-2) (by unfold dD;omega),
  no (x-2) (y-1) (by unfold dD;omega),no (x-1) (y-1) (by unfold dD;omega),no x (y-1) (by unfold dD;omega),no (x+1) (y-1) (by unfold dD;omega),no (x+2) (y-1) (by unfold dD;omega),
  no (x-1) y (by unfold dD;omega),no x y (by unfold dD;omega),no (x+1) y (by unfold dD;omega),
  no (x-2) (y+1) (by unfold dD;omega),no (x-1) (y+1) (by unfold dD;omega),no x (y+1) (by unfold dD;omega),no (x+1) (y+1) (by unfold dD;omega),no (x+2) (y+1) (by unfold dD;omega),
  no (x-2) (y+2) (by unfold dD;omega),no (x-1) (y+2) (by unfold dD;omega),no (x+1) (y+2) (by unfold dD;omega),no (x+2) (y+2) (by unfold dD;omega)]
 omega
theorem TQ (hP:upTo P 65535) (x y:Int):∀k,0≤uE W H (cntF l) x y k∧uE W H (cntF l) x y k≤k∧0≤Aa W H (cntF l) P x y k∧Aa W H (cntF l) P x y k≤65535*uE W H (cntF l) x y k
 | 0=>by simp [uE,Aa]
 | k+1=>by
  have:=TQ hP x y k;have hv:0≤Fm W P x y k∧Fm W P x y k≤65535:=hP _;simp only [uE,Aa]
  split <;> omega
def Pw (W H:Nat) (P:List Int) (l:List (Int × Int)) (x y:Nat):Int:=min (zN W H (cntF l) P (P.getD (y*W+x) 0) x y) 65535
theorem R1 (n:Nat):(List.range n).map (sO W H l P)=pre W (Pw W H P l) n:=by
 unfold pre;refine List.map_congr_left fun i _=>?_
 unfold sO Pw;rw [Nat.mul_comm,Nat.div_add_mod,Int.natCast_emod,Int.natCast_ediv]
end
section
variable {W H:Nat} {P:List Int} (hs:1≤W∧W≤64∧1≤H∧H≤64) (hl:P.length=W*H) (hP:upTo P 65535) {l:List (Int × Int)} (hn:l.length≤4096)
include hP in
theorem aEA (x y:Nat):0≤Pw W H P l x y∧Pw W H P l x y≤65535:=by
 have hv:=Qr hP (y*W+x);have hb:=TQ (W:=W) (H:=H) (l:=l) hP x y 4
 have:0≤zN W H (cntF l) P (P.getD (y*W+x) 0) x y:=by
  unfold zN
  split
  ·exact hv.1
  ·split
   ·omega
   ·exact Int.ediv_nonneg hb.2.2.1 hb.1
 unfold Pw
 omega
include hs hl hP hn
theorem aBM (kk) {y:Nat} (hy:y<H):∀(d x fuel:Nat),x+d=W→d<fuel →
  jD 1125899906842624 W H P l y kk fuel (pre W (Pw W H P l) (y*W+x),(x:Int))=kk (pre W (Pw W H P l) ((y+1)*W+0),(W:Int)):=by
 have hm:=Nat.mul_le_mul hs.2.1 hs.2.2.2;intro d
 induction d with
 | zero=>
  intro x fuel hk hf;obtain ⟨fuel,rfl⟩:=mK fuel (by omega);obtain rfl:x=W:=by omega
  unfold jD;rw [cF (dF (by omega)),Ke]
 | succ d ih=>
  intro x fuel hk hf;obtain ⟨fuel,rfl⟩:=mK fuel (by omega);have hx:x<W:=by omega
  have hpl:=s7 hx hy;have hpv:=Qr hP (y*W+x);have hb:=TQ (W:=W) (H:=H) (l:=l) hP x y 4;have hih:=ih (x+1) fuel (by omega) (by omega);rw [Id _ y hx] at hih;unfold jD;rw [cT (dT (by omega)),Pv l x y hn,aC,Bool.not_not]
  by_cases h:cntF l x y=0
  ·rw [cT (dT h),at_eq 1125899906842624 hs hl hx hy,aC,lI (by rw [IH];simp;omega),aC,aC,dC (x:=(x:Int)+1) (by omega)]
   have e:P.getD (y*W+x) 0=Pw W H P l x y:=by
    unfold Pw zN;rw [if_pos h];omega
   rw [e];exact hih
  ·rw [cF (dF h),dC (x:=(y:Int)-2) (by omega),aC];refine (aBJ hs hl hP hn (by omega) (by omega) _).trans ?_;rw [aBK,aBL]
   dsimp only
   have e:IntKind.i64.wrap (Int.tdiv (Aa W H (cntF l) P x y 4) (max (uE W H (cntF l) x y 4) 1))=Pw W H P l x y:=by
    have h1:Pw W H P l x y=min (if uE W H (cntF l) x y 4=0 then 0 else Aa W H (cntF l) P x y 4/uE W H (cntF l) x y 4) 65535:=by
     unfold Pw zN;rw [if_neg h]
    rw [h1,NF hb.2.2.1]
    generalize Aa W H (cntF l) P x y 4=S at *
    generalize uE W H (cntF l) x y 4=C at *
    by_cases hc:C=0
    ·subst hc;rw [if_pos rfl,show S=0 by omega]
     rfl
    ·rw [if_neg hc,Int.max_eq_left (by omega)];have q1:=Int.ediv_nonneg (show 0≤S by omega) (show 0≤C by omega);have q2:S/C≤65535:=Int.ediv_le_of_le_mul (by omega) (by omega);rw [dC (by omega)]
     omega
   rw [AF (by omega),aC,e,lI (by rw [IH];simp;omega),aC,aC,dC (x:=(x:Int)+1) (by omega)];exact hih
theorem aBN (kk):∀(d y fuel:Nat),y+d=H→d<fuel →
  kR 1125899906842624 W H P l kk fuel (pre W (Pw W H P l) (y*W+0),(y:Int))=kk (pre W (Pw W H P l) (H*W+0),(H:Int)):=by
 intro d
 induction d with
 | zero=>
  intro y fuel hk hf;obtain ⟨fuel,rfl⟩:=mK fuel (by omega);obtain rfl:y=H:=by omega
  unfold kR;rw [cF (dF (by omega))]
 | succ d ih=>
  intro y fuel hk hf;obtain ⟨fuel,rfl⟩:=mK fuel (by omega);unfold kR;rw [cT (dT (by omega))];refine (aBM hs hl hP hn _ (y:=y) (by omega) W 0 1125899906842624 (by omega) (by omega)).trans ?_
  dsimp only
  rw [aC,dC (by omega)];exact ih (y+1) fuel (by omega) (by omega)
theorem R2:mV 1125899906842624 W H P l=some ((W:Int),(H:Int),(List.range P.length).map (sO W H l P)):=by
 unfold mV;have:=aBN hs hl hP hn (fun x:List Int × Int=>some ((W:Int),(H:Int),x.1)) H 0 1125899906842624 (by omega) (by omega);simp only [Nat.zero_mul,Nat.add_zero,pre,List.range_zero,List.map_nil] at this;refine this.trans ?_;rw [hl,R1,pre,Nat.mul_comm]
end
theorem YC (N:Nat) {W H:Nat} {P:List Px} (hs:qI W H P.length) (m0 m1 m2 m3 m4 m5 m6 m7 m8:Int) (g:Nat→Px) (hg:∀i p,P[i]? = some p→zR N p.1 p.2.1 p.2.2 ((i%W:Nat):Int) ((i/W:Nat):Int) m0 m1 m2 m3 m4 m5 m6 m7 m8=some (g i)) (kk:List Px × Int→Option (Int × Int × List Px × Int)):∀(d k fuel:Nat),k+d=P.length→d<fuel →
  jC N W P m0 m1 m2 m3 m4 m5 m6 m7 m8 kk fuel ((List.range k).map g++List.replicate (P.length-k) Ff,(k:Int))=kk ((List.range P.length).map g,(P.length:Int)):=by
 obtain ⟨h1,h2,h3,h4,h5,h6⟩:=EW W H P hs;intro d
 induction d with
 | zero=>
  intro k fuel hk hf;obtain ⟨fuel,rfl⟩:=mK fuel (by omega);obtain rfl:k=P.length:=by omega
  unfold jC;rw [cF (dF (by omega)),Nat.sub_self,List.replicate_zero,List.append_nil]
 | succ d ih=>
  intro k fuel hk hf;obtain ⟨fuel,rfl⟩:=mK fuel (by omega);have hlt:k<P.length:=by omega
  obtain ⟨e1,e2⟩:=tdm k (show 0<W by omega);have hq:k/W<H:=Nat.div_lt_of_lt_mul (by omega);have hq0:(0:Int)≤((k/W:Nat):Int):=Int.natCast_nonneg _;unfold jC;rw [cT (dT (by omega)),dH,List.getElem?_eq_getElem hlt,aC,AF (by omega),aC,aC,e1,e2,dC (x:=((k/W:Nat):Int)) (by omega)];rw [hg k _ (List.getElem?_eq_getElem hlt),aC,dH,List.getElem?_eq_getElem (by simp;omega),aC];rw [Gq g Ff hlt,aC,dC (by omega)];exact ih (k+1) fuel (by omega) (by omega)
theorem YD (N:Nat) {W H:Nat} {P:List Px} (hN:5000≤N) (m0 m1 m2 m3 m4 m5 m6 m7 m8:Int) (hp:uB W H P=true) (g:Nat→Px) (hg:∀i p,P[i]? = some p→zR N p.1 p.2.1 p.2.2 ((i%W:Nat):Int) ((i/W:Nat):Int) m0 m1 m2 m3 m4 m5 m6 m7 m8=some (g i)) :
  kH N W H P m0 m1 m2 m3 m4 m5 m6 m7 m8=some ((W:Int),(H:Int),(List.range P.length).map g,0):=by
 have hs:=rO hp;have hl:=BZ hs;obtain ⟨a,b,l,ht⟩:=CK N W H P hN;rw [hp,if_pos rfl] at ht;unfold kH;rw [ht,aC,cF (by rfl),aC,mk_eq (by omega),aC,Int.toNat_natCast];exact YC N hs m0 m1 m2 m3 m4 m5 m6 m7 m8 g hg _ P.length 0 N (by omega) (by omega)
theorem YE (N:Nat) {W H:Int} {P:List Px} (hN:5000≤N) (m0 m1 m2 m3 m4 m5 m6 m7 m8:Int) (hp:uB W H P=false):kH N W H P m0 m1 m2 m3 m4 m5 m6 m7 m8=some (0,0,[],1):=by
 obtain ⟨a,b,l,ht⟩:=CK N W H P hN;rw [hp] at ht;unfold kH;rw [ht]
 rfl
def Xy (m:Int):Bool:=decide (-32768≤m∧m≤32768)
section
variable (N:Nat) (m0 m1 m2 m3 m4 m5 m6 m7 m8:Int)
theorem aEB (kk):∀(d k fuel:Nat) (b:Bool),k+d=9→d<fuel →
  rY N m0 m1 m2 m3 m4 m5 m6 m7 m8 kk fuel (b,(k:Int))=kk (b&&([m0,m1,m2,m3,m4,m5,m6,m7,m8].drop k).all Xy,9):=by
 intro d
 induction d with
 | zero=>
  intro k fuel b hk hf;obtain ⟨fuel,rfl⟩:=mK fuel (by omega);obtain rfl:k=9:=by omega
  unfold rY;rw [cF (dF (by omega))]
  simp
 | succ d ih=>
  intro k fuel b hk hf;obtain ⟨fuel,rfl⟩:=mK fuel (by omega);have hlt:k<[m0,m1,m2,m3,m4,m5,m6,m7,m8].length:=by show k<9;omega
  unfold rY;rw [cT (dT (by omega)),dH,List.getElem?_eq_getElem hlt,aC,dC (by omega),List.drop_eq_getElem_cons hlt,List.all_cons];obtain ⟨e,he⟩:∃e,[m0,m1,m2,m3,m4,m5,m6,m7,m8][k]=e:=⟨_,rfl⟩
  rw [he];have key:∀c,rY N m0 m1 m2 m3 m4 m5 m6 m7 m8 kk fuel (c,(k:Int)+1)=kk (c&&([m0,m1,m2,m3,m4,m5,m6,m7,m8].drop (k+1)).all Xy,9):=fun c=>ih (k+1) fuel c (by omega) (by omega)
  rw [key,key];cases b
  ·rfl
  ·rw [cond_true]
   by_cases h1:-32768≤e
   ·rw [cT (dT h1),Xy]
    by_cases h2:e≤32768
    ·rw [dT h2,dT ⟨h1,h2⟩];simp
    ·rw [dF h2,dF (fun h=>h2 h.2)];simp
   ·rw [cF (dF h1),Xy,dF (fun h=>h1 h.1)];simp
theorem TR (kk):∀(d k fuel:Nat),k+d=9→d<fuel →
  lC N m0 m1 m2 m3 m4 m5 m6 m7 m8 kk fuel (k:Int)=if ([m0,m1,m2,m3,m4,m5,m6,m7,m8].drop k).all Xy then kk 9 else some false:=by
 intro d
 induction d with
 | zero=>
  intro k fuel hk hf;obtain ⟨fuel,rfl⟩:=mK fuel (by omega);obtain rfl:k=9:=by omega
  unfold lC;rw [cF (dF (by omega))]
  simp
 | succ d ih=>
  intro k fuel hk hf;obtain ⟨fuel,rfl⟩:=mK fuel (by omega);have hlt:k<[m0,m1,m2,m3,m4,m5,m6,m7,m8].length:=by show k<9;omega
  unfold lC;rw [cT (dT (by omega)),show inr (k:Int) 9=some () from by unfold inr;rw [if_pos (by omega)],aC,dH,List.getElem?_eq_getElem hlt,aC,rP,aC,List.drop_eq_getElem_cons hlt,List.all_cons];obtain ⟨e,he⟩:∃e,[m0,m1,m2,m3,m4,m5,m6,m7,m8][k]=e:=⟨_,rfl⟩
  rw [he];have hih:=ih (k+1) fuel (by omega) (by omega)
  by_cases h:-32768≤e∧e≤32768
  ·rw [cF (by simp [h]),aC,dC (by omega),Xy,dT h,Bool.true_and];exact hih
  ·rw [cT (by simp only [Bool.not_eq_true',decide_eq_false_iff_not];exact h),Xy,dF h];simp
def B2:Bool:=[m0,m1,m2,m3,m4,m5,m6,m7,m8].all Xy
theorem TS (hN:5000≤N):qA N m0 m1 m2 m3 m4 m5 m6 m7 m8=some (B2 m0 m1 m2 m3 m4 m5 m6 m7 m8):=by
 unfold qA;refine (TR N m0 m1 m2 m3 m4 m5 m6 m7 m8 _ 9 0 N (by omega) (by omega)).trans ?_;rw [List.drop_zero,←B2]
 cases B2 m0 m1 m2 m3 m4 m5 m6 m7 m8 <;> rfl
def NG (a b c:Int) (p:Px):Int:=max 0 (min (rL .i64 (IntKind.i64.wrap (IntKind.i64.wrap (IntKind.i64.wrap (a*p.1)+IntKind.i64.wrap (b*p.2.1))+IntKind.i64.wrap (c*p.2.2))) 12) 65535)
def Ly (p:Px):Px:=(NG m0 m1 m2 p,NG m3 m4 m5 p,NG m6 m7 m8 p)
theorem aGx (p:Px) (x y:Int):zR N p.1 p.2.1 p.2.2 x y m0 m1 m2 m3 m4 m5 m6 m7 m8=some (Ly m0 m1 m2 m3 m4 m5 m6 m7 m8 p):=rfl
theorem aEC (hN:5000≤N) (W H:Int) (P:List Px):CI N W H P m0 m1 m2 m3 m4 m5 m6 m7 m8 =
  some (if uB W H P=false then (0,0,[],1) else if B2 m0 m1 m2 m3 m4 m5 m6 m7 m8=false then (0,0,[],3) else (W,H,(List.range P.length).map (fun i=>Ly m0 m1 m2 m3 m4 m5 m6 m7 m8 (P.getD i Ff)),0)):=by
 unfold CI;refine (aEB N m0 m1 m2 m3 m4 m5 m6 m7 m8 _ 9 0 N true (by omega) (by omega)).trans ?_;rw [List.drop_zero,←B2,Bool.true_and];cases hp:uB W H P
 ·simp only [YE N hN m0 m1 m2 m3 m4 m5 m6 m7 m8 hp,aC];rw [cF (by decide)];rfl
 ·have hs:=rO hp;obtain ⟨W,rfl⟩:∃n:Nat,W=n:=⟨W.toNat,by have:=hs.1;omega⟩
  obtain ⟨H,rfl⟩:∃n:Nat,H=n:=⟨H.toNat,by have:=hs.2.2.1;omega⟩
  have:=YD N hN m0 m1 m2 m3 m4 m5 m6 m7 m8 hp (fun i=>Ly m0 m1 m2 m3 m4 m5 m6 m7 m8 (P.getD i Ff)) (fun i p hi=>by rw [aGx,List.getD_eq_getElem?_getD,hi];rfl);simp only [this,aC];rw [cT (by rfl),if_neg (by simp)]
  cases B2 m0 m1 m2 m3 m4 m5 m6 m7 m8 <;> rfl
theorem YF (N fuel:Nat) (r6:Px) (kk):mW N m0 m1 m2 m3 m4 m5 m6 m7 m8 r6 kk (fuel+4) (0,0,0,0) =
  Option.bind (bD N (IntKind.i64.wrap (IntKind.i64.wrap (IntKind.i64.wrap (m0*r6.1)+IntKind.i64.wrap (m1*r6.2.1))+IntKind.i64.wrap (m2*r6.2.2))) 4096) fun a=>
  Option.bind (cO N a) fun a'=>
  Option.bind (bD N (IntKind.i64.wrap (IntKind.i64.wrap (IntKind.i64.wrap (m3*r6.1)+IntKind.i64.wrap (m4*r6.2.1))+IntKind.i64.wrap (m5*r6.2.2))) 4096) fun b=>
  Option.bind (cO N b) fun b'=>
  Option.bind (bD N (IntKind.i64.wrap (IntKind.i64.wrap (IntKind.i64.wrap (m6*r6.1)+IntKind.i64.wrap (m7*r6.2.1))+IntKind.i64.wrap (m8*r6.2.2))) 4096) fun c=>
  Option.bind (cO N c) fun c'=>kk (a',b',c',3):=by kernel_rfl
theorem Qs {a b c:Int} {p:Px} (ha:Xy a=true) (hb:Xy b=true) (hc:Xy c=true) (hp:Af p=true) (N:Nat) :
  (Option.bind (bD N (IntKind.i64.wrap (IntKind.i64.wrap (IntKind.i64.wrap (a*p.1)+IntKind.i64.wrap (b*p.2.1))+IntKind.i64.wrap (c*p.2.2))) 4096) fun r=>cO N r)=some (NG a b c p):=by
 simp only [Xy,Af,decide_eq_true_eq] at ha hb hc hp;have h1:=Ie (a:=32768) (b:=65535) (x:=a) (y:=p.1) (by omega) (by omega);have h2:=Ie (a:=32768) (b:=65535) (x:=b) (y:=p.2.1) (by omega) (by omega);have h3:=Ie (a:=32768) (b:=65535) (x:=c) (y:=p.2.2) (by omega) (by omega);unfold NG;rw [dC (x:=a*p.1) (by omega),dC (x:=b*p.2.1) (by omega),dC (x:=c*p.2.2) (by omega),dC (x:=a*p.1+b*p.2.1) (by omega),dC (by omega),IJ N (by omega) (by omega),aC,aGs]
 rfl
end
section
variable (m0 m1 m2 m3 m4 m5 m6 m7 m8:Int)
theorem YG {W H:Int} {P:List Px} (hp:uB W H P=true) (hm:B2 m0 m1 m2 m3 m4 m5 m6 m7 m8=true) (kk):∀(d k fuel:Nat),k+d=P.length→d<fuel →
  mX 1125899906842624 P m0 m1 m2 m3 m4 m5 m6 m7 m8 kk fuel ((List.range k).map (fun i=>Ly m0 m1 m2 m3 m4 m5 m6 m7 m8 (P.getD i Ff)),(k:Int))=kk ((List.range P.length).map (fun i=>Ly m0 m1 m2 m3 m4 m5 m6 m7 m8 (P.getD i Ff)),(P.length:Int)):=by
 have hl:=BZ (rO hp);simp only [B2,List.all_cons,List.all_nil,Bool.and_eq_true] at hm;obtain ⟨o0,o1,o2,o3,o4,o5,o6,o7,o8,_⟩:=hm;intro d
 induction d with
 | zero=>
  intro k fuel hk hf;obtain ⟨fuel,rfl⟩:=mK fuel (by omega);obtain rfl:k=P.length:=by omega
  unfold mX;rw [cF (dF (by omega))]
 | succ d ih=>
  intro k fuel hk hf;obtain ⟨fuel,rfl⟩:=mK fuel (by omega);have hlt:k<P.length:=by omega
  have hx:=List.getElem?_eq_getElem hlt;obtain ⟨p,hpe⟩:∃p,P[k]=p:=⟨_,rfl⟩
  rw [hpe] at hx;have hok:Af p=true:=by have:=RN hp hx;simpa [Af] using this
  have hg:P.getD k Ff=p:=by rw [List.getD_eq_getElem?_getD,hx];rfl
  unfold mX;rw [cT (dT (by omega)),dH,hx,aC];unfold lA;rw [aC];refine (YF m0 m1 m2 m3 m4 m5 m6 m7 m8 1125899906842624 1125899906842620 (p.1,p.2.1,p.2.2) _).trans ?_;rw [Nw,Qs (p:=p) o0 o1 o2 hok,aC,Nw,Qs (p:=p) o3 o4 o5 hok,aC,Nw,Qs (p:=p) o6 o7 o8 hok,aC];unfold iP
  dsimp only
  have e:(NG m0 m1 m2 p,NG m3 m4 m5 p,NG m6 m7 m8 p)=Ly m0 m1 m2 m3 m4 m5 m6 m7 m8 (P.getD k Ff):=by rw [hg];rfl
  rw [aC,e,lI (by simp;omega),aC,aC,dC (by omega),Nx (fun i=>Ly m0 m1 m2 m3 m4 m5 m6 m7 m8 (P.getD i Ff))];exact ih (k+1) fuel (by omega) (by omega)
theorem YH {W H:Int} {P:List Px} (hp:uB W H P=true) (hm:B2 m0 m1 m2 m3 m4 m5 m6 m7 m8=true) :
  sI 1125899906842624 W H P m0 m1 m2 m3 m4 m5 m6 m7 m8=some (W,H,(List.range P.length).map (fun i=>Ly m0 m1 m2 m3 m4 m5 m6 m7 m8 (P.getD i Ff))):=by
 have hl:=BZ (rO hp);unfold sI;exact YG m0 m1 m2 m3 m4 m5 m6 m7 m8 hp hm (fun x=>some (W,H,x.1)) P.length 0 1125899906842624 (by omega) (by omega)
end
abbrev Pt:=Int × Int
def cX (l:List Pt) (i:Nat):Int:=(l.getD i (0,0)).1
def cY (l:List Pt) (i:Nat):Int:=(l.getD i (0,0)).2
def Qt (l:List Pt) (i:Nat):Prop:=cX l i<cX l (i+1)∧cY l i≤cY l (i+1)
structure pJ (l:List Pt):Prop where
 len:2≤l.length∧l.length≤16
 x0:cX l 0=0
 xn:cX l (l.length-1)=65535
 y0:0≤cY l 0
 yn:cY l (l.length-1)≤65535
 step:∀i,i+1<l.length→Qt l i
theorem wF (l:List Pt) {k:Nat} (h:k<l.length):idx l (k:Int)=some (l.getD k (0,0)):=by
 rw [dH,List.getD_eq_getElem?_getD,List.getElem?_eq_getElem h];rfl
theorem NH (l:List Pt) (h:1≤l.length∧l.length≤1000000):idx l (IntKind.i64.wrap ((l.length:Int)-1))=some (l.getD (l.length-1) (0,0)):=by
 rw [dC (by omega),show (l.length:Int)-1=((l.length-1:Nat):Int) by omega,wF l (by omega)]
theorem TT {l:List Pt} {j:Nat} (h:∀i,i<j→Qt l i) {i:Nat} (hij:i≤j):cX l i≤cX l j∧cY l i≤cY l j∧(i<j→cX l i<cX l j):=by
  induction j with
  | zero=>obtain rfl:i=0:=by omega
          exact ⟨Int.le_refl _,Int.le_refl _,fun h=>by omega⟩
  | succ j ih=>
    by_cases e:i=j+1
    · subst e;exact ⟨Int.le_refl _,Int.le_refl _,fun h=>by omega⟩
    · obtain ⟨a,b,_⟩:=ih (fun i hi=>h i (by omega)) (by omega)
      obtain ⟨c,d⟩:=h j (by omega)
      exact ⟨by omega,by omega,fun _=>by omega⟩
theorem pJ.mono {l:List Pt} (h:pJ l) {i j:Nat} (hij:i≤j) (hj:j<l.length):cX l i≤cX l j∧cY l i≤cY l j∧(i<j→cX l i<cX l j):=TT (fun i hi=>h.step i (by omega)) hij
theorem pJ.bd {l:List Pt} (h:pJ l) {i:Nat} (hi:i<l.length):0≤cX l i∧cX l i≤65535∧0≤cY l i∧cY l i≤65535:=by
 obtain ⟨a,b,_⟩:=h.mono (i:=0) (j:=i) (by omega) hi;obtain ⟨c,d,_⟩:=h.mono (i:=i) (j:=l.length-1) (by omega) (by omega);have:=h.x0;have:=h.xn;have:=h.y0;have:=h.yn
 omega
theorem YI (N:Nat) (l l2:List Pt) (hl:l2.length+1=l.length) (hb:l.length≤16):∀(d k fuel:Nat),k+d=l2.length→d<fuel →
  ∃b,uM N l l2 (fun _=>some true) fuel (k:Int)=some b∧(b=true↔∀i,k≤i→i+1<l.length→Qt l i):=by
 intro d
 induction d with
 | zero=>
  intro k fuel hk hf;obtain ⟨fuel,rfl⟩:=mK fuel (by omega);refine ⟨true,?_,by simp only [true_iff];intro i h1 h2;omega⟩;unfold uM;rw [cF (dF (by omega))]
 | succ d ih=>
  intro k fuel hk hf;obtain ⟨fuel,rfl⟩:=mK fuel (by omega);unfold uM;rw [cT (dT (by omega)),dC (by omega),show (k:Int)+1=((k+1:Nat):Int) by omega];simp only [wF l (show k<l.length by omega),wF l (show k+1<l.length by omega),aC]
  by_cases h1:(l.getD (k+1) (0,0)).1≤(l.getD k (0,0)).1
  ·rw [cT (dT h1)];refine ⟨false,rfl,by simp only [Bool.false_eq_true,false_iff];intro h;have:=(h k (Nat.le_refl _) (by omega)).1;simp only [cX] at this;omega⟩
  rw [cF (dF h1)]
  by_cases h2:(l.getD (k+1) (0,0)).2<(l.getD k (0,0)).2
  ·rw [cT (dT h2)];refine ⟨false,rfl,by simp only [Bool.false_eq_true,false_iff];intro h;have:=(h k (Nat.le_refl _) (by omega)).2;simp only [cY] at this;omega⟩
  rw [cF (dF h2)];obtain ⟨b,e,hb'⟩:=ih (k+1) fuel (by omega) (by omega);refine ⟨b,e,hb'.trans ⟨fun h i hi hn=>?_,fun h i hi hn=>h i (by omega) hn⟩⟩
  by_cases hik:i=k
  ·subst hik;exact ⟨by simp only [cX];omega,by simp only [cY];omega⟩
  ·exact h i (by omega) hn
theorem right_eq (N:Nat) (l:List Pt) (hN:5000≤N):∃b,kE N l=some b∧(b=true↔pJ l):=by
 unfold kE
 by_cases h1:(l.length:Int)<2
 ·rw [cT (dT h1)];exact ⟨false,rfl,by simp only [Bool.false_eq_true,false_iff];intro h;have:=h.len;omega⟩
 rw [cF (dF h1)]
 by_cases h2:16<(l.length:Int)
 ·rw [cT (dT h2)];exact ⟨false,rfl,by simp only [Bool.false_eq_true,false_iff];intro h;have:=h.len;omega⟩
 rw [cF (dF h2)];have i0:idx l 0=some (l.getD 0 (0,0)):=wF l (k:=0) (by omega);have il:=NH l (by omega);simp only [i0,il,aC]
 by_cases h3:cX l 0=0
 rotate_left
 ·rw [cT (by simp only [cX] at h3;rw [dF h3];rfl)];exact ⟨false,rfl,by simp only [Bool.false_eq_true,false_iff];intro h;exact h3 h.x0⟩
 rw [cF (by simp only [cX] at h3;rw [dT h3];rfl)]
 by_cases h4:cX l (l.length-1)=65535
 rotate_left
 ·rw [cT (by simp only [cX] at h4;rw [dF h4];rfl)];exact ⟨false,rfl,by simp only [Bool.false_eq_true,false_iff];intro h;exact h4 h.xn⟩
 rw [cF (by simp only [cX] at h4;rw [dT h4];rfl)]
 by_cases h5:(l.getD 0 (0,0)).2<0
 ·rw [cT (dT h5)];exact ⟨false,rfl,by simp only [Bool.false_eq_true,false_iff];intro h;have:=h.y0;simp only [cY] at this;omega⟩
 rw [cF (dF h5)]
 by_cases h6:65535<(l.getD (l.length-1) (0,0)).2
 ·rw [cT (dT h6)];exact ⟨false,rfl,by simp only [Bool.false_eq_true,false_iff];intro h;have:=h.yn;simp only [cY] at this;omega⟩
 rw [cF (dF h6),Nv (by omega),aC];obtain ⟨b,e,hb⟩:=YI N l ((l.take (l.length:Int).toNat).drop (1:Int).toNat) (by simp;omega) (by omega) (l.length-1) 0 N (by simp) (by omega);refine ⟨b,e,hb.trans ⟨fun h=>⟨by omega,h3,h4,by simp only [cY];omega,by simp only [cY];omega,fun i hi=>h i (Nat.zero_le _) hi⟩,fun h i _ hi=>h.step i hi⟩⟩
theorem Qu (N:Nat) (l:List Pt) (hb:l.length≤16):∀(d k fuel:Nat),k+d=l.length→d<fuel →
  ∃b,iK N l (fun _=>some true) fuel (k:Int)=some b∧(b=true↔∀i,k≤i→i<l.length→(0≤cY l i∧cY l i≤65535)∧(0<i→Qt l (i-1))):=by
 intro d
 induction d with
 | zero=>
  intro k fuel hk hf;obtain ⟨fuel,rfl⟩:=mK fuel (by omega);refine ⟨true,?_,by simp only [true_iff];intro i h1 h2;omega⟩;unfold iK;rw [cF (dF (by omega))]
 | succ d ih=>
  intro k fuel hk hf;obtain ⟨fuel,rfl⟩:=mK fuel (by omega);have no:∀{Q:Prop},¬Q→∃b,some false=some b∧(b=true↔Q):=fun h=>⟨false,rfl,by simp [h]⟩
  unfold iK;rw [cT (dT (by omega)),wF l (show k<l.length by omega),aC,rP,aC];obtain ⟨b,e,hb'⟩:=ih (k+1) fuel (by omega) (by omega)
  by_cases h1:0≤cY l k∧cY l k≤65535
  rotate_left
  ·rw [cT (by simp only [cY] at h1;rw [dF h1];rfl)];exact no fun h=>h1 (h k (Nat.le_refl _) (by omega)).1
  rw [cF (by simp only [cY] at h1;rw [dT h1];rfl)]
  by_cases h2:0<k
  ·rw [cT (dT (by omega)),aC,dC (x:=(k:Int)-1) (by omega),show (k:Int)-1=((k-1:Nat):Int) by omega,wF l (show k-1<l.length by omega)];simp only [aC];have hk1:k-1+1=k:=by omega
   by_cases h3:(l.getD k (0,0)).1≤(l.getD (k-1) (0,0)).1
   ·rw [cT (dT h3)];exact no fun h=>by have:=((h k (Nat.le_refl _) (by omega)).2 h2).1;rw [hk1] at this;simp only [cX] at this;omega
   rw [cF (dF h3)]
   by_cases h4:(l.getD k (0,0)).2<(l.getD (k-1) (0,0)).2
   ·rw [cT (dT h4)];exact no fun h=>by have:=((h k (Nat.le_refl _) (by omega)).2 h2).2;rw [hk1] at this;simp only [cY] at this;omega
   rw [cF (dF h4),dC (by omega)];refine ⟨b,e,hb'.trans ⟨fun h i hi hn=>?_,fun h i hi hn=>h i (by omega) hn⟩⟩
   by_cases hik:i=k
   ·subst hik;exact ⟨h1,fun _=>⟨by rw [hk1];simp only [cX];omega,by rw [hk1];simp only [cY];omega⟩⟩
   ·exact h i (by omega) hn
  ·rw [cF (dF (by omega)),aC,dC (by omega)];refine ⟨b,e,hb'.trans ⟨fun h i hi hn=>?_,fun h i hi hn=>h i (by omega) hn⟩⟩
   by_cases hik:i=k
   ·subst hik;exact ⟨h1,fun h=>absurd h h2⟩
   ·exact h i (by omega) hn
theorem Qv (N:Nat) (l:List Pt) (hN:5000≤N):∃b,gP N l=some b∧(b=true↔pJ l):=by
 unfold gP;have no:∀{Q:Prop},¬Q→∃b,some false=some b∧(b=true↔Q):=fun h=>⟨false,rfl,by simp [h]⟩
 rw [rP,aC]
 by_cases h1:(2:Int)≤l.length∧(l.length:Int)≤16
 rotate_left
 ·rw [cT (by rw [dF h1];rfl)];exact no fun h=>h1 (by have:=h.len;omega)
 rw [cF (by rw [dT h1];rfl)];have i0:idx l 0=some (l.getD 0 (0,0)):=wF l (k:=0) (by omega);have il:=NH l (by omega);simp only [i0,il,aC]
 by_cases h3:cX l 0=0
 rotate_left
 ·rw [cT (by simp only [cX] at h3;rw [dF h3];rfl)];exact no fun h=>h3 h.x0
 rw [cF (by simp only [cX] at h3;rw [dT h3];rfl)]
 by_cases h4:cX l (l.length-1)=65535
 rotate_left
 ·rw [cT (by simp only [cX] at h4;rw [dF h4];rfl)];exact no fun h=>h4 h.xn
 rw [cF (by simp only [cX] at h4;rw [dT h4];rfl)];obtain ⟨b,e,hb⟩:=Qu N l (by omega) l.length 0 N (by omega) (by omega);refine ⟨b,e,hb.trans ⟨fun h=>⟨by omega,h3,h4,(h 0 (Nat.le_refl _) (by omega)).1.1,(h (l.length-1) (Nat.zero_le _) (by omega)).1.2,fun i hi=>(h (i+1) (Nat.zero_le _) hi).2 (by omega)⟩,fun h i _ hi=>⟨(h.bd hi).2.2,fun h0=>h.step (i-1) (by omega)⟩⟩⟩
def seg (l:List Pt) (i:Nat) (x:Int):Int:=cY l (i-1)+((cY l i-cY l (i-1))*(x-cX l (i-1)))/(cX l i-cX l (i-1))
section
variable {l:List Pt}
theorem YJ {i:Nat}:seg l i (cX l (i-1))=cY l (i-1):=by
 unfold seg;rw [Int.sub_self,Int.mul_zero,Int.zero_ediv,Int.add_zero]
variable (h:pJ l)
include h
theorem Py {i:Nat} (hi:1≤i∧i<l.length) {x:Int} (hx:cX l (i-1)≤x∧x≤cX l i):cY l (i-1)≤seg l i x∧seg l i x≤cY l i:=by
 obtain ⟨s1,s2⟩:=h.step (i-1) (by omega);rw [show i-1+1=i by omega] at s1 s2;unfold seg;have h0:0≤(cY l i-cY l (i-1))*(x-cX l (i-1)):=Int.mul_nonneg (by omega) (by omega);have h1:=Int.ediv_nonneg h0 (show 0≤cX l i-cX l (i-1) by omega);have h2:(cY l i-cY l (i-1))*(x-cX l (i-1))≤(cY l i-cY l (i-1))*(cX l i-cX l (i-1)):=Int.mul_le_mul_of_nonneg_left (by omega) (by omega);have h3:=Int.ediv_le_of_le_mul (show 0<cX l i-cX l (i-1) by omega) h2
 omega
theorem Pz {i:Nat} (hi:1≤i∧i<l.length):seg l i (cX l i)=cY l i:=by
 obtain ⟨s1,s2⟩:=h.step (i-1) (by omega);rw [show i-1+1=i by omega] at s1 s2;unfold seg;rw [Int.mul_ediv_cancel _ (by omega)]
 omega
theorem aBO {i j:Nat} (hi:1≤i∧i<l.length) (hj:1≤j∧j<l.length) {x:Int} (hx:cX l (i-1)≤x∧x≤cX l i) (hx':cX l (j-1)≤x∧x≤cX l j):seg l i x=seg l j x:=by
 have key:∀{i j:Nat},1≤i→i<j→j<l.length→x≤cX l i→cX l (j-1)≤x→seg l i x=seg l j x:=by
  intro i j h1 h2 h3 h4 h5;have m1:=h.mono (i:=i) (j:=j-1) (by omega) (by omega);have e:x=cX l i:=by omega
  have e2:i=j-1:=by
   by_cases e2:i=j-1
   ·exact e2
   ·have:=m1.2.2 (by omega);omega
  subst e;rw [Pz h ⟨h1,by omega⟩];subst e2;rw [YJ]
 rcases Nat.lt_trichotomy i j with hij | hij | hij
 ·exact key hi.1 hij hj.2 hx.2 hx'.1
 ·rw [hij]
 ·exact (key hj.1 hij hi.2 hx'.2 hx.1).symm
theorem R3 {i:Nat} (hi:1≤i∧i<l.length) {x:Int} (hx:cX l (i-1)≤x∧x≤cX l i) :
  (Option.bind (nz (IntKind.i64.wrap (cX l i-cX l (i-1)))) fun _=>Option.bind (some (IntKind.i64.wrap (cY l (i-1)+IntKind.i64.wrap (Int.tdiv (IntKind.i64.wrap (IntKind.i64.wrap (cY l i-cY l (i-1))*IntKind.i64.wrap (x-cX l (i-1)))) (IntKind.i64.wrap (cX l i-cX l (i-1))))))) fun x3=>some x3)=some (seg l i x):=by
 obtain ⟨s1,s2⟩:=h.step (i-1) (by omega);rw [show i-1+1=i by omega] at s1 s2;have b1:=h.bd hi.2;have b2:=h.bd (i:=i-1) (by omega);have sf:=Py h hi hx;unfold seg at sf ⊢;have h0:0≤(cY l i-cY l (i-1))*(x-cX l (i-1)):=Int.mul_nonneg (by omega) (by omega);have h2:=Ie (a:=65535) (b:=65535) (x:=cY l i-cY l (i-1)) (y:=x-cX l (i-1)) (by omega) (by omega);rw [dC (x:=cX l i-cX l (i-1)) (by omega),dC (x:=cY l i-cY l (i-1)) (by omega),dC (x:=x-cX l (i-1)) (by omega),dC (x:=(cY l i-cY l (i-1))*(x-cX l (i-1))) (by omega)];rw [Int.tdiv_eq_ediv_of_nonneg h0,dC (x:=_/_) (by omega),dC (by omega),AF (by omega)]
 rfl
theorem WB (N:Nat) (x:Int) (kk):∀(d i j fuel:Nat),j-i≤d→i≤j→j≤l.length→d<fuel→(∀k,k<i→cX l k≤x)→(∀k,j≤k→k<l.length→x<cX l k) →
  ∃r:Nat,r≤l.length∧(∀k,k<r→cX l k≤x)∧(∀k,r≤k→k<l.length→x<cX l k)∧eS N l x kk fuel ((i:Int),(j:Int))=kk ((r:Int),(r:Int)):=by
 have hlen:=h.len;intro d
 induction d with
 | zero=>
  intro i j fuel hd hij hj hf h1 h2;obtain ⟨fuel,rfl⟩:=mK fuel (by omega);obtain rfl:i=j:=by omega
  refine ⟨i,hj,h1,h2,?_⟩;unfold eS;rw [cF (dF (by omega))]
 | succ d ih=>
  intro i j fuel hd hij hj hf h1 h2;obtain ⟨fuel,rfl⟩:=mK fuel (by omega)
  by_cases hlt:i<j
  ·unfold eS
   have hh:IntKind.i64.wrap (rL .u64 (IntKind.u64.wrap (IntKind.i64.wrap ((i:Int)+j))) 1)=(((i+j)/2:Nat):Int):=by
    rw [dC (x:=(i:Int)+j) (by omega),IntWalk.u64_in _ (by omega)]
    have:rL .u64 ((i:Int)+j) 1=((i:Int)+j)/2:=by
     unfold rL;exact Int.fdiv_eq_ediv_of_nonneg _ (by decide)
    rw [this,dC (by omega)]
    omega
   rw [cT (dT (by omega)),hh,aC];obtain ⟨m,hm⟩:∃m,(i+j)/2=m:=⟨_,rfl⟩
   have hm1:i≤m∧m<j:=by omega
   rw [hm];unfold Fp;rw [wF l (show m<l.length by omega),aC,aC]
   by_cases hc:x<cX l m
   ·rw [cF (by simp only [cX] at hc;rw [dT hc];rfl)]
    exact ih i m fuel (by omega) (by omega) (by omega) (by omega) h1 fun k hk hk'=>by
     have:=(h.mono hk hk').1;omega
   ·rw [cT (by simp only [cX] at hc;rw [dF hc];rfl),aC,dC (by omega)]
    exact ih (m+1) j fuel (by omega) (by omega) (by omega) (by omega) (fun k hk=>by
     have:=(h.mono (i:=k) (j:=m) (by omega) (by omega)).1;omega) h2
  ·obtain rfl:i=j:=by omega
   refine ⟨i,hj,h1,h2,?_⟩;unfold eS;rw [cF (dF (by omega))]
theorem aC4 (N:Nat) (hN:5000≤N) {x:Int} (hx:0≤x∧x≤65535):∃i,(1≤i∧i<l.length)∧(cX l (i-1)≤x∧x≤cX l i)∧vW N l x=some (seg l i x):=by
 have hlen:=h.len;have hx0:=h.x0;have hxn:=h.xn;unfold vW rV;obtain ⟨r,hr,h1,h2,e⟩:=WB h N x (fun (i4,j2)=>some i4) l.length 0 l.length N (by omega) (by omega) (Nat.le_refl _) (by omega) (fun k hk=>by omega) (fun k hk hk'=>by omega);have e':eS N l x (fun (i4,j2)=>some i4) N (0,(l.length:Int))=some (r:Int):=e
 have hr1:1≤r:=by
  by_cases h0:r=0
  ·have:=h2 0 (by omega) (by omega);omega
  ·omega
 rw [e',aC];have il:=NH l (by omega)
 by_cases hn:r=l.length
 ·subst hn;rw [cT (dT rfl),il,aC];have hle:=h1 (l.length-1) (by omega);have hxe:x=cX l (l.length-1):=by omega
  have hm:=(h.mono (i:=l.length-1-1) (j:=l.length-1) (by omega) (by omega)).1;refine ⟨l.length-1,by omega,by omega,?_⟩;rw [hxe,Pz h (by omega)]
  rfl
 ·rw [cF (dF (by omega)),dC (x:=(r:Int)-1) (by omega),show (r:Int)-1=((r-1:Nat):Int) by omega,wF l (show r-1<l.length by omega),wF l (show r<l.length by omega),aC,aC];have hx':cX l (r-1)≤x∧x≤cX l r:=⟨h1 _ (by omega),by have:=h2 r (Nat.le_refl _) (by omega);omega⟩
  exact ⟨r,by omega,hx',R3 h (by omega) hx'⟩
theorem TU (N:Nat) {x:Int} (hx:0≤x∧x≤65535) (kk):∀(d i fuel:Nat),i+d=l.length→d≤fuel→1≤i→i<l.length→(cX l (i-1)≤x) →
  ∃r:Nat,(1≤r∧r<l.length)∧(cX l (r-1)≤x∧x≤cX l r)∧oK N l x kk fuel (i:Int)=kk (r:Int):=by
 have hlen:=h.len;have hxn:=h.xn;intro d
 induction d with
 | zero=>intro i fuel hd hf h1 h2 h3;omega
 | succ d ih=>
  intro i fuel hd hf h1 h2 h3;obtain ⟨fuel,rfl⟩:=mK fuel (by omega);unfold oK;rw [wF l h2,aC]
  by_cases hc:cX l i<x
  ·rw [cT (by simp only [cX] at hc;rw [dT hc]),aC,dC (by omega)];have hne:i≠l.length-1:=fun e=>by rw [e] at hc;omega
   exact ih (i+1) fuel (by omega) (by omega) (by omega) (by omega) (by show cX l i≤x;omega)
  ·rw [cF (by simp only [cX] at hc;rw [dF hc])];exact ⟨i,⟨h1,h2⟩,⟨h3,by omega⟩,rfl⟩
theorem TV (N:Nat) (hN:5000≤N) {x:Int} (hx:0≤x∧x≤65535):∃i,(1≤i∧i<l.length)∧(cX l (i-1)≤x∧x≤cX l i)∧iL N l x=some (seg l i x):=by
 have hlen:=h.len;unfold iL
 obtain ⟨r,hr,hx',e⟩:=TU h N hx (fun i4=>Option.bind (idx l (IntKind.i64.wrap (i4-1))) fun e3=>
  Option.bind (idx l i4) fun e4=>Option.bind (nz (IntKind.i64.wrap (e4.1-e3.1))) fun _=>
  Option.bind (some (IntKind.i64.wrap (e3.2+(IntKind.i64.wrap (Int.tdiv (IntKind.i64.wrap ((IntKind.i64.wrap (e4.2-e3.2))*(IntKind.i64.wrap (x-e3.1)))) (IntKind.i64.wrap (e4.1-e3.1))))))) fun x3=>some x3) (l.length-1) 1 N (by omega) (by omega) (by omega) (by omega) (by show cX l 0≤x;rw [h.x0];exact hx.1)
 refine ⟨r,hr,hx',e.trans ?_⟩;rw [dC (x:=(r:Int)-1) (by omega),show (r:Int)-1=((r-1:Nat):Int) by omega,wF l (show r-1<l.length by omega),wF l (show r<l.length by omega),aC,aC];exact R3 h hr hx'
end
theorem YK (N:Nat) {W H:Nat} {P:List Px} (hs:qI W H P.length) (pts:List (Int × Int)) (g:Nat→Px) (hg:∀i p,P[i]? = some p→u7 N p.1 p.2.1 p.2.2 ((i%W:Nat):Int) ((i/W:Nat):Int) pts=some (g i)) (kk:List Px × Int→Option (Int × Int × List Px × Int)):∀(d k fuel:Nat),k+d=P.length→d<fuel →
  iF N W P pts kk fuel ((List.range k).map g++List.replicate (P.length-k) Ff,(k:Int))=kk ((List.range P.length).map g,(P.length:Int)):=by
 obtain ⟨h1,h2,h3,h4,h5,h6⟩:=EW W H P hs;intro d
 induction d with
 | zero=>
  intro k fuel hk hf;obtain ⟨fuel,rfl⟩:=mK fuel (by omega);obtain rfl:k=P.length:=by omega
  unfold iF;rw [cF (dF (by omega)),Nat.sub_self,List.replicate_zero,List.append_nil]
 | succ d ih=>
  intro k fuel hk hf;obtain ⟨fuel,rfl⟩:=mK fuel (by omega);have hlt:k<P.length:=by omega
  obtain ⟨e1,e2⟩:=tdm k (show 0<W by omega);have hq:k/W<H:=Nat.div_lt_of_lt_mul (by omega);have hq0:(0:Int)≤((k/W:Nat):Int):=Int.natCast_nonneg _;unfold iF;rw [cT (dT (by omega)),dH,List.getElem?_eq_getElem hlt,aC,AF (by omega),aC,aC,e1,e2,dC (x:=((k/W:Nat):Int)) (by omega)];rw [hg k _ (List.getElem?_eq_getElem hlt),aC,dH,List.getElem?_eq_getElem (by simp;omega),aC];rw [Gq g Ff hlt,aC,dC (by omega)];exact ih (k+1) fuel (by omega) (by omega)
theorem YL (N:Nat) {W H:Nat} {P:List Px} (hN:5000≤N) (pts:List (Int × Int)) (hp:uB W H P=true) (g:Nat→Px) (hg:∀i p,P[i]? = some p→u7 N p.1 p.2.1 p.2.2 ((i%W:Nat):Int) ((i/W:Nat):Int) pts=some (g i)) :
  j0 N W H P pts=some ((W:Int),(H:Int),(List.range P.length).map g,0):=by
 have hs:=rO hp;have hl:=BZ hs;obtain ⟨a,b,l,ht⟩:=CK N W H P hN;rw [hp,if_pos rfl] at ht;unfold j0;rw [ht,aC,cF (by rfl),aC,mk_eq (by omega),aC,Int.toNat_natCast];exact YK N hs pts g hg _ P.length 0 N (by omega) (by omega)
theorem YM (N:Nat) {W H:Int} {P:List Px} (hN:5000≤N) (pts:List (Int × Int)) (hp:uB W H P=false):j0 N W H P pts=some (0,0,[],1):=by
 obtain ⟨a,b,l,ht⟩:=CK N W H P hN;rw [hp] at ht;unfold j0;rw [ht]
 rfl
theorem aBP {l:List Pt} (h:pJ l) {x:Int} (hx:0≤x∧x≤65535):∃v,vW 1125899906842624 l x=some v∧iL 1125899906842624 l x=some v:=by
 obtain ⟨i,a,b,e⟩:=aC4 h 1125899906842624 (by omega) hx;obtain ⟨j,a',b',e'⟩:=TV h 1125899906842624 (by omega) hx;exact ⟨_,e,by rw [e',aBO h a' a b' b]⟩
def WC (l:List Pt) (x:Int):Int:=(vW 1125899906842624 l x).getD 0
theorem EY {l:List Pt} (h:pJ l) {x:Int} (hx:0≤x∧x≤65535):vW 1125899906842624 l x=some (WC l x)∧iL 1125899906842624 l x=some (WC l x):=by
 obtain ⟨v,e,e'⟩:=aBP h hx;unfold WC;rw [e,e'];exact ⟨rfl,rfl⟩
def Gr (l:List Pt) (p:Px):Px:=(WC l p.1,WC l p.2.1,WC l p.2.2)
theorem aED {l:List Pt} (h:pJ l) {p:Px} (hp:Af p=true) (x y:Int):u7 1125899906842624 p.1 p.2.1 p.2.2 x y l=some (Gr l p):=by
 simp only [Af,decide_eq_true_eq] at hp;unfold u7;rw [(EY h (show 0≤p.1∧p.1≤65535 by omega)).1,aC,(EY h (show 0≤p.2.1∧p.2.1≤65535 by omega)).1,aC,(EY h (show 0≤p.2.2∧p.2.2≤65535 by omega)).1];rfl
theorem aBQ {l:List Pt} {b:Bool} (hb:kE 1125899906842624 l=some b) (hc:b=true↔pJ l) (W H:Int) (P:List Px):Bt 1125899906842624 W H P l =
  some (if b=false then (0,0,[],1) else if uB W H P=false then (0,0,[],1) else (W,H,(List.range P.length).map (fun i=>Gr l (P.getD i Ff)),0)):=by
 unfold Bt;rw [hb,aC];cases b
 ·rfl
 have h:=hc.1 rfl;rw [cF (by rfl)];cases hp:uB W H P
 ·rw [YM 1125899906842624 (by omega) l hp];rfl
 ·have hs:=rO hp;obtain ⟨W,rfl⟩:∃n:Nat,W=n:=⟨W.toNat,by have:=hs.1;omega⟩
  obtain ⟨H,rfl⟩:∃n:Nat,H=n:=⟨H.toNat,by have:=hs.2.2.1;omega⟩
  rw [YL 1125899906842624 (by omega) l hp (fun i=>Gr l (P.getD i Ff)) (fun i p hi=>by rw [aED h (MR hp hi),List.getD_eq_getElem?_getD,hi];rfl)]
  rfl
theorem aBR {l:List Pt} (h:pJ l) {W H:Int} {P:List Px} (hp:uB W H P=true) (kk):∀(d k fuel:Nat),k+d=P.length→d<fuel →
  oG 1125899906842624 P l kk fuel ((List.range k).map (fun i=>Gr l (P.getD i Ff)),(k:Int))=kk ((List.range P.length).map (fun i=>Gr l (P.getD i Ff)),(P.length:Int)):=by
 have hl:=BZ (rO hp);intro d
 induction d with
 | zero=>
  intro k fuel hk hf;obtain ⟨fuel,rfl⟩:=mK fuel (by omega);obtain rfl:k=P.length:=by omega
  unfold oG;rw [cF (dF (by omega))]
 | succ d ih=>
  intro k fuel hk hf;obtain ⟨fuel,rfl⟩:=mK fuel (by omega);have hlt:k<P.length:=by omega
  have hx:=List.getElem?_eq_getElem hlt;obtain ⟨p,hpe⟩:∃p,P[k]=p:=⟨_,rfl⟩
  rw [hpe] at hx;have hok:=MR hp hx;simp only [Af,decide_eq_true_eq] at hok;have hg:P.getD k Ff=p:=by rw [List.getD_eq_getElem?_getD,hx];rfl
  unfold oG;rw [cT (dT (by omega)),dH,hx,aC,(EY h (show 0≤p.1∧p.1≤65535 by omega)).2,aC,(EY h (show 0≤p.2.1∧p.2.1≤65535 by omega)).2,aC,(EY h (show 0≤p.2.2∧p.2.2≤65535 by omega)).2,aC];have e:(WC l p.1,WC l p.2.1,WC l p.2.2)=Gr l (P.getD k Ff):=by rw [hg];rfl
  rw [e,lI (by simp;omega),aC,aC,dC (by omega),Nx (fun i=>Gr l (P.getD i Ff))];exact ih (k+1) fuel (by omega) (by omega)
theorem aBS {l:List Pt} (h:pJ l) {W H:Int} {P:List Px} (hp:uB W H P=true):s4 1125899906842624 W H P l=some (W,H,(List.range P.length).map (fun i=>Gr l (P.getD i Ff))):=by
 have hl:=BZ (rO hp);unfold s4;exact aBR h hp (fun x=>some (W,H,x.1)) P.length 0 1125899906842624 (by omega) (by omega)
theorem YN {l:List Pt} {b:Bool} (hb:kE 1125899906842624 l=some b) (hc:b=true↔pJ l) (x:Int):BO 1125899906842624 l x=some (if b=false then (0,1) else if 0≤x∧x≤65535 then (WC l x,0) else (0,3)):=by
 unfold BO;rw [hb,aC];cases b
 ·rfl
 have h:=hc.1 rfl;rw [cF (by rfl),if_neg (by simp)]
 by_cases h1:x<0
 ·rw [cT (dT h1),if_neg (by omega)]
 rw [cF (dF h1)]
 by_cases h2:65535<x
 ·rw [cT (dT h2),if_neg (by omega)]
 rw [cF (dF h2),(EY h (by omega)).1,if_pos (by omega)];rfl
theorem NI (l:List Pt):∃b,kE 1125899906842624 l=some b∧gP 1125899906842624 l=some b∧(b=true↔pJ l):=by
 obtain ⟨b,hb,hc⟩:=right_eq 1125899906842624 l (by omega);obtain ⟨b',hb',hc'⟩:=Qv 1125899906842624 l (by omega);have:b'=b:=Bool.eq_iff_iff.2 (hc'.trans hc.symm);exact ⟨b,hb,by rw [hb',this],hc⟩
theorem YO (N:Nat) {W H:Nat} {P:List Px} (hs:qI W H P.length) (SW SH:Int) (SP:List Px) (SA:Int) (g:Nat→Px) (hg:∀i p,P[i]? = some p→rN N p.1 p.2.1 p.2.2 ((i%W:Nat):Int) ((i/W:Nat):Int) SW SH SP SA=some (g i)) (kk:List Px × Int→Option (Int × Int × List Px × Int)):∀(d k fuel:Nat),k+d=P.length→d<fuel →
  gF N W P SW SH SP SA kk fuel ((List.range k).map g++List.replicate (P.length-k) Ff,(k:Int))=kk ((List.range P.length).map g,(P.length:Int)):=by
 obtain ⟨h1,h2,h3,h4,h5,h6⟩:=EW W H P hs;intro d
 induction d with
 | zero=>
  intro k fuel hk hf;obtain ⟨fuel,rfl⟩:=mK fuel (by omega);obtain rfl:k=P.length:=by omega
  unfold gF;rw [cF (dF (by omega)),Nat.sub_self,List.replicate_zero,List.append_nil]
 | succ d ih=>
  intro k fuel hk hf;obtain ⟨fuel,rfl⟩:=mK fuel (by omega);have hlt:k<P.length:=by omega
  obtain ⟨e1,e2⟩:=tdm k (show 0<W by omega);have hq:k/W<H:=Nat.div_lt_of_lt_mul (by omega);have hq0:(0:Int)≤((k/W:Nat):Int):=Int.natCast_nonneg _;unfold gF;rw [cT (dT (by omega)),dH,List.getElem?_eq_getElem hlt,aC,AF (by omega),aC,aC,e1,e2,dC (x:=((k/W:Nat):Int)) (by omega)];rw [hg k _ (List.getElem?_eq_getElem hlt),aC,dH,List.getElem?_eq_getElem (by simp;omega),aC];rw [Gq g Ff hlt,aC,dC (by omega)];exact ih (k+1) fuel (by omega) (by omega)
theorem YP (N:Nat) {W H:Nat} {P:List Px} (hN:5000≤N) (SW SH:Int) (SP:List Px) (SA:Int) (hp:uB W H P=true) (g:Nat→Px) (hg:∀i p,P[i]? = some p→rN N p.1 p.2.1 p.2.2 ((i%W:Nat):Int) ((i/W:Nat):Int) SW SH SP SA=some (g i)) :
  iG N W H P SW SH SP SA=some ((W:Int),(H:Int),(List.range P.length).map g,0):=by
 have hs:=rO hp;have hl:=BZ hs;obtain ⟨a,b,l,ht⟩:=CK N W H P hN;rw [hp,if_pos rfl] at ht;unfold iG;rw [ht,aC,cF (by rfl),aC,mk_eq (by omega),aC,Int.toNat_natCast];exact YO N hs SW SH SP SA g hg _ P.length 0 N (by omega) (by omega)
theorem YQ (N:Nat) {W H:Int} {P:List Px} (hN:5000≤N) (SW SH:Int) (SP:List Px) (SA:Int) (hp:uB W H P=false):iG N W H P SW SH SP SA=some (0,0,[],1):=by
 obtain ⟨a,b,l,ht⟩:=CK N W H P hN;rw [hp] at ht;unfold iG;rw [ht]
 rfl
def cl (y:Nat) (dy:Int) (H:Nat):Nat:=(min (max ((y:Int)+dy) 0) ((H:Int)-1)).toNat
theorem PA {y H:Nat} {dy:Int} (h:1≤H):cl y dy H<H:=by unfold cl;omega
theorem Vb {y H:Nat} {dy:Int} (h:1≤H):min (max ((y:Int)+dy) 0) ((H:Int)-1)=((cl y dy H:Nat):Int):=by unfold cl;omega
theorem YR {y H:Nat} {dy:Int} (h:1≤H):max 0 (min ((H:Int)-1) ((y:Int)+dy))=((cl y dy H:Nat):Int):=by unfold cl;omega
def nb (P:List Px) (W H x y:Nat) (dy dx:Int):Px:=P.getD (cl y dy H*W+cl x dx W) Ff
def wt (dx dy:Int):Int:=(2-dx*dx)*(2-dy*dy)
def Kg (w:Int) (n a:Px):Px:=(a.1+w*n.1,a.2.1+w*n.2.1,a.2.2+w*n.2.2)
def GQ (a:Px) (m:Int):Prop:=(0≤a.1∧a.1≤m)∧(0≤a.2.1∧a.2.1≤m)∧(0≤a.2.2∧a.2.2≤m)
theorem Vc {d:Int} (h:-1≤d∧d≤1):0≤d*d∧d*d≤1:=by
 have:d = -1∨d=0∨d=1:=by omega
 rcases this with rfl | rfl | rfl <;> decide
theorem Kh {dx dy:Int} (hx:-1≤dx∧dx≤1) (hy:-1≤dy∧dy≤1):1≤wt dx dy∧wt dx dy≤4:=by
 have h1:dx = -1∨dx=0∨dx=1:=by omega
 have h2:dy = -1∨dy=0∨dy=1:=by omega
 rcases h1 with rfl | rfl | rfl <;> rcases h2 with rfl | rfl | rfl <;> decide
theorem C7 {p:Px} (h:Af p=true):GQ p 65535:=by
 simp only [Af,decide_eq_true_eq] at h;unfold GQ;omega
theorem TW {w n:Int} (hw:1≤w∧w≤4) (hn:0≤n∧n≤65535):0≤w*n∧w*n≤262140:=by
 have h1:=Int.mul_nonneg (show 0≤w by omega) hn.1;have h2:=Ie (a:=4) (b:=65535) (x:=w) (y:=n) (by omega) (by omega)
 omega
theorem G2 {w m:Int} {n a:Px} (hw:1≤w∧w≤4) (hn:GQ n 65535) (ha:GQ a m):GQ (Kg w n a) (m+262140):=by
 obtain ⟨n1,n2,n3⟩:=hn;obtain ⟨a1,a2,a3⟩:=ha;have h1:=TW hw n1;have h2:=TW hw n2;have h3:=TW hw n3;unfold GQ Kg
 dsimp only
 omega
def HZ (P:List Px) (W H x y:Nat) (dy:Int) (a:Px):Px:=Kg (wt 1 dy) (nb P W H x y dy 1) (Kg (wt 0 dy) (nb P W H x y dy 0) (Kg (wt (-1) dy) (nb P W H x y dy (-1)) a))
def Ki (P:List Px) (W H x y:Nat):Px:=HZ P W H x y 1 (HZ P W H x y 0 (HZ P W H x y (-1) (0,0,0)))
def sh1 (amount v Ic:Int):Int:=max 0 (min (IntKind.i64.wrap (v+rL .i64 (IntKind.i64.wrap (IntKind.i64.wrap (v-rL .i64 Ic 4)*amount)) 8)) 65535)
def shP (amount:Int) (p s:Px):Px:=(sh1 amount p.1 s.1,sh1 amount p.2.1 s.2.1,sh1 amount p.2.2 s.2.2)
section
variable {W H:Nat} {P:List Px} (hp:uB W H P=true)
include hp
theorem Fx:1≤W∧W≤64∧1≤H∧H≤64∧P.length=W*H∧W*H≤4096:=EW W H P (rO hp)
theorem YS {i:Nat} (h:i<W*H):idx P (i:Int)=some (P.getD i Ff)∧Af (P.getD i Ff)=true:=by
 have hl:=(Fx hp).2.2.2.2.1;have hx:P[i]? = some P[i]:=List.getElem?_eq_getElem (by omega);have hg:P.getD i Ff=P[i]:=by rw [List.getD_eq_getElem?_getD,hx];rfl
 rw [dH,hg,hx];exact ⟨rfl,MR hp hx⟩
theorem Kj {x y:Nat} (dy dx:Int):idx P (((cl y dy H*W+cl x dx W:Nat):Nat):Int)=some (nb P W H x y dy dx)∧Af (nb P W H x y dy dx)=true:=by
 obtain ⟨h1,h2,h3,h4,h5,h6⟩:=Fx hp;exact YS hp (s7 (PA h1) (PA h3))
theorem G3 {x y:Nat} {dy m:Int} (hy:-1≤dy∧dy≤1) {a:Px} (ha:GQ a m):GQ (HZ P W H x y dy a) (m+786420):=by
 have h1:=G2 (Kh (dx:=-1) (by omega) hy) (C7 (Kj (x:=x) (y:=y) hp dy (-1)).2) ha;have h2:=G2 (Kh (dx:=0) (by omega) hy) (C7 (Kj (x:=x) (y:=y) hp dy 0).2) h1;have h3:=G2 (Kh (dx:=1) (by omega) hy) (C7 (Kj (x:=x) (y:=y) hp dy 1).2) h2;unfold HZ;unfold GQ at h3 ⊢
 omega
theorem aBT {x y:Nat}:GQ (Ki P W H x y) 2359260:=by
 have h0:GQ ((0,0,0):Px) 0:=by unfold GQ;simp
 have h1:=G3 (x:=x) (y:=y) hp (dy:=-1) (by omega) h0;have h2:=G3 (x:=x) (y:=y) hp (dy:=0) (by omega) h1;have h3:=G3 (x:=x) (y:=y) hp (dy:=1) (by omega) h2;exact h3
theorem Lz (N fuel:Nat) {x y:Nat} (hx:x<W) (hy:y<H) {dx dy:Int} (YT:-1≤dx∧dx≤1) (hdy:-1≤dy∧dy≤1) (kk) {a:Px} (ha:GQ a 100000000) {YU:Int} (hd':YU=dx+1) :
  mH N x y W H P dy kk (fuel+1) (a.1,a.2.1,a.2.2,dx)=mH N x y W H P dy kk fuel ((Kg (wt dx dy) (nb P W H x y dy dx) a).1,(Kg (wt dx dy) (nb P W H x y dy dx) a).2.1,(Kg (wt dx dy) (nb P W H x y dy dx) a).2.2,YU):=by
 subst hd';obtain ⟨h1,h2,h3,h4,h5,h6⟩:=Fx hp;obtain ⟨n1,n2⟩:=Kj (x:=x) (y:=y) hp dy dx;obtain ⟨b1,b2,b3⟩:=C7 n2;obtain ⟨a1,a2,a3⟩:=ha;have hw:=Kh YT hdy;have m1:=TW hw b1;have m2:=TW hw b2;have m3:=TW hw b3;have q1:=Vc YT;have q2:=Vc hdy;have c1:=PA (y:=y) (dy:=dy) h3;have c2:=PA (y:=x) (dy:=dx) h1;have c3:=s7 c2 c1;have hwt:IntKind.i64.wrap ((2-dx*dx)*(2-dy*dy))=wt dx dy:=dC (by unfold wt at hw;omega)
 conv=>lhs;unfold mH
 rw [cT (dT YT.2),dC (x:=(y:Int)+dy) (by omega),dC (x:=(H:Int)-1) (by omega),dC (x:=(x:Int)+dx) (by omega),dC (x:=(W:Int)-1) (by omega),Vb h3,Vb h1];rw [dC (x:=((cl y dy H:Nat):Int)*(W:Int)) (by rw [←Int.natCast_mul];omega),←Int.natCast_mul,←Int.natCast_add,dC (x:=((cl y dy H*W+cl x dx W:Nat):Int)) (by omega),aC,n1,aC];rw [dC (x:=dx*dx) (by omega),dC (x:=dy*dy) (by omega),dC (x:=2-dx*dx) (by omega),dC (x:=2-dy*dy) (by omega),hwt,aC,dC (x:=dx+1) (by omega),aC];rw [dC (x:=wt dx dy*(nb P W H x y dy dx).1) (by omega),dC (x:=wt dx dy*(nb P W H x y dy dx).2.1) (by omega),dC (x:=wt dx dy*(nb P W H x y dy dx).2.2) (by omega),dC (x:=a.1+_) (by omega),dC (x:=a.2.1+_) (by omega),dC (x:=a.2.2+_) (by omega)]
 rfl
theorem YV (N fuel:Nat) {x y:Nat} (hx:x<W) (hy:y<H) {dy:Int} (hdy:-1≤dy∧dy≤1) (kk) {a:Px} (ha:GQ a 50000000) :
  mH N x y W H P dy kk (fuel+4) (a.1,a.2.1,a.2.2,-1)=kk ((HZ P W H x y dy a).1,(HZ P W H x y dy a).2.1,(HZ P W H x y dy a).2.2,2):=by
 have b0:GQ a 100000000:=by unfold GQ at ha ⊢;omega
 have b1:=G2 (Kh (dx:=-1) (by omega) hdy) (C7 (Kj (x:=x) (y:=y) hp dy (-1)).2) ha;have b2:=G2 (Kh (dx:=0) (by omega) hdy) (C7 (Kj (x:=x) (y:=y) hp dy 0).2) b1;have up:∀{c:Px} {m:Int},GQ c m→m≤100000000→GQ c 100000000:=fun h hm=>by unfold GQ at h ⊢;omega
 rw [Lz hp N (fuel+3) hx hy (by omega) hdy kk b0 (YU:=0) (by omega),Lz hp N (fuel+2) hx hy (dx:=0) (by omega) hdy kk (up b1 (by omega)) (YU:=1) (by omega),Lz hp N (fuel+1) hx hy (dx:=1) (by omega) hdy kk (up b2 (by omega)) (YU:=2) (by omega)];unfold mH;rw [cF (dF (by omega))]
 rfl
theorem YW (N:Nat) {x y:Nat} (hx:x<W) (hy:y<H) (kk) :
  mI 1125899906842624 x y W H P kk 1125899906842624 (0,0,0,-1)=kk ((Ki P W H x y).1,(Ki P W H x y).2.1,(Ki P W H x y).2.2,2):=by
 have h0:GQ ((0,0,0):Px) 0:=by unfold GQ;simp
 have h1:=G3 (x:=x) (y:=y) hp (dy:=-1) (by omega) h0;have h2:=G3 (x:=x) (y:=y) hp (dy:=0) (by omega) h1;have up:∀{a:Px} {m:Int},GQ a m→m≤50000000→GQ a 50000000:=fun h hm=>by unfold GQ at h ⊢;omega
 have one:∀(fuel:Nat) (dy dy':Int),(-1≤dy∧dy≤1)→dy'=dy+1→∀(a:Px),GQ a 50000000→mI 1125899906842624 x y W H P kk (fuel+1) (a.1,a.2.1,a.2.2,dy)=mI 1125899906842624 x y W H P kk fuel ((HZ P W H x y dy a).1,(HZ P W H x y dy a).2.1,(HZ P W H x y dy a).2.2,dy'):=by
  intro fuel dy dy' hd hd' a ha;subst hd'
  conv=>lhs;unfold mI
  rw [cT (dT hd.2)];refine (YV hp 1125899906842624 1125899906842620 hx hy hd _ ha).trans ?_
  dsimp only
  rw [dC (x:=dy+1) (by omega),aC]
 refine (one 1125899906842623 (-1) 0 (by omega) (by omega) (0,0,0) (up h0 (by omega))).trans ?_;refine (one 1125899906842622 0 1 (by omega) (by omega) _ (up h1 (by omega))).trans ?_;refine (one 1125899906842621 1 2 (by omega) (by omega) _ (up h2 (by omega))).trans ?_;unfold mI
 dsimp only
 rw [cF (dF (by omega))]
 rfl
theorem aBU (amount:Int) {x y:Nat} (hx:x<W) (hy:y<H) (p:Px):rN 1125899906842624 p.1 p.2.1 p.2.2 x y W H P amount=some (shP amount p (Ki P W H x y)):=by
 unfold rN;refine (YW hp 1125899906842624 hx hy _).trans ?_
 rfl
def WD (amount:Int) (W H:Nat) (P:List Px) (x y:Nat):Px:=shP amount (Lv P W x y) (Ki P W H x y)
omit hp in
theorem TX (W H:Int) (P:List Px) (amount:Int):wA 1125899906842624 W H P amount=some (if uB W H P=false then (0,0,[],1) else if 0≤amount∧amount≤1024 then (W,H,Lu W.toNat H.toNat (WD amount W.toNat H.toNat P),0) else (0,0,[],3)):=by
 unfold wA;cases hp:uB W H P
 ·rw [YQ 1125899906842624 (by omega) W H P amount hp];rfl
 ·have hs:=rO hp;obtain ⟨W,rfl⟩:∃n:Nat,W=n:=⟨W.toNat,by have:=hs.1;omega⟩
  obtain ⟨H,rfl⟩:∃n:Nat,H=n:=⟨H.toNat,by have:=hs.2.2.1;omega⟩
  obtain ⟨h1,h2,h3,h4,h5,h6⟩:=Fx hp
  rw [YP 1125899906842624 (by omega) W H P amount hp (fun i=>WD amount W H P (i%W) (i/W)) (fun i p hi=>by
   have hlt:=(List.getElem?_eq_some_iff.1 hi).1;rw [h5] at hlt;obtain ⟨l1,l2,_⟩:=wM hlt;rw [aBU hp amount l1 l2 p];show _=some (shP amount (P.getD (i/W*W+i%W) Ff) _)
   rw [Nat.div_add_mod',List.getD_eq_getElem?_getD,hi];rfl)]
  rw [aC]
  dsimp only
  rw [cT (by rfl),if_neg (by simp),h5,Int.toNat_natCast,Int.toNat_natCast]
  by_cases a1:amount<0
  ·rw [cT (dT a1),if_neg (by omega)]
  rw [cF (dF a1)]
  by_cases a2:1024<amount
  ·rw [cT (dT a2),if_neg (by omega)]
  rw [cF (dF a2),if_pos (by omega)]
  rfl
end
theorem Qw (N:Nat) {amount v Ic:Int} (ha:0≤amount∧amount≤1024) (hv:0≤v∧v≤65535) (hb:0≤Ic∧Ic≤2359260) :
  (Option.bind (bD N (IntKind.i64.wrap (IntKind.i64.wrap (v-IntKind.i64.wrap (Int.tdiv Ic 16))*amount)) 256) fun r=>cO N (IntKind.i64.wrap (v+r)))=some (sh1 amount v Ic):=by
 have h16:Int.tdiv Ic 16=Ic/16:=Int.tdiv_eq_ediv_of_nonneg hb.1;unfold sh1;rw [h16,aIZ,dC (x:=Ic/16) (by omega),dC (x:=v-Ic/16) (by omega)];have hm:=Ie (a:=2359260) (b:=1024) (x:=v-Ic/16) (y:=amount) (by omega) (by omega);rw [dC (x:=(v-Ic/16)*amount) (by omega),IJ N (by omega) (by omega),aC,aC1]
 rfl
theorem aEE (N fuel:Nat) (o:Int) (r s:Px) (kk):mY N o r s.1 s.2.1 s.2.2 kk (fuel+4) (0,0,0,0) =
  Option.bind (bD N (IntKind.i64.wrap (IntKind.i64.wrap (r.1-IntKind.i64.wrap (Int.tdiv s.1 16))*o)) 256) fun a=>
  Option.bind (cO N (IntKind.i64.wrap (r.1+a))) fun a'=>
  Option.bind (bD N (IntKind.i64.wrap (IntKind.i64.wrap (r.2.1-IntKind.i64.wrap (Int.tdiv s.2.1 16))*o)) 256) fun b=>
  Option.bind (cO N (IntKind.i64.wrap (r.2.1+b))) fun b'=>
  Option.bind (bD N (IntKind.i64.wrap (IntKind.i64.wrap (r.2.2-IntKind.i64.wrap (Int.tdiv s.2.2 16))*o)) 256) fun c=>
  Option.bind (cO N (IntKind.i64.wrap (r.2.2+c))) fun c'=>kk (a',b',c',3):=by kernel_rfl
theorem TY (N fuel:Nat) {dx dy:Int} (YT:-1≤dx∧dx≤1) (hdy:-1≤dy∧dy≤1) (n a:Px) (kk) :
  kT N dy dx n kk (fuel+4) (a.1,a.2.1,a.2.2,0)=kk (IntKind.i64.wrap (a.1+IntKind.i64.wrap (IntKind.i64.wrap (n.1*(2-dx*dx))*(2-dy*dy))),IntKind.i64.wrap (a.2.1+IntKind.i64.wrap (IntKind.i64.wrap (n.2.1*(2-dx*dx))*(2-dy*dy))),IntKind.i64.wrap (a.2.2+IntKind.i64.wrap (IntKind.i64.wrap (n.2.2*(2-dx*dx))*(2-dy*dy))),3):=by
 have h1:dx = -1∨dx=0∨dx=1:=by omega
 have h2:dy = -1∨dy=0∨dy=1:=by omega
 rcases h1 with rfl | rfl | rfl <;> rcases h2 with rfl | rfl | rfl <;> (show _=_) <;> kernel_rfl
theorem aEF (N fuel:Nat) {dx dy:Int} (YT:-1≤dx∧dx≤1) (hdy:-1≤dy∧dy≤1) {n a:Px} (hn:GQ n 65535) (ha:GQ a 100000000) (kk) :
  kT N dy dx n kk (fuel+4) (a.1,a.2.1,a.2.2,0)=kk ((Kg (wt dx dy) n a).1,(Kg (wt dx dy) n a).2.1,(Kg (wt dx dy) n a).2.2,3):=by
 obtain ⟨n1,n2,n3⟩:=hn;obtain ⟨a1,a2,a3⟩:=ha;have raw:=TY N fuel YT hdy n a kk;have hw:=Kh YT hdy;have q1:=Vc YT;have q2:=Vc hdy
 have part:∀m b:Int,(0≤m∧m≤65535)→(0≤b∧b≤100000000)→IntKind.i64.wrap (b+IntKind.i64.wrap (IntKind.i64.wrap (m*(2-dx*dx))*(2-dy*dy)))=b+wt dx dy*m:=by
  intro m b hm hb;have e1:=Ie (a:=65535) (b:=2) (x:=m) (y:=2-dx*dx) (by omega) (by omega);have e2:m*(2-dx*dx)*(2-dy*dy)=wt dx dy*m:=by unfold wt;rw [Int.mul_assoc,Int.mul_comm]
  have e3:=TW hw hm;rw [dC (x:=m*(2-dx*dx)) (by omega),e2,dC (x:=wt dx dy*m) (by omega),dC (by omega)]
 rw [raw,part _ _ n1 a1,part _ _ n2 a2,part _ _ n3 a3]
 rfl
section
variable {W H:Nat} {P:List Px} (hp:uB W H P=true)
include hp
theorem NJ (fuel:Nat) {x y:Nat} (hx:x<W) (hy:y<H) {dx dy YU:Int} (YT:-1≤dx∧dx≤1) (hdy:-1≤dy∧dy≤1) (kk) {a:Px} (ha:GQ a 100000000) (hd':YU=dx+1) :
  jJ 1125899906842624 W H P y x dy kk (fuel+1) (a.1,a.2.1,a.2.2,dx)=jJ 1125899906842624 W H P y x dy kk fuel ((Kg (wt dx dy) (nb P W H x y dy dx) a).1,(Kg (wt dx dy) (nb P W H x y dy dx) a).2.1,(Kg (wt dx dy) (nb P W H x y dy dx) a).2.2,YU):=by
 subst hd';obtain ⟨h1,h2,h3,h4,h5,h6⟩:=Fx hp;obtain ⟨n1,n2⟩:=Kj (x:=x) (y:=y) hp dy dx;have c1:=PA (y:=y) (dy:=dy) h3;have c2:=PA (y:=x) (dy:=dx) h1;have c3:=s7 c2 c1
 conv=>lhs;unfold jJ
 rw [cT (dT YT.2),dC (x:=(y:Int)+dy) (by omega),dC (x:=(H:Int)-1) (by omega),dC (x:=(x:Int)+dx) (by omega),dC (x:=(W:Int)-1) (by omega),YR h3,YR h1];rw [dC (x:=((cl y dy H:Nat):Int)*(W:Int)) (by rw [←Int.natCast_mul];omega),←Int.natCast_mul,←Int.natCast_add,dC (x:=((cl y dy H*W+cl x dx W:Nat):Int)) (by omega),aC,n1,aC];unfold lA;rw [aC];refine (aEF 1125899906842624 1125899906842620 YT hdy (n:=nb P W H x y dy dx) (C7 n2) ha _).trans ?_
 dsimp only
 rw [aC,dC (x:=dx+1) (by omega)]
theorem aBV (fuel:Nat) {x y:Nat} (hx:x<W) (hy:y<H) {dy:Int} (hdy:-1≤dy∧dy≤1) (kk) {a:Px} (ha:GQ a 50000000) :
  jJ 1125899906842624 W H P y x dy kk (fuel+4) (a.1,a.2.1,a.2.2,-1)=kk ((HZ P W H x y dy a).1,(HZ P W H x y dy a).2.1,(HZ P W H x y dy a).2.2,2):=by
 have b0:GQ a 100000000:=by unfold GQ at ha ⊢;omega
 have b1:=G2 (Kh (dx:=-1) (by omega) hdy) (C7 (Kj (x:=x) (y:=y) hp dy (-1)).2) ha;have b2:=G2 (Kh (dx:=0) (by omega) hdy) (C7 (Kj (x:=x) (y:=y) hp dy 0).2) b1;have up:∀{c:Px} {m:Int},GQ c m→m≤100000000→GQ c 100000000:=fun h hm=>by unfold GQ at h ⊢;omega
 rw [NJ hp (fuel+3) hx hy (by omega) hdy kk b0 (YU:=0) (by omega),NJ hp (fuel+2) hx hy (dx:=0) (by omega) hdy kk (up b1 (by omega)) (YU:=1) (by omega),NJ hp (fuel+1) hx hy (dx:=1) (by omega) hdy kk (up b2 (by omega)) (YU:=2) (by omega)];unfold jJ;rw [cF (dF (by omega))]
 rfl
theorem aBW {x y:Nat} (hx:x<W) (hy:y<H) (kk) :
  jK 1125899906842624 W H P y x kk 1125899906842624 (0,0,0,-1)=kk ((Ki P W H x y).1,(Ki P W H x y).2.1,(Ki P W H x y).2.2,2):=by
 have h0:GQ ((0,0,0):Px) 0:=by unfold GQ;simp
 have h1:=G3 (x:=x) (y:=y) hp (dy:=-1) (by omega) h0;have h2:=G3 (x:=x) (y:=y) hp (dy:=0) (by omega) h1;have up:∀{a:Px} {m:Int},GQ a m→m≤50000000→GQ a 50000000:=fun h hm=>by unfold GQ at h ⊢;omega
 have one:∀(fuel:Nat) (dy dy':Int),(-1≤dy∧dy≤1)→dy'=dy+1→∀(a:Px),GQ a 50000000→jK 1125899906842624 W H P y x kk (fuel+1) (a.1,a.2.1,a.2.2,dy)=jK 1125899906842624 W H P y x kk fuel ((HZ P W H x y dy a).1,(HZ P W H x y dy a).2.1,(HZ P W H x y dy a).2.2,dy'):=by
  intro fuel dy dy' hd hd' a ha;subst hd'
  conv=>lhs;unfold jK
  rw [cT (dT hd.2)];refine (aBV hp 1125899906842620 hx hy hd _ ha).trans ?_
  dsimp only
  rw [dC (x:=dy+1) (by omega),aC]
 refine (one 1125899906842623 (-1) 0 (by omega) (by omega) (0,0,0) (up h0 (by omega))).trans ?_;refine (one 1125899906842622 0 1 (by omega) (by omega) _ (up h1 (by omega))).trans ?_;refine (one 1125899906842621 1 2 (by omega) (by omega) _ (up h2 (by omega))).trans ?_;unfold jK;rw [cF (dF (by omega))]
 rfl
theorem aEG {amount:Int} (ha:0≤amount∧amount≤1024) (kk) {y:Nat} (hy:y<H):∀(d x fuel:Nat),x+d=W→d<fuel →
  mZ 1125899906842624 W H P amount y kk fuel (pre W (WD amount W H P) (y*W+x),(x:Int))=kk (pre W (WD amount W H P) ((y+1)*W+0),(W:Int)):=by
 obtain ⟨h1,h2,h3,h4,h5,h6⟩:=Fx hp;intro d
 induction d with
 | zero=>
  intro x fuel hk hf;obtain ⟨fuel,rfl⟩:=mK fuel (by omega);obtain rfl:x=W:=by omega
  unfold mZ;rw [cF (dF (by omega)),Ke]
 | succ d ih=>
  intro x fuel hk hf;obtain ⟨fuel,rfl⟩:=mK fuel (by omega);have hx:x<W:=by omega
  have hpl:=s7 hx hy;obtain ⟨g1,g2⟩:=YS hp hpl;have hs:=aBT (x:=x) (y:=y) hp;obtain ⟨s1,s2,s3⟩:=hs;obtain ⟨p1,p2,p3⟩:=C7 g2;unfold mZ;rw [cT (dT (by omega)),dC (x:=(y:Int)*(W:Int)) (by rw [←Int.natCast_mul];omega),←Int.natCast_mul,←Int.natCast_add,dC (x:=((y*W+x:Nat):Int)) (by omega),g1,aC];unfold lA;rw [aC];refine (aBW hp hx hy _).trans ?_
  dsimp only
  refine (aEE 1125899906842624 1125899906842620 amount (Lv P W x y) (Ki P W H x y) _).trans ?_;rw [Nw,Qw 1125899906842624 (v:=(Lv P W x y).1) ha p1 s1,aC,Nw,Qw 1125899906842624 (v:=(Lv P W x y).2.1) ha p2 s2,aC,Nw,Qw 1125899906842624 (v:=(Lv P W x y).2.2) ha p3 s3,aC];unfold iP
  dsimp only
  have e:(sh1 amount (Lv P W x y).1 (Ki P W H x y).1,sh1 amount (Lv P W x y).2.1 (Ki P W H x y).2.1,sh1 amount (Lv P W x y).2.2 (Ki P W H x y).2.2)=WD amount W H P x y:=rfl;rw [aC,e,lI (by rw [IH];simp;omega),aC,aC,dC (by omega),←Id (WD amount W H P) y hx];exact ih (x+1) fuel (by omega) (by omega)
theorem aEH {amount:Int} (ha:0≤amount∧amount≤1024) (kk):∀(d y fuel:Nat),y+d=H→d<fuel →
  m9 1125899906842624 W H P amount kk fuel (pre W (WD amount W H P) (y*W+0),(y:Int))=kk (pre W (WD amount W H P) (H*W+0),(H:Int)):=by
 obtain ⟨h1,h2,h3,h4,h5,h6⟩:=Fx hp;intro d
 induction d with
 | zero=>
  intro y fuel hk hf;obtain ⟨fuel,rfl⟩:=mK fuel (by omega);obtain rfl:y=H:=by omega
  unfold m9;rw [cF (dF (by omega))]
 | succ d ih=>
  intro y fuel hk hf;obtain ⟨fuel,rfl⟩:=mK fuel (by omega);unfold m9;rw [cT (dT (by omega))];refine (aEG hp ha _ (y:=y) (by omega) W 0 1125899906842624 (by omega) (by omega)).trans ?_
  dsimp only
  rw [aC,dC (by omega)];exact ih (y+1) fuel (by omega) (by omega)
theorem YX {amount:Int} (ha:0≤amount∧amount≤1024):sJ 1125899906842624 W H P amount=some ((W:Int),(H:Int),Lu W H (WD amount W H P)):=by
 obtain ⟨h1,h2,h3,h4,h5,h6⟩:=Fx hp;unfold sJ;have:=aEH hp ha (fun x:List Px × Int=>some ((W:Int),(H:Int),x.1)) H 0 1125899906842624 (by omega) (by omega);simp only [Nat.zero_mul,Nat.add_zero,pre,List.range_zero,List.map_nil] at this;refine this.trans ?_;rw [Lu,Nat.mul_comm]
end
def Ek (lo hi n:Int):Bool:=decide (lo≤n∧n≤hi)
theorem aGy (N:Nat) (s:List Int) (lo hi:Int) (hl:s.length≤4096):∀(d k fuel:Nat),k+d=s.length→d<fuel →
  ∃r,eH N s lo hi (fun _=>some (-1)) fuel (k:Int)=some r∧decide (0≤r) = !((s.drop k).all (Ek lo hi)):=by
 intro d
 induction d with
 | zero=>
  intro k fuel hk hf;obtain ⟨fuel,rfl⟩:=mK fuel (by omega);obtain rfl:k=s.length:=by omega
  unfold eH;rw [cF (dF (by omega))];exact ⟨_,rfl,by simp⟩
 | succ d ih=>
  intro k fuel hk hf;obtain ⟨fuel,rfl⟩:=mK fuel (by omega);have hlt:k<s.length:=by omega
  unfold eH Fo;rw [cT (dT (by omega)),dH,List.getElem?_eq_getElem hlt,aC,List.drop_eq_getElem_cons hlt,List.all_cons]
  by_cases h1:s[k]<lo
  ·rw [cT (dT h1),aC,cT (by rfl)];refine ⟨_,rfl,?_⟩;have:Ek lo hi s[k]=false:=dF (by omega);rw [this,dT (by omega)];rfl
  rw [cF (dF h1),aC]
  by_cases h2:hi<s[k]
  ·rw [cT (dT h2)];refine ⟨_,rfl,?_⟩;have:Ek lo hi s[k]=false:=dF (by omega);rw [this,dT (by omega)];rfl
  rw [cF (dF h2),dC (by omega)];have:Ek lo hi s[k]=true:=dT (by omega);rw [this,Bool.true_and];exact ih (k+1) fuel (by omega) (by omega)
theorem G4 (lo hi:Int) (s:List Int) (hl:s.length≤4096):pK 1125899906842624 lo hi s=some (s.all (Ek lo hi)):=by
 obtain ⟨r,hr,hd⟩:=aGy 1125899906842624 s lo hi hl s.length 0 1125899906842624 (by omega) (by omega);unfold pK iZ jS;rw [show (0:Int)=((0:Nat):Int) from rfl] ;rw [hr,aC,aC];rw [List.drop_zero] at hd;have hd':decide (((0:Nat):Int)≤r) = !(s.all (Ek lo hi)):=hd;rw [hd',Bool.not_not]
theorem YY {W H:Int} (hW:-1000≤W∧W≤1000) (hH:-1000≤H∧H≤1000) (x y:Int):yN 1125899906842624 x y W H=some (!(gC W H (x,y))):=by
 unfold yN;rw [dC (by omega),dC (by omega),G4 _ _ _ (by simp),aC,G4 _ _ _ (by simp)];simp only [List.all_cons,List.all_nil,Bool.and_true]
 by_cases h1:0≤x∧x≤W-1
 ·have e1:Ek 0 (W-1) x=true:=dT h1;rw [e1,cF (by rfl),aC]
  congr 2
  unfold gC Ek;rw [dT (show (0:Int)≤x by omega),dT (show x<W by omega),Bool.true_and,Bool.true_and]
  by_cases h2:0≤y∧y≤H-1
  ·rw [dT h2,dT (show (0:Int)≤y by omega),dT (show y<H by omega)];rfl
  ·rw [dF h2]
   by_cases h3:0≤y
   ·rw [dF (show ¬y<H by omega)];simp
   ·rw [dF h3];rfl
 ·have e1:Ek 0 (W-1) x=false:=dF h1;rw [e1,cT (by rfl)]
  congr 1
  unfold gC
  by_cases h3:0≤x
  ·rw [dF (show ¬x<W by omega)];simp
  ·rw [dF h3];rfl
theorem YZ (s:List (Int × Int)) {W H:Int} (hW:-1000≤W∧W≤1000) (hH:-1000≤H∧H≤1000) (hl:s.length≤4096):∀(d k fuel:Nat),k+d=s.length→d<fuel →
  ∃r,bP 1125899906842624 s W H (fun _=>some (-1)) fuel (k:Int)=some r∧decide (0≤r) = !((s.drop k).all (gC W H)):=by
 intro d
 induction d with
 | zero=>
  intro k fuel hk hf;obtain ⟨fuel,rfl⟩:=mK fuel (by omega);obtain rfl:k=s.length:=by omega
  unfold bP;rw [cF (dF (by omega))];exact ⟨_,rfl,by simp⟩
 | succ d ih=>
  intro k fuel hk hf;obtain ⟨fuel,rfl⟩:=mK fuel (by omega);have hlt:k<s.length:=by omega
  unfold bP;rw [cT (dT (by omega)),dH,List.getElem?_eq_getElem hlt,aC,List.drop_eq_getElem_cons hlt,List.all_cons,YY hW hH,aC];cases h:gC W H s[k]
  ·rw [cT (by rfl)];refine ⟨_,rfl,?_⟩;rw [dT (by omega)];rfl
  ·rw [cF (by rfl),dC (by omega),Bool.true_and];exact ih (k+1) fuel (by omega) (by omega)
theorem PB (s:List (Int × Int)) {W H:Int} (hW:-1000≤W∧W≤1000) (hH:-1000≤H∧H≤1000) (hl:s.length≤4096):zO 1125899906842624 s W H=some (s.all (gC W H)):=by
 obtain ⟨r,hr,hd⟩:=YZ s hW hH hl s.length 0 1125899906842624 (by omega) (by omega);have hr':bP 1125899906842624 s W H (fun _=>some (-1)) 1125899906842624 0=some r:=hr;unfold zO eN fG;rw [hr',aC,aC,hd,List.drop_zero,Bool.not_not]
theorem TZ (s:List (Int × Int)) {W H:Int} (hW:-1000≤W∧W≤1000) (hH:-1000≤H∧H≤1000) (hl:s.length≤4096):∀(d k fuel:Nat),k+d=s.length→d<fuel →
  lB 1125899906842624 s W H (fun _=>some true) fuel (k:Int)=some ((s.drop k).all (gC W H)):=by
 intro d
 induction d with
 | zero=>
  intro k fuel hk hf;obtain ⟨fuel,rfl⟩:=mK fuel (by omega);obtain rfl:k=s.length:=by omega
  unfold lB;rw [cF (dF (by omega))]
  simp
 | succ d ih=>
  intro k fuel hk hf;obtain ⟨fuel,rfl⟩:=mK fuel (by omega);have hlt:k<s.length:=by omega
  unfold lB;rw [cT (dT (by omega)),dH,List.getElem?_eq_getElem hlt,aC,aC,aC,List.drop_eq_getElem_cons hlt,List.all_cons,dC (x:=W-1) (by omega),dC (x:=H-1) (by omega),rP,aC,rP,aC]
  by_cases h1:0≤s[k].1∧s[k].1≤W-1
  ·rw [cF (by rw [dT h1];rfl)]
   by_cases h2:0≤s[k].2∧s[k].2≤H-1
   ·rw [cF (by rw [dT h2];rfl),dC (by omega)]
    have:gC W H s[k]=true:=by
     unfold gC;simp only [Bool.and_eq_true,decide_eq_true_eq];omega
    rw [this,Bool.true_and];exact ih (k+1) fuel (by omega) (by omega)
   ·rw [cT (by rw [dF h2];rfl)]
    have:gC W H s[k]=false:=by
     unfold gC;simp only [Bool.and_eq_false_iff,decide_eq_false_iff_not];omega
    rw [this];rfl
  ·rw [cT (by rw [dF h1];rfl)]
   have:gC W H s[k]=false:=by
    unfold gC;simp only [Bool.and_eq_false_iff,decide_eq_false_iff_not];omega
   rw [this];rfl
theorem NK (s:List (Int × Int)) {W H:Int} (hW:-1000≤W∧W≤1000) (hH:-1000≤H∧H≤1000) (hl:s.length≤4096):p9 1125899906842624 s W H=some (s.all (gC W H)):=by
 have:=TZ s hW hH hl s.length 0 1125899906842624 (by omega) (by omega);rw [List.drop_zero] at this;exact this
section
variable (ph b0 b1 b2 b3 w:Int) (sp:List (Int × Int)) (g0 g1 g2 m0 m1 m2 m3 m4 m5 m6 m7 m8:Int) (cv:List (Int × Int)) (am:Int)
def yH:Bool:=Ek 0 3 ph&&(Ek 1 65535 w&&([b0,b1,b2,b3].all (Ek 0 (w-1))&&(decide (sp.length≤64)&&(sp.all (gC 64 64)&&([g0,g1,g2].all (Ek 0 65535)&&(B2 m0 m1 m2 m3 m4 m5 m6 m7 m8&&Ek 0 1024 am))))))
theorem Kk {b:Bool} (hb:kE 1125899906842624 cv=some b) (hc:b=true↔pJ cv):rW 1125899906842624 ph b0 b1 b2 b3 w sp g0 g1 g2 m0 m1 m2 m3 m4 m5 m6 m7 m8 cv am=some (if yH ph b0 b1 b2 b3 w sp g0 g1 g2 m0 m1 m2 m3 m4 m5 m6 m7 m8 am=false then 3 else if b=false then 1 else 0):=by
 unfold rW yH;rw [G4 _ _ _ (by simp),aC];simp only [List.all_cons,List.all_nil,Bool.and_true];cases h1:Ek 0 3 ph
 ·rfl
 rw [cF (by rfl),G4 _ _ _ (by simp),aC];simp only [List.all_cons,List.all_nil,Bool.and_true,Bool.true_and];cases h2:Ek 1 65535 w
 ·rfl
 have h2':1≤w∧w≤65535:=of_decide_eq_true h2;rw [cF (by rfl),dC (by omega),G4 _ _ _ (by simp),aC];simp only [List.all_cons,List.all_nil,Bool.and_true,Bool.true_and];cases h3:(Ek 0 (w-1) b0&&(Ek 0 (w-1) b1&&(Ek 0 (w-1) b2&&Ek 0 (w-1) b3)))
 ·rfl
 rw [cF (by rfl)]
 by_cases h4:sp.length≤64
 rotate_left
 ·rw [cT (dT (by omega)),dF h4];rfl
 rw [cF (dF (by omega)),dT h4,PB sp (by omega) (by omega) (by omega),aC];simp only [Bool.true_and];cases h5:sp.all (gC 64 64)
 ·rfl
 rw [cF (by rfl),G4 _ _ _ (by simp),aC];simp only [List.all_cons,List.all_nil,Bool.and_true,Bool.true_and];cases h6:(Ek 0 65535 g0&&(Ek 0 65535 g1&&Ek 0 65535 g2))
 ·rfl
 rw [cF (by rfl),G4 _ _ _ (by simp),aC,show [m0,m1,m2,m3,m4,m5,m6,m7,m8].all (Ek (-32768) 32768)=B2 m0 m1 m2 m3 m4 m5 m6 m7 m8 from rfl];simp only [Bool.true_and];cases h7:B2 m0 m1 m2 m3 m4 m5 m6 m7 m8
 ·rfl
 rw [cF (by rfl),G4 _ _ _ (by simp),aC];simp only [List.all_cons,List.all_nil,Bool.and_true,Bool.true_and];cases h8:Ek 0 1024 am
 ·rfl
 rw [cF (by rfl),YN hb hc 0,aC]
 cases b <;> rfl
theorem WE (hw:1≤w∧w≤65535) (kk:Int→Option Int):eE 1125899906842624 b0 b1 b2 b3 w kk 1125899906842624 0=if [b0,b1,b2,b3].all (Ek 0 (w-1)) then kk 4 else some 3:=by
 have one:∀(fuel:Nat) (i:Nat) (b:Int),i<4→idx [b0,b1,b2,b3] (i:Int)=some b→eE 1125899906842624 b0 b1 b2 b3 w kk (fuel+1) (i:Int)=if Ek 0 (w-1) b then eE 1125899906842624 b0 b1 b2 b3 w kk fuel ((i+1:Nat):Int) else some 3:=fun fuel i b hi hx=>by
  conv=>lhs;unfold eE
  rw [cT (dT (by omega)),Lx (by omega),aC,hx,aC,dC (x:=w-1) (by omega),rP,aC,dC (by omega),aC,show decide (0≤b∧b≤w-1)=Ek 0 (w-1) b from rfl]
  cases Ek 0 (w-1) b <;> rfl
 have h0:=one 1125899906842623 0 b0 (by decide) rfl;have h1:=one 1125899906842622 1 b1 (by decide) rfl;have h2:=one 1125899906842621 2 b2 (by decide) rfl;have h3:=one 1125899906842620 3 b3 (by decide) rfl
 have h4:eE 1125899906842624 b0 b1 b2 b3 w kk 1125899906842620 ((3+1:Nat):Int)=kk 4:=by
  show eE 1125899906842624 b0 b1 b2 b3 w kk (1125899906842619+1) 4=kk 4;unfold eE;rw [cF (by decide)]
 refine h0.trans ?_;simp only [List.all_cons,List.all_nil,Bool.and_true];cases Ek 0 (w-1) b0
 ·rfl
 refine h1.trans ?_;cases Ek 0 (w-1) b1
 ·rfl
 refine h2.trans ?_;cases Ek 0 (w-1) b2
 ·rfl
 refine h3.trans ?_;cases Ek 0 (w-1) b3
 ·rfl
 exact h4
theorem Y0 (kk:Int→Option Int):eD 1125899906842624 g0 g1 g2 kk 1125899906842624 0=if [g0,g1,g2].all (Ek 0 65535) then kk 3 else some 3:=by
 have one:∀(fuel:Nat) (i:Nat) (b:Int),i<3→idx [g0,g1,g2] (i:Int)=some b→eD 1125899906842624 g0 g1 g2 kk (fuel+1) (i:Int)=if Ek 0 65535 b then eD 1125899906842624 g0 g1 g2 kk fuel ((i+1:Nat):Int) else some 3:=fun fuel i b hi hx=>by
  conv=>lhs;unfold eD
  rw [cT (dT (by omega)),Lx (by omega),aC,hx,aC,rP,aC,dC (by omega),aC,show decide (0≤b∧b≤65535)=Ek 0 65535 b from rfl]
  cases Ek 0 65535 b <;> rfl
 have h0:=one 1125899906842623 0 g0 (by decide) rfl;have h1:=one 1125899906842622 1 g1 (by decide) rfl;have h2:=one 1125899906842621 2 g2 (by decide) rfl
 have h3:eD 1125899906842624 g0 g1 g2 kk 1125899906842621 ((2+1:Nat):Int)=kk 3:=by
  show eD 1125899906842624 g0 g1 g2 kk (1125899906842620+1) 3=kk 3;unfold eD;rw [cF (by decide)]
 refine h0.trans ?_;simp only [List.all_cons,List.all_nil,Bool.and_true];cases Ek 0 65535 g0
 ·rfl
 refine h1.trans ?_;cases Ek 0 65535 g1
 ·rfl
 refine h2.trans ?_;cases Ek 0 65535 g2
 ·rfl
 exact h3
theorem Qx {b:Bool} (hb:gP 1125899906842624 cv=some b):oX 1125899906842624 ph b0 b1 b2 b3 w sp g0 g1 g2 m0 m1 m2 m3 m4 m5 m6 m7 m8 cv am=some (if yH ph b0 b1 b2 b3 w sp g0 g1 g2 m0 m1 m2 m3 m4 m5 m6 m7 m8 am=false then 3 else if b=false then 1 else 0):=by
 unfold oX yH;rw [rP,aC,show decide (0≤ph∧ph≤3)=Ek 0 3 ph from rfl];cases h1:Ek 0 3 ph
 ·rfl
 rw [cF (by rfl),rP,aC,show decide (1≤w∧w≤65535)=Ek 1 65535 w from rfl];simp only [Bool.true_and];cases h2:Ek 1 65535 w
 ·rfl
 have h2':1≤w∧w≤65535:=of_decide_eq_true h2;rw [cF (by rfl)]
 by_cases h4:sp.length≤64
 rotate_left
 ·rw [cT (dT (by omega)),dF h4];simp
 rw [cF (dF (by omega)),dT h4,NK sp (by omega) (by omega) (by omega),aC];cases h5:sp.all (gC 64 64)
 ·simp
 rw [cF (by rfl),TS 1125899906842624 m0 m1 m2 m3 m4 m5 m6 m7 m8 (by omega),aC];cases h7:B2 m0 m1 m2 m3 m4 m5 m6 m7 m8
 ·simp
 rw [cF (by rfl),rP,aC,show decide (0≤am∧am≤1024)=Ek 0 1024 am from rfl];cases h8:Ek 0 1024 am
 ·simp
 rw [cF (by rfl),WE b0 b1 b2 b3 w h2'];cases h3:[b0,b1,b2,b3].all (Ek 0 (w-1))
 ·rfl
 rw [if_pos rfl,Y0 g0 g1 g2];cases h6:[g0,g1,g2].all (Ek 0 65535)
 ·rfl
 rw [if_pos rfl,hb,aC]
 cases b <;> rfl
end
end
end Go.Proofs.YtpmnfhifmmfglacGreatDoor
