/- Texts of the claim ShotAlike, joined and made small by a program. -/
import Derived.Test.YtpmnfhifmmfglabGreatDoorShotAlikeK5
set_option linter.unusedVariables false
set_option linter.unusedSimpArgs false
set_option linter.unusedSectionVars false
set_option maxRecDepth 100000
set_option maxHeartbeats 8000000
namespace Go.Proofs.YtpmnfhifmmfglabGreatDoor
section
open Go
abbrev Six:=Int × Int × Int × Int × Int × Int
def Sh (phase c:Int) (L:List (Int × Int)):List (Int × Int):=L.filter fun q=>decide (u6 phase q.1 q.2=c)
def Vy (W:Int) (P:List Int) (q:Int × Int):Int:=P.getD (q.2*W+q.1).toNat 0
def cnt (phase c:Int) (L:List (Int × Int)):Int:=((Sh phase c L).length:Nat)
def sm (W:Int) (P:List Int) (phase c:Int) (L:List (Int × Int)):Int:=((Sh phase c L).map (Vy W P)).sum
def DA (W:Int) (P:List Int) (phase:Int) (L:List (Int × Int)):Six:=(cnt phase 0 L,cnt phase 1 L,cnt phase 2 L,sm W P phase 0 L,sm W P phase 1 L,sm W P phase 2 L)
theorem OA (phase c:Int) (L:List (Int × Int)) (q:Int × Int):Sh phase c (L++[q])=if u6 phase q.1 q.2=c then Sh phase c L++[q] else Sh phase c L:=by
 unfold Sh;rw [List.filter_append]
 by_cases h:u6 phase q.1 q.2=c
 ·rw [if_pos h];simp [h]
 ·rw [if_neg h];simp [h]
theorem Vz (phase c:Int) (L:List (Int × Int)) (q:Int × Int):cnt phase c (L++[q])=if u6 phase q.1 q.2=c then cnt phase c L+1 else cnt phase c L:=by
 unfold cnt;rw [OA]
 split <;> simp
theorem YR (W:Int) (P:List Int) (phase c:Int) (L:List (Int × Int)) (q:Int × Int):sm W P phase c (L++[q])=if u6 phase q.1 q.2=c then sm W P phase c L+Vy W P q else sm W P phase c L:=by
 unfold sm;rw [OA]
 split <;> simp
theorem Kr (phase c:Int) (L:List (Int × Int)):0≤cnt phase c L∧cnt phase c L≤L.length:=by
 have:=List.length_filter_le (fun q:Int × Int=>decide (u6 phase q.1 q.2=c)) L;unfold cnt Sh
 omega
theorem VA (top:Int):∀l:List Int,(∀x∈l,0≤x∧x≤top)→0≤l.sum∧l.sum≤top*l.length
 | [],_=>by simp
 | x::l,h=>by
  have h1:=h x (by simp);have h2:=VA top l fun y hy=>h y (by simp [hy])
  rw [List.sum_cons,List.length_cons];have:top*((l.length+1:Nat):Int)=top*l.length+top:=by rw [Int.natCast_add,Int.mul_add];simp
  omega
def upTo (P:List Int) (top:Int):Prop:=∀i:Nat,0≤P.getD i 0∧P.getD i 0≤top
theorem aAs {W:Int} {P:List Int} {top:Int} (hP:upTo P top) (phase c:Int) (L:List (Int × Int)):0≤sm W P phase c L∧sm W P phase c L≤top*cnt phase c L:=by
 have:=VA top ((Sh phase c L).map (Vy W P)) fun x hx=>by
  obtain ⟨q,_,rfl⟩:=List.mem_map.1 hx;exact hP _
 rw [List.length_map] at this;exact this
theorem IN {W:Int} {P:List Int} (hP:upTo P 65535) (phase c:Int) (L:List (Int × Int)) (hL:L.length≤100):0≤sm W P phase c L∧sm W P phase c L≤6553500:=by
 have h1:=aAs (W:=W) hP phase c L;have h2:=Kr phase c L
 omega
theorem Hi {P:List Int} {n:Nat} (hl:P.length=n) (h:∀i,i<n→0≤P.getD i 0∧P.getD i 0≤65535):upTo P 65535:=fun i=>by
 by_cases hi:i<n
 ·exact h i hi
 ·rw [List.getD_eq_getElem?_getD,List.getElem?_eq_none (by omega)];simp
section
variable {W H x y phase:Int} {P:List Int} (hC:Oq W H P x y) (hp:0≤phase∧phase≤3) (hP:upTo P 65535)
include hC hp hP
theorem VB {L:List (Int × Int)} (hL:L.length≤99) {u v:Int} (hq:0≤u∧u<W∧0≤v∧v<H) :
  lU 8589934592 W P phase u v (DA W P phase L).1 (DA W P phase L).2.1 (DA W P phase L).2.2.1 (DA W P phase L).2.2.2.1 (DA W P phase L).2.2.2.2.1 (DA W P phase L).2.2.2.2.2=some (DA W P phase (L++[(u,v)])):=by
 have hC':=hC;obtain ⟨k1,k2,k3,k4,k5,k6,k7⟩:=hC';obtain ⟨h1,_,_,h2⟩:=QK hC hq;have c0:=Kr phase 0 L;have c1:=Kr phase 1 L;have c2:=Kr phase 2 L;have s0:=IN (W:=W) hP phase 0 L (by omega);have s1:=IN (W:=W) hP phase 1 L (by omega);have s2:=IN (W:=W) hP phase 2 L (by omega);have hpv:=hP (v*W+u).toNat;have hr:=Ni phase u v;unfold lU;rw [Mg 8589934592 hp (by omega) (by omega),aC,h1,h2];simp only [DA,Vz,YR,aC];have e:Vy W P (u,v)=P.getD (v*W+u).toNat 0:=rfl;have hc:u6 phase u v=0∨u6 phase u v=1∨u6 phase u v=2:=by omega
 rcases hc with hc | hc | hc
 ·rw [hc,cT (by decide),cT (by decide),gF (by omega),gF (by omega),e];rfl
 ·rw [hc,cF (by decide),cT (by decide),cF (by decide),cT (by decide),gF (by omega),gF (by omega),e];rfl
 ·rw [hc,cF (by decide),cF (by decide),cF (by decide),cF (by decide),gF (by omega),gF (by omega),e];rfl
theorem Mh:∀(L pre:List (Int × Int)),(pre++L).length≤99→(∀q∈L,0≤q.1∧q.1<W∧0≤q.2∧q.2<H)→List.foldl (eZ 8589934592 W P phase) (DA W P phase pre) L=DA W P phase (pre++L)
 | [],pre,_,_=>by simp
 | (u,v)::L,pre,hl,hq=>by
  have h1:=VB hC hp hP (L:=pre) (by simp at hl;omega) (hq (u,v) (by simp));rw [List.foldl_cons]
  have:eZ 8589934592 W P phase (DA W P phase pre) (u,v)=DA W P phase (pre++[(u,v)]):=by
   unfold eZ;rw [h1];rfl
  rw [this,Mh L (pre++[(u,v)]) (by simpa using hl) (fun q h=>hq q (by simp [h]))]
  simp
end
def TH (W x v:Int):Nat→Int→List (Int × Int)
 | 0,_=>[]
 | k+1,u=>if u≤min (W-1) (x+1) then (u,v)::TH W x v k (u+1) else []
def TI (W H x y:Int):Nat→Int→List (Int × Int)
 | 0,_=>[]
 | k+1,v=>if v≤min (H-1) (y+1) then TH W x v 4 (max 0 (x-1))++TI W H x y k (v+1) else []
def tF (W H x y:Int):List (Int × Int):=TI W H x y 4 (max 0 (y-1))
theorem QL (W x y v:Int):∀(k:Nat) (u:Int),Vm W x y v k u=(TH W x v k u).filter fun q=>decide (q≠(x,y))
 | 0,_=>rfl
 | k+1,u=>by
  unfold Vm TH
  by_cases h:u≤x+1∧u<W
  ·rw [if_pos h,if_pos (show u≤min (W-1) (x+1) by omega),List.filter_cons]
   by_cases h2:u≠x∨v≠y
   ·rw [if_pos h2,if_pos (by simp;omega),QL W x y v k (u+1)]
   ·rw [if_neg h2,if_neg (by simp;omega),QL W x y v k (u+1)]
  ·rw [if_neg h,if_neg (show ¬u≤min (W-1) (x+1) by omega)];rfl
theorem VC (W H x y:Int):∀(k:Nat) (v:Int),Ty W H x y k v=(TI W H x y k v).filter fun q=>decide (q≠(x,y))
 | 0,_=>rfl
 | k+1,v=>by
  unfold Ty TI
  by_cases h:v≤y+1∧v<H
  ·rw [if_pos h,if_pos (show v≤min (H-1) (y+1) by omega),List.filter_append,QL,VC W H x y k (v+1),Int.max_comm]
  ·rw [if_neg h,if_neg (by omega)];rfl
theorem IP (W H x y:Int):jH W H x y=(tF W H x y).filter fun q=>decide (q≠(x,y)):=by
 unfold jH tF;rw [VC,Int.max_comm]
theorem VD (W x v:Int):∀(k:Nat) (u:Int),0≤u→(TH W x v k u).length≤k∧∀q∈TH W x v k u,0≤q.1∧q.1<W∧q.2=v
 | 0,_,_=>by simp [TH]
 | k+1,u,h=>by
  unfold TH
  by_cases h1:u≤min (W-1) (x+1)
  ·rw [if_pos h1];obtain ⟨a,b⟩:=VD W x v k (u+1) (by omega);refine ⟨by simp;omega,fun q hq=>?_⟩
   rcases List.mem_cons.1 hq with rfl | hq
   ·exact ⟨h,by show u<W;omega,rfl⟩
   ·exact b q hq
  ·rw [if_neg h1];simp
theorem VE (W H x y:Int):∀(k:Nat) (v:Int),0≤v→(TI W H x y k v).length≤4*k∧∀q∈TI W H x y k v,0≤q.1∧q.1<W∧0≤q.2∧q.2<H
 | 0,_,_=>by simp [TI]
 | k+1,v,h=>by
  unfold TI
  by_cases h1:v≤min (H-1) (y+1)
  ·rw [if_pos h1];obtain ⟨a,b⟩:=VE W H x y k (v+1) (by omega);obtain ⟨a',b'⟩:=VD W x v 4 (max 0 (x-1)) (by omega);refine ⟨by rw [List.length_append];omega,fun q hq=>?_⟩
   rcases List.mem_append.1 hq with hq | hq
   ·obtain ⟨c1,c2,c3⟩:=b' q hq;exact ⟨c1,c2,by omega,by omega⟩
   ·exact b q hq
  ·rw [if_neg h1];simp
theorem QM (W H x y phase c:Int) (hc:c≠u6 phase x y):Sh phase c (jH W H x y)=Sh phase c (tF W H x y):=by
 rw [IP];unfold Sh;rw [List.filter_filter];refine List.filter_congr fun q _=>?_
 by_cases h:u6 phase q.1 q.2=c
 ·have hq:q≠(x,y):=fun e=>by subst e;exact hc h.symm
  simp [h,hq]
 ·simp [h]
def dv (n s:Int):Int:=if 0<n then s/n else s
def aB1 (c v:Int) (p:Px):Px:=if c=0 then (v,p.2.1,p.2.2) else if c=1 then (p.1,v,p.2.2) else (p.1,p.2.1,v)
def OB (W H:Int) (P:List Int) (phase x y:Int):Px:=aB1 (u6 phase x y) (Vy W P (x,y)) (dv (cnt phase 0 (tF W H x y)) (sm W P phase 0 (tF W H x y)),dv (cnt phase 1 (tF W H x y)) (sm W P phase 1 (tF W H x y)),dv (cnt phase 2 (tF W H x y)) (sm W P phase 2 (tF W H x y)))
theorem aB2 (N fuel:Nat) (a b c:Int) (kk) (s:Px):bW N a b c kk (fuel+1) (s.1,s.2.1,s.2.2,0)=bW N a b c kk fuel ((if 0<a then IntKind.i64.wrap (Int.tdiv s.1 a) else s.1),s.2.1,s.2.2,1):=by
 conv=>lhs;unfold bW
 rw [cT (by decide),cT (by decide),gF (x:=0+1) (by omega)]
 by_cases h:0<a
 ·rw [cT (dT h),if_pos h,cT (by decide),BQ (by omega)];rfl
 ·rw [cF (dF h),if_neg h];rfl
theorem aB3 (N fuel:Nat) (a b c:Int) (kk) (s:Px):bW N a b c kk (fuel+1) (s.1,s.2.1,s.2.2,1)=bW N a b c kk fuel (s.1,(if 0<b then IntKind.i64.wrap (Int.tdiv s.2.1 b) else s.2.1),s.2.2,2):=by
 conv=>lhs;unfold bW
 rw [cT (by decide),cF (by decide),cT (by decide),gF (x:=1+1) (by omega)]
 by_cases h:0<b
 ·rw [cT (dT h),if_pos h,cF (by decide),cT (by decide),BQ (by omega)];rfl
 ·rw [cF (dF h),if_neg h];rfl
theorem VF (N fuel:Nat) (a b c:Int) (kk) (s:Px):bW N a b c kk (fuel+2) (s.1,s.2.1,s.2.2,2)=kk (s.1,s.2.1,(if 0<c then IntKind.i64.wrap (Int.tdiv s.2.2 c) else s.2.2),3):=by
 conv=>lhs;unfold bW
 rw [cT (by decide),cF (by decide),cF (by decide),gF (x:=2+1) (by omega)]
 have e:∀t:Px,bW N a b c kk (fuel+1) (t.1,t.2.1,t.2.2,2+1)=kk (t.1,t.2.1,t.2.2,3):=fun t=>by
  unfold bW;rw [cF (by decide)];rfl
 by_cases h:0<c
 ·rw [cT (dT h),if_pos h,cF (by decide),cF (by decide),BQ (by omega),aC];exact e (s.1,s.2.1,IntKind.i64.wrap (Int.tdiv s.2.2 c))
 ·rw [cF (dF h),if_neg h];exact e s
theorem Nj {n s:Int} (hs:0≤s∧s≤6553500):(if 0<n then IntKind.i64.wrap (Int.tdiv s n) else s)=dv n s:=by
 unfold dv
 split
 ·rename_i h
  have h1:=Int.ediv_nonneg hs.1 (show 0≤n by omega);have h2:=Int.ediv_le_self n hs.1;rw [Int.tdiv_eq_ediv_of_nonneg hs.1,gF (by omega)]
 ·rfl
section
variable {W H x y phase:Int} {P:List Int} (hC:Oq W H P x y) (hp:0≤phase∧phase≤3) (hP:upTo P 65535)
include hC hp hP
theorem VG:uX 8589934592 W H P phase x y=some (OB W H P phase x y):=by
 have hC':=hC;obtain ⟨k1,k2,k3,k4,k5,k6,k7⟩:=hC';obtain ⟨fl,fi⟩:=VE W H x y 4 (max 0 (y-1)) (by omega)
 have al:(jH W H x y).length≤16:=by
  rw [IP];exact Nat.le_trans (List.length_filter_le _ _) fl
 have ai:∀q∈jH W H x y,0≤q.1∧q.1<W∧0≤q.2∧q.2<H:=fun q hq=>by
  rw [IP] at hq;exact fi q (List.mem_filter.1 hq).1
 have hf:=Mh hC hp hP (jH W H x y) [] (by simp;omega) ai;have s0:=IN (W:=W) hP phase 0 (jH W H x y) (by omega);have s1:=IN (W:=W) hP phase 1 (jH W H x y) (by omega);have s2:=IN (W:=W) hP phase 2 (jH W H x y) (by omega);obtain ⟨e1,_,_,e2⟩:=QK hC (u:=x) (v:=y) (by omega);unfold uX;rw [cT (dT hC)];have hf':List.foldl (eZ 8589934592 W P phase) (0,0,0,0,0,0) (jH W H x y)=DA W P phase (jH W H x y):=hf;rw [hf'];unfold At DA
 dsimp only
 rw [aB2 8589934592 8589934591 _ _ _ _ (sm W P phase 0 (jH W H x y),sm W P phase 1 (jH W H x y),sm W P phase 2 (jH W H x y))]
 dsimp only
 rw [aB3 8589934592 8589934590 _ _ _ _ (_,sm W P phase 1 (jH W H x y),sm W P phase 2 (jH W H x y))]
 dsimp only
 rw [VF 8589934592 8589934588 _ _ _ _ (_,_,sm W P phase 2 (jH W H x y))]
 dsimp only
 rw [Nj s0,Nj s1,Nj s2,Mg 8589934592 hp (by omega) (by omega),aC,e1,e2];have hr:=Ni phase x y
 have other:∀c,c≠u6 phase x y→cnt phase c (jH W H x y)=cnt phase c (tF W H x y)∧sm W P phase c (jH W H x y)=sm W P phase c (tF W H x y):=fun c hc=>by
  unfold cnt sm;rw [QM W H x y phase c hc];exact ⟨rfl,rfl⟩
 unfold OB aB1;have ep:Vy W P (x,y)=P.getD (y*W+x).toNat 0:=rfl;have hc:u6 phase x y=0∨u6 phase x y=1∨u6 phase x y=2:=by omega
 rcases hc with hc | hc | hc
 ·rw [(other 1 (by omega)).1,(other 1 (by omega)).2,(other 2 (by omega)).1,(other 2 (by omega)).2,hc,cT (by decide),ep];rfl
 ·rw [(other 0 (by omega)).1,(other 0 (by omega)).2,(other 2 (by omega)).1,(other 2 (by omega)).2,hc,cF (by decide),cT (by decide),ep];rfl
 ·rw [(other 0 (by omega)).1,(other 0 (by omega)).2,(other 1 (by omega)).1,(other 1 (by omega)).2,hc,cF (by decide),cF (by decide),ep];rfl
end
theorem QN (N:Nat) (W H:Int) (P:List Int) (hl:P.length≤9223372036854775807):fY N W H P []=some (if dJ W H P=false then (0,0,[],1) else (W,H,(List.range P.length).map (qR W H [] P),0)):=by
 unfold fY;rw [if_neg (by omega)];cases dJ W H P
 ·rfl
 ·rw [if_neg (by simp),if_neg (by simp),if_neg (by simp),if_neg (by simp)]
section
variable {W H:Nat} {P:List Int} (hW:1≤W∧W≤64∧1≤H∧H≤64) (hl:P.length=W*H) (hP:upTo P 65535) {phase:Int} (hp:0≤phase∧phase≤3)
def pF (W H:Nat) (P:List Int) (phase:Int) (x y:Nat):Px:=OB W H P phase x y
include hW hl in
theorem VH {x y:Nat} (hx:x<W) (hy:y<H):Oq (W:Int) (H:Int) P x y:=⟨by omega,by omega,by omega,by omega,by omega,by omega,by rw [hl,Int.natCast_mul]⟩
include hW hl hP hp
theorem YS (kk) {y:Nat} (hy:y<H):∀(d x fuel:Nat),x+d=W→d<fuel →
  pK 8589934592 W H P phase y kk fuel (pre W (pF W H P phase) (y*W+x),(x:Int))=kk (pre W (pF W H P phase) ((y+1)*W+0),(W:Int)):=by
 have hm:=Nat.mul_le_mul hW.2.1 hW.2.2.2;intro d
 induction d with
 | zero=>
  intro x fuel hk hf;obtain ⟨fuel,rfl⟩:=oK fuel (by omega);obtain rfl:x=W:=by omega
  unfold pK;rw [cF (dF (by omega)),YK]
 | succ d ih=>
  intro x fuel hk hf;obtain ⟨fuel,rfl⟩:=oK fuel (by omega);have hx:x<W:=by omega
  have hpl:=mG hx hy;unfold pK;rw [cT (dT (by omega)),VG (VH hW hl hx hy) hp hP,aC];have e:((OB (W:Int) (H:Int) P phase x y).1,(OB (W:Int) (H:Int) P phase x y).2.1,(OB (W:Int) (H:Int) P phase x y).2.2)=pF W H P phase x y:=rfl;rw [e,oS (by rw [YJ];simp;omega),aC,gF (by omega),←Vx (pF W H P phase) y hx];exact ih (x+1) fuel (by omega) (by omega)
theorem YT (kk):∀(d y fuel:Nat),y+d=H→d<fuel →
  nA 8589934592 W H P phase kk fuel (pre W (pF W H P phase) (y*W+0),(y:Int))=kk (pre W (pF W H P phase) (H*W+0),(H:Int)):=by
 intro d
 induction d with
 | zero=>
  intro y fuel hk hf;obtain ⟨fuel,rfl⟩:=oK fuel (by omega);obtain rfl:y=H:=by omega
  unfold nA;rw [cF (dF (by omega))]
 | succ d ih=>
  intro y fuel hk hf;obtain ⟨fuel,rfl⟩:=oK fuel (by omega);unfold nA;rw [cT (dT (by omega))];refine (YS hW hl hP hp _ (y:=y) (by omega) W 0 8589934592 (by omega) (by omega)).trans ?_
  dsimp only
  rw [gF (by omega)];exact ih (y+1) fuel (by omega) (by omega)
theorem TJ (kk:List Px × Int→Option (Int × Int × List Px × Int)):nA 8589934592 W H P phase kk 8589934592 ([],0)=kk (E8 W H (pF W H P phase),(H:Int)):=by
 have:=YT hW hl hP hp kk H 0 8589934592 (by omega) (by omega);simp only [Nat.zero_mul,Nat.add_zero,pre,List.range_zero,List.map_nil] at this;refine this.trans ?_;rw [E8,Nat.mul_comm]
end
theorem fill_eq (W H:Int) (P:List Int) (phase:Int) (hl:P.length≤9223372036854775807):tQ 8589934592 W H P phase=some (if dJ W H P=false then (0,0,[],1) else if 0≤phase∧phase≤3 then (W,H,E8 W.toNat H.toNat (pF W.toNat H.toNat P phase),0) else (0,0,[],3)):=by
 unfold tQ;rw [QN 8589934592 W H P hl,aC];cases hq:dJ W H P
 ·rfl
 ·obtain ⟨w,h,rfl,rfl,w1,w2,w3,w4,hlen,hm,hall⟩:=Cr hq;rw [if_neg (by simp),if_neg (by simp),cF (by rfl)]
  by_cases a1:phase<0
  ·rw [cT (dT a1),if_neg (by omega)]
  rw [cF (dF a1)]
  by_cases a2:3<phase
  ·rw [cT (dT a2),if_neg (by omega)]
  rw [cF (dF a2),if_pos (by omega),Int.toNat_natCast,Int.toNat_natCast];exact TJ ⟨w1,w2,w3,w4⟩ hlen (Hi hlen hall) (by omega) _
theorem aDw {n s top:Int} (ht:0≤top) (hn:0≤n) (hs:0≤s∧s≤top*n):0≤dv n s∧dv n s≤top:=by
 unfold dv
 by_cases h:0<n
 ·rw [if_pos h];exact ⟨Int.ediv_nonneg hs.1 hn,Int.ediv_le_of_le_mul h hs.2⟩
 ·rw [if_neg h];have:n=0:=by omega
  subst this
  simp at hs
  omega
theorem aB4 {W H:Nat} {P:List Int} {top:Int} (ht:0≤top) (hP:upTo P top) (phase:Int) (x y:Nat):(0≤(pF W H P phase x y).1∧(pF W H P phase x y).1≤top)∧(0≤(pF W H P phase x y).2.1∧(pF W H P phase x y).2.1≤top)∧(0≤(pF W H P phase x y).2.2∧(pF W H P phase x y).2.2≤top):=by
 have own:0≤Vy W P ((x:Int),(y:Int))∧Vy W P ((x:Int),(y:Int))≤top:=hP _;have d:∀c,0≤dv (cnt phase c (tF W H x y)) (sm W P phase c (tF W H x y))∧dv (cnt phase c (tF W H x y)) (sm W P phase c (tF W H x y))≤top:=fun c=>aDw ht (Kr _ _ _).1 (aAs hP phase c _)
 unfold pF OB aB1
 split
 ·exact ⟨own,d 1,d 2⟩
 ·split
  ·exact ⟨d 0,own,d 2⟩
  ·exact ⟨d 0,d 1,own⟩
theorem VJ {W H:Nat} {P:List Int} (h:1≤W∧W≤64∧1≤H∧H≤64) (hP:upTo P 65535) (phase:Int):rN W H (E8 W H (pF W H P phase))=true:=YL h fun x y _ _=>by
 obtain ⟨a,b,c⟩:=aB4 (W:=W) (H:=H) (by omega) hP phase x y;simp only [Af,decide_eq_true_eq];omega
theorem VK (N:Nat) (P:List Int) (kk:Int→Option Bool) (hP:P.length≤4096):∀(d k fuel:Nat),k+d=P.length→d<fuel→pJ N P kk fuel (k:Int)=if (P.drop k).all Jv then kk P.length else some false:=by
 intro d
 induction d with
 | zero=>
  intro k fuel hk hf;obtain ⟨fuel,rfl⟩:=oK fuel (by omega);obtain rfl:k=P.length:=by omega
  unfold pJ;rw [cF (dF (by omega))]
  simp
 | succ d ih=>
  intro k fuel hk hf;obtain ⟨fuel,rfl⟩:=oK fuel (by omega);have hlt:k<P.length:=by omega
  unfold pJ;rw [cT (dT (by omega)),eC,List.getElem?_eq_getElem hlt,aC,List.drop_eq_getElem_cons hlt,List.all_cons];have hih:=ih (k+1) fuel (by omega) (by omega)
  by_cases h1:P[k]<0
  ·rw [cT (dT h1)];have:Jv P[k]=false:=by simp only [Jv,Bool.and_eq_false_iff,decide_eq_false_iff_not];omega
   simp [this]
  rw [cF (dF h1)]
  by_cases h2:65535<P[k]
  ·rw [cT (dT h2)];have:Jv P[k]=false:=by simp only [Jv,Bool.and_eq_false_iff,decide_eq_false_iff_not];omega
   simp [this]
  rw [cF (dF h2),gF (by omega)];have:Jv P[k]=true:=by simp only [Jv,Bool.and_eq_true,decide_eq_true_eq];omega
  rw [this,Bool.true_and,←hih]
  rfl
theorem OC (N:Nat) (W H:Int) (P:List Int) (hN:5000≤N):tO N W H P=some (dJ W H P):=by
 unfold tO
 have no:¬(yT W H∧(P.length:Int)=W*H)→dJ W H P=false:=fun h=>by
  cases hq:dJ W H P
  ·rfl
  ·obtain ⟨a,b,_⟩:=pD.1 hq;exact absurd ⟨a,b⟩ h
 by_cases h1:W<1
 ·rw [cT (dT h1),no (fun h=>by unfold yT at h;omega)]
 rw [cF (dF h1)]
 by_cases h2:64<W
 ·rw [cT (dT h2),no (fun h=>by unfold yT at h;omega)]
 rw [cF (dF h2)]
 by_cases h3:H<1
 ·rw [cT (dT h3),no (fun h=>by unfold yT at h;omega)]
 rw [cF (dF h3)]
 by_cases h4:64<H
 ·rw [cT (dT h4),no (fun h=>by unfold yT at h;omega)]
 have hb:=Nd (W:=W) (H:=H) (by omega);rw [cF (dF h4),gF (by omega)]
 by_cases h5:(P.length:Int)=W*H
 rotate_left
 ·rw [cT (by rw [dF h5];rfl),no (fun h=>h5 h.2)]
 rw [cF (by rw [dT h5];rfl)];refine (VK N P _ (by omega) P.length 0 N (by omega) (by omega)).trans ?_;have hs:yT W H:=⟨by omega,by omega,by omega,by omega⟩
 simp only [dJ,hs,h5,decide_true,Bool.true_and,List.drop_zero]
 cases P.all Jv <;> rfl
def Hj (b0 b1 b2 b3:Int) (x y:Nat):Int:=if y%2=0 then (if x%2=0 then b0 else b1) else (if x%2=0 then b2 else b3)
def TK (b w v:Int):Int:=min (max (v-b) 0*65535/(w-b)) 65535
def Jz (W:Nat) (P:List Int) (b0 b1 b2 b3 w:Int) (i:Nat):Int:=TK (Hj b0 b1 b2 b3 (i%W) (i/W)) w (P.getD i 0)
def Si (b0 b1 b2 b3 w:Int):Prop:=(0≤b0∧b0<w)∧(0≤b1∧b1<w)∧(0≤b2∧b2<w)∧(0≤b3∧b3<w)
theorem Sj {b0 b1 b2 b3 w:Int} (h:Si b0 b1 b2 b3 w) (x y:Nat):0≤Hj b0 b1 b2 b3 x y∧Hj b0 b1 b2 b3 x y<w:=by
 obtain ⟨h0,h1,h2,h3⟩:=h;unfold Hj
 split <;> split <;> assumption
theorem OD {n:Nat} (h:n<64):zP .i64 (n:Int) 1=((n%2:Nat):Int):=by rw [Kq ⟨by omega,by omega⟩];omega
theorem or_fin:∀a b:Fin 2,Fc .i64 (mN .i64 ((a.val:Nat):Int) 1) ((b.val:Nat):Int)=((a.val*2+b.val:Nat):Int):=by decide +kernel
theorem aB5 {x y:Nat} (hx:x<64) (hy:y<64):Fc .i64 (mN .i64 (zP .i64 (y:Int) 1) 1) (zP .i64 (x:Int) 1)=((y%2*2+x%2:Nat):Int):=by
 rw [OD hx,OD hy];exact or_fin ⟨y%2,by omega⟩ ⟨x%2,by omega⟩
theorem YU (b0 b1 b2 b3:Int) (x y:Nat):idx [b0,b1,b2,b3] ((y%2*2+x%2:Nat):Int)=some (Hj b0 b1 b2 b3 x y):=by
 rw [eC];unfold Hj;have hy:y%2=0∨y%2=1:=by omega
 have hx:x%2=0∨x%2=1:=by omega
 rcases hy with hy | hy <;> rcases hx with hx | hx <;> rw [hy,hx] <;> rfl
theorem VL {i:Int} {n:Nat} (h:0≤i∧i<n):inr i n=some ():=by unfold inr;rw [if_pos h]
theorem VM {a b:Int} (ha:0≤a):Int.tdiv a b=a/b:=Int.tdiv_eq_ediv_of_nonneg ha
theorem aB6 {a b:Int} (ha:0≤a) (hb:1≤b):0≤a/b∧a/b≤a:=⟨Int.ediv_nonneg ha (by omega),Int.ediv_le_self _ ha⟩
section
variable {b0 b1 b2 b3 w:Int} (hb:Si b0 b1 b2 b3 w) (hw:w≤65535)
include hb hw
theorem YV (N:Nat) {x y:Nat} (hx:x<64) (hy:y<64) {v:Int} (hv:0≤v∧v≤65535) :
  ∃r,sC N v x y b0 b1 b2 b3 w=some r∧min r 65535=TK (Hj b0 b1 b2 b3 x y) w v:=by
 have hb4:=Sj hb x y;unfold sC;rw [aB5 hx hy,VL (by omega),aC,YU,aC]
 generalize Hj b0 b1 b2 b3 x y=b at *
 have hm:0≤max (v-b) 0*65535∧max (v-b) 0*65535≤4294836225:=by omega
 rw [gF (x:=w-b) (by omega),BQ (by omega),aC,gF (x:=v-b) (by omega),gF (x:=max (v-b) 0*65535) (by omega),VM hm.1];have:=aB6 hm.1 (show 1≤w-b by omega);rw [gF (by omega)];exact ⟨_,rfl,rfl⟩
theorem YW {b v:Int} (h:0≤b∧b<w):0≤TK b w v∧TK b w v≤65535:=by
 have hm:0≤max (v-b) 0*65535:=by omega
 have:=Int.ediv_nonneg hm (show 0≤w-b by omega);unfold TK
 omega
theorem QO (N:Nat) {W H:Nat} {P:List Int} (hs:1≤W∧W≤64∧1≤H∧H≤64) (hl:P.length=W*H) (hP:upTo P 65535) (kk:List Int × Int→Option (Int × Int × List Int)):∀(d k fuel:Nat),k+d=P.length→d<fuel →
    eX N W P b0 b1 b2 b3 w kk fuel ((List.range k).map (Jz W P b0 b1 b2 b3 w)++List.replicate (P.length-k) 0,(k:Int))=kk ((List.range P.length).map (Jz W P b0 b1 b2 b3 w),(P.length:Int)):=by
  have hm:=Nat.mul_le_mul hs.2.1 hs.2.2.2
  intro d
  induction d with
  | zero=>
    intro k fuel hk hf
    obtain ⟨fuel,rfl⟩:=oK fuel (by omega)
    obtain rfl:k=P.length:=by omega
    unfold eX
    rw [cF (dF (by omega)),Nat.sub_self,List.replicate_zero,List.append_nil]
  | succ d ih=>
    intro k fuel hk hf
    obtain ⟨fuel,rfl⟩:=oK fuel (by omega)
    have hlt:k<P.length:=by omega
    obtain ⟨e1,e2⟩:=Yb k (show 0<W by omega)
    obtain ⟨l1,l2,_⟩:=gX (show k<W*H by omega)
    have q1:(0:Int)≤((k/W:Nat):Int):=Int.natCast_nonneg _
    have q2:((k/W:Nat):Int)<64:=by have:k/W<64:=by omega
                                   exact_mod_cast this
    have hv:=hP k
    have hg:P.getD k 0=P[k]:=by rw [List.getD_eq_getElem?_getD,List.getElem?_eq_getElem hlt];rfl
    rw [hg] at hv
    obtain ⟨r,hr,hr2⟩:=YV hb hw N (x:=k%W) (y:=k/W) (by omega) (by omega) hv
    unfold eX
    rw [cT (dT (by omega)),eC,List.getElem?_eq_getElem hlt,aC,BQ (by omega),aC,aC,e1,e2,gF (x:=((k/W:Nat):Int)) (by omega),hr,aC,eC,List.getElem?_eq_getElem (by simp;omega),aC,hr2]
    have hst:TK (Hj b0 b1 b2 b3 (k%W) (k/W)) w P[k]=Jz W P b0 b1 b2 b3 w k:=by unfold Jz;rw [hg]
    rw [hst,D8 (Jz W P b0 b1 b2 b3 w) 0 hlt,aC,gF (by omega)]
    exact ih (k+1) fuel (by omega) (by omega)
theorem QP (N:Nat) (kk:Int→Option (Int × Int × List Int × Int)):jW N b0 b1 b2 b3 w kk 8589934592 0=kk 4:=by
 obtain ⟨⟨a0,c0⟩,⟨a1,c1⟩,⟨a2,c2⟩,⟨a3,c3⟩⟩:=hb
 have one:∀(fuel:Nat) (i:Nat) (b:Int),i<4→idx [b0,b1,b2,b3] (i:Int)=some b→0≤b∧b<w→jW N b0 b1 b2 b3 w kk (fuel+1) (i:Int)=jW N b0 b1 b2 b3 w kk fuel ((i+1:Nat):Int):=fun fuel i b hi hx hb'=>by
  conv=>lhs;unfold jW
  rw [cT (dT (by omega)),hx,aC,cF (dF (by omega)),cF (dF (by omega)),cF (dF (by omega)),gF (by omega)]
  rfl
 have h0:=one 8589934591 0 b0 (by decide) rfl ⟨a0,c0⟩;have h1:=one 8589934590 1 b1 (by decide) rfl ⟨a1,c1⟩;have h2:=one 8589934589 2 b2 (by decide) rfl ⟨a2,c2⟩;have h3:=one 8589934588 3 b3 (by decide) rfl ⟨a3,c3⟩;refine h0.trans (h1.trans (h2.trans (h3.trans ?_)));show jW N b0 b1 b2 b3 w kk (8589934587+1) 4=kk 4;unfold jW;rw [cF (by decide)]
theorem VN {W H:Nat} {P:List Int} (hf:dJ W H P=true):sD 8589934592 W H P b0 b1 b2 b3 w=some ((W:Int),(H:Int),(List.range P.length).map (Jz W P b0 b1 b2 b3 w),0):=by
 obtain ⟨w',h',e1,e2,w1,w2,w3,w4,hlen,hm,hall⟩:=Cr hf;obtain rfl:W=w':=by omega
 obtain rfl:H=h':=by omega
 unfold sD;rw [OC 8589934592 W H P (by omega),aC,hf,cF (by rfl)];refine (QP hb hw 8589934592 _).trans ?_;unfold kW;rw [aC,mk_eq (by omega),aC,Int.toNat_natCast];have hL:=QO hb hw 8589934592 ⟨w1,w2,w3,w4⟩ hlen (Hi hlen hall) (fun x:List Int × Int=>some ((W:Int),(H:Int),x.1)) P.length 0 8589934592 (by omega) (by omega);simp only [List.range_zero,List.map_nil,List.nil_append,Nat.sub_zero] at hL;exact (congrArg (fun z=>Option.bind z fun r3:Int × Int × List Int=>some (r3.1,r3.2.1,r3.2.2,(0:Int))) hL).trans rfl
end
theorem YX {P:List Int} (hP:upTo P 65535) (i:Nat):0≤P.getD i 0∧P.getD i 0≤65535:=hP i
theorem VO:∀n:Fin 80,zP .i64 ((n.val:Nat):Int) 1=((n.val:Nat):Int)%2:=by decide +kernel
theorem OE {u:Int} (h:0≤u∧u<80):zP .i64 u 1=u%2:=by
 have:=VO ⟨u.toNat,by omega⟩
 simpa [Int.toNat_of_nonneg h.1] using this
theorem aFB (m:Int):iB .i64 m 1=m/2:=QJ m 1 (by decide)
theorem QQ (N:Nat) {phase:Int} (hp:0≤phase∧phase≤3) {x y:Nat} (hx:x<64) (hy:y<64):oR N phase x y=some (u6 phase x y):=by
 unfold oR;rw [aFB,gF (x:=(x:Int)+phase) (by omega),gF (x:=(y:Int)+phase/2) (by omega),OE (by omega),OE (by omega),gF (by omega)]
 congr 1
 unfold u6
 omega
def gn3 (g0 g1 g2 c:Int):Int:=if c=0 then g0 else if c=1 then g1 else g2
def gnV (g v:Int):Int:=min (v*g/256) 65535
def UT (W:Nat) (P:List Int) (phase g0 g1 g2:Int) (i:Nat):Int:=gnV (gn3 g0 g1 g2 (u6 phase ((i%W:Nat):Int) ((i/W:Nat):Int))) (P.getD i 0)
def aB7 (g0 g1 g2:Int):Prop:=(0≤g0∧g0≤65535)∧(0≤g1∧g1≤65535)∧(0≤g2∧g2≤65535)
theorem VP {g0 g1 g2:Int} (h:aB7 g0 g1 g2) (c:Int):0≤gn3 g0 g1 g2 c∧gn3 g0 g1 g2 c≤65535:=by
 obtain ⟨h0,h1,h2⟩:=h;unfold gn3;split
 ·exact h0
 ·split
  ·exact h1
  ·exact h2
theorem YY (g0 g1 g2:Int) {c:Int} (h:0≤c∧c≤2):idx [g0,g1,g2] c=some (gn3 g0 g1 g2 c):=by
 have hc:c=0∨c=1∨c=2:=by omega
 rcases hc with rfl | rfl | rfl <;> rfl
theorem aAt {v g:Int} (hv:0≤v∧v≤65535) (hg:0≤g∧g≤65535):0≤v*g∧v*g≤4294836225:=by
 have:=QI (x:=v) (y:=g) (a:=65535) (b:=65535) (by omega) (by omega);have h0:=Int.mul_nonneg hv.1 hg.1
 omega
theorem aB8 {g v:Int} (hv:0≤v∧v≤65535) (hg:0≤g∧g≤65535):0≤gnV g v∧gnV g v≤65535:=by
 have:=aAt hv hg;unfold gnV;omega
section
variable {g0 g1 g2:Int} (hg:aB7 g0 g1 g2) {phase:Int} (hp:0≤phase∧phase≤3)
include hg hp
theorem aB9 (N:Nat) {x y:Nat} (hx:x<64) (hy:y<64) {v:Int} (hv:0≤v∧v≤65535) :
  ∃r,tE N v x y g0 g1 g2 phase=some r∧min r 65535=gnV (gn3 g0 g1 g2 (u6 phase x y)) v:=by
 have hc:=Ni phase x y;have hm:=aAt hv (VP hg (u6 phase x y));unfold tE;rw [QQ N hp hx hy,aC,VL (by omega),aC,YY _ _ _ hc,aC,gF (by omega),aDv];exact ⟨_,rfl,rfl⟩
theorem OF (N:Nat) {W H:Nat} {P:List Int} (hs:1≤W∧W≤64∧1≤H∧H≤64) (hl:P.length=W*H) (hP:upTo P 65535) (kk:List Int × Int→Option (Int × Int × List Int)):∀(d k fuel:Nat),k+d=P.length→d<fuel →
    fN N W P g0 g1 g2 phase kk fuel ((List.range k).map (UT W P phase g0 g1 g2)++List.replicate (P.length-k) 0,(k:Int))=kk ((List.range P.length).map (UT W P phase g0 g1 g2),(P.length:Int)):=by
  have hm:=Nat.mul_le_mul hs.2.1 hs.2.2.2
  intro d
  induction d with
  | zero=>
    intro k fuel hk hf
    obtain ⟨fuel,rfl⟩:=oK fuel (by omega)
    obtain rfl:k=P.length:=by omega
    unfold fN
    rw [cF (dF (by omega)),Nat.sub_self,List.replicate_zero,List.append_nil]
  | succ d ih=>
    intro k fuel hk hf
    obtain ⟨fuel,rfl⟩:=oK fuel (by omega)
    have hlt:k<P.length:=by omega
    obtain ⟨e1,e2⟩:=Yb k (show 0<W by omega)
    obtain ⟨l1,l2,_⟩:=gX (show k<W*H by omega)
    have q1:(0:Int)≤((k/W:Nat):Int):=Int.natCast_nonneg _
    have q2:((k/W:Nat):Int)<64:=by have:k/W<64:=by omega
                                   exact_mod_cast this
    have hv:=hP k
    have hg':P.getD k 0=P[k]:=by rw [List.getD_eq_getElem?_getD,List.getElem?_eq_getElem hlt];rfl
    rw [hg'] at hv
    obtain ⟨r,hr,hr2⟩:=aB9 hg hp N (x:=k%W) (y:=k/W) (by omega) (by omega) hv
    unfold fN
    rw [cT (dT (by omega)),eC,List.getElem?_eq_getElem hlt,aC,BQ (by omega),aC,aC,e1,e2,gF (x:=((k/W:Nat):Int)) (by omega),hr,aC,eC,List.getElem?_eq_getElem (by simp;omega),aC,hr2]
    have hst:gnV (gn3 g0 g1 g2 (u6 phase ((k%W:Nat):Int) ((k/W:Nat):Int))) P[k]=UT W P phase g0 g1 g2 k:=by unfold UT;rw [hg']
    rw [hst,D8 (UT W P phase g0 g1 g2) 0 hlt,aC,gF (by omega)]
    exact ih (k+1) fuel (by omega) (by omega)
theorem TM (N:Nat) (kk:Int→Option (Int × Int × List Int × Int)):kQ N phase g0 g1 g2 kk 8589934592 0=kk 3:=by
 obtain ⟨⟨a0,c0⟩,⟨a1,c1⟩,⟨a2,c2⟩⟩:=hg
 have one:∀(fuel:Nat) (i:Nat) (b:Int),i<3→idx [g0,g1,g2] (i:Int)=some b→0≤b∧b≤65535→kQ N phase g0 g1 g2 kk (fuel+1) (i:Int)=kQ N phase g0 g1 g2 kk fuel ((i+1:Nat):Int):=fun fuel i b hi hx hb'=>by
  conv=>lhs;unfold kQ
  rw [cT (dT (by omega)),hx,aC,cF (dF (by omega)),cF (dF (by omega)),cF (dF (by omega)),cF (dF (by omega)),gF (by omega)]
  rfl
 have h0:=one 8589934591 0 g0 (by decide) rfl ⟨a0,c0⟩;have h1:=one 8589934590 1 g1 (by decide) rfl ⟨a1,c1⟩;have h2:=one 8589934589 2 g2 (by decide) rfl ⟨a2,c2⟩;refine h0.trans (h1.trans (h2.trans ?_));show kQ N phase g0 g1 g2 kk (8589934588+1) 3=kk 3;unfold kQ;rw [cF (by decide)]
theorem YZ {W H:Nat} {P:List Int} (hf:dJ W H P=true):tP 8589934592 W H P phase g0 g1 g2=some ((W:Int),(H:Int),(List.range P.length).map (UT W P phase g0 g1 g2),0):=by
 obtain ⟨w',h',e1,e2,w1,w2,w3,w4,hlen,hm,hall⟩:=Cr hf;obtain rfl:W=w':=by omega
 obtain rfl:H=h':=by omega
 unfold tP;rw [OC 8589934592 W H P (by omega),aC,hf,cF (by rfl)];refine (TM hg hp 8589934592 _).trans ?_;unfold lJ;rw [aC,mk_eq (by omega),aC,Int.toNat_natCast];have hL:=OF hg hp 8589934592 ⟨w1,w2,w3,w4⟩ hlen (Hi hlen hall) (fun x:List Int × Int=>some ((W:Int),(H:Int),x.1)) P.length 0 8589934592 (by omega) (by omega);simp only [List.range_zero,List.map_nil,List.nil_append,Nat.sub_zero] at hL;exact (congrArg (fun z=>Option.bind z fun r3:Int × Int × List Int=>some (r3.1,r3.2.1,r3.2.2,(0:Int))) hL).trans rfl
end
section
variable {W H:Nat} {P:List Int} (hs:1≤W∧W≤64∧1≤H∧H≤64) (hl:P.length=W*H) (hP:upTo P 65535) {l:List (Int × Int)} (hn:l.length≤4096)
def okT (W H:Nat) (l:List (Int × Int)) (u v:Int):Prop:=0≤u∧u<W∧0≤v∧v<H∧cntF l u v=0
instance (W H:Nat) (l:List (Int × Int)) (u v:Int):Decidable (okT W H l u v):=by unfold okT;infer_instance
def VQ (x y u v:Int):Prop:=(u=x∧(v=y-2∨v=y+2))∨(v=y∧(u=x-2∨u=x+2))
instance (x y u v:Int):Decidable (VQ x y u v):=by unfold VQ;infer_instance
include hs hl hP hn
end
section
variable {W H:Nat} {P:List Int} {l:List (Int × Int)}
theorem VR (hP:upTo P 65535) (x y:Int):∀k,0≤uD W H (cntF l) x y k∧uD W H (cntF l) x y k≤k∧0≤Ba W H (cntF l) P x y k∧Ba W H (cntF l) P x y k≤65535*uD W H (cntF l) x y k
 | 0=>by simp [uD,Ba]
 | k+1=>by
  have:=VR hP x y k;have hv:0≤EN W P x y k∧EN W P x y k≤65535:=hP _;simp only [uD,Ba]
  split <;> omega
def Y0 (W H:Nat) (P:List Int) (l:List (Int × Int)) (x y:Nat):Int:=min (yU W H (cntF l) P (P.getD (y*W+x) 0) x y) 65535
end
section
variable {W H:Nat} {P:List Int} (hs:1≤W∧W≤64∧1≤H∧H≤64) (hl:P.length=W*H) (hP:upTo P 65535) {l:List (Int × Int)} (hn:l.length≤4096)
include hP in
theorem aCa (x y:Nat):0≤Y0 W H P l x y∧Y0 W H P l x y≤65535:=by
 have hv:=YX hP (y*W+x);have hb:=VR (W:=W) (H:=H) (l:=l) hP x y 4
 have:0≤yU W H (cntF l) P (P.getD (y*W+x) 0) x y:=by
  unfold yU
  split
  ·exact hv.1
  ·split
   ·omega
   ·exact Int.ediv_nonneg hb.2.2.1 hb.1
 unfold Y0
 omega
include hs hl hP hn
end
theorem VS (N:Nat) {W H:Nat} {P:List Px} (hs:o7 W H P.length) (m0 m1 m2 m3 m4 m5 m6 m7 m8:Int) (g:Nat→Px) (hg:∀i p,P[i]? = some p→vO N p.1 p.2.1 p.2.2 ((i%W:Nat):Int) ((i/W:Nat):Int) m0 m1 m2 m3 m4 m5 m6 m7 m8=some (g i)) (kk:List Px × Int→Option (Int × Int × List Px × Int)):∀(d k fuel:Nat),k+d=P.length→d<fuel →
  gS N W P m0 m1 m2 m3 m4 m5 m6 m7 m8 kk fuel ((List.range k).map g++List.replicate (P.length-k) E7,(k:Int))=kk ((List.range P.length).map g,(P.length:Int)):=by
 obtain ⟨h1,h2,h3,h4,h5,h6⟩:=qV W H P hs;intro d
 induction d with
 | zero=>
  intro k fuel hk hf;obtain ⟨fuel,rfl⟩:=oK fuel (by omega);obtain rfl:k=P.length:=by omega
  unfold gS;rw [cF (dF (by omega)),Nat.sub_self,List.replicate_zero,List.append_nil]
 | succ d ih=>
  intro k fuel hk hf;obtain ⟨fuel,rfl⟩:=oK fuel (by omega);have hlt:k<P.length:=by omega
  obtain ⟨e1,e2⟩:=Yb k (show 0<W by omega);have hq:k/W<H:=Nat.div_lt_of_lt_mul (by omega);have hq0:(0:Int)≤((k/W:Nat):Int):=Int.natCast_nonneg _;unfold gS;rw [cT (dT (by omega)),eC,List.getElem?_eq_getElem hlt,aC,BQ (by omega),aC,aC,e1,e2,gF (x:=((k/W:Nat):Int)) (by omega)];rw [hg k _ (List.getElem?_eq_getElem hlt),aC,eC,List.getElem?_eq_getElem (by simp;omega),aC];rw [D8 g E7 hlt,aC,gF (by omega)];exact ih (k+1) fuel (by omega) (by omega)
theorem VT (N:Nat) {W H:Nat} {P:List Px} (hN:5000≤N) (m0 m1 m2 m3 m4 m5 m6 m7 m8:Int) (hp:rN W H P=true) (g:Nat→Px) (hg:∀i p,P[i]? = some p→vO N p.1 p.2.1 p.2.2 ((i%W:Nat):Int) ((i/W:Nat):Int) m0 m1 m2 m3 m4 m5 m6 m7 m8=some (g i)) :
  iX N W H P m0 m1 m2 m3 m4 m5 m6 m7 m8=some ((W:Int),(H:Int),(List.range P.length).map g,0):=by
 have hs:=pM hp;have hl:=D7 hs;obtain ⟨a,b,l,ht⟩:=vQ N W H P hN;rw [hp,if_pos rfl] at ht;unfold iX;rw [ht,aC,cF (by rfl),aC,mk_eq (by omega),aC,Int.toNat_natCast];exact VS N hs m0 m1 m2 m3 m4 m5 m6 m7 m8 g hg _ P.length 0 N (by omega) (by omega)
theorem VU (N:Nat) {W H:Int} {P:List Px} (hN:5000≤N) (m0 m1 m2 m3 m4 m5 m6 m7 m8:Int) (hp:rN W H P=false):iX N W H P m0 m1 m2 m3 m4 m5 m6 m7 m8=some (0,0,[],1):=by
 obtain ⟨a,b,l,ht⟩:=vQ N W H P hN;rw [hp] at ht;unfold iX;rw [ht]
 rfl
def okM (m:Int):Bool:=decide (-32768≤m∧m≤32768)
section
variable (N:Nat) (m0 m1 m2 m3 m4 m5 m6 m7 m8:Int)
theorem aCb (kk):∀(d k fuel:Nat) (b:Bool),k+d=9→d<fuel →
  nZ N m0 m1 m2 m3 m4 m5 m6 m7 m8 kk fuel (b,(k:Int))=kk (b&&([m0,m1,m2,m3,m4,m5,m6,m7,m8].drop k).all okM,9):=by
 intro d
 induction d with
 | zero=>
  intro k fuel b hk hf;obtain ⟨fuel,rfl⟩:=oK fuel (by omega);obtain rfl:k=9:=by omega
  unfold nZ;rw [cF (dF (by omega))]
  simp
 | succ d ih=>
  intro k fuel b hk hf;obtain ⟨fuel,rfl⟩:=oK fuel (by omega);have hlt:k<[m0,m1,m2,m3,m4,m5,m6,m7,m8].length:=by show k<9;omega
  unfold nZ;rw [cT (dT (by omega)),eC,List.getElem?_eq_getElem hlt,aC,gF (by omega),List.drop_eq_getElem_cons hlt,List.all_cons];obtain ⟨e,he⟩:∃e,[m0,m1,m2,m3,m4,m5,m6,m7,m8][k]=e:=⟨_,rfl⟩
  rw [he];have key:∀c,nZ N m0 m1 m2 m3 m4 m5 m6 m7 m8 kk fuel (c,(k:Int)+1)=kk (c&&([m0,m1,m2,m3,m4,m5,m6,m7,m8].drop (k+1)).all okM,9):=fun c=>ih (k+1) fuel c (by omega) (by omega)
  rw [key,key];cases b
  ·rfl
  ·rw [cond_true]
   by_cases h1:-32768≤e
   ·rw [cT (dT h1),okM]
    by_cases h2:e≤32768
    ·rw [dT h2,dT ⟨h1,h2⟩];simp
    ·rw [dF h2,dF (fun h=>h2 h.2)];simp
   ·rw [cF (dF h1),okM,dF (fun h=>h1 h.1)];simp
def Fv:Bool:=[m0,m1,m2,m3,m4,m5,m6,m7,m8].all okM
def TN (a b c:Int) (p:Px):Int:=max 0 (min (iB .i64 (IntKind.i64.wrap (IntKind.i64.wrap (IntKind.i64.wrap (a*p.1)+IntKind.i64.wrap (b*p.2.1))+IntKind.i64.wrap (c*p.2.2))) 12) 65535)
def OG (p:Px):Px:=(TN m0 m1 m2 p,TN m3 m4 m5 p,TN m6 m7 m8 p)
theorem aDx (p:Px) (x y:Int):vO N p.1 p.2.1 p.2.2 x y m0 m1 m2 m3 m4 m5 m6 m7 m8=some (OG m0 m1 m2 m3 m4 m5 m6 m7 m8 p):=rfl
theorem aCc (hN:5000≤N) (W H:Int) (P:List Px):Au N W H P m0 m1 m2 m3 m4 m5 m6 m7 m8 =
  some (if rN W H P=false then (0,0,[],1) else if Fv m0 m1 m2 m3 m4 m5 m6 m7 m8=false then (0,0,[],3) else (W,H,(List.range P.length).map (fun i=>OG m0 m1 m2 m3 m4 m5 m6 m7 m8 (P.getD i E7)),0)):=by
 unfold Au;refine (aCb N m0 m1 m2 m3 m4 m5 m6 m7 m8 _ 9 0 N true (by omega) (by omega)).trans ?_;rw [List.drop_zero,←Fv,Bool.true_and];cases hp:rN W H P
 ·simp only [VU N hN m0 m1 m2 m3 m4 m5 m6 m7 m8 hp,aC];rw [cF (by decide)];rfl
 ·have hs:=pM hp;obtain ⟨W,rfl⟩:∃n:Nat,W=n:=⟨W.toNat,by have:=hs.1;omega⟩
  obtain ⟨H,rfl⟩:∃n:Nat,H=n:=⟨H.toNat,by have:=hs.2.2.1;omega⟩
  have:=VT N hN m0 m1 m2 m3 m4 m5 m6 m7 m8 hp (fun i=>OG m0 m1 m2 m3 m4 m5 m6 m7 m8 (P.getD i E7)) (fun i p hi=>by rw [aDx,List.getD_eq_getElem?_getD,hi];rfl);simp only [this,aC];rw [cT (by rfl),if_neg (by simp)]
  cases Fv m0 m1 m2 m3 m4 m5 m6 m7 m8 <;> rfl
end
abbrev Pt:=Int × Int
def cX (l:List Pt) (i:Nat):Int:=(l.getD i (0,0)).1
def cY (l:List Pt) (i:Nat):Int:=(l.getD i (0,0)).2
def QR (l:List Pt) (i:Nat):Prop:=cX l i<cX l (i+1)∧cY l i≤cY l (i+1)
structure nE (l:List Pt):Prop where
 len:2≤l.length∧l.length≤16
 x0:cX l 0=0
 xn:cX l (l.length-1)=65535
 y0:0≤cY l 0
 yn:cY l (l.length-1)≤65535
 step:∀i,i+1<l.length→QR l i
theorem wQ (l:List Pt) {k:Nat} (h:k<l.length):idx l (k:Int)=some (l.getD k (0,0)):=by
 rw [eC,List.getD_eq_getElem?_getD,List.getElem?_eq_getElem h];rfl
theorem OH (l:List Pt) (h:1≤l.length∧l.length≤1000000):idx l (IntKind.i64.wrap ((l.length:Int)-1))=some (l.getD (l.length-1) (0,0)):=by
 rw [gF (by omega),show (l.length:Int)-1=((l.length-1:Nat):Int) by omega,wQ l (by omega)]
theorem QS {l:List Pt} {j:Nat} (h:∀i,i<j→QR l i) {i:Nat} (hij:i≤j):cX l i≤cX l j∧cY l i≤cY l j∧(i<j→cX l i<cX l j):=by
  induction j with
  | zero=>obtain rfl:i=0:=by omega
          exact ⟨Int.le_refl _,Int.le_refl _,fun h=>by omega⟩
  | succ j ih=>
    by_cases e:i=j+1
    · subst e;exact ⟨Int.le_refl _,Int.le_refl _,fun h=>by omega⟩
    · obtain ⟨a,b,_⟩:=ih (fun i hi=>h i (by omega)) (by omega)
      obtain ⟨c,d⟩:=h j (by omega)
      exact ⟨by omega,by omega,fun _=>by omega⟩
theorem nE.mono {l:List Pt} (h:nE l) {i j:Nat} (hij:i≤j) (hj:j<l.length):cX l i≤cX l j∧cY l i≤cY l j∧(i<j→cX l i<cX l j):=QS (fun i hi=>h.step i (by omega)) hij
theorem nE.bd {l:List Pt} (h:nE l) {i:Nat} (hi:i<l.length):0≤cX l i∧cX l i≤65535∧0≤cY l i∧cY l i≤65535:=by
 obtain ⟨a,b,_⟩:=h.mono (i:=0) (j:=i) (by omega) hi;obtain ⟨c,d,_⟩:=h.mono (i:=i) (j:=l.length-1) (by omega) (by omega);have:=h.x0;have:=h.xn;have:=h.y0;have:=h.yn
 omega
theorem VV (N:Nat) (l l2:List Pt) (hl:l2.length+1=l.length) (hb:l.length≤16):∀(d k fuel:Nat),k+d=l2.length→d<fuel →
  ∃b,qJ N l l2 (fun _=>some true) fuel (k:Int)=some b∧(b=true↔∀i,k≤i→i+1<l.length→QR l i):=by
 intro d
 induction d with
 | zero=>
  intro k fuel hk hf;obtain ⟨fuel,rfl⟩:=oK fuel (by omega);refine ⟨true,?_,by simp only [true_iff];intro i h1 h2;omega⟩;unfold qJ;rw [cF (dF (by omega))]
 | succ d ih=>
  intro k fuel hk hf;obtain ⟨fuel,rfl⟩:=oK fuel (by omega);unfold qJ;rw [cT (dT (by omega)),gF (by omega),show (k:Int)+1=((k+1:Nat):Int) by omega];simp only [wQ l (show k<l.length by omega),wQ l (show k+1<l.length by omega),aC]
  by_cases h1:(l.getD (k+1) (0,0)).1≤(l.getD k (0,0)).1
  ·rw [cT (dT h1)];refine ⟨false,rfl,by simp only [Bool.false_eq_true,false_iff];intro h;have:=(h k (Nat.le_refl _) (by omega)).1;simp only [cX] at this;omega⟩
  rw [cF (dF h1)]
  by_cases h2:(l.getD (k+1) (0,0)).2<(l.getD k (0,0)).2
  ·rw [cT (dT h2)];refine ⟨false,rfl,by simp only [Bool.false_eq_true,false_iff];intro h;have:=(h k (Nat.le_refl _) (by omega)).2;simp only [cY] at this;omega⟩
  rw [cF (dF h2)];obtain ⟨b,e,hb'⟩:=ih (k+1) fuel (by omega) (by omega);refine ⟨b,e,hb'.trans ⟨fun h i hi hn=>?_,fun h i hi hn=>h i (by omega) hn⟩⟩
  by_cases hik:i=k
  ·subst hik;exact ⟨by simp only [cX];omega,by simp only [cY];omega⟩
  ·exact h i (by omega) hn
theorem right_eq (N:Nat) (l:List Pt) (hN:5000≤N):∃b,gW N l=some b∧(b=true↔nE l):=by
 unfold gW
 by_cases h1:(l.length:Int)<2
 ·rw [cT (dT h1)];exact ⟨false,rfl,by simp only [Bool.false_eq_true,false_iff];intro h;have:=h.len;omega⟩
 rw [cF (dF h1)]
 by_cases h2:16<(l.length:Int)
 ·rw [cT (dT h2)];exact ⟨false,rfl,by simp only [Bool.false_eq_true,false_iff];intro h;have:=h.len;omega⟩
 rw [cF (dF h2)];have i0:idx l 0=some (l.getD 0 (0,0)):=wQ l (k:=0) (by omega);have il:=OH l (by omega);simp only [i0,il,aC]
 by_cases h3:cX l 0=0
 rotate_left
 ·rw [cT (by simp only [cX] at h3;rw [dF h3];rfl)];exact ⟨false,rfl,by simp only [Bool.false_eq_true,false_iff];intro h;exact h3 h.x0⟩
 rw [cF (by simp only [cX] at h3;rw [dT h3];rfl)]
 by_cases h4:cX l (l.length-1)=65535
 rotate_left
 ·rw [cT (by simp only [cX] at h4;rw [dF h4];rfl)];exact ⟨false,rfl,by simp only [Bool.false_eq_true,false_iff];intro h;exact h4 h.xn⟩
 rw [cF (by simp only [cX] at h4;rw [dT h4];rfl)]
 by_cases h5:(l.getD 0 (0,0)).2<0
 ·rw [cT (dT h5)];exact ⟨false,rfl,by simp only [Bool.false_eq_true,false_iff];intro h;have:=h.y0;simp only [cY] at this;omega⟩
 rw [cF (dF h5)]
 by_cases h6:65535<(l.getD (l.length-1) (0,0)).2
 ·rw [cT (dT h6)];exact ⟨false,rfl,by simp only [Bool.false_eq_true,false_iff];intro h;have:=h.yn;simp only [cY] at this;omega⟩
 rw [cF (dF h6),BG (by omega),aC];obtain ⟨b,e,hb⟩:=VV N l ((l.take (l.length:Int).toNat).drop (1:Int).toNat) (by simp;omega) (by omega) (l.length-1) 0 N (by simp) (by omega);refine ⟨b,e,hb.trans ⟨fun h=>⟨by omega,h3,h4,by simp only [cY];omega,by simp only [cY];omega,fun i hi=>h i (Nat.zero_le _) hi⟩,fun h i _ hi=>h.step i hi⟩⟩
def seg (l:List Pt) (i:Nat) (x:Int):Int:=cY l (i-1)+((cY l i-cY l (i-1))*(x-cX l (i-1)))/(cX l i-cX l (i-1))
section
variable {l:List Pt}
theorem VW {i:Nat}:seg l i (cX l (i-1))=cY l (i-1):=by
 unfold seg;rw [Int.sub_self,Int.mul_zero,Int.zero_ediv,Int.add_zero]
variable (h:nE l)
include h
theorem Mi {i:Nat} (hi:1≤i∧i<l.length) {x:Int} (hx:cX l (i-1)≤x∧x≤cX l i):cY l (i-1)≤seg l i x∧seg l i x≤cY l i:=by
 obtain ⟨s1,s2⟩:=h.step (i-1) (by omega);rw [show i-1+1=i by omega] at s1 s2;unfold seg;have h0:0≤(cY l i-cY l (i-1))*(x-cX l (i-1)):=Int.mul_nonneg (by omega) (by omega);have h1:=Int.ediv_nonneg h0 (show 0≤cX l i-cX l (i-1) by omega);have h2:(cY l i-cY l (i-1))*(x-cX l (i-1))≤(cY l i-cY l (i-1))*(cX l i-cX l (i-1)):=Int.mul_le_mul_of_nonneg_left (by omega) (by omega);have h3:=Int.ediv_le_of_le_mul (show 0<cX l i-cX l (i-1) by omega) h2
 omega
theorem Mj {i:Nat} (hi:1≤i∧i<l.length):seg l i (cX l i)=cY l i:=by
 obtain ⟨s1,s2⟩:=h.step (i-1) (by omega);rw [show i-1+1=i by omega] at s1 s2;unfold seg;rw [Int.mul_ediv_cancel _ (by omega)]
 omega
theorem Y1 {i j:Nat} (hi:1≤i∧i<l.length) (hj:1≤j∧j<l.length) {x:Int} (hx:cX l (i-1)≤x∧x≤cX l i) (hx':cX l (j-1)≤x∧x≤cX l j):seg l i x=seg l j x:=by
 have key:∀{i j:Nat},1≤i→i<j→j<l.length→x≤cX l i→cX l (j-1)≤x→seg l i x=seg l j x:=by
  intro i j h1 h2 h3 h4 h5;have m1:=h.mono (i:=i) (j:=j-1) (by omega) (by omega);have e:x=cX l i:=by omega
  have e2:i=j-1:=by
   by_cases e2:i=j-1
   ·exact e2
   ·have:=m1.2.2 (by omega);omega
  subst e;rw [Mj h ⟨h1,by omega⟩];subst e2;rw [VW]
 rcases Nat.lt_trichotomy i j with hij | hij | hij
 ·exact key hi.1 hij hj.2 hx.2 hx'.1
 ·rw [hij]
 ·exact (key hj.1 hij hi.2 hx'.2 hx.1).symm
theorem OJ {i:Nat} (hi:1≤i∧i<l.length) {x:Int} (hx:cX l (i-1)≤x∧x≤cX l i) :
  (Option.bind (nz (IntKind.i64.wrap (cX l i-cX l (i-1)))) fun _=>Option.bind (some (IntKind.i64.wrap (cY l (i-1)+IntKind.i64.wrap (Int.tdiv (IntKind.i64.wrap (IntKind.i64.wrap (cY l i-cY l (i-1))*IntKind.i64.wrap (x-cX l (i-1)))) (IntKind.i64.wrap (cX l i-cX l (i-1))))))) fun x3=>some x3)=some (seg l i x):=by
 obtain ⟨s1,s2⟩:=h.step (i-1) (by omega);rw [show i-1+1=i by omega] at s1 s2;have b1:=h.bd hi.2;have b2:=h.bd (i:=i-1) (by omega);have sf:=Mi h hi hx;unfold seg at sf ⊢;have h0:0≤(cY l i-cY l (i-1))*(x-cX l (i-1)):=Int.mul_nonneg (by omega) (by omega);have h2:=QI (a:=65535) (b:=65535) (x:=cY l i-cY l (i-1)) (y:=x-cX l (i-1)) (by omega) (by omega);rw [gF (x:=cX l i-cX l (i-1)) (by omega),gF (x:=cY l i-cY l (i-1)) (by omega),gF (x:=x-cX l (i-1)) (by omega),gF (x:=(cY l i-cY l (i-1))*(x-cX l (i-1))) (by omega)];rw [Int.tdiv_eq_ediv_of_nonneg h0,gF (x:=_/_) (by omega),gF (by omega),BQ (by omega)]
 rfl
theorem TO (N:Nat) (x:Int) (kk):∀(d i j fuel:Nat),j-i≤d→i≤j→j≤l.length→d<fuel→(∀k,k<i→cX l k≤x)→(∀k,j≤k→k<l.length→x<cX l k) →
  ∃r:Nat,r≤l.length∧(∀k,k<r→cX l k≤x)∧(∀k,r≤k→k<l.length→x<cX l k)∧eJ N l x kk fuel ((i:Int),(j:Int))=kk ((r:Int),(r:Int)):=by
 have hlen:=h.len;intro d
 induction d with
 | zero=>
  intro i j fuel hd hij hj hf h1 h2;obtain ⟨fuel,rfl⟩:=oK fuel (by omega);obtain rfl:i=j:=by omega
  refine ⟨i,hj,h1,h2,?_⟩;unfold eJ;rw [cF (dF (by omega))]
 | succ d ih=>
  intro i j fuel hd hij hj hf h1 h2;obtain ⟨fuel,rfl⟩:=oK fuel (by omega)
  by_cases hlt:i<j
  ·unfold eJ
   have hh:IntKind.i64.wrap (iB .u64 (IntKind.u64.wrap (IntKind.i64.wrap ((i:Int)+j))) 1)=(((i+j)/2:Nat):Int):=by
    rw [gF (x:=(i:Int)+j) (by omega),IntWalk.u64_in _ (by omega)]
    have:iB .u64 ((i:Int)+j) 1=((i:Int)+j)/2:=by
     unfold iB;exact Int.fdiv_eq_ediv_of_nonneg _ (by decide)
    rw [this,gF (by omega)]
    omega
   rw [cT (dT (by omega)),hh,aC];obtain ⟨m,hm⟩:∃m,(i+j)/2=m:=⟨_,rfl⟩
   have hm1:i≤m∧m<j:=by omega
   rw [hm];unfold Dz;rw [wQ l (show m<l.length by omega),aC,aC]
   by_cases hc:x<cX l m
   ·rw [cF (by simp only [cX] at hc;rw [dT hc];rfl)]
    exact ih i m fuel (by omega) (by omega) (by omega) (by omega) h1 fun k hk hk'=>by
     have:=(h.mono hk hk').1;omega
   ·rw [cT (by simp only [cX] at hc;rw [dF hc];rfl),aC,gF (by omega)]
    exact ih (m+1) j fuel (by omega) (by omega) (by omega) (by omega) (fun k hk=>by
     have:=(h.mono (i:=k) (j:=m) (by omega) (by omega)).1;omega) h2
  ·obtain rfl:i=j:=by omega
   refine ⟨i,hj,h1,h2,?_⟩;unfold eJ;rw [cF (dF (by omega))]
theorem aAu (N:Nat) (hN:5000≤N) {x:Int} (hx:0≤x∧x≤65535):∃i,(1≤i∧i<l.length)∧(cX l (i-1)≤x∧x≤cX l i)∧rZ N l x=some (seg l i x):=by
 have hlen:=h.len;have hx0:=h.x0;have hxn:=h.xn;unfold rZ nW;obtain ⟨r,hr,h1,h2,e⟩:=TO h N x (fun (i4,j2)=>some i4) l.length 0 l.length N (by omega) (by omega) (Nat.le_refl _) (by omega) (fun k hk=>by omega) (fun k hk hk'=>by omega);have e':eJ N l x (fun (i4,j2)=>some i4) N (0,(l.length:Int))=some (r:Int):=e
 have hr1:1≤r:=by
  by_cases h0:r=0
  ·have:=h2 0 (by omega) (by omega);omega
  ·omega
 rw [e',aC];have il:=OH l (by omega)
 by_cases hn:r=l.length
 ·subst hn;rw [cT (dT rfl),il,aC];have hle:=h1 (l.length-1) (by omega);have hxe:x=cX l (l.length-1):=by omega
  have hm:=(h.mono (i:=l.length-1-1) (j:=l.length-1) (by omega) (by omega)).1;refine ⟨l.length-1,by omega,by omega,?_⟩;rw [hxe,Mj h (by omega)]
  rfl
 ·rw [cF (dF (by omega)),gF (x:=(r:Int)-1) (by omega),show (r:Int)-1=((r-1:Nat):Int) by omega,wQ l (show r-1<l.length by omega),wQ l (show r<l.length by omega),aC,aC];have hx':cX l (r-1)≤x∧x≤cX l r:=⟨h1 _ (by omega),by have:=h2 r (Nat.le_refl _) (by omega);omega⟩
  exact ⟨r,by omega,hx',OJ h (by omega) hx'⟩
theorem QT (N:Nat) {x:Int} (hx:0≤x∧x≤65535) (kk):∀(d i fuel:Nat),i+d=l.length→d≤fuel→1≤i→i<l.length→(cX l (i-1)≤x) →
  ∃r:Nat,(1≤r∧r<l.length)∧(cX l (r-1)≤x∧x≤cX l r)∧mP N l x kk fuel (i:Int)=kk (r:Int):=by
 have hlen:=h.len;have hxn:=h.xn;intro d
 induction d with
 | zero=>intro i fuel hd hf h1 h2 h3;omega
 | succ d ih=>
  intro i fuel hd hf h1 h2 h3;obtain ⟨fuel,rfl⟩:=oK fuel (by omega);unfold mP;rw [wQ l h2,aC]
  by_cases hc:cX l i<x
  ·rw [cT (by simp only [cX] at hc;rw [dT hc]),aC,gF (by omega)];have hne:i≠l.length-1:=fun e=>by rw [e] at hc;omega
   exact ih (i+1) fuel (by omega) (by omega) (by omega) (by omega) (by show cX l i≤x;omega)
  ·rw [cF (by simp only [cX] at hc;rw [dF hc])];exact ⟨i,⟨h1,h2⟩,⟨h3,by omega⟩,rfl⟩
theorem QU (N:Nat) (hN:5000≤N) {x:Int} (hx:0≤x∧x≤65535):∃i,(1≤i∧i<l.length)∧(cX l (i-1)≤x∧x≤cX l i)∧o6 N l x=some (seg l i x):=by
 have hlen:=h.len;unfold o6
 obtain ⟨r,hr,hx',e⟩:=QT h N hx (fun i4=>Option.bind (idx l (IntKind.i64.wrap (i4-1))) fun e3=>
  Option.bind (idx l i4) fun e4=>Option.bind (nz (IntKind.i64.wrap (e4.1-e3.1))) fun _=>
  Option.bind (some (IntKind.i64.wrap (e3.2+(IntKind.i64.wrap (Int.tdiv (IntKind.i64.wrap ((IntKind.i64.wrap (e4.2-e3.2))*(IntKind.i64.wrap (x-e3.1)))) (IntKind.i64.wrap (e4.1-e3.1))))))) fun x3=>some x3) (l.length-1) 1 N (by omega) (by omega) (by omega) (by omega) (by show cX l 0≤x;rw [h.x0];exact hx.1)
 refine ⟨r,hr,hx',e.trans ?_⟩;rw [gF (x:=(r:Int)-1) (by omega),show (r:Int)-1=((r-1:Nat):Int) by omega,wQ l (show r-1<l.length by omega),wQ l (show r<l.length by omega),aC,aC];exact OJ h hr hx'
end
theorem VX (N:Nat) {W H:Nat} {P:List Px} (hs:o7 W H P.length) (pts:List (Int × Int)) (g:Nat→Px) (hg:∀i p,P[i]? = some p→rI N p.1 p.2.1 p.2.2 ((i%W:Nat):Int) ((i/W:Nat):Int) pts=some (g i)) (kk:List Px × Int→Option (Int × Int × List Px × Int)):∀(d k fuel:Nat),k+d=P.length→d<fuel →
  gK N W P pts kk fuel ((List.range k).map g++List.replicate (P.length-k) E7,(k:Int))=kk ((List.range P.length).map g,(P.length:Int)):=by
 obtain ⟨h1,h2,h3,h4,h5,h6⟩:=qV W H P hs;intro d
 induction d with
 | zero=>
  intro k fuel hk hf;obtain ⟨fuel,rfl⟩:=oK fuel (by omega);obtain rfl:k=P.length:=by omega
  unfold gK;rw [cF (dF (by omega)),Nat.sub_self,List.replicate_zero,List.append_nil]
 | succ d ih=>
  intro k fuel hk hf;obtain ⟨fuel,rfl⟩:=oK fuel (by omega);have hlt:k<P.length:=by omega
  obtain ⟨e1,e2⟩:=Yb k (show 0<W by omega);have hq:k/W<H:=Nat.div_lt_of_lt_mul (by omega);have hq0:(0:Int)≤((k/W:Nat):Int):=Int.natCast_nonneg _;unfold gK;rw [cT (dT (by omega)),eC,List.getElem?_eq_getElem hlt,aC,BQ (by omega),aC,aC,e1,e2,gF (x:=((k/W:Nat):Int)) (by omega)];rw [hg k _ (List.getElem?_eq_getElem hlt),aC,eC,List.getElem?_eq_getElem (by simp;omega),aC];rw [D8 g E7 hlt,aC,gF (by omega)];exact ih (k+1) fuel (by omega) (by omega)
theorem VY (N:Nat) {W H:Nat} {P:List Px} (hN:5000≤N) (pts:List (Int × Int)) (hp:rN W H P=true) (g:Nat→Px) (hg:∀i p,P[i]? = some p→rI N p.1 p.2.1 p.2.2 ((i%W:Nat):Int) ((i/W:Nat):Int) pts=some (g i)) :
  iN N W H P pts=some ((W:Int),(H:Int),(List.range P.length).map g,0):=by
 have hs:=pM hp;have hl:=D7 hs;obtain ⟨a,b,l,ht⟩:=vQ N W H P hN;rw [hp,if_pos rfl] at ht;unfold iN;rw [ht,aC,cF (by rfl),aC,mk_eq (by omega),aC,Int.toNat_natCast];exact VX N hs pts g hg _ P.length 0 N (by omega) (by omega)
theorem VZ (N:Nat) {W H:Int} {P:List Px} (hN:5000≤N) (pts:List (Int × Int)) (hp:rN W H P=false):iN N W H P pts=some (0,0,[],1):=by
 obtain ⟨a,b,l,ht⟩:=vQ N W H P hN;rw [hp] at ht;unfold iN;rw [ht]
 rfl
theorem Y2 {l:List Pt} (h:nE l) {x:Int} (hx:0≤x∧x≤65535):∃v,rZ 8589934592 l x=some v∧o6 8589934592 l x=some v:=by
 obtain ⟨i,a,b,e⟩:=aAu h 8589934592 (by omega) hx;obtain ⟨j,a',b',e'⟩:=QU h 8589934592 (by omega) hx;exact ⟨_,e,by rw [e',Y1 h a' a b' b]⟩
def Yc (l:List Pt) (x:Int):Int:=(rZ 8589934592 l x).getD 0
theorem Hk {l:List Pt} (h:nE l) {x:Int} (hx:0≤x∧x≤65535):rZ 8589934592 l x=some (Yc l x)∧o6 8589934592 l x=some (Yc l x):=by
 obtain ⟨v,e,e'⟩:=Y2 h hx;unfold Yc;rw [e,e'];exact ⟨rfl,rfl⟩
def Jc (l:List Pt) (p:Px):Px:=(Yc l p.1,Yc l p.2.1,Yc l p.2.2)
theorem aCd {l:List Pt} (h:nE l) {p:Px} (hp:Af p=true) (x y:Int):rI 8589934592 p.1 p.2.1 p.2.2 x y l=some (Jc l p):=by
 simp only [Af,decide_eq_true_eq] at hp;unfold rI;rw [(Hk h (show 0≤p.1∧p.1≤65535 by omega)).1,aC,(Hk h (show 0≤p.2.1∧p.2.1≤65535 by omega)).1,aC,(Hk h (show 0≤p.2.2∧p.2.2≤65535 by omega)).1];rfl
theorem Y3 {l:List Pt} {b:Bool} (hb:gW 8589934592 l=some b) (hc:b=true↔nE l) (W H:Int) (P:List Px):yD 8589934592 W H P l =
  some (if b=false then (0,0,[],1) else if rN W H P=false then (0,0,[],1) else (W,H,(List.range P.length).map (fun i=>Jc l (P.getD i E7)),0)):=by
 unfold yD;rw [hb,aC];cases b
 ·rfl
 have h:=hc.1 rfl;rw [cF (by rfl)];cases hp:rN W H P
 ·rw [VZ 8589934592 (by omega) l hp];rfl
 ·have hs:=pM hp;obtain ⟨W,rfl⟩:∃n:Nat,W=n:=⟨W.toNat,by have:=hs.1;omega⟩
  obtain ⟨H,rfl⟩:∃n:Nat,H=n:=⟨H.toNat,by have:=hs.2.2.1;omega⟩
  rw [VY 8589934592 (by omega) l hp (fun i=>Jc l (P.getD i E7)) (fun i p hi=>by rw [aCd h (Nh hp hi),List.getD_eq_getElem?_getD,hi];rfl)]
  rfl
theorem V0 {l:List Pt} {b:Bool} (hb:gW 8589934592 l=some b) (hc:b=true↔nE l) (x:Int):yW 8589934592 l x=some (if b=false then (0,1) else if 0≤x∧x≤65535 then (Yc l x,0) else (0,3)):=by
 unfold yW;rw [hb,aC];cases b
 ·rfl
 have h:=hc.1 rfl;rw [cF (by rfl),if_neg (by simp)]
 by_cases h1:x<0
 ·rw [cT (dT h1),if_neg (by omega)]
 rw [cF (dF h1)]
 by_cases h2:65535<x
 ·rw [cT (dT h2),if_neg (by omega)]
 rw [cF (dF h2),(Hk h (by omega)).1,if_pos (by omega)];rfl
theorem V1 (N:Nat) {W H:Nat} {P:List Px} (hs:o7 W H P.length) (SW SH:Int) (SP:List Px) (SA:Int) (g:Nat→Px) (hg:∀i p,P[i]? = some p→nC N p.1 p.2.1 p.2.2 ((i%W:Nat):Int) ((i/W:Nat):Int) SW SH SP SA=some (g i)) (kk:List Px × Int→Option (Int × Int × List Px × Int)):∀(d k fuel:Nat),k+d=P.length→d<fuel →
  fU N W P SW SH SP SA kk fuel ((List.range k).map g++List.replicate (P.length-k) E7,(k:Int))=kk ((List.range P.length).map g,(P.length:Int)):=by
 obtain ⟨h1,h2,h3,h4,h5,h6⟩:=qV W H P hs;intro d
 induction d with
 | zero=>
  intro k fuel hk hf;obtain ⟨fuel,rfl⟩:=oK fuel (by omega);obtain rfl:k=P.length:=by omega
  unfold fU;rw [cF (dF (by omega)),Nat.sub_self,List.replicate_zero,List.append_nil]
 | succ d ih=>
  intro k fuel hk hf;obtain ⟨fuel,rfl⟩:=oK fuel (by omega);have hlt:k<P.length:=by omega
  obtain ⟨e1,e2⟩:=Yb k (show 0<W by omega);have hq:k/W<H:=Nat.div_lt_of_lt_mul (by omega);have hq0:(0:Int)≤((k/W:Nat):Int):=Int.natCast_nonneg _;unfold fU;rw [cT (dT (by omega)),eC,List.getElem?_eq_getElem hlt,aC,BQ (by omega),aC,aC,e1,e2,gF (x:=((k/W:Nat):Int)) (by omega)];rw [hg k _ (List.getElem?_eq_getElem hlt),aC,eC,List.getElem?_eq_getElem (by simp;omega),aC];rw [D8 g E7 hlt,aC,gF (by omega)];exact ih (k+1) fuel (by omega) (by omega)
theorem V2 (N:Nat) {W H:Nat} {P:List Px} (hN:5000≤N) (SW SH:Int) (SP:List Px) (SA:Int) (hp:rN W H P=true) (g:Nat→Px) (hg:∀i p,P[i]? = some p→nC N p.1 p.2.1 p.2.2 ((i%W:Nat):Int) ((i/W:Nat):Int) SW SH SP SA=some (g i)) :
  gL N W H P SW SH SP SA=some ((W:Int),(H:Int),(List.range P.length).map g,0):=by
 have hs:=pM hp;have hl:=D7 hs;obtain ⟨a,b,l,ht⟩:=vQ N W H P hN;rw [hp,if_pos rfl] at ht;unfold gL;rw [ht,aC,cF (by rfl),aC,mk_eq (by omega),aC,Int.toNat_natCast];exact V1 N hs SW SH SP SA g hg _ P.length 0 N (by omega) (by omega)
theorem V3 (N:Nat) {W H:Int} {P:List Px} (hN:5000≤N) (SW SH:Int) (SP:List Px) (SA:Int) (hp:rN W H P=false):gL N W H P SW SH SP SA=some (0,0,[],1):=by
 obtain ⟨a,b,l,ht⟩:=vQ N W H P hN;rw [hp] at ht;unfold gL;rw [ht]
 rfl
def cl (y:Nat) (dy:Int) (H:Nat):Nat:=(min (max ((y:Int)+dy) 0) ((H:Int)-1)).toNat
theorem Sk {y H:Nat} {dy:Int} (h:1≤H):cl y dy H<H:=by unfold cl;omega
theorem Sl {y H:Nat} {dy:Int} (h:1≤H):min (max ((y:Int)+dy) 0) ((H:Int)-1)=((cl y dy H:Nat):Int):=by unfold cl;omega
def nb (P:List Px) (W H x y:Nat) (dy dx:Int):Px:=P.getD (cl y dy H*W+cl x dx W) E7
def wt (dx dy:Int):Int:=(2-dx*dx)*(2-dy*dy)
def OK (w:Int) (n a:Px):Px:=(a.1+w*n.1,a.2.1+w*n.2.1,a.2.2+w*n.2.2)
def Lr (a:Px) (m:Int):Prop:=(0≤a.1∧a.1≤m)∧(0≤a.2.1∧a.2.1≤m)∧(0≤a.2.2∧a.2.2≤m)
theorem aAv {d:Int} (h:-1≤d∧d≤1):0≤d*d∧d*d≤1:=by
 have:d = -1∨d=0∨d=1:=by omega
 rcases this with rfl | rfl | rfl <;> decide
theorem Mk {dx dy:Int} (hx:-1≤dx∧dx≤1) (hy:-1≤dy∧dy≤1):1≤wt dx dy∧wt dx dy≤4:=by
 have h1:dx = -1∨dx=0∨dx=1:=by omega
 have h2:dy = -1∨dy=0∨dy=1:=by omega
 rcases h1 with rfl | rfl | rfl <;> rcases h2 with rfl | rfl | rfl <;> decide
theorem FT {p:Px} (h:Af p=true):Lr p 65535:=by
 simp only [Af,decide_eq_true_eq] at h;unfold Lr;omega
theorem TP {w n:Int} (hw:1≤w∧w≤4) (hn:0≤n∧n≤65535):0≤w*n∧w*n≤262140:=by
 have h1:=Int.mul_nonneg (show 0≤w by omega) hn.1;have h2:=QI (a:=4) (b:=65535) (x:=w) (y:=n) (by omega) (by omega)
 omega
theorem Hl {w m:Int} {n a:Px} (hw:1≤w∧w≤4) (hn:Lr n 65535) (ha:Lr a m):Lr (OK w n a) (m+262140):=by
 obtain ⟨n1,n2,n3⟩:=hn;obtain ⟨a1,a2,a3⟩:=ha;have h1:=TP hw n1;have h2:=TP hw n2;have h3:=TP hw n3;unfold Lr OK
 dsimp only
 omega
def JA (P:List Px) (W H x y:Nat) (dy:Int) (a:Px):Px:=OK (wt 1 dy) (nb P W H x y dy 1) (OK (wt 0 dy) (nb P W H x y dy 0) (OK (wt (-1) dy) (nb P W H x y dy (-1)) a))
def TQ (P:List Px) (W H x y:Nat):Px:=JA P W H x y 1 (JA P W H x y 0 (JA P W H x y (-1) (0,0,0)))
def sh1 (amount v TF:Int):Int:=max 0 (min (IntKind.i64.wrap (v+iB .i64 (IntKind.i64.wrap (IntKind.i64.wrap (v-iB .i64 TF 4)*amount)) 8)) 65535)
def shP (amount:Int) (p s:Px):Px:=(sh1 amount p.1 s.1,sh1 amount p.2.1 s.2.1,sh1 amount p.2.2 s.2.2)
section
variable {W H:Nat} {P:List Px} (hp:rN W H P=true)
include hp
theorem JU:1≤W∧W≤64∧1≤H∧H≤64∧P.length=W*H∧W*H≤4096:=qV W H P (pM hp)
theorem aCe {i:Nat} (h:i<W*H):idx P (i:Int)=some (P.getD i E7)∧Af (P.getD i E7)=true:=by
 have hl:=(JU hp).2.2.2.2.1;have hx:P[i]? = some P[i]:=List.getElem?_eq_getElem (by omega);have hg:P.getD i E7=P[i]:=by rw [List.getD_eq_getElem?_getD,hx];rfl
 rw [eC,hg,hx];exact ⟨rfl,Nh hp hx⟩
theorem Ml {x y:Nat} (dy dx:Int):idx P (((cl y dy H*W+cl x dx W:Nat):Nat):Int)=some (nb P W H x y dy dx)∧Af (nb P W H x y dy dx)=true:=by
 obtain ⟨h1,h2,h3,h4,h5,h6⟩:=JU hp;exact aCe hp (mG (Sk h1) (Sk h3))
theorem Sm {x y:Nat} {dy m:Int} (hy:-1≤dy∧dy≤1) {a:Px} (ha:Lr a m):Lr (JA P W H x y dy a) (m+786420):=by
 have h1:=Hl (Mk (dx:=-1) (by omega) hy) (FT (Ml (x:=x) (y:=y) hp dy (-1)).2) ha;have h2:=Hl (Mk (dx:=0) (by omega) hy) (FT (Ml (x:=x) (y:=y) hp dy 0).2) h1;have h3:=Hl (Mk (dx:=1) (by omega) hy) (FT (Ml (x:=x) (y:=y) hp dy 1).2) h2;unfold JA;unfold Lr at h3 ⊢
 omega
theorem IQ (N fuel:Nat) {x y:Nat} (hx:x<W) (hy:y<H) {dx dy:Int} (hdx:-1≤dx∧dx≤1) (hdy:-1≤dy∧dy≤1) (kk) {a:Px} (ha:Lr a 100000000) {dx':Int} (hd':dx'=dx+1) :
  jS N x y W H P dy kk (fuel+1) (a.1,a.2.1,a.2.2,dx)=jS N x y W H P dy kk fuel ((OK (wt dx dy) (nb P W H x y dy dx) a).1,(OK (wt dx dy) (nb P W H x y dy dx) a).2.1,(OK (wt dx dy) (nb P W H x y dy dx) a).2.2,dx'):=by
 subst hd';obtain ⟨h1,h2,h3,h4,h5,h6⟩:=JU hp;obtain ⟨n1,n2⟩:=Ml (x:=x) (y:=y) hp dy dx;obtain ⟨b1,b2,b3⟩:=FT n2;obtain ⟨a1,a2,a3⟩:=ha;have hw:=Mk hdx hdy;have m1:=TP hw b1;have m2:=TP hw b2;have m3:=TP hw b3;have q1:=aAv hdx;have q2:=aAv hdy;have c1:=Sk (y:=y) (dy:=dy) h3;have c2:=Sk (y:=x) (dy:=dx) h1;have c3:=mG c2 c1;have hwt:IntKind.i64.wrap ((2-dx*dx)*(2-dy*dy))=wt dx dy:=gF (by unfold wt at hw;omega)
 conv=>lhs;unfold jS
 rw [cT (dT hdx.2),gF (x:=(y:Int)+dy) (by omega),gF (x:=(H:Int)-1) (by omega),gF (x:=(x:Int)+dx) (by omega),gF (x:=(W:Int)-1) (by omega),Sl h3,Sl h1];rw [gF (x:=((cl y dy H:Nat):Int)*(W:Int)) (by rw [←Int.natCast_mul];omega),←Int.natCast_mul,←Int.natCast_add,gF (x:=((cl y dy H*W+cl x dx W:Nat):Int)) (by omega),aC,n1,aC];rw [gF (x:=dx*dx) (by omega),gF (x:=dy*dy) (by omega),gF (x:=2-dx*dx) (by omega),gF (x:=2-dy*dy) (by omega),hwt,aC,gF (x:=dx+1) (by omega),aC];rw [gF (x:=wt dx dy*(nb P W H x y dy dx).1) (by omega),gF (x:=wt dx dy*(nb P W H x y dy dx).2.1) (by omega),gF (x:=wt dx dy*(nb P W H x y dy dx).2.2) (by omega),gF (x:=a.1+_) (by omega),gF (x:=a.2.1+_) (by omega),gF (x:=a.2.2+_) (by omega)]
 rfl
theorem V4 (N fuel:Nat) {x y:Nat} (hx:x<W) (hy:y<H) {dy:Int} (hdy:-1≤dy∧dy≤1) (kk) {a:Px} (ha:Lr a 50000000) :
  jS N x y W H P dy kk (fuel+4) (a.1,a.2.1,a.2.2,-1)=kk ((JA P W H x y dy a).1,(JA P W H x y dy a).2.1,(JA P W H x y dy a).2.2,2):=by
 have b0:Lr a 100000000:=by unfold Lr at ha ⊢;omega
 have b1:=Hl (Mk (dx:=-1) (by omega) hdy) (FT (Ml (x:=x) (y:=y) hp dy (-1)).2) ha;have b2:=Hl (Mk (dx:=0) (by omega) hdy) (FT (Ml (x:=x) (y:=y) hp dy 0).2) b1;have up:∀{c:Px} {m:Int},Lr c m→m≤100000000→Lr c 100000000:=fun h hm=>by unfold Lr at h ⊢;omega
 rw [IQ hp N (fuel+3) hx hy (by omega) hdy kk b0 (dx':=0) (by omega),IQ hp N (fuel+2) hx hy (dx:=0) (by omega) hdy kk (up b1 (by omega)) (dx':=1) (by omega),IQ hp N (fuel+1) hx hy (dx:=1) (by omega) hdy kk (up b2 (by omega)) (dx':=2) (by omega)];unfold jS;rw [cF (dF (by omega))]
 rfl
theorem V5 (N:Nat) {x y:Nat} (hx:x<W) (hy:y<H) (kk) :
  jT 8589934592 x y W H P kk 8589934592 (0,0,0,-1)=kk ((TQ P W H x y).1,(TQ P W H x y).2.1,(TQ P W H x y).2.2,2):=by
 have h0:Lr ((0,0,0):Px) 0:=by unfold Lr;simp
 have h1:=Sm (x:=x) (y:=y) hp (dy:=-1) (by omega) h0;have h2:=Sm (x:=x) (y:=y) hp (dy:=0) (by omega) h1;have up:∀{a:Px} {m:Int},Lr a m→m≤50000000→Lr a 50000000:=fun h hm=>by unfold Lr at h ⊢;omega
 have one:∀(fuel:Nat) (dy dy':Int),(-1≤dy∧dy≤1)→dy'=dy+1→∀(a:Px),Lr a 50000000→jT 8589934592 x y W H P kk (fuel+1) (a.1,a.2.1,a.2.2,dy)=jT 8589934592 x y W H P kk fuel ((JA P W H x y dy a).1,(JA P W H x y dy a).2.1,(JA P W H x y dy a).2.2,dy'):=by
  intro fuel dy dy' hd hd' a ha;subst hd'
  conv=>lhs;unfold jT
  rw [cT (dT hd.2)];refine (V4 hp 8589934592 8589934588 hx hy hd _ ha).trans ?_
  dsimp only
  rw [gF (x:=dy+1) (by omega),aC]
 refine (one 8589934591 (-1) 0 (by omega) (by omega) (0,0,0) (up h0 (by omega))).trans ?_;refine (one 8589934590 0 1 (by omega) (by omega) _ (up h1 (by omega))).trans ?_;refine (one 8589934589 1 2 (by omega) (by omega) _ (up h2 (by omega))).trans ?_;unfold jT
 dsimp only
 rw [cF (dF (by omega))]
 rfl
theorem Y4 (amount:Int) {x y:Nat} (hx:x<W) (hy:y<H) (p:Px):nC 8589934592 p.1 p.2.1 p.2.2 x y W H P amount=some (shP amount p (TQ P W H x y)):=by
 unfold nC;refine (V5 hp 8589934592 hx hy _).trans ?_
 rfl
def shF (amount:Int) (W H:Nat) (P:List Px) (x y:Nat):Px:=shP amount (IM P W x y) (TQ P W H x y)
omit hp in
theorem QV (W H:Int) (P:List Px) (amount:Int):sF 8589934592 W H P amount=some (if rN W H P=false then (0,0,[],1) else if 0≤amount∧amount≤1024 then (W,H,E8 W.toNat H.toNat (shF amount W.toNat H.toNat P),0) else (0,0,[],3)):=by
 unfold sF;cases hp:rN W H P
 ·rw [V3 8589934592 (by omega) W H P amount hp];rfl
 ·have hs:=pM hp;obtain ⟨W,rfl⟩:∃n:Nat,W=n:=⟨W.toNat,by have:=hs.1;omega⟩
  obtain ⟨H,rfl⟩:∃n:Nat,H=n:=⟨H.toNat,by have:=hs.2.2.1;omega⟩
  obtain ⟨h1,h2,h3,h4,h5,h6⟩:=JU hp
  rw [V2 8589934592 (by omega) W H P amount hp (fun i=>shF amount W H P (i%W) (i/W)) (fun i p hi=>by
   have hlt:=(List.getElem?_eq_some_iff.1 hi).1;rw [h5] at hlt;obtain ⟨l1,l2,_⟩:=gX hlt;rw [Y4 hp amount l1 l2 p];show _=some (shP amount (P.getD (i/W*W+i%W) E7) _)
   rw [Nat.div_add_mod',List.getD_eq_getElem?_getD,hi];rfl)]
  rw [aC]
  dsimp only
  rw [cT (by rfl),if_neg (by simp),h5,Int.toNat_natCast,Int.toNat_natCast]
  by_cases a1:amount<0
  ·rw [cT (dT a1),if_neg (by omega)]
  rw [cF (dF a1)]
  by_cases a2:1024<amount
  ·rw [cT (dT a2),if_neg (by omega)]
  rw [cF (dF a2),if_pos (by omega)]
  rfl
end
def IR (lo hi n:Int):Bool:=decide (lo≤n∧n≤hi)
theorem aDy (N:Nat) (s:List Int) (lo hi:Int) (hl:s.length≤4096):∀(d k fuel:Nat),k+d=s.length→d<fuel →
  ∃r,d4 N s lo hi (fun _=>some (-1)) fuel (k:Int)=some r∧decide (0≤r) = !((s.drop k).all (IR lo hi)):=by
 intro d
 induction d with
 | zero=>
  intro k fuel hk hf;obtain ⟨fuel,rfl⟩:=oK fuel (by omega);obtain rfl:k=s.length:=by omega
  unfold d4;rw [cF (dF (by omega))];exact ⟨_,rfl,by simp⟩
 | succ d ih=>
  intro k fuel hk hf;obtain ⟨fuel,rfl⟩:=oK fuel (by omega);have hlt:k<s.length:=by omega
  unfold d4 Dy;rw [cT (dT (by omega)),eC,List.getElem?_eq_getElem hlt,aC,List.drop_eq_getElem_cons hlt,List.all_cons]
  by_cases h1:s[k]<lo
  ·rw [cT (dT h1),aC,cT (by rfl)];refine ⟨_,rfl,?_⟩;have:IR lo hi s[k]=false:=dF (by omega);rw [this,dT (by omega)];rfl
  rw [cF (dF h1),aC]
  by_cases h2:hi<s[k]
  ·rw [cT (dT h2)];refine ⟨_,rfl,?_⟩;have:IR lo hi s[k]=false:=dF (by omega);rw [this,dT (by omega)];rfl
  rw [cF (dF h2),gF (by omega)];have:IR lo hi s[k]=true:=dT (by omega);rw [this,Bool.true_and];exact ih (k+1) fuel (by omega) (by omega)
theorem Ev (lo hi:Int) (s:List Int) (hl:s.length≤4096):lT 8589934592 lo hi s=some (s.all (IR lo hi)):=by
 obtain ⟨r,hr,hd⟩:=aDy 8589934592 s lo hi hl s.length 0 8589934592 (by omega) (by omega);unfold lT gQ iF;rw [show (0:Int)=((0:Nat):Int) from rfl] ;rw [hr,aC,aC];rw [List.drop_zero] at hd;have hd':decide (((0:Nat):Int)≤r) = !(s.all (IR lo hi)):=hd;rw [hd',Bool.not_not]
theorem V6 {W H:Int} (hW:-1000≤W∧W≤1000) (hH:-1000≤H∧H≤1000) (x y:Int):uR 8589934592 x y W H=some (!(gZ W H (x,y))):=by
 unfold uR;rw [gF (by omega),gF (by omega),Ev _ _ _ (by simp),aC,Ev _ _ _ (by simp)];simp only [List.all_cons,List.all_nil,Bool.and_true]
 by_cases h1:0≤x∧x≤W-1
 ·have e1:IR 0 (W-1) x=true:=dT h1;rw [e1,cF (by rfl),aC]
  congr 2
  unfold gZ IR;rw [dT (show (0:Int)≤x by omega),dT (show x<W by omega),Bool.true_and,Bool.true_and]
  by_cases h2:0≤y∧y≤H-1
  ·rw [dT h2,dT (show (0:Int)≤y by omega),dT (show y<H by omega)];rfl
  ·rw [dF h2]
   by_cases h3:0≤y
   ·rw [dF (show ¬y<H by omega)];simp
   ·rw [dF h3];rfl
 ·have e1:IR 0 (W-1) x=false:=dF h1;rw [e1,cT (by rfl)]
  congr 1
  unfold gZ
  by_cases h3:0≤x
  ·rw [dF (show ¬x<W by omega)];simp
  ·rw [dF h3];rfl
theorem V7 (s:List (Int × Int)) {W H:Int} (hW:-1000≤W∧W≤1000) (hH:-1000≤H∧H≤1000) (hl:s.length≤4096):∀(d k fuel:Nat),k+d=s.length→d<fuel →
  ∃r,aZ 8589934592 s W H (fun _=>some (-1)) fuel (k:Int)=some r∧decide (0≤r) = !((s.drop k).all (gZ W H)):=by
 intro d
 induction d with
 | zero=>
  intro k fuel hk hf;obtain ⟨fuel,rfl⟩:=oK fuel (by omega);obtain rfl:k=s.length:=by omega
  unfold aZ;rw [cF (dF (by omega))];exact ⟨_,rfl,by simp⟩
 | succ d ih=>
  intro k fuel hk hf;obtain ⟨fuel,rfl⟩:=oK fuel (by omega);have hlt:k<s.length:=by omega
  unfold aZ;rw [cT (dT (by omega)),eC,List.getElem?_eq_getElem hlt,aC,List.drop_eq_getElem_cons hlt,List.all_cons,V6 hW hH,aC];cases h:gZ W H s[k]
  ·rw [cT (by rfl)];refine ⟨_,rfl,?_⟩;rw [dT (by omega)];rfl
  ·rw [cF (by rfl),gF (by omega),Bool.true_and];exact ih (k+1) fuel (by omega) (by omega)
theorem Mm (s:List (Int × Int)) {W H:Int} (hW:-1000≤W∧W≤1000) (hH:-1000≤H∧H≤1000) (hl:s.length≤4096):vJ 8589934592 s W H=some (s.all (gZ W H)):=by
 obtain ⟨r,hr,hd⟩:=V7 s hW hH hl s.length 0 8589934592 (by omega) (by omega);have hr':aZ 8589934592 s W H (fun _=>some (-1)) 8589934592 0=some r:=hr;unfold vJ d9 eU;rw [hr',aC,aC,hd,List.drop_zero,Bool.not_not]
section
variable (ph b0 b1 b2 b3 w:Int) (sp:List (Int × Int)) (g0 g1 g2 m0 m1 m2 m3 m4 m5 m6 m7 m8:Int) (cv:List (Int × Int)) (am:Int)
def wR:Bool:=IR 0 3 ph&&(IR 1 65535 w&&([b0,b1,b2,b3].all (IR 0 (w-1))&&(decide (sp.length≤64)&&(sp.all (gZ 64 64)&&([g0,g1,g2].all (IR 0 65535)&&(Fv m0 m1 m2 m3 m4 m5 m6 m7 m8&&IR 0 1024 am))))))
theorem Hm {b:Bool} (hb:gW 8589934592 cv=some b) (hc:b=true↔nE cv):qS 8589934592 ph b0 b1 b2 b3 w sp g0 g1 g2 m0 m1 m2 m3 m4 m5 m6 m7 m8 cv am=some (if wR ph b0 b1 b2 b3 w sp g0 g1 g2 m0 m1 m2 m3 m4 m5 m6 m7 m8 am=false then 3 else if b=false then 1 else 0):=by
 unfold qS wR;rw [Ev _ _ _ (by simp),aC];simp only [List.all_cons,List.all_nil,Bool.and_true];cases h1:IR 0 3 ph
 ·rfl
 rw [cF (by rfl),Ev _ _ _ (by simp),aC];simp only [List.all_cons,List.all_nil,Bool.and_true,Bool.true_and];cases h2:IR 1 65535 w
 ·rfl
 have h2':1≤w∧w≤65535:=of_decide_eq_true h2;rw [cF (by rfl),gF (by omega),Ev _ _ _ (by simp),aC];simp only [List.all_cons,List.all_nil,Bool.and_true,Bool.true_and];cases h3:(IR 0 (w-1) b0&&(IR 0 (w-1) b1&&(IR 0 (w-1) b2&&IR 0 (w-1) b3)))
 ·rfl
 rw [cF (by rfl)]
 by_cases h4:sp.length≤64
 rotate_left
 ·rw [cT (dT (by omega)),dF h4];rfl
 rw [cF (dF (by omega)),dT h4,Mm sp (by omega) (by omega) (by omega),aC];simp only [Bool.true_and];cases h5:sp.all (gZ 64 64)
 ·rfl
 rw [cF (by rfl),Ev _ _ _ (by simp),aC];simp only [List.all_cons,List.all_nil,Bool.and_true,Bool.true_and];cases h6:(IR 0 65535 g0&&(IR 0 65535 g1&&IR 0 65535 g2))
 ·rfl
 rw [cF (by rfl),Ev _ _ _ (by simp),aC,show [m0,m1,m2,m3,m4,m5,m6,m7,m8].all (IR (-32768) 32768)=Fv m0 m1 m2 m3 m4 m5 m6 m7 m8 from rfl];simp only [Bool.true_and];cases h7:Fv m0 m1 m2 m3 m4 m5 m6 m7 m8
 ·rfl
 rw [cF (by rfl),Ev _ _ _ (by simp),aC];simp only [List.all_cons,List.all_nil,Bool.and_true,Bool.true_and];cases h8:IR 0 1024 am
 ·rfl
 rw [cF (by rfl),V0 hb hc 0,aC]
 cases b <;> rfl
end
theorem IS {W H n:Nat} (h:1≤W∧W≤64∧1≤H∧H≤64) (hn:n=W*H) {g:Nat→Int} (hg:∀i,i<n→0≤g i∧g i≤65535):dJ W H ((List.range n).map g)=true:=by
 refine pD.2 ⟨⟨by omega,by omega,by omega,by omega⟩,by rw [List.length_map,List.length_range,hn,Int.natCast_mul],List.all_eq_true.2 fun x hx=>?_⟩;obtain ⟨i,hi,rfl⟩:=List.mem_map.1 hx;have:=hg i (List.mem_range.1 hi)
 simp [Jv,this]
theorem QW {n:Nat} {g:Nat→Int} (hg:∀i,i<n→0≤g i∧g i≤65535):upTo ((List.range n).map g) 65535:=fun i=>by
 rw [List.getD_eq_getElem?_getD]
 by_cases hi:i<n
 ·rw [List.getElem?_map,List.getElem?_range hi];exact hg i hi
 ·rw [List.getElem?_eq_none (by simp;omega)];simp
theorem Sn {W H:Nat} {q:List Px} (hq:rN W H q=true) {f:Px→Px} (hf:∀p,Af p=true→Af (f p)=true):rN W H ((List.range q.length).map fun i=>f (q.getD i E7))=true:=by
 have hs:=pM hq;have h:=qV W H q hs;simp only [rN,Bool.and_eq_true,decide_eq_true_eq];refine ⟨by rw [List.length_map,List.length_range];exact hs,List.all_eq_true.2 fun p hp=>?_⟩;obtain ⟨i,hi,rfl⟩:=List.mem_map.1 hp;have hlt:=List.mem_range.1 hi;refine hf _ ?_;exact Nh hq (i:=i) (by rw [List.getD_eq_getElem?_getD,List.getElem?_eq_getElem hlt];rfl)
theorem Nk (a b c:Int) (p:Px):0≤TN a b c p∧TN a b c p≤65535:=by unfold TN;omega
theorem Y5 (m0 m1 m2 m3 m4 m5 m6 m7 m8:Int) (p:Px):Af (OG m0 m1 m2 m3 m4 m5 m6 m7 m8 p)=true:=by
 have h1:=Nk m0 m1 m2 p;have h2:=Nk m3 m4 m5 p;have h3:=Nk m6 m7 m8 p;unfold OG;simp only [Af,decide_eq_true_eq];omega
theorem QX {l:List Pt} (h:nE l) {x:Int} (hx:0≤x∧x≤65535):0≤Yc l x∧Yc l x≤65535:=by
 obtain ⟨i,a,b,e⟩:=aAu h 8589934592 (by omega) hx;have f:=Mi h a b;have b1:=h.bd (i:=i-1) (by omega);have b2:=h.bd (i:=i) (by omega);unfold Yc;rw [e];show 0≤seg l i x∧seg l i x≤65535
 omega
theorem V8 {l:List Pt} (h:nE l) (p:Px) (hp:Af p=true):Af (Jc l p)=true:=by
 simp only [Af,decide_eq_true_eq] at hp;have h1:=QX h (x:=p.1) (by omega);have h2:=QX h (x:=p.2.1) (by omega);have h3:=QX h (x:=p.2.2) (by omega);unfold Jc;simp only [Af,decide_eq_true_eq];omega
section
variable (ph b0 b1 b2 b3 w:Int) (sp:List (Int × Int)) (g0 g1 g2 m0 m1 m2 m3 m4 m5 m6 m7 m8:Int) (cv:List (Int × Int)) (am:Int)
def st1 (W:Nat) (P:List Int):List Int:=(List.range P.length).map (Jz W P b0 b1 b2 b3 w)
def st2 (W H:Nat) (P:List Int):List Int:=(List.range (st1 b0 b1 b2 b3 w W P).length).map (qR W H sp (st1 b0 b1 b2 b3 w W P))
def Y6 (W H:Nat) (P:List Int):List Int:=(List.range (st2 b0 b1 b2 b3 w sp W H P).length).map (UT W (st2 b0 b1 b2 b3 w sp W H P) ph g0 g1 g2)
def Yd (W H:Nat) (P:List Int):List Px:=E8 W H (pF W H (Y6 ph b0 b1 b2 b3 w sp g0 g1 g2 W H P) ph)
def V9 (W H:Nat) (P:List Int):List Px:=(List.range (Yd ph b0 b1 b2 b3 w sp g0 g1 g2 W H P).length).map fun i=>OG m0 m1 m2 m3 m4 m5 m6 m7 m8 ((Yd ph b0 b1 b2 b3 w sp g0 g1 g2 W H P).getD i E7)
def st6 (W H:Nat) (P:List Int):List Px:=(List.range (V9 ph b0 b1 b2 b3 w sp g0 g1 g2 m0 m1 m2 m3 m4 m5 m6 m7 m8 W H P).length).map fun i=>Jc cv ((V9 ph b0 b1 b2 b3 w sp g0 g1 g2 m0 m1 m2 m3 m4 m5 m6 m7 m8 W H P).getD i E7)
def OL (W H:Nat) (P:List Int):List Px:=E8 W H (shF am W H (st6 ph b0 b1 b2 b3 w sp g0 g1 g2 m0 m1 m2 m3 m4 m5 m6 m7 m8 cv W H P))
structure GK:Prop where
 phase:0≤ph∧ph≤3
 white:1≤w∧w≤65535
 black:Si b0 b1 b2 b3 w
 Ks:sp.length≤64
 spots:sp.all (gZ 64 64)=true
 gains:aB7 g0 g1 g2
 matrix:Fv m0 m1 m2 m3 m4 m5 m6 m7 m8=true
 amount:0≤am∧am≤1024
theorem Hn (h:wR ph b0 b1 b2 b3 w sp g0 g1 g2 m0 m1 m2 m3 m4 m5 m6 m7 m8 am=true):GK ph b0 b1 b2 b3 w sp g0 g1 g2 m0 m1 m2 m3 m4 m5 m6 m7 m8 am:=by
 unfold wR at h;simp only [List.all_cons,List.all_nil,Bool.and_true,Bool.and_eq_true] at h;obtain ⟨h1,h2,⟨c0,c1,c2,c3⟩,h4,h5,⟨d0,d1,d2⟩,h7,h8⟩:=h;have e0:=of_decide_eq_true c0;have e1:=of_decide_eq_true c1;have e2:=of_decide_eq_true c2;have e3:=of_decide_eq_true c3;exact ⟨of_decide_eq_true h1,of_decide_eq_true h2,⟨by omega,by omega,by omega,by omega⟩,of_decide_eq_true h4,h5,⟨of_decide_eq_true d0,of_decide_eq_true d1,of_decide_eq_true d2⟩,h7,of_decide_eq_true h8⟩
end
section
variable {ph b0 b1 b2 b3 w:Int} {sp:List (Int × Int)} {g0 g1 g2 m0 m1 m2 m3 m4 m5 m6 m7 m8:Int} {cv:List (Int × Int)} {am:Int} (hp:GK ph b0 b1 b2 b3 w sp g0 g1 g2 m0 m1 m2 m3 m4 m5 m6 m7 m8 am)
include hp
section
variable {W H:Nat} {P:List Int} (hs:1≤W∧W≤64∧1≤H∧H≤64) (hl:P.length=W*H) (hP:upTo P 65535)
include hs hl hP
theorem Nl:(st1 b0 b1 b2 b3 w W P).length=W*H:=by unfold st1;rw [List.length_map,List.length_range,hl]
theorem aAw (i:Nat):0≤Jz W P b0 b1 b2 b3 w i∧Jz W P b0 b1 b2 b3 w i≤65535:=YW hp.black hp.white.2 (Sj hp.black _ _)
theorem aCf:upTo (st1 b0 b1 b2 b3 w W P) 65535:=QW fun i _=>aAw hp hs hl hP i
theorem Wa:dJ W H (st1 b0 b1 b2 b3 w W P)=true:=IS hs hl fun i _=>aAw hp hs hl hP i
theorem Nm:(st2 b0 b1 b2 b3 w sp W H P).length=W*H:=by unfold st2;rw [List.length_map,List.length_range,Nl hp hs hl hP]
theorem aAx (i:Nat):0≤qR W H sp (st1 b0 b1 b2 b3 w W P) i∧qR W H sp (st1 b0 b1 b2 b3 w W P) i≤65535:=by
 have:=aCa (W:=W) (H:=H) (l:=sp) (aCf hp hs hl hP) (i%W) (i/W);unfold Y0 at this;unfold qR;rw [Nat.mul_comm,Nat.div_add_mod,Int.natCast_emod,Int.natCast_ediv] at this;exact this
theorem aCg:upTo (st2 b0 b1 b2 b3 w sp W H P) 65535:=QW fun i _=>aAx hp hs hl hP i
theorem Wb:dJ W H (st2 b0 b1 b2 b3 w sp W H P)=true:=IS hs (Nl hp hs hl hP) fun i _=>aAx hp hs hl hP i
theorem Y7:(Y6 ph b0 b1 b2 b3 w sp g0 g1 g2 W H P).length=W*H:=by unfold Y6;rw [List.length_map,List.length_range,Nm hp hs hl hP]
theorem aAy (i:Nat):0≤UT W (st2 b0 b1 b2 b3 w sp W H P) ph g0 g1 g2 i∧UT W (st2 b0 b1 b2 b3 w sp W H P) ph g0 g1 g2 i≤65535:=aB8 (aCg hp hs hl hP i) (VP hp.gains _)
theorem aCh:upTo (Y6 ph b0 b1 b2 b3 w sp g0 g1 g2 W H P) 65535:=QW fun i _=>aAy hp hs hl hP i
theorem Wc:dJ W H (Y6 ph b0 b1 b2 b3 w sp g0 g1 g2 W H P)=true:=IS hs (Nm hp hs hl hP) fun i _=>aAy hp hs hl hP i
theorem So:rN W H (Yd ph b0 b1 b2 b3 w sp g0 g1 g2 W H P)=true:=VJ hs (aCh hp hs hl hP) ph
theorem Sp:rN W H (V9 ph b0 b1 b2 b3 w sp g0 g1 g2 m0 m1 m2 m3 m4 m5 m6 m7 m8 W H P)=true:=Sn (So hp hs hl hP) fun p _=>Y5 m0 m1 m2 m3 m4 m5 m6 m7 m8 p
theorem Y8 (hc:nE cv):rN W H (st6 ph b0 b1 b2 b3 w sp g0 g1 g2 m0 m1 m2 m3 m4 m5 m6 m7 m8 cv W H P)=true:=Sn (Sp hp hs hl hP) fun p hp'=>V8 hc p hp'
theorem Wd (hc:nE cv) (hsp:sp.all (gZ W H)=true) (hf:dJ W H P=true) (hb:gW 8589934592 cv=some true) (hB:wR ph b0 b1 b2 b3 w sp g0 g1 g2 m0 m1 m2 m3 m4 m5 m6 m7 m8 am=true) :
  y6 8589934592 ph b0 b1 b2 b3 w sp g0 g1 g2 m0 m1 m2 m3 m4 m5 m6 m7 m8 cv am W H P=some ((W:Int),(H:Int),OL ph b0 b1 b2 b3 w sp g0 g1 g2 m0 m1 m2 m3 m4 m5 m6 m7 m8 cv am W H P,0):=by
 have hm:=Nat.mul_le_mul hs.2.1 hs.2.2.2;have l1:=Nl hp hs hl hP;have l2:=Nm hp hs hl hP;have e1:sD 8589934592 W H P b0 b1 b2 b3 w=some ((W:Int),(H:Int),st1 b0 b1 b2 b3 w W P,0):=VN hp.black hp.white.2 hf
 have e2:fY 8589934592 W H (st1 b0 b1 b2 b3 w W P) sp=some ((W:Int),(H:Int),st2 b0 b1 b2 b3 w sp W H P,0):=by
  unfold fY;rw [if_neg (by omega),Wa hp hs hl hP,if_neg (by simp),if_neg (by have:=hp.Ks;omega),hsp,if_neg (by simp)]
  rfl
 have e3:tP 8589934592 W H (st2 b0 b1 b2 b3 w sp W H P) ph g0 g1 g2=some ((W:Int),(H:Int),Y6 ph b0 b1 b2 b3 w sp g0 g1 g2 W H P,0):=YZ hp.gains hp.phase (Wb hp hs hl hP)
 have e4:tQ 8589934592 W H (Y6 ph b0 b1 b2 b3 w sp g0 g1 g2 W H P) ph=some ((W:Int),(H:Int),Yd ph b0 b1 b2 b3 w sp g0 g1 g2 W H P,0):=by
  rw [fill_eq W H _ ph (by rw [Y7 hp hs hl hP];omega),Wc hp hs hl hP,if_neg (by simp),if_pos hp.phase,Int.toNat_natCast,Int.toNat_natCast];rfl
 have e5:Au 8589934592 W H (Yd ph b0 b1 b2 b3 w sp g0 g1 g2 W H P) m0 m1 m2 m3 m4 m5 m6 m7 m8=some ((W:Int),(H:Int),V9 ph b0 b1 b2 b3 w sp g0 g1 g2 m0 m1 m2 m3 m4 m5 m6 m7 m8 W H P,0):=by
  rw [aCc 8589934592 m0 m1 m2 m3 m4 m5 m6 m7 m8 (by omega),So hp hs hl hP,if_neg (by simp),hp.matrix,if_neg (by simp)];rfl
 have e6:yD 8589934592 W H (V9 ph b0 b1 b2 b3 w sp g0 g1 g2 m0 m1 m2 m3 m4 m5 m6 m7 m8 W H P) cv=some ((W:Int),(H:Int),st6 ph b0 b1 b2 b3 w sp g0 g1 g2 m0 m1 m2 m3 m4 m5 m6 m7 m8 cv W H P,0):=by
  rw [Y3 hb (iff_of_true rfl hc),if_neg (by simp),Sp hp hs hl hP,if_neg (by simp)];rfl
 have e7:sF 8589934592 W H (st6 ph b0 b1 b2 b3 w sp g0 g1 g2 m0 m1 m2 m3 m4 m5 m6 m7 m8 cv W H P) am=some ((W:Int),(H:Int),OL ph b0 b1 b2 b3 w sp g0 g1 g2 m0 m1 m2 m3 m4 m5 m6 m7 m8 cv am W H P,0):=by
  rw [QV,Y8 hp hs hl hP hc,if_neg (by simp),if_pos hp.amount,Int.toNat_natCast,Int.toNat_natCast];rfl
 unfold y6 uF sU vM vN w5 vP rT;rw [Hm ph b0 b1 b2 b3 w sp g0 g1 g2 m0 m1 m2 m3 m4 m5 m6 m7 m8 cv am hb (iff_of_true rfl hc),hB,if_neg (by simp),if_neg (by simp),aC,cF (by rfl),e1];dsimp only [Option.bind];rw [cF (by rfl),e2]
 dsimp only
 rw [cF (by rfl),e3]
 dsimp only
 rw [cF (by rfl),e4]
 dsimp only
 rw [cF (by rfl),e5]
 dsimp only
 rw [cF (by rfl),e6]
 dsimp only
 rw [cF (by rfl),e7]
 rfl
end
end
section
variable (ph b0 b1 b2 b3 w:Int) (sp:List (Int × Int)) (g0 g1 g2 m0 m1 m2 m3 m4 m5 m6 m7 m8:Int) (cv:List (Int × Int)) (am:Int)
def QY (b:Bool) (W H:Int) (P:List Int):Int:=if wR ph b0 b1 b2 b3 w sp g0 g1 g2 m0 m1 m2 m3 m4 m5 m6 m7 m8 am=false then 3 else if b=false then 1 else if dJ W H P=false then 1 else if sp.all (gZ W H)=false then 3 else 0
theorem Y9 (W H:Nat) (P:List Int):(OL ph b0 b1 b2 b3 w sp g0 g1 g2 m0 m1 m2 m3 m4 m5 m6 m7 m8 cv am W H P).length=W*H:=AT _ _ _
end
theorem Nn {α:Type} {n i:Nat} (f:Nat→α) (z:α) (h:i<n):((List.range n).map f).getD i z=f i:=by
 rw [List.getD_eq_getElem?_getD,List.getElem?_map,List.getElem?_range h];rfl
def RR (H H' t:Nat) (v:Int):Prop:=(0≤v∧v<H')↔(0≤v+t∧v+t<H)
def F5 {α:Type} (z:α) (W H' t:Nat) (lo hi:Int) (P P':List α):Prop:=∀x y:Nat,x<W→y<H'→lo≤y→(y:Int)<hi→P'.getD (y*W+x) z=P.getD ((y+t)*W+x) z
section
variable {W H H' t:Nat} {lo hi:Int} (hR:∀v:Int,lo≤v→v<hi→RR H H' t v)
include hR
theorem aDz {y:Nat} (hy:y<H') (h1:lo≤y) (h2:(y:Int)<hi):y+t<H:=by
 have:=(hR y h1 h2).1 ⟨by omega,by omega⟩
 omega
theorem aAz {x y:Nat} (hx:x<W) (hy:y<H') (h1:lo≤y) (h2:(y:Int)<hi):y*W+x<W*H'∧(y+t)*W+x<W*H:=⟨mG hx hy,mG hx (aDz hR hy h1 h2)⟩
theorem Fw {α β:Type} {z:α} {f f':List β→Nat→α} {P P':List β} (hl:P.length=W*H) (hl':P'.length=W*H')
  (h:∀x y:Nat,x<W→y<H'→lo≤y→(y:Int)<hi→f' P' (y*W+x)=f P ((y+t)*W+x)):F5 z W H' t lo hi ((List.range P.length).map (f P)) ((List.range P'.length).map (f' P')):=fun x y hx hy h1 h2=>by
 obtain ⟨a,b⟩:=aAz hR hx hy h1 h2;rw [Nn _ _ (by omega),Nn _ _ (by omega),h x y hx hy h1 h2]
theorem OM {f f':Nat→Nat→Px} (h:∀x y:Nat,x<W→y<H'→lo≤y→(y:Int)<hi→f' x y=f x (y+t)):F5 E7 W H' t lo hi (E8 W H f) (E8 W H' f'):=fun x y hx hy h1 h2=>by
 obtain ⟨a,b⟩:=aAz hR hx hy h1 h2;unfold E8;rw [Nn _ _ a,Nn _ _ b,(dm y hx).1,(dm y hx).2,(dm (y+t) hx).1,(dm (y+t) hx).2,h x y hx hy h1 h2]
end
theorem We (y t:Int) {k:Nat} (hk:k<4):Er (y+t) k=Er y k+t∧y-2≤Er y k∧Er y k≤y+2:=by
 have:k=0∨k=1∨k=2∨k=3:=by omega
 rcases this with rfl | rfl | rfl | rfl
 ·show y+t=y+t∧y-2≤y∧y≤y+2;omega
 ·show y+t=y+t∧y-2≤y∧y≤y+2;omega
 ·show y+t-2=y-2+t∧y-2≤y-2∧y-2≤y+2;omega
 ·show y+t+2=y+2+t∧y-2≤y+2∧y+2≤y+2;omega
section
variable {W H H' t:Nat} {lo hi:Int} (hR:∀v:Int,lo≤v→v<hi→RR H H' t v) {l l':List (Int × Int)} (hs:∀u v:Int,0≤v→v<H'→cntF l' u v=cntF l u (v+t))
include hR hs
theorem Wf {x y:Int} (h1:lo+2≤y) (h2:y+2<hi) (k:Nat) (hk:k<4):Hf W H' (cntF l') x y k↔Hf W H (cntF l) x (y+t) k:=by
 have hn:=We y t hk;have hv:Er (y+t) k=Er y k+t∧lo≤Er y k∧Er y k<hi:=⟨hn.1,by omega,by omega⟩
 have r:=hR _ hv.2.1 hv.2.2;unfold RR at r;unfold Hf;rw [hv.1]
 constructor
 ·rintro ⟨a,b,c,d,e⟩;have:=r.1 ⟨c,d⟩;exact ⟨a,b,this.1,this.2,by rw [←hs _ _ c d];exact e⟩
 ·rintro ⟨a,b,c,d,e⟩;have:=r.2 ⟨c,d⟩;exact ⟨a,b,this.1,this.2,by rw [hs _ _ this.1 this.2];exact e⟩
theorem aCi {P P':List Int} (he:F5 0 W H' t lo hi P P') {x y:Nat} (hx:x<W) (hy:y<H') (h1:lo+2≤y) (h2:(y:Int)+2<hi):Y0 W H' P' l' x y=Y0 W H P l x (y+t):=by
 have hok:=fun k hk=>Wf (W:=W) hR hs (x:=x) h1 h2 k hk
 have hval:∀k,k<4→Hf W H' (cntF l') x y k→EN W P' x y k=EN W P x (y+t) k:=fun k hk hn=>by
  have hn':=(hok k hk).1 hn;unfold Hf at hn hn';have hq:=We y t hk;have hv:Er ((y:Int)+t) k=Er y k+t∧lo≤Er y k∧Er y k<hi:=⟨hq.1,by omega,by omega⟩
  unfold EN;rw [hv.1];obtain ⟨u,hu⟩:∃n:Nat,Kk (x:Int) k=n:=⟨(Kk (x:Int) k).toNat,by omega⟩
  obtain ⟨v,hv'⟩:∃n:Nat,Er (y:Int) k=n:=⟨(Er (y:Int) k).toNat,by omega⟩
  rw [hu,hv'];have:=he u v (by omega) (by omega) (by omega) (by omega);have e1:((v:Int)*W+u).toNat=v*W+u:=by rw [←Int.natCast_mul,←Int.natCast_add,Int.toNat_natCast]
  have e2:(((v:Int)+t)*W+u).toNat=(v+t)*W+u:=by rw [←Int.natCast_add,←Int.natCast_mul,←Int.natCast_add,Int.toNat_natCast]
  rw [e1,e2,this]
 have hc0:cntF l' x y=cntF l x ((y+t:Nat):Int):=by rw [Int.natCast_add];exact hs _ _ (by omega) (by omega)
 have hp0:=he x y hx hy (by omega) (by omega)
 have hS:∀k,k≤4→Ba W H' (cntF l') P' x y k=Ba W H (cntF l) P x (y+t) k∧uD W H' (cntF l') x y k=uD W H (cntF l) x (y+t) k:=by
  intro k
  induction k with
  | zero=>intro _;exact ⟨rfl,rfl⟩
  | succ k ih=>
   intro hk;obtain ⟨i1,i2⟩:=ih (by omega);simp only [Ba,uD];rw [i1,i2]
   by_cases h:Hf W H' (cntF l') x y k
   ·rw [if_pos h,if_pos ((hok k (by omega)).1 h),if_pos h,if_pos ((hok k (by omega)).1 h),hval k (by omega) h];exact ⟨rfl,rfl⟩
   ·have h':=fun q=>h ((hok k (by omega)).2 q)
    rw [if_neg h,if_neg h',if_neg h,if_neg h'];exact ⟨rfl,rfl⟩
 obtain ⟨s1,s2⟩:=hS 4 (by omega);unfold Y0 yU;rw [hp0,hc0,Int.natCast_add,s1,s2]
end
theorem aAA {W H:Nat} {l:List (Int × Int)} {P:List Int} {x y:Nat} (hx:x<W):qR W H l P (y*W+x)=Y0 W H P l x y:=by
 unfold qR Y0;rw [←Int.natCast_emod,←Int.natCast_ediv,(dm y hx).1,(dm y hx).2]
def shv (t:Nat) (q:Int × Int):Int × Int:=(q.1,q.2+t)
theorem Wg (t:Nat) (W x v:Int):∀(k:Nat) (u:Int),TH W x (v+t) k u=(TH W x v k u).map (shv t)
 | 0,_=>rfl
 | k+1,u=>by
  unfold TH
  split
  ·rw [List.map_cons,Wg t W x v k (u+1)];rfl
  ·rfl
theorem Sq {W x v:Int} {q:Int × Int}:∀(k:Nat) (u:Int),q∈TH W x v k u→u≤q.1∧q.1<W∧q.2=v
 | 0,_,h=>by cases h
 | k+1,u,h=>by
  unfold TH at h
  split at h
  ·rcases List.mem_cons.1 h with rfl | h
   ·dsimp only;omega
   ·have:=Sq k (u+1) h;omega
  ·cases h
theorem Wh {t H H':Nat} (W x:Int) {y:Int} (h:∀v:Int,y-1≤v→v≤y+1→0≤v→((v<H')↔(v+t<H))):∀(k:Nat) (v:Int),0≤v→y-1≤v→TI W H x (y+t) k (v+t)=(TI W H' x y k v).map (shv t)
 | 0,_,_,_=>rfl
 | k+1,v,h0,h1=>by
  unfold TI
  by_cases hc:v≤min ((H':Int)-1) (y+1)
  ·have:=h v h1 (by omega) h0;rw [if_pos hc,if_pos (by omega),List.map_append,Wg,show v+(t:Int)+1=(v+1)+t by omega,Wh W x h k (v+1) (by omega) (by omega)]
  ·rw [if_neg hc,if_neg]
   ·rfl
   ·intro hc';have:=h v h1 (by omega) h0
    omega
theorem Sr {W H x y:Int} {q:Int × Int}:∀(k:Nat) (v:Int),q∈TI W H x y k v→max 0 (x-1)≤q.1∧q.1<W∧v≤q.2∧q.2<H∧q.2≤y+1
 | 0,_,h=>by cases h
 | k+1,v,h=>by
  unfold TI at h
  split at h
  ·rcases List.mem_append.1 h with h | h
   ·have:=Sq 4 _ h;omega
   ·have:=Sr k (v+1) h;omega
  ·cases h
section
variable {W H H' t:Nat} {lo hi:Int} (hR:∀v:Int,lo≤v→v<hi→RR H H' t v) {ph Qd:Int} (hc:∀u v:Int,u6 Qd u v=u6 ph u (v+t))
include hR hc
theorem aCj {P P':List Int} (he:F5 0 W H' t lo hi P P') {x y:Nat} (hx:x<W) (hy:y<H') (h1:lo+1≤y) (h2:(y:Int)+1<hi):pF W H' P' Qd x y=pF W H P ph x (y+t):=by
 have r0:=hR (y-1) (by omega) (by omega);have r1:=hR y (by omega) (by omega);have r2:=hR (y+1) (by omega) (by omega);unfold RR at r0 r1 r2
 have hL:tF W H x ((y:Int)+t)=(tF W H' x y).map (shv t):=by
  unfold tF;rw [show max 0 ((y:Int)+t-1)=max 0 ((y:Int)-1)+t by omega];refine Wh W x (fun v a b c=>?_) 4 _ (by omega) (by omega);have:v=y-1∨v=y∨v=y+1:=by omega
  rcases this with rfl | rfl | rfl <;> omega
 have hm:∀q∈tF W H' x y,0≤q.1∧q.1<W∧0≤q.2∧q.2<H'∧lo≤q.2∧q.2<hi:=fun q hq=>by
  have:=Sr 4 _ hq
  omega
 have hA:∀q:Int × Int,0≤q.1∧q.1<W∧0≤q.2∧q.2<H'∧lo≤q.2∧q.2<hi→Vy W P (shv t q)=Vy W P' q:=fun q hq=>by
  obtain ⟨u,v⟩:=q;dsimp only at hq;obtain ⟨u,rfl⟩:=Int.eq_ofNat_of_zero_le hq.1;obtain ⟨v,rfl⟩:=Int.eq_ofNat_of_zero_le hq.2.2.1;have:=he u v (by omega) (by omega) (by omega) (by omega);unfold Vy shv
  dsimp only
  have e1:((v:Int)*W+u).toNat=v*W+u:=by rw [←Int.natCast_mul,←Int.natCast_add,Int.toNat_natCast]
  have e2:(((v:Int)+t)*W+u).toNat=(v+t)*W+u:=by rw [←Int.natCast_add,←Int.natCast_mul,←Int.natCast_add,Int.toNat_natCast]
  rw [e1,e2,this]
 have hO:∀c,Sh ph c ((tF W H' x y).map (shv t))=(Sh Qd c (tF W H' x y)).map (shv t):=fun c=>by
  unfold Sh;rw [List.filter_map]
  congr 1
  refine List.filter_congr fun q _=>?_
  show decide (u6 ph q.1 (q.2+t)=c)=decide (u6 Qd q.1 q.2=c);rw [hc]
 have hcnt:∀c,cnt ph c (tF W H x ((y:Int)+t))=cnt Qd c (tF W H' x y):=fun c=>by
  unfold cnt;rw [hL,hO,List.length_map]
 have hsm:∀c,sm W P ph c (tF W H x ((y:Int)+t))=sm W P' Qd c (tF W H' x y):=fun c=>by
  unfold sm;rw [hL,hO,List.map_map]
  congr 1
  refine List.map_congr_left fun q hq=>?_
  exact hA q (hm q (List.mem_filter.1 hq).1)
 have h0:=hA ((x:Int),(y:Int)) (by dsimp only;omega);unfold shv at h0;unfold pF OB;rw [Int.natCast_add,hcnt,hcnt,hcnt,hsm,hsm,hsm,←h0,hc]
end
section
variable {W H H' t:Nat} {lo hi:Int} (hR:∀v:Int,lo≤v→v<hi→RR H H' t v)
include hR
theorem Za (am:Int) {P P':List Px} (he:F5 E7 W H' t lo hi P P') {x y:Nat} (hx:x<W) (hy:y<H') (h1:lo+1≤y) (h2:(y:Int)+1<hi):shF am W H' P' x y=shF am W H P x (y+t):=by
 have r0:=hR (y-1) (by omega) (by omega);have r1:=hR y (by omega) (by omega);have r2:=hR (y+1) (by omega) (by omega);unfold RR at r0 r1 r2
 have hn:∀dy dx:Int,-1≤dy→dy≤1→nb P' W H' x y dy dx=nb P W H x (y+t) dy dx:=fun dy dx a b=>by
  have hd:dy = -1∨dy=0∨dy=1:=by omega
  have e:cl (y+t) dy H=cl y dy H'+t∧cl y dy H'<H'∧lo≤cl y dy H'∧(cl y dy H':Int)<hi:=by
   unfold cl
   rcases hd with rfl | rfl | rfl <;> omega
  have e2:cl x dx W<W:=by unfold cl;omega
  unfold nb;rw [e.1];exact he _ _ e2 e.2.1 e.2.2.1 e.2.2.2
 have h0:IM P' W x y=IM P W x (y+t):=he x y hx hy (by omega) (by omega);unfold shF TQ JA;rw [h0,hn (-1) (-1) (by omega) (by omega),hn (-1) 0 (by omega) (by omega),hn (-1) 1 (by omega) (by omega),hn 0 (-1) (by omega) (by omega),hn 0 0 (by omega) (by omega),hn 0 1 (by omega) (by omega),hn 1 (-1) (by omega) (by omega),hn 1 0 (by omega) (by omega),hn 1 1 (by omega) (by omega)]
end
section
variable {W H H' t:Nat} {ph b0 b1 b2 b3 w:Int} {sp:List (Int × Int)} {g0 g1 g2 m0 m1 m2 m3 m4 m5 m6 m7 m8:Int} {cv:List (Int × Int)} {am:Int} {Qd c0 c1 c2 c3:Int} {sp':List (Int × Int)}
theorem Zb {lo hi:Int} (hR:∀v:Int,lo≤v→v<hi→RR H H' t v)
  (hb:∀x y:Nat,Hj c0 c1 c2 c3 x y=Hj b0 b1 b2 b3 x (y+t)) (hc:∀u v:Int,u6 Qd u v=u6 ph u (v+t)) (hs:∀u v:Int,0≤v→v<H'→cntF sp' u v=cntF sp u (v+t))
  {P P':List Int} (hl:P.length=W*H) (hl':P'.length=W*H') (he:F5 0 W H' t lo hi P P') :
  F5 E7 W H' t (lo+4) (hi-4) (OL ph b0 b1 b2 b3 w sp g0 g1 g2 m0 m1 m2 m3 m4 m5 m6 m7 m8 cv am W H P) (OL Qd c0 c1 c2 c3 w sp' g0 g1 g2 m0 m1 m2 m3 m4 m5 m6 m7 m8 cv am W H' P'):=by
 have sub:∀d:Int,0≤d→∀v:Int,lo+d≤v→v<hi-d→RR H H' t v:=fun d _ v a b=>hR v (by omega) (by omega)
 have e1:F5 0 W H' t lo hi (st1 b0 b1 b2 b3 w W P) (st1 c0 c1 c2 c3 w W P'):=by
  refine Fw hR (f:=fun P i=>Jz W P b0 b1 b2 b3 w i) (f':=fun P i=>Jz W P c0 c1 c2 c3 w i) hl hl' fun x y hx hy h1 h2=>?_
  simp only [Jz];rw [(dm y hx).1,(dm y hx).2,(dm (y+t) hx).1,(dm (y+t) hx).2,hb,he x y hx hy h1 h2]
 have l1:(st1 b0 b1 b2 b3 w W P).length=W*H:=by unfold st1;rw [List.length_map,List.length_range,hl]
 have l1':(st1 c0 c1 c2 c3 w W P').length=W*H':=by unfold st1;rw [List.length_map,List.length_range,hl']
 have e2:F5 0 W H' t (lo+2) (hi-2) (st2 b0 b1 b2 b3 w sp W H P) (st2 c0 c1 c2 c3 w sp' W H' P'):=by
  refine Fw (sub 2 (by omega)) (f:=fun P i=>qR W H sp P i) (f':=fun P i=>qR W H' sp' P i) l1 l1' fun x y hx hy h1 h2=>?_
  show qR W H' sp' _ _=qR W H sp _ _;rw [aAA hx,aAA hx];exact aCi hR hs e1 hx hy h1 (by omega)
 have l2:(st2 b0 b1 b2 b3 w sp W H P).length=W*H:=by unfold st2;rw [List.length_map,List.length_range,l1]
 have l2':(st2 c0 c1 c2 c3 w sp' W H' P').length=W*H':=by unfold st2;rw [List.length_map,List.length_range,l1']
 have e3:F5 0 W H' t (lo+2) (hi-2) (Y6 ph b0 b1 b2 b3 w sp g0 g1 g2 W H P) (Y6 Qd c0 c1 c2 c3 w sp' g0 g1 g2 W H' P'):=by
  refine Fw (sub 2 (by omega)) (f:=fun P i=>UT W P ph g0 g1 g2 i) (f':=fun P i=>UT W P Qd g0 g1 g2 i) l2 l2' fun x y hx hy h1 h2=>?_
  simp only [UT];rw [(dm y hx).1,(dm y hx).2,(dm (y+t) hx).1,(dm (y+t) hx).2,hc,Int.natCast_add,e2 x y hx hy h1 h2]
 have e4:F5 E7 W H' t (lo+3) (hi-3) (Yd ph b0 b1 b2 b3 w sp g0 g1 g2 W H P) (Yd Qd c0 c1 c2 c3 w sp' g0 g1 g2 W H' P'):=by
  unfold Yd;exact OM (sub 3 (by omega)) fun x y hx hy h1 h2=>aCj (sub 2 (by omega)) hc e3 hx hy (by omega) (by omega)
 have l4:(Yd ph b0 b1 b2 b3 w sp g0 g1 g2 W H P).length=W*H:=AT _ _ _;have l4':(Yd Qd c0 c1 c2 c3 w sp' g0 g1 g2 W H' P').length=W*H':=AT _ _ _
 have e5:F5 E7 W H' t (lo+3) (hi-3) (V9 ph b0 b1 b2 b3 w sp g0 g1 g2 m0 m1 m2 m3 m4 m5 m6 m7 m8 W H P) (V9 Qd c0 c1 c2 c3 w sp' g0 g1 g2 m0 m1 m2 m3 m4 m5 m6 m7 m8 W H' P'):=by
  refine Fw (sub 3 (by omega)) (f:=fun P i=>OG m0 m1 m2 m3 m4 m5 m6 m7 m8 (P.getD i E7)) (f':=fun P i=>OG m0 m1 m2 m3 m4 m5 m6 m7 m8 (P.getD i E7)) l4 l4' fun x y hx hy h1 h2=>?_
  rw [e4 x y hx hy h1 h2]
 have l5:(V9 ph b0 b1 b2 b3 w sp g0 g1 g2 m0 m1 m2 m3 m4 m5 m6 m7 m8 W H P).length=W*H:=by unfold V9;rw [List.length_map,List.length_range,l4]
 have l5':(V9 Qd c0 c1 c2 c3 w sp' g0 g1 g2 m0 m1 m2 m3 m4 m5 m6 m7 m8 W H' P').length=W*H':=by unfold V9;rw [List.length_map,List.length_range,l4']
 have e6:F5 E7 W H' t (lo+3) (hi-3) (st6 ph b0 b1 b2 b3 w sp g0 g1 g2 m0 m1 m2 m3 m4 m5 m6 m7 m8 cv W H P) (st6 Qd c0 c1 c2 c3 w sp' g0 g1 g2 m0 m1 m2 m3 m4 m5 m6 m7 m8 cv W H' P'):=by
  refine Fw (sub 3 (by omega)) (f:=fun P i=>Jc cv (P.getD i E7)) (f':=fun P i=>Jc cv (P.getD i E7)) l5 l5' fun x y hx hy h1 h2=>?_
  rw [e5 x y hx hy h1 h2]
 unfold OL;exact OM (sub 4 (by omega)) fun x y hx hy h1 h2=>Za (sub 3 (by omega)) am e6 hx hy (by omega) (by omega)
end
def ON (t r:Int) (l:List (Int × Int)):List (Int × Int):=(l.filter fun s=>decide (t≤s.2∧s.2<t+r)).map fun s=>(s.1,s.2-t)
def TR (t ph:Int):Int:=if t%2=1 then MP .i64 ph 2 else ph
def Gf (t a b:Int):Int:=if t%2=1 then b else a
theorem Ss (t r:Int):ON t r []=[]:=rfl
theorem Kt (t r:Int) (s:Int × Int) (l:List (Int × Int)):ON t r (s::l)=if t≤s.2∧s.2<t+r then (s.1,s.2-t)::ON t r l else ON t r l:=by
 unfold ON;rw [List.filter_cons]
 by_cases h:t≤s.2∧s.2<t+r
 ·rw [if_pos (by simp [h]),if_pos h];rfl
 ·rw [if_neg (by simp only [decide_eq_true_eq];exact h),if_neg h]
theorem OO (s:Int × Int) (l:List (Int × Int)) (u v:Int):cntF (s::l) u v=cntF l u v+if s=(u,v) then 1 else 0:=by
 unfold cntF;rw [List.count_cons]
 by_cases h:s=(u,v)
 ·rw [if_pos h,if_pos (by simp [h])];omega
 ·rw [if_neg h,if_neg (by simpa using h)];omega
theorem Su (t r u:Int) {v:Int} (h0:0≤v) (h1:v<r):∀l:List (Int × Int),cntF (ON t r l) u v=cntF l u (v+t)
 | []=>rfl
 | s::l=>by
  have ih:=Su t r u h0 h1 l;rw [Kt,OO];obtain ⟨a,b⟩:=s
  by_cases h:t≤b∧b<t+r
  ·rw [if_pos h,OO,ih]
   congr 1
   by_cases e:a=u∧b=v+t
   ·rw [if_pos (by rw [Prod.mk.injEq];omega),if_pos (by rw [Prod.mk.injEq];omega)]
   ·rw [if_neg (by rw [Prod.mk.injEq];omega),if_neg (by rw [Prod.mk.injEq];omega)]
  ·rw [if_neg h,ih,if_neg (by rw [Prod.mk.injEq];omega)];omega
theorem Zc (t r:Int) (l:List (Int × Int)):(ON t r l).length≤l.length:=by
 unfold ON;rw [List.length_map];exact List.length_filter_le _ _
theorem Sv {t r W H W':Int} {l:List (Int × Int)} (h:l.all (gZ W H)=true) (hW:W≤W'):(ON t r l).all (gZ W' r)=true:=by
 refine List.all_eq_true.2 fun q hq=>?_
 obtain ⟨s,hs,rfl⟩:=List.mem_map.1 hq;obtain ⟨hs,hr⟩:=List.mem_filter.1 hs;have:=List.all_eq_true.1 h s hs;simp only [gZ,Bool.and_eq_true,decide_eq_true_eq] at this hr ⊢
 omega
theorem Zd {W H W' H':Int} {l:List (Int × Int)} (h:l.all (gZ W H)=true) (hW:W≤W') (hH:H≤H'):l.all (gZ W' H')=true:=by
 refine List.all_eq_true.2 fun q hq=>?_
 have:=List.all_eq_true.1 h q hq;simp only [gZ,Bool.and_eq_true,decide_eq_true_eq] at this ⊢
 omega
theorem Ze:∀p:Fin 4,MP .i64 ((p.val:Nat):Int) 2=((p.val:Nat):Int)+(if p.val<2 then 2 else -2):=by decide +kernel
theorem Sw {ph:Int} (h:0≤ph∧ph≤3):MP .i64 ph 2=if ph<2 then ph+2 else ph-2:=by
 have:=Ze ⟨ph.toNat,by omega⟩;have e:((ph.toNat:Nat):Int)=ph:=by omega
 simp only [e] at this;rw [this]
 split <;> split <;> omega
theorem aCk {t ph:Int} (h:0≤ph∧ph≤3):0≤TR t ph∧TR t ph≤3:=by
 unfold TR
 split
 ·rw [Sw h];split <;> omega
 ·exact h
theorem Zf {t ph:Int} (h:0≤ph∧ph≤3) (u v:Int):u6 (TR t ph) u v=u6 ph u (v+t):=by
 unfold TR u6
 split
 ·rw [Sw h]
  split
  ·have:ph=0∨ph=1:=by omega
   rcases this with rfl | rfl <;> omega
  ·have:ph=2∨ph=3:=by omega
   rcases this with rfl | rfl <;> omega
 ·omega
theorem Zg (t:Nat) (b0 b1 b2 b3:Int) (x y:Nat):Hj (Gf t b0 b2) (Gf t b1 b3) (Gf t b2 b0) (Gf t b3 b1) x y=Hj b0 b1 b2 b3 x (y+t):=by
 unfold Gf Hj
 by_cases h:(t:Int)%2=1
 ·rw [if_pos h,if_pos h,if_pos h,if_pos h]
  by_cases hy:y%2=0
  ·have hz:¬(y+t)%2=0:=by omega
   rw [if_pos hy,if_neg hz]
  ·have hz:(y+t)%2=0:=by omega
   rw [if_neg hy,if_pos hz]
 ·rw [if_neg h,if_neg h,if_neg h,if_neg h]
  by_cases hy:y%2=0
  ·have hz:(y+t)%2=0:=by omega
   rw [if_pos hy,if_pos hz]
  ·have hz:¬(y+t)%2=0:=by omega
   rw [if_neg hy,if_neg hz]
section
variable {ph b0 b1 b2 b3 w:Int} {sp:List (Int × Int)} {g0 g1 g2 m0 m1 m2 m3 m4 m5 m6 m7 m8:Int} {am:Int}
theorem Wi (h:GK ph b0 b1 b2 b3 w sp g0 g1 g2 m0 m1 m2 m3 m4 m5 m6 m7 m8 am):wR ph b0 b1 b2 b3 w sp g0 g1 g2 m0 m1 m2 m3 m4 m5 m6 m7 m8 am=true:=by
 obtain ⟨a,b,⟨c0,c1,c2,c3⟩,d,e,⟨f0,f1,f2⟩,g,i⟩:=h;unfold wR IR;simp only [List.all_cons,List.all_nil,Bool.and_true,Bool.and_eq_true,decide_eq_true_eq];exact ⟨a,b,⟨⟨c0.1,by omega⟩,⟨c1.1,by omega⟩,⟨c2.1,by omega⟩,⟨c3.1,by omega⟩⟩,d,e,⟨f0,f1,f2⟩,g,i⟩
theorem TS (h:GK ph b0 b1 b2 b3 w sp g0 g1 g2 m0 m1 m2 m3 m4 m5 m6 m7 m8 am) (t:Int) {r:Int} (hr:r≤64):GK (TR t ph) (Gf t b0 b2) (Gf t b1 b3) (Gf t b2 b0) (Gf t b3 b1) w (ON t r sp) g0 g1 g2 m0 m1 m2 m3 m4 m5 m6 m7 m8 am:=by
 obtain ⟨a,b,⟨c0,c1,c2,c3⟩,d,e,f,g,i⟩:=h;refine ⟨aCk a,b,?_,by have:=Zc t r sp;omega,Zd (Sv (r:=r) e (Int.le_refl _)) (Int.le_refl _) hr,f,g,i⟩;unfold Gf Si
 split
 ·exact ⟨c2,c3,c0,c1⟩
 ·exact ⟨c0,c1,c2,c3⟩
end
theorem Fx {α:Type} {Q:List α} {W H a b:Nat} (hl:Q.length=W*H) (hb:b≤H):((Q.take (b*W)).drop (a*W)).length=(b-a)*W:=by
 have:=Nat.mul_le_mul_right W hb;rw [List.length_drop,List.length_take,hl,Nat.mul_comm W H,Nat.min_eq_left this,Nat.sub_mul]
theorem Ku {α:Type} {Q:List α} {W H a b:Nat} (z:α) (hl:Q.length=W*H) (hb:b≤H) {i:Nat} (hi:i<(b-a)*W):((Q.take (b*W)).drop (a*W))[i]? = some (Q.getD ((a+i/W)*W+i%W) z):=by
 have h1:=Nat.mul_le_mul_right W hb;have e:(a+i/W)*W+i%W=a*W+i:=by rw [Nat.add_mul,Nat.add_assoc,Nat.div_add_mod' i W]
 rw [Nat.sub_mul] at hi;rw [List.getElem?_drop,List.getElem?_take_of_lt (by omega),e,List.getD_eq_getElem?_getD,List.getElem?_eq_getElem (by rw [hl,Nat.mul_comm W H];omega)]
 rfl
theorem Zh {α:Type} {z:α} {W H H' t a b:Nat} {lo hi:Int} {Q Q':List α} (he:F5 z W H' t lo hi Q Q') (hl:Q.length=W*H) (hl':Q'.length=W*H') (hb:b≤H') (hb':b+t≤H) (h1:lo≤a) (h2:(b:Int)≤hi) :
  (Q'.take (b*W)).drop (a*W)=(Q.take ((b+t)*W)).drop ((a+t)*W):=by
 apply List.ext_getElem?
 intro i
 by_cases hi:i<(b-a)*W
 ·have hW:0<W:=by
   rcases Nat.eq_zero_or_pos W with h0 | h0
   ·subst h0;simp at hi
   ·exact h0
  have hd:i/W<b-a:=Nat.div_lt_of_lt_mul (by rw [Nat.mul_comm];exact hi);rw [Ku z hl' hb hi,Ku z hl hb' (by rw [show b+t-(a+t)=b-a by omega];exact hi)]
  generalize i/W=q at hd ⊢
  rw [he _ _ (Nat.mod_lt i hW) (by omega) (by omega) (by omega),show a+q+t=a+t+q by omega]
 ·rw [List.getElem?_eq_none (by rw [Fx hl' hb];omega),List.getElem?_eq_none (by rw [Fx hl hb',show b+t-(a+t)=b-a by omega];omega)]
theorem Wj {α:Type} (Q:List α) {W a b:Nat} (h:a≤b):Q.take (a*W)++(Q.take (b*W)).drop (a*W)=Q.take (b*W):=by
 have h1:=Nat.mul_le_mul_right W h;have:=List.take_append_drop (a*W) (Q.take (b*W));rw [List.take_take,Nat.min_eq_left h1] at this;exact this
theorem TT {z:Int} {W H a b:Nat} {P:List Int} (lo hi:Int) (hl:P.length=W*H) (hb:b≤H):F5 z W (b-a) a lo hi P ((P.take (b*W)).drop (a*W)):=fun x y hx hy _ _=>by
 have hp:=mG hx hy;rw [Nat.mul_comm W] at hp;rw [List.getD_eq_getElem?_getD,Ku z hl hb hp,(dm y hx).1,(dm y hx).2,Nat.add_comm a y];rfl
theorem Zi {sp:List (Int × Int)} {t r:Int} (hsp:sp.all (gZ 64 64)=true) (hn:sp.length≤64) (ht:0≤t∧t≤64) (hr:0≤r∧r≤64) (kk):∀(d k fuel:Nat),k+d=sp.length→d<fuel→∀acc:List (Int × Int),acc.length≤k →
  oD 8589934592 sp t r kk fuel (acc,(k:Int))=kk (acc++ON t r (sp.drop k),(sp.length:Int)):=by
 intro d
 induction d with
 | zero=>
  intro k fuel hk hf acc ha;obtain ⟨fuel,rfl⟩:=oK fuel (by omega);obtain rfl:k=sp.length:=by omega
  unfold oD;rw [cF (dF (by omega)),List.drop_length,Ss,List.append_nil]
 | succ d ih=>
  intro k fuel hk hf acc ha;obtain ⟨fuel,rfl⟩:=oK fuel (by omega);have hlt:k<sp.length:=by omega
  have hs:=List.all_eq_true.1 hsp sp[k] (List.getElem_mem hlt);simp only [gZ,Bool.and_eq_true,decide_eq_true_eq] at hs;have e:IntKind.i64.wrap ((k:Int)+1)=((k+1:Nat):Int):=gF (by omega);unfold oD;rw [cT (dT (by omega)),eC,List.getElem?_eq_getElem hlt,aC,List.drop_eq_getElem_cons hlt,Kt,gF (x:=t+r) (by omega),gF (x:=sp[k].2-t) (by omega),e]
  by_cases h1:t≤sp[k].2
  ·rw [cT (dT h1)]
   by_cases h2:sp[k].2<t+r
   ·rw [cT (dT h2),if_pos ⟨h1,h2⟩,oS (by simp;omega),aC,ih (k+1) fuel (by omega) (by omega) _ (by simp;omega),List.append_assoc];rfl
   ·rw [cF (dF h2),if_neg (fun h=>h2 h.2),ih (k+1) fuel (by omega) (by omega) _ (by omega)]
  ·rw [cF (dF h1),if_neg (fun h=>h1 h.1),ih (k+1) fuel (by omega) (by omega) _ (by omega)]
theorem Zj {sp:List (Int × Int)} {t r:Int} (hsp:sp.all (gZ 64 64)=true) (hn:sp.length≤64) (ht:0≤t∧t≤64) (hr:0≤r∧r≤64) (kk):∀(d k fuel:Nat),k+d=sp.length→d<fuel→∀acc:List (Int × Int),acc.length≤k →
  oE 8589934592 sp t r kk fuel (acc,(k:Int))=kk (acc++ON t r (sp.drop k),(sp.length:Int)):=by
 intro d
 induction d with
 | zero=>
  intro k fuel hk hf acc ha;obtain ⟨fuel,rfl⟩:=oK fuel (by omega);obtain rfl:k=sp.length:=by omega
  unfold oE;rw [cF (dF (by omega)),List.drop_length,Ss,List.append_nil]
 | succ d ih=>
  intro k fuel hk hf acc ha;obtain ⟨fuel,rfl⟩:=oK fuel (by omega);have hlt:k<sp.length:=by omega
  have hs:=List.all_eq_true.1 hsp sp[k] (List.getElem_mem hlt);simp only [gZ,Bool.and_eq_true,decide_eq_true_eq] at hs;have e:IntKind.i64.wrap ((k:Int)+1)=((k+1:Nat):Int):=gF (by omega);unfold oE;rw [cT (dT (by omega)),eC,List.getElem?_eq_getElem hlt,aC,List.drop_eq_getElem_cons hlt,Kt,gF (x:=t+r) (by omega),gF (x:=sp[k].2-t) (by omega),e]
  by_cases h1:t≤sp[k].2
  ·rw [cT (dT h1)]
   by_cases h2:sp[k].2<t+r
   ·rw [cT (dT h2),if_pos ⟨h1,h2⟩,oS (by simp;omega),aC,ih (k+1) fuel (by omega) (by omega) _ (by simp;omega),List.append_assoc];rfl
   ·rw [cF (dF h2),if_neg (fun h=>h2 h.2),ih (k+1) fuel (by omega) (by omega) _ (by omega)]
  ·rw [cF (dF h1),if_neg (fun h=>h1 h.1),ih (k+1) fuel (by omega) (by omega) _ (by omega)]
theorem Wk (ph b0 b1 b2 b3 w:Int) (sp:List (Int × Int)) (g0 g1 g2 m0 m1 m2 m3 m4 m5 m6 m7 m8:Int) (cv:List (Int × Int)) (am:Int) {t r:Int} (hsp:sp.all (gZ 64 64)=true) (hn:sp.length≤64) (ht:0≤t∧t≤64) (hr:0≤r∧r≤64):Bd 8589934592 ph b0 b1 b2 b3 w sp g0 g1 g2 m0 m1 m2 m3 m4 m5 m6 m7 m8 cv am t r=some (TR t ph,Gf t b0 b2,Gf t b1 b3,Gf t b2 b0,Gf t b3 b1,w,ON t r sp,g0,g1,g2,m0,m1,m2,m3,m4,m5,m6,m7,m8,cv,am):=by
 have tm:Int.tmod t 2=t%2:=Int.tmod_eq_emod_of_nonneg ht.1;unfold Bd;rw [tm]
 by_cases h:t%2=1
 ·have:=Zi hsp hn ht hr (fun x:List (Int × Int) × Int=>some (MP .i64 ph 2,b2,b3,b0,b1,w,x.1,g0,g1,g2,m0,m1,m2,m3,m4,m5,m6,m7,m8,cv,am)) sp.length 0 8589934592 (by omega) (by omega) [] (by simp);rw [cT (dT h)];refine Eq.trans this ?_;rw [List.drop_zero,List.nil_append];unfold TR Gf;rw [if_pos h,if_pos h,if_pos h,if_pos h,if_pos h]
 ·have:=Zj hsp hn ht hr (fun x:List (Int × Int) × Int=>some (ph,b0,b1,b2,b3,w,x.1,g0,g1,g2,m0,m1,m2,m3,m4,m5,m6,m7,m8,cv,am)) sp.length 0 8589934592 (by omega) (by omega) [] (by simp);rw [cF (dF h)];refine Eq.trans this ?_;rw [List.drop_zero,List.nil_append];unfold TR Gf;rw [if_neg h,if_neg h,if_neg h,if_neg h,if_neg h]
theorem Zk (lo hi n:Int):lT 8589934592 lo hi [n]=some (decide (lo≤n∧n≤hi)):=by
 rw [Ev _ _ _ (by simp)];simp only [List.all_cons,List.all_nil,Bool.and_true]
 rfl
theorem Wl {W H:Int} {P:List Int} (hl:P.length≤9223372036854775807):∃r,fY 8589934592 W H P []=some r∧r.2.2.2=if dJ W H P=false then 1 else 0:=by
 unfold fY;rw [if_neg (by omega)];cases dJ W H P
 ·exact ⟨_,rfl,rfl⟩
 ·exact ⟨_,rfl,rfl⟩
def IT (sp:List (Int × Int)) (W H t h a b:Int):Prop:=(1≤h∧h≤64)∧(0≤t∧t≤h-H)∧(0≤a∧a≤h-1)∧(a+1≤b∧b≤h)∧¬(max (a-4) 0<t)∧¬(t+H<min (b+4) h)∧sp.all (gZ W h)=true
instance (sp:List (Int × Int)) (W H t h a b:Int):Decidable (IT sp W H t h a b):=by unfold IT;infer_instance
section
variable (ph b0 b1 b2 b3 w:Int) (sp:List (Int × Int)) (g0 g1 g2 m0 m1 m2 m3 m4 m5 m6 m7 m8:Int) (cv:List (Int × Int)) (am:Int)
def Zl (f:Bool) (W H:Int) (P:List Int) (t h a b:Int):Int:=if wR ph b0 b1 b2 b3 w sp g0 g1 g2 m0 m1 m2 m3 m4 m5 m6 m7 m8 am=false then 3 else if f=false then 1 else if dJ W H P=false then 1 else if IT sp W H t h a b then 0 else 3
def OP (W H:Nat) (P:List Int) (t a b:Nat):List Px:=((OL (TR t ph) (Gf t b0 b2) (Gf t b1 b3) (Gf t b2 b0) (Gf t b3 b1) w (ON t H sp) g0 g1 g2 m0 m1 m2 m3 m4 m5 m6 m7 m8 cv am W H P).take ((b-t)*W)).drop ((a-t)*W)
theorem Wm {l:List Px} (h0:0<l.length) (h1:l.length≤4096):gN 8589934592 l=some l:=by
 unfold gN
 have:mY l=some ():=by cases l with
  | nil=>simp at h0
  | cons x l=>rfl
 first
  | rw [this,aC,oS (by rw [List.length_nil];omega),aC,List.nil_append]
  | rw [oS (by rw [List.length_nil];omega),aC,List.nil_append]
theorem Zm (hb:gW 8589934592 cv=some true) (hc:nE cv) {W H:Nat} {P:List Int} {t h a b:Nat} (he:Zl ph b0 b1 b2 b3 w sp g0 g1 g2 m0 m1 m2 m3 m4 m5 m6 m7 m8 am true W H P t h a b=0):Be 8589934592 ph b0 b1 b2 b3 w sp g0 g1 g2 m0 m1 m2 m3 m4 m5 m6 m7 m8 cv am W H P t h a b=some ((W:Int),((b-a:Nat):Int),OP ph b0 b1 b2 b3 w sp g0 g1 g2 m0 m1 m2 m3 m4 m5 m6 m7 m8 cv am W H P t a b,0):=by
 have hc':(true=true)↔nE cv:=iff_of_true rfl hc;unfold Zl at he;cases hB:wR ph b0 b1 b2 b3 w sp g0 g1 g2 m0 m1 m2 m3 m4 m5 m6 m7 m8 am
 ·rw [hB] at he;simp at he
 cases hf:dJ W H P
 ·rw [hB,hf] at he;simp at he
 have hk:IT sp W H t h a b:=by
  refine Decidable.byContradiction fun q=>?_
  rw [hB,hf,if_neg q] at he;simp at he
 have hp:=Hn ph b0 b1 b2 b3 w sp g0 g1 g2 m0 m1 m2 m3 m4 m5 m6 m7 m8 am hB;obtain ⟨w',h',ew,eh,w1,w2,w3,w4,hlen,hm,hall⟩:=Cr hf;obtain rfl:w'=W:=by omega
 obtain rfl:h'=H:=by omega
 obtain ⟨c1,c2,c3,c4,c5,c6,c7⟩:=hk;have hn:=hp.Ks;have hs:1≤w'∧w'≤64∧1≤h'∧h'≤64:=⟨w1,w2,w3,w4⟩
 have hP:=Hi hlen hall;obtain ⟨r3,hr3,aDA⟩:=Wl (W:=w') (H:=h') (P:=P) (by omega);rw [hf] at aDA;have hp':GK (TR t ph) (Gf t b0 b2) (Gf t b1 b3) (Gf t b2 b0) (Gf t b3 b1) w (ON t h' sp) g0 g1 g2 m0 m1 m2 m3 m4 m5 m6 m7 m8 am:=TS hp t (by omega);have hw:=Wd hp' hs hlen hP hc (Sv c7 (Int.le_refl _)) hf hb (Wi hp')
 have e1:IntKind.i64.wrap (IntKind.i64.wrap ((a:Int)-t)*(w':Int))=(((a-t)*w':Nat):Int):=by
  have hta:t≤a:=by omega
  have hm2:(a-t)*w'≤64*64:=Nat.mul_le_mul (by omega) w2;rw [gF (x:=(a:Int)-t) (by omega),show (a:Int)-t=((a-t:Nat):Int) by omega,←Int.natCast_mul,gF (by omega)]
 have e2:IntKind.i64.wrap (IntKind.i64.wrap ((b:Int)-t)*(w':Int))=(((b-t)*w':Nat):Int):=by
  have hta:t≤b:=by omega
  have hm2:(b-t)*w'≤64*64:=Nat.mul_le_mul (by omega) w2;rw [gF (x:=(b:Int)-t) (by omega),show (b:Int)-t=((b-t:Nat):Int) by omega,←Int.natCast_mul,gF (by omega)]
 have hl7:(OL (TR t ph) (Gf t b0 b2) (Gf t b1 b3) (Gf t b2 b0) (Gf t b3 b1) w (ON t h' sp) g0 g1 g2 m0 m1 m2 m3 m4 m5 m6 m7 m8 cv am w' h' P).length=w'*h':=AT _ _ _;have hbt:b-t≤h':=by omega
 have hle:(a-t)*w'≤(b-t)*w':=Nat.mul_le_mul_right _ (by omega);have hle2:(b-t)*w'≤w'*h':=by rw [Nat.mul_comm w'];exact Nat.mul_le_mul_right _ hbt
 have hlv:(OP ph b0 b1 b2 b3 w sp g0 g1 g2 m0 m1 m2 m3 m4 m5 m6 m7 m8 cv am w' h' P t a b).length=(b-t-(a-t))*w':=Fx hl7 hbt;have hpos:0<(b-t-(a-t))*w':=Nat.mul_pos (by omega) (by omega);have hmax:(b-t-(a-t))*w'≤64*64:=Nat.mul_le_mul (by omega) w2;unfold Be;rw [Hm ph b0 b1 b2 b3 w sp g0 g1 g2 m0 m1 m2 m3 m4 m5 m6 m7 m8 cv am hb hc',hB,if_neg (by simp),if_neg (by simp),aC,cF (by rfl),hr3,aC,aDA,if_neg (by simp),cF (by rfl)];rw [Zk,aC,cF (by rw [dT c1];rfl),gF (x:=(h:Int)-h') (by omega),Zk,aC,cF (by rw [dT c2];rfl),gF (x:=(h:Int)-1) (by omega),Zk,aC,cF (by rw [dT c3];rfl),gF (x:=(a:Int)+1) (by omega),Zk,aC,cF (by rw [dT c4];rfl)];rw [gF (x:=(a:Int)-4) (by omega),cF (dF c5),gF (x:=(t:Int)+h') (by omega),gF (x:=(b:Int)+4) (by omega),cF (dF c6),Mm sp (by omega) (by omega) (by omega),aC,c7,cF (by rfl)];rw [Wk ph b0 b1 b2 b3 w sp g0 g1 g2 m0 m1 m2 m3 m4 m5 m6 m7 m8 cv am hp.spots hp.Ks (by omega) (by omega),aC]
 dsimp only
 rw [hw,aC,cF (by rfl)]
 dsimp only
 rw [e1,e2,BG (by rw [hl7];omega),aC,Int.toNat_natCast,Int.toNat_natCast];rw [show ((OL (TR t ph) (Gf t b0 b2) (Gf t b1 b3) (Gf t b2 b0) (Gf t b3 b1) w (ON t h' sp) g0 g1 g2 m0 m1 m2 m3 m4 m5 m6 m7 m8 cv am w' h' P).take ((b-t)*w')).drop ((a-t)*w')=OP ph b0 b1 b2 b3 w sp g0 g1 g2 m0 m1 m2 m3 m4 m5 m6 m7 m8 cv am w' h' P t a b from rfl,Wm (by rw [hlv];exact hpos) (by rw [hlv];omega),aC,gF (by omega),show (b:Int)-a=((b-a:Nat):Int) by omega]
theorem Wn (hp:GK ph b0 b1 b2 b3 w sp g0 g1 g2 m0 m1 m2 m3 m4 m5 m6 m7 m8 am) {W H G:Nat} {P A:List Int} {t a b:Nat} (hl:P.length=W*H) (hA:A.length=W*G) (hk:IT sp W H t G a b) (he:∀lo hi:Int,F5 0 W H t lo hi A P) :
  OP ph b0 b1 b2 b3 w sp g0 g1 g2 m0 m1 m2 m3 m4 m5 m6 m7 m8 cv am W H P t a b=((OL ph b0 b1 b2 b3 w sp g0 g1 g2 m0 m1 m2 m3 m4 m5 m6 m7 m8 cv am W G A).take (b*W)).drop (a*W):=by
 obtain ⟨c1,c2,c3,c4,c5,c6,c7⟩:=hk
 have key:=Zb (W:=W) (H:=G) (H':=H) (t:=t) (lo:=(a:Int)-t-4) (hi:=(b:Int)-t+4) (ph:=ph) (b0:=b0) (b1:=b1) (b2:=b2) (b3:=b3) (w:=w) (sp:=sp) (g0:=g0) (g1:=g1) (g2:=g2) (m0:=m0) (m1:=m1) (m2:=m2) (m3:=m3) (m4:=m4) (m5:=m5) (m6:=m6) (m7:=m7) (m8:=m8) (cv:=cv) (am:=am)
  (fun v h1 h2=>by unfold RR;omega) (Zg t b0 b1 b2 b3) (Zf hp.phase) (fun u v h0 h1=>Su t H u h0 h1 sp) hA hl (he _ _)
 have:=Zh (a:=a-t) (b:=b-t) key (AT _ _ _) (AT _ _ _) (by omega) (by omega) (by omega) (by omega);unfold OP;rw [this,show b-t+t=b by omega,show a-t+t=a by omega]
end
theorem TU {W H a b:Nat} {P:List Int} (hf:dJ W H P=true) (hl:P.length=W*H) (hab:a<b) (hb:b≤H):dJ W ((b-a:Nat):Int) ((P.take (b*W)).drop (a*W))=true:=by
 obtain ⟨⟨f1,f2,f3,f4⟩,f5,f6⟩:=pD.1 hf;refine pD.2 ⟨⟨by omega,by omega,by omega,by omega⟩,?_,List.all_eq_true.2 fun x hx=>?_⟩
 ·rw [Fx hl hb,Int.natCast_mul,Int.mul_comm]
 ·exact List.all_eq_true.1 f6 x (List.mem_of_mem_take (List.mem_of_mem_drop hx))
section
variable (ph b0 b1 b2 b3 w:Int) (sp:List (Int × Int)) (g0 g1 g2 m0 m1 m2 m3 m4 m5 m6 m7 m8:Int) (cv:List (Int × Int)) (am:Int)
theorem TV {f:Bool} {W H:Int} {P:List Int} (h:QY ph b0 b1 b2 b3 w sp g0 g1 g2 m0 m1 m2 m3 m4 m5 m6 m7 m8 am f W H P=0):wR ph b0 b1 b2 b3 w sp g0 g1 g2 m0 m1 m2 m3 m4 m5 m6 m7 m8 am=true∧f=true∧dJ W H P=true∧sp.all (gZ W H)=true:=by
 unfold QY at h;cases hB:wR ph b0 b1 b2 b3 w sp g0 g1 g2 m0 m1 m2 m3 m4 m5 m6 m7 m8 am
 ·rw [hB] at h;simp at h
 cases f
 ·rw [hB] at h;simp at h
 cases hf:dJ W H P
 ·rw [hB,hf] at h;simp at h
 cases hs:sp.all (gZ W H)
 ·rw [hB,hf,hs] at h;simp at h
 exact ⟨rfl,rfl,rfl,rfl⟩
theorem TW (hb:gW 8589934592 cv=some true) (hc:nE cv) (hB:wR ph b0 b1 b2 b3 w sp g0 g1 g2 m0 m1 m2 m3 m4 m5 m6 m7 m8 am=true) {W H:Nat} {P:List Int} (hf:dJ W H P=true) (hsp:sp.all (gZ W H)=true) {rows:Int} (hr:1≤rows) (kk):∀(d k fuel:Nat),k+d=H→d<fuel →
  sG 8589934592 ph b0 b1 b2 b3 w sp g0 g1 g2 m0 m1 m2 m3 m4 m5 m6 m7 m8 cv am W H P rows kk fuel ((OL ph b0 b1 b2 b3 w sp g0 g1 g2 m0 m1 m2 m3 m4 m5 m6 m7 m8 cv am W H P).take (k*W),(k:Int))=kk ((OL ph b0 b1 b2 b3 w sp g0 g1 g2 m0 m1 m2 m3 m4 m5 m6 m7 m8 cv am W H P).take (H*W),(H:Int)):=by
 have hp:=Hn ph b0 b1 b2 b3 w sp g0 g1 g2 m0 m1 m2 m3 m4 m5 m6 m7 m8 am hB;obtain ⟨w',h',ew,eh,w1,w2,w3,w4,hlen,hm,hall⟩:=Cr hf;obtain rfl:w'=W:=by omega
 obtain rfl:h'=H:=by omega
 have hl7:(OL ph b0 b1 b2 b3 w sp g0 g1 g2 m0 m1 m2 m3 m4 m5 m6 m7 m8 cv am w' h' P).length=w'*h':=AT _ _ _;intro d
 induction d using Nat.strongRecOn with
 | ind d ih=>
  intro k fuel hk hfu;obtain ⟨fuel,rfl⟩:=oK fuel (by omega);unfold sG
  by_cases hd:d=0
  ·obtain rfl:k=h':=by omega
   rw [cF (dF (by omega))]
  obtain ⟨s,hs,hs1,hs2⟩:∃s:Nat,min rows ((h':Int)-k)=s∧1≤s∧s≤d:=⟨(min rows ((h':Int)-k)).toNat,by omega,by omega,by omega⟩
  have e1:IntKind.i64.wrap ((k:Int)+min rows (IntKind.i64.wrap ((h':Int)-k)))=((k+s:Nat):Int):=by
   rw [gF (x:=(h':Int)-k) (by omega),hs,gF (by omega)];omega
  have e2:max (IntKind.i64.wrap ((k:Int)-4)) 0=((k-4:Nat):Int):=by rw [gF (by omega)];omega
  have e3:min (IntKind.i64.wrap (((k+s:Nat):Int)+4)) (h':Int)=((min (k+s+4) h':Nat):Int):=by rw [gF (by omega)];omega
  generalize he:min (k+s+4) h'=e at e3
  have he1:e≤h':=by omega
  have he2:k-4<e:=by omega
  have e4:IntKind.i64.wrap (((k-4:Nat):Int)*(w':Int))=(((k-4)*w':Nat):Int):=by
   have:(k-4)*w'≤64*64:=Nat.mul_le_mul (by omega) w2;rw [←Int.natCast_mul,gF (by omega)]
  have e5:IntKind.i64.wrap ((e:Int)*(w':Int))=((e*w':Nat):Int):=by
   have:e*w'≤64*64:=Nat.mul_le_mul (by omega) w2;rw [←Int.natCast_mul,gF (by omega)]
  have e6:IntKind.i64.wrap ((e:Int)-((k-4:Nat):Int))=((e-(k-4):Nat):Int):=by rw [gF (by omega)];omega
  have q1:(k-4)*w'≤e*w':=Nat.mul_le_mul_right _ (by omega);have q2:e*w'≤w'*h':=by rw [Nat.mul_comm w'];exact Nat.mul_le_mul_right _ he1
  have hk':IT sp w' ((e-(k-4):Nat):Int) ((k-4:Nat):Int) (h':Int) (k:Int) ((k+s:Nat):Int):=⟨by omega,by omega,by omega,by omega,by omega,by omega,hsp⟩
  have hfr:=TU hf hlen he2 he1
  have aFC:Zl ph b0 b1 b2 b3 w sp g0 g1 g2 m0 m1 m2 m3 m4 m5 m6 m7 m8 am true w' ((e-(k-4):Nat):Int) ((P.take (e*w')).drop ((k-4)*w')) ((k-4:Nat):Int) (h':Int) (k:Int) ((k+s:Nat):Int)=0:=by
   unfold Zl;rw [hB,hfr,if_pos hk'];rfl
  have hV:=Wn ph b0 b1 b2 b3 w sp g0 g1 g2 m0 m1 m2 m3 m4 m5 m6 m7 m8 cv am hp (G:=h') (A:=P) (t:=k-4) (a:=k) (b:=k+s) (Fx (W:=w') (H:=h') (a:=k-4) (b:=e) hlen he1 |>.trans (Nat.mul_comm _ _)) hlen hk' (fun lo hi=>TT lo hi hlen he1);have hpart:=Zm ph b0 b1 b2 b3 w sp g0 g1 g2 m0 m1 m2 m3 m4 m5 m6 m7 m8 cv am hb hc aFC;rw [hV] at hpart;rw [cT (dT (by omega)),e1,aC,e2,aC,e3,aC,e4,e5,BG (by omega),aC,Int.toNat_natCast,Int.toNat_natCast,e6,hpart,aC,cF (by rfl)]
  dsimp only
  have l1:((OL ph b0 b1 b2 b3 w sp g0 g1 g2 m0 m1 m2 m3 m4 m5 m6 m7 m8 cv am w' h' P).take (k*w')).length≤w'*h':=by rw [List.length_take,hl7];exact Nat.min_le_right _ _
  have l2:(((OL ph b0 b1 b2 b3 w sp g0 g1 g2 m0 m1 m2 m3 m4 m5 m6 m7 m8 cv am w' h' P).take ((k+s)*w')).drop (k*w')).length≤w'*h':=by rw [List.length_drop,List.length_take,hl7];omega
  rw [oS (by omega),aC,Wj _ (by omega)];exact ih (d-s) (by omega) (k+s) fuel (by omega) (by omega)
theorem TX {f:Bool} (hb:gW 8589934592 cv=some f) (hc:f=true↔nE cv) (W H:Int) (P:List Int) (hl:P.length≤9223372036854775807) (rows:Int):wO 8589934592 ph b0 b1 b2 b3 w sp g0 g1 g2 m0 m1 m2 m3 m4 m5 m6 m7 m8 cv am W H P rows=some (if QY ph b0 b1 b2 b3 w sp g0 g1 g2 m0 m1 m2 m3 m4 m5 m6 m7 m8 am f W H P=0 then (if rows<1 then (0,0,[],3) else (W,H,OL ph b0 b1 b2 b3 w sp g0 g1 g2 m0 m1 m2 m3 m4 m5 m6 m7 m8 cv am W.toNat H.toNat P,0)) else (0,0,[],QY ph b0 b1 b2 b3 w sp g0 g1 g2 m0 m1 m2 m3 m4 m5 m6 m7 m8 am f W H P)):=by
 unfold wO;rw [Hm ph b0 b1 b2 b3 w sp g0 g1 g2 m0 m1 m2 m3 m4 m5 m6 m7 m8 cv am hb hc,aC]
 by_cases he:QY ph b0 b1 b2 b3 w sp g0 g1 g2 m0 m1 m2 m3 m4 m5 m6 m7 m8 am f W H P=0
 ·obtain ⟨hB,rfl,hf,hsp⟩:=TV ph b0 b1 b2 b3 w sp g0 g1 g2 m0 m1 m2 m3 m4 m5 m6 m7 m8 am he;have hp:=Hn ph b0 b1 b2 b3 w sp g0 g1 g2 m0 m1 m2 m3 m4 m5 m6 m7 m8 am hB;obtain ⟨w',h',rfl,rfl,w1,w2,w3,w4,hlen,hm,hall⟩:=Cr hf
  have hrep:∃r,fY 8589934592 w' h' P sp=some r∧r.2.2.2=0:=by
   have:=hp.Ks;unfold fY;rw [if_neg (by omega),hf,if_neg (by simp),if_neg (by omega),hsp,if_neg (by simp)];exact ⟨_,rfl,rfl⟩
  obtain ⟨r,hr,hr'⟩:=hrep;rw [if_pos he,hB,if_neg (by simp),if_neg (by simp),cF (by rfl),hr,aC,hr',cF (by rfl)]
  by_cases h1:rows<1
  ·rw [cT (dT h1),if_pos h1]
  rw [cF (dF h1),if_neg h1,Int.toNat_natCast,Int.toNat_natCast];have:=TW ph b0 b1 b2 b3 w sp g0 g1 g2 m0 m1 m2 m3 m4 m5 m6 m7 m8 cv am hb (hc.1 rfl) hB hf hsp (rows:=rows) (by omega) (fun x:List Px × Int=>some ((w':Int),(h':Int),x.1,(0:Int))) h' 0 8589934592 (by omega) (by omega);rw [Nat.zero_mul,List.take_zero] at this;refine Eq.trans this ?_
  dsimp only
  rw [List.take_of_length_le];rw [Y9 ph b0 b1 b2 b3 w sp g0 g1 g2 m0 m1 m2 m3 m4 m5 m6 m7 m8 cv am,Nat.mul_comm];exact Nat.le_refl _
 ·rw [if_neg he];unfold QY at he ⊢;cases hB:wR ph b0 b1 b2 b3 w sp g0 g1 g2 m0 m1 m2 m3 m4 m5 m6 m7 m8 am
  ·rfl
  rw [hB] at he;simp only [Bool.true_eq_false,if_false] at he ⊢;cases f
  ·rfl
  have hn:=(Hn ph b0 b1 b2 b3 w sp g0 g1 g2 m0 m1 m2 m3 m4 m5 m6 m7 m8 am hB).Ks;simp only [Bool.true_eq_false,if_false] at he ⊢;unfold fY;rw [cF (by rfl),if_neg (by omega)];cases hf:dJ W H P
  ·rfl
  rw [hf] at he;simp only [Bool.true_eq_false,if_false] at he ⊢;rw [if_neg (by omega)];cases hs:sp.all (gZ W H)
  ·rfl
  ·rw [hs] at he;simp at he
end
def DP (W H x y w h:Int):Prop:=1≤w∧w≤W∧1≤h∧h≤H∧0≤x∧x≤W-w∧0≤y∧y≤H-h
instance (W H x y w h:Int):Decidable (DP W H x y w h):=by unfold DP;infer_instance
def rowsOf (W:Int) (P:List (Int × Int × Int)) (x y w:Int):Nat→List (Int × Int × Int)
 | 0=>[]
 | k+1=>rowsOf W P x y w k++(P.take ((y+k)*W+x+w).toNat).drop ((y+k)*W+x).toNat
theorem Wo {W H:Int} {n:Nat} {x y w h:Int} (hs:o7 W H n) (hr:DP W H x y w h) (k:Nat) (hk:(k:Int)<h):0≤(y+k)*W∧(y+k)*W+x+w≤n∧(y+k)*W≤4096:=by
 obtain ⟨h1,h2,h3,h4,h5⟩:=hs;obtain ⟨r1,r2,r3,r4,r5,r6,r7,r8⟩:=hr;have a:0≤(y+k)*W:=Int.mul_nonneg (by omega) (by omega);have b:(y+k+1)*W≤H*W:=Int.mul_le_mul_of_nonneg_right (by omega) (by omega);rw [Int.add_mul,Int.one_mul,Int.mul_comm H W] at b;have:=Nd ⟨h1,h2,h3,h4⟩
 omega
theorem Kv {W H:Int} {P:List (Int × Int × Int)} {x y w h:Int} (hs:o7 W H P.length) (hr:DP W H x y w h):∀k:Nat,(k:Int)≤h→((rowsOf W P x y w k).length:Int)=k*w
 | 0,_=>by simp [rowsOf]
 | k+1,hk=>by
  have hb:=Wo hs hr k (by omega);have ih:=Kv hs hr k (by omega);obtain ⟨r1,r2,r3,r4,r5,r6,r7,r8⟩:=hr;have e:((k+1:Nat):Int)*w=k*w+w:=by rw [Int.natCast_add,Int.add_mul];simp
  rw [rowsOf,List.length_append,List.length_drop,List.length_take,e]
  omega
theorem TY {W H:Int} {P:List (Int × Int × Int)} {x y w h:Int} (hs:o7 W H P.length) (hr:DP W H x y w h) (k:Nat) (hk:(k:Int)≤h):(rowsOf W P x y w k).length≤4096:=by
 have hl:=Kv hs hr k hk;obtain ⟨h1,h2,h3,h4,h5⟩:=hs;obtain ⟨r1,r2,r3,r4,r5,r6,r7,r8⟩:=hr;have:=Int.mul_le_mul (show (k:Int)≤64 by omega) (show w≤64 by omega) (by omega) (by omega)
 omega
theorem aCl (N:Nat) {W H:Int} {P:List (Int × Int × Int)} {x y w h:Int} (kk:(List (Int × Int × Int) × Int)→Option (Int × Int × List (Int × Int × Int) × Int)) (hs:o7 W H P.length) (hr:DP W H x y w h) :
  ∀(d k fuel:Nat),(k:Int)+d=h→d<fuel→tR N W P x y w h kk fuel (rowsOf W P x y w k,(k:Int))=kk (rowsOf W P x y w h.toNat,h):=by
 intro d
 induction d with
 | zero=>
  intro k fuel hk hf;obtain ⟨fuel,rfl⟩:=oK fuel (by omega);obtain rfl:h=(k:Int):=by omega
  unfold tR;rw [cF (dF (by omega)),Int.toNat_natCast]
 | succ d ih=>
  intro k fuel hk hf;obtain ⟨fuel,rfl⟩:=oK fuel (by omega);have hb:=Wo hs hr k (by omega);have hl:=TY hs hr k (by omega);have hP:=D7 hs;have hr':=hr;have hs':=hs;obtain ⟨r1,r2,r3,r4,r5,r6,r7,r8⟩:=hr';obtain ⟨s1,s2,s3,s4,s5⟩:=hs';unfold tR;rw [cT (dT (by omega)),aC,gF (x:=y+k) (by omega),gF (x:=(y+k)*W) (by omega),gF (x:=(y+k)*W+x) (by omega),gF (x:=(y+k)*W+x+w) (by omega),BG (by omega),aC];rw [oS (by rw [List.length_drop,List.length_take];omega),aC,gF (by omega)];exact ih (k+1) fuel (by omega) (by omega)
theorem aCm (N:Nat) (W H:Int) (P:List (Int × Int × Int)) (x y w h:Int) (hN:5000≤N) :
  xL N W H P x y w h=some (if rN W H P=false then (0,0,[],1) else if DP W H x y w h then (w,h,rowsOf W P x y w h.toNat,0) else (0,0,[],3)):=by
 unfold xL;obtain ⟨a,b,l,ht⟩:=vQ N W H P hN;rw [ht,aC];cases hp:rN W H P
 ·rfl
 have hs:=pM hp;have hs':=hs;obtain ⟨s1,s2,s3,s4,s5⟩:=hs';rw [cF (by simp),if_neg (by simp)]
 by_cases hr:DP W H x y w h
 ·have hr':=hr;obtain ⟨r1,r2,r3,r4,r5,r6,r7,r8⟩:=hr';rw [if_pos hr,gF (by omega),gF (by omega),cF (dF (by omega)),cF (dF (by omega)),cF (dF (by omega)),cF (dF (by omega)),cF (dF (by omega)),cF (dF (by omega)),cF (dF (by omega)),cF (dF (by omega))];exact aCl N _ hs hr h.toNat 0 N (by omega) (by omega)
 ·rw [if_neg hr];unfold DP at hr
  by_cases c1:w<1
  ·rw [cT (dT c1)]
  rw [cF (dF c1)]
  by_cases c2:h<1
  ·rw [cT (dT c2)]
  rw [cF (dF c2)]
  by_cases c3:W<w
  ·rw [cT (dT c3)]
  rw [cF (dF c3)]
  by_cases c4:H<h
  ·rw [cT (dT c4)]
  rw [cF (dF c4)]
  by_cases c5:x<0
  ·rw [cT (dT c5)]
  rw [cF (dF c5)]
  by_cases c6:y<0
  ·rw [cT (dT c6)]
  rw [cF (dF c6),gF (by omega),gF (by omega)]
  by_cases c7:W-w<x
  ·rw [cT (dT c7)]
  rw [cF (dF c7),cT (dT (by omega))]
section
variable (N:Nat) (W H:Nat) (P:List Px) (hs:o7 W H P.length)
include hs
theorem QZ (kk:List Px × Int→Option (Int × Int × List Px)):∀(d k fuel:Nat),k+d=W*H→d<fuel →
  mC N W H P kk fuel (GJ P (fun i=>i%W*H+i/W) (W*H) k,(k:Int))=kk (GJ P (fun i=>i%W*H+i/W) (W*H) (W*H),((W*H:Nat):Int)):=by
 obtain ⟨h1,h2,h3,h4,h5,h6⟩:=qV W H P hs;intro d
 induction d with
 | zero=>
  intro k fuel hk hf;obtain ⟨fuel,rfl⟩:=oK fuel (by omega);obtain rfl:k=W*H:=by omega
  unfold mC;rw [cF (dF (by omega))]
 | succ d ih=>
  intro k fuel hk hf;obtain ⟨fuel,rfl⟩:=oK fuel (by omega);have hk':k<W*H:=by omega
  obtain ⟨e1,e2⟩:=Yb k (show 0<W by omega);obtain ⟨l1,l2,_⟩:=gX hk';obtain ⟨rr,hrr⟩:∃rr,k%W=rr:=⟨_,rfl⟩
  obtain ⟨qq,hqq⟩:∃qq,k/W=qq:=⟨_,rfl⟩
  rw [hrr] at e1 l1;rw [hqq] at e2 l2;have hp:=mG l2 l1;rw [Nat.mul_comm H W] at hp;have hpx:P[k]? = some (P.getD k E7):=by rw [List.getD_eq_getElem?_getD,List.getElem?_eq_getElem (by omega)];rfl
  have c1:((rr:Nat):Int)*(H:Int)=((rr*H:Nat):Int):=by rw [Int.natCast_mul]
  have hlen:=C9 P (fun i=>i%W*H+i/W) (W*H) k;unfold mC;rw [cT (dT (by omega)),eC,hpx,aC,BQ (by omega),aC,aC,e1,e2,c1];rw [gF (x:=((rr*H:Nat):Int)) (by omega),gF (x:=((qq:Nat):Int)) (by omega),gF (x:=((rr*H:Nat):Int)+((qq:Nat):Int)) (by omega)];rw [show ((rr*H:Nat):Int)+((qq:Nat):Int)=((rr*H+qq:Nat):Int) by omega];rw [eC,List.getElem?_eq_getElem (by rw [hlen];exact hp),aC,Cc (by omega),aC,gF (by omega),Int.toNat_natCast];subst hrr hqq;exact ih (k+1) fuel (by omega) (by omega)
theorem Q5 (hN:5000≤N):pV N W H P=some ((H:Int),(W:Int),E8 H W fun x y=>IM P W y x):=by
 obtain ⟨h1,h2,h3,h4,h5,h6⟩:=qV W H P hs;unfold pV;rw [aC,mk_eq (by omega),aC,h5,Int.toNat_natCast];refine (QZ N W H P hs _ (W*H) 0 N (by omega) (by omega)).trans ?_;rw [qQq (W':=H) (H':=W) (g:=fun x y=>x*W+y) (Nat.mul_comm W H)]
 ·rfl
 ·intro i hi;obtain ⟨l1,l2,_⟩:=gX hi;have:=mG l2 l1
  rwa [Nat.mul_comm H W] at this
 ·intro x y hx hy;obtain ⟨a,b⟩:=dm x hy;exact ⟨mG hy hx,by rw [a,b]⟩
 ·intro i j hi hj hij;obtain ⟨l1,l2,_⟩:=gX hi;obtain ⟨m1,m2,_⟩:=gX hj;obtain ⟨a,b⟩:=dm (i%W) l2;obtain ⟨c,d⟩:=dm (j%W) m2;rw [hij] at a b;rw [←Nat.div_add_mod' i W,←Nat.div_add_mod' j W,←a,←b,c,d]
theorem TZ (kk:List Px × Int→Option (Int × Int × List Px)):∀(d k fuel:Nat),k+d=W*H→d<fuel →
  fV N W P W H P kk fuel (GJ P (fun i=>i/W*W+(W-1-i%W)) (W*H) k,(k:Int))=kk (GJ P (fun i=>i/W*W+(W-1-i%W)) (W*H) (W*H),((W*H:Nat):Int)):=by
 obtain ⟨h1,h2,h3,h4,h5,h6⟩:=qV W H P hs;intro d
 induction d with
 | zero=>
  intro k fuel hk hf;obtain ⟨fuel,rfl⟩:=oK fuel (by omega);obtain rfl:k=W*H:=by omega
  unfold fV;rw [cF (dF (by omega))]
 | succ d ih=>
  intro k fuel hk hf;obtain ⟨fuel,rfl⟩:=oK fuel (by omega);have hk':k<W*H:=by omega
  obtain ⟨e1,e2⟩:=Yb k (show 0<W by omega);obtain ⟨l1,l2,_⟩:=gX hk';obtain ⟨rr,hrr⟩:∃rr,k%W=rr:=⟨_,rfl⟩
  obtain ⟨qq,hqq⟩:∃qq,k/W=qq:=⟨_,rfl⟩
  rw [hrr] at e1 l1;rw [hqq] at e2 l2;have hp:=mG (show W-1-rr<W by omega) l2;have hpx:P[k]? = some (P.getD k E7):=by rw [List.getD_eq_getElem?_getD,List.getElem?_eq_getElem (by omega)];rfl
  have c1:((qq:Nat):Int)*(W:Int)=((qq*W:Nat):Int):=by rw [Int.natCast_mul]
  have hlen:=C9 P (fun i=>i/W*W+(W-1-i%W)) (W*H) k;unfold fV AP;rw [cT (dT (by omega)),eC,hpx,aC,BQ (by omega),aC,aC,e1,e2,gF (x:=((qq:Nat):Int)) (by omega),c1];rw [gF (x:=((qq*W:Nat):Int)) (by omega),gF (x:=((qq*W:Nat):Int)+W) (by omega),gF (x:=((qq*W:Nat):Int)+W-1) (by omega),gF (x:=((qq*W:Nat):Int)+W-1-((rr:Nat):Int)) (by omega),aC];rw [show ((qq*W:Nat):Int)+W-1-((rr:Nat):Int)=((qq*W+(W-1-rr):Nat):Int) by omega];rw [eC,List.getElem?_eq_getElem (by rw [hlen];exact hp),aC,Cc (by omega),aC,gF (by omega),Int.toNat_natCast];subst hrr hqq;exact ih (k+1) fuel (by omega) (by omega)
theorem T0 (hN:5000≤N):fS N W H P W H P=some ((W:Int),(H:Int),E8 W H fun x y=>IM P W (W-1-x) y):=by
 obtain ⟨h1,h2,h3,h4,h5,h6⟩:=qV W H P hs;unfold fS;rw [aC,mk_eq (by omega),aC,h5,Int.toNat_natCast];refine (TZ N W H P hs _ (W*H) 0 N (by omega) (by omega)).trans ?_;rw [qQq (W':=W) (H':=H) (g:=fun x y=>y*W+(W-1-x)) rfl]
 ·rfl
 ·intro i hi;obtain ⟨l1,l2,_⟩:=gX hi;exact mG (Nat.lt_of_le_of_lt (Nat.sub_le _ _) (by omega)) l2
 ·intro x y hx hy;obtain ⟨a,b⟩:=dm y (show W-1-x<W by omega);exact ⟨mG (by omega) hy,by rw [a,b];omega⟩
 ·intro i j hi hj hij;obtain ⟨l1,l2,_⟩:=gX hi;obtain ⟨m1,m2,_⟩:=gX hj;obtain ⟨a,b⟩:=dm (i/W) (show W-1-i%W<W by omega);obtain ⟨c,d⟩:=dm (j/W) (show W-1-j%W<W by omega);rw [hij] at a b;have e1:i/W=j/W:=b.symm.trans d;have e2:i%W=j%W:=Sg l1 m1 (a.symm.trans c);rw [←Nat.div_add_mod' i W,←Nat.div_add_mod' j W,e1,e2]
theorem Zn (kk:List Px × Int→Option (Int × Int × List Px)):∀(d k fuel:Nat),k+d=W*H→d<fuel →
  fW N W P W H P kk fuel (GJ P (fun i=>(H-1-i/W)*W+i%W) (W*H) k,(k:Int))=kk (GJ P (fun i=>(H-1-i/W)*W+i%W) (W*H) (W*H),((W*H:Nat):Int)):=by
 obtain ⟨h1,h2,h3,h4,h5,h6⟩:=qV W H P hs;intro d
 induction d with
 | zero=>
  intro k fuel hk hf;obtain ⟨fuel,rfl⟩:=oK fuel (by omega);obtain rfl:k=W*H:=by omega
  unfold fW;rw [cF (dF (by omega))]
 | succ d ih=>
  intro k fuel hk hf;obtain ⟨fuel,rfl⟩:=oK fuel (by omega);have hk':k<W*H:=by omega
  obtain ⟨e1,e2⟩:=Yb k (show 0<W by omega);obtain ⟨l1,l2,_⟩:=gX hk';obtain ⟨rr,hrr⟩:∃rr,k%W=rr:=⟨_,rfl⟩
  obtain ⟨qq,hqq⟩:∃qq,k/W=qq:=⟨_,rfl⟩
  rw [hrr] at e1 l1;rw [hqq] at e2 l2;have hp:=mG l1 (show H-1-qq<H by omega);have hpx:P[k]? = some (P.getD k E7):=by rw [List.getD_eq_getElem?_getD,List.getElem?_eq_getElem (by omega)];rfl
  have c0:(H:Int)-1-((qq:Nat):Int)=((H-1-qq:Nat):Int):=by omega
  have c1:((H-1-qq:Nat):Int)*(W:Int)=(((H-1-qq)*W:Nat):Int):=by rw [Int.natCast_mul]
  have hlen:=C9 P (fun i=>(H-1-i/W)*W+i%W) (W*H) k;unfold fW AQ;rw [cT (dT (by omega)),eC,hpx,aC,BQ (by omega),aC,aC,e1,e2,gF (x:=((qq:Nat):Int)) (by omega),gF (x:=(H:Int)-1) (by omega),c0,gF (x:=((H-1-qq:Nat):Int)) (by omega),c1];rw [gF (x:=(((H-1-qq)*W:Nat):Int)) (by omega),gF (x:=(((H-1-qq)*W:Nat):Int)+((rr:Nat):Int)) (by omega),aC];rw [show (((H-1-qq)*W:Nat):Int)+((rr:Nat):Int)=(((H-1-qq)*W+rr:Nat):Int) by omega];rw [eC,List.getElem?_eq_getElem (by rw [hlen];exact hp),aC,Cc (by omega),aC,gF (by omega),Int.toNat_natCast];subst hrr hqq;exact ih (k+1) fuel (by omega) (by omega)
theorem Zo (hN:5000≤N):dZ N W H P W H P=some ((W:Int),(H:Int),E8 W H fun x y=>IM P W x (H-1-y)):=by
 obtain ⟨h1,h2,h3,h4,h5,h6⟩:=qV W H P hs;unfold dZ;rw [aC,mk_eq (by omega),aC,h5,Int.toNat_natCast];refine (Zn N W H P hs _ (W*H) 0 N (by omega) (by omega)).trans ?_;rw [qQq (W':=W) (H':=H) (g:=fun x y=>(H-1-y)*W+x) rfl]
 ·rfl
 ·intro i hi;obtain ⟨l1,l2,_⟩:=gX hi;exact mG l1 (Nat.lt_of_le_of_lt (Nat.sub_le _ _) (by omega))
 ·intro x y hx hy;obtain ⟨a,b⟩:=dm (H-1-y) hx;exact ⟨mG hx (by omega),by rw [a,b,show H-1-(H-1-y)=y by omega]⟩
 ·intro i j hi hj hij;obtain ⟨l1,l2,_⟩:=gX hi;obtain ⟨m1,m2,_⟩:=gX hj;obtain ⟨a,b⟩:=dm (H-1-i/W) l1;obtain ⟨c,d⟩:=dm (H-1-j/W) m1;rw [hij] at a b;have e1:i/W=j/W:=Sg l2 m2 (b.symm.trans d);have e2:i%W=j%W:=a.symm.trans c;rw [←Nat.div_add_mod' i W,←Nat.div_add_mod' j W,e1,e2]
theorem Zp (kk:List Px × Int→Option (Int × Int × List Px)):∀(d k fuel:Nat),k+d=W*H→d<fuel →
  fX N W P W H P kk fuel (GJ P (fun i=>i/W*W+i%W) (W*H) k,(k:Int))=kk (GJ P (fun i=>i/W*W+i%W) (W*H) (W*H),((W*H:Nat):Int)):=by
 obtain ⟨h1,h2,h3,h4,h5,h6⟩:=qV W H P hs;intro d
 induction d with
 | zero=>
  intro k fuel hk hf;obtain ⟨fuel,rfl⟩:=oK fuel (by omega);obtain rfl:k=W*H:=by omega
  unfold fX;rw [cF (dF (by omega))]
 | succ d ih=>
  intro k fuel hk hf;obtain ⟨fuel,rfl⟩:=oK fuel (by omega);have hk':k<W*H:=by omega
  obtain ⟨e1,e2⟩:=Yb k (show 0<W by omega);obtain ⟨l1,l2,_⟩:=gX hk';obtain ⟨rr,hrr⟩:∃rr,k%W=rr:=⟨_,rfl⟩
  obtain ⟨qq,hqq⟩:∃qq,k/W=qq:=⟨_,rfl⟩
  rw [hrr] at e1 l1;rw [hqq] at e2 l2;have hp:=mG l1 l2;have hpx:P[k]? = some (P.getD k E7):=by rw [List.getD_eq_getElem?_getD,List.getElem?_eq_getElem (by omega)];rfl
  have c1:((qq:Nat):Int)*(W:Int)=((qq*W:Nat):Int):=by rw [Int.natCast_mul]
  have hlen:=C9 P (fun i=>i/W*W+i%W) (W*H) k;unfold fX AR;rw [cT (dT (by omega)),eC,hpx,aC,BQ (by omega),aC,aC,e1,e2,gF (x:=((qq:Nat):Int)) (by omega),c1];rw [gF (x:=((qq*W:Nat):Int)) (by omega),gF (x:=((qq*W:Nat):Int)+((rr:Nat):Int)) (by omega),aC];rw [show ((qq*W:Nat):Int)+((rr:Nat):Int)=((qq*W+rr:Nat):Int) by omega];rw [eC,List.getElem?_eq_getElem (by rw [hlen];exact hp),aC,Cc (by omega),aC,gF (by omega),Int.toNat_natCast];subst hrr hqq;exact ih (k+1) fuel (by omega) (by omega)
theorem copy_eq (hN:5000≤N):bX N W H P W H P=some ((W:Int),(H:Int),P):=by
 obtain ⟨h1,h2,h3,h4,h5,h6⟩:=qV W H P hs;unfold bX;rw [aC,mk_eq (by omega),aC,h5,Int.toNat_natCast];refine (Zp N W H P hs _ (W*H) 0 N (by omega) (by omega)).trans ?_;rw [qQq (W':=W) (H':=H) (g:=fun x y=>y*W+x) rfl]
 ·have:=Oz h5;unfold IM at this;rw [this]
 ·intro i hi;obtain ⟨l1,l2,_⟩:=gX hi;exact mG l1 l2
 ·intro x y hx hy;obtain ⟨a,b⟩:=dm y hx;exact ⟨mG hx hy,by rw [a,b]⟩
 ·intro i j hi hj hij;simp only [Nat.div_add_mod'] at hij;exact hij
end
section
variable (N:Nat) {W H:Nat} (f:Nat→Nat→Px) (h:1≤W∧W≤64∧1≤H∧H≤64) (hN:5000≤N)
include h hN
theorem Q6:pV N W H (E8 W H f)=some ((H:Int),(W:Int),E8 H W fun x y=>f y x):=by
 rw [Q5 N W H _ (Fu h f) hN];refine congrArg (fun l=>some ((H:Int),(W:Int),l)) (Ng fun x y hx hy=>?_);exact Kp f hy hx
theorem Mn:fS N W H (E8 W H f) W H (E8 W H f)=some ((W:Int),(H:Int),E8 W H fun x y=>f (W-1-x) y):=by
 rw [T0 N W H _ (Fu h f) hN];refine congrArg (fun l=>some ((W:Int),(H:Int),l)) (Ng fun x y hx hy=>?_);exact Kp f (by omega) hy
theorem Sx:dZ N W H (E8 W H f) W H (E8 W H f)=some ((W:Int),(H:Int),E8 W H fun x y=>f x (H-1-y)):=by
 rw [Zo N W H _ (Fu h f) hN];refine congrArg (fun l=>some ((W:Int),(H:Int),l)) (Ng fun x y hx hy=>?_);exact Kp f hx (by omega)
theorem Sy:bX N W H (E8 W H f) W H (E8 W H f)=some ((W:Int),(H:Int),E8 W H f):=copy_eq N W H _ (Fu h f) hN
end
def Wp (sw m fl:Bool) (N:Nat) (W H:Int) (P:List Px):Option (Int × Int × List Px × Int):=
 Option.bind (cond sw (pV N W H P) (some (W,H,P))) fun r4=>
 Option.bind (cond m (fS N r4.1 r4.2.1 r4.2.2 r4.1 r4.2.1 r4.2.2) (some r4)) fun r5=>
 Option.bind (cond fl (dZ N r5.1 r5.2.1 r5.2.2 r5.1 r5.2.1 r5.2.2) (some r5)) fun r6=>
 Option.bind (bX N r6.1 r6.2.1 r6.2.2 r6.1 r6.2.1 r6.2.2) fun r7=>some (r7.1,r7.2.1,r7.2.2,0)
def swO (o:Int):Bool:=decide (5≤o)
def miO (o:Int):Bool:=decide (o=2∨o=3∨o=6∨o=7)
def flO (o:Int):Bool:=decide (o=3∨o=4∨o=7∨o=8)
theorem ways {o:Int} (h:1≤o∧o≤8):o=1∨o=2∨o=3∨o=4∨o=5∨o=6∨o=7∨o=8:=by omega
theorem Zr (N:Nat) (W H:Int) (P:List Px) (o:Int) (h:1≤o∧o≤8):mK N W H P o=Option.bind (lC N W H P 0) fun r2=>cond (!decide (r2.2.2.2=0)) (some (0,0,[],r2.2.2.2)) (Wp (swO o) (miO o) (flO o) N W H P):=by
 rcases ways h with rfl | rfl | rfl | rfl | rfl | rfl | rfl | rfl <;> rfl
def tPx (sw m fl:Bool) (W H:Nat) (P:List Px) (x y:Nat):Px:=
 let W':=cond sw H W
 let H':=cond sw W H
 let x':=cond m (W'-1-x) x
 let y':=cond fl (H'-1-y) y
 cond sw (IM P W y' x') (IM P W x' y')
theorem Wq (sw m fl:Bool) (N W H:Nat) (P:List Px) (hs:o7 W H P.length) (hN:5000≤N):Wp sw m fl N W H P=some (((cond sw H W:Nat):Int),((cond sw W H:Nat):Int),E8 (cond sw H W) (cond sw W H) (tPx sw m fl W H P),0):=by
 obtain ⟨h1,h2,h3,h4,h5,h6⟩:=qV W H P hs;have hP:=Oz h5;have hw:1≤W∧W≤64∧1≤H∧H≤64:=by omega
 have hw':1≤H∧H≤64∧1≤W∧W≤64:=by omega
 unfold Wp
 conv=>lhs;rw [←hP]
 cases sw <;> cases m <;> cases fl <;>
  simp only [cond_true,cond_false,aC,Q6 N _ hw hN,Mn N _ hw hN,Mn N _ hw' hN,Sx N _ hw hN,Sx N _ hw' hN,Sy N _ hw hN,Sy N _ hw' hN] <;> rfl
end
end Go.Proofs.YtpmnfhifmmfglabGreatDoor
