/- Parts of the proof. -/
import Derived.Test.YtpmnfhifmmfgladGreatDoorShotDevelopsK6
import Derived.Test.YtpmnfhifmmfgladGreatDoorShotDevelopsK7
set_option linter.unusedVariables false
set_option linter.unusedSimpArgs false
set_option linter.unusedSectionVars false
set_option maxRecDepth 100000
set_option maxHeartbeats 8000000
open Bool renaming and_eq_true→o9,true_and→tF
open Go.IntKind renaming i64→aC
open Int renaming toNat_natCast→fM,tdiv→gI,tmod→mN,eq_ofNat_of_zero_le→sC
open List renaming getElem?_eq_getElem→f9,range→gS,getD_eq_getElem?_getD→qG,length_append→kG,replicate→nH,append_assoc→pL,all_cons→tK,append_nil→v4,getElem?_eq_none→wW,length_map→xK,length_take→yQ,drop_eq_getElem_cons→zC
open Nat renaming le_refl→pK,mul_comm→oA,mul_le_mul→tM
open Option renaming bind→dH
open UInt8 renaming ofNat→nN
namespace Go.Proofs.YtpmnfhifmmfgladGreatDoor
section
open Go
def ky (ns:List Nat) (i:Nat):Nat:=ns.getD i 0
def tot (ns o:List Nat):Nat:=(o.map fun i=>2^(15-ky ns i)).sum
def wrd (S n:Nat):aR:=Dw (uS 2 n (S/2^(15-n)))
def stp (ns:List Nat) (st:Tq) (i:Nat):Tq:=(st.1.set i (wrd st.2 (ky ns i)),st.2+2^(15-ky ns i))
theorem aAU (ns:List Nat):tot ns []=0:=rfl
theorem zE (ns:List Nat) (i:Nat) (o:List Nat):tot ns (i::o)=2^(15-ky ns i)+tot ns o:=by simp [tot]
theorem E6 (ns o p:List Nat):tot ns (o++p)=tot ns o+tot ns p:=by simp [tot]
theorem LE (ns:List Nat):∀(o:List Nat) (st:Tq),(o.foldl (stp ns) st).1.length=st.1.length
 | [],_=>rfl
 | i::o,st=>by rw [List.foldl_cons,LE ns o];simp [stp]
theorem Vm (ns:List Nat):∀(o:List Nat) (st:Tq),(o.foldl (stp ns) st).2=st.2+tot ns o
 | [],_=>rfl
 | i::o,st=>by rw [List.foldl_cons,Vm ns o,zE];simp [stp];omega
section
variable {ns:List Nat} (hn:∀n∈ns,n≤15) (hl:ns.length≤17)
theorem Rx {i:Nat} (h:i<ns.length):idx (uT ns) (i:Int)=some ((ky ns i:Nat):Int):=Qk h
include hn in
theorem Po (i:Nat):ky ns i≤15:=by
 unfold ky;rw [qG]
 by_cases h:i<ns.length
 ·rw [f9 h];exact hn _ (List.getElem_mem h)
 ·rw [wW oQ];exact Nat.zero_le _
theorem aML (n:Nat):2^(15-n)≤32768:=Nat.le_trans (Nat.pow_le_pow_right aL (show 15-n≤15 by omega)) aL
include hn hl in
theorem aES (N:Nat) (hN:100≤N) (o:List Nat) (ho:∀i∈o,i<ns.length) (hol:o.length≤17) (kk):∀(j k aA:Nat) (out:List aR) (S:Nat),k+j=o.length→j<aA→out.length=ns.length→S+tot ns (o.drop k)≤32768 →
  sX N (uT ns) (uT o) kk aA (out,(S:Int),(k:Int))=kk (((o.drop k).foldl (stp ns) (out,S)).1,((S+tot ns (o.drop k):Nat):Int),(o.length:Int)):=by
 intro j
 induction j with
 | zero=>
  intro k aA out S hk hf hout hS;obtain ⟨aA,rfl⟩:=kF aA oQ;obtain rfl:k=o.length:=oQ
  unfold sX;rw [cF (dF (by rw [kL];omega)),List.drop_length];rfl
 | succ j ih=>
  intro k aA out S hk hf hout hS;obtain ⟨aA,rfl⟩:=kF aA oQ;have hlt:k<o.length:=oQ
  have hi:o[k]<ns.length:=ho _ (List.getElem_mem hlt);have aQn:=Po hn o[k];rw [zC hlt,zE] at hS ⊢;have hp:=aML (ky ns o[k]);have hp0:=Nat.two_pow_pos (15-ky ns o[k]);have h15:aC.wrap (15-(ky ns o[k]:Nat))=((15-ky ns o[k]:Nat):Int):=by rw [cM oQ];omega
  have hget:idx (uT o) (k:Int)=some ((o[k]:Nat):Int):=by rw [Qk hlt,qG,f9 hlt];rfl
  have aPo:Bz ((S/2^(15-ky ns o[k]):Nat):Int) ((ky ns o[k]:Nat):Int)=0:=by
   have:S/2^(15-ky ns o[k])<2^ky ns o[k]:=by
    refine Nat.div_lt_of_lt_mul ?_;rw [←Nat.pow_add,show 15-ky ns o[k]+ky ns o[k]=15 by omega];show S<32768
    omega
   unfold Bz;rw [aF oQ,fM,aF ⟨Int.natCast_nonneg _,Int.ofNat_lt.2 this⟩]
  have hset:∀v,yO out (o[k]:Int) v=some (out.set o[k] v):=fun v=>by rw [DK oQ,fM]
  have hio:∃e,idx out (o[k]:Int)=some e:=by rw [dC];exact ⟨_,f9 oQ⟩
  obtain ⟨e,he⟩:=hio;have hnx:aC.wrap ((k:Int)+1)=((k+1:Nat):Int):=by rw [cM oQ];rfl
  have hih:=ih (k+1) aA (out.set o[k] (wrd S (ky ns o[k]))) (S+2^(15-ky ns o[k])) oQ oQ (by rw [List.length_set];exact hout) oQ;unfold sX;rw [cT (dT (by rw [kL];omega)),hget,aD,Rx hi,aD,h15,DL,aD,aD,Qf oQ,W5 N hN,aF aPo,aD,he,aD,hset,aD,aD,h15,DL,aD,Jl oQ,cM (x:=(S:Int)+_) oQ,aD,hnx,fM,fM,show (S:Int)+((2^(15-ky ns o[k]):Nat):Int)=((S+2^(15-ky ns o[k]):Nat):Int) by omega];refine Eq.trans hih ?_;rw [List.foldl_cons,Nat.add_assoc]
  rfl
def pos (ns:List Nat) (i:Nat):Bool:=decide (0<ky ns i)
include hl in
theorem aET (N:Nat) (kk):∀(j k aA:Nat) (A:List Nat),k+j=ns.length→j<aA→A.length≤k →
  u5 N (uT ns) kk aA (uT A,(k:Int))=kk (uT (A++(List.range' k j).filter (pos ns)),(ns.length:Int)):=by
 intro j
 induction j with
 | zero=>
  intro k aA A hk hf hA;obtain ⟨aA,rfl⟩:=kF aA oQ;obtain rfl:k=ns.length:=oQ
  unfold u5;rw [cF (dF (by rw [kL];omega))];simp
 | succ j ih=>
  intro k aA A hk hf hA;obtain ⟨aA,rfl⟩:=kF aA oQ;have hlt:k<ns.length:=oQ
  have hnx:aC.wrap ((k:Int)+1)=((k+1:Nat):Int):=by rw [cM oQ];rfl
  unfold u5;rw [cT (dT (by rw [kL];omega)),Rx hlt,aD,List.range'_succ]
  by_cases h:0<ky ns k
  ·have happ:app 8 (uT A) ([(k:Int)]:List Int)=some (uT (A++[k])):=by
    rw [iQ (by rw [kL];simp;omega),Jk];rfl
   rw [p8,happ,aD,hnx,ih (k+1) aA _ oQ oQ uW,List.filter_cons,aF (show pos ns k=true from dT h),pL]
   rfl
  ·rw [nL,hnx,ih (k+1) aA _ oQ oQ oQ,List.filter_cons,aE (by rw [show pos ns k=false from dF h];simp)]
def SN (f:Nat→Nat) (x:Nat):List Nat→List Nat→List Nat
 | [],B=>x::B
 | y::A,B=>if f x<f y then SN f x A (y::B) else (y::A).reverse++x::B
theorem aAV (f:Nat→Nat) (x:Nat):∀A B C,SN f x A (B++C)=SN f x A B++C
 | [],B,C=>rfl
 | y::A,B,C=>by
  unfold SN
  split
  ·rw [←List.cons_append,aAV f x A]
  ·simp
theorem aAW (f:Nat→Nat) (x:Nat):∀A B,(SN f x A B).length=A.length+B.length+1
 | [],B=>by simp [SN]
 | y::A,B=>by
  unfold SN
  split
  ·rw [aAW f x A];simp;omega
  ·simp;omega
theorem W7 (f:Nat→Nat) (x:Nat) (A1:List Nat) (h1:∀y∈A1,f y≤f x):∀(R:List Nat) (B:List Nat),(∀y∈R,f x<f y)→SN f x (R++A1.reverse) B=A1++x::(R.reverse++B)
 | [],B,_=>by
  rcases hA:A1.reverse with _|⟨y,A⟩
  ·have:A1=[]:=by simpa using hA
   subst this;rfl
  ·have hy:f y≤f x:=h1 y (by rw [←List.mem_reverse,hA];simp);rw [List.nil_append];unfold SN;rw [aE oQ,←hA,List.reverse_reverse];rfl
 | y::R,B,h=>by
  have hy:=h y sQ;show SN f x (y::(R++A1.reverse)) B=_;unfold SN;rw [aF hy,W7 f x A1 h1 R (y::B) (fun z hz=>h z (by simp [hz]))]
  simp
theorem cmp_eq (N:Nat) {a b:Nat} (ha:a<ns.length) (hb:b<ns.length):Ba N (a:Int) (b:Int) (uT ns)=some (if ky ns a<ky ns b then -1 else if ky ns b<ky ns a then 1 else 0):=by
 unfold Ba;rw [Rx ha,aD,Rx hb,aD];unfold AH Aj;rw [aD,aD,cF sQ,cF sQ]
 by_cases h1:ky ns a<ky ns b
 ·rw [p8,aF h1];rfl
 ·rw [nL,aE h1]
  by_cases h2:ky ns b<ky ns a
  ·rw [p8,aF h2];rfl
  ·rw [nL,aE h2];rfl
theorem Zt {A:List Nat} {i x:Nat} (h:A[i]? = some x):idx (uT A) (i:Int)=some (x:Int):=by
 rw [dC,uT,List.getElem?_map,h];rfl
theorem aEU (N:Nat) (kk:gL→Option D9) (r) (x:Nat) (hx:x<ns.length):∀(A B:List Nat) (aA:Nat),(∀y∈A,y<ns.length)→A.length≤1000→A.length<aA→(∀j,kk (uT (SN (ky ns) x A B),j)=r) →
  xC N (uT ns) kk aA (uT (A.reverse++x::B),(A.length:Int))=r:=by
 intro A
 induction A with
 | nil=>
  intro B aA hA hA2 hf hk;obtain ⟨aA,rfl⟩:∃m,aA=m+1:=⟨aA-1,by simp at hf;omega⟩
  unfold xC;rw [cF (dF sQ)];exact hk _
 | cons y A ih=>
  intro B aA hA hA2 hf hk;simp only [List.length_cons] at hf hA2;obtain ⟨aA,rfl⟩:=kF aA oQ;have hy:y<ns.length:=hA y sQ;have g1:∀u v:Nat,(A.reverse++u::v::B)[A.length]? = some u:=fun u v=>by rw [List.getElem?_append_right sQ];simp
  have g2:∀u v:Nat,(A.reverse++u::v::B)[A.length+1]? = some v:=fun u v=>by rw [List.getElem?_append_right sQ];simp
  have eq:(y::A).reverse++x::B=A.reverse++y::x::B:=by simp
  have hm1:aC.wrap (((A.length+1:Nat):Int)-1)=(A.length:Int):=by rw [cM oQ];omega
  rw [List.length_cons,eq];unfold xC;rw [p8,Zt (g2 y x),aD,hm1,Zt (g1 y x),aD,cmp_eq N hx hy,aD];unfold SN at hk
  by_cases h:ky ns x<ky ns y
  ·rw [aF h] at hk
   have s1:yO (uT (A.reverse++y::x::B)) (((A.length+1:Nat):Int)) ((y:Nat):Int)=some (uT (A.reverse++y::y::B)):=by
    rw [DK (by rw [kL];simp;omega),fM,←Qj]
    congr 2
    rw [List.set_append,aE sQ];simp
   have s2:yO (uT (A.reverse++y::y::B)) ((A.length:Nat):Int) ((x:Nat):Int)=some (uT (A.reverse++x::y::B)):=by
    rw [DK (by rw [kL];simp;omega),fM,←Qj]
    congr 2
    rw [List.set_append,aE sQ];simp
   rw [aF h,cT aL,aD,aD,aD,s1,aD,Zt (g1 y y),aD,s2,aD,aD];exact ih (y::B) aA (fun z hz=>hA z (by simp [hz])) oQ oQ hk
  ·rw [aE h] at hk;rw [aE h,cF (by split <;> decide),←eq];exact hk _
def Vn (f:Nat→Nat) (o:List Nat):List Nat:=o.foldl (fun A x=>SN f x A.reverse []) []
theorem W8 (f:Nat→Nat) (o:List Nat) (x:Nat):Vn f (o++[x])=SN f x (Vn f o).reverse []:=by simp [Vn]
theorem aAX (f:Nat→Nat) (o:List Nat):(Vn f o).length=o.length:=by
 have:∀(o A:List Nat),(o.foldl (fun A x=>SN f x A.reverse []) A).length=A.length+o.length:=by
  intro o
  induction o with
  | nil=>intro A;rfl
  | cons x o ih=>intro A;rw [List.foldl_cons,ih,aAW];simp;omega
 rw [Vn,this];simp
end
section
variable {ns:List Nat} (hn:∀n∈ns,n≤15) (hl:ns.length≤17)
theorem aEV (N:Nat) (hN:100≤N) (kk:JI→Option D9) (r) {o:List Nat} (ho:∀i∈o,i<ns.length) (hol:o.length≤17) (hk:∀b j,kk (uT (Vn (ky ns) o),b,j)=r):∀(j k aA:Nat),k+j=o.length→j<aA →
  rL N (uT ns) kk aA (uT (Vn (ky ns) (o.take k)++o.drop k),(o.length:Int),(k:Int))=r:=by
 intro j
 induction j with
 | zero=>
  intro k aA hkj hf;obtain ⟨aA,rfl⟩:=kF aA oQ;obtain rfl:k=o.length:=oQ
  unfold rL;rw [nL,List.take_length,List.drop_length,v4];exact hk _ _
 | succ j ih=>
  intro k aA hkj hf;obtain ⟨aA,rfl⟩:=kF aA oQ;have hlt:k<o.length:=oQ
  have hnx:aC.wrap ((k:Int)+1)=((k+1:Nat):Int):=by rw [cM oQ];rfl
  have hih:=ih (k+1) aA oQ oQ;have htk:o.take (k+1)=o.take k++[o[k]]:=by rw [List.take_add_one,f9 hlt];rfl
  rw [htk,W8] at hih;have gK:(Vn (ky ns) (o.take k)).length=k:=by rw [aAX,yQ];omega
  have hmem:∀y∈Vn (ky ns) (o.take k),y<ns.length:=fun y hy=>by
   refine ho y (List.mem_of_mem_take (i:=k) ?_)
   have key:∀(p A:List Nat),(∀z∈A,z∈o.take k)→(∀z∈p,z∈o.take k)→∀z∈p.foldl (fun A x=>SN (ky ns) x A.reverse []) A,z∈o.take k:=by
    intro p
    induction p with
    | nil=>intro A hA _ z hz;exact hA z hz
    | cons x p ihp=>
     intro A hA hp z hz;rw [List.foldl_cons] at hz;refine ihp _ ?_ (fun z hz=>hp z (by simp [hz])) z hz;intro u hu
     have sub:∀(R B:List Nat),∀z∈SN (ky ns) x R B,z∈R∨z=x∨z∈B:=by
      intro R
      induction R with
      | nil=>intro B z hz;simp [SN] at hz;rcases hz with rfl|hz;exact .inr (.inl rfl);exact .inr (.inr hz)
      | cons q R ihR=>
       intro B z hz;unfold SN at hz
       split at hz
       ·rcases ihR _ z hz with h|h|h
        ·exact .inl (by simp [h])
        ·exact .inr (.inl h)
        ·rcases List.mem_cons.1 h with rfl|h
         ·exact .inl sQ
         ·exact .inr (.inr h)
       ·simp at hz
        rcases hz with h|h|h|h
        ·exact .inl (by simp [h])
        ·exact .inl (by simp [h])
        ·exact .inr (.inl h)
        ·exact .inr (.inr h)
     rcases sub _ _ u hu with h|h|h
     ·exact hA u (by simpa using h)
     ·subst h;exact hp u sQ
     ·cases h
   exact key (o.take k) [] (fun z hz=>by cases hz) (fun z hz=>hz) y hy
  unfold rL;rw [p8,zC hlt]
  have h3:=aEU (ns:=ns) N (fun (l22,j9)=>dH (some (aC.wrap ((k:Int)+1))) fun i6=>rL N (uT ns) kk aA (l22,(o.length:Int),i6)) r o[k] (ho _ (List.getElem_mem hlt)) (Vn (ky ns) (o.take k)).reverse (o.drop (k+1)) N (fun y hy=>hmem y (by simpa using hy)) uW uW (fun q=>by
   show (dH (some (aC.wrap ((k:Int)+1))) fun i6=>rL N (uT ns) kk aA (uT (SN (ky ns) o[k] (Vn (ky ns) (o.take k)).reverse (o.drop (k+1))),(o.length:Int),i6))=r;rw [hnx,aD];have e:=aAV (ky ns) o[k] (Vn (ky ns) (o.take k)).reverse [] (o.drop (k+1));rw [List.nil_append] at e;rw [e]
   exact hih)
  rw [List.reverse_reverse,List.length_reverse,gK] at h3;exact h3
def Cr (f:Nat→Nat) (o:List Nat):List Nat:=(List.range' 1 15).flatMap fun s=>o.filter fun i=>decide (f i=s)
theorem Ud (f:Nat→Nat) (o:List Nat) {x:Nat} (hx:1≤f x∧f x≤15):∃A1 A2,Cr f o=A1++A2∧Cr f (o++[x])=A1++x::A2∧(∀y∈A1,f y≤f x)∧∀y∈A2,f x<f y:=by
 have hsp:List.range' 1 15=List.range' 1 (f x-1)++(f x::List.range' (f x+1) (15-f x)):=by
  have h1:List.range' 1 (f x-1)++List.range' (1+(f x-1)) (15-(f x-1))=List.range' 1 15:=by
   have:=List.range'_append (s:=1) (m:=f x-1) (n:=15-(f x-1)) (step:=1);rw [Nat.one_mul] at this;rw [this];congr 1;omega
  rw [←h1,show 1+(f x-1)=f x by omega,show 15-(f x-1)=(15-f x)+1 by omega,List.range'_succ]
 have hne:∀L:List Nat,(∀s∈L,s≠f x)→(L.flatMap fun s=>(o++[x]).filter fun i=>decide (f i=s))=L.flatMap fun s=>o.filter fun i=>decide (f i=s):=by
  intro L hL
  induction L with
  | nil=>rfl
  | cons s L ih=>
   rw [List.flatMap_cons,List.flatMap_cons,ih (fun s hs=>hL s (by simp [hs])),List.filter_append]
   congr 1
   rw [List.filter_cons,aE (by simpa using fun h=>hL s sQ h.symm)];simp
 refine ⟨((List.range' 1 (f x-1)).flatMap fun s=>o.filter fun i=>decide (f i=s))++o.filter (fun i=>decide (f i=f x)),(List.range' (f x+1) (15-f x)).flatMap (fun s=>o.filter fun i=>decide (f i=s)),?_,?_,?_,?_⟩
 ·unfold Cr;rw [hsp,List.flatMap_append,List.flatMap_cons,pL]
 ·unfold Cr;rw [hsp,List.flatMap_append,List.flatMap_cons,hne _ (fun s hs=>by have:=(List.mem_range'_1.1 hs);omega),hne _ (fun s hs=>by have:=(List.mem_range'_1.1 hs);omega),List.filter_append,List.filter_cons,aF sQ]
  simp
 ·intro y hy
  rcases List.mem_append.1 hy with h|h
  ·obtain ⟨s,hs,h⟩:=List.mem_flatMap.1 h;have h1:=List.mem_range'_1.1 hs;have h2:=(List.mem_filter.1 h).2
   simp at h2
   omega
  ·have h2:=(List.mem_filter.1 h).2
   simp at h2
   omega
 ·intro y hy;obtain ⟨s,hs,h⟩:=List.mem_flatMap.1 hy;have h1:=List.mem_range'_1.1 hs;have h2:=(List.mem_filter.1 h).2
  simp at h2
  omega
theorem W9 {P:List Nat→Prop} (o:List Nat) (h0:P []) (hs:∀k (hk:k<o.length),P (o.take k)→P (o.take k++[o[k]])):P o:=by
 have:∀k,k≤o.length→P (o.take k):=by
  intro k
  induction k with
  | zero=>intro _;exact h0
  | succ k ih=>
   intro hk;have:=hs k oQ (ih oQ)
   rwa [show o.take k++[o[k]]=o.take (k+1) by rw [List.take_add_one,f9 oQ];rfl] at this
 have:=this o.length (pK _)
 rwa [List.take_length] at this
theorem aEW (f:Nat→Nat):Cr f []=[]:=by
 unfold Cr;rw [List.flatMap_eq_nil_iff];intro s _;rfl
theorem aHq (f:Nat→Nat) (o:List Nat) (ho:∀x∈o,1≤f x∧f x≤15):Vn f o=Cr f o:=by
 refine W9 (P:=fun p=>Vn f p=Cr f p) o ?_ fun k hk ih=>?_
 ·show ([]:List Nat)=_;unfold Cr;rw [eq_comm,List.flatMap_eq_nil_iff];intro s _;rfl
 ·obtain ⟨A1,A2,h1,h2,h3,h4⟩:=Ud f (o.take k) (ho _ (List.getElem_mem hk));have:=W7 f o[k] A1 h3 A2.reverse [] (fun y hy=>h4 y (by simpa using hy));show Vn f (o.take k++[o[k]])=Cr f (o.take k++[o[k]]);rw [W8,h2,show Vn f (o.take k)=Cr f (o.take k) from ih,h1,List.reverse_append,this]
  simp
theorem Vo (o:List Nat) (ho:∀x∈o,1≤ky ns x∧ky ns x≤15):tot ns (Cr (ky ns) o)=tot ns o:=by
 refine W9 (P:=fun p=>tot ns (Cr (ky ns) p)=tot ns p) o ?_ fun k hk ih=>?_
 ·show tot ns (Cr (ky ns) [])=tot ns [];rw [aEW]
 ·obtain ⟨A1,A2,h1,h2,h3,h4⟩:=Ud (ky ns) (o.take k) (ho _ (List.getElem_mem hk));have ih':tot ns (Cr (ky ns) (o.take k))=tot ns (o.take k):=ih;show tot ns (Cr (ky ns) (o.take k++[o[k]]))=tot ns (o.take k++[o[k]]);rw [h2,E6,zE,E6,←ih',h1,E6,zE,aAU]
  omega
def ups (ns:List Nat) (k j:Nat):List Nat:=(List.range' k j).filter (pos ns)
theorem aEX:∀(j k:Nat),k+j=ns.length→LS ((uT ns).drop k)=tot ns (ups ns k j):=by
 intro j
 induction j with
 | zero=>
  intro k hk;rw [List.drop_eq_nil_iff.2 (by rw [kL];omega)];rfl
 | succ j ih=>
  intro k hk;have hlt:k<(uT ns).length:=by rw [kL];omega
  have hv:(uT ns)[k].toNat=ky ns k:=by
   have:=Qk (l:=ns) (i:=k) oQ;rw [dC,f9 hlt] at this;rw [Option.some.inj this,fM];rfl
  rw [zC hlt,OR,ih (k+1) oQ,hv];unfold ups;rw [List.range'_succ,List.filter_cons]
  by_cases h:0<ky ns k
  ·rw [aF (show pos ns k=true from dT h),zE,rm,aF h]
  ·rw [aE (by rw [show pos ns k=false from dF h];simp),rm,aE h,Nat.zero_add]
theorem Vp (k j:Nat):Cr (ky ns) (ups ns k j)=Cr (ky ns) (List.range' k j):=by
 unfold Cr ups
 have:∀L:List Nat,(∀s∈L,1≤s)→(L.flatMap fun s=>((List.range' k j).filter (pos ns)).filter fun i=>decide (ky ns i=s))=L.flatMap fun s=>(List.range' k j).filter fun i=>decide (ky ns i=s):=by
  intro L hL
  induction L with
  | nil=>rfl
  | cons s L ih=>
   rw [List.flatMap_cons,List.flatMap_cons,ih (fun s hs=>hL s (by simp [hs])),List.filter_filter]
   congr 1
   refine List.filter_congr fun i _=>?_
   have:=hL s sQ;unfold pos
   by_cases h:ky ns i=s
   ·rw [dT h,dT oQ];rfl
   ·rw [dF h];rfl
 exact this _ fun s hs=>(List.mem_range'_1.1 hs).1
theorem Ql {k j i:Nat} (h:i∈ups ns k j):k≤i∧i<k+j∧0<ky ns i:=by
 obtain ⟨h1,h2⟩:=List.mem_filter.1 h;have:=List.mem_range'_1.1 h1;exact ⟨this.1,this.2,bW h2⟩
def B7 (ns:List Nat):List aR:=((Cr (ky ns) (List.range' 0 ns.length)).foldl (stp ns) (nH ns.length [],0)).1
end
section
variable {ns:List Nat} (hn:∀n∈ns,n≤15) (hl:ns.length≤17)
include hn hl in
theorem aK1 (N:Nat) (hN:100≤N) {size:Nat} (hs:1≤size∧size≤15) (kk:Pf→Option (List aR)) (r):∀(j k aA:Nat) (out:List aR) (S nx la:Nat),k+j=ns.length→j<aA→out.length=ns.length→la≤size→S=nx*2^(15-la)→S+tot ns ((List.range' k j).filter fun i=>decide (ky ns i=size))≤32768 →
  (∀nx' la':Nat,la'≤size→∀i':Int,(((List.range' k j).filter fun i=>decide (ky ns i=size)).foldl (stp ns) (out,S)).2=nx'*2^(15-la')→kk ((((List.range' k j).filter fun i=>decide (ky ns i=size)).foldl (stp ns) (out,S)).1,(nx':Int),(la':Int),i')=r) →
  lD N (uT ns) (size:Int) kk aA (out,(nx:Int),(la:Int),(k:Int))=r:=by
 intro j
 induction j with
 | zero=>
  intro k aA out S nx la hk hf hout hla hS hT hkk;obtain ⟨aA,rfl⟩:=kF aA oQ;unfold lD;rw [cF (dF (by rw [kL];omega))];exact hkk nx la hla _ hS
 | succ j ih=>
  intro k aA out S nx la hk hf hout hla hS hT hkk;obtain ⟨aA,rfl⟩:=kF aA oQ;have hlt:k<ns.length:=oQ
  have hnx:aC.wrap ((k:Int)+1)=((k+1:Nat):Int):=by rw [cM oQ];rfl
  unfold lD;rw [cT (dT (by rw [kL];omega)),Rx hlt,aD];rw [List.range'_succ,List.filter_cons] at hT hkk
  by_cases h:ky ns k=size
  ·rw [aF (dT h)] at hT hkk;rw [zE,h] at hT;rw [List.foldl_cons] at hkk;have hp0:=Nat.two_pow_pos (15-size);have hpw:2^(15-la)=2^(size-la)*2^(15-size):=by rw [←Nat.pow_add];congr 1;omega
   have hdiv:S/2^(15-size)=nx*2^(size-la):=by
    rw [hS,hpw,←Nat.mul_assoc,Nat.mul_div_cancel _ hp0]
   have hle:nx*2^(size-la)≤32768:=by rw [←hdiv];exact Nat.le_trans (Nat.div_le_self _ _) oQ
   have hsub:aC.wrap ((size:Int)-(la:Int))=((size-la:Nat):Int):=by rw [cM oQ];omega
   have hio:∃e,idx out (k:Int)=some e:=by rw [dC];exact ⟨_,f9 oQ⟩
   obtain ⟨e,he⟩:=hio;have hset:∀v,yO out (k:Int) v=some (out.set k v):=fun v=>by rw [DK oQ,fM]
   rw [cF (by rw [dT oQ];rfl),hsub,DL,aD,F3 oQ oQ,aD,number_eq hN oQ oQ,aD,he,aD,hset,aD,cM (x:=((nx*2^(size-la):Nat):Int)+1) oQ,aD,hnx,aD];have hw:wrd S size=Dw (uS 2 size (nx*2^(size-la))):=by unfold wrd;rw [hdiv]
   have hst:stp ns (out,S) k=(out.set k (Dw (uS 2 size (nx*2^(size-la)))),S+2^(15-size)):=by unfold stp;rw [h,hw]
   rw [hst] at hkk;refine ih (k+1) aA _ (S+2^(15-size)) (nx*2^(size-la)+1) size oQ oQ (by rw [List.length_set];exact hout) (pK _) ?_ oQ hkk;rw [Nat.add_mul,Nat.one_mul,hS,hpw,Nat.mul_assoc]
  ·rw [aE (by rw [dF h];simp)] at hT hkk;rw [cT (by rw [dF oQ];rfl),hnx,aD];exact ih (k+1) aA out S nx la oQ oQ hout hla hS hT hkk
include hn hl in
theorem aK2 (N:Nat) (hN:100≤N) (kk:Pf→Option (List aR)) (r):∀(j s aA:Nat) (out:List aR) (S nx la:Nat),s+j=16→1≤s→j<aA→out.length=ns.length→la<s→S=nx*2^(15-la)→S+tot ns ((List.range' s j).flatMap fun s=>(List.range' 0 ns.length).filter fun i=>decide (ky ns i=s))≤32768 →
  (∀a b c,kk ((((List.range' s j).flatMap fun s=>(List.range' 0 ns.length).filter fun i=>decide (ky ns i=s)).foldl (stp ns) (out,S)).1,a,b,c)=r) →
  mV N (uT ns) kk aA (out,(nx:Int),(la:Int),(s:Int))=r:=by
 intro j
 induction j with
 | zero=>
  intro s aA out S nx la hk h1 hf hout hla hS hT hkk;obtain ⟨aA,rfl⟩:=kF aA oQ;unfold mV;rw [nL];exact hkk _ _ _
 | succ j ih=>
  intro s aA out S nx la hk h1 hf hout hla hS hT hkk;obtain ⟨aA,rfl⟩:=kF aA oQ;unfold mV;rw [p8];rw [List.range'_succ,List.flatMap_cons] at hT hkk;rw [E6] at hT;refine aK1 hn hl N hN (size:=s) oQ _ r ns.length 0 N out S nx la oQ oQ hout oQ hS oQ fun nx' la' aQo i' hS'=>?_
  dsimp only
  rw [cM (x:=(s:Int)+1) oQ,aD,show (s:Int)+1=((s+1:Nat):Int) by rfl];have h2:=Vm ns ((List.range' 0 ns.length).filter fun i=>decide (ky ns i=s)) (out,S);have h3:=LE ns ((List.range' 0 ns.length).filter fun i=>decide (ky ns i=s)) (out,S);refine ih (s+1) aA _ _ nx' la' oQ oQ oQ (h3.trans hout) oQ (h2.symm.trans hS') (by show S+_+_≤_;omega) fun a b c=>?_
  have:=hkk a b c;rw [List.foldl_append] at this;rw [←this]
  congr 3
  rw [←h2]
include hn hl in
theorem aCo (N:Nat) (hN:100≤N) (hK:tot ns (ups ns 0 ns.length)≤32768):nE N (uT ns)=some (B7 ns):=by
 unfold nE;rw [kL,aD,mk_eq oQ,aD,fM]
 have ht:tot ns (Cr (ky ns) (List.range' 0 ns.length))≤32768:=by
  rw [←Vp,Vo]
  ·exact hK
  ·intro x hx;exact ⟨(Ql hx).2.2,Po hn x⟩
 exact aK2 hn hl N hN _ _ 15 1 N (nH ns.length []) 0 0 0 oQ oQ oQ sQ oQ oQ (by rw [Nat.zero_add];exact ht) (fun a b c=>rfl)
include hn hl in
theorem aCp (N:Nat) (hN:100≤N) (hK:tot ns (ups ns 0 ns.length)≤32768) (hP:0<tot ns (ups ns 0 ns.length)) (hc:oH (uT ns)=0):xJ N (uT ns)=some (B7 ns,0):=by
 unfold xJ;have aMM:∀x∈ups ns 0 ns.length,1≤ky ns x∧ky ns x≤15:=fun x hx=>⟨(Ql hx).2.2,Po hn x⟩
 have gK:(ups ns 0 ns.length).length≤17:=by
  unfold ups;refine Nat.le_trans (List.length_filter_le _ _) ?_;rw [List.length_range'];exact hl
 have hmem:∀i∈ups ns 0 ns.length,i<ns.length:=fun i hi=>by have:=(Ql hi).2.1;omega
 rw [Jm N hN,hc,aD,cF aL]
 have h1:=aET (ns:=ns) hl N (fun (l6,i2)=>
  cond (decide (20≤(l6.length:Int))) none (
  dH (some (aC.wrap (0+1))) fun i3=>
  rL N (uT ns) (fun (Sw,b2,i7)=>
  dH (Is l6 Sw) fun _=>
  cond (decide (20<(Sw.length:Int))) none (
  dH (Is l6 Sw) fun _=>
  dH (Is l6 Sw) fun _=>
  dH (some (((uT ns).length:Int))) fun x2=>
  dH (mk 16 x2 (([]:aR):aR)) fun l24=>
  sX N (uT ns) Sw (fun (l28,EV,i11)=>
  some (l28,0)) N (l24,0,0))) N (l6,(l6.length:Int),i3))) ns.length 0 N [] oQ oQ sQ
 refine Eq.trans h1 ?_;rw [List.nil_append]
 dsimp only
 rw [show (List.range' 0 ns.length).filter (pos ns)=ups ns 0 ns.length from rfl,cF (dF (by rw [kL];omega)),show aC.wrap (0+1)=((1:Nat):Int) by decide,aD,show ((uT (ups ns 0 ns.length)).length:Int)=((ups ns 0 ns.length).length:Int) by rw [kL]];have hsrt:=aHq (ky ns) (ups ns 0 ns.length) aMM;have hsl:=aAX (ky ns) (ups ns 0 ns.length)
 have hfin:∀b j:Int,(fun (x:JI)=>(match x with
  | (Sw,b2,i7)=>dH (Is (uT (ups ns 0 ns.length)) Sw) fun _=>
  cond (decide (20<(Sw.length:Int))) none (
  dH (Is (uT (ups ns 0 ns.length)) Sw) fun _=>
  dH (Is (uT (ups ns 0 ns.length)) Sw) fun _=>
  dH (some (((uT ns).length:Int))) fun x2=>
  dH (mk 16 x2 (([]:aR):aR)) fun l24=>
  sX N (uT ns) Sw (fun (l28,EV,i11)=>
  some (l28,(0:Int))) N (l24,0,0)):Option D9)) (uT (Vn (ky ns) (ups ns 0 ns.length)),b,j)=some (B7 ns,0):=by
  intro b j
  have hsame:Is (uT (ups ns 0 ns.length)) (uT (Vn (ky ns) (ups ns 0 ns.length)))=some ():=by
   unfold Is;rw [aF (by rw [kL,kL,hsl])]
  dsimp only
  rw [hsame,aD,cF (dF (by rw [kL,hsl];omega)),aD,aD,kL,aD,mk_eq oQ,aD,fM,hsrt];have ht:tot ns (Cr (ky ns) (ups ns 0 ns.length))≤32768:=by rw [Vo _ aMM];exact hK
  have hom:∀i∈Cr (ky ns) (ups ns 0 ns.length),i<ns.length:=fun i hi=>by
   obtain ⟨s,_,h⟩:=List.mem_flatMap.1 hi;exact hmem i (List.mem_filter.1 h).1
  have hol:(Cr (ky ns) (ups ns 0 ns.length)).length≤17:=by rw [←hsrt,hsl];exact gK
  have h4:=aES hn hl N hN (Cr (ky ns) (ups ns 0 ns.length)) hom hol (fun (l28,EV,i11)=>some (l28,(0:Int))) (Cr (ky ns) (ups ns 0 ns.length)).length 0 N (nH ns.length []) 0 oQ oQ sQ (by rw [List.drop_zero,Nat.zero_add];exact ht);refine Eq.trans h4 ?_;rw [List.drop_zero,Vp]
  rfl
 by_cases h0:(ups ns 0 ns.length).length=0
 ·rw [List.eq_nil_of_length_eq_zero h0,aAU] at hP
  omega
 ·have h2:=fun kk hk=>aEV (ns:=ns) N hN kk (some (B7 ns,0)) hmem gK hk ((ups ns 0 ns.length).length-1) 1 N oQ oQ
  have htk:Vn (ky ns) ((ups ns 0 ns.length).take 1)++(ups ns 0 ns.length).drop 1=ups ns 0 ns.length:=by
   rcases hu:ups ns 0 ns.length with _|⟨x,u⟩
   ·rw [hu] at h0;exact absurd rfl h0
   ·rfl
  simp only [htk] at h2;refine h2 _ ?_;exact hfin
end
theorem DM {l:List Int} (h:oH l=0):∃ns:List Nat,l=uT ns∧(∀n∈ns,n≤15)∧1≤ns.length∧ns.length≤17∧tot ns (ups ns 0 ns.length)≤32768∧0<tot ns (ups ns 0 ns.length):=by
 unfold oH at h
 split at h
 ·cases h
 rename_i h1
 split at h
 rotate_left
 ·cases h
 rename_i h2
 split at h
 ·cases h
 rename_i h3
 have hall:∀e∈l,0≤e∧e≤15:=fun e he=>bW (List.all_eq_true.1 h2 e he)
 have he:uT (l.map Int.toNat)=l:=aCf fun e h=>(hall e h).1
 have hs:=aEX (ns:=l.map Int.toNat) (l.map Int.toNat).length 0 oQ;rw [he,List.drop_zero] at hs;refine ⟨l.map Int.toNat,he.symm,?_,by simp;omega,by simp;omega,by omega,by omega⟩;intro n hn;obtain ⟨e,h,rfl⟩:=List.mem_map.1 hn;have:=hall e h
 omega
def dL (l:List Int):List aR:=if oH l=0 then B7 (l.map Int.toNat) else []
theorem Zu (N:Nat) (hN:100≤N) (l:List Int):xJ N l=some (dL l,oH l):=by
 unfold dL
 by_cases h:oH l=0
 ·obtain ⟨ns,rfl,h1,h2,h3,h4,h5⟩:=DM h;rw [aF h,aCp h1 h3 N hN h4 h5 h,IA,h]
 ·rw [aE h];unfold xJ;rw [Jm N hN,aD,cT (by rw [dF h];rfl)]
theorem Pp (N:Nat) (hN:100≤N) {l:List Int} (h:oH l=0):nE N l=some (dL l):=by
 unfold dL;obtain ⟨ns,rfl,h1,h2,h3,h4,h5⟩:=DM h;rw [aF h,aCo h1 h3 N hN h4,IA]
theorem zQ {l:List Int} (h:oH l=0):(dL l).length=l.length:=by
 unfold dL B7;rw [aF h,LE,List.length_replicate,xK]
section
variable {ns:List Nat}
theorem ME {i:Nat}:∀(o:List Nat) (st:Tq),i∉o→(o.foldl (stp ns) st).1[i]? = st.1[i]?
 | [],_,_=>rfl
 | k::o,st,h=>by
  simp only [List.mem_cons,not_or] at h;rw [List.foldl_cons,ME o _ h.2];show (st.1.set k _)[i]? = _;rw [List.getElem?_set_ne (fun e=>h.1 e.symm)]
theorem fold_at {i:Nat} (A B:List Nat) (st:Tq) (hB:i∉B) (hi:i<st.1.length):((A++i::B).foldl (stp ns) st).1[i]? = some (wrd (st.2+tot ns A) (ky ns i)):=by
 rw [List.foldl_append,List.foldl_cons,ME B _ hB];show ((A.foldl (stp ns) st).1.set i _)[i]? = _;rw [List.getElem?_set_self (by rw [LE];exact hi),Vm]
theorem aEY {f:Nat→Nat} {o:List Nat} {i:Nat}:i∈Cr f o↔i∈o∧1≤f i∧f i≤15:=by
 unfold Cr;rw [List.mem_flatMap]
 constructor
 ·rintro ⟨s,hs,h⟩;have h1:=List.mem_range'_1.1 hs;have h2:=List.mem_filter.1 h;have h3:=bW h2.2;exact ⟨h2.1,by omega,by omega⟩
 ·rintro ⟨h1,h2,h3⟩;exact ⟨f i,List.mem_range'_1.2 ⟨h2,by omega⟩,List.mem_filter.2 ⟨h1,dT rfl⟩⟩
theorem aCq (f:Nat→Nat) {o:List Nat} (ho:o.Pairwise (· < ·)):(Cr f o).Pairwise (fun a b=>f a≤f b∧a≠b):=by
 unfold Cr
 have:∀(j s:Nat),((List.range' s j).flatMap fun s=>o.filter fun i=>decide (f i=s)).Pairwise (fun a b=>f a≤f b∧a≠b):=by
  intro j
  induction j with
  | zero=>intro s;exact List.Pairwise.nil
  | succ j ih=>
   intro s;rw [List.range'_succ,List.flatMap_cons,List.pairwise_append];refine ⟨?_,ih (s+1),?_⟩
   ·refine List.Pairwise.imp_of_mem ?_ (ho.filter _);intro a b ha hb hab;have h1:=bW (List.mem_filter.1 ha).2;have h2:=bW (List.mem_filter.1 hb).2;exact ⟨by omega,by omega⟩
   ·intro a ha b hb;have h1:=bW (List.mem_filter.1 ha).2;obtain ⟨q,hq,hb⟩:=List.mem_flatMap.1 hb;have h3:=List.mem_range'_1.1 hq;have h2:=bW (List.mem_filter.1 hb).2;exact ⟨by omega,fun e=>by subst e;omega⟩
 exact this 15 1
def ord (ns:List Nat):List Nat:=Cr (ky ns) (List.range' 0 ns.length)
theorem Xa (ns:List Nat):(ord ns).Pairwise (fun a b=>ky ns a≤ky ns b∧a≠b):=aCq _ List.pairwise_lt_range'
theorem Qm {i:Nat} (hn:∀n∈ns,n≤15):i∈ord ns↔i<ns.length∧1≤ky ns i:=by
 unfold ord;rw [aEY,List.mem_range'_1];have:=Po hn i
 omega
theorem OT {i:Nat} (hn:∀n∈ns,n≤15) (hi:i<ns.length) (h:ky ns i=0):(B7 ns)[i]? = some []:=by
 unfold B7;rw [ME _ _ (fun hm=>by have:=((Qm hn).1 hm).2;omega)]
 simp [hi]
theorem Nq {i:Nat} {A B:List Nat} (h:ord ns=A++i::B) (hi:i<ns.length):(B7 ns)[i]? = some (wrd (tot ns A) (ky ns i)):=by
 have hp:=Xa ns;rw [h,List.pairwise_append] at hp;have hB:i∉B:=fun hm=>((List.pairwise_cons.1 hp.2.1).1 i hm).2 rfl
 unfold B7;have h':Cr (ky ns) (List.range' 0 ns.length)=A++i::B:=h;rw [h',fold_at A B _ hB (by simpa using hi),Nat.zero_add]
theorem LF (S n:Nat):(wrd S n).length=n:=by unfold wrd;rw [tD,mO]
theorem Vq {n:Nat}:∀{A:List Nat},(∀a∈A,ky ns a≤n)→n≤15→2^(15-n)∣tot ns A
 | [],_,_=>Nat.dvd_zero _
 | a::A,h,hn=>by
  rw [zE];refine Nat.dvd_add (Nat.pow_dvd_pow 2 ?_) (Vq (fun b hb=>h b (by simp [hb])) hn);have:=h a sQ
  omega
theorem aHr {l m:List Nat} (hl:∀y∈l,y<2) (hm:∀y∈m,y<2) (h:Dw l=Dw m):l=m:=by
 have e:∀l:List Nat,(∀y∈l,y<2)→(Dw l).map (fun c=>c.toNat-48)=l:=fun l hl=>by
  unfold Dw;rw [List.map_map]
  conv=>rhs;rw [←List.map_id l]
  refine List.map_congr_left fun y hy=>?_
  have:=hl y hy
  rcases (show y=0∨y=1 by omega) with rfl|rfl <;> rfl
 rw [←e l hl,h,e m hm]
theorem aEZ {S n m:Nat} (hmn:m≤n) (hn:n≤15):(wrd S n).take m=Dw (uS 2 m (S/2^(15-m))):=by
 unfold wrd;rw [show n=m+(n-m) by omega,BS,Nn,List.take_append_of_le_length (by rw [tD,mO];exact pK _),List.take_of_length_le (by rw [tD,mO];exact pK _),Nat.div_div_eq_div_mul,←Nat.pow_add]
 congr 4
 omega
theorem aAY {S T n m:Nat} (hmn:m≤n) (hn:n≤15) (hS:S<32768) (hT:T<32768) (h:(wrd S m) <+: (wrd T n)):S/2^(15-m)=T/2^(15-m):=by
 have e:=List.prefix_iff_eq_take.1 h;rw [LF,aEZ hmn hn] at e;have h2:=aHr (FI aL _ _) (FI aL _ _) e;have h3:=bZ (num 2) h2;rw [F2,F2] at h3
 have lt:∀X,X<32768→X/2^(15-m)<2^m:=fun X hX=>by
  refine Nat.div_lt_of_lt_mul ?_;rw [←Nat.pow_add,show 15-m+m=15 by omega];exact hX
 rwa [Nat.mod_eq_of_lt (lt S hS),Nat.mod_eq_of_lt (lt T hT)] at h3
theorem Ue {α:Type} {x y:α}:∀{l:List α},x∈l→y∈l→x≠y→(∃A B C,l=A++x::(B++y::C))∨∃A B C,l=A++y::(B++x::C)
 | [],h,_,_=>by cases h
 | z::l,hx,hy,hne=>by
  rcases List.mem_cons.1 hx with rfl|hx'
  ·rcases List.mem_cons.1 hy with rfl|hy'
   ·exact absurd rfl hne
   ·obtain ⟨B,C,rfl⟩:=List.append_of_mem hy';exact .inl ⟨[],B,C,rfl⟩
  ·rcases List.mem_cons.1 hy with rfl|hy'
   ·obtain ⟨B,C,rfl⟩:=List.append_of_mem hx';exact .inr ⟨[],B,C,rfl⟩
   ·rcases Ue hx' hy' hne with ⟨A,B,C,rfl⟩|⟨A,B,C,rfl⟩
    ·exact .inl ⟨z::A,B,C,rfl⟩
    ·exact .inr ⟨z::A,B,C,rfl⟩
theorem aE0 (hn:∀n∈ns,n≤15) (hK:tot ns (ups ns 0 ns.length)≤32768) {i j:Nat} {u v:aR} (hij:i≠j) (hu:(B7 ns)[i]? = some u) (hv:(B7 ns)[j]? = some v) (h0:u≠[]):¬(u <+: v):=by
 intro hp;have gK:(B7 ns).length=ns.length:=by unfold B7;rw [LE,List.length_replicate]
 have hi:i<ns.length:=by rw [←gK];exact (List.getElem?_eq_some_iff.1 hu).1
 have hj:j<ns.length:=by rw [←gK];exact (List.getElem?_eq_some_iff.1 hv).1
 have hT:tot ns (ord ns)≤32768:=by
  unfold ord;rw [←Vp,Vo _ fun x hx=>⟨(Ql hx).2.2,Po hn x⟩];exact hK
 have hki:1≤ky ns i:=by
  rcases Nat.eq_zero_or_pos (ky ns i) with h|h
  ·rw [OT hn hi h] at hu;cases hu;exact absurd rfl h0
  ·exact h
 have hkj:1≤ky ns j:=by
  rcases Nat.eq_zero_or_pos (ky ns j) with h|h
  ·rw [OT hn hj h] at hv;cases hv;exact absurd (List.prefix_nil.1 hp) h0
  ·exact h
 have aPp:=Po hn i;have aK3:=Po hn j;have hpi:=Nat.two_pow_pos (15-ky ns i);have hpj:=Nat.two_pow_pos (15-ky ns j);have Dj:=Xa ns
 rcases Ue ((Qm hn).2 ⟨hi,hki⟩) ((Qm hn).2 ⟨hj,hkj⟩) hij with ⟨A,B,C,h⟩|⟨A,B,C,h⟩
 ·
  have w1:=Nq h hi;have w2:=Nq (A:=A++i::B) (B:=C) (by rw [h];simp) hj;rw [hu] at w1;rw [hv] at w2;cases w1;cases w2;have hle:=hp.length_le;rw [LF,LF] at hle;rw [h,E6,zE,E6,zE] at hT;rw [E6,zE] at hp;have e:=aAY hle aK3 oQ oQ hp;rw [h,List.pairwise_append] at Dj;have hd:2^(15-ky ns i)∣tot ns A:=Vq (fun a ha=>(Dj.2.2 a ha i sQ).1) aPp;obtain ⟨q,hq⟩:=hd;rw [hq,Nat.mul_div_cancel_left _ hpi,show 2^(15-ky ns i)*q+(2^(15-ky ns i)+tot ns B)=2^(15-ky ns i)*(q+1)+tot ns B by rw [Nat.mul_add];omega,Nat.mul_add_div hpi] at e
  generalize tot ns B/2^(15-ky ns i)=z at e
  omega
 ·
  have w1:=Nq (A:=A++j::B) (B:=C) (by rw [h];simp) hi;have w2:=Nq h hj;rw [hu] at w1;rw [hv] at w2;cases w1;cases w2;have hle:=hp.length_le;rw [LF,LF] at hle;rw [h,List.pairwise_append] at Dj;have hle2:ky ns j≤ky ns i:=((List.pairwise_cons.1 Dj.2.1).1 i sQ).1;have hkk:ky ns i=ky ns j:=oQ
  rw [h,E6,zE,E6,zE] at hT;rw [E6,zE] at hp;have e:=aAY hle aK3 oQ oQ hp;have hd:2^(15-ky ns j)∣tot ns A:=Vq (fun a ha=>(Dj.2.2 a ha j sQ).1) aK3;obtain ⟨q,hq⟩:=hd;rw [hkk,hq,Nat.mul_div_cancel_left _ hpj,show 2^(15-ky ns j)*q+(2^(15-ky ns j)+tot ns B)=2^(15-ky ns j)*(q+1)+tot ns B by rw [Nat.mul_add];omega,Nat.mul_add_div hpj] at e
  generalize tot ns B/2^(15-ky ns j)=z at e
  omega
end
def PF (W:List aR):Prop:=∀(i j:Nat) (u v:aR),i≠j→W[i]? = some u→W[j]? = some v→u≠[]→¬(u <+: v)
def OU (W:List aR):Prop:=∀w∈W,D7 w=true∧w.length≤15
theorem Vr {l:List Nat} (h:∀y∈l,y<2):D7 (Dw l)=true:=by
 unfold D7 Dw;rw [List.all_map,List.all_eq_true];intro y hy;have:=h y hy
 rcases (show y=0∨y=1 by omega) with rfl|rfl <;> rfl
theorem Ry (l:List Int):PF (dL l):=by
 intro i j u v hij hu hv h0;unfold dL at hu hv
 by_cases h:oH l=0
 ·obtain ⟨ns,rfl,h1,h2,h3,h4,h5⟩:=DM h;rw [aF h,IA] at hu hv;exact aE0 h1 h4 hij hu hv h0
 ·rw [aE h] at hu;simp at hu
theorem nG (l:List Int):OU (dL l):=by
 intro w hw;unfold dL at hw
 by_cases h:oH l=0
 ·obtain ⟨ns,rfl,h1,h2,h3,h4,h5⟩:=DM h;rw [aF h,IA] at hw;obtain ⟨i,hi⟩:=List.mem_iff_getElem?.1 hw;have gK:(B7 ns).length=ns.length:=by unfold B7;rw [LE,List.length_replicate]
  have hi':i<ns.length:=by rw [←gK];exact (List.getElem?_eq_some_iff.1 hi).1
  rcases Nat.eq_zero_or_pos (ky ns i) with h0|h0
  ·rw [OT h1 hi' h0] at hi;cases hi;exact ⟨rfl,by simp⟩
  ·obtain ⟨A,B,hAB⟩:=List.append_of_mem ((Qm h1).2 ⟨hi',h0⟩);rw [Nq hAB hi'] at hi;cases hi;refine ⟨Vr (FI aL _ _),?_⟩;rw [LF];exact Po h1 i
 ·rw [aE h] at hw;cases hw
theorem DN {α:Type} {xs:List α} {k:Nat} (h:k≤xs.length):Fs xs 0 (k:Int)=some (xs.take k):=by
 rw [EE oQ,fM];rfl
theorem IB {α:Type} {xs:List α} {k:Nat} (h:k≤xs.length):Fs xs (k:Int) (xs.length:Int)=some (xs.drop k):=by
 rw [EE oQ,fM,fM,List.take_length]
theorem KQ {m:List lC} {s:aR} (h:s.length≤140737488355328):QB m s=some ((xT m s).getD 0,(xT m s).isSome):=by unfold QB;rw [aF h]
theorem aAZ {m:List lC} {s:aR} {v:Int} (h:m.length<1099511627776∧s.length≤140737488355328∧-9223372036854775808≤v∧v≤9223372036854775807):YA m s v=some ((s,v)::m):=by unfold YA;rw [aF h]
theorem LG (k s:aR) (v:Int) (m:List lC):xT ((k,v)::m) s=if k=s then some v else xT m s:=rfl
structure BK (V:List aR) (m:List lC):Prop where
 wd:∀(i:Nat) (s:aR),V[i]? = some s→s≠[]→xT m s=some (i:Int)
 pr:∀(s w:aR),w∈V→s <+: w→s≠w→xT m s=some (-1)
 no:∀(s:aR),(∀w∈V,w≠[]→¬s <+: w)→xT m s=none
theorem PF.sub {V:List aR} {w:aR} (h:PF (V++[w])):PF V:=fun i j u v hij hu hv h0=>
 h i j u v hij (by rw [List.getElem?_append_left (List.getElem?_eq_some_iff.1 hu).1];exact hu) (by rw [List.getElem?_append_left (List.getElem?_eq_some_iff.1 hv).1];exact hv) h0
theorem PF.last {V:List aR} {w u:aR} (h:PF (V++[w])) (hu:u∈V):(u≠[]→¬u <+: w)∧(w≠[]→¬w <+: u):=by
 obtain ⟨i,hi⟩:=List.mem_iff_getElem?.1 hu;have hlt:=(List.getElem?_eq_some_iff.1 hi).1;have h1:(V++[w])[i]? = some u:=by rw [List.getElem?_append_left hlt];exact hi
 have h2:(V++[w])[V.length]? = some w:=by simp
 exact ⟨h i V.length u w oQ h1 h2,h V.length i w u oQ h2 h1⟩
theorem BK.step {V:List aR} {w:aR} {m m2:List lC} (B:BK V m) (hp:PF (V++[w])) (hw:w≠[])
  (h1:∀s,s <+: w→s≠w→xT m s=none→xT m2 s=some (-1)) (h2:∀s,¬(s <+: w∧s≠w∧xT m s=none)→xT m2 s=xT m s):BK (V++[w]) ((w,(V.length:Int))::m2):=by
 have pre:∀s,s <+: w→s≠w→xT m2 s=some (-1):=fun s h3 h4=>by
  rcases hm:xT m s with _|x
  ·exact h1 s h3 h4 hm
  ·rw [h2 s (fun h=>by rw [h.2.2] at hm;cases hm),hm]
   by_cases hex:∃u∈V,u≠[]∧s <+: u
   ·obtain ⟨u,hu,hu0,hsu⟩:=hex
    by_cases e:s=u
    ·subst e;exact absurd h3 ((hp.last hu).1 hu0)
    ·rw [←hm];exact B.pr s u hu hsu e
   ·rw [B.no s fun u hu hu0 hsu=>hex ⟨u,hu,hu0,hsu⟩] at hm;cases hm
 refine ⟨fun i s hi h0=>?_,fun s u hu h3 h4=>?_,fun s h=>?_⟩
 ·rw [LG]
  by_cases hlt:i<V.length
  ·rw [List.getElem?_append_left hlt] at hi;have hmem:=List.mem_of_getElem? hi;rw [aE (fun e=>by subst e;exact (hp.last hmem).1 h0 (List.prefix_refl _)),h2 s (fun h=>(hp.last hmem).1 h0 h.1)];exact B.wd i s hi h0
  ·have hl:=(List.getElem?_eq_some_iff.1 hi).1
   simp at hl
   obtain rfl:i=V.length:=oQ
   simp at hi
   rw [aF hi]
 ·rw [LG]
  rcases List.mem_append.1 hu with hu|hu
  ·rw [aE (fun e=>by subst e;exact (hp.last hu).2 hw h3)];have:=B.pr s u hu h3 h4;rw [h2 s (fun h=>by rw [h.2.2] at this;cases this)];exact this
  ·obtain rfl:u=w:=by simpa using hu
   rw [aE (fun e=>h4 e.symm)];exact pre s h3 h4
 ·rw [LG];have hsw:=h w sQ hw;rw [aE (fun e=>hsw (by subst e;exact List.prefix_refl _)),h2 s (fun h=>hsw h.1)];exact B.no s fun u hu hu0=>h u (by simp [hu]) hu0
theorem BK.nil {V:List aR} {m:List lC} (B:BK V m):BK (V++[[]]) m:=by
 refine ⟨fun i s hi h0=>?_,fun s u hu h3 h4=>?_,fun s h=>?_⟩
 ·by_cases hlt:i<V.length
  ·rw [List.getElem?_append_left hlt] at hi;exact B.wd i s hi h0
  ·have hl:=(List.getElem?_eq_some_iff.1 hi).1
   simp at hl
   obtain rfl:i=V.length:=oQ
   simp at hi
   exact absurd hi h0
 ·rcases List.mem_append.1 hu with hu|hu
  ·exact B.pr s u hu h3 h4
  ·obtain rfl:u=[]:=by simpa using hu
   exact absurd (List.prefix_nil.1 h3) h4
 ·exact B.no s fun u hu hu0=>h u (by simp [hu]) hu0
theorem aHs (N:Nat) {w:aR} (hw:w.length≤15) (m0:List lC) (kk:Pg→Option Cf) (r) (T:Nat) (hT:T≤1000)
  (hk:∀m2 i,m2.length≤T+w.length→(∀s,s <+: w→s≠w→xT m0 s=none→xT m2 s=some (-1))→(∀s,¬(s <+: w∧s≠w∧xT m0 s=none)→xT m2 s=xT m0 s)→kk (m2,i)=r) :
  ∀(j k aA:Nat) (m:List lC),k+j=w.length→j<aA→m.length≤T+k→(∀s,xT m s=if (∃q,q<k∧s=w.take q)∧xT m0 s=none then some (-1) else xT m0 s) →
  wB N w kk aA (m,(k:Int))=r:=by
 intro j
 induction j with
 | zero=>
  intro k aA m hkj hf hml hm;obtain ⟨aA,rfl⟩:=kF aA oQ;unfold wB;rw [nL];refine hk m _ oQ (fun s h1 h2 h3=>?_) (fun s h=>?_)
  ·rw [hm,aF];refine ⟨⟨s.length,?_,(List.prefix_iff_eq_take.1 h1)⟩,h3⟩;have hle:=h1.length_le
   rcases Nat.lt_or_ge s.length w.length with h|h
   ·omega
   ·exact absurd (h1.eq_of_length oQ) h2
  ·rw [hm,aE];rintro ⟨⟨q,hq,rfl⟩,h3⟩;refine h ⟨List.take_prefix _ _,fun e=>?_,h3⟩;have:=bZ List.length e;rw [yQ] at this
   omega
 | succ j ih=>
  intro k aA m hkj hf hml hm;obtain ⟨aA,rfl⟩:=kF aA oQ;have hnx:aC.wrap ((k:Int)+1)=((k+1:Nat):Int):=by rw [cM oQ];rfl
  have hlt:(w.take k).length=k:=by rw [yQ];omega
  have inj:∀q,q<k→w.take k≠w.take q:=fun q hq e=>by
   have:=bZ List.length e;rw [hlt,yQ] at this
   omega
  have hsame:xT m (w.take k)=xT m0 (w.take k):=by
   rw [hm,aE];rintro ⟨⟨q,hq,e⟩,_⟩;exact inj q hq e
  unfold wB;rw [p8,DN oQ,aD,KQ oQ,aD,hsame]
  rcases h0:xT m0 (w.take k) with _|x
  ·rw [cT rQ,aD,aAZ oQ,aD,hnx];refine ih (k+1) aA _ oQ oQ uW fun s=>?_
   rw [LG,hm]
   by_cases e:w.take k=s
   ·subst e;rw [aF rfl,aF ⟨⟨k,by omega,rfl⟩,h0⟩]
   ·rw [aE e]
    have:(∃q,q<k+1∧s=w.take q)↔∃q,q<k∧s=w.take q:=by
     constructor
     ·rintro ⟨q,hq,rfl⟩
      rcases Nat.lt_or_ge q k with h|h
      ·exact ⟨q,h,rfl⟩
      ·obtain rfl:q=k:=oQ
       exact absurd rfl e
     ·rintro ⟨q,hq,rfl⟩;exact ⟨q,by omega,rfl⟩
    simp only [this]
  ·rw [cF rQ,hnx];refine ih (k+1) aA m oQ oQ oQ fun s=>?_
   rw [hm]
   have:((∃q,q<k+1∧s=w.take q)∧xT m0 s=none)↔(∃q,q<k∧s=w.take q)∧xT m0 s=none:=by
    constructor
    ·rintro ⟨⟨q,hq,rfl⟩,h3⟩
     rcases Nat.lt_or_ge q k with h|h
     ·exact ⟨⟨q,h,rfl⟩,h3⟩
     ·obtain rfl:q=k:=oQ
      rw [h0] at h3;cases h3
    ·rintro ⟨⟨q,hq,rfl⟩,h3⟩;exact ⟨⟨q,by omega,rfl⟩,h3⟩
   simp only [this]
theorem aHt (N:Nat) (hN:100≤N) {W:List aR} (hW:W.length≤17) (hb:OU W) (hp:PF W) (e:Int) (kk:Pg→Option Cf) (r) (hk:∀m i,BK W m→kk (m,i)=r) :
  ∀(j k aA:Nat) (m:List lC),k+j=W.length→j<aA→m.length≤16*k→BK (W.take k) m→wC N (W,e) kk aA (m,(k:Int))=r:=by
 intro j
 induction j with
 | zero=>
  intro k aA m hkj hf hml B;obtain ⟨aA,rfl⟩:=kF aA oQ;unfold wC;rw [cF (dF (by show ¬((k:Int)<(W.length:Int));omega))];rw [List.take_of_length_le oQ] at B;exact hk _ _ B
 | succ j ih=>
  intro k aA m hkj hf hml B;obtain ⟨aA,rfl⟩:=kF aA oQ;have hlt:k<W.length:=oQ
  have hnx:aC.wrap ((k:Int)+1)=((k+1:Nat):Int):=by rw [cM oQ];rfl
  have hw:=hb _ (List.getElem_mem hlt);have htk:W.take (k+1)=W.take k++[W[k]]:=by rw [List.take_add_one,f9 hlt];rfl
  have hpk:PF (W.take k++[W[k]]):=by
   rw [←htk];intro i j' u v hij hu hv h0;rw [List.getElem?_take] at hu hv
   split at hu
   ·split at hv
    ·exact hp i j' u v hij hu hv h0
    ·cases hv
   ·cases hu
  have hkl:(W.take k).length=k:=by rw [yQ];omega
  unfold wC;rw [cT (dT (by show (k:Int)<(W.length:Int);omega)),dC];show dH W[k]? _=_;rw [f9 hlt,aD];refine aHs N hw.2 m _ r (16*k) oQ (fun m2 i hm2 h1 h2=>?_) W[k].length 0 N m oQ oQ oQ (fun s=>by rw [aE];rintro ⟨⟨q,hq,_⟩,_⟩;omega)
  dsimp only
  by_cases h0:W[k]=[]
  ·rw [cF (by rw [dT h0];rfl),hnx];refine ih (k+1) aA m2 oQ oQ (by have:=hw.2;omega) ?_;rw [htk,h0];have B2:=B.nil;have same:∀s,xT m2 s=xT m s:=fun s=>h2 s fun h=>by rw [h0] at h;exact h.2.1 (List.prefix_nil.1 h.1)
   exact ⟨fun i s a b=>by rw [same];exact B2.wd i s a b,fun s w a b c=>by rw [same];exact B2.pr s w a b c,fun s a=>by rw [same];exact B2.no s a⟩
  ·rw [cT (by rw [dF h0];rfl),aAZ (by have:=hw.2;omega),aD,hnx];refine ih (k+1) aA _ oQ oQ (by have:=hw.2;simp;omega) ?_;rw [htk];have:=B.step hpk h0 h1 h2;rw [hkl] at this;exact this
def isW (b w:aR):Bool:=!w.isEmpty&&w.isPrefixOf b
def Vs (W:List aR) (b:aR):Option Nat:=W.findIdx? (isW b)
def V9 (W:List aR) (b:aR):Int:=if W.any (fun w=>!w.isEmpty&&b.isPrefixOf w)=true then 5 else 4
def rdL (W:List aR):Nat→List Int→aR→Cf
 | 0,out,b=>(out,b,0)
 | n+1,out,b=>match Vs W b with
  | some i=>rdL W n (out++[(i:Int)]) (b.drop (W.getD i []).length)
  | none=>([],[],V9 W b)
theorem Qn {b w:aR}:isW b w=true↔w≠[]∧w <+: b:=by
 unfold isW;rw [o9,List.isPrefixOf_iff_prefix]
 cases w <;> simp
theorem IC {W:List aR} {b:aR} {i:Nat} (h:Vs W b=some i):∃u,W[i]? = some u∧u≠[]∧u <+: b:=by
 obtain ⟨hi,h1,_⟩:=List.findIdx?_eq_some_iff_getElem.1 h;obtain ⟨h2,h3⟩:=Qn.1 h1;exact ⟨_,f9 hi,h2,h3⟩
theorem Rz {W:List aR} {b:aR} (h:Vs W b=none):∀w∈W,w≠[]→¬w <+: b:=fun w hw h0 hp=>by
 have:=List.findIdx?_eq_none_iff.1 h w hw;rw [Qn.2 ⟨h0,hp⟩] at this;cases this
theorem aK4 {W:List aR} (hp:PF W) {b u:aR} {i:Nat} (hi:W[i]? = some u) (h0:u≠[]) (hb:u <+: b):Vs W b=some i:=by
 rcases h:Vs W b with _|j
 ·exact absurd hb (Rz h u (List.mem_of_getElem? hi) h0)
 ·obtain ⟨v,hv,hv0,hvb⟩:=IC h
  by_cases e:j=i
  ·rw [e]
  ·exfalso
   rcases Nat.le_total u.length v.length with hl|hl
   ·exact hp i j u v (fun q=>e q.symm) hi hv h0 (List.prefix_of_prefix_length_le hb hvb hl)
   ·exact hp j i v u e hv hi hv0 (List.prefix_of_prefix_length_le hvb hb hl)
section
variable {W:List aR} {m:List lC} (hb:OU W) (B:BK W m) {b:aR} (hbl:b.length≤16777216)
  (kk:aN→Option Cf)
include B hbl in
theorem aE1 (N:Nat) {u:aR} {i:Nat} (hi:W[i]? = some u) (h0:u≠[]) (hu:u <+: b):∀(j k aA:Nat),k+j=u.length→j+1<aA→nO N m b kk aA ((k:Int),-1)=kk ((u.length:Int),(i:Int)):=by
 intro j;have hle:=hu.length_le;have hut:=List.prefix_iff_eq_take.1 hu
 induction j with
 | zero=>
  intro k aA hkj hf;obtain ⟨aA,rfl⟩:∃q,aA=q+2:=⟨aA-2,by omega⟩
  obtain rfl:k=u.length:=oQ
  unfold nO;rw [cT aL,DN oQ,aD,KQ (by rw [yQ];omega),aD,←hut,B.wd i u hi h0,cF rQ,cT (by exact dT (Int.natCast_nonneg _))];show nO N m b kk (aA+1) ((u.length:Int),(i:Int))=_;unfold nO;rw [nL]
 | succ j ih=>
  intro k aA hkj hf;obtain ⟨aA,rfl⟩:=kF aA oQ;have hnx:aC.wrap ((k:Int)+1)=((k+1:Nat):Int):=by rw [cM oQ];rfl
  have hpr:xT m (b.take k)=some (-1):=by
   have e:b.take k=u.take k:=by rw [hut,List.take_take,Nat.min_eq_left oQ]
   rw [e];refine B.pr _ u (List.mem_of_getElem? hi) (List.take_prefix _ _) fun e=>?_
   have:=bZ List.length e;rw [yQ] at this
   omega
  unfold nO;rw [cT aL,DN oQ,aD,KQ (by rw [yQ];omega),aD,hpr,cF rQ,cF rQ,nL,hnx,aD];exact ih (k+1) aA oQ oQ
include hb B hbl in
theorem aCr (N:Nat) (hno:∀w∈W,w≠[]→¬w <+: b):∀(j k aA:Nat),k+j=16→k≤b.length→j<aA→nO N m b kk aA ((k:Int),-1)=some ([],[],V9 W b):=by
 intro j
 induction j with
 | zero=>
  intro k aA hkj hkb hf;obtain ⟨aA,rfl⟩:=kF aA oQ
  have aE2:∀w∈W,w≠[]→¬(b.take k) <+: w:=fun w hw _ h=>by
   have h1:=h.length_le;have:=(hb w hw).2;rw [yQ] at h1
   omega
  unfold nO;rw [cT aL,DN oQ,aD,KQ (by rw [yQ];omega),aD,B.no _ aE2,cT rQ];unfold V9;rw [aE];rw [List.any_eq_true];rintro ⟨w,hw,h⟩;have h2:=Qn (b:=w) (w:=b);simp only [o9,List.isPrefixOf_iff_prefix] at h;have h1:=h.2.length_le;have:=(hb w hw).2
  omega
 | succ j ih=>
  intro k aA hkj hkb hf;obtain ⟨aA,rfl⟩:=kF aA oQ;have hnx:aC.wrap ((k:Int)+1)=((k+1:Nat):Int):=by rw [cM oQ];rfl
  unfold nO;rw [cT aL,DN hkb,aD,KQ (by rw [yQ];omega),aD]
  by_cases hex:∃w∈W,w≠[]∧(b.take k) <+: w
  ·obtain ⟨w,hw,hw0,hwp⟩:=hex;have hne:b.take k≠w:=fun e=>hno w hw hw0 (by rw [←e];exact List.take_prefix _ _)
   rw [B.pr _ w hw hwp hne,cF rQ,cF rQ]
   by_cases he:k=b.length
   ·rw [p8];unfold V9;rw [aF];rw [List.any_eq_true];refine ⟨w,hw,?_⟩;rw [he,List.take_length] at hwp;rw [o9,List.isPrefixOf_iff_prefix];exact ⟨by cases w;exact absurd rfl hw0;rfl,hwp⟩
   ·rw [nL,hnx,aD];exact ih (k+1) aA oQ oQ oQ
  ·rw [B.no _ (fun w hw hw0 hwp=>hex ⟨w,hw,hw0,hwp⟩),cT rQ];unfold V9;rw [aE];rw [List.any_eq_true];rintro ⟨w,hw,h⟩;simp only [o9,List.isPrefixOf_iff_prefix] at h;refine hex ⟨w,hw,?_,(List.take_prefix _ _).trans h.2⟩;intro e;rw [e] at h;simp at h
end
theorem aHu (N:Nat) (hN:5000≤N) {W:List aR} {m:List lC} (hb:OU W) (B:BK W m) {p:Nat} (hp:p≤4096):∀(n aA:Nat) (out:List Int) (b:aR),out.length+n=p→n<aA→b.length≤16777216 →
  uF N (p:Int) m (fun (l6,o3)=>some (l6,o3,0)) aA (out,b)=some (rdL W n out b):=by
 intro n
 induction n with
 | zero=>
  intro aA out b ho hf hbl;obtain ⟨aA,rfl⟩:=kF aA oQ;unfold uF;rw [nL];rfl
 | succ n ih=>
  intro aA out b ho hf hbl;obtain ⟨aA,rfl⟩:=kF aA oQ;unfold uF;rw [p8]
  rcases h:Vs W b with _|i
  ·have:=aCr hb B hbl (fun (i12,Na)=>dH (app 8 out ([Na]:List Int)) fun l5=>dH (Fs b i12 (b.length:Int)) fun s13=>uF N (p:Int) m (fun (l6,o3)=>some (l6,o3,0)) aA (l5,s13)) N (Rz h) 16 0 N oQ oQ oQ;refine Eq.trans this ?_;unfold rdL;rw [h]
  ·obtain ⟨u,hu,hu0,hub⟩:=IC h;have aQp:=(hb u (List.mem_of_getElem? hu)).2;have:=aE1 B hbl (fun (i12,Na)=>dH (app 8 out ([Na]:List Int)) fun l5=>dH (Fs b i12 (b.length:Int)) fun s13=>uF N (p:Int) m (fun (l6,o3)=>some (l6,o3,0)) aA (l5,s13)) N hu hu0 hub u.length 0 N oQ oQ;refine Eq.trans this ?_
   dsimp only
   rw [iQ uW,aD,IB hub.length_le,aD,ih aA _ _ uW oQ (by rw [List.length_drop];omega)]
   conv=>rhs;unfold rdL
   rw [h]
   dsimp only
   rw [qG,hu];rfl
def aA0 (l:List Int) (b:aR) (n:Int):Cf:=
 if oH l≠0 then ([],[],oH l) else if n<0∨4096<n then ([],[],3) else if D7 b=true then rdL (dL l) n.toNat [] b else ([],[],1)
theorem Uf (N:Nat) (l:List Int) (b:aR) (n:Int) (hb:b.length≤16777216) (hN:5000≤N∧b.length<N):Bb N l b n=some (aA0 l b n):=by
 unfold Bb aA0;rw [Zu N oQ,aD]
 by_cases h:oH l=0
 ·rw [cF (by rw [show (dL l,oH l).2=0 from h];rfl),aE (by simpa using h)]
  by_cases h1:n<0
  ·rw [cT (dT h1),aF (.inl h1)]
  rw [cF (dF h1)]
  by_cases h2:4096<n
  ·rw [cT (dT h2),aF (.inr h2)]
  rw [cF (dF h2),aE oQ,Zr N hb hN.2,aD]
  by_cases h3:D7 b=true
  ·rw [aF h3,aF h3,cF rQ]
   have aPq:(dL l).length≤17:=by
    rw [zQ h];obtain ⟨ns,rfl,_,_,Xb,_⟩:=DM h;rw [kL];exact Xb
   obtain ⟨q,rfl⟩:=sC (show 0≤n by omega);refine aHt N oQ aPq (nG l) (Ry l) (oH l) _ _ (fun m i B=>?_) (dL l).length 0 N [] oQ oQ sQ ⟨fun i s h=>by simp at h,fun s w h=>by simp at h,fun s _=>rfl⟩;exact aHu N hN.1 (nG l) B oQ q N [] b sQ oQ hb
  ·rw [aE h3,aE h3,cT rQ]
 ·rw [cT (by rw [show (dL l,oH l).2=oH l from rfl,dF h];rfl),aF h]
theorem Ug (N:Nat) (s w:aR) (hs:s.length≤16777216):qL N s w=some (w.isPrefixOf s):=by
 unfold qL;have e:w.isPrefixOf s=decide (w <+: s):=by rw [Bool.eq_iff_iff,List.isPrefixOf_iff_prefix,decide_eq_true_iff]
 rw [e]
 by_cases h:w.length≤s.length
 ·rw [p8,DN h,aD]
  congr 1
  rw [decide_eq_decide]
  constructor
  ·intro q;rw [←q];exact List.take_prefix _ _
  ·intro q;exact (List.prefix_iff_eq_take.1 q).symm
 ·rw [nL,dF (fun q=>h q.length_le)]
theorem aE3 (N:Nat) {W:List aR} (hW:W.length≤1000) (hb:OU W) {b:aR} (hbl:b.length≤16777216):∀(j k aA:Nat) (short:Bool),k+j=W.length→j<aA →
  kR N W b (fun (UU,i8)=>cond (UU) (some (0,5)) (some (0,4))) aA (short,(k:Int)) =
   some (match (W.drop k).findIdx? (isW b) with|some i=>(((k+i:Nat):Int),0)|none=>if (short||(W.drop k).any fun w=>!w.isEmpty&&b.isPrefixOf w)=true then (0,5) else (0,4)):=by
 intro j
 induction j with
 | zero=>
  intro k aA short hk hf;obtain ⟨aA,rfl⟩:=kF aA oQ;obtain rfl:k=W.length:=oQ
  unfold kR;rw [nL,List.drop_length]
  cases short <;> rfl
 | succ j ih=>
  intro k aA short hk hf;obtain ⟨aA,rfl⟩:=kF aA oQ;have hlt:k<W.length:=oQ
  have hnx:aC.wrap ((k:Int)+1)=((k+1:Nat):Int):=by rw [cM oQ];rfl
  have hw:=(hb _ (List.getElem_mem hlt)).2
  have hsh:∀(o:Option Nat) (s1 s2:Bool),s1=s2→(match o.map (· + 1) with|some i=>(((k+i:Nat):Int),(0:Int))|none=>if s1=true then (0,5) else (0,4))=(match o with|some i=>(((k+1+i:Nat):Int),0)|none=>if s2=true then (0,5) else (0,4)):=by
   intro o s1 s2 hs;subst hs;cases o with
   | none=>rfl
   | some i=>show (((k+(i+1):Nat):Int),(0:Int))=(((k+1+i:Nat):Int),0);rw [show k+(i+1)=k+1+i by omega]
  unfold kR;rw [p8,dC,f9 hlt,aD,zC hlt,List.findIdx?_cons,List.any_cons]
  generalize W[k]=w at hw ⊢
  by_cases h0:w=[]
  ·subst h0;rw [cT (dT rfl),hnx,aD,ih (k+1) aA short oQ oQ,show isW b []=false from rfl];rw [aE Bool.false_ne_true];exact bZ some (hsh _ _ _ rfl).symm
  ·have he:(!w.isEmpty)=true:=by cases hc:w;exact absurd hc h0;rfl
   have hi:isW b w=w.isPrefixOf b:=by unfold isW;rw [he,tF]
   rw [cF (dF h0),aD,Ug N b w hbl,aD,hi,he,tF]
   by_cases h1:w.isPrefixOf b=true
   ·rw [cT h1,aF h1];rfl
   ·rw [cF ((Bool.not_eq_true _).mp h1),aE h1];cases short with
    | true=>
     rw [cT rfl,hnx,aD,ih (k+1) aA true oQ oQ];exact bZ some (hsh _ _ _ rfl).symm
    | false=>
     rw [cF rfl,aD,Ug N w b oQ,aD,hnx,aD,ih (k+1) aA _ oQ oQ];exact bZ some (hsh _ _ _ rfl).symm
theorem front_eq (N:Nat) (hN:1001≤N) {W:List aR} (hW:W.length≤1000) (hb:OU W) {b:aR} (hbl:b.length≤16777216):uM N W b=some (match Vs W b with|some i=>((i:Int),0)|none=>(0,V9 W b)):=by
 unfold uM;have key:=aE3 N hW hb hbl W.length 0 N false oQ oQ;rw [List.drop_zero] at key;refine Eq.trans key ?_;unfold Vs V9
 congr 1
 cases h:List.findIdx? (isW b) W with
 | some i=>simp
 | none=>
  dsimp only
  rw [Bool.false_or]
  split <;> rfl
theorem OV (W:List aR) (b:aR):V9 W b≠0:=by unfold V9;split <;> decide
theorem AK (a b:aR):D7 (a++b)=(D7 a&&D7 b):=by unfold D7;rw [List.all_append]
def okE (e:Int):Bool:=decide (0≤e∧e≤65535)
def plF (W H:Int) (P:List Int):Bool:=decide (oN W H P.length)&&P.all okE
theorem aE4 (N:Nat) {P:List Int} (hP:P.length≤4096) (kk):∀(j k aA:Nat),k+j=P.length→j<aA→lR N P kk aA (k:Int)=if (P.drop k).all okE=true then kk (P.length:Int) else some false:=by
 intro j
 induction j with
 | zero=>
  intro k aA hk hf;obtain ⟨aA,rfl⟩:=kF aA oQ;obtain rfl:k=P.length:=oQ
  unfold lR;rw [nL,List.drop_length,aF rQ]
 | succ j ih=>
  intro k aA hk hf;obtain ⟨aA,rfl⟩:=kF aA oQ;have hlt:k<P.length:=oQ
  have hnx:aC.wrap ((k:Int)+1)=((k+1:Nat):Int):=by rw [cM oQ];rfl
  unfold lR;rw [p8,dC,f9 hlt,aD,z6,aD,zC hlt,tK]
  by_cases h1:0≤P[k]∧P[k]≤65535
  ·rw [cF (by rw [dT h1];rfl),hnx,aD,ih (k+1) aA oQ oQ,show okE P[k]=true from dT h1,tF]
  ·rw [cT (by rw [dF h1];rfl),aE];rw [show okE P[k]=false from dF h1];simp
theorem Zv {W H:Int} {P:List Int} (h:¬oN W H P.length):plF W H P=false:=by unfold plF;rw [dF h];rfl
theorem aE5 (N:Nat) (hN:5000≤N) (W H:Int) (P:List Int):qX N W H P=some (plF W H P):=by
 unfold qX;rw [z6,aD]
 by_cases h1:1≤W∧W≤64
 rotate_left
 ·rw [cT (by rw [dF h1];rfl),Zv (fun h=>by unfold oN at h;omega)]
 rw [cF (by rw [dT h1];rfl),z6,aD]
 by_cases h3:1≤H∧H≤64
 rotate_left
 ·rw [cT (by rw [dF h3];rfl),Zv (fun h=>by unfold oN at h;omega)]
 have hb:=OG (W:=W) (H:=H) oQ;rw [cF (by rw [dT h3];rfl),cM oQ]
 by_cases h5:(P.length:Int)=W*H
 rotate_left
 ·rw [cT (by rw [dF h5];rfl),Zv (fun h=>by unfold oN at h;exact h5 h.2.2.2.2)]
 have hs:oN W H P.length:=⟨by omega,by omega,by omega,by omega,h5⟩
 rw [cF (by rw [dT h5];rfl)];have key:=aE4 N (P:=P) oQ (fun _=>some true) P.length 0 N oQ oQ;refine Eq.trans key ?_;unfold plF;rw [dT hs,tF,List.drop_zero]
 split
 ·rename_i h;rw [h]
 ·rename_i h;rw [(Bool.not_eq_true _).mp h]
def gsv (kind a b c:Int):Int:=if kind=1 then a else if kind=2 then b else if kind=3 then c else if kind=4 then a+b-c else if kind=5 then a+(b-c)/2 else if kind=6 then b+(a-c)/2 else (a+b)/2
def gs (W:Nat) (P:List Int) (kind:Int) (i:Nat):Int:=if i=0 then 32768 else if i/W=0 then P.getD (i-1) 0 else if i%W=0 then P.getD (i-W) 0 else gsv kind (P.getD (i-1) 0) (P.getD (i-W) 0) (P.getD (i-W-1) 0)
theorem aK5 {kind a b c:Int} (ha:0≤a∧a≤65535) (hb:0≤b∧b≤65535) (hc:0≤c∧c≤65535):-65535≤gsv kind a b c∧gsv kind a b c≤131070:=by
 unfold gsv
 repeat' split
 all_goals omega
section
variable {P:List Int} (hP:∀e∈P,0≤e∧e≤65535)
include hP in
theorem MF {j:Nat} (h:j<P.length):idx P (j:Int)=some (P.getD j 0)∧0≤P.getD j 0∧P.getD j 0≤65535:=by
 have e:P.getD j 0=P[j]:=by rw [qG,f9 h];rfl
 rw [e,dC,f9 h];exact ⟨rfl,hP _ (List.getElem_mem h)⟩
include hP in
theorem aE6 {W:Nat} {kind:Int} {i:Nat} (hW:1≤W) (hi:i<P.length):-65535≤gs W P kind i∧gs W P kind i≤131070:=by
 unfold gs
 split
 ·omega
 ·split
  ·have:=(MF hP (j:=i-1) oQ).2;omega
  ·split
   ·have:=(MF hP (j:=i-W) oQ).2;omega
   ·exact aK5 (MF hP oQ).2 (MF hP oQ).2 (MF hP oQ).2
theorem Xc {i W:Nat} (h:i/W≠0):W≤i∧0<W:=by
 rcases Nat.eq_zero_or_pos W with h0|h0
 ·subst h0;simp at h
 ·refine ⟨?_,h0⟩
  rcases Nat.lt_or_ge i W with h1|h1
  ·exact absurd (Nat.div_eq_of_lt h1) h
  ·exact h1
include hP in
theorem Zw (N:Nat) {W:Nat} (hW:1≤W∧W≤64) {kind:Int} (hk:1≤kind∧kind≤7) (H:Int) {i:Nat} (hi:i<P.length) (hl:P.length≤4096):tR N (W:Int) H P kind (i:Int)=some (gs W P kind i):=by
 unfold tR gs;obtain ⟨t1,t2⟩:=tdm (W:=W) i oQ;rw [AJ oQ,aD,aD,t2,t1]
 by_cases h0:i=0
 ·rw [p8,aF h0]
 have hdl:i/W≤i:=Nat.div_le_self _ _;rw [nL,aE h0,cM (x:=((i/W:Nat):Int)) ⟨Int.le_trans aL (Int.natCast_nonneg _),Int.le_trans (Int.ofNat_le.2 hdl) oQ⟩];have e1:aC.wrap ((i:Int)-1)=((i-1:Nat):Int):=by rw [cM oQ];omega
 by_cases h1:i/W=0
 ·rw [cT (dT (by rw [h1];rfl)),aF h1,e1,(MF hP (j:=i-1) oQ).1];rfl
 obtain ⟨hWi,hW0⟩:=Xc h1;have e2:aC.wrap ((i:Int)-(W:Int))=((i-W:Nat):Int):=by rw [cM oQ];omega
 rw [cF (dF (fun h=>h1 (by exact_mod_cast h))),aE h1,e2]
 by_cases h2:i%W=0
 ·rw [cT (dT (by rw [h2];rfl)),aF h2,(MF hP (j:=i-W) oQ).1];rfl
 have hlt:W<i:=by
  rcases Nat.lt_or_ge W i with h|h
  ·exact h
  ·obtain rfl:i=W:=oQ
   simp at h2
 have e3:aC.wrap (((i-W:Nat):Int)-1)=((i-W-1:Nat):Int):=by rw [cM oQ];omega
 obtain ⟨a1,a2⟩:=MF hP (j:=i-1) oQ;obtain ⟨b1,b2⟩:=MF hP (j:=i-W) oQ;obtain ⟨c1,c2⟩:=MF hP (j:=i-W-1) oQ;rw [cF (dF (fun h=>h2 (by exact_mod_cast h))),aE h2,e1,a1,aD,b1,aD,e3,c1,aD]
 generalize P.getD (i-1) 0=a at *
 generalize P.getD (i-W) 0=b at *
 generalize P.getD (i-W-1) 0=c at *
 have s1:∀m:Int,jN .i64 m 1=m/2:=fun m=>Q9 m 1 aL
 rw [s1,s1,s1,cM (x:=a+b) oQ,cM (x:=a+b-c) oQ,cM (x:=b-c) oQ,cM (x:=a-c) oQ,cM (x:=a+(b-c)/2) oQ,cM (x:=b+(a-c)/2) oQ];unfold gsv
 rcases (show kind=1∨kind=2∨kind=3∨kind=4∨kind=5∨kind=6∨kind=7 by omega) with rfl|rfl|rfl|rfl|rfl|rfl|rfl <;> rfl
include hP in
theorem OW (N:Nat) {W x y:Nat} (H:Int) (hW:W≤64) (hx:x≤64) (hy:y≤64) (h:y*W+x<P.length):cK N (W:Int) H P (x:Int) (y:Int)=some (P.getD (y*W+x) 0):=by
 have hyw:y*W≤64*64:=tM hy hW;have e:(y:Int)*(W:Int)=((y*W:Nat):Int):=by simp
 have e2:aC.wrap (aC.wrap ((y:Int)*(W:Int))+(x:Int))=((y*W+x:Nat):Int):=by
  rw [e,cM (x:=((y*W:Nat):Int)) oQ,cM oQ];omega
 unfold cK;rw [e2,(MF hP h).1];rfl
include hP in
theorem RA (N:Nat) {W:Nat} (hW:1≤W∧W≤64) {kind:Int} (hk:1≤kind∧kind≤7) (H:Int) {x y:Nat} (hx:x<W) (hy:y<64) (hi:y*W+x<P.length) (hl:P.length≤4096):jV N (W:Int) H P kind (x:Int) (y:Int)=some (gs W P kind (y*W+x)):=by
 obtain ⟨d1,d2⟩:=dm (W:=W) y hx
 have fin:∀(a b c:Int),0≤a∧a≤65535→0≤b∧b≤65535→0≤c∧c≤65535→(cond (decide (kind=1)) (
   some a) (
   cond (decide (kind=2)) (
   some b) (
   cond (decide (kind=3)) (
   some c) (
   cond (decide (kind=4)) (
   some (aC.wrap ((aC.wrap (a+b))-c))) (
   cond (decide (kind=5)) (
   dH (bT N (aC.wrap (b-c)) 2) fun J5=>
   some (aC.wrap (a+J5))) (
   cond (decide (kind=6)) (
   dH (bT N (aC.wrap (a-c)) 2) fun r16=>
   some (aC.wrap (b+r16))) (
   dH (bT N (aC.wrap (a+b)) 2) fun Lw=>
   some Lw)))))):Option Int)=some (gsv kind a b c):=by
  intro a b c ha hb hc;rw [cM (x:=a+b) oQ,cM (x:=a+b-c) oQ,cM (x:=b-c) oQ,cM (x:=a-c) oQ,Jg N oQ oQ,Jg N oQ oQ,Jg N oQ oQ,aD,aD,aD,cM (x:=a+(b-c)/2) oQ,cM (x:=b+(a-c)/2) oQ];unfold gsv
  rcases (show kind=1∨kind=2∨kind=3∨kind=4∨kind=5∨kind=6∨kind=7 by omega) with rfl|rfl|rfl|rfl|rfl|rfl|rfl <;> rfl
 unfold jV gs;rw [d2,d1]
 by_cases h0:x=0
 ·subst h0;rw [cT (dT rQ)]
  by_cases h1:y=0
  ·subst h1;rw [cT (dT rQ),aF sQ]
  ·have hyw:1≤y*W:=Nat.mul_pos oQ oQ;have e:aC.wrap ((y:Int)-1)=((y-1:Nat):Int):=by rw [cM oQ];omega
   have e2:(y-1)*W+0=y*W+0-W:=by rw [Nat.sub_mul];omega
   have hle:(y-1)*W≤y*W:=Nat.mul_le_mul_right _ oQ;rw [nL,nL,cT (dT rQ),e];have:=OW hP N (W:=W) (x:=0) (y:=y-1) H oQ oQ oQ oQ;rw [show ((0:Nat):Int)=0 from rfl] at this;rw [this,aD,aE oQ,aE oQ,aF rfl,e2]
 ·rw [nL];have ex:aC.wrap ((x:Int)-1)=((x-1:Nat):Int):=by rw [cM oQ];omega
  by_cases h1:y=0
  ·subst h1;have:=OW hP N (W:=W) (x:=x-1) (y:=0) H oQ oQ oQ oQ;rw [show ((0:Nat):Int)=0 from rfl] at this;rw [cT (dT rQ),ex,this,aD,aE oQ,aF rfl]
   congr 2
   omega
  ·have e:aC.wrap ((y:Int)-1)=((y-1:Nat):Int):=by rw [cM oQ];omega
   have hsub:(y-1)*W=y*W-W:=by rw [Nat.sub_mul];omega
   have hyw:W≤y*W:=Nat.le_mul_of_pos_left W oQ;rw [nL,nL,ex,e,OW hP N (W:=W) (x:=x-1) (y:=y) H oQ oQ oQ oQ,aD,OW hP N (W:=W) (x:=x) (y:=y-1) H oQ oQ oQ oQ,aD,OW hP N (W:=W) (x:=x-1) (y:=y-1) H oQ oQ oQ oQ,aD,aE oQ,aE oQ,aE oQ];rw [show y*W+(x-1)=y*W+x-1 by omega,show (y-1)*W+x=y*W+x-W by omega,show (y-1)*W+(x-1)=y*W+x-W-1 by omega];exact fin _ _ _ (MF hP oQ).2 (MF hP oQ).2 (MF hP oQ).2
end
theorem aHv {W H:Int} {P:List Int} (h:plF W H P=true):∃w k:Nat,W=w∧H=k∧1≤w∧w≤64∧1≤k∧k≤64∧P.length=w*k∧w*k≤4096∧∀e∈P,0≤e∧e≤65535:=by
 unfold plF at h;rw [o9] at h;obtain ⟨h1,h2⟩:=h;obtain ⟨a,b,c,d,e⟩:=bW h1;obtain ⟨w,rfl⟩:=sC (show 0≤W by omega);obtain ⟨k,rfl⟩:=sC (show 0≤H by omega);have hm:=tM (show w≤64 by omega) (show k≤64 by omega);exact ⟨w,k,rfl,rfl,by omega,by omega,by omega,by omega,by exact_mod_cast e,by omega,fun e he=>bW (List.all_eq_true.1 h2 e he)⟩
def bl (n:Nat):Nat:=if n=0 then 0 else Nat.log2 n+1
theorem aA1 {n:Nat} (h:0<n):bl n=bl (n/2)+1:=by
 unfold bl;rw [aE oQ]
 by_cases h2:2≤n
 ·rw [aE oQ,Nat.log2_def,aF h2]
 ·obtain rfl:n=1:=oQ
  rfl
theorem MG:∀(k n:Nat),bl n≤k↔n<2^k
 | 0,n=>by
  unfold bl
  split
  ·subst n;simp
  ·rw [Nat.pow_zero];omega
 | k+1,n=>by
  rcases Nat.eq_zero_or_pos n with rfl|h
  ·have:=Nat.two_pow_pos (k+1);simp [bl,this]
  ·have ih:=MG k (n/2);rw [aA1 h,Nat.pow_succ]
   constructor
   ·intro q;have:=ih.1 oQ
    omega
   ·intro q;have:=ih.2 oQ
    omega
def IZ (d:Int):Nat:=bl (max d (-d)).toNat
theorem Zx (N:Nat):∀(j:Nat) (k n aA:Nat),bl k=j→j<aA→n+j≤1000→k≤1000000→mW N (fun (n4,k5)=>some n4) aA ((n:Int),(k:Int))=some ((n+j:Nat):Int):=by
 intro j
 induction j with
 | zero=>
  intro k n aA hb hf hn hk;obtain ⟨aA,rfl⟩:=kF aA oQ;have:=(MG 0 k).1 oQ;unfold mW;rw [nL];rfl
 | succ j ih=>
  intro k n aA hb hf hn hk;obtain ⟨aA,rfl⟩:=kF aA oQ
  have hk0:0<k:=by
   rcases Nat.eq_zero_or_pos k with rfl|h
   ·simp [bl] at hb
   ·exact h
  have hb2:=aA1 hk0;unfold mW;rw [p8,cM (x:=(n:Int)+1) oQ,aD,show gI (k:Int) 2=((k/2:Nat):Int) from rfl,cM (x:=((k/2:Nat):Int)) oQ,aD,show (n:Int)+1=((n+1:Nat):Int) by rfl,ih (k/2) (n+1) aA oQ oQ oQ oQ]
  congr 2
  omega
theorem aA2 {d:Int} (h:-32768<d∧d≤32768):IZ d≤16:=(MG 16 _).2 oQ
theorem RB (N:Nat) (hN:100≤N) {d:Int} (h:-32768<d∧d≤32768):pR N d=some ((IZ d:Nat):Int):=by
 have hc:=aA2 h;unfold pR;rw [cM (x:=0-d) oQ,aD,show max d (0-d)=(((max d (-d)).toNat:Nat):Int) by omega];have:=Zx N (IZ d) (max d (-d)).toNat 0 N rfl oQ oQ oQ;rw [Nat.zero_add] at this;exact this
def mor (d:Int):aR:=if IZ d=0∨IZ d=16 then [] else Dw (uS 2 (IZ d) (if 0<d then d else d+((2^IZ d:Nat):Int)-1).toNat)
theorem aE7 {d:Int}:-((2^IZ d:Nat):Int)<d∧d<((2^IZ d:Nat):Int):=by
 have h:=(MG (IZ d) (max d (-d)).toNat).1 (pK _);have h2:(((max d (-d)).toNat:Nat):Int)<((2^IZ d:Nat):Int):=Int.ofNat_lt.2 h
 omega
theorem aHw {d:Int}:IZ d=0↔d=0:=by
 have:=MG 0 (max d (-d)).toNat;unfold IZ
 constructor
 ·intro h;have:=this.1 oQ;omega
 ·intro h;have:=this.2 oQ;omega
theorem aPr {d:Int} (h:IZ d≠0) (h2:IZ d≠16) (hd:-32768<d∧d≤32768):Bz (if 0<d then d else d+((2^IZ d:Nat):Int)-1) ((IZ d:Nat):Int)=0:=by
 have hc:=aA2 hd;have hl:=aE7 (d:=d);have h0:d≠0:=fun e=>h (aHw.2 e)
 unfold Bz;rw [aF oQ,fM,aF]
 split
 ·omega
 ·omega
theorem aHx (N:Nat) (hN:100≤N) {d:Int} (h:-32768<d∧d≤32768):vB N d=some (mor d):=by
 have hc:=aA2 h;unfold vB mor;rw [RB N hN h,aD]
 by_cases h0:IZ d=0
 ·rw [p8,aF (.inl h0)]
 rw [nL]
 by_cases h1:IZ d=16
 ·rw [p8,aF (.inr h1)]
 have hv:=aPr h0 h1 h;have hp:=Fi (d:=IZ d) hc;have hl:=aE7 (d:=d);rw [nL,aE oQ]
 by_cases h2:0<d
 ·rw [aF h2] at hv;rw [cT (dT h2),Rw N hN hv,aD,fM,aF h2]
 ·rw [aE h2] at hv;rw [cF (dF h2),DL,aD,Jl hc,cM (x:=d+_) oQ,cM (x:=d+_-1) oQ,Rw N hN hv,aD,fM,aE h2]
def dfn (n g:Int):Int:=if 32768<(n-g)%65536 then (n-g)%65536-65536 else (n-g)%65536
theorem aK6 (n g:Int):-32768<dfn n g∧dfn n g≤32768:=by unfold dfn;split <;> omega
theorem Zy (N:Nat) {d:Int} (h:-200000≤d∧d≤32768) {aA:Nat} (hf:5≤aA):fL N (fun d9=>some d9) aA d=some (dfn d 0):=by
 obtain ⟨aA,rfl⟩:∃q,aA=q+5:=⟨aA-5,by omega⟩
 have key:∀(e:Int) (m:Nat),-32768<e→e≤32768→e%65536=d%65536→fL N (fun d9=>some d9) (m+1) e=some (dfn d 0):=by
  intro e m h1 h2 h3;unfold fL;rw [nL]
  congr 1
  unfold dfn
  split <;> omega
 by_cases h1:-32768<d
 ·exact key d _ h1 h.2 rfl
 unfold fL;rw [p8,cM (x:=d+65536) oQ,aD]
 by_cases h2:-32768<d+65536
 ·exact key (d+65536) _ h2 oQ oQ
 unfold fL;rw [p8,cM (x:=d+65536+65536) oQ,aD]
 by_cases h3:-32768<d+65536+65536
 ·exact key (d+65536+65536) _ h3 oQ oQ
 unfold fL;rw [p8,cM (x:=d+65536+65536+65536) oQ,aD];exact key (d+65536+65536+65536) _ oQ oQ oQ
theorem aA3 {a b:Int} (h:a%65536=b%65536):dfn a 0=dfn b 0:=by unfold dfn;rw [Int.sub_zero,Int.sub_zero,h]
theorem difference_eq (N:Nat) (hN:100≤N) {n g:Int} (hn:0≤n∧n≤65535) (hg:-65535≤g∧g≤131070):pX N n g=some (dfn n g):=by
 have e0:dfn n g=dfn (n-g) 0:=by unfold dfn;rw [Int.sub_zero]
 unfold pX;rw [cM (x:=n-g) oQ,aD,e0];obtain ⟨M,rfl⟩:∃q,N=q+5:=⟨N-5,by omega⟩
 generalize hd:n-g=d
 by_cases h1:32768<d
 ·unfold gN;rw [cT (dT h1),cM (x:=d-65536) oQ,aD]
  by_cases h2:32768<d-65536
  ·unfold gN;rw [cT (dT h2),cM (x:=d-65536-65536) oQ,aD];unfold gN;rw [nL,Zy _ oQ oQ];exact bZ some (aA3 oQ)
  ·unfold gN;rw [cF (dF h2),Zy _ oQ oQ];exact bZ some (aA3 oQ)
 ·unfold gN;rw [cF (dF h1),Zy _ oQ oQ]
def ds (W:Nat) (P:List Int) (kind:Int):List Int:=(gS P.length).map fun i=>dfn (P.getD i 0) (gs W P kind i)
section
variable {W H:Nat} {P:List Int} (hP:∀e∈P,0≤e∧e≤65535) (hW:1≤W∧W≤64) (hH:1≤H∧H≤64) (hl:P.length=W*H) (hl2:W*H≤4096) {kind:Int} (hk:1≤kind∧kind≤7)
include hP hW hH hl hl2 hk
theorem aHy (N:Nat) (hN:100≤N) {y:Nat} (hy:y<H) (kk):∀(j x aA:Nat),x+j=W→j<aA →
  kS N (W:Int) (H:Int) P kind (y:Int) kk aA ((gS (y*W+x)).map (fun i=>dfn (P.getD i 0) (gs W P kind i)),(x:Int))=kk ((gS ((y+1)*W)).map (fun i=>dfn (P.getD i 0) (gs W P kind i)),(W:Int)):=by
 intro j
 induction j with
 | zero=>
  intro x aA hx hf;obtain ⟨aA,rfl⟩:=kF aA oQ;obtain rfl:x=W:=oQ
  unfold kS;rw [nL,Nat.add_mul,Nat.one_mul]
 | succ j ih=>
  intro x aA hx hf;obtain ⟨aA,rfl⟩:=kF aA oQ;have hpl:=mL (W:=W) (H:=H) (x:=x) (y:=y) oQ hy;have hg:=aE6 hP (W:=W) (kind:=kind) (i:=y*W+x) hW.1 oQ
  have hs:(gS (y*W+x)).map (fun i=>dfn (P.getD i 0) (gs W P kind i))++[dfn (P.getD (y*W+x) 0) (gs W P kind (y*W+x))]=(gS (y*W+(x+1))).map (fun i=>dfn (P.getD i 0) (gs W P kind i)):=by
   rw [show y*W+(x+1)=y*W+x+1 by omega,List.range_succ,List.map_append,List.map_singleton]
  unfold kS;rw [p8,OW hP N (W:=W) (x:=x) (y:=y) _ oQ oQ oQ oQ,aD,RA hP N hW hk _ oQ oQ oQ oQ,aD,difference_eq N hN (MF hP oQ).2 hg,aD,iQ uW,aD,hs,cM (x:=(x:Int)+1) oQ,aD];exact ih (x+1) aA oQ oQ
theorem aHz (N:Nat) (hN:100≤N):sN N (W:Int) (H:Int) P kind=some (ds W P kind):=by
 have main:∀(j y aA:Nat),y+j=H→j<aA→iZ N (W:Int) (H:Int) P kind (fun (l12,y5)=>some l12) aA ((gS (y*W)).map (fun i=>dfn (P.getD i 0) (gs W P kind i)),(y:Int))=some (ds W P kind):=by
  intro j
  induction j with
  | zero=>
   intro y aA hx hf;obtain ⟨aA,rfl⟩:=kF aA oQ;obtain rfl:y=H:=oQ
   unfold iZ;rw [nL];unfold ds;rw [hl,oA]
  | succ j ih=>
   intro y aA hx hf;obtain ⟨aA,rfl⟩:=kF aA oQ;have key:=aHy hP hW hH hl hl2 hk N hN (y:=y) oQ (fun (Qa,x10)=>dH (some (aC.wrap ((y:Int)+1))) fun y4=>iZ N (W:Int) (H:Int) P kind (fun (l12,y5)=>some l12) aA (Qa,y4)) W 0 N oQ oQ;unfold iZ;rw [p8];refine Eq.trans key ?_
   dsimp only
   rw [cM (x:=(y:Int)+1) oQ,aD];exact ih (y+1) aA oQ oQ
 have:=main H 0 N oQ oQ;rw [Nat.zero_mul] at this;exact this
end
def Yt (W:List aR) (d:Int):Bool:=decide (IZ d<W.length) && !(W.getD (IZ d) []).isEmpty
def L7 (W:List aR) (d:Int):aR:=W.getD (IZ d) []++mor d
def LT (W:List aR) (l:List Int):aR:=l.flatMap (L7 W)
theorem OX (W:List aR) (d:Int) (l:List Int):LT W (d::l)=L7 W d++LT W l:=rfl
theorem aA4 {d:Int} (h:-32768<d∧d≤32768):(mor d).length≤16:=by
 unfold mor
 split
 ·simp
 ·rw [tD,mO];exact aA2 h
theorem OY {W:List aR} (hb:OU W) (i:Nat):(W.getD i []).length≤15∧D7 (W.getD i [])=true:=by
 rw [qG]
 by_cases h:i<W.length
 ·rw [f9 h];exact ⟨(hb _ (List.getElem_mem h)).2,(hb _ (List.getElem_mem h)).1⟩
 ·rw [wW oQ];exact ⟨by simp,rfl⟩
theorem aCs {W:List aR} (hb:OU W) {d:Int} (h:-32768<d∧d≤32768):(L7 W d).length≤31:=by
 unfold L7;rw [kG];have:=aA4 h;have:=(OY hb (IZ d)).1
 omega
theorem aK7 {W:List aR} {d:Int} (h:Yt W d=true):∃u,W[IZ d]? = some u∧u≠[]∧W.getD (IZ d) []=u∧IZ d<W.length:=by
 unfold Yt at h;rw [o9] at h;have hq:=bW h.1;refine ⟨W[IZ d],f9 hq,?_,?_,hq⟩
 ·have h2:=h.2;rw [qG,f9 hq] at h2;intro e;rw [Option.getD_some,e] at h2;cases h2
 ·rw [qG,f9 hq];rfl
theorem aK8 {W:List aR} {d:Int} (h:¬Yt W d=true) (h2:IZ d<W.length):W[IZ d]? = some []:=by
 rw [f9 h2];unfold Yt at h;rw [dT h2,tF,qG,f9 h2,Option.getD_some] at h;cases hc:W[IZ d]
 ·rfl
 ·rw [hc] at h;simp at h
theorem aHA (N:Nat) (hN:100≤N) {W:List aR} (hb:OU W) {l:List Int} (hd:∀d∈l,-32768<d∧d≤32768) (hl:l.length≤4096) (kk):∀(j k aA:Nat) (acc:aR),k+j=l.length→j<aA→acc.length≤31*k →
  lS N W l kk aA (rT acc,(k:Int))=if (l.drop k).all (Yt W)=true then kk (rT (acc++LT W (l.drop k)),(l.length:Int)) else some ([],4):=by
 intro j
 induction j with
 | zero=>
  intro k aA acc hk hf ha;obtain ⟨aA,rfl⟩:=kF aA oQ;obtain rfl:k=l.length:=oQ
  unfold lS;rw [nL,List.drop_length,aF rQ]
  simp [LT]
 | succ j ih=>
  intro k aA acc hk hf ha;obtain ⟨aA,rfl⟩:=kF aA oQ;have hlt:k<l.length:=oQ
  have hnx:aC.wrap ((k:Int)+1)=((k+1:Nat):Int):=by rw [cM oQ];rfl
  have hdk:=hd _ (List.getElem_mem hlt);unfold lS;rw [p8,dC,f9 hlt,aD,RB N hN hdk,aD,zC hlt,tK,OX]
  generalize l[k]=d at hdk ⊢
  by_cases h1:W.length≤IZ d
  ·rw [p8,aE];rw [show Yt W d=false by unfold Yt;rw [dF oQ];rfl];simp
  rw [nL,dC]
  by_cases h2:Yt W d=true
  ·obtain ⟨u,hu,hu0,hg,_⟩:=aK7 h2;have h15:=(OY hb (IZ d)).1;have hm:=aA4 hdk;rw [hg] at h15;rw [hu,aD,cF (dF hu0),aD,iQ (by rw [yD,yD];omega),aD,aD,aHx N hN hdk,aD,←Qh,iQ (by rw [yD,yD,kG];omega),aD,←Qh,hnx,aD,ih (k+1) aA _ oQ oQ (by rw [kG,kG];omega),h2,tF];unfold L7;rw [hg,pL,pL,pL]
  ·rw [aK8 h2 oQ,aD,cT (dT rfl),aE];rw [(Bool.not_eq_true _).mp h2];simp
theorem aA5 (W:Nat) (P:List Int) (kind:Int):∀d∈ds W P kind,-32768<d∧d≤32768:=fun d hd=>by
 obtain ⟨i,_,rfl⟩:=List.mem_map.1 hd;exact aK6 _ _
theorem Zz (W:Nat) (P:List Int) (kind:Int):(ds W P kind).length=P.length:=by simp [ds]
def byB (b:aR):aR:=(gr ((b.length+7)/8) (jC b)).map nN
def Jn (W H:Int) (P:List Int) (kind:Int) (c:List Int):lC:=
 if plF W H P=false then ([],1) else if ¬(1≤kind∧kind≤7) then ([],6) else if oH c≠0 then ([],oH c) else
 if (ds W.toNat P kind).all (Yt (dL c))=true then (byB (LT (dL c) (ds W.toNat P kind)),0) else ([],4)
theorem aE8 (d:Int):D7 (mor d)=true:=by
 unfold mor
 split
 ·rfl
 ·exact Vr (FI aL _ _)
theorem Uh {W:List aR} (hb:OU W):∀l:List Int,D7 (LT W l)=true
 | []=>rfl
 | d::l=>by
  rw [OX,AK,Uh hb l,Bool.and_true];unfold L7;rw [AK,(OY hb (IZ d)).2,aE8];rfl
theorem Nr {W:List aR} (hb:OU W):∀{l:List Int},(∀d∈l,-32768<d∧d≤32768)→(LT W l).length≤31*l.length
 | [],_=>by simp [LT]
 | d::l,h=>by
  have h1:=Nr hb (l:=l) fun d hd=>h d (by simp [hd])
  have h2:=aCs hb (h d sQ);rw [OX,kG,List.length_cons];omega
theorem SO (N:Nat) (hN:200000≤N) (W H:Int) (P:List Int) (kind:Int) (c:List Int):nV N W H P kind c=some (Jn W H P kind c):=by
 unfold nV Jn;rw [aE5 N oQ,aD]
 by_cases hp:plF W H P=true
 rotate_left
 ·rw [(Bool.not_eq_true _).mp hp,Bool.not_false,cT rfl,aF rfl]
 rw [hp,Bool.not_true,cF rfl,aE aL,z6,aD]
 by_cases h1:1≤kind∧kind≤7
 rotate_left
 ·rw [dF h1,Bool.not_false,cT rfl,aF h1]
 rw [dT h1,Bool.not_true,cF rfl,aE oQ,OS N oQ,aD]
 by_cases h2:oH c=0
 rotate_left
 ·rw [cT (by rw [dF h2];rfl),aF h2]
 obtain ⟨w,k,rfl,rfl,a1,a2,a3,a4,a5,a6,hP⟩:=aHv hp;rw [cF (by rw [dT h2];rfl),aE oQ,Pp N oQ h2,aD,aHz hP ⟨a1,a2⟩ ⟨a3,a4⟩ a5 a6 h1 N oQ,aD,fM];have hdl:=Zz w P kind;have key:=aHA N oQ (nG c) (l:=ds w P kind) (aA5 w P kind) oQ (fun (l9,i2)=>dH (lI N (toB l9)) fun B1=>some (B1,(0:Int))) (ds w P kind).length 0 N [] oQ oQ sQ;refine Eq.trans key ?_;rw [List.drop_zero]
 by_cases h3:(ds w P kind).all (Yt (dL c))=true
 ·rw [aF h3,aF h3]
  dsimp only
  have hcl:=Nr (nG c) (aA5 w P kind);rw [List.nil_append,Vk,aCl N (Uh (nG c) _) oQ ⟨by omega,by omega⟩]
  rfl
 ·rw [aE h3,aE h3]
def uC (s:aR):aR:=Dw (uS 2 (8*s.length) (JL s s.length))
theorem KT (s:aR):(uC s).length=8*s.length:=by unfold uC;rw [tD,mO]
theorem DO (s:aR):D7 (uC s)=true:=Vr (FI aL _ _)
theorem RC:uC []=[]:=rfl
theorem Qo (s:aR):JL s s.length=num 256 (s.map UInt8.toNat):=by unfold JL;rw [List.take_length]
theorem aCt (c:UInt8) (s:aR):uC (c::s)=uC [c]++uC s:=by
 unfold uC;rw [←Nn,Qo,Qo [c],List.map_cons,List.map_singleton,Nm,xK,Vj,←Qo s,Np (show JL s s.length<2^(8*s.length) from aEK (d:=1) aL s)];rw [show 8*(c::s).length=8*[c].length+8*s.length by simp;omega,show num 256 [c.toNat]=c.toNat by simp [num]]
theorem aHB {l:List Nat} (h:∀y∈l,y<2):jC (Dw l)=l:=by
 unfold jC Dw;rw [List.map_map]
 conv=>rhs;rw [←List.map_id l]
 refine List.map_congr_left fun y hy=>?_
 have:=h y hy;show (nN (48+y)).toNat-48=y;rw [UInt8.toNat_ofNat',Nat.mod_eq_of_lt oQ]
 omega
theorem aK9 {M:Nat} {l m:List Nat} (hl:l.length=8*M) (hm:m.length=8*M) (h2:∀y∈l,y<2) (h3:∀y∈m,y<2) (h:gr M l=gr M m):l=m:=by
 have e1:=LC (B:=2) l h2;have e2:=LC (B:=2) m h3;have n1:=B6 (B:=2) l h2;have n2:=B6 (B:=2) m h3;rw [hl] at e1 n1;rw [hm] at e2 n2;have h4:gr M (uS 2 (8*M) (num 2 l))=gr M (uS 2 (8*M) (num 2 m)):=by rw [e1,e2,h]
 rw [Rv,Rv] at h4;have h5:=bZ (num 256) h4;rw [F2,F2,Vj,Nat.mod_eq_of_lt n1,Nat.mod_eq_of_lt n2] at h5;rw [←e1,←e2,h5]
theorem aHC (s:aR):(gr s.length (jC (uC s))).map nN=s:=by
 unfold uC;rw [aHB (FI aL _ _),Rv,Qo]
 have:=LC (B:=256) (s.map UInt8.toNat) fun y hy=>by
  obtain ⟨c,_,rfl⟩:=List.mem_map.1 hy;exact c.toNat_lt
 rw [xK] at this;rw [this,toNat_ofNat]
theorem aI7 {M:Nat} {l:List Nat} (h:∀y∈l,y<2):∀y∈gr M l,y<256:=fun y hy=>by
 unfold gr at hy;obtain ⟨g,_,rfl⟩:=List.mem_map.1 hy
 have:=B6 (B:=2) ((gS 8).map fun t=>l.getD (8*g+t) 0) fun y hy=>by
  obtain ⟨t,_,rfl⟩:=List.mem_map.1 hy;rw [qG]
  by_cases hq:8*g+t<l.length
  ·rw [f9 hq];exact h _ (List.getElem_mem hq)
  ·rw [wW oQ];exact (by decide:(0:Nat)<2)
 simpa using this
theorem aE9:∀{R:aR},D7 R=true→jC R=nH R.length 0→R=nH R.length 48
 | [],_,_=>rfl
 | c::R,h,h2=>by
  have e:=LD h;rw [h2] at e;rw [←e];unfold Dw;rw [List.map_replicate,List.length_replicate];rfl
theorem aA6 {s D R:aR} (h:uC s=D++R):byB D=s↔R.length≤7∧R=nH R.length 48:=by
 have hB:=DO s;rw [h,AK,o9] at hB;have hL:=KT s;rw [h,kG] at hL;have hb:jC (uC s)=jC D++jC R:=by rw [h];unfold jC;rw [List.map_append]
 have hs:=aHC s;have pad:gr s.length (jC D++nH R.length 0)=gr s.length (jC D):=aEL _ _ _
 constructor
 ·intro e;have hl:=bZ List.length e;unfold byB at hl e;rw [xK] at hl;have hgl:∀M l,(gr M l).length=M:=fun M l=>by simp [gr]
  rw [hgl] at hl;refine ⟨by omega,?_⟩;rw [hl] at e
  have e2:gr s.length (jC D)=gr s.length (jC (uC s)):=by
   have:=bZ (List.map UInt8.toNat) (e.trans hs.symm)
   rwa [ofNat_toNat (aI7 (xL hB.1)),ofNat_toNat (aI7 (xL (DO s)))] at this
  rw [←pad,hb] at e2;have bl:∀b:aR,(jC b).length=b.length:=fun b=>by simp [jC]
  have z2:∀y∈jC D++nH R.length 0,y<2:=fun y hy=>by
   rcases List.mem_append.1 hy with q|q
   ·exact xL hB.1 y q
   ·rw [(List.mem_replicate.1 q).2];decide
  have z3:∀y∈jC D++jC R,y<2:=fun y hy=>by
   rcases List.mem_append.1 hy with q|q
   ·exact xL hB.1 y q
   ·exact xL hB.2 y q
  have:=aK9 (by rw [kG,bl,List.length_replicate];omega) (by rw [kG,bl,bl];omega) z2 z3 e2;exact aE9 hB.2 (List.append_cancel_left this).symm
 ·rintro ⟨h7,hz⟩
  have e:jC R=nH R.length 0:=by
   conv=>lhs;rw [hz]
   unfold jC;rw [List.map_replicate];rfl
  unfold byB;rw [show (D.length+7)/8=s.length by omega,←pad,←e,←hb];exact hs
def vd (t:aR):Int:=if 2*num 2 (jC t)<2^t.length then (num 2 (jC t):Int)-((2^t.length:Nat):Int)+1 else (num 2 (jC t):Int)
theorem aMN {d:Int} {c:Nat} (h:1≤c) (h2:((2^(c-1):Nat):Int)≤max d (-d)) (h3:max d (-d)<((2^c:Nat):Int)):IZ d=c:=by
 have a:=MG c (max d (-d)).toNat;have b:=MG (c-1) (max d (-d)).toNat;have a1:(max d (-d)).toNat<2^c:=oQ
 have b1:¬(max d (-d)).toNat<2^(c-1):=oQ
 have a2:=a.2 a1;have b2:¬bl (max d (-d)).toNat≤c-1:=fun q=>b1 (b.1 q)
 unfold IZ
 omega
theorem Vt {t:aR} (hb:D7 t=true) (hl:t.length≤15):IZ (vd t)=t.length∧mor (vd t)=t∧-32768<vd t∧vd t<32768:=by
 have hn:=B6 (B:=2) (jC t) (xL hb);have bl:(jC t).length=t.length:=by simp [jC]
 rw [bl] at hn
 by_cases h0:t.length=0
 ·obtain rfl:t=[]:=List.length_eq_zero_iff.1 h0;exact ⟨rfl,rfl,by decide,by decide⟩
 have hp:2^t.length=2*2^(t.length-1):=by rw [←Nat.pow_succ'];congr 1;omega
 have hle:2^t.length≤32768:=Nat.le_trans (Nat.pow_le_pow_right aL hl) aL;have hpos:0<2^(t.length-1):=Nat.two_pow_pos _
 have hr:-32768<vd t∧vd t<32768:=by unfold vd;split <;> omega
 have hc:IZ (vd t)=t.length:=by
  refine aMN oQ ?_ ?_
  ·unfold vd;split <;> omega
  ·unfold vd;split <;> omega
 refine ⟨hc,?_,hr⟩;unfold mor;rw [aE oQ,hc]
 have:(if 0<vd t then vd t else vd t+((2^t.length:Nat):Int)-1).toNat=num 2 (jC t):=by
  by_cases hq:2*num 2 (jC t)<2^t.length
  ·have e:vd t=(num 2 (jC t):Int)-((2^t.length:Nat):Int)+1:=by unfold vd;rw [aF hq]
   rw [e,aE oQ]
   omega
  ·have e:vd t=(num 2 (jC t):Int):=by unfold vd;rw [aE hq]
   rw [e,aF oQ]
   omega
 rw [this,←bl,LC _ (xL hb),LD hb]
theorem RD:IZ 32768=16∧mor 32768=[]:=⟨by decide +kernel,by
 unfold mor
 rw [aF (.inr (by decide +kernel))]⟩
def rdStep (W:List aR) (R:aR):Option HD:=match Vs W R with
 | none=>none
 | some c=>if c=16 then some (32768,R.drop (W.getD c []).length) else if (R.drop (W.getD c []).length).length<c then none else some (vd ((R.drop (W.getD c []).length).take c),(R.drop (W.getD c []).length).drop c)
def PO (W:List aR) (w:Nat) (kind:Int):Nat→List Int→aR→Option aAi
 | 0,P,R=>some (P,R)
 | n+1,P,R=>match rdStep W R with
  | none=>none
  | some (d,R2)=>PO W w kind n (P++[(gs w P kind P.length+d)%65536]) R2
theorem OZ {w:Nat} (hw:1≤w) (P Q:List Int) (kind:Int) {i:Nat} (h:i≤P.length):gs w (P++Q) kind i=gs w P kind i:=by
 unfold gs
 by_cases h0:i=0
 ·rw [aF h0,aF h0]
 have e:∀j,j<P.length→(P++Q).getD j 0=P.getD j 0:=fun j hj=>by
  rw [qG,qG,List.getElem?_append_left hj]
 rw [aE h0,aE h0,e (i-1) oQ,e (i-w) oQ,e (i-w-1) oQ]
theorem aA7 {w:Nat} (hw:1≤w) (P:List Int) (kind x:Int):ds w (P++[x]) kind=ds w P kind++[dfn x (gs w P kind P.length)]:=by
 unfold ds;rw [kG,List.length_singleton,List.range_succ,List.map_append,List.map_singleton]
 congr 1
 ·refine List.map_congr_left fun i hi=>?_
  have hi:=List.mem_range.1 hi;rw [OZ hw _ _ _ oQ,qG,qG,List.getElem?_append_left hi]
 ·rw [OZ hw _ _ _ (pK _),qG,List.getElem?_append_right (pK _)]
  simp
theorem aFa {g d:Int} (h:-32768<d∧d≤32768):dfn ((g+d)%65536) g=d:=by
 unfold dfn
 split <;> omega
theorem step_ok {W:List aR} (hb:OU W) (hW:W.length≤17) {R R2:aR} {d:Int} (hR:D7 R=true) (h:rdStep W R=some (d,R2)) :
  (-32768<d∧d≤32768)∧Yt W d=true∧R=L7 W d++R2:=by
 unfold rdStep at h
 rcases hf:Vs W R with _|c
 ·rw [hf] at h;cases h
 rw [hf] at h;dsimp only at h;obtain ⟨u,hu,hu0,hub⟩:=IC hf
 have hc:c<W.length:=by
  rcases Nat.lt_or_ge c W.length with q|q
  ·exact q
  ·rw [wW q] at hu;cases hu
 have hg:W.getD c []=u:=by rw [qG,hu];rfl
 obtain ⟨T,rfl⟩:=hub;rw [AK,o9] at hR;rw [hg,List.drop_left] at h
 have ok:∀e,IZ e=c→Yt W e=true:=fun e he=>by
  unfold Yt;rw [he,dT hc,tF,hg];cases u
  ·exact absurd rfl hu0
  ·rfl
 by_cases h16:c=16
 ·rw [aF h16] at h
  injection h with h;injection h with h1 h2
  subst h1 h2;refine ⟨by decide,ok _ (by rw [RD.1,h16]),?_⟩;unfold L7;rw [RD.1,RD.2,←h16,hg,v4]
 ·rw [aE h16] at h
  by_cases hl:T.length<c
  ·rw [aF hl] at h;cases h
  rw [aE hl] at h
  injection h with h;injection h with h1 h2
  have ht:D7 (T.take c)=true:=by
   have:=hR.2;rw [←List.take_append_drop c T,AK,o9] at this;exact this.1
  have gK:(T.take c).length=c:=by rw [yQ];omega
  obtain ⟨a1,a2,a3⟩:=Vt ht oQ;rw [gK] at a1;subst h1 h2;refine ⟨by omega,ok _ a1,?_⟩;unfold L7;rw [a1,a2,hg,pL,List.take_append_drop]
theorem aCu (W:List aR) (l:List Int) (d:Int):LT W (l++[d])=LT W l++L7 W d:=by
 unfold LT;rw [List.flatMap_append]
 simp
theorem RE {W:List aR} (hb:OU W) (hW:W.length≤17) {w:Nat} (hw:1≤w) {kind:Int}:∀(n:Nat) (P:List Int) (R D:aR) (P2:List Int) (R2:aR),D7 R=true→(∀e∈P,0≤e∧e≤65535)→(ds w P kind).all (Yt W)=true →
  PO W w kind n P R=some (P2,R2)→P2.length=P.length+n∧(∀e∈P2,0≤e∧e≤65535)∧(ds w P2 kind).all (Yt W)=true∧LT W (ds w P kind)++R=LT W (ds w P2 kind)++R2∧D7 R2=true:=by
 intro n
 induction n with
 | zero=>
  intro P R D P2 R2 hR hP ha h;unfold PO at h
  injection h with h;injection h with h1 h2
  subst h1 h2;exact ⟨rfl,hP,ha,rfl,hR⟩
 | succ n ih=>
  intro P R D P2 R2 hR hP ha h;unfold PO at h
  rcases hs:rdStep W R with _|⟨d,R1⟩
  ·rw [hs] at h;cases h
  rw [hs] at h;dsimp only at h;obtain ⟨hd,hok,hRR⟩:=step_ok hb hW hR hs
  have hR1:D7 R1=true:=by
   rw [hRR,AK,o9] at hR;exact hR.2
  have e:=aFa (g:=gs w P kind P.length) hd
  obtain ⟨b1,b2,b3,b4,b5⟩:=ih (P++[(gs w P kind P.length+d)%65536]) R1 D P2 R2 hR1 (fun x hx=>by
   rcases List.mem_append.1 hx with q|q
   ·exact hP x q
   ·rw [List.mem_singleton.1 q];omega) (by
   rw [aA7 hw,e,List.all_append,ha,tF,tK,hok];rfl) h
  refine ⟨by rw [b1,kG,List.length_singleton];omega,b2,b3,?_,b5⟩;rw [←b4,aA7 hw,e,aCu,pL,←hRR]
theorem Vu {α:Type} {xs:List α} (h:1≤xs.length):Fs xs 0 1=some (xs.take 1):=DN (k:=1) h
theorem Vv {α:Type} {xs:List α} (h:1≤xs.length):Fs xs 1 (xs.length:Int)=some (xs.drop 1):=IB (k:=1) h
theorem aA8 {a b:aR} (h:a.length+b.length≤9223372036854775807):Ai a b=some (a++b):=by unfold Ai;rw [aF h]
theorem aMO (N:Nat) (hN:100≤N) (c:UInt8):Bc N [c]=some (uC [c]):=aHp N (s:=[c]) sQ uW
theorem Ui (N:Nat) (kk):∀(aA:Nat) (x:FR),Bd N kk aA x=nP N 1 kk aA x
 | 0,_=>rfl
 | aA+1,(a,b)=>by
  unfold Bd nP;simp only [Ui N kk aA]
theorem Vw (N:Nat) (hN:100≤N) {n:Nat} (hn:n≤15):∀(j aA:Nat) (b s:aR),n≤b.length+8*j→j<aA→b.length≤n+7 →
  ∃b2 s2,(∀kk,nP N (n:Int) kk aA (b,s)=kk (b2,s2))∧b++uC s=b2++uC s2∧b2.length≤n+7∧(b2.length<n→s2=[]):=by
 intro j
 induction j with
 | zero=>
  intro aA b s hj hf hb;obtain ⟨aA,rfl⟩:=kF aA oQ;refine ⟨b,s,fun kk=>?_,rfl,hb,fun h=>by omega⟩;unfold nP;rw [nL]
 | succ j ih=>
  intro aA b s hj hf hb;obtain ⟨aA,rfl⟩:=kF aA oQ
  by_cases h:b.length<n
  rotate_left
  ·refine ⟨b,s,fun kk=>?_,rfl,hb,fun h2=>absurd h2 h⟩;unfold nP;rw [nL]
  cases s with
  | nil=>
   refine ⟨b,[],fun kk=>?_,rfl,hb,fun _=>rfl⟩;unfold nP;rw [p8,cF (by rw [dT rfl];rfl)]
  | cons c s=>
   have h8:(uC [c]).length=8:=KT [c];obtain ⟨b2,s2,h1,h2,h3,h4⟩:=ih aA (b++uC [c]) s (by rw [kG];omega) oQ (by rw [kG];omega);refine ⟨b2,s2,fun kk=>?_,?_,h3,h4⟩
   ·rw [←h1 kk]
    conv=>lhs;unfold nP
    rw [p8,cT (by rw [dF sQ];rfl),Vu sQ,aD,show (c::s).take 1=[c] from rfl,aMO N hN,aD,aA8 oQ,aD,Vv sQ,aD]
    rfl
   ·rw [aCt,←pL,h2]
theorem aFb {b T:aR} {n:Nat} (h:n≤b.length):(b++T).take n=b.take n∧(b++T).drop n=b.drop n++T:=⟨List.take_append_of_le_length h,List.drop_append_of_le_length h⟩
theorem aPs {W:List aR} {b:aR} (h:V9 W b=5):∃w∈W,w≠[]∧b <+: w:=by
 unfold V9 at h
 split at h
 ·rename_i q
  rw [List.any_eq_true] at q;obtain ⟨w,hw,h2⟩:=q;rw [o9,List.isPrefixOf_iff_prefix] at h2;exact ⟨w,hw,by intro e;rw [e] at h2;simp at h2,h2.2⟩
 ·cases h
theorem aHD {W:List aR} {b:aR} (h:V9 W b≠5):∀w∈W,w≠[]→¬b <+: w:=fun w hw h0 hp=>by
 refine h ?_;unfold V9;rw [aF];rw [List.any_eq_true];exact ⟨w,hw,by rw [o9,List.isPrefixOf_iff_prefix];exact ⟨by cases w;exact absurd rfl h0;rfl,hp⟩⟩
theorem Vx {W:List aR} {b:aR} (h:∀w∈W,w≠[]→¬w <+: b):Vs W b=none:=by
 unfold Vs;rw [List.findIdx?_eq_none_iff];intro w hw;rw [Bool.eq_false_iff];intro q;obtain ⟨h0,h1⟩:=Qn.1 q;exact h w hw h0 h1
theorem aHE (N:Nat) (hN:5000≤N) {c:List Int} (hc:oH c=0) {R:aR} (hR:D7 R=true):∀(j k aA:Nat) (b s:aR),k+j=16→k≤R.length→j<aA→b.length≤7→R.drop k=b++uC s→(∀w∈dL c,w≠[]→w.length≤k→¬(k≠w.length∧w <+: R)) →
  ∃b2 s2 w2,b2.length≤7∧((∃i u,Vs (dL c) R=some i∧(dL c)[i]? = some u∧(∀i4 i5 kk,lY N c kk aA (b,s,i4,i5,R.take k)=kk (b2,s2,(i:Int),0,w2))∧R.drop u.length=b2++uC s2) ∨
   (Vs (dL c) R=none∧∀i4 i5 kk,lY N c kk aA (b,s,i4,i5,R.take k)=kk (b2,s2,0,1,w2))):=by
 intro j;have hbW:=nG c;have hpf:=Ry c
 generalize hWW:dL c=W at *
 induction j with
 | zero=>
  intro k aA b s hkj hkR hf hb hd hno;obtain ⟨aA,rfl⟩:=kF aA oQ;have hlk:(R.take k).length=k:=by rw [yQ];omega
  have hBt:D7 (R.take k)=true:=by rw [←List.take_append_drop k R,AK,o9] at hR;exact hR.1
  have hrd:Bb N c (R.take k) 1=some (rdL W 1 [] (R.take k)):=by
   rw [Uf N c _ 1 oQ ⟨hN,by omega⟩];unfold aA0;rw [aE oQ,aE oQ,aF hBt,hWW];rfl
  have hnone:∀w∈W,w≠[]→¬w <+: R:=fun w hw h0 hp=>hno w hw h0 (by have:=(hbW w hw).2;omega) ⟨by have:=(hbW w hw).2;omega,hp⟩
  have h1:Vs W (R.take k)=none:=Vx fun w hw h0 hp=>hnone w hw h0 (hp.trans (List.take_prefix _ _))
  have h2:V9 W (R.take k)≠5:=fun h=>by
   obtain ⟨w,hw,_,hp⟩:=aPs h;have:=hp.length_le;have:=(hbW w hw).2
   omega
  have Xd:rdL W 1 [] (R.take k)=([],[],V9 W (R.take k)):=by unfold rdL;rw [h1]
  obtain ⟨b2,s2,f1,f2,f3,f4⟩:=Vw N oQ (n:=1) oQ 1 N b s oQ oQ oQ;have f1':∀kk,nP N 1 kk N (b,s)=kk (b2,s2):=f1
  by_cases h3:b2.length<1
  ·refine ⟨b2,s2,R.take k,by omega,.inr ⟨Vx hnone,fun i4 i5 kk=>?_⟩⟩;unfold lY;rw [hrd,aD,Xd]
   dsimp only
   rw [cF (dF (OV W _)),Ui,f1']
   dsimp only
   rw [p8,dF h2];rfl
  ·refine ⟨b2.drop 1,s2,R.take k,by rw [List.length_drop];omega,.inr ⟨Vx hnone,fun i4 i5 kk=>?_⟩⟩;unfold lY;rw [hrd,aD,Xd]
   dsimp only
   rw [cF (dF (OV W _)),Ui,f1']
   dsimp only
   rw [nL,Vu oQ,aD,Vv oQ,aD,cT (by rw [dF h2];rfl)]
 | succ j ih=>
  intro k aA b s hkj hkR hf hb hd hno;obtain ⟨aA,rfl⟩:=kF aA oQ;have hlk:(R.take k).length=k:=by rw [yQ];omega
  have hBt:D7 (R.take k)=true:=by
   have:=hR;rw [←List.take_append_drop k R,AK,o9] at this;exact this.1
  have hrd:Bb N c (R.take k) 1=some (rdL W 1 [] (R.take k)):=by
   rw [Uf N c _ 1 oQ ⟨hN,by omega⟩];unfold aA0;rw [aE oQ,aE oQ,aF hBt,hWW];rfl
  rcases h1:Vs W (R.take k) with _|i
  rotate_left
  ·obtain ⟨u,hu,hu0,hub⟩:=IC h1;have huR:=hub.trans (List.take_prefix k R)
   have hul:u.length=k:=by
    have hle:=hub.length_le;have:=hno u (List.mem_of_getElem? hu) hu0 oQ
    by_cases e:k=u.length
    ·exact e.symm
    ·exact absurd ⟨e,huR⟩ this
   refine ⟨b,s,R.take k,hb,.inl ⟨i,u,aK4 hpf hu hu0 huR,hu,fun i4 i5 kk=>?_,by rw [hul,hd]⟩⟩;unfold lY;rw [hrd,aD];have Xd:rdL W 1 [] (R.take k)=([(i:Int)],(R.take k).drop (W.getD i []).length,0):=by unfold rdL;rw [h1];rfl
   rw [Xd]
   rfl
  have hnone:∀w∈W,w≠[]→w.length≤k→¬w <+: R:=fun w hw h0 hl hp=>Rz h1 w hw h0 (by
   rw [List.prefix_iff_eq_take.1 hp];have:R.take w.length=(R.take k).take w.length:=by rw [List.take_take,Nat.min_eq_left hl]
   rw [this]
   exact List.take_prefix _ _)
  have Xd:rdL W 1 [] (R.take k)=([],[],V9 W (R.take k)):=by unfold rdL;rw [h1]
  obtain ⟨b2,s2,f1,f2,f3,f4⟩:=Vw N oQ (n:=1) oQ 1 N b s oQ oQ oQ;have f1':∀kk,nP N 1 kk N (b,s)=kk (b2,s2):=f1
  by_cases h3:b2.length<1
  ·have hs2:=f4 h3;have hb2:b2=[]:=List.length_eq_zero_iff.1 oQ
   have hfull:R.length≤k:=by
    rw [f2,hb2,hs2] at hd;have:=bZ List.length hd;rw [List.length_drop] at this
    simp [RC] at this
    omega
   have aE2:Vs W R=none:=by rw [List.take_of_length_le hfull] at h1;exact h1
   refine ⟨b2,s2,R.take k,by omega,.inr ⟨aE2,fun i4 i5 kk=>?_⟩⟩;unfold lY;rw [hrd,aD,Xd]
   dsimp only
   rw [cF (dF (OV W _)),Ui,f1']
   dsimp only
   rw [p8]
   cases (!decide (V9 W (R.take k)=5)) <;> rfl
  by_cases h2:V9 W (R.take k)=5
  rotate_left
  ·have aE2:Vs W R=none:=Vx fun w hw h0 hp=>by
    rcases Nat.lt_or_ge k w.length with hl|hl
    ·refine aHD h2 w hw h0 ?_;exact List.prefix_of_prefix_length_le (List.take_prefix k R) hp oQ
    ·exact hnone w hw h0 hl hp
   refine ⟨b2.drop 1,s2,R.take k,by rw [List.length_drop];omega,.inr ⟨aE2,fun i4 i5 kk=>?_⟩⟩;unfold lY;rw [hrd,aD,Xd]
   dsimp only
   rw [cF (dF (OV W _)),Ui,f1']
   dsimp only
   rw [nL,Vu oQ,aD,Vv oQ,aD,cT (by rw [dF h2];rfl)]
  obtain ⟨t1,t2⟩:=aFb (b:=b2) (T:=uC s2) (n:=1) oQ;rw [f2] at hd
  have hlt:k<R.length:=by
   have:=bZ List.length hd;rw [List.length_drop,kG] at this
   omega
  have htk:R.take k++b2.take 1=R.take (k+1):=by
   rw [←t1,←hd,List.take_add]
  have hdk:R.drop (k+1)=b2.drop 1++uC s2:=by rw [←t2,←hd,List.drop_drop]
  obtain ⟨b3,s3,w3,g1,g2⟩:=ih (k+1) aA (b2.drop 1) s2 oQ oQ oQ (by rw [List.length_drop];omega) hdk (fun w hw h0 hl hx=>by
   rcases Nat.lt_or_ge k w.length with q|q
   ·exact hx.1 oQ
   ·exact hnone w hw h0 q hx.2)
  have step:∀i4 i5 kk,lY N c kk (aA+1) (b,s,i4,i5,R.take k)=lY N c kk aA (b2.drop 1,s2,i4,i5,R.take (k+1)):=fun i4 i5 kk=>by
   conv=>lhs;unfold lY
   rw [hrd,aD,Xd]
   dsimp only
   rw [cF (dF (OV W _)),Ui,f1']
   dsimp only
   rw [nL,Vu oQ,aD,Vv oQ,aD,cF (by rw [dT h2];rfl),aA8 (by rw [hlk,yQ];omega),aD,htk]
  refine ⟨b3,s3,w3,g1,?_⟩
  rcases g2 with ⟨i,u,a1,a2,a3,a4⟩|⟨a1,a2⟩
  ·exact .inl ⟨i,u,a1,a2,fun i4 i5 kk=>by rw [step,a3],a4⟩
  ·exact .inr ⟨a1,fun i4 i5 kk=>by rw [step,a2]⟩
theorem aFc {t:aR} (hb:D7 t=true) (h:1≤t.length):∃x,t[0]? = some x∧(((x.toNat:Int)=48)↔2*num 2 (jC t)<2^t.length):=by
 cases t with
 | nil=>simp at h
 | cons x t=>
  refine ⟨x,rfl,?_⟩;have hl:=B6 (B:=2) (jC t) (xL (by unfold D7 at hb ⊢;rw [tK,o9] at hb;exact hb.2));have bl:(jC t).length=t.length:=by simp [jC]
  have hx:x=48∨x=49:=by unfold D7 at hb;rw [tK,o9] at hb;exact bW hb.1
  rw [show jC (x::t)=(x.toNat-48)::jC t from rfl,Nm,List.length_cons,Nat.pow_succ,bl];rw [bl] at hl
  rcases hx with rfl|rfl
  ·rw [show (48:UInt8).toNat=48 from rfl]
   constructor
   ·intro _;omega
   ·intro _;rfl
  ·rw [show (49:UInt8).toNat=49 from rfl]
   constructor
   ·intro h;omega
   ·intro h;omega
theorem aA9 {t:aR} (h:2*num 2 (jC t)<2^t.length):vd t=(num 2 (jC t):Int)-(((2^t.length:Nat):Int)-1):=by unfold vd;rw [aF h];omega
theorem aBa {t:aR} (h:¬2*num 2 (jC t)<2^t.length):vd t=(num 2 (jC t):Int):=by unfold vd;rw [aE h]
theorem aFd {P:List Int} {x y:Int}:(P++[x]).set P.length y=P++[y]:=by
 rw [List.set_append_right _ _ (pK _),Nat.sub_self];rfl
theorem aFe (N:Nat) (hN:5000≤N) {c:List Int} (hc:oH c=0) {w h:Nat} (hw:1≤w∧w≤64) (hh:1≤h∧h≤64) {kind:Int} (hk:1≤kind∧kind≤7) (kk):∀(j aA:Nat) (P:List Int) (b s:aR),P.length+j=w*h→j<aA→(∀e∈P,0≤e∧e≤65535)→b.length≤7→D7 (b++uC s)=true →
  (PO (dL c) w kind j P (b++uC s)=none∧fS N (w:Int) (h:Int) kind c kk aA (P,b,s,(P.length:Int))=some (0,0,[],1)) ∨
  (∃P2 b2 s2,PO (dL c) w kind j P (b++uC s)=some (P2,b2++uC s2)∧b2.length≤7∧fS N (w:Int) (h:Int) kind c kk aA (P,b,s,(P.length:Int))=kk (P2,b2,s2,((w*h:Nat):Int))):=by
 have hm:=tM hw.2 hh.2;have hwh:aC.wrap ((w:Int)*(h:Int))=((w*h:Nat):Int):=by rw [show (w:Int)*(h:Int)=((w*h:Nat):Int) by simp,cM oQ]
 have hbW:=nG c
 have hWl:(dL c).length≤17:=by
  rw [zQ hc];obtain ⟨ns,rfl,_,_,Xb,_⟩:=DM hc;rw [kL];exact Xb
 intro j
 induction j with
 | zero=>
  intro aA P b s hj hf hP hb hB;obtain ⟨aA,rfl⟩:=kF aA oQ;refine .inr ⟨P,b,s,rfl,hb,?_⟩;unfold fS;rw [hwh,nL,show P.length=w*h by omega]
 | succ j ih=>
  intro aA P b s hj hf hP hb hB;obtain ⟨aA,rfl⟩:=kF aA oQ;have hlt:P.length<w*h:=oQ
  have hnx:aC.wrap ((P.length:Int)+1)=((P.length+1:Nat):Int):=by rw [cM oQ];rfl
  have hP0:∀e∈P++[0],0≤e∧e≤65535:=fun e he=>by
   rcases List.mem_append.1 he with q|q
   ·exact hP e q
   ·rw [List.mem_singleton.1 q];decide
  have hP1:(P++[(0:Int)]).length=P.length+1:=by simp
  have hg:tR N (w:Int) (h:Int) (P++[0]) kind (P.length:Int)=some (gs w P kind P.length):=by
   rw [Zw hP0 N hw hk _ oQ oQ,OZ hw.1 _ _ _ (pK _)]
  have hgi:-65535≤gs w P kind P.length∧gs w P kind P.length≤131070:=by
   rw [←OZ hw.1 P [0] kind (pK _)];exact aE6 hP0 hw.1 oQ
  have hset:∀y:Int,yO (P++[0]) (P.length:Int) y=some (P++[y]):=fun y=>by
   rw [DK oQ,fM,aFd]
  have hix:idx (P++[(0:Int)]) (P.length:Int)=some 0:=by rw [dC];simp
  have hval:∀d:Int,-32768<d∧d≤32768→aC.wrap (IntKind.u16.wrap (aC.wrap (gs w P kind P.length+d)))=(gs w P kind P.length+d)%65536:=fun d hd=>by
   rw [cM (x:=gs w P kind P.length+d) oQ,show IntKind.u16.wrap (gs w P kind P.length+d)=(gs w P kind P.length+d)%65536 by simp [IntKind.wrap,IntKind.bits,IntKind.signed],cM oQ]
  have go:∀(d:Int) (b2 s2:aR),b2.length≤7→rdStep (dL c) (b++uC s)=some (d,b2++uC s2) → 
    fS N (w:Int) (h:Int) kind c kk (aA+1) (P,b,s,(P.length:Int))=fS N (w:Int) (h:Int) kind c kk aA (P++[(gs w P kind P.length+d)%65536],b2,s2,((P.length+1:Nat):Int)) →
    (PO (dL c) w kind (j+1) P (b++uC s)=none∧fS N (w:Int) (h:Int) kind c kk (aA+1) (P,b,s,(P.length:Int))=some (0,0,[],1)) ∨
    (∃P2 b2 s2,PO (dL c) w kind (j+1) P (b++uC s)=some (P2,b2++uC s2)∧b2.length≤7∧fS N (w:Int) (h:Int) kind c kk (aA+1) (P,b,s,(P.length:Int))=kk (P2,b2,s2,((w*h:Nat):Int))):=by
   intro d b2 s2 h1 h2 h3;obtain ⟨hd,_,hRR⟩:=step_ok hbW hWl hB h2
   have hB2:D7 (b2++uC s2)=true:=by
    rw [hRR,AK,o9] at hB;exact hB.2
   have hl:(P++[(gs w P kind P.length+d)%65536]).length=P.length+1:=by simp
   have:=ih aA (P++[(gs w P kind P.length+d)%65536]) b2 s2 oQ oQ (fun e he=>by
    rcases List.mem_append.1 he with q|q
    ·exact hP e q
    ·rw [List.mem_singleton.1 q];omega) h1 hB2
   have e:PO (dL c) w kind (j+1) P (b++uC s)=PO (dL c) w kind j (P++[(gs w P kind P.length+d)%65536]) (b2++uC s2):=by
    conv=>lhs;unfold PO
    rw [h2]
   rw [hl] at this;rw [e,h3];exact this
  have bad:rdStep (dL c) (b++uC s)=none→PO (dL c) w kind (j+1) P (b++uC s)=none:=fun q=>by unfold PO;rw [q]
  obtain ⟨b2,s2,w2,n1,n2⟩:=aHE N hN hc hB 16 0 N b s rfl oQ oQ hb rfl (fun u hu h0 hl hx=>hx.1 oQ);have start:fS N (w:Int) (h:Int) kind c kk (aA+1) (P,b,s,(P.length:Int))=fS N (w:Int) (h:Int) kind c kk (aA+1) (P,b,s,(P.length:Int)):=rfl
  rcases n2 with ⟨i,u,a1,a2,a3,a4⟩|⟨a1,a2⟩
  rotate_left
  ·refine .inl ⟨bad (by unfold rdStep;rw [a1]),?_⟩;unfold fS;rw [hwh,p8,iQ uW,aD];refine (a2 0 0 _).trans ?_
   rfl
  have hgd:(dL c).getD i []=u:=by rw [qG,a2];rfl
  have hil:i<(dL c).length:=(List.getElem?_eq_some_iff.1 a2).1
  have hst:rdStep (dL c) (b++uC s)=if i=16 then some (32768,b2++uC s2) else if (b2++uC s2).length<i then none else some (vd ((b2++uC s2).take i),(b2++uC s2).drop i):=by
   unfold rdStep;rw [a1]
   dsimp only
   rw [hgd,a4]
  by_cases h16:i=16
  ·refine go 32768 b2 s2 n1 (by rw [hst,aF h16]) ?_
   conv=>lhs;unfold fS
   rw [hwh,p8,iQ uW,aD];refine (a3 0 0 _).trans ?_
   dsimp only
   rw [cF rQ,p8,hg,aD,hix,aD,hval _ aL,hset,aD,hnx]
  rw [aE h16] at hst
  by_cases h0:i=0
  ·subst h0;refine go 0 b2 s2 n1 (by rw [hst,aE oQ,List.take_zero,List.drop_zero];rfl) ?_
   conv=>lhs;unfold fS
   rw [hwh,p8,iQ uW,aD];refine (a3 0 0 _).trans ?_
   dsimp only
   rw [cF rQ,nL,nL,hg,aD,hix,aD,hval _ aL,hset,aD,hnx]
  obtain ⟨b3,s3,f1,f2,f3,f4⟩:=Vw N oQ (n:=i) oQ 2 N b2 s2 oQ oQ oQ;rw [f2] at hst
  by_cases hs:b3.length<i
  ·have hs3:=f4 hs;refine .inl ⟨bad (by rw [hst,hs3,RC,v4,aF hs]),?_⟩;unfold fS;rw [hwh,p8,iQ uW,aD];refine (a3 0 0 _).trans ?_
   dsimp only
   rw [cF rQ,nL,p8,f1]
   dsimp only
   rw [p8]
  obtain ⟨t1,t2⟩:=aFb (b:=b3) (T:=uC s3) (n:=i) oQ
  have hB3:D7 (b3.take i)=true:=by
   have e:b++uC s=u++(b3.take i++(b3.drop i++uC s3)):=by
    obtain ⟨u2,hu2,_,hub⟩:=IC a1;rw [a2] at hu2;cases hu2;obtain ⟨T,hT⟩:=hub;rw [←hT,List.drop_left] at a4;rw [←hT,a4,f2,←pL (b3.take i),List.take_append_drop]
   rw [e,AK,AK,o9,o9] at hB;exact hB.2.1
  have gK:(b3.take i).length=i:=by rw [yQ];omega
  rw [aE (by rw [kG];omega),t1,t2] at hst;obtain ⟨_,_,v1,v2⟩:=Vt hB3 oQ;have hvl:=B6 (B:=2) (jC (b3.take i)) (xL hB3);have bl:(jC (b3.take i)).length=i:=by simp only [jC,xK];exact gK
  rw [bl] at hvl;have aPt:=Fi (d:=i) oQ;obtain ⟨x,x1,x2⟩:=aFc hB3 oQ;rw [gK] at x2;refine go (vd (b3.take i)) (b3.drop i) s3 (by rw [List.length_drop];omega) hst ?_
  conv=>lhs;unfold fS
  rw [hwh,p8,iQ uW,aD];refine (a3 0 0 _).trans ?_
  dsimp only
  rw [cF rQ,nL,p8,f1]
  dsimp only
  rw [nL,DN oQ,aD,IB oQ,aD,Zs N oQ oQ,aD,aF hB3,aF oQ,show idx (b3.take i) 0=(b3.take i)[0]? from dC _ 0,x1,aD]
  dsimp only
  by_cases hx:2*num 2 (jC (b3.take i))<2^i
  ·have hv:=aA9 (t:=b3.take i) (by rw [gK];exact hx);rw [gK] at hv;rw [cT (dT (x2.2 hx)),DL,aD,Jl oQ,cM (x:=_-1) oQ,cM (x:=_-_) oQ,aD,hg,aD,hix,aD,←hv,hval _ oQ,hset,aD,hnx]
  ·have hv:=aBa (t:=b3.take i) (by rw [gK];exact hx);rw [cF (dF (fun q=>hx (x2.1 q))),hg,aD,hix,aD,←hv,hval _ oQ,hset,aD,hnx]
def uU (s:aR) (W H kind:Int) (c:List Int):pW:=
 if ¬(1≤W∧W≤64) then (0,0,[],3) else if ¬(1≤H∧H≤64) then (0,0,[],3) else if ¬(1≤kind∧kind≤7) then (0,0,[],6) else if oH c≠0 then (0,0,[],oH c) else
 match PO (dL c) W.toNat kind (W.toNat*H.toNat) [] (uC s) with
 | none=>(0,0,[],1)
 | some (P,R)=>if R.length≤7∧R=nH R.length 48 then (W,H,P,0) else (0,0,[],1)
theorem aMP:∀{b:aR},D7 b=true→(decide (0≤Go.Lib.indexByte b 49)) = !decide (b=nH b.length 48)
 | [],_=>rfl
 | x::b,h=>by
  have hx:x=48∨x=49:=by unfold D7 at h;rw [tK,o9] at h;exact bW h.1
  have hb:D7 b=true:=by unfold D7 at h ⊢;rw [tK,o9] at h;exact h.2
  have ih:=aMP hb;have ge:=Go.Lib.indexByte_ge b 49
  rcases hx with rfl|rfl
  ·have e:decide (0≤Go.Lib.indexByte (48::b) 49)=decide (0≤Go.Lib.indexByte b 49):=by
    rw [decide_eq_decide];show 0≤(if ((48:UInt8)==49)=true then (0:Int) else if (Go.Lib.indexByte b 49 == -1)=true then -1 else Go.Lib.indexByte b 49+1)↔_;rw [aE aL]
    by_cases hq:Go.Lib.indexByte b 49 = -1
    ·rw [aF (by rw [hq];rfl),hq]
    ·rw [aE (by simpa using hq)];omega
   rw [e,ih]
   congr 1
   rw [decide_eq_decide,List.length_cons,List.replicate_succ]
   simp
  ·rw [dF (show ¬((49:UInt8)::b=nH ((49:UInt8)::b).length 48) by rw [List.length_cons,List.replicate_succ];intro q;injection q with q _;revert q;decide)];exact dT (by show 0≤(if ((49:UInt8)==49)=true then (0:Int) else _);rw [aF aL];exact Int.le_refl _)
theorem SQ (N:Nat) (hN:200000≤N) (s:aR) (W H kind:Int) (c:List Int):Fd N s W H kind c=some (uU s W H kind c):=by
 unfold Fd uU
 by_cases h1:W<1
 ·rw [cT (dT h1),aF oQ]
 rw [cF (dF h1)]
 by_cases h2:64<W
 ·rw [cT (dT h2),aF oQ]
 rw [cF (dF h2),aE oQ]
 by_cases h3:H<1
 ·rw [cT (dT h3),aF oQ]
 rw [cF (dF h3)]
 by_cases h4:64<H
 ·rw [cT (dT h4),aF oQ]
 rw [cF (dF h4),aE oQ]
 by_cases h5:kind<1
 ·rw [cT (dT h5),aF oQ]
 rw [cF (dF h5)]
 by_cases h6:7<kind
 ·rw [cT (dT h6),aF oQ]
 rw [cF (dF h6),aE oQ,Jm N oQ,aD]
 by_cases h7:oH c=0
 rotate_left
 ·rw [cT (by rw [dF h7];rfl),aF h7]
 rw [cF (by rw [dT h7];rfl),aE oQ];obtain ⟨w,rfl⟩:=sC (show 0≤W by omega);obtain ⟨h,rfl⟩:=sC (show 0≤H by omega);have hm:=tM (show w≤64 by omega) (show h≤64 by omega);rw [fM,fM];have hB:D7 ([]++uC s)=true:=DO s
 have key:=aFe N oQ h7 (w:=w) (h:=h) oQ oQ (kind:=kind) oQ (fun (sZ,x27,x28,i8)=>
  cond (!decide (x28=([]:aR))) (
  some (0,0,([]:List Int),1)) (
  dH (v7 N x27 ([49]:aR)) fun I6=>
  cond (I6) (
  some (0,0,([]:List Int),1)) (
  some ((w:Int),(h:Int),sZ,0)))) (w*h) N [] [] s sQ oQ sQ sQ hB
 rw [List.nil_append] at key
 rcases key with ⟨k1,k2⟩|⟨P2,b2,s2,k1,k2,k3⟩
 ·rw [k1];exact k2
 refine Eq.trans k3 ?_;rw [k1]
 dsimp only
 have hB2:D7 (b2++uC s2)=true:=(RE (nG c) (by
  rw [zQ h7];obtain ⟨ns,rfl,_,_,Xb,_⟩:=DM h7
  rw [kL];exact Xb) oQ _ _ _ [] _ _ (DO s) sQ rfl k1).2.2.2.2
 by_cases hs:s2=[]
 rotate_left
 ·have:1≤s2.length:=by
   rcases Nat.eq_zero_or_pos s2.length with q|q
   ·exact absurd (List.length_eq_zero_iff.1 q) hs
   ·exact q
  rw [cT (by rw [dF hs];rfl),aE];rw [kG,KT]
  omega
 subst hs;rw [RC,v4] at hB2 ⊢;rw [cF rQ,show v7 N b2 [49]=some (decide (0≤Go.Lib.indexByte b2 49)) from rfl,aD,aMP hB2]
 by_cases hz:b2=nH b2.length 48
 ·rw [dT hz,aF ⟨k2,hz⟩];rfl
 ·rw [dF hz,aE (fun q=>hz q.2)];rfl
theorem aFf {P:List Int} {m:Nat} {y:Int}:(P++nH (m+1) 0).set P.length y=(P++[y])++nH m 0:=by
 rw [List.set_append_right _ _ (pK _),Nat.sub_self,List.replicate_succ,List.set_cons_zero,pL];rfl
theorem aHF (N:Nat) (hN:5000≤N) {c:List Int} (hc:oH c=0) {w h:Nat} (hw:1≤w∧w≤64) (hh:1≤h∧h≤64) {kind:Int} (hk:1≤kind∧kind≤7) (kk):∀(j aA:Nat) (P:List Int) (R:aR),P.length+j=w*h→j<aA→(∀e∈P,0≤e∧e≤65535)→R.length≤16777216→D7 R=true →
  eY N (w:Int) (h:Int) kind (dL c) kk aA (P++nH j 0,R,(P.length:Int))=match PO (dL c) w kind j P R with
   | none=>some (0,0,[],1)
   | some (P2,R2)=>kk (P2,R2,((w*h:Nat):Int)):=by
 have hm:=tM hw.2 hh.2;have hwh:aC.wrap ((w:Int)*(h:Int))=((w*h:Nat):Int):=by rw [show (w:Int)*(h:Int)=((w*h:Nat):Int) by simp,cM oQ]
 have hbW:=nG c
 have hWl:(dL c).length≤17:=by
  rw [zQ hc];obtain ⟨ns,rfl,_,_,Xb,_⟩:=DM hc;rw [kL];exact Xb
 intro j
 induction j with
 | zero=>
  intro aA P R hj hf hP hRl hB;obtain ⟨aA,rfl⟩:=kF aA oQ;unfold eY PO;rw [hwh,nL,show P.length=w*h by omega,List.replicate_zero,v4]
 | succ j ih=>
  intro aA P R hj hf hP hRl hB;obtain ⟨aA,rfl⟩:=kF aA oQ;have hlt:P.length<w*h:=oQ
  have hnx:aC.wrap ((P.length:Int)+1)=((P.length+1:Nat):Int):=by rw [cM oQ];rfl
  have hP0:∀e∈P++nH (j+1) 0,0≤e∧e≤65535:=fun e he=>by
   rcases List.mem_append.1 he with q|q
   ·exact hP e q
   ·rw [(List.mem_replicate.1 q).2];decide
  have hP1:(P++nH (j+1) (0:Int)).length=w*h:=by rw [kG,List.length_replicate];omega
  have hxy:P.length/w*w+P.length%w=P.length:=by rw [oA];exact Nat.div_add_mod _ _
  have hxw:=Nat.mod_lt P.length (show w>0 by omega);have hyh:P.length/w<h:=Nat.div_lt_of_lt_mul hlt;obtain ⟨t1,t2⟩:=tdm (W:=w) P.length oQ;have hdl:P.length/w≤P.length:=Nat.div_le_self _ _
  have hg:jV N (w:Int) (h:Int) (P++nH (j+1) 0) kind (mN (P.length:Int) (w:Int)) (aC.wrap (gI (P.length:Int) (w:Int)))=some (gs w P kind P.length):=by
   rw [t1,t2,cM (x:=((P.length/w:Nat):Int)) ⟨Int.le_trans aL (Int.natCast_nonneg _),Int.le_trans (Int.ofNat_le.2 hdl) oQ⟩,RA hP0 N hw hk _ hxw oQ oQ oQ,hxy,OZ hw.1 _ _ _ (pK _)]
  have hgi:-65535≤gs w P kind P.length∧gs w P kind P.length≤131070:=by
   rw [←OZ hw.1 P (nH (j+1) 0) kind (pK _)];exact aE6 hP0 hw.1 oQ
  have hset:∀y:Int,yO (P++nH (j+1) 0) (P.length:Int) y=some ((P++[y])++nH j 0):=fun y=>by
   rw [DK oQ,fM,aFf]
  have hix:idx (P++nH (j+1) (0:Int)) (P.length:Int)=some 0:=by
   rw [dC,List.getElem?_append_right (pK _),Nat.sub_self,List.replicate_succ];rfl
  have hval:∀(d:Int) (kk2:Int→Option pW),-32768<d∧d≤32768→(dH (some (aC.wrap (gs w P kind P.length+d))) fun x=>dH (bT N x 65536) fun r=>kk2 (aC.wrap (x-aC.wrap (65536*r))))=kk2 ((gs w P kind P.length+d)%65536):=fun d kk2 hd=>by
   rw [cM (x:=gs w P kind P.length+d) oQ,aD,Jg N oQ oQ,aD,cM (x:=65536*_) oQ,cM oQ]
   congr 1
   omega
  have nzw:nz (w:Int)=some ():=AJ oQ
  have go:∀(d:Int) (R2:aR),rdStep (dL c) R=some (d,R2)→-32768<d∧d≤32768→R2.length≤R.length →
    (dH (some (aC.wrap (gs w P kind P.length+d))) fun x=>dH (bT N x 65536) fun r=>
     dH (idx (P++nH (j+1) 0) (P.length:Int)) fun e6=>
     dH (yO (P++nH (j+1) 0) (P.length:Int) (aC.wrap (x-aC.wrap (65536*r)))) fun l6=>
     dH (some (aC.wrap ((P.length:Int)+1))) fun US=>
     eY N (w:Int) (h:Int) kind (dL c) kk aA (l6,R2,US))=match PO (dL c) w kind (j+1) P R with
   | none=>some (0,0,[],1)
   | some (P2,R2)=>kk (P2,R2,((w*h:Nat):Int)):=by
   intro d R2 h2 hd hR2;obtain ⟨_,_,hRR⟩:=step_ok hbW hWl hB h2
   have hB2:D7 R2=true:=by
    rw [hRR,AK,o9] at hB;exact hB.2
   have hl:(P++[(gs w P kind P.length+d)%65536]).length=P.length+1:=by simp
   have:=ih aA (P++[(gs w P kind P.length+d)%65536]) R2 oQ oQ (fun e he=>by
    rcases List.mem_append.1 he with q|q
    ·exact hP e q
    ·rw [List.mem_singleton.1 q];omega) oQ hB2
   rw [hl] at this
   have e:=hval d (fun v=>dH (idx (P++nH (j+1) 0) (P.length:Int)) fun e6=>
     dH (yO (P++nH (j+1) 0) (P.length:Int) v) fun l6=>
     dH (some (aC.wrap ((P.length:Int)+1))) fun US=>
     eY N (w:Int) (h:Int) kind (dL c) kk aA (l6,R2,US)) hd
   refine Eq.trans e ?_;rw [hix,aD,hset,aD,hnx,aD,this]
   conv=>rhs;unfold PO
   rw [h2]
  unfold eY;rw [hwh,p8,front_eq N oQ oQ hbW hRl,aD]
  rcases hf1:Vs (dL c) R with _|i
  ·dsimp only
   rw [cT (by rw [dF (OV _ _)];rfl)];unfold PO rdStep;rw [hf1]
  obtain ⟨u,a2,hu0,hub⟩:=IC hf1;have hgd:(dL c).getD i []=u:=by rw [qG,a2];rfl
  have hil:i<(dL c).length:=(List.getElem?_eq_some_iff.1 a2).1
  have hst:rdStep (dL c) R=if i=16 then some (32768,R.drop u.length) else if (R.drop u.length).length<i then none else some (vd ((R.drop u.length).take i),(R.drop u.length).drop i):=by
   unfold rdStep;rw [hf1]
   dsimp only
   rw [hgd]
  have aPu:(R.drop u.length).length≤R.length:=by rw [List.length_drop];omega
  dsimp only
  rw [cF rQ,dC,a2,aD,IB hub.length_le,aD]
  by_cases h16:i=16
  ·rw [p8,nzw,aD,aD,hg,aD];exact go 32768 _ (by rw [hst,aF h16]) aL aPu
  rw [aE h16] at hst;rw [nL]
  have hBd:D7 (R.drop u.length)=true:=by
   have:=hB;rw [←List.take_append_drop u.length R,AK,o9] at this;exact this.2
  generalize R.drop u.length=T at *
  by_cases hs:T.length<i
  ·rw [p8];rw [aF hs] at hst;unfold PO;rw [hst]
  rw [aE hs] at hst
  have hBt:D7 (T.take i)=true:=by
   have:=hBd;rw [←List.take_append_drop i T,AK,o9] at this;exact this.1
  have gK:(T.take i).length=i:=by rw [yQ];omega
  have aPt:=Fi (d:=i) oQ;have hvl:=B6 (B:=2) (jC (T.take i)) (xL hBt);have bl:(jC (T.take i)).length=i:=by simp only [jC,xK];exact gK
  rw [bl] at hvl;obtain ⟨_,_,v1,v2⟩:=Vt hBt oQ;have aMQ:(T.drop i).length≤R.length:=by rw [List.length_drop];omega
  have hpos:=Nat.two_pow_pos i;rw [nL,DN oQ,aD,aCm N oQ hBt oQ,aD,DL,aD,aD,Jl oQ,show gI ((2^i:Nat):Int) 2=((2^i/2:Nat):Int) from rfl,cM (x:=((2^i/2:Nat):Int)) oQ]
  by_cases hx:num 2 (jC (T.take i))<2^i/2
  ·have hv:=aA9 (t:=T.take i) (by rw [gK];omega);rw [gK] at hv;rw [p8,cM (x:=_-((2^i:Nat):Int)) oQ,show ((num 2 (jC (T.take i)):Nat):Int)-((2^i:Nat):Int)+1=vd (T.take i) by omega,cM (x:=vd _) oQ,aD,IB oQ,aD,nzw,aD,aD,hg,aD];exact go _ _ hst oQ aMQ
  ·have hv:vd (T.take i)=(num 2 (jC (T.take i)):Int):=by
    by_cases h0:i=0
    ·subst h0;rfl
    ·have hp:2^i=2*2^(i-1):=by rw [←Nat.pow_succ'];congr 1;omega
     exact aBa (by rw [gK];omega)
   rw [nL,IB oQ,aD,nzw,aD,aD,hg,aD,←hv];exact go _ _ hst oQ aMQ
theorem RF {w h:Nat} (hw:1≤w∧w≤64) (hh:1≤h∧h≤64) {P:List Int} (hP:∀e∈P,0≤e∧e≤65535) (hl:P.length=w*h) {kind:Int} (hk:1≤kind∧kind≤7) {c:List Int} (hc:oH c=0) (ha:(ds w P kind).all (Yt (dL c))=true):Jn (w:Int) (h:Int) P kind c=(byB (LT (dL c) (ds w P kind)),0):=by
 have hp:plF (w:Int) (h:Int) P=true:=by
  unfold plF;rw [dT (show oN (w:Int) (h:Int) P.length from ⟨by omega,by omega,by omega,by omega,by rw [hl];simp⟩),tF,List.all_eq_true];exact fun e he=>dT (hP e he)
 unfold Jn;rw [hp,aE aL,aE oQ,aE oQ,fM,aF ha]
theorem Vy (N:Nat) (hN:200000≤N) (s:aR) (W H kind:Int) (c:List Int):sA N s W H kind c=some (uU s W H kind c):=by
 unfold sA uU;rw [z6,aD]
 by_cases h1:1≤W∧W≤64
 rotate_left
 ·rw [cT (by rw [dF h1];rfl),aF h1]
 rw [cF (by rw [dT h1];rfl),aE oQ,z6,aD]
 by_cases h2:1≤H∧H≤64
 rotate_left
 ·rw [cT (by rw [dF h2];rfl),aF h2]
 rw [cF (by rw [dT h2];rfl),aE oQ,z6,aD]
 by_cases h3:1≤kind∧kind≤7
 rotate_left
 ·rw [cT (by rw [dF h3];rfl),aF h3]
 rw [cF (by rw [dT h3];rfl),aE oQ,OS N oQ,aD]
 by_cases h7:oH c=0
 rotate_left
 ·rw [cT (by rw [dF h7];rfl),aF h7]
 rw [cF (by rw [dT h7];rfl),aE oQ,Pp N oQ h7,aD];obtain ⟨w,rfl⟩:=sC (show 0≤W by omega);obtain ⟨h,rfl⟩:=sC (show 0≤H by omega);have hm:=tM (show w≤64 by omega) (show h≤64 by omega);rw [fM,fM]
 have hWl:(dL c).length≤17:=by
  rw [zQ h7];obtain ⟨ns,rfl,_,_,Xb,_⟩:=DM h7;rw [kL];exact Xb
 have fin:∀P2 R2,PO (dL c) w kind (w*h) [] (uC s)=some (P2,R2)→Jn (w:Int) (h:Int) P2 kind c=(byB (LT (dL c) (ds w P2 kind)),0)∧uC s=LT (dL c) (ds w P2 kind)++R2∧(ds w P2 kind).length=w*h:=fun P2 R2 hr=>by
  obtain ⟨q1,q2,q3,q4,q5⟩:=RE (nG c) hWl oQ _ _ _ [] _ _ (DO s) sQ rfl hr;rw [List.length_nil,Nat.zero_add] at q1;refine ⟨RF oQ oQ q2 q1 h3 h7 q3,q4,by rw [Zz,q1]⟩
 by_cases h8:32768<s.length
 ·rw [p8]
  rcases hr:PO (dL c) w kind (w*h) [] (uC s) with _|⟨P2,R2⟩
  ·rfl
  dsimp only
  obtain ⟨_,q2,q3⟩:=fin P2 R2 hr;have hcl:=Nr (nG c) (aA5 w P2 kind);have:=bZ List.length q2;rw [KT,kG] at this;rw [aE oQ]
 have hwh:aC.wrap ((w:Int)*(h:Int))=((w*h:Nat):Int):=by rw [show (w:Int)*(h:Int)=((w*h:Nat):Int) by simp,cM oQ]
 rw [nL,aEO N oQ oQ,aD,hwh,aD,mk_eq oQ,aD,fM]
 have key:=aHF N oQ h7 (w:=w) (h:=h) oQ oQ h3 (fun (aBI,i3,i4)=>
  dH (nV N (w:Int) (h:Int) aBI kind c) fun V8=>
  cond (!decide (V8.2=0)) (
  some (0,0,([]:List Int),1)) (
  cond (!decide (V8.1=s)) (
  some (0,0,([]:List Int),1)) (
  some ((w:Int),(h:Int),aBI,0)))) (w*h) N [] (uC s) sQ oQ sQ (by rw [KT];omega) (DO s)
 rw [List.nil_append] at key;refine Eq.trans key ?_
 rcases hr:PO (dL c) w kind (w*h) [] (uC s) with _|⟨P2,R2⟩
 ·rfl
 dsimp only
 obtain ⟨q1,q2,q3⟩:=fin P2 R2 hr;have hfi:=aA6 q2;rw [SO N hN,aD,q1]
 dsimp only
 rw [cF rQ]
 by_cases hz:R2.length≤7∧R2=nH R2.length 48
 ·rw [aF hz,cF (by rw [dT (hfi.2 hz)];rfl)]
 ·rw [aE hz,cT (by rw [dF (fun q=>hz (hfi.1 q))];rfl)]
theorem RG (s:aR) (W H kind:Int) (c:List Int):(uU s W H kind c).2.2.1.length≤4096:=by
 unfold uU
 split
 ·simp
 split
 ·simp
 split
 ·simp
 split
 ·simp
 rename_i h1 h2 h3 h4
 split
 ·simp
 rename_i P R hr
 split
 rotate_left
 ·simp
 have h7:oH c=0:=oQ
 have hWl:(dL c).length≤17:=by
  rw [zQ h7];obtain ⟨ns,rfl,_,_,Xb,_⟩:=DM h7;rw [kL];exact Xb
 have hm:=tM (show W.toNat≤64 by omega) (show H.toNat≤64 by omega);have:=(RE (nG c) hWl oQ _ _ _ [] _ _ (DO s) sQ rfl hr).1;rw [List.length_nil,Nat.zero_add] at this;show P.length≤_
 omega
theorem Xe (s:aR) (W H kind:Int) (c:List Int) (h:(uU s W H kind c).2.2.2=0):Jn (uU s W H kind c).1 (uU s W H kind c).2.1 (uU s W H kind c).2.2.1 kind c=(s,0):=by
 unfold uU at h ⊢
 by_cases h1:1≤W∧W≤64
 rotate_left
 ·rw [aF h1] at h;cases h
 rw [aE oQ] at h ⊢
 by_cases h2:1≤H∧H≤64
 rotate_left
 ·rw [aF h2] at h;cases h
 rw [aE oQ] at h ⊢
 by_cases h3:1≤kind∧kind≤7
 rotate_left
 ·rw [aF h3] at h;cases h
 rw [aE oQ] at h ⊢
 by_cases h7:oH c=0
 rotate_left
 ·rw [aF h7] at h;exact absurd h h7
 rw [aE oQ] at h ⊢;obtain ⟨w,rfl⟩:=sC (show 0≤W by omega);obtain ⟨k,rfl⟩:=sC (show 0≤H by omega);rw [fM,fM] at h ⊢
 have hWl:(dL c).length≤17:=by
  rw [zQ h7];obtain ⟨ns,rfl,_,_,Xb,_⟩:=DM h7;rw [kL];exact Xb
 rcases hr:PO (dL c) w kind (w*k) [] (uC s) with _|⟨P2,R2⟩
 ·rw [hr] at h;cases h
 rw [hr] at h;dsimp only at h ⊢
 by_cases hz:R2.length≤7∧R2=nH R2.length 48
 rotate_left
 ·rw [aE hz] at h;cases h
 rw [aF hz];obtain ⟨q1,q2,q3,q4,q5⟩:=RE (nG c) hWl oQ _ _ _ [] _ _ (DO s) sQ rfl hr;rw [List.length_nil,Nat.zero_add] at q1
 dsimp only
 rw [RF oQ oQ q2 q1 h3 h7 q3,(aA6 q4).2 hz]
theorem KU {s:aR} {o p:Int} (h:f8 s o p=0):∃d n:Nat,o=d∧p=n∧(1≤d∧d≤16)∧n≤4096∧s.length=(n*d+7)/8∧JL s s.length%2^(8*s.length-d*n)=0:=by
 unfold f8 at h
 by_cases h1:1≤o∧o≤16
 rotate_left
 ·rw [aF h1] at h;cases h
 rw [aE (fun q=>q h1)] at h
 by_cases h2:p<0
 ·rw [aF h2] at h;cases h
 rw [aE h2] at h
 by_cases h3:4096<p
 ·rw [aF h3] at h;cases h
 rw [aE h3] at h;obtain ⟨d,rfl⟩:=sC (show 0≤o by omega);obtain ⟨n,rfl⟩:=sC (show 0≤p by omega);rw [fM,fM] at h
 by_cases h4:s.length=(n*d+7)/8
 rotate_left
 ·rw [aF h4] at h;cases h
 rw [aE (fun q=>q h4)] at h
 by_cases h5:JL s s.length%2^(8*s.length-d*n)=0
 rotate_left
 ·rw [aF h5] at h;cases h
 exact ⟨d,n,rfl,rfl,by omega,by omega,h4,h5⟩
abbrev Vz:=J3
theorem orC {β:Type} {a b:Prop} [Decidable a] [Decidable b] (kk:Bool→Option β):cond (decide a) (kk (decide a)) (kk (decide b))=kk (decide (a∨b)):=by
 by_cases h:a
 ·rw [decide_eq_true h,decide_eq_true (show a∨b from Or.inl h)];rfl
 ·rw [decide_eq_false h]
  by_cases h2:b
  ·rw [decide_eq_true h2,decide_eq_true (show a∨b from Or.inr h2)];rfl
  ·rw [decide_eq_false h2,decide_eq_false (show ¬(a∨b) from fun q=>q.elim h h2)];rfl
section
variable (W H D K R:Int) (Ls:List Int) (St:List aR) (ph b0 b1 b2 b3 w:Int) (sp:List aN) (g0 g1 g2 m0 m1 m2 m3 m4 m5 m6 m7 m8:Int) (cv:List aN) (am:Int)
theorem aHG (N:Nat) (kk):EQ N H R kk=kk (decide (R<1∨H<R)):=by unfold EQ;exact orC kk
theorem aHH (N:Nat) (kk):ES N H D R kk=kk (decide (16<D∨R<1∨H<R)):=by unfold ES;rw [aHG];exact orC kk
theorem aHI (N:Nat) (kk):ET N H D R kk=kk (decide (D<1∨16<D∨R<1∨H<R)):=by unfold ET;rw [aHH];exact orC kk
theorem aHJ (N:Nat) (kk):EU N H D R kk=kk (decide (64<H∨D<1∨16<D∨R<1∨H<R)):=by unfold EU;rw [aHI];exact orC kk
theorem aHK (N:Nat) (kk):EW N H D R kk=kk (decide (H<1∨64<H∨D<1∨16<D∨R<1∨H<R)):=by unfold EW;rw [aHJ];exact orC kk
theorem aHL (N:Nat) (kk):EX N W H D R kk=kk (decide (64<W∨H<1∨64<H∨D<1∨16<D∨R<1∨H<R)):=by unfold EX;rw [aHK];exact orC kk
theorem aHM (N:Nat) (kk):EZ N W H D R kk=kk (decide (W<1∨64<W∨H<1∨64<H∨D<1∨16<D∨R<1∨H<R)):=by unfold EZ;rw [aHL];exact orC kk
theorem aHN (N:Nat) (kk):EY N K kk=kk (decide (K<0∨7<K)):=by unfold EY;exact orC kk
def EG:Prop:=(1≤W∧W≤64)∧(1≤H∧H≤64)∧(1≤D∧D≤16)∧1≤R∧R≤H
instance:Decidable (EG W H D R):=by unfold EG;exact inferInstance
def AL:Int:=if ¬EG W H D R then 3 else if ¬(0≤K∧K≤7) then 6 else if 0<K then oH Ls else if 0<Ls.length then 1 else 0
theorem aCv (N:Nat) (hN:100≤N):Ek N W H D K R Ls St ph b0 b1 b2 b3 w sp g0 g1 g2 m0 m1 m2 m3 m4 m5 m6 m7 m8 cv am=some (AL W H D K R Ls):=by
 unfold Ek AL;rw [aHM]
 by_cases h1:EG W H D R
 rotate_left
 ·rw [cT (decide_eq_true (by unfold EG at h1;omega)),aF h1]
 rw [cF (decide_eq_false (by unfold EG at h1;omega)),aE (fun q=>q h1),aHN]
 by_cases h2:0≤K∧K≤7
 rotate_left
 ·rw [cT (decide_eq_true oQ),aF h2]
 rw [cF (decide_eq_false oQ),aE (fun q=>q h2)]
 by_cases h3:0<K
 ·rw [cT (dT h3),Jm N hN,aD,aF h3]
 rw [cF (dF h3),aE h3]
 by_cases h4:0<Ls.length
 ·rw [p8,aF h4]
 ·rw [nL,aE h4]
theorem aFg (N:Nat) (hN:100≤N):qU N W H D K R Ls St ph b0 b1 b2 b3 w sp g0 g1 g2 m0 m1 m2 m3 m4 m5 m6 m7 m8 cv am=some (AL W H D K R Ls):=by
 unfold qU AL;rw [z6,aD]
 by_cases h1:1≤W∧W≤64
 rotate_left
 ·rw [cT (by rw [dF h1];rfl),aF (fun q=>h1 q.1)]
 rw [cF (by rw [dT h1];rfl),z6,aD]
 by_cases h2:1≤H∧H≤64
 rotate_left
 ·rw [cT (by rw [dF h2];rfl),aF (fun q=>h2 q.2.1)]
 rw [cF (by rw [dT h2];rfl),z6,aD]
 by_cases h3:1≤D∧D≤16
 rotate_left
 ·rw [cT (by rw [dF h3];rfl),aF (fun q=>h3 q.2.2.1)]
 rw [cF (by rw [dT h3];rfl),z6,aD]
 by_cases h4:1≤R∧R≤H
 rotate_left
 ·rw [cT (by rw [dF h4];rfl),aF (fun q=>h4 q.2.2.2)]
 rw [cF (by rw [dT h4];rfl),z6,aD,aE (fun q=>q ⟨h1,h2,h3,h4⟩)]
 by_cases h5:0≤K∧K≤7
 rotate_left
 ·rw [cT (by rw [dF h5];rfl),aF h5]
 rw [cF (by rw [dT h5];rfl),aE (fun q=>q h5)]
 by_cases h6:K=0
 ·rw [cT (dT h6),aE oQ]
  by_cases h7:0<Ls.length
  ·rw [p8,aF h7]
  ·rw [nL,nL,aE h7]
 ·rw [cF (dF h6),p8,OS N hN,aD,aF oQ]
def O0 (f:Bool):Int:=if zP ph b0 b1 b2 b3 w sp g0 g1 g2 m0 m1 m2 m3 m4 m5 m6 m7 m8 am=false then 3 else if f=false then 1 else if sp.all (gX W H)=false then 3 else 0
theorem aLa (s:List aN) (hl:s.length≤4096):∀(d k aA:Nat),k+d=s.length→d<aA →
  ∃r,cQ 8589934592 s W H D K R Ls St ph b0 b1 b2 b3 w sp g0 g1 g2 m0 m1 m2 m3 m4 m5 m6 m7 m8 cv am (fun _=>some (-1)) aA (k:Int)=some r∧decide (0≤r) = !((s.drop k).all fun q=>decide (q.1<W∧q.2<H)):=by
 intro d
 induction d with
 | zero=>
  intro k aA hk hf;obtain ⟨aA,rfl⟩:=kF aA oQ;obtain rfl:k=s.length:=oQ
  unfold cQ;rw [nL];exact ⟨_,rfl,by simp⟩
 | succ d ih=>
  intro k aA hk hf;obtain ⟨aA,rfl⟩:=kF aA oQ;have hlt:k<s.length:=oQ
  unfold cQ FW;rw [p8,dC,f9 hlt,aD,zC hlt,tK]
  by_cases h1:W≤s[k].1
  ·rw [cT (dT h1),aD,cT rfl];refine ⟨_,rfl,?_⟩;rw [dT oQ,decide_eq_false (show ¬(s[k].1<W∧s[k].2<H) by omega)];rfl
  rw [cF (dF h1),aD]
  by_cases h2:H≤s[k].2
  ·rw [cT (dT h2)];refine ⟨_,rfl,?_⟩;rw [dT oQ,decide_eq_false (show ¬(s[k].1<W∧s[k].2<H) by omega)];rfl
  ·rw [cF (dF h2),cM oQ,decide_eq_true (show (s[k].1<W∧s[k].2<H) by omega),tF];exact ih (k+1) aA oQ oQ
theorem Xf (s:List aN) (hl:s.length≤4096):dN 8589934592 s W H D K R Ls St ph b0 b1 b2 b3 w sp g0 g1 g2 m0 m1 m2 m3 m4 m5 m6 m7 m8 cv am=some (!(s.all fun q=>decide (q.1<W∧q.2<H))):=by
 obtain ⟨r,hr,hd⟩:=aLa W H D K R Ls St ph b0 b1 b2 b3 w sp g0 g1 g2 m0 m1 m2 m3 m4 m5 m6 m7 m8 cv am s hl s.length 0 8589934592 oQ oQ;have hr':cQ 8589934592 s W H D K R Ls St ph b0 b1 b2 b3 w sp g0 g1 g2 m0 m1 m2 m3 m4 m5 m6 m7 m8 cv am (fun _=>some (-1)) 8589934592 0=some r:=hr;unfold dN gJ;rw [hr',aD,hd,List.drop_zero]
theorem ZA {s:List aN} (h:s.all (gX 64 64)=true):(s.all fun q=>decide (q.1<W∧q.2<H))=s.all (gX W H):=by
 induction s with
 | nil=>rfl
 | cons q s ih=>
  rw [tK,o9] at h;rw [tK,tK,ih h.2]
  congr 1
  have h1:=h.1;unfold gX at h1 ⊢;simp only [o9,decide_eq_true_eq] at h1;rw [dT h1.1.1.1,dT h1.1.2,tF,Bool.and_true]
  by_cases a:q.1<W <;> by_cases b:q.2<H <;> simp [a,b]
theorem Xg (h:zP ph b0 b1 b2 b3 w sp g0 g1 g2 m0 m1 m2 m3 m4 m5 m6 m7 m8 am=true):sp.length≤64∧sp.all (gX 64 64)=true:=by
 unfold zP at h;simp only [o9,decide_eq_true_eq] at h;exact ⟨h.2.2.2.1,h.2.2.2.2.1⟩
theorem aCw {f:Bool} (hb:jP 8589934592 cv=some f) (hc:f=true↔pU cv):Ev 8589934592 W H D K R Ls St ph b0 b1 b2 b3 w sp g0 g1 g2 m0 m1 m2 m3 m4 m5 m6 m7 m8 cv am=some (O0 W H ph b0 b1 b2 b3 w sp g0 g1 g2 m0 m1 m2 m3 m4 m5 m6 m7 m8 am f):=by
 unfold Ev O0;rw [Nk ph b0 b1 b2 b3 w sp g0 g1 g2 m0 m1 m2 m3 m4 m5 m6 m7 m8 cv am hb hc,aD]
 by_cases h1:zP ph b0 b1 b2 b3 w sp g0 g1 g2 m0 m1 m2 m3 m4 m5 m6 m7 m8 am=false
 ·rw [aF h1,cT rQ,aF h1]
 rw [aE h1,aE h1];have h1':=(Bool.not_eq_false _).mp h1
 by_cases h2:f=false
 ·rw [aF h2,cT rQ,aF h2]
 rw [aE h2,cF rQ,aE h2];obtain ⟨p1,p2⟩:=Xg ph b0 b1 b2 b3 w sp g0 g1 g2 m0 m1 m2 m3 m4 m5 m6 m7 m8 am h1';rw [Xf W H D K R Ls St ph b0 b1 b2 b3 w sp g0 g1 g2 m0 m1 m2 m3 m4 m5 m6 m7 m8 cv am sp oQ,aD,ZA W H p2]
 by_cases h3:sp.all (gX W H)=false
 ·rw [h3,aF rfl,cT rQ]
 ·rw [(Bool.not_eq_false _).mp h3,cF rQ,aE aL]
theorem aFh {f:Bool} (hb:iM 8589934592 cv=some f) (hW:1≤W∧W≤64) (hH:1≤H∧H≤64):qW 8589934592 W H D K R Ls St ph b0 b1 b2 b3 w sp g0 g1 g2 m0 m1 m2 m3 m4 m5 m6 m7 m8 cv am=some (O0 W H ph b0 b1 b2 b3 w sp g0 g1 g2 m0 m1 m2 m3 m4 m5 m6 m7 m8 am f):=by
 unfold qW O0;rw [Ve ph b0 b1 b2 b3 w sp g0 g1 g2 m0 m1 m2 m3 m4 m5 m6 m7 m8 cv am hb,aD]
 by_cases h1:zP ph b0 b1 b2 b3 w sp g0 g1 g2 m0 m1 m2 m3 m4 m5 m6 m7 m8 am=false
 ·rw [aF h1,cT rQ,aF h1]
 rw [aE h1,aE h1];have h1':=(Bool.not_eq_false _).mp h1
 by_cases h2:f=false
 ·rw [aF h2,cT rQ,aF h2]
 rw [aE h2,cF rQ,aE h2];obtain ⟨p1,p2⟩:=Xg ph b0 b1 b2 b3 w sp g0 g1 g2 m0 m1 m2 m3 m4 m5 m6 m7 m8 am h1';rw [Rl sp oQ oQ oQ,aD]
 by_cases h3:sp.all (gX W H)=false
 ·rw [h3,aF rfl,cT rQ]
 ·rw [(Bool.not_eq_false _).mp h3,cF rQ,aE aL]
end
theorem aLb (N:Nat) {l:List Int} (hl:l.length≤4096):∀(j k aA:Nat) (m:Int),k+j=l.length→j<aA→∃M,nT N l (fun (m4,i4)=>some m4) aA (m,(k:Int))=some M∧∀b,M≤b↔m≤b∧∀e∈l.drop k,e≤b:=by
 intro j
 induction j with
 | zero=>
  intro k aA m hk hf;obtain ⟨aA,rfl⟩:=kF aA oQ;unfold nT;rw [nL];refine ⟨m,rfl,fun b=>⟨fun h=>⟨h,fun e he=>?_⟩,fun h=>h.1⟩⟩;rw [List.drop_of_length_le oQ] at he;cases he
 | succ j ih=>
  intro k aA m hk hf;obtain ⟨aA,rfl⟩:=kF aA oQ;have hlt:k<l.length:=oQ
  obtain ⟨M,h1,h2⟩:=ih (k+1) aA (max m l[k]) oQ oQ;refine ⟨M,?_,fun b=>?_⟩
  ·unfold nT;rw [p8,dC,f9 hlt,aD,aD,cM (x:=(k:Int)+1) oQ,aD];exact h1
  ·rw [h2 b,zC hlt]
   constructor
   ·rintro ⟨q1,q2⟩;refine ⟨by omega,fun e he=>?_⟩
    rcases List.mem_cons.1 he with rfl|he
    ·omega
    ·exact q2 e he
   ·rintro ⟨q1,q2⟩;have:=q2 l[k] (List.mem_cons_self ..);exact ⟨by omega,fun e he=>q2 e (List.mem_cons_of_mem _ he)⟩
theorem max_eq (N:Nat) {l:List Int} (h0:1≤l.length) (hl:l.length≤4096) (hN:5000≤N):∃M,qI N l=some M∧∀b,M≤b↔∀e∈l,e≤b:=by
 obtain ⟨x,l,rfl⟩:∃x t,l=x::t:=by
  cases l with
  | nil=>simp at h0
  | cons x t=>exact ⟨x,t,rfl⟩
 obtain ⟨M,h1,h2⟩:=aLb N hl ((x::l).length-1) 1 N x oQ oQ;refine ⟨M,?_,fun b=>?_⟩
 ·unfold qI;rw [nL,show idx (x::l) 0=some x from rfl,aD];exact h1
 ·rw [h2 b,List.drop_one,List.tail_cons]
  constructor
  ·rintro ⟨q1,q2⟩ e he
   rcases List.mem_cons.1 he with rfl|he
   ·exact q1
   ·exact q2 e he
  ·intro q;exact ⟨q x (List.mem_cons_self ..),fun e he=>q e (List.mem_cons_of_mem _ he)⟩
theorem aHO (N:Nat) {l:List Int} (hl:l.length≤4096) {d:Nat} (hd:1≤d∧d≤16) (kk):∀(j k aA:Nat),k+j=l.length→j<aA→mX N l (d:Int) kk aA (k:Int)=if (l.drop k).all (fun e=>decide (e<((2^d:Nat):Int)))=true then kk (l.length:Int) else some false:=by
 intro j
 induction j with
 | zero=>
  intro k aA hk hf;obtain ⟨aA,rfl⟩:=kF aA oQ;obtain rfl:k=l.length:=oQ
  unfold mX;rw [nL,List.drop_length,aF rQ]
 | succ j ih=>
  intro k aA hk hf;obtain ⟨aA,rfl⟩:=kF aA oQ;have hlt:k<l.length:=oQ
  have hnx:aC.wrap ((k:Int)+1)=((k+1:Nat):Int):=by rw [cM oQ];rfl
  have hp:=Fi (d:=d) hd.2;have hp0:=Nat.two_pow_pos d;unfold mX;rw [p8,dC,f9 hlt,aD,DL,aD,Jl hd.2,cM (x:=((2^d:Nat):Int)-1) oQ,zC hlt,tK]
  by_cases h:l[k]<((2^d:Nat):Int)
  ·rw [nL,hnx,aD,ih (k+1) aA oQ oQ,decide_eq_true h,tF]
  ·rw [p8,aE];rw [decide_eq_false h];simp
theorem aHP (N:Nat) (hN:5000≤N) {l:List Int} (hl:l.length≤4096) {d:Nat} (hd:1≤d∧d≤16):sO N l (d:Int)=some (l.all (fun e=>decide (e<((2^d:Nat):Int)))):=by
 unfold sO;have:=aHO N hl hd (fun _=>some true) l.length 0 N oQ oQ;refine Eq.trans this ?_;rw [List.drop_zero]
 split
 ·rename_i h;rw [h]
 ·rename_i h;rw [(Bool.not_eq_true _).mp h]
def EH (H R:Nat):Nat:=(H+R-1)/R
def zR (H R i:Nat):Nat:=min R (H-i*R)
theorem cnt_lt {H R i:Nat} (hR:1≤R):i<EH H R↔i*R<H:=by
 unfold EH;rw [Nat.lt_div_iff_mul_lt oQ]
 omega
theorem KV {H R:Nat} (hR:1≤R) (hH:1≤H):EH H R≤H∧1≤EH H R:=by
 refine ⟨?_,?_⟩
 ·unfold EH;refine Nat.div_le_of_le_mul ?_;have:R*H=(R-1)*H+H:=by rw [Nat.sub_mul];have:=Nat.le_mul_of_pos_left H hR;omega
  have h2:R-1≤(R-1)*H:=Nat.le_mul_of_pos_right _ hH
  omega
 ·have:=(cnt_lt (H:=H) (i:=0) hR).2 oQ
  omega
theorem ZB (N:Nat) {H R:Nat} (hR:1≤R∧R≤H) (hH:H≤64) (kk):∀(j k aA:Nat),k+j=EH H R→j<aA →
  xA N (H:Int) (R:Int) kk aA ((gS k).map fun i=>(((i*R:Nat):Int),((zR H R i:Nat):Int)),((k*R:Nat):Int))=kk ((gS (EH H R)).map fun i=>(((i*R:Nat):Int),((zR H R i:Nat):Int)),((EH H R*R:Nat):Int)):=by
 have hcl:=KV (H:=H) (R:=R) hR.1 oQ;intro j
 induction j with
 | zero=>
  intro k aA hk hf;obtain ⟨aA,rfl⟩:=kF aA oQ;obtain rfl:k=EH H R:=oQ
  have:=mt (cnt_lt (H:=H) (R:=R) (i:=EH H R) hR.1).2 oQ;unfold xA;rw [nL]
 | succ j ih=>
  intro k aA hk hf;obtain ⟨aA,rfl⟩:=kF aA oQ;have hlt:=(cnt_lt (H:=H) (R:=R) (i:=k) hR.1).1 oQ
  have e1:min (R:Int) (aC.wrap ((H:Int)-((k*R:Nat):Int)))=((zR H R k:Nat):Int):=by
   rw [cM oQ];unfold zR;omega
  have e2:aC.wrap (((k*R:Nat):Int)+(R:Int))=(((k+1)*R:Nat):Int):=by
   rw [Nat.add_mul,cM oQ];omega
  unfold xA;rw [p8,e1,iQ uW,aD,e2,aD];have:=ih (k+1) aA oQ oQ;rw [List.range_succ,List.map_append,List.map_singleton] at this;exact this
section
variable (W H D K R:Int) (Ls:List Int) (St:List aR) (ph b0 b1 b2 b3 w:Int) (sp:List aN) (g0 g1 g2 m0 m1 m2 m3 m4 m5 m6 m7 m8:Int) (cv:List aN) (am:Int)
theorem Ns (h:AL W H D K R Ls=0):EG W H D R∧(0≤K∧K≤7)∧(Ls.length≤17)∧(0<K→oH Ls=0):=by
 unfold AL at h
 by_cases h1:EG W H D R
 rotate_left
 ·rw [aF h1] at h;cases h
 rw [aE (fun q=>q h1)] at h
 by_cases h2:0≤K∧K≤7
 rotate_left
 ·rw [aF h2] at h;cases h
 rw [aE (fun q=>q h2)] at h;refine ⟨h1,h2,?_⟩
 by_cases h3:0<K
 ·rw [aF h3] at h;refine ⟨?_,fun _=>h⟩;obtain ⟨ns,rfl,_,_,Xb,_⟩:=DM h;rw [kL];exact Xb
 ·rw [aE h3] at h;refine ⟨?_,fun q=>absurd q h3⟩
  by_cases h4:0<Ls.length
  ·rw [aF h4] at h;cases h
  ·omega
theorem aCx {cv:List aN} (h:pU cv):cv.length≤16:=by
 have:=h.len
 omega
end
section
variable (W H D K R:Int) (Ls:List Int) (St:List aR) (ph b0 b1 b2 b3 w:Int) (sp:List aN) (g0 g1 g2 m0 m1 m2 m3 m4 m5 m6 m7 m8:Int) (cv:List aN) (am:Int)
theorem aHQ {f:Bool} (h:O0 W H ph b0 b1 b2 b3 w sp g0 g1 g2 m0 m1 m2 m3 m4 m5 m6 m7 m8 am f=0):zP ph b0 b1 b2 b3 w sp g0 g1 g2 m0 m1 m2 m3 m4 m5 m6 m7 m8 am=true∧f=true∧sp.all (gX W H)=true:=by
 unfold O0 at h
 by_cases h1:zP ph b0 b1 b2 b3 w sp g0 g1 g2 m0 m1 m2 m3 m4 m5 m6 m7 m8 am=false
 ·rw [aF h1] at h;cases h
 rw [aE h1] at h
 by_cases h2:f=false
 ·rw [aF h2] at h;cases h
 rw [aE h2] at h
 by_cases h3:sp.all (gX W H)=false
 ·rw [aF h3] at h;cases h
 exact ⟨(Bool.not_eq_false _).mp h1,(Bool.not_eq_false _).mp h2,(Bool.not_eq_false _).mp h3⟩
end
end
end Go.Proofs.YtpmnfhifmmfgladGreatDoor
