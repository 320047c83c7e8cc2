/- Texts of the claim ShotAlike, joined and made small by a program. -/
import Derived.Test.YtpmnfhifmmfglabGreatDoorShotAlikeK5
import Derived.Test.YtpmnfhifmmfglabGreatDoorShotAlikeK6
set_option linter.unusedVariables false
set_option linter.unusedSimpArgs false
set_option linter.unusedSectionVars false
set_option maxRecDepth 100000
set_option maxHeartbeats 8000000
namespace Go.Proofs.YtpmnfhifmmfglabGreatDoor
section
open Go
def wS (B:Nat):Nat→Nat→List Nat
 | 0,_=>[]
 | n+1,x=>wS B n (x/B)++[x%B]
def num (B:Nat) (l:List Nat):Nat:=l.foldl (fun a x=>a*B+x) 0
theorem rU (B:Nat):∀n x,(wS B n x).length=n
 | 0,_=>rfl
 | n+1,x=>by simp [wS,rU B n]
theorem IU {B:Nat} (hB:0<B):∀n x,∀y∈wS B n x,y<B
 | 0,_,y,h=>by simp [wS] at h
 | n+1,x,y,h=>by
  rcases List.mem_append.1 h with h | h
  ·exact IU hB n _ y h
  ·rw [List.mem_singleton.1 h];exact Nat.mod_lt _ hB
theorem Cd (B m:Nat):∀q x,wS B (m+q) x=wS B m (x/B^q)++wS B q x
 | 0,x=>by simp [wS]
 | q+1,x=>by
  show wS B (m+q) (x/B)++[x%B]=_++(wS B q (x/B)++[x%B]);rw [Cd B m q,List.append_assoc,Nat.div_div_eq_div_mul,Nat.pow_succ,Nat.mul_comm B]
theorem Ho (B:Nat):∀n x,wS B n (x%B^n)=wS B n x
 | 0,_=>rfl
 | n+1,x=>by
  show wS B n (x%B^(n+1)/B)++[x%B^(n+1)%B]=wS B n (x/B)++[x%B];rw [Nat.pow_succ,Nat.mul_comm,Nat.mod_mul_right_div_self,Ho B n,Nat.mod_mul_right_mod]
theorem OQ {B n x y:Nat} (h:x%B^n=y%B^n):wS B n x=wS B n y:=by rw [←Ho B n x,h,Ho]
theorem Fy (B:Nat) (l:List Nat) (x:Nat):num B (l++[x])=num B l*B+x:=by simp [num]
theorem FU (B:Nat):∀n x,num B (wS B n x)=x%B^n
 | 0,x=>by simp [wS,num,Nat.mod_one]
 | n+1,x=>by
  show num B (wS B n (x/B)++[x%B])=_;rw [Fy,FU B n,Nat.pow_succ,Nat.mul_comm (B^n),Nat.mod_mul,Nat.mul_comm,Nat.add_comm]
theorem fold_eq (B:Nat):∀(l:List Nat) (a:Nat),l.foldl (fun a x=>a*B+x) a=a*B^l.length+num B l
 | [],a=>by simp [num]
 | x::l,a=>by
  have h1:=fold_eq B l (a*B+x);have h2:=fold_eq B l (0*B+x);unfold num;rw [List.foldl_cons,List.foldl_cons,h1,h2,List.length_cons,Nat.pow_succ,Nat.zero_mul,Nat.zero_add,Nat.add_mul,Nat.mul_assoc,Nat.mul_comm B,Nat.add_assoc]
theorem Hp (B x:Nat) (l:List Nat):num B (x::l)=x*B^l.length+num B l:=by
 have:=fold_eq B l (0*B+x);unfold num at this ⊢;rw [List.foldl_cons,this,Nat.zero_mul,Nat.zero_add]
theorem Da {B:Nat}:∀(l:List Nat),(∀y∈l,y<B)→num B l<B^l.length
 | [],_=>by simp [num]
 | x::l,h=>by
  have h1:=Da l fun y hy=>h y (by simp [hy])
  have h2:=h x (by simp);rw [Hp,List.length_cons,Nat.pow_succ];have:(x+1)*B^l.length≤B*B^l.length:=Nat.mul_le_mul_right _ h2;rw [Nat.add_mul,Nat.one_mul,Nat.mul_comm B] at this
  omega
theorem Hr {B:Nat}:∀(l:List Nat),(∀y∈l,y<B)→wS B l.length (num B l)=l
 | [],_=>rfl
 | x::l,h=>by
  have hl:=fun y hy=>h y (List.mem_cons_of_mem x hy)
  have h1:=Da l hl;have h2:=h x (by simp);rw [Hp,List.length_cons,Nat.add_comm l.length 1,Cd];have hpos:0<B^l.length:=by omega
  have e1:(x*B^l.length+num B l)/B^l.length=x:=by
   rw [Nat.mul_comm,Nat.mul_add_div hpos,Nat.div_eq_of_lt h1,Nat.add_zero]
  have e2:(x*B^l.length+num B l)%B^l.length=num B l%B^l.length:=by
   rw [Nat.mul_comm,Nat.mul_add_mod]
  rw [e1,OQ e2,Hr l hl];show []++[x%B]++l=x::l;rw [Nat.mod_eq_of_lt h2];rfl
theorem Q7 (q:Nat):256^q=2^(8*q):=by rw [show 256=2^8 by decide,←Nat.pow_mul]
theorem Zs (d q:Nat):(2^d)^q=2^(d*q):=by rw [←Nat.pow_mul]
theorem JV {h k:Nat} (hk:k≤64):iB .i64 (h:Int) (k:Int)=((h/2^k:Nat):Int):=by
 unfold iB
 have:min ((k:Int)).toNat IntKind.i64.bits=k:=by
  rw [Int.toNat_natCast];exact Nat.min_eq_left hk
 rw [this,show (2:Int)^k=((2^k:Nat):Int) by simp,←Int.ofNat_fdiv]
theorem Hs {h k:Nat} (hk:k≤64) (hb:h*2^k<9223372036854775808):mN .i64 (h:Int) (k:Int)=((h*2^k:Nat):Int):=by
 unfold mN
 have:min ((k:Int)).toNat IntKind.i64.bits=k:=by
  rw [Int.toNat_natCast];exact Nat.min_eq_left hk
 rw [this,show (2:Int)^k=((2^k:Nat):Int) by simp,←Int.natCast_mul,gF (by omega)]
theorem OR {h k:Nat} (hh:h<9223372036854775808) (hk:k<63):zP .i64 (h:Int) ((2^k-1:Nat):Int)=((h%2^k:Nat):Int):=by
 have hk2:2^k≤2^62:=Nat.pow_le_pow_right (by decide) (by omega);unfold zP
 have e:(BitVec.ofInt IntKind.i64.bits (h:Int) &&& BitVec.ofInt IntKind.i64.bits ((2^k-1:Nat):Int)).toNat=h%2^k:=by
  rw [BitVec.toNat_and,BitVec.ofInt_natCast,BitVec.ofInt_natCast,BitVec.toNat_ofNat,BitVec.toNat_ofNat];have hb:IntKind.i64.bits=64:=rfl;rw [hb,Nat.mod_eq_of_lt (show h<2^64 by omega),Nat.mod_eq_of_lt (show 2^k-1<2^64 by omega),Nat.and_two_pow_sub_one_eq_mod]
 rw [e];have:=Nat.mod_le h (2^k);exact gF (by omega)
theorem Wr {h d e:Nat} (he:e<2^d) (hb:h*2^d+e<9223372036854775808):Fc .i64 ((h*2^d:Nat):Int) (e:Int)=((h*2^d+e:Nat):Int):=by
 unfold Fc;have hb':IntKind.i64.bits=64:=rfl
 have e1:(BitVec.ofInt IntKind.i64.bits ((h*2^d:Nat):Int) ||| BitVec.ofInt IntKind.i64.bits (e:Int)).toNat=h*2^d+e:=by
  rw [BitVec.toNat_or,BitVec.ofInt_natCast,BitVec.ofInt_natCast,BitVec.toNat_ofNat,BitVec.toNat_ofNat,hb',Nat.mod_eq_of_lt (show h*2^d<2^64 by omega),Nat.mod_eq_of_lt (show e<2^64 by omega)];rw [Nat.mul_comm h,Nat.two_pow_add_eq_or_of_lt he]
 rw [e1];exact gF (by omega)
theorem Q8 (n:Nat):IntKind.u8.wrap (n:Int)=((n%256:Nat):Int):=by
 simp [IntKind.wrap,IntKind.bits,IntKind.signed]
def sP (l:List Nat):List Int:=l.map fun n:Nat=>(n:Int)
theorem kX (l:List Nat):(sP l).length=l.length:=by simp [sP]
theorem Np (l m:List Nat):sP (l++m)=sP l++sP m:=by simp [sP]
theorem Ew (n:Nat):nn (n:Int)=some ():=by unfold nn;rw [if_pos (by omega)]
theorem Kw {X d e L:Nat} (he:e<2^d):X%2^L*2^d+e=(X*2^d+e)%2^(L+d):=by
 have h1:X*2^d+e=2^(L+d)*(X/2^L)+(X%2^L*2^d+e):=by
  have h3:=Nat.div_add_mod X (2^L);have h2:X*2^d=2^L*(X/2^L)*2^d+X%2^L*2^d:=by rw [←Nat.add_mul,h3]
  rw [h2,Nat.pow_add,Nat.mul_assoc,Nat.mul_comm (X/2^L),←Nat.mul_assoc,Nat.add_assoc]
 have h2:X%2^L*2^d+e<2^(L+d):=by
  have:X%2^L<2^L:=Nat.mod_lt _ (Nat.two_pow_pos L);have h3:(X%2^L+1)*2^d≤2^L*2^d:=Nat.mul_le_mul_right _ this;rw [←Nat.pow_add,Nat.add_mul,Nat.one_mul] at h3
  omega
 rw [h1,Nat.mul_add_mod,Nat.mod_eq_of_lt h2]
theorem Sz {X d e:Nat} (he:e<2^d):(X*2^d+e)/2^d=X:=by
 rw [Nat.mul_comm,Nat.mul_add_div (Nat.two_pow_pos d),Nat.div_eq_of_lt he,Nat.add_zero]
def Ol (d:Nat) (l:List Int) (k:Nat):Nat:=num (2^d) ((l.take k).map Int.toNat)
abbrev PSt:=List Int × Int × Int × Int
theorem Kx {d:Nat} (h:d≤16):2^d≤65536:=by
 have:=Nat.pow_le_pow_right (show 0<2 by decide) h;exact this
theorem SB (l:List Nat):toB (sP l)=l.map UInt8.ofNat:=by
 unfold toB sP;rw [List.map_map]
 rfl
theorem T1 (N:Nat) (o:Int):tN N o=some (decide (1≤o∧o≤16)):=by
 unfold tN
 by_cases h:1≤o
 ·rw [cT (dT h)];simp [h]
 ·rw [cF (dF h)];simp [h]
theorem T2 {w X d e L q r:Nat} (m:Nat) (he:e<2^d) (hq:L+d=w*q+r):wS (2^w) m (X/2^L)++wS (2^w) q ((X%2^L*2^d+e)/2^r)=wS (2^w) (m+q) ((X*2^d+e)/2^r):=by
 rw [Cd]
 congr 1
 ·rw [Zs,Nat.div_div_eq_div_mul,←Nat.pow_add,show r+w*q=d+L by omega,Nat.pow_add,←Nat.div_div_eq_div_mul,Sz he]
 ·rw [Kw he,show L+d=r+w*q by omega,Nat.pow_add,Nat.mod_mul_right_div_self,←Zs,Ho]
theorem T3 {w X d e L q r:Nat} (he:e<2^d) (hq:L+d=w*q+r):(X%2^L*2^d+e)%2^r=(X*2^d+e)%2^r:=by
 rw [Kw he,show L+d=r+w*q by omega,Nat.pow_add,Nat.mod_mul_right_mod]
theorem T4 (N:Nat) {d n:Nat} (hd:1≤d∧d≤16) (hn:n≤4096) (kk):∀(a t h fuel:Nat) (out:List Int),a=min (t/d) (n-out.length)→out.length≤n→t≤32→h<2^t→a<fuel →
  pG N (d:Int) (n:Int) kk fuel (out,(h:Int),(t:Int))=kk (out++sP (wS (2^d) a (h/2^(t-d*a))),((h%2^(t-d*a):Nat):Int),((t-d*a:Nat):Int)):=by
 intro a
 induction a with
 | zero=>
  intro t h fuel out ha hon ht hh hf;obtain ⟨fuel,rfl⟩:=oK fuel (by omega)
  have hex:t<d∨n=out.length:=by
   by_cases q:t<d
   ·exact .inl q
   ·right
    have:1≤t/d:=(Nat.le_div_iff_mul_le (by omega)).2 (by omega)
    omega
  have hfin:kk (out++sP (wS (2^d) 0 (h/2^(t-d*0))),((h%2^(t-d*0):Nat):Int),((t-d*0:Nat):Int))=kk (out,(h:Int),(t:Int)):=by
   rw [Nat.mul_zero,Nat.sub_zero,Nat.mod_eq_of_lt hh]
   simp [wS,sP]
  rw [hfin];unfold pG
  by_cases q:(d:Int)≤t
  ·rw [cT (dT q),cF (dF (by omega))]
  ·rw [cF (dF q)]
 | succ a ih=>
  intro t h fuel out ha hon ht hh hf;obtain ⟨fuel,rfl⟩:=oK fuel (by omega)
  have h1:d≤t:=by
   rcases Nat.lt_or_ge t d with q | q
   ·rw [Nat.div_eq_of_lt q] at ha;omega
   ·exact q
  have h2:out.length<n:=by omega
  have htd:(t-d)/d=t/d-1:=by
   have:=Nat.sub_mul_div t d 1;rw [Nat.mul_one] at this;exact this
  have hx:IntKind.i64.wrap ((t:Int)-(d:Int))=((t-d:Nat):Int):=by rw [gF (by omega)];omega
  have hpt:2^t≤2^32:=Nat.pow_le_pow_right (by decide) ht;have aGo:2^(t-d)≤2^32:=Nat.pow_le_pow_right (by decide) (by omega);have hp0:=Nat.two_pow_pos (t-d)
  have em:IntKind.i64.wrap (mN .i64 1 ((t-d:Nat):Int)-1)=((2^(t-d)-1:Nat):Int):=by
   have:=Hs (h:=1) (k:=t-d) (by omega) (by omega);rw [Nat.one_mul] at this;rw [show (1:Int)=((1:Nat):Int) from rfl,this,gF (by omega)]
   omega
  have hmul:d*(a+1)=d+d*a:=by rw [Nat.mul_add,Nat.mul_one,Nat.add_comm]
  have hle:d*(a+1)≤t:=by
   have:=Nat.div_mul_le_self t d;have q:a+1≤t/d:=by omega
   have:=Nat.mul_le_mul_left d q;rw [Nat.mul_comm d (t/d)] at this
   omega
  unfold pG;rw [cT (dT (by omega)),cT (dT (by omega)),hx,aC,Ew,aC,JV (by omega),oS (by simp;omega),aC,aC,em,OR (by omega) (by omega),aC];rw [ih (t-d) (h%2^(t-d)) fuel (out++[((h/2^(t-d):Nat):Int)]) (by rw [htd,List.length_append,List.length_singleton];omega) (by rw [List.length_append,List.length_singleton];omega) (by omega) (Nat.mod_lt _ hp0) (by omega)];have er:t-d-d*a=t-d*(a+1):=by omega
  rw [er]
  have e1:h%2^(t-d)%2^(t-d*(a+1))=h%2^(t-d*(a+1)):=by
   rw [show t-d=(t-d*(a+1))+d*a by omega,Nat.pow_add,Nat.mod_mul_right_mod]
  have e2:wS (2^d) (a+1) (h/2^(t-d*(a+1)))=[h/2^(t-d)]++wS (2^d) a (h%2^(t-d)/2^(t-d*(a+1))):=by
   rw [Nat.add_comm a 1,Cd,Nat.add_comm 1 a]
   congr 1
   ·show [h/2^(t-d*(a+1))/(2^d)^a%2^d]=_;rw [Zs,Nat.div_div_eq_div_mul,←Nat.pow_add,show t-d*(a+1)+d*a=t-d by omega,Nat.mod_eq_of_lt];rw [Nat.div_lt_iff_lt_mul hp0,←Nat.pow_add,show d+(t-d)=t by omega];exact hh
   ·have:h%2^(t-d)/2^(t-d*(a+1))=h/2^(t-d*(a+1))%(2^d)^a:=by
     rw [Zs,show t-d=(t-d*(a+1))+d*a by omega,Nat.pow_add,Nat.mod_mul_right_div_self]
    rw [this,Ho]
  rw [e1,e2,Np,List.append_assoc]
  rfl
def JB (s:List UInt8) (k:Nat):Nat:=num 256 ((s.take k).map UInt8.toNat)
theorem OS {s:List UInt8} {k:Nat} (hk:k<s.length):JB s (k+1)=JB s k*2^8+s[k].toNat:=by
 unfold JB;rw [List.take_succ_eq_append_getElem hk,List.map_append,List.map_cons,List.map_nil,Fy]
def cN (d n k:Nat):Nat:=min (8*k/d) n
def ust (d n:Nat) (s:List UInt8) (k:Nat):PSt:=(sP (wS (2^d) (cN d n k) (JB s k/2^(8*k-d*cN d n k))),((JB s k%2^(8*k-d*cN d n k):Nat):Int),((8*k-d*cN d n k:Nat):Int),(k:Int))
theorem T5 (N:Nat) (hN:100000≤N) {d n:Nat} (hd:1≤d∧d≤16) (hn:n≤4096) (s:List UInt8) (hl:s.length=(n*d+7)/8) (kk):∀(j k fuel:Nat),k+j=s.length→j<fuel →
  pH N s (d:Int) (n:Int) kk fuel (ust d n s k)=kk (ust d n s s.length):=by
 have hnd:n*d≤4096*16:=Nat.mul_le_mul hn hd.2;intro j
 induction j with
 | zero=>
  intro k fuel hk hf;obtain ⟨fuel,rfl⟩:=oK fuel (by omega);obtain rfl:k=s.length:=by omega
  unfold ust pH;rw [cF (dF (by omega))]
 | succ j ih=>
  intro k fuel hk hf;obtain ⟨fuel,rfl⟩:=oK fuel (by omega);have hlt:k<s.length:=by omega
  have hih:=ih (k+1) fuel (by omega) (by omega);have hbs:=OS hlt;have hb:s[k].toNat<2^8:=s[k].toNat_lt
  have hc:cN d n k=8*k/d:=by
   unfold cN;have:8*k/d<n:=(Nat.div_lt_iff_lt_mul (by omega)).2 (by omega)
   omega
  have hL:8*k-d*cN d n k=8*k%d:=by
   have:=Nat.div_add_mod (8*k) d;rw [hc];omega
  have hLd:8*k%d<d:=Nat.mod_lt _ (by omega);have hcn:cN d n k≤n:=Nat.min_le_right _ _
  have ha:cN d n (k+1)=cN d n k+min ((8*k%d+8)/d) (n-cN d n k):=by
   have h1:(8*k+8)/d=8*k/d+(8*k%d+8)/d:=by
    have:=Nat.div_add_mod (8*k) d;have e:8*k+8=d*(8*k/d)+(8*k%d+8):=by omega
    rw [e,Nat.mul_add_div (by omega)]
   have h2:cN d n (k+1)=min ((8*k+8)/d) n:=by unfold cN;rw [show 8*(k+1)=8*k+8 by omega]
   rw [h2,h1,←hc]
   omega
  have hL2:8*(k+1)-d*cN d n (k+1)=8*k%d+8-d*min ((8*k%d+8)/d) (n-cN d n k):=by
   rw [ha,Nat.mul_add d];have h3:=Nat.div_mul_le_self (8*k) d;rw [←hc,Nat.mul_comm] at h3
   omega
  have aGp:d*min ((8*k%d+8)/d) (n-cN d n k)≤8*k%d+8:=by
   have h4:=Nat.div_mul_le_self (8*k%d+8) d;have h5:=Nat.mul_le_mul_left d (Nat.min_le_left ((8*k%d+8)/d) (n-cN d n k));rw [Nat.mul_comm d ((8*k%d+8)/d)] at h5
   omega
  unfold ust at hih ⊢;rw [hL];rw [hL2,ha,hbs] at hih;have hol:=kX (wS (2^d) (cN d n k) (JB s k/2^(8*k%d)));rw [rU] at hol;have aDB:min ((8*k%d+8)/d) (n-cN d n k)=min ((8*k%d+8)/d) (n-(sP (wS (2^d) (cN d n k) (JB s k/2^(8*k%d)))).length):=by rw [hol]
  generalize min ((8*k%d+8)/d) (n-cN d n k)=a at *
  generalize JB s k=X at *
  generalize hbb:s[k].toNat=b at *
  have hlow:=Kw (X:=X) (L:=8*k%d) hb;have aGq:8*k%d≤15:=by omega
  generalize 8*k%d=L at *
  generalize cN d n k=c at *
  have aCn:X%2^L*2^8+b<2^(L+8):=by rw [hlow];exact Nat.mod_lt _ (Nat.two_pow_pos _)
  have aDC:2^(L+8)≤8388608:=Nat.pow_le_pow_right (show 0<2 by decide) (show L+8≤23 by omega)
  have hb8:X%2^L*2^8<8388608:=by
   have:=Nat.lt_of_lt_of_le aCn aDC;exact Nat.lt_of_le_of_lt (Nat.le_add_right _ b) this
  have hb9:X%2^L*2^8+b<8388608:=Nat.lt_of_lt_of_le aCn aDC
  have ex:Fc .i64 (mN .i64 ((X%2^L:Nat):Int) 8) (IntKind.i64.wrap (b:Int))=((X%2^L*2^8+b:Nat):Int):=by
   have q1:=Hs (h:=X%2^L) (k:=8) (by decide) (Nat.lt_trans hb8 (by decide));have q2:=Wr (h:=X%2^L) (d:=8) (e:=b) hb (Nat.lt_trans hb9 (by decide));rw [gF (x:=(b:Int)) (by omega),←q2,←q1]
   rfl
  have ew:IntKind.i64.wrap ((L:Int)+8)=((L+8:Nat):Int):=by rw [gF (by omega)];omega
  have hq:L+8=d*a+(L+8-d*a):=by omega
  have s1:=T2 (X:=X) c hb hq;have s2:=T3 (X:=X) hb hq;unfold pH;rw [cT (dT (by omega)),eC,List.getElem?_eq_getElem hlt,aC,hbb,ex,aC,ew,aC];refine (T4 N hd hn _ a (L+8) (X%2^L*2^8+b) N (sP (wS (2^d) c (X/2^L))) aDB (by rw [hol];exact hcn) (by omega) aCn (by omega)).trans ?_
  dsimp only
  rw [←Np,s1,s2,gF (x:=(k:Int)+1) (by omega)];exact hih
def kS (s:List UInt8) (o p:Int):Int:=if ¬(1≤o∧o≤16) then 3 else if p<0 then 3 else if 4096<p then 2 else if s.length≠(p.toNat*o.toNat+7)/8 then 1 else if JB s s.length%2^(8*s.length-o.toNat*p.toNat)≠0 then 1 else 0
def JW (s:List UInt8) (d n:Nat):List Nat:=wS (2^d) n (JB s s.length/2^(8*s.length-d*n))
theorem T6 (N:Nat) (hN:100000≤N) (s:List UInt8) (hs:s.length≤9223372036854775807) (o p:Int):wK N s o p=some (if kS s o p=0 then (sP (JW s o.toNat p.toNat),0) else ([],kS s o p)):=by
 unfold wK;rw [T1,aC]
 by_cases h1:1≤o∧o≤16
 rotate_left
 ·have hpe:kS s o p=3:=by unfold kS;rw [if_pos h1]
  rw [cT (by rw [dF h1];rfl),hpe];rfl
 have h1':¬ ¬(1≤o∧o≤16):=fun h=>h h1
 rw [cF (by rw [dT h1];rfl)]
 by_cases h2:p<0
 ·have hpe:kS s o p=3:=by unfold kS;rw [if_neg h1',if_pos h2]
  rw [cT (dT h2),hpe];rfl
 rw [cF (dF h2)]
 by_cases h3:4096<p
 ·have hpe:kS s o p=2:=by unfold kS;rw [if_neg h1',if_neg h2,if_pos h3]
  rw [cT (dT h3),hpe];rfl
 rw [cF (dF h3)];obtain ⟨d,rfl⟩:=Int.eq_ofNat_of_zero_le (show 0≤o by omega);obtain ⟨n,rfl⟩:=Int.eq_ofNat_of_zero_le (show 0≤p by omega);have hb:n*d≤4096*16:=Nat.mul_le_mul (by omega) (by omega)
 have e1:IntKind.i64.wrap (Int.tdiv (IntKind.i64.wrap (IntKind.i64.wrap ((n:Int)*(d:Int))+7)) 8)=(((n*d+7)/8:Nat):Int):=by
  rw [←Int.natCast_mul,gF (x:=((n*d:Nat):Int)) (by omega),gF (x:=((n*d:Nat):Int)+7) (by omega),show ((n*d:Nat):Int)+7=((n*d+7:Nat):Int) by omega,
   show Int.tdiv ((n*d+7:Nat):Int) 8=(((n*d+7)/8:Nat):Int) from rfl,gF (by omega)]
 rw [e1]
 by_cases h4:s.length=(n*d+7)/8
 rotate_left
 ·have hpe:kS s d n=1:=by unfold kS;rw [if_neg h1',if_neg h2,if_neg h3,Int.toNat_natCast,Int.toNat_natCast,if_pos h4]
  rw [cT (by rw [dF (by omega)];rfl),hpe];rfl
 rw [cF (by rw [dT (by omega)];rfl)]
 have h0:ust d n s 0=(([]:List Int),(0:Int),(0:Int),(0:Int)):=by
  unfold ust cN
  simp [JB,num,wS,sP,Nat.mod_one]
 have key:=T5 N hN (d:=d) (n:=n) (by omega) (by omega) s h4 (fun x:PSt=>cond (!decide (x.2.1=0)) (some (([]:List Int),1)) (some (x.1,0))) s.length 0 N (by omega) (by omega);rw [h0] at key;refine Eq.trans key ?_
 have hc:cN d n s.length=n:=by
  unfold cN;have:n≤8*s.length/d:=(Nat.le_div_iff_mul_le (by omega)).2 (by rw [h4];omega)
  omega
 unfold ust;rw [hc]
 dsimp only
 by_cases h5:JB s s.length%2^(8*s.length-d*n)=0
 ·have hpe:kS s d n=0:=by
   unfold kS;rw [if_neg h1',if_neg h2,if_neg h3,Int.toNat_natCast,Int.toNat_natCast,if_neg (by omega),if_neg (by omega)]
  rw [cF (by rw [dT (by omega)];rfl),hpe,if_pos rfl,Int.toNat_natCast,Int.toNat_natCast]
  rfl
 ·have hpe:kS s d n=1:=by
   unfold kS;rw [if_neg h1',if_neg h2,if_neg h3,Int.toNat_natCast,Int.toNat_natCast,if_neg (by omega),if_pos h5]
  rw [cT (by rw [dF (by omega)];rfl),hpe];rfl
theorem ofNat_toNat {l:List Nat} (h:∀y∈l,y<256):(l.map UInt8.ofNat).map UInt8.toNat=l:=by
 rw [List.map_map]
 conv=>rhs;rw [←List.map_id l]
 refine List.map_congr_left fun y hy=>?_
 have:=h y hy
 simp [UInt8.toNat_ofNat',Nat.mod_eq_of_lt this]
theorem toNat_ofNat (s:List UInt8):(s.map UInt8.toNat).map UInt8.ofNat=s:=by
 rw [List.map_map]
 conv=>rhs;rw [←List.map_id s]
 refine List.map_congr_left fun y _=>?_
 simp
theorem IV (l:List Nat):(sP l).map Int.toNat=l:=by
 unfold sP;rw [List.map_map]
 conv=>rhs;rw [←List.map_id l]
 exact List.map_congr_left fun y _=>rfl
theorem T7 {l:List Int} (h:∀y∈l,0≤y):sP (l.map Int.toNat)=l:=by
 unfold sP;rw [List.map_map]
 conv=>rhs;rw [←List.map_id l]
 refine List.map_congr_left fun y hy=>?_
 have:=h y hy;show ((y.toNat:Nat):Int)=y
 omega
section
variable {d n:Nat} (hd:1≤d∧d≤16)
include hd
theorem aCo (s:List UInt8):JB s s.length<2^(8*s.length):=by
 unfold JB;rw [List.take_length,←Q7]
 have:=Da (B:=256) (s.map UInt8.toNat) fun y hy=>by
  obtain ⟨e,_,rfl⟩:=List.mem_map.1 hy;exact e.toNat_lt
 rwa [List.length_map] at this
end
def Fa (l:List Nat):List UInt8:=l.map fun b=>UInt8.ofNat (48+b)
theorem zF (l:List Nat):(Fa l).length=l.length:=by simp [Fa]
theorem Nq (l m:List Nat):Fa (l++m)=Fa l++Fa m:=by simp [Fa]
theorem Ky (l:List UInt8):(oV l).length=l.length:=by simp [oV]
theorem OT {d e X m:Nat} (he:e<2^d):wS 2 m X++wS 2 d e=wS 2 (m+d) (X*2^d+e):=by
 rw [Cd,Sz he]
 congr 1
 refine OQ ?_;rw [Nat.mul_comm,Nat.mul_add_mod]
def gr (M:Nat) (l:List Nat):List Nat:=(List.range M).map fun g=>num 2 ((List.range 8).map fun t=>l.getD (8*g+t) 0)
theorem Zt {M:Nat} {a c:List Nat} (ha:a.length=8*M) (hc:c.length=8):gr (M+1) (a++c)=gr M a++[num 2 c]:=by
 unfold gr;rw [List.range_succ (n:=M),List.map_append,List.map_singleton]
 congr 1
 ·refine List.map_congr_left fun g hg=>?_
  have:=List.mem_range.1 hg
  congr 1
  refine List.map_congr_left fun t ht=>?_
  have:=List.mem_range.1 ht;rw [List.getD_eq_getElem?_getD,List.getD_eq_getElem?_getD,List.getElem?_append_left (by omega)]
 ·congr 2
  apply List.ext_getElem?
  intro t
  by_cases ht:t<8
  ·rw [List.getElem?_map,List.getElem?_range ht];show some ((a++c).getD (8*M+t) 0)=_;rw [List.getD_eq_getElem?_getD,List.getElem?_append_right (by omega),show 8*M+t-a.length=t by omega,List.getElem?_eq_getElem (by omega)]
   rfl
  ·rw [List.getElem?_eq_none (by simp;omega),List.getElem?_eq_none (by omega)]
theorem Nr:∀(M Y:Nat),gr M (wS 2 (8*M) Y)=wS 256 M Y
 | 0,_=>rfl
 | M+1,Y=>by
  rw [show 8*(M+1)=8*M+8 by omega,Cd,Zt (rU _ _ _) (rU _ _ _),FU,Nr M]
  rfl
theorem aCp (M p:Nat) (l:List Nat):gr M (l++List.replicate p 0)=gr M l:=by
 unfold gr;refine List.map_congr_left fun g _=>?_
 congr 1
 refine List.map_congr_left fun t _=>?_
 rw [List.getD_eq_getElem?_getD,List.getD_eq_getElem?_getD]
 by_cases h:8*g+t<l.length
 ·rw [List.getElem?_append_left h]
 ·rw [List.getElem?_append_right (by omega),List.getElem?_eq_none (l:=l) (by omega),List.getElem?_replicate]
  split <;> rfl
theorem SC {l:List Nat} {k:Nat} (hk:k<l.length) (h2:∀y∈l,y<2):idx (Fa l) (k:Int)=some (UInt8.ofNat (48+l.getD k 0))∧((UInt8.ofNat (48+l.getD k 0)).toNat:Int)=((48+l.getD k 0:Nat):Int)∧l.getD k 0<2:=by
 have hg:l.getD k 0=l[k]:=by rw [List.getD_eq_getElem?_getD,List.getElem?_eq_getElem hk];rfl
 have h3:=h2 _ (List.getElem_mem hk);rw [hg];refine ⟨?_,?_,h3⟩
 ·rw [eC,Fa,List.getElem?_map,List.getElem?_eq_getElem hk];rfl
 ·rw [UInt8.toNat_ofNat',Nat.mod_eq_of_lt (by omega)]
theorem Ws:∀n:Fin 256,zP .u8 ((n.val:Nat):Int) 1=((n.val%2:Nat):Int):=by decide +kernel
def Fz (l:List Nat):List Nat:=l.map fun b=>48+b
theorem T8 (l m:List Nat):Fz (l++m)=Fz l++Fz m:=by simp [Fz]
theorem T9 (l:List Nat):(Fz l).map UInt8.ofNat=Fa l:=by unfold Fz Fa;rw [List.map_map];rfl
def Ce (b:List UInt8):Bool:=b.all fun c=>decide (c=48∨c=49)
theorem SD:∀b:List UInt8,b.count 48+b.count 49≤b.length∧(b.count 48+b.count 49=b.length↔Ce b=true)
 | []=>by simp [Ce]
 | c::b=>by
  obtain ⟨h1,h2⟩:=SD b;have e:Ce (c::b)=(decide (c=48∨c=49)&&Ce b):=rfl;rw [e,List.count_cons,List.count_cons,List.length_cons]
  by_cases q:c=48
  ·subst q;have:((48:UInt8)==49)=false:=by decide
   rw [this,show decide ((48:UInt8)=48∨(48:UInt8)=49)=true by decide,Bool.true_and,←h2,show ((48:UInt8)==48)=true by decide]
   constructor
   ·simp;omega
   ·simp;omega
  ·by_cases q2:c=49
   ·subst q2;have:((49:UInt8)==48)=false:=by decide
    rw [this,show decide ((49:UInt8)=48∨(49:UInt8)=49)=true by decide,Bool.true_and,←h2,show ((49:UInt8)==49)=true by decide]
    constructor
    ·simp;omega
    ·simp;omega
   ·have q3:(c==48)=false:=by simpa using q
    have q4:(c==49)=false:=by simpa using q2
    rw [q3,q4,show decide (c=48∨c=49)=false from decide_eq_false (fun h=>h.elim q q2),Bool.false_and]
    constructor
    ·simp;omega
    ·simp;omega
theorem aAB {p:UInt8→Bool}:∀l:List UInt8,l.all p=true→l.dropWhile p=[]
 | [],_=>rfl
 | c::l,h=>by
  rw [List.all_cons,Bool.and_eq_true] at h;rw [List.dropWhile_cons,if_pos h.1];exact aAB l h.2
theorem Ua {b:List UInt8} (h:Ce b=true):Go.Lib.trimS b [48,49]=[]:=by
 have hp:b.all (fun c=>[(48:UInt8),49].contains c)=true:=by
  refine List.all_eq_true.2 fun c hc=>?_
  have:=of_decide_eq_true (List.all_eq_true.1 h c hc)
  rcases this with rfl | rfl <;> decide
 have hr:b.reverse.all (fun c=>[(48:UInt8),49].contains c)=true:=by rw [List.all_reverse];exact hp
 unfold Go.Lib.trimS Go.Lib.trimRightS;rw [aAB _ hr]
 rfl
theorem all_eq (N:Nat) {b:List UInt8} (hb:b.length≤16777216):Ao N b=some (Ce b):=by
 have ht:uQ N b [48,49]=some (Go.Lib.trimS b [48,49]):=by
  unfold uQ;rw [if_pos ⟨by omega,by decide,by decide⟩]
 have h0:qF N b [48]=some ((b.count 48:Nat):Int):=rfl;have h1:qF N b [49]=some ((b.count 49:Nat):Int):=rfl;obtain ⟨c1,c2⟩:=SD b;have hw:IntKind.i64.wrap (((b.count 48:Nat):Int)+((b.count 49:Nat):Int))=((b.count 48+b.count 49:Nat):Int):=by rw [gF (by omega)];omega
 unfold Ao;rw [ht,aC,h0,aC,h1,aC,hw]
 by_cases h:Ce b=true
 ·rw [Ua h,cT (by rfl),h,dT (by have:=c2.2 h;omega)]
 ·have hne:¬(b.count 48+b.count 49=b.length):=fun q=>h (c2.1 q)
  have hf:Ce b=false:=by simpa using h
  rw [hf,dF (show ¬(((b.count 48+b.count 49:Nat):Int)=(b.length:Int)) by omega)]
  cases decide (Go.Lib.trimS b [48,49]=([]:List UInt8)) <;> rfl
def iO (b:List UInt8):List Nat:=b.map fun c=>c.toNat-48
theorem u7 {b:List UInt8} (h:Ce b=true):∀y∈iO b,y<2:=fun y hy=>by
 obtain ⟨c,hc,rfl⟩:=List.mem_map.1 hy
 rcases of_decide_eq_true (List.all_eq_true.1 h c hc) with rfl | rfl <;> decide
theorem JX {b:List UInt8} (h:Ce b=true):Fa (iO b)=b:=by
 unfold Fa iO;rw [List.map_map]
 conv=>rhs;rw [←List.map_id b]
 refine List.map_congr_left fun c hc=>?_
 rcases of_decide_eq_true (List.all_eq_true.1 h c hc) with rfl | rfl <;> rfl
theorem Zu {h d e:Nat} (he:e<2^d) (hb:h*2^d+e<256):Fc .u8 ((h*2^d:Nat):Int) (e:Int)=((h*2^d+e:Nat):Int):=by
 unfold Fc;have hb':IntKind.u8.bits=8:=rfl
 have e1:(BitVec.ofInt IntKind.u8.bits ((h*2^d:Nat):Int) ||| BitVec.ofInt IntKind.u8.bits (e:Int)).toNat=h*2^d+e:=by
  rw [BitVec.toNat_or,BitVec.ofInt_natCast,BitVec.ofInt_natCast,BitVec.toNat_ofNat,BitVec.toNat_ofNat,hb',Nat.mod_eq_of_lt (show h*2^d<2^8 by omega),Nat.mod_eq_of_lt (show e<2^8 by omega)];rw [Nat.mul_comm h,Nat.two_pow_add_eq_or_of_lt he]
 rw [e1,Q8,Nat.mod_eq_of_lt hb]
theorem aFD {b k:Nat} (hk:k≤8) (h:b*2^k<256):mN .u8 (b:Int) (k:Int)=((b*2^k:Nat):Int):=by
 unfold mN
 have:min ((k:Int)).toNat IntKind.u8.bits=k:=by
  rw [Int.toNat_natCast];exact Nat.min_eq_left hk
 rw [this,show (2:Int)^k=((2^k:Nat):Int) by simp,←Int.natCast_mul,Q8,Nat.mod_eq_of_lt h]
theorem OU (f:Nat→Nat):∀t r,(∀q,t≤q→f q=0)→num 2 ((List.range (t+r)).map f)=num 2 ((List.range t).map f)*2^r
 | t,0,_=>by simp
 | t,r+1,h=>by
  rw [←Nat.add_assoc,List.range_succ,List.map_append,List.map_singleton,Fy,OU f t r h,h (t+r) (by omega),Nat.add_zero,Nat.pow_succ,Nat.mul_assoc]
theorem aCq {M k:Nat} {l:List Nat} (hk:k<l.length) (hM:k/8<M) :
  (gr M (l.take k)).getD (k/8) 0=num 2 ((List.range (k%8)).map fun t=>l.getD (8*(k/8)+t) 0)*2^(8-k%8) ∧
  gr M (l.take (k+1))=(gr M (l.take k)).set (k/8) (num 2 ((List.range (k%8)).map fun t=>l.getD (8*(k/8)+t) 0)*2^(8-k%8)+l.getD k 0*2^(7-k%8)):=by
 have hmod:k%8<8:=Nat.mod_lt _ (by decide);have hdm:8*(k/8)+k%8=k:=Nat.div_add_mod k 8
 have get:∀n i,(l.take n).getD i 0=if i<n then l.getD i 0 else 0:=fun n i=>by
  rw [List.getD_eq_getElem?_getD,List.getD_eq_getElem?_getD,List.getElem?_take]
  split <;> rfl
 have hval:∀n,8*(k/8)≤n→n≤8*(k/8)+8→num 2 ((List.range 8).map fun t=>(l.take n).getD (8*(k/8)+t) 0)=num 2 ((List.range (n-8*(k/8))).map fun t=>l.getD (8*(k/8)+t) 0)*2^(8-(n-8*(k/8))):=fun n h1 h2=>by
  have:=OU (fun t=>(l.take n).getD (8*(k/8)+t) 0) (n-8*(k/8)) (8-(n-8*(k/8))) (fun q hq=>by rw [get,if_neg (by omega)]);rw [show n-8*(k/8)+(8-(n-8*(k/8)))=8 by omega] at this;rw [this]
  congr 2
  refine List.map_congr_left fun t ht=>?_
  have:=List.mem_range.1 ht;rw [get,if_pos (by omega)]
 have hv0:=hval k (by omega) (by omega);have hv1:=hval (k+1) (by omega) (by omega);rw [show k-8*(k/8)=k%8 by omega] at hv0;rw [show k+1-8*(k/8)=k%8+1 by omega,List.range_succ (n:=k%8),List.map_append,List.map_singleton,Fy,hdm,Nat.add_mul] at hv1
 have e2:num 2 ((List.range (k%8)).map fun t=>l.getD (8*(k/8)+t) 0)*2*2^(8-(k%8+1))=num 2 ((List.range (k%8)).map fun t=>l.getD (8*(k/8)+t) 0)*2^(8-k%8):=by
  rw [Nat.mul_assoc,show 8-k%8=8-(k%8+1)+1 by omega,Nat.pow_succ,Nat.mul_comm 2]
 rw [e2,show 8-(k%8+1)=7-k%8 by omega] at hv1;have hgl:∀n,(gr M (l.take n)).length=M:=fun n=>by simp [gr]
 have hgg:∀n g,g<M→(gr M (l.take n))[g]? = some (num 2 ((List.range 8).map fun t=>(l.take n).getD (8*g+t) 0)):=fun n g hg=>by
  unfold gr;rw [List.getElem?_map,List.getElem?_range hg];rfl
 constructor
 ·rw [List.getD_eq_getElem?_getD,hgg k _ hM,hv0];rfl
 ·apply List.ext_getElem?
  intro g
  by_cases hg:g<M
  ·by_cases he:k/8=g
   ·subst he;rw [hgg _ _ hM,List.getElem?_set_self (by rw [hgl];exact hM),hv1]
   ·rw [List.getElem?_set_ne he,hgg _ _ hg,hgg _ _ hg]
    congr 2
    refine List.map_congr_left fun t ht=>?_
    have:=List.mem_range.1 ht;rw [get,get]
    by_cases q:8*g+t<k
    ·rw [if_pos (by omega),if_pos q]
    ·rw [if_neg q,if_neg]
     omega
  ·rw [List.getElem?_eq_none (by rw [hgl];omega),List.getElem?_eq_none (by rw [List.length_set,hgl];omega)]
theorem JY (l:List Nat) (i v:Nat):sP (l.set i v)=(sP l).set i (v:Int):=by simp [sP,List.map_set]
theorem JZ {l:List Nat} {i:Nat} (h:i<l.length):idx (sP l) (i:Int)=some ((l.getD i 0:Nat):Int):=by
 rw [eC,sP,List.getElem?_map,List.getElem?_eq_getElem h,List.getD_eq_getElem?_getD,List.getElem?_eq_getElem h];rfl
theorem Ub (N:Nat) {l:List Nat} (h2:∀y∈l,y<2) (hl:l.length≤16777216) (kk):∀(j k fuel:Nat),k+j=l.length→j<fuel →
  qL N (Fa l) kk fuel (sP (gr ((l.length+7)/8) (l.take k)),(k:Int))=kk (sP (gr ((l.length+7)/8) l),(l.length:Int)):=by
 intro j
 induction j with
 | zero=>
  intro k fuel hk hf;obtain ⟨fuel,rfl⟩:=oK fuel (by omega);obtain rfl:k=l.length:=by omega
  unfold qL;rw [cF (dF (by rw [zF];omega)),List.take_length]
 | succ j ih=>
  intro k fuel hk hf;obtain ⟨fuel,rfl⟩:=oK fuel (by omega);have hlt:k<l.length:=by omega
  have hih:=ih (k+1) fuel (by omega) (by omega);have hmod:k%8<8:=Nat.mod_lt _ (by decide);have hM:k/8<(l.length+7)/8:=by omega
  obtain ⟨s1,s2⟩:=aCq (M:=(l.length+7)/8) hlt hM;obtain ⟨g1,g2,g3⟩:=SC hlt h2;have hgl:(gr ((l.length+7)/8) (l.take k)).length=(l.length+7)/8:=by simp [gr]
  have hn:num 2 ((List.range (k%8)).map fun t=>l.getD (8*(k/8)+t) 0)<2^(k%8):=by
   have:=Da (B:=2) ((List.range (k%8)).map fun t=>l.getD (8*(k/8)+t) 0) fun y hy=>by
    obtain ⟨q,_,rfl⟩:=List.mem_map.1 hy;rw [List.getD_eq_getElem?_getD]
    by_cases hq:8*(k/8)+q<l.length
    ·rw [List.getElem?_eq_getElem hq];exact h2 _ (List.getElem_mem hq)
    ·rw [List.getElem?_eq_none (by omega)];decide
   rwa [List.length_map,List.length_range] at this
  rw [s2] at hih;have hold:=JZ (l:=gr ((l.length+7)/8) (l.take k)) (i:=k/8) (by omega);rw [s1] at hold
  generalize gr ((l.length+7)/8) (l.take k)=G at *
  generalize num 2 ((List.range (k%8)).map fun t=>l.getD (8*(k/8)+t) 0)=v at *
  generalize l.getD k 0=b at *
  have p1:2^(8-k%8)=2*2^(7-k%8):=by rw [show 8-k%8=7-k%8+1 by omega,Nat.pow_succ,Nat.mul_comm]
  have p2:2^(7-k%8)≤128:=Nat.pow_le_pow_right (show 0<2 by decide) (show 7-k%8≤7 by omega)
  have p3:(v+1)*2^(8-k%8)≤256:=by
   have:=Nat.mul_le_mul_right (2^(8-k%8)) hn;rw [←Nat.pow_add,show k%8+(8-k%8)=8 by omega] at this;exact this
  have p0:=Nat.two_pow_pos (7-k%8)
  have p4:b*2^(7-k%8)<2^(8-k%8):=by
   have:=Nat.mul_le_mul_right (2^(7-k%8)) (show b≤1 by omega)
   omega
  rw [Nat.add_mul,Nat.one_mul] at p3;have ediv:IntKind.i64.wrap (Int.tdiv (k:Int) 8)=((k/8:Nat):Int):=by rw [show Int.tdiv (k:Int) 8=((k/8:Nat):Int) from rfl,gF (by omega)]
  have aFE:IntKind.i64.wrap (7-Int.tmod (k:Int) 8)=((7-k%8:Nat):Int):=by rw [show Int.tmod (k:Int) 8=((k%8:Nat):Int) from rfl,gF (by omega)];omega
  have eb:IntKind.u8.wrap (((48+b:Nat):Int)-48)=(b:Int):=by rw [show ((48+b:Nat):Int)-48=(b:Int) by omega,Q8];omega
  have eor:Fc .u8 ((v*2^(8-k%8):Nat):Int) (mN .u8 (b:Int) ((7-k%8:Nat):Int))=((v*2^(8-k%8)+b*2^(7-k%8):Nat):Int):=by rw [aFD (by omega) (by omega),Zu p4 (by omega)]
  have hset:vU (sP G) ((k/8:Nat):Int) ((v*2^(8-k%8)+b*2^(7-k%8):Nat):Int)=some (sP (G.set (k/8) (v*2^(8-k%8)+b*2^(7-k%8)))):=by
   unfold vU;rw [if_pos (by rw [kX];omega),Int.toNat_natCast,JY]
  unfold qL;rw [cT (dT (by rw [zF];omega)),ediv,aC,hold,aC,g1,aC,g2,aFE,Ew,aC,aC,eb,eor,hset,aC,gF (x:=(k:Int)+1) (by omega)];exact hih
theorem aCr (M:Nat):gr M []=List.replicate M 0:=by
 unfold gr
 apply List.ext_getElem?
 intro g
 by_cases h:g<M
 ·rw [List.getElem?_map,List.getElem?_range h,List.getElem?_replicate,if_pos h];rfl
 ·rw [List.getElem?_eq_none (by simp;omega),List.getElem?_eq_none (by simp;omega)]
theorem Q9 (N:Nat) {b:List UInt8} (hb:b.length≤16777216) (hN:b.length<N):vK N b=some (if Ce b=true then ((gr ((b.length+7)/8) (iO b)).map UInt8.ofNat,0) else ([],1)):=by
 unfold vK;rw [all_eq N hb,aC]
 by_cases h:Ce b=true
 rotate_left
 ·have hf:Ce b=false:=by simpa using h
  rw [hf];rfl
 rw [h,cF (by rfl),if_pos rfl];have hlen:(iO b).length=b.length:=by simp [iO]
 have e1:IntKind.i64.wrap (Int.tdiv (IntKind.i64.wrap ((b.length:Int)+7)) 8)=(((b.length+7)/8:Nat):Int):=by
  rw [gF (x:=(b.length:Int)+7) (by omega),show (b.length:Int)+7=((b.length+7:Nat):Int) by omega,show Int.tdiv ((b.length+7:Nat):Int) 8=(((b.length+7)/8:Nat):Int) from rfl,gF (by omega)]
 rw [e1,aC,mk_eq (by omega),aC,Int.toNat_natCast];have key:=Ub N (l:=iO b) (u7 h) (by omega) (fun x:List Int × Int=>some (toB x.1,(0:Int))) (iO b).length 0 N (by omega) (by omega);rw [List.take_zero,aCr,JX h,hlen] at key;have hz:sP (List.replicate ((b.length+7)/8) 0)=List.replicate ((b.length+7)/8) 0:=by simp [sP]
 rw [hz] at key;refine Eq.trans key ?_
 dsimp only
 rw [SB]
theorem Zv (N:Nat) {l:List Nat} (h2:∀y∈l,y<2) (hl:l.length≤16) (kk):∀(j k fuel:Nat),k+j=l.length→j<fuel →
  qM N (Fa l) kk fuel (((num 2 (l.take k):Nat):Int),(k:Int))=kk (((num 2 l:Nat):Int),(l.length:Int)):=by
 intro j
 induction j with
 | zero=>
  intro k fuel hk hf;obtain ⟨fuel,rfl⟩:=oK fuel (by omega);obtain rfl:k=l.length:=by omega
  unfold qM;rw [cF (dF (by rw [zF];omega)),List.take_length]
 | succ j ih=>
  intro k fuel hk hf;obtain ⟨fuel,rfl⟩:=oK fuel (by omega);have hlt:k<l.length:=by omega
  have hih:=ih (k+1) fuel (by omega) (by omega);obtain ⟨g1,g2,g3⟩:=SC hlt h2;have hg:l.getD k 0=l[k]:=by rw [List.getD_eq_getElem?_getD,List.getElem?_eq_getElem hlt];rfl
  rw [List.take_succ_eq_append_getElem hlt,Fy,←hg] at hih
  have hv:num 2 (l.take k)<65536:=by
   have:=Da (B:=2) (l.take k) fun y hy=>h2 y (List.mem_of_mem_take hy)
   rw [List.length_take,Nat.min_eq_left (by omega)] at this;exact Nat.lt_of_lt_of_le this (Nat.pow_le_pow_right (show 0<2 by decide) (show k≤16 by omega))
  generalize num 2 (l.take k)=v at *
  generalize l.getD k 0=b at *
  have e1:IntKind.i64.wrap (zP .u8 ((48+b:Nat):Int) 1)=(b:Int):=by
   have:=Ws ⟨48+b,by omega⟩;rw [this,show (48+b)%2=b by omega,gF (by omega)]
  have e2:mN .i64 (v:Int) 1=((v*2:Nat):Int):=Hs (k:=1) (by decide) (by omega);unfold qM;rw [cT (dT (by rw [zF];omega)),g1,aC,g2,e1,e2,show ((v*2:Nat):Int)+(b:Int)=((v*2+b:Nat):Int) by omega,gF (x:=((v*2+b:Nat):Int)) (by omega),aC,gF (x:=(k:Int)+1) (by omega)];exact hih
theorem Ra (N:Nat) (hN:100≤N) {b:List UInt8} (hb:b.length≤16777216):yX N b=some (if Ce b=true then (if b.length≤16 then (((num 2 (iO b):Nat):Int),0) else (0,3)) else (0,1)):=by
 unfold yX;rw [all_eq N hb,aC]
 by_cases h:Ce b=true
 rotate_left
 ·have hf:Ce b=false:=by simpa using h
  rw [hf];rfl
 rw [h,cF (by rfl),if_pos rfl]
 by_cases h3:b.length≤16
 rotate_left
 ·rw [cT (dT (by omega)),if_neg h3]
 rw [cF (dF (by omega)),if_pos h3];have hlen:(iO b).length=b.length:=by simp [iO]
 have key:=Zv N (l:=iO b) (u7 h) (by omega) (fun x:Int × Int=>some (x.1,(0:Int))) (iO b).length 0 N (by omega) (by omega);rw [JX h] at key;exact key
theorem Zw {T k Y:Nat} (h:k<T):(wS 2 T Y)[k]? = some (Y/2^(T-1-k)%2):=by
 have e:wS 2 T Y=wS 2 k (Y/2^(1+(T-1-k)))++([Y/2^(T-1-k)%2]++wS 2 (T-1-k) Y):=by
  conv=>lhs;rw [show T=k+(1+(T-1-k)) by omega]
  rw [Cd,Cd 2 1]
  rfl
 rw [e,List.getElem?_append_right (by rw [rU];exact Nat.le_refl _),rU,Nat.sub_self]
 rfl
def JC (size n k:Nat):List Int:=sP (Fz ((wS 2 size n).take k)++List.replicate (size-k) 0)
theorem Uc (N:Nat) {size n:Nat} (hs:size≤16) (hn:n<9223372036854775808) (kk):∀(j k fuel:Nat),k+j=size→j<fuel →
  pI N (n:Int) (size:Int) kk fuel (JC size n k,(size:Int),(k:Int))=kk (JC size n size,(size:Int),(size:Int)):=by
 intro j
 induction j with
 | zero=>
  intro k fuel hk hf;obtain ⟨fuel,rfl⟩:=oK fuel (by omega);obtain rfl:k=size:=by omega
  unfold pI;rw [cF (dF (by omega))]
 | succ j ih=>
  intro k fuel hk hf;obtain ⟨fuel,rfl⟩:=oK fuel (by omega);have hlt:k<size:=by omega
  have hih:=ih (k+1) fuel (by omega) (by omega);have ew:IntKind.i64.wrap (IntKind.i64.wrap ((size:Int)-1)-(k:Int))=((size-1-k:Nat):Int):=by rw [gF (x:=(size:Int)-1) (by omega),gF (by omega)];omega
  have eb:zP .i64 (iB .i64 (n:Int) ((size-1-k:Nat):Int)) 1=((n/2^(size-1-k)%2:Nat):Int):=by
   rw [JV (by omega)];exact OR (k:=1) (Nat.lt_of_le_of_lt (Nat.div_le_self _ _) hn) (by decide)
  have hg:=Zw (Y:=n) hlt;have hb2:n/2^(size-1-k)%2<2:=Nat.mod_lt _ (by decide);have hl:=rU 2 size n
  generalize hbv:n/2^(size-1-k)%2=b at *
  have hc:idx ([48,49]:List UInt8) (b:Int)=some (UInt8.ofNat (48+b)):=by
   rcases (show b=0∨b=1 by omega) with rfl | rfl <;> rfl
  have hcn:((UInt8.ofNat (48+b)).toNat:Int)=((48+b:Nat):Int):=by rw [UInt8.toNat_ofNat',Nat.mod_eq_of_lt (by omega)]
  have ht:(wS 2 size n).take (k+1)=(wS 2 size n).take k++[b]:=by
   rw [List.take_add_one,hg];rfl
  have hl1:(Fz ((wS 2 size n).take k)).length=k:=by simp [Fz,hl];omega
  have hlen:(JC size n k).length=size:=by
   unfold JC;rw [kX,List.length_append,hl1,List.length_replicate];omega
  have hget:∃e,idx (JC size n k) (k:Int)=some e:=by rw [eC];exact ⟨_,List.getElem?_eq_getElem (by omega)⟩
  obtain ⟨e,he⟩:=hget
  have hset:vU (JC size n k) (k:Int) ((48+b:Nat):Int)=some (JC size n (k+1)):=by
   unfold vU;rw [if_pos (by omega),Int.toNat_natCast];unfold JC;rw [←JY,ht,T8,show size-k=(size-(k+1))+1 by omega,List.replicate_succ,List.append_assoc]
   congr 2
   rw [List.set_append_right _ _ (by omega),hl1,Nat.sub_self]
   rfl
  unfold pI;rw [cT (dT (by omega)),ew,Ew,aC,eb,hc,aC,he,aC,hcn,hset,aC,gF (x:=(k:Int)+1) (by omega)];exact hih
theorem Mo (N:Nat) (hN:100≤N) {size n:Nat} (hs:size≤16) (hn:n<9223372036854775808):rD N (n:Int) (size:Int)=some (Fa (wS 2 size n)):=by
 unfold rD;rw [mk_eq (by omega),aC,Int.toNat_natCast];have key:=Uc N hs hn (fun x:List Int × Int × Int=>some (toB x.1)) size 0 N (by omega) (by omega);have h0:JC size n 0=List.replicate size 0:=by unfold JC;simp [Fz,sP]
 have h1:JC size n size=sP (Fz (wS 2 size n)):=by
  unfold JC;rw [Nat.sub_self,List.take_of_length_le (by rw [rU];exact Nat.le_refl _)];simp
 rw [h0,h1] at key;rw [List.length_replicate];refine Eq.trans key ?_
 dsimp only
 rw [SB,T9]
def Av (n size:Int):Int:=if 0≤size∧size≤16 then (if 0≤n∧n<((2^size.toNat:Nat):Int) then 0 else 3) else 3
theorem J0 {d:Nat} (hd:d≤16):mN .i64 1 (d:Int)=((2^d:Nat):Int):=by
 have hp:=Kx hd;have:=Hs (h:=1) (k:=d) (by omega) (by omega);rw [Nat.one_mul] at this;exact this
theorem OV (N:Nat) (hN:100≤N) (n size:Int):nX N n size=some (if Av n size=0 then (Fa (wS 2 size.toNat n.toNat),0) else ([],3)):=by
 unfold nX
 by_cases h1:size<0
 ·have:Av n size=3:=by unfold Av;rw [if_neg (by omega)]
  rw [cT (dT h1),this];rfl
 rw [cF (dF h1)]
 by_cases h2:16<size
 ·have:Av n size=3:=by unfold Av;rw [if_neg (by omega)]
  rw [cT (dT h2),this];rfl
 rw [cF (dF h2)];obtain ⟨d,rfl⟩:=Int.eq_ofNat_of_zero_le (show 0≤size by omega);have hp:=Kx (d:=d) (by omega)
 by_cases h3:n<0
 ·have:Av n d=3:=by unfold Av;rw [if_pos (by omega),if_neg (by omega)]
  rw [cT (dT h3),this];rfl
 rw [cF (dF h3),Ew,aC,J0 (by omega)]
 by_cases h4:((2^d:Nat):Int)≤n
 ·have:Av n d=3:=by unfold Av;rw [if_pos (by omega),Int.toNat_natCast,if_neg (by omega)]
  rw [cT (dT h4),this];rfl
 have hz:Av n d=0:=by unfold Av;rw [if_pos (by omega),Int.toNat_natCast,if_pos (by omega)]
 obtain ⟨m,rfl⟩:=Int.eq_ofNat_of_zero_le (show 0≤n by omega);rw [cF (dF h4),Mo N hN (by omega) (by omega),aC,if_pos hz,Int.toNat_natCast,Int.toNat_natCast]
theorem Zx (N:Nat) (hN:100≤N) {s:List UInt8} (hs:s.length≤16777216) (kk):∀(j k fuel:Nat),k+j=s.length→j<fuel →
  sA N s kk fuel (Fa (wS 2 (8*k) (JB s k)),(k:Int))=kk (Fa (wS 2 (8*s.length) (JB s s.length)),(s.length:Int)):=by
 intro j
 induction j with
 | zero=>
  intro k fuel hk hf;obtain ⟨fuel,rfl⟩:=oK fuel (by omega);obtain rfl:k=s.length:=by omega
  unfold sA;rw [cF (dF (by omega))]
 | succ j ih=>
  intro k fuel hk hf;obtain ⟨fuel,rfl⟩:=oK fuel (by omega);have hlt:k<s.length:=by omega
  have hb:s[k].toNat<256:=s[k].toNat_lt;have hih:=ih (k+1) fuel (by omega) (by omega);rw [OS hlt,Nat.mul_add,Nat.mul_one,←OT (show s[k].toNat<2^8 from hb),Nq] at hih;have hd:rD N (s[k].toNat:Int) 8=some (Fa (wS 2 8 s[k].toNat)):=Mo N hN (size:=8) (by decide) (by omega)
  have hbw:Ob (Fa (wS 2 (8*k) (JB s k))) (Fa (wS 2 8 s[k].toNat))=some (Fa (wS 2 (8*k) (JB s k))++Fa (wS 2 8 s[k].toNat)):=by
   unfold Ob;rw [if_pos (by rw [zF,zF,rU,rU];omega)]
  unfold sA;rw [cT (dT (by omega)),eC,List.getElem?_eq_getElem hlt,aC,gF (x:=(s[k].toNat:Int)) (by omega),hd,aC,hbw,aC,gF (x:=(k:Int)+1) (by omega)];exact hih
theorem Zy (N:Nat) {s:List UInt8} (hs:s.length≤16777216) (hN:100≤N∧s.length<N):uU N s=some (Fa (wS 2 (8*s.length) (JB s s.length))):=by
 unfold uU;exact Zx N hN.1 hs (fun x:List UInt8 × Int=>some x.1) s.length 0 N (by omega) (by omega)
def rm (n:Nat):Nat:=if 0<n then 2^(15-n) else 0
theorem aDD (n:Nat):rm n≤16384:=by
 unfold rm
 split
 ·exact Nat.le_trans (Nat.pow_le_pow_right (by decide) (show 15-n≤14 by omega)) (by decide)
 ·omega
def Lw (l:List Int):Nat:=(l.map fun e=>rm e.toNat).sum
theorem Mp (e:Int) (l:List Int):Lw (e::l)=rm e.toNat+Lw l:=by simp [Lw]
def Mq (e:Int):Bool:=decide (0≤e∧e≤15)
def lQ (l:List Int):Int:=if l.length<1∨17<l.length then 2 else if l.all Mq=true then (if Lw l=0∨32768<Lw l then 1 else 0) else 3
theorem aCs {e:Int} (h:0<e) (h2:e≤15):mN .i64 1 (IntKind.i64.wrap (15-e))=((rm e.toNat:Nat):Int)∧nn (IntKind.i64.wrap (15-e))=some ():=by
 have h0:IntKind.i64.wrap (15-e)=((15-e.toNat:Nat):Int):=by rw [gF (by omega)];omega
 rw [h0,J0 (by omega),Ew,rm,if_pos (by omega)];exact ⟨rfl,rfl⟩
theorem Wt (N:Nat) {l:List Int} (hl:l.length≤17) (kk):∀(j k fuel:Nat) (room:Int),k+j=l.length→j<fuel→-1000000-16384*(k:Int)≤room∧room≤1000000 →
  oM N l kk fuel (room,(k:Int))=if (l.drop k).all Mq=true then kk (room-(Lw (l.drop k):Nat),(l.length:Int)) else some 3:=by
 intro j
 induction j with
 | zero=>
  intro k fuel room hk hf hr;obtain ⟨fuel,rfl⟩:=oK fuel (by omega);obtain rfl:k=l.length:=by omega
  unfold oM;rw [cF (dF (by omega)),List.drop_length,if_pos (by rfl),show Lw ([]:List Int)=0 by rfl]
  simp
 | succ j ih=>
  intro k fuel room hk hf hr;obtain ⟨fuel,rfl⟩:=oK fuel (by omega);have hlt:k<l.length:=by omega
  have hnx:IntKind.i64.wrap ((k:Int)+1)=((k+1:Nat):Int):=by rw [gF (by omega)];rfl
  rw [List.drop_eq_getElem_cons hlt,List.all_cons,Mp];unfold oM;rw [cT (dT (by omega)),eC,List.getElem?_eq_getElem hlt,aC]
  by_cases h0:l[k]<0
  ·rw [cT (dT h0),if_neg];rw [show Mq l[k]=false from dF (by omega)];simp
  ·rw [cF (dF h0)]
   by_cases h1:15<l[k]
   ·rw [cT (dT h1),if_neg];rw [show Mq l[k]=false from dF (by omega)];simp
   ·rw [cF (dF h1),show Mq l[k]=true from dT (by omega),Bool.true_and]
    by_cases h2:0<l[k]
    ·obtain ⟨e1,e2⟩:=aCs h2 (by omega);have hr2:=aDD l[k].toNat;rw [cT (dT h2),e2,aC,aC,e1,gF (x:=room-_) (by omega),hnx,ih (k+1) fuel _ (by omega) (by omega) (by omega)]
     congr 2
     rw [Prod.mk.injEq];exact ⟨by omega,rfl⟩
    ·rw [cF (dF h2),hnx,ih (k+1) fuel _ (by omega) (by omega) (by omega),show rm l[k].toNat=0 by rw [rm,if_neg (by omega)],Nat.zero_add]
theorem Ex (N:Nat) (hN:100≤N) (l:List Int):sS N l=some (lQ l):=by
 unfold sS lQ
 by_cases h1:l.length<1
 ·rw [cT (dT (by omega)),if_pos (.inl h1)]
 rw [cF (dF (by omega))]
 by_cases h2:17<l.length
 ·rw [cT (dT (by omega)),if_pos (.inr h2)]
 rw [cF (dF (by omega)),if_neg (by omega)];have key:=Wt N (l:=l) (by omega) (fun (L3,i2)=>cond (decide (L3<0)) (some 1) (cond (decide (L3=32768)) (some 1) (some 0))) l.length 0 N 32768 (by omega) (by omega) (by omega);rw [List.drop_zero] at key;refine Eq.trans key ?_
 by_cases h3:l.all Mq=true
 ·rw [if_pos h3,if_pos h3]
  dsimp only
  by_cases h4:32768<Lw l
  ·rw [cT (dT (by omega)),if_pos (.inr h4)]
  ·rw [cF (dF (by omega))]
   by_cases h5:Lw l=0
   ·rw [cT (dT (by omega)),if_pos (.inl h5)]
   ·rw [cF (dF (by omega)),if_neg (by omega)]
 ·rw [if_neg h3,if_neg h3]
def ky (ns:List Nat) (i:Nat):Nat:=ns.getD i 0
def tot (ns o:List Nat):Nat:=(o.map fun i=>2^(15-ky ns i)).sum
def Ye (S n:Nat):List UInt8:=Fa (wS 2 n (S/2^(15-n)))
def Zz (ns:List Nat) (st:List (List UInt8) × Nat) (i:Nat):List (List UInt8) × Nat:=(st.1.set i (Ye st.2 (ky ns i)),st.2+2^(15-ky ns i))
theorem SE (ns:List Nat):tot ns []=0:=rfl
theorem tG (ns:List Nat) (i:Nat) (o:List Nat):tot ns (i::o)=2^(15-ky ns i)+tot ns o:=by simp [tot]
theorem Cf (ns o p:List Nat):tot ns (o++p)=tot ns o+tot ns p:=by simp [tot]
theorem Ht (ns:List Nat):∀(o:List Nat) (st:List (List UInt8) × Nat),(o.foldl (Zz ns) st).1.length=st.1.length
 | [],_=>rfl
 | i::o,st=>by rw [List.foldl_cons,Ht ns o];simp [Zz]
theorem SF (ns:List Nat):∀(o:List Nat) (st:List (List UInt8) × Nat),(o.foldl (Zz ns) st).2=st.2+tot ns o
 | [],_=>rfl
 | i::o,st=>by rw [List.foldl_cons,SF ns o,tG];simp [Zz];omega
section
variable {ns:List Nat} (hn:∀n∈ns,n≤15) (hl:ns.length≤17)
theorem Ns {i:Nat} (h:i<ns.length):idx (sP ns) (i:Int)=some ((ky ns i:Nat):Int):=JZ h
include hn in
theorem Kz (i:Nat):ky ns i≤15:=by
 unfold ky;rw [List.getD_eq_getElem?_getD]
 by_cases h:i<ns.length
 ·rw [List.getElem?_eq_getElem h];exact hn _ (List.getElem_mem h)
 ·rw [List.getElem?_eq_none (by omega)];exact Nat.zero_le _
theorem aDE (n:Nat):2^(15-n)≤32768:=Nat.le_trans (Nat.pow_le_pow_right (by decide) (show 15-n≤15 by omega)) (by decide)
include hn hl in
theorem Wu (N:Nat) (hN:100≤N) (o:List Nat) (ho:∀i∈o,i<ns.length) (hol:o.length≤17) (kk):∀(j k fuel:Nat) (out:List (List UInt8)) (S:Nat),k+j=o.length→j<fuel→out.length=ns.length→S+tot ns (o.drop k)≤32768 →
  mJ N (sP ns) (sP o) kk fuel (out,(S:Int),(k:Int))=kk (((o.drop k).foldl (Zz ns) (out,S)).1,((S+tot ns (o.drop k):Nat):Int),(o.length:Int)):=by
 intro j
 induction j with
 | zero=>
  intro k fuel out S hk hf hout hS;obtain ⟨fuel,rfl⟩:=oK fuel (by omega);obtain rfl:k=o.length:=by omega
  unfold mJ;rw [cF (dF (by rw [kX];omega)),List.drop_length];rfl
 | succ j ih=>
  intro k fuel out S hk hf hout hS;obtain ⟨fuel,rfl⟩:=oK fuel (by omega);have hlt:k<o.length:=by omega
  have hi:o[k]<ns.length:=ho _ (List.getElem_mem hlt);have aGr:=Kz hn o[k];rw [List.drop_eq_getElem_cons hlt,tG] at hS ⊢;have hp:=aDE (ky ns o[k]);have hp0:=Nat.two_pow_pos (15-ky ns o[k]);have h15:IntKind.i64.wrap (15-(ky ns o[k]:Nat))=((15-ky ns o[k]:Nat):Int):=by rw [gF (by omega)];omega
  have hget:idx (sP o) (k:Int)=some ((o[k]:Nat):Int):=by rw [JZ hlt,List.getD_eq_getElem?_getD,List.getElem?_eq_getElem hlt];rfl
  have aFF:Av ((S/2^(15-ky ns o[k]):Nat):Int) ((ky ns o[k]:Nat):Int)=0:=by
   have:S/2^(15-ky ns o[k])<2^ky ns o[k]:=by
    refine Nat.div_lt_of_lt_mul ?_;rw [←Nat.pow_add,show 15-ky ns o[k]+ky ns o[k]=15 by omega];show S<32768
    omega
   unfold Av;rw [if_pos (by omega),Int.toNat_natCast,if_pos ⟨Int.natCast_nonneg _,Int.ofNat_lt.2 this⟩]
  have hset:∀v,vU out (o[k]:Int) v=some (out.set o[k] v):=fun v=>by rw [Cc (by omega),Int.toNat_natCast]
  have hio:∃e,idx out (o[k]:Int)=some e:=by rw [eC];exact ⟨_,List.getElem?_eq_getElem (by omega)⟩
  obtain ⟨e,he⟩:=hio;have hnx:IntKind.i64.wrap ((k:Int)+1)=((k+1:Nat):Int):=by rw [gF (by omega)];rfl
  have hih:=ih (k+1) fuel (out.set o[k] (Ye S (ky ns o[k]))) (S+2^(15-ky ns o[k])) (by omega) (by omega) (by rw [List.length_set];exact hout) (by omega);unfold mJ;rw [cT (dT (by rw [kX];omega)),hget,aC,Ns hi,aC,h15,Ew,aC,aC,JV (by omega),OV N hN,if_pos aFF,aC,he,aC,hset,aC,aC,h15,Ew,aC,J0 (by omega),gF (x:=(S:Int)+_) (by omega),aC,hnx,Int.toNat_natCast,Int.toNat_natCast,show (S:Int)+((2^(15-ky ns o[k]):Nat):Int)=((S+2^(15-ky ns o[k]):Nat):Int) by omega];refine Eq.trans hih ?_;rw [List.foldl_cons,Nat.add_assoc]
  rfl
def pos (ns:List Nat) (i:Nat):Bool:=decide (0<ky ns i)
include hl in
theorem Wv (N:Nat) (kk):∀(j k fuel:Nat) (A:List Nat),k+j=ns.length→j<fuel→A.length≤k →
  oP N (sP ns) kk fuel (sP A,(k:Int))=kk (sP (A++(List.range' k j).filter (pos ns)),(ns.length:Int)):=by
 intro j
 induction j with
 | zero=>
  intro k fuel A hk hf hA;obtain ⟨fuel,rfl⟩:=oK fuel (by omega);obtain rfl:k=ns.length:=by omega
  unfold oP;rw [cF (dF (by rw [kX];omega))];simp
 | succ j ih=>
  intro k fuel A hk hf hA;obtain ⟨fuel,rfl⟩:=oK fuel (by omega);have hlt:k<ns.length:=by omega
  have hnx:IntKind.i64.wrap ((k:Int)+1)=((k+1:Nat):Int):=by rw [gF (by omega)];rfl
  unfold oP;rw [cT (dT (by rw [kX];omega)),Ns hlt,aC,List.range'_succ]
  by_cases h:0<ky ns k
  ·have happ:app 8 (sP A) ([(k:Int)]:List Int)=some (sP (A++[k])):=by
    rw [oS (by rw [kX];simp;omega),Np];rfl
   rw [cT (dT (by omega)),happ,aC,hnx,ih (k+1) fuel _ (by omega) (by omega) (by simp;omega),List.filter_cons,if_pos (show pos ns k=true from dT h),List.append_assoc]
   rfl
  ·rw [cF (dF (by omega)),hnx,ih (k+1) fuel _ (by omega) (by omega) (by omega),List.filter_cons,if_neg (by rw [show pos ns k=false from dF h];simp)]
def Lx (f:Nat→Nat) (x:Nat):List Nat→List Nat→List Nat
 | [],B=>x::B
 | y::A,B=>if f x<f y then Lx f x A (y::B) else (y::A).reverse++x::B
theorem SG (f:Nat→Nat) (x:Nat):∀A B C,Lx f x A (B++C)=Lx f x A B++C
 | [],B,C=>rfl
 | y::A,B,C=>by
  unfold Lx
  split
  ·rw [←List.cons_append,SG f x A]
  ·simp
theorem SI (f:Nat→Nat) (x:Nat):∀A B,(Lx f x A B).length=A.length+B.length+1
 | [],B=>by simp [Lx]
 | y::A,B=>by
  unfold Lx
  split
  ·rw [SI f x A];simp;omega
  ·simp;omega
theorem OW (f:Nat→Nat) (x:Nat) (A1:List Nat) (h1:∀y∈A1,f y≤f x):∀(R:List Nat) (B:List Nat),(∀y∈R,f x<f y)→Lx f x (R++A1.reverse) B=A1++x::(R.reverse++B)
 | [],B,_=>by
  rcases hA:A1.reverse with _ | ⟨y,A⟩
  ·have:A1=[]:=by simpa using hA
   subst this;rfl
  ·have hy:f y≤f x:=h1 y (by rw [←List.mem_reverse,hA];simp);rw [List.nil_append];unfold Lx;rw [if_neg (by omega),←hA,List.reverse_reverse];rfl
 | y::R,B,h=>by
  have hy:=h y (by simp);show Lx f x (y::(R++A1.reverse)) B=_;unfold Lx;rw [if_pos hy,OW f x A1 h1 R (y::B) (fun z hz=>h z (by simp [hz]))]
  simp
theorem cmp_eq (N:Nat) {a b:Nat} (ha:a<ns.length) (hb:b<ns.length):uS N (a:Int) (b:Int) (sP ns)=some (if ky ns a<ky ns b then -1 else if ky ns b<ky ns a then 1 else 0):=by
 unfold uS;rw [Ns ha,aC,Ns hb,aC];unfold uE tD;rw [aC,aC,cF (by simp),cF (by simp)]
 by_cases h1:ky ns a<ky ns b
 ·rw [cT (dT (by omega)),if_pos h1];rfl
 ·rw [cF (dF (by omega)),if_neg h1]
  by_cases h2:ky ns b<ky ns a
  ·rw [cT (dT (by omega)),if_pos h2];rfl
  ·rw [cF (dF (by omega)),if_neg h2];rfl
theorem Rb {A:List Nat} {i x:Nat} (h:A[i]? = some x):idx (sP A) (i:Int)=some (x:Int):=by
 rw [eC,sP,List.getElem?_map,h];rfl
theorem Ww (N:Nat) (kk:List Int × Int→Option (List (List UInt8) × Int)) (r) (x:Nat) (hx:x<ns.length):∀(A B:List Nat) (fuel:Nat),(∀y∈A,y<ns.length)→A.length≤1000→A.length<fuel→(∀j,kk (sP (Lx (ky ns) x A B),j)=r) →
  qK N (sP ns) kk fuel (sP (A.reverse++x::B),(A.length:Int))=r:=by
 intro A
 induction A with
 | nil=>
  intro B fuel hA hA2 hf hk;obtain ⟨fuel,rfl⟩:∃m,fuel=m+1:=⟨fuel-1,by simp at hf;omega⟩
  unfold qK;rw [cF (dF (by simp))];exact hk _
 | cons y A ih=>
  intro B fuel hA hA2 hf hk;simp only [List.length_cons] at hf hA2;obtain ⟨fuel,rfl⟩:=oK fuel (by omega);have hy:y<ns.length:=hA y (by simp);have g1:∀u v:Nat,(A.reverse++u::v::B)[A.length]? = some u:=fun u v=>by rw [List.getElem?_append_right (by simp)];simp
  have g2:∀u v:Nat,(A.reverse++u::v::B)[A.length+1]? = some v:=fun u v=>by rw [List.getElem?_append_right (by simp)];simp
  have eq:(y::A).reverse++x::B=A.reverse++y::x::B:=by simp
  have hm1:IntKind.i64.wrap (((A.length+1:Nat):Int)-1)=(A.length:Int):=by rw [gF (by omega)];omega
  rw [List.length_cons,eq];unfold qK;rw [cT (dT (by omega)),Rb (g2 y x),aC,hm1,Rb (g1 y x),aC,cmp_eq N hx hy,aC];unfold Lx at hk
  by_cases h:ky ns x<ky ns y
  ·rw [if_pos h] at hk
   have s1:vU (sP (A.reverse++y::x::B)) (((A.length+1:Nat):Int)) ((y:Nat):Int)=some (sP (A.reverse++y::y::B)):=by
    rw [Cc (by rw [kX];simp;omega),Int.toNat_natCast,←JY]
    congr 2
    rw [List.set_append,if_neg (by simp)];simp
   have s2:vU (sP (A.reverse++y::y::B)) ((A.length:Nat):Int) ((x:Nat):Int)=some (sP (A.reverse++x::y::B)):=by
    rw [Cc (by rw [kX];simp;omega),Int.toNat_natCast,←JY]
    congr 2
    rw [List.set_append,if_neg (by simp)];simp
   rw [if_pos h,cT (by decide),aC,aC,aC,s1,aC,Rb (g1 y y),aC,s2,aC,aC];exact ih (y::B) fuel (fun z hz=>hA z (by simp [hz])) (by omega) (by omega) hk
  ·rw [if_neg h] at hk;rw [if_neg h,cF (by split <;> decide),←eq];exact hk _
def Nt (f:Nat→Nat) (o:List Nat):List Nat:=o.foldl (fun A x=>Lx f x A.reverse []) []
theorem OX (f:Nat→Nat) (o:List Nat) (x:Nat):Nt f (o++[x])=Lx f x (Nt f o).reverse []:=by simp [Nt]
theorem SJ (f:Nat→Nat) (o:List Nat):(Nt f o).length=o.length:=by
 have:∀(o A:List Nat),(o.foldl (fun A x=>Lx f x A.reverse []) A).length=A.length+o.length:=by
  intro o
  induction o with
  | nil=>intro A;rfl
  | cons x o ih=>intro A;rw [List.foldl_cons,ih,SI];simp;omega
 rw [Nt,this];simp
end
section
variable {ns:List Nat} (hn:∀n∈ns,n≤15) (hl:ns.length≤17)
theorem Wx (N:Nat) (hN:100≤N) (kk:List Int × Int × Int→Option (List (List UInt8) × Int)) (r) {o:List Nat} (ho:∀i∈o,i<ns.length) (hol:o.length≤17) (hk:∀b j,kk (sP (Nt (ky ns) o),b,j)=r):∀(j k fuel:Nat),k+j=o.length→j<fuel →
  lI N (sP ns) kk fuel (sP (Nt (ky ns) (o.take k)++o.drop k),(o.length:Int),(k:Int))=r:=by
 intro j
 induction j with
 | zero=>
  intro k fuel hkj hf;obtain ⟨fuel,rfl⟩:=oK fuel (by omega);obtain rfl:k=o.length:=by omega
  unfold lI;rw [cF (dF (by omega)),List.take_length,List.drop_length,List.append_nil];exact hk _ _
 | succ j ih=>
  intro k fuel hkj hf;obtain ⟨fuel,rfl⟩:=oK fuel (by omega);have hlt:k<o.length:=by omega
  have hnx:IntKind.i64.wrap ((k:Int)+1)=((k+1:Nat):Int):=by rw [gF (by omega)];rfl
  have hih:=ih (k+1) fuel (by omega) (by omega);have htk:o.take (k+1)=o.take k++[o[k]]:=by rw [List.take_add_one,List.getElem?_eq_getElem hlt];rfl
  rw [htk,OX] at hih;have hlen:(Nt (ky ns) (o.take k)).length=k:=by rw [SJ,List.length_take];omega
  have hmem:∀y∈Nt (ky ns) (o.take k),y<ns.length:=fun y hy=>by
   refine ho y (List.mem_of_mem_take (i:=k) ?_)
   have key:∀(p A:List Nat),(∀z∈A,z∈o.take k)→(∀z∈p,z∈o.take k)→∀z∈p.foldl (fun A x=>Lx (ky ns) x A.reverse []) A,z∈o.take k:=by
    intro p
    induction p with
    | nil=>intro A hA _ z hz;exact hA z hz
    | cons x p ihp=>
     intro A hA hp z hz;rw [List.foldl_cons] at hz;refine ihp _ ?_ (fun z hz=>hp z (by simp [hz])) z hz;intro u hu
     have sub:∀(R B:List Nat),∀z∈Lx (ky ns) x R B,z∈R∨z=x∨z∈B:=by
      intro R
      induction R with
      | nil=>intro B z hz;simp [Lx] at hz;rcases hz with rfl | hz;exact .inr (.inl rfl);exact .inr (.inr hz)
      | cons q R ihR=>
       intro B z hz;unfold Lx at hz
       split at hz
       ·rcases ihR _ z hz with h | h | h
        ·exact .inl (by simp [h])
        ·exact .inr (.inl h)
        ·rcases List.mem_cons.1 h with rfl | h
         ·exact .inl (by simp)
         ·exact .inr (.inr h)
       ·simp at hz
        rcases hz with h | h | h | h
        ·exact .inl (by simp [h])
        ·exact .inl (by simp [h])
        ·exact .inr (.inl h)
        ·exact .inr (.inr h)
     rcases sub _ _ u hu with h | h | h
     ·exact hA u (by simpa using h)
     ·subst h;exact hp u (by simp)
     ·cases h
   exact key (o.take k) [] (fun z hz=>by cases hz) (fun z hz=>hz) y hy
  unfold lI;rw [cT (dT (by omega)),List.drop_eq_getElem_cons hlt]
  have h3:=Ww (ns:=ns) N (fun (l22,j9)=>Option.bind (some (IntKind.i64.wrap ((k:Int)+1))) fun i6=>lI N (sP ns) kk fuel (l22,(o.length:Int),i6)) r o[k] (ho _ (List.getElem_mem hlt)) (Nt (ky ns) (o.take k)).reverse (o.drop (k+1)) N (fun y hy=>hmem y (by simpa using hy)) (by simp;omega) (by simp;omega) (fun q=>by
   show (Option.bind (some (IntKind.i64.wrap ((k:Int)+1))) fun i6=>lI N (sP ns) kk fuel (sP (Lx (ky ns) o[k] (Nt (ky ns) (o.take k)).reverse (o.drop (k+1))),(o.length:Int),i6))=r;rw [hnx,aC];have e:=SG (ky ns) o[k] (Nt (ky ns) (o.take k)).reverse [] (o.drop (k+1));rw [List.nil_append] at e;rw [e]
   exact hih)
  rw [List.reverse_reverse,List.length_reverse,hlen] at h3;exact h3
def xT (f:Nat→Nat) (o:List Nat):List Nat:=(List.range' 1 15).flatMap fun s=>o.filter fun i=>decide (f i=s)
theorem Mr (f:Nat→Nat) (o:List Nat) {x:Nat} (hx:1≤f x∧f x≤15):∃A1 A2,xT f o=A1++A2∧xT f (o++[x])=A1++x::A2∧(∀y∈A1,f y≤f x)∧∀y∈A2,f x<f y:=by
 have hsp:List.range' 1 15=List.range' 1 (f x-1)++(f x::List.range' (f x+1) (15-f x)):=by
  have h1:List.range' 1 (f x-1)++List.range' (1+(f x-1)) (15-(f x-1))=List.range' 1 15:=by
   have:=List.range'_append (s:=1) (m:=f x-1) (n:=15-(f x-1)) (step:=1);rw [Nat.one_mul] at this;rw [this];congr 1;omega
  rw [←h1,show 1+(f x-1)=f x by omega,show 15-(f x-1)=(15-f x)+1 by omega,List.range'_succ]
 have hne:∀L:List Nat,(∀s∈L,s≠f x)→(L.flatMap fun s=>(o++[x]).filter fun i=>decide (f i=s))=L.flatMap fun s=>o.filter fun i=>decide (f i=s):=by
  intro L hL
  induction L with
  | nil=>rfl
  | cons s L ih=>
   rw [List.flatMap_cons,List.flatMap_cons,ih (fun s hs=>hL s (by simp [hs])),List.filter_append]
   congr 1
   rw [List.filter_cons,if_neg (by simpa using fun h=>hL s (by simp) h.symm)];simp
 refine ⟨((List.range' 1 (f x-1)).flatMap fun s=>o.filter fun i=>decide (f i=s))++o.filter (fun i=>decide (f i=f x)),(List.range' (f x+1) (15-f x)).flatMap (fun s=>o.filter fun i=>decide (f i=s)),?_,?_,?_,?_⟩
 ·unfold xT;rw [hsp,List.flatMap_append,List.flatMap_cons,List.append_assoc]
 ·unfold xT;rw [hsp,List.flatMap_append,List.flatMap_cons,hne _ (fun s hs=>by have:=(List.mem_range'_1.1 hs);omega),hne _ (fun s hs=>by have:=(List.mem_range'_1.1 hs);omega),List.filter_append,List.filter_cons,if_pos (by simp)]
  simp
 ·intro y hy
  rcases List.mem_append.1 hy with h | h
  ·obtain ⟨s,hs,h⟩:=List.mem_flatMap.1 h;have h1:=List.mem_range'_1.1 hs;have h2:=(List.mem_filter.1 h).2
   simp at h2
   omega
  ·have h2:=(List.mem_filter.1 h).2
   simp at h2
   omega
 ·intro y hy;obtain ⟨s,hs,h⟩:=List.mem_flatMap.1 hy;have h1:=List.mem_range'_1.1 hs;have h2:=(List.mem_filter.1 h).2
  simp at h2
  omega
theorem OY {P:List Nat→Prop} (o:List Nat) (h0:P []) (hs:∀k (hk:k<o.length),P (o.take k)→P (o.take k++[o[k]])):P o:=by
 have:∀k,k≤o.length→P (o.take k):=by
  intro k
  induction k with
  | zero=>intro _;exact h0
  | succ k ih=>
   intro hk;have:=hs k (by omega) (ih (by omega))
   rwa [show o.take k++[o[k]]=o.take (k+1) by rw [List.take_add_one,List.getElem?_eq_getElem (by omega)];rfl] at this
 have:=this o.length (Nat.le_refl _)
 rwa [List.take_length] at this
theorem Wy (f:Nat→Nat):xT f []=[]:=by
 unfold xT;rw [List.flatMap_eq_nil_iff];intro s _;rfl
theorem ZA (f:Nat→Nat) (o:List Nat) (ho:∀x∈o,1≤f x∧f x≤15):Nt f o=xT f o:=by
 refine OY (P:=fun p=>Nt f p=xT f p) o ?_ fun k hk ih=>?_
 ·show ([]:List Nat)=_;unfold xT;rw [eq_comm,List.flatMap_eq_nil_iff];intro s _;rfl
 ·obtain ⟨A1,A2,h1,h2,h3,h4⟩:=Mr f (o.take k) (ho _ (List.getElem_mem hk));have:=OW f o[k] A1 h3 A2.reverse [] (fun y hy=>h4 y (by simpa using hy));show Nt f (o.take k++[o[k]])=xT f (o.take k++[o[k]]);rw [OX,h2,show Nt f (o.take k)=xT f (o.take k) from ih,h1,List.reverse_append,this]
  simp
theorem SK (o:List Nat) (ho:∀x∈o,1≤ky ns x∧ky ns x≤15):tot ns (xT (ky ns) o)=tot ns o:=by
 refine OY (P:=fun p=>tot ns (xT (ky ns) p)=tot ns p) o ?_ fun k hk ih=>?_
 ·show tot ns (xT (ky ns) [])=tot ns [];rw [Wy]
 ·obtain ⟨A1,A2,h1,h2,h3,h4⟩:=Mr (ky ns) (o.take k) (ho _ (List.getElem_mem hk));have ih':tot ns (xT (ky ns) (o.take k))=tot ns (o.take k):=ih;show tot ns (xT (ky ns) (o.take k++[o[k]]))=tot ns (o.take k++[o[k]]);rw [h2,Cf,tG,Cf,←ih',h1,Cf,tG,SE]
  omega
def ups (ns:List Nat) (k j:Nat):List Nat:=(List.range' k j).filter (pos ns)
theorem Wz:∀(j k:Nat),k+j=ns.length→Lw ((sP ns).drop k)=tot ns (ups ns k j):=by
 intro j
 induction j with
 | zero=>
  intro k hk;rw [List.drop_eq_nil_iff.2 (by rw [kX];omega)];rfl
 | succ j ih=>
  intro k hk;have hlt:k<(sP ns).length:=by rw [kX];omega
  have hv:(sP ns)[k].toNat=ky ns k:=by
   have:=JZ (l:=ns) (i:=k) (by omega);rw [eC,List.getElem?_eq_getElem hlt] at this;rw [Option.some.inj this,Int.toNat_natCast];rfl
  rw [List.drop_eq_getElem_cons hlt,Mp,ih (k+1) (by omega),hv];unfold ups;rw [List.range'_succ,List.filter_cons]
  by_cases h:0<ky ns k
  ·rw [if_pos (show pos ns k=true from dT h),tG,rm,if_pos h]
  ·rw [if_neg (by rw [show pos ns k=false from dF h];simp),rm,if_neg h,Nat.zero_add]
theorem SM (k j:Nat):xT (ky ns) (ups ns k j)=xT (ky ns) (List.range' k j):=by
 unfold xT ups
 have:∀L:List Nat,(∀s∈L,1≤s)→(L.flatMap fun s=>((List.range' k j).filter (pos ns)).filter fun i=>decide (ky ns i=s))=L.flatMap fun s=>(List.range' k j).filter fun i=>decide (ky ns i=s):=by
  intro L hL
  induction L with
  | nil=>rfl
  | cons s L ih=>
   rw [List.flatMap_cons,List.flatMap_cons,ih (fun s hs=>hL s (by simp [hs])),List.filter_filter]
   congr 1
   refine List.filter_congr fun i _=>?_
   have:=hL s (by simp);unfold pos
   by_cases h:ky ns i=s
   ·rw [dT h,dT (by omega)];rfl
   ·rw [dF h];rfl
 exact this _ fun s hs=>(List.mem_range'_1.1 hs).1
theorem Nu {k j i:Nat} (h:i∈ups ns k j):k≤i∧i<k+j∧0<ky ns i:=by
 obtain ⟨h1,h2⟩:=List.mem_filter.1 h;have:=List.mem_range'_1.1 h1;exact ⟨this.1,this.2,of_decide_eq_true h2⟩
def xU (ns:List Nat):List (List UInt8):=((xT (ky ns) (List.range' 0 ns.length)).foldl (Zz ns) (List.replicate ns.length [],0)).1
end
section
variable {ns:List Nat} (hn:∀n∈ns,n≤15) (hl:ns.length≤17)
include hn hl in
theorem Ud (N:Nat) (hN:100≤N) (hK:tot ns (ups ns 0 ns.length)≤32768) (hP:0<tot ns (ups ns 0 ns.length)) (hc:lQ (sP ns)=0):qT N (sP ns)=some (xU ns,0):=by
 unfold qT;have aDF:∀x∈ups ns 0 ns.length,1≤ky ns x∧ky ns x≤15:=fun x hx=>⟨(Nu hx).2.2,Kz hn x⟩
 have hlen:(ups ns 0 ns.length).length≤17:=by
  unfold ups;refine Nat.le_trans (List.length_filter_le _ _) ?_;rw [List.length_range'];exact hl
 have hmem:∀i∈ups ns 0 ns.length,i<ns.length:=fun i hi=>by have:=(Nu hi).2.1;omega
 rw [Ex N hN,hc,aC,cF (by decide)]
 have h1:=Wv (ns:=ns) hl N (fun (l6,i2)=>
  cond (decide (20≤(l6.length:Int))) none (
  Option.bind (some (IntKind.i64.wrap (0+1))) fun i3=>
  lI N (sP ns) (fun (I9,b2,i7)=>
  Option.bind (D2 l6 I9) fun _=>
  cond (decide (20<(I9.length:Int))) none (
  Option.bind (D2 l6 I9) fun _=>
  Option.bind (D2 l6 I9) fun _=>
  Option.bind (some (((sP ns).length:Int))) fun x2=>
  Option.bind (mk 16 x2 (([]:List UInt8):List UInt8)) fun l24=>
  mJ N (sP ns) I9 (fun (l28,Fp,i11)=>
  some (l28,0)) N (l24,0,0))) N (l6,(l6.length:Int),i3))) ns.length 0 N [] (by omega) (by omega) (by simp)
 refine Eq.trans h1 ?_;rw [List.nil_append]
 dsimp only
 rw [show (List.range' 0 ns.length).filter (pos ns)=ups ns 0 ns.length from rfl,cF (dF (by rw [kX];omega)),show IntKind.i64.wrap (0+1)=((1:Nat):Int) by decide,aC,show ((sP (ups ns 0 ns.length)).length:Int)=((ups ns 0 ns.length).length:Int) by rw [kX]];have hsrt:=ZA (ky ns) (ups ns 0 ns.length) aDF;have hsl:=SJ (ky ns) (ups ns 0 ns.length)
 have hfin:∀b j:Int,(fun (x:List Int × Int × Int)=>(match x with
  | (I9,b2,i7)=>Option.bind (D2 (sP (ups ns 0 ns.length)) I9) fun _=>
  cond (decide (20<(I9.length:Int))) none (
  Option.bind (D2 (sP (ups ns 0 ns.length)) I9) fun _=>
  Option.bind (D2 (sP (ups ns 0 ns.length)) I9) fun _=>
  Option.bind (some (((sP ns).length:Int))) fun x2=>
  Option.bind (mk 16 x2 (([]:List UInt8):List UInt8)) fun l24=>
  mJ N (sP ns) I9 (fun (l28,Fp,i11)=>
  some (l28,(0:Int))) N (l24,0,0)):Option (List (List UInt8) × Int))) (sP (Nt (ky ns) (ups ns 0 ns.length)),b,j)=some (xU ns,0):=by
  intro b j
  have hsame:D2 (sP (ups ns 0 ns.length)) (sP (Nt (ky ns) (ups ns 0 ns.length)))=some ():=by
   unfold D2;rw [if_pos (by rw [kX,kX,hsl])]
  dsimp only
  rw [hsame,aC,cF (dF (by rw [kX,hsl];omega)),aC,aC,kX,aC,mk_eq (by omega),aC,Int.toNat_natCast,hsrt];have ht:tot ns (xT (ky ns) (ups ns 0 ns.length))≤32768:=by rw [SK _ aDF];exact hK
  have hom:∀i∈xT (ky ns) (ups ns 0 ns.length),i<ns.length:=fun i hi=>by
   obtain ⟨s,_,h⟩:=List.mem_flatMap.1 hi;exact hmem i (List.mem_filter.1 h).1
  have hol:(xT (ky ns) (ups ns 0 ns.length)).length≤17:=by rw [←hsrt,hsl];exact hlen
  have h4:=Wu hn hl N hN (xT (ky ns) (ups ns 0 ns.length)) hom hol (fun (l28,Fp,i11)=>some (l28,(0:Int))) (xT (ky ns) (ups ns 0 ns.length)).length 0 N (List.replicate ns.length []) 0 (by omega) (by omega) (by simp) (by rw [List.drop_zero,Nat.zero_add];exact ht);refine Eq.trans h4 ?_;rw [List.drop_zero,SM]
  rfl
 by_cases h0:(ups ns 0 ns.length).length=0
 ·rw [List.eq_nil_of_length_eq_zero h0,SE] at hP
  omega
 ·have h2:=fun kk hk=>Wx (ns:=ns) N hN kk (some (xU ns,0)) hmem hlen hk ((ups ns 0 ns.length).length-1) 1 N (by omega) (by omega)
  have htk:Nt (ky ns) ((ups ns 0 ns.length).take 1)++(ups ns 0 ns.length).drop 1=ups ns 0 ns.length:=by
   rcases hu:ups ns 0 ns.length with _ | ⟨x,u⟩
   ·rw [hu] at h0;exact absurd rfl h0
   ·rfl
  simp only [htk] at h2;refine h2 _ ?_;exact hfin
end
theorem Db {l:List Int} (h:lQ l=0):∃ns:List Nat,l=sP ns∧(∀n∈ns,n≤15)∧1≤ns.length∧ns.length≤17∧tot ns (ups ns 0 ns.length)≤32768∧0<tot ns (ups ns 0 ns.length):=by
 unfold lQ at h
 split at h
 ·cases h
 rename_i h1
 split at h
 rotate_left
 ·cases h
 rename_i h2
 split at h
 ·cases h
 rename_i h3
 have hall:∀e∈l,0≤e∧e≤15:=fun e he=>of_decide_eq_true (List.all_eq_true.1 h2 e he)
 have he:sP (l.map Int.toNat)=l:=T7 fun e h=>(hall e h).1
 have hs:=Wz (ns:=l.map Int.toNat) (l.map Int.toNat).length 0 (by omega);rw [he,List.drop_zero] at hs;refine ⟨l.map Int.toNat,he.symm,?_,by simp;omega,by simp;omega,by omega,by omega⟩;intro n hn;obtain ⟨e,h,rfl⟩:=List.mem_map.1 hn;have:=hall e h
 omega
def wordsOf (l:List Int):List (List UInt8):=if lQ l=0 then xU (l.map Int.toNat) else []
theorem Rc (N:Nat) (hN:100≤N) (l:List Int):qT N l=some (wordsOf l,lQ l):=by
 unfold wordsOf
 by_cases h:lQ l=0
 ·obtain ⟨ns,rfl,h1,h2,h3,h4,h5⟩:=Db h;rw [if_pos h,Ud h1 h3 N hN h4 h5 h,IV,h]
 ·rw [if_neg h];unfold qT;rw [Ex N hN,aC,cT (by rw [dF h];rfl)]
theorem yE {l:List Int} (h:lQ l=0):(wordsOf l).length=l.length:=by
 unfold wordsOf xU;rw [if_pos h,Ht,List.length_replicate,List.length_map]
section
variable {ns:List Nat}
theorem GL {i:Nat}:∀(o:List Nat) (st:List (List UInt8) × Nat),i∉o→(o.foldl (Zz ns) st).1[i]? = st.1[i]?
 | [],_,_=>rfl
 | k::o,st,h=>by
  simp only [List.mem_cons,not_or] at h;rw [List.foldl_cons,GL o _ h.2];show (st.1.set k _)[i]? = _;rw [List.getElem?_set_ne (fun e=>h.1 e.symm)]
theorem fold_at {i:Nat} (A B:List Nat) (st:List (List UInt8) × Nat) (hB:i∉B) (hi:i<st.1.length):((A++i::B).foldl (Zz ns) st).1[i]? = some (Ye (st.2+tot ns A) (ky ns i)):=by
 rw [List.foldl_append,List.foldl_cons,GL B _ hB];show ((A.foldl (Zz ns) st).1.set i _)[i]? = _;rw [List.getElem?_set_self (by rw [Ht];exact hi),SF]
theorem WA {f:Nat→Nat} {o:List Nat} {i:Nat}:i∈xT f o↔i∈o∧1≤f i∧f i≤15:=by
 unfold xT;rw [List.mem_flatMap]
 constructor
 ·rintro ⟨s,hs,h⟩;have h1:=List.mem_range'_1.1 hs;have h2:=List.mem_filter.1 h;have h3:=of_decide_eq_true h2.2;exact ⟨h2.1,by omega,by omega⟩
 ·rintro ⟨h1,h2,h3⟩;exact ⟨f i,List.mem_range'_1.2 ⟨h2,by omega⟩,List.mem_filter.2 ⟨h1,dT rfl⟩⟩
theorem Ue (f:Nat→Nat) {o:List Nat} (ho:o.Pairwise (· < ·)):(xT f o).Pairwise (fun a b=>f a≤f b∧a≠b):=by
 unfold xT
 have:∀(j s:Nat),((List.range' s j).flatMap fun s=>o.filter fun i=>decide (f i=s)).Pairwise (fun a b=>f a≤f b∧a≠b):=by
  intro j
  induction j with
  | zero=>intro s;exact List.Pairwise.nil
  | succ j ih=>
   intro s;rw [List.range'_succ,List.flatMap_cons,List.pairwise_append];refine ⟨?_,ih (s+1),?_⟩
   ·refine List.Pairwise.imp_of_mem ?_ (ho.filter _);intro a b ha hb hab;have h1:=of_decide_eq_true (List.mem_filter.1 ha).2;have h2:=of_decide_eq_true (List.mem_filter.1 hb).2;exact ⟨by omega,by omega⟩
   ·intro a ha b hb;have h1:=of_decide_eq_true (List.mem_filter.1 ha).2;obtain ⟨q,hq,hb⟩:=List.mem_flatMap.1 hb;have h3:=List.mem_range'_1.1 hq;have h2:=of_decide_eq_true (List.mem_filter.1 hb).2;exact ⟨by omega,fun e=>by subst e;omega⟩
 exact this 15 1
def ord (ns:List Nat):List Nat:=xT (ky ns) (List.range' 0 ns.length)
theorem OZ (ns:List Nat):(ord ns).Pairwise (fun a b=>ky ns a≤ky ns b∧a≠b):=Ue _ List.pairwise_lt_range'
theorem J1 {i:Nat} (hn:∀n∈ns,n≤15):i∈ord ns↔i<ns.length∧1≤ky ns i:=by
 unfold ord;rw [WA,List.mem_range'_1];have:=Kz hn i
 omega
theorem IW {i:Nat} (hn:∀n∈ns,n≤15) (hi:i<ns.length) (h:ky ns i=0):(xU ns)[i]? = some []:=by
 unfold xU;rw [GL _ _ (fun hm=>by have:=((J1 hn).1 hm).2;omega)]
 simp [hi]
theorem Hu {i:Nat} {A B:List Nat} (h:ord ns=A++i::B) (hi:i<ns.length):(xU ns)[i]? = some (Ye (tot ns A) (ky ns i)):=by
 have hp:=OZ ns;rw [h,List.pairwise_append] at hp;have hB:i∉B:=fun hm=>((List.pairwise_cons.1 hp.2.1).1 i hm).2 rfl
 unfold xU;have h':xT (ky ns) (List.range' 0 ns.length)=A++i::B:=h;rw [h',fold_at A B _ hB (by simpa using hi),Nat.zero_add]
theorem FV (S n:Nat):(Ye S n).length=n:=by unfold Ye;rw [zF,rU]
theorem Nv {n:Nat}:∀{A:List Nat},(∀a∈A,ky ns a≤n)→n≤15→2^(15-n)∣tot ns A
 | [],_,_=>Nat.dvd_zero _
 | a::A,h,hn=>by
  rw [tG];refine Nat.dvd_add (Nat.pow_dvd_pow 2 ?_) (Nv (fun b hb=>h b (by simp [hb])) hn);have:=h a (by simp)
  omega
theorem ZB {l m:List Nat} (hl:∀y∈l,y<2) (hm:∀y∈m,y<2) (h:Fa l=Fa m):l=m:=by
 have e:∀l:List Nat,(∀y∈l,y<2)→(Fa l).map (fun c=>c.toNat-48)=l:=fun l hl=>by
  unfold Fa;rw [List.map_map]
  conv=>rhs;rw [←List.map_id l]
  refine List.map_congr_left fun y hy=>?_
  have:=hl y hy
  rcases (show y=0∨y=1 by omega) with rfl | rfl <;> rfl
 rw [←e l hl,h,e m hm]
theorem WB {S n m:Nat} (hmn:m≤n) (hn:n≤15):(Ye S n).take m=Fa (wS 2 m (S/2^(15-m))):=by
 unfold Ye;rw [show n=m+(n-m) by omega,Cd,Nq,List.take_append_of_le_length (by rw [zF,rU];exact Nat.le_refl _),List.take_of_length_le (by rw [zF,rU];exact Nat.le_refl _),Nat.div_div_eq_div_mul,←Nat.pow_add]
 congr 4
 omega
theorem SN {S T n m:Nat} (hmn:m≤n) (hn:n≤15) (hS:S<32768) (hT:T<32768) (h:(Ye S m) <+: (Ye T n)):S/2^(15-m)=T/2^(15-m):=by
 have e:=List.prefix_iff_eq_take.1 h;rw [FV,WB hmn hn] at e;have h2:=ZB (IU (by decide) _ _) (IU (by decide) _ _) e;have h3:=congrArg (num 2) h2;rw [FU,FU] at h3
 have lt:∀X,X<32768→X/2^(15-m)<2^m:=fun X hX=>by
  refine Nat.div_lt_of_lt_mul ?_;rw [←Nat.pow_add,show 15-m+m=15 by omega];exact hX
 rwa [Nat.mod_eq_of_lt (lt S hS),Nat.mod_eq_of_lt (lt T hT)] at h3
theorem Ms {α:Type} {x y:α}:∀{l:List α},x∈l→y∈l→x≠y→(∃A B C,l=A++x::(B++y::C))∨∃A B C,l=A++y::(B++x::C)
 | [],h,_,_=>by cases h
 | z::l,hx,hy,hne=>by
  rcases List.mem_cons.1 hx with rfl | hx'
  ·rcases List.mem_cons.1 hy with rfl | hy'
   ·exact absurd rfl hne
   ·obtain ⟨B,C,rfl⟩:=List.append_of_mem hy';exact .inl ⟨[],B,C,rfl⟩
  ·rcases List.mem_cons.1 hy with rfl | hy'
   ·obtain ⟨B,C,rfl⟩:=List.append_of_mem hx';exact .inr ⟨[],B,C,rfl⟩
   ·rcases Ms hx' hy' hne with ⟨A,B,C,rfl⟩ | ⟨A,B,C,rfl⟩
    ·exact .inl ⟨z::A,B,C,rfl⟩
    ·exact .inr ⟨z::A,B,C,rfl⟩
theorem WC (hn:∀n∈ns,n≤15) (hK:tot ns (ups ns 0 ns.length)≤32768) {i j:Nat} {u v:List UInt8} (hij:i≠j) (hu:(xU ns)[i]? = some u) (hv:(xU ns)[j]? = some v) (h0:u≠[]):¬(u <+: v):=by
 intro hp;have hlen:(xU ns).length=ns.length:=by unfold xU;rw [Ht,List.length_replicate]
 have hi:i<ns.length:=by rw [←hlen];exact (List.getElem?_eq_some_iff.1 hu).1
 have hj:j<ns.length:=by rw [←hlen];exact (List.getElem?_eq_some_iff.1 hv).1
 have hT:tot ns (ord ns)≤32768:=by
  unfold ord;rw [←SM,SK _ fun x hx=>⟨(Nu hx).2.2,Kz hn x⟩];exact hK
 have hki:1≤ky ns i:=by
  rcases Nat.eq_zero_or_pos (ky ns i) with h | h
  ·rw [IW hn hi h] at hu;cases hu;exact absurd rfl h0
  ·exact h
 have hkj:1≤ky ns j:=by
  rcases Nat.eq_zero_or_pos (ky ns j) with h | h
  ·rw [IW hn hj h] at hv;cases hv;exact absurd (List.prefix_nil.1 hp) h0
  ·exact h
 have aFG:=Kz hn i;have aCt:=Kz hn j;have hpi:=Nat.two_pow_pos (15-ky ns i);have hpj:=Nat.two_pow_pos (15-ky ns j);have xZ:=OZ ns
 rcases Ms ((J1 hn).2 ⟨hi,hki⟩) ((J1 hn).2 ⟨hj,hkj⟩) hij with ⟨A,B,C,h⟩ | ⟨A,B,C,h⟩
 ·
  have w1:=Hu h hi;have w2:=Hu (A:=A++i::B) (B:=C) (by rw [h];simp) hj;rw [hu] at w1;rw [hv] at w2;cases w1;cases w2;have hle:=hp.length_le;rw [FV,FV] at hle;rw [h,Cf,tG,Cf,tG] at hT;rw [Cf,tG] at hp;have e:=SN hle aCt (by omega) (by omega) hp;rw [h,List.pairwise_append] at xZ;have hd:2^(15-ky ns i)∣tot ns A:=Nv (fun a ha=>(xZ.2.2 a ha i (by simp)).1) aFG;obtain ⟨q,hq⟩:=hd;rw [hq,Nat.mul_div_cancel_left _ hpi,show 2^(15-ky ns i)*q+(2^(15-ky ns i)+tot ns B)=2^(15-ky ns i)*(q+1)+tot ns B by rw [Nat.mul_add];omega,Nat.mul_add_div hpi] at e
  generalize tot ns B/2^(15-ky ns i)=z at e
  omega
 ·
  have w1:=Hu (A:=A++j::B) (B:=C) (by rw [h];simp) hi;have w2:=Hu h hj;rw [hu] at w1;rw [hv] at w2;cases w1;cases w2;have hle:=hp.length_le;rw [FV,FV] at hle;rw [h,List.pairwise_append] at xZ;have hle2:ky ns j≤ky ns i:=((List.pairwise_cons.1 xZ.2.1).1 i (by simp)).1;have hkk:ky ns i=ky ns j:=by omega
  rw [h,Cf,tG,Cf,tG] at hT;rw [Cf,tG] at hp;have e:=SN hle aCt (by omega) (by omega) hp;have hd:2^(15-ky ns j)∣tot ns A:=Nv (fun a ha=>(xZ.2.2 a ha j (by simp)).1) aCt;obtain ⟨q,hq⟩:=hd;rw [hkk,hq,Nat.mul_div_cancel_left _ hpj,show 2^(15-ky ns j)*q+(2^(15-ky ns j)+tot ns B)=2^(15-ky ns j)*(q+1)+tot ns B by rw [Nat.mul_add];omega,Nat.mul_add_div hpj] at e
  generalize tot ns B/2^(15-ky ns j)=z at e
  omega
end
def PF (W:List (List UInt8)):Prop:=∀(i j:Nat) (u v:List UInt8),i≠j→W[i]? = some u→W[j]? = some v→u≠[]→¬(u <+: v)
def Nw (W:List (List UInt8)):Prop:=∀w∈W,Ce w=true∧w.length≤15
theorem SO {l:List Nat} (h:∀y∈l,y<2):Ce (Fa l)=true:=by
 unfold Ce Fa;rw [List.all_map,List.all_eq_true];intro y hy;have:=h y hy
 rcases (show y=0∨y=1 by omega) with rfl | rfl <;> rfl
theorem KA (l:List Int):PF (wordsOf l):=by
 intro i j u v hij hu hv h0;unfold wordsOf at hu hv
 by_cases h:lQ l=0
 ·obtain ⟨ns,rfl,h1,h2,h3,h4,h5⟩:=Db h;rw [if_pos h,IV] at hu hv;exact WC h1 h4 hij hu hv h0
 ·rw [if_neg h] at hu;simp at hu
theorem o8 (l:List Int):Nw (wordsOf l):=by
 intro w hw;unfold wordsOf at hw
 by_cases h:lQ l=0
 ·obtain ⟨ns,rfl,h1,h2,h3,h4,h5⟩:=Db h;rw [if_pos h,IV] at hw;obtain ⟨i,hi⟩:=List.mem_iff_getElem?.1 hw;have hlen:(xU ns).length=ns.length:=by unfold xU;rw [Ht,List.length_replicate]
  have hi':i<ns.length:=by rw [←hlen];exact (List.getElem?_eq_some_iff.1 hi).1
  rcases Nat.eq_zero_or_pos (ky ns i) with h0 | h0
  ·rw [IW h1 hi' h0] at hi;cases hi;exact ⟨rfl,by simp⟩
  ·obtain ⟨A,B,hAB⟩:=List.append_of_mem ((J1 h1).2 ⟨hi',h0⟩);rw [Hu hAB hi'] at hi;cases hi;refine ⟨SO (IU (by decide) _ _),?_⟩;rw [FV];exact Kz h1 i
 ·rw [if_neg h] at hw;cases hw
theorem Dc {α:Type} {xs:List α} {k:Nat} (h:k≤xs.length):DZ xs 0 (k:Int)=some (xs.take k):=by
 rw [BG (by omega),Int.toNat_natCast];rfl
theorem KC {α:Type} {xs:List α} {k:Nat} (h:k≤xs.length):DZ xs (k:Int) (xs.length:Int)=some (xs.drop k):=by
 rw [BG (by omega),Int.toNat_natCast,Int.toNat_natCast,List.take_length]
theorem FA {m:List (List UInt8 × Int)} {s:List UInt8} (h:s.length≤140737488355328):Ka m s=some ((rC m s).getD 0,(rC m s).isSome):=by unfold Ka;rw [if_pos h]
theorem SQ {m:List (List UInt8 × Int)} {s:List UInt8} {v:Int} (h:m.length<1099511627776∧s.length≤140737488355328∧-9223372036854775808≤v∧v≤9223372036854775807):Qm m s v=some ((s,v)::m):=by unfold Qm;rw [if_pos h]
theorem FW (k s:List UInt8) (v:Int) (m:List (List UInt8 × Int)):rC ((k,v)::m) s=if k=s then some v else rC m s:=rfl
structure BK (V:List (List UInt8)) (m:List (List UInt8 × Int)):Prop where
 wd:∀(i:Nat) (s:List UInt8),V[i]? = some s→s≠[]→rC m s=some (i:Int)
 pr:∀(s w:List UInt8),w∈V→s <+: w→s≠w→rC m s=some (-1)
 no:∀(s:List UInt8),(∀w∈V,w≠[]→¬s <+: w)→rC m s=none
theorem PF.sub {V:List (List UInt8)} {w:List UInt8} (h:PF (V++[w])):PF V:=fun i j u v hij hu hv h0=>
 h i j u v hij (by rw [List.getElem?_append_left (List.getElem?_eq_some_iff.1 hu).1];exact hu) (by rw [List.getElem?_append_left (List.getElem?_eq_some_iff.1 hv).1];exact hv) h0
theorem PF.last {V:List (List UInt8)} {w u:List UInt8} (h:PF (V++[w])) (hu:u∈V):(u≠[]→¬u <+: w)∧(w≠[]→¬w <+: u):=by
 obtain ⟨i,hi⟩:=List.mem_iff_getElem?.1 hu;have hlt:=(List.getElem?_eq_some_iff.1 hi).1;have h1:(V++[w])[i]? = some u:=by rw [List.getElem?_append_left hlt];exact hi
 have h2:(V++[w])[V.length]? = some w:=by simp
 exact ⟨h i V.length u w (by omega) h1 h2,h V.length i w u (by omega) h2 h1⟩
theorem BK.step {V:List (List UInt8)} {w:List UInt8} {m m2:List (List UInt8 × Int)} (B:BK V m) (hp:PF (V++[w])) (hw:w≠[])
  (h1:∀s,s <+: w→s≠w→rC m s=none→rC m2 s=some (-1)) (h2:∀s,¬(s <+: w∧s≠w∧rC m s=none)→rC m2 s=rC m s):BK (V++[w]) ((w,(V.length:Int))::m2):=by
 have pre:∀s,s <+: w→s≠w→rC m2 s=some (-1):=fun s h3 h4=>by
  rcases hm:rC m s with _ | x
  ·exact h1 s h3 h4 hm
  ·rw [h2 s (fun h=>by rw [h.2.2] at hm;cases hm),hm]
   by_cases hex:∃u∈V,u≠[]∧s <+: u
   ·obtain ⟨u,hu,hu0,hsu⟩:=hex
    by_cases e:s=u
    ·subst e;exact absurd h3 ((hp.last hu).1 hu0)
    ·rw [←hm];exact B.pr s u hu hsu e
   ·rw [B.no s fun u hu hu0 hsu=>hex ⟨u,hu,hu0,hsu⟩] at hm;cases hm
 refine ⟨fun i s hi h0=>?_,fun s u hu h3 h4=>?_,fun s h=>?_⟩
 ·rw [FW]
  by_cases hlt:i<V.length
  ·rw [List.getElem?_append_left hlt] at hi;have hmem:=List.mem_of_getElem? hi;rw [if_neg (fun e=>by subst e;exact (hp.last hmem).1 h0 (List.prefix_refl _)),h2 s (fun h=>(hp.last hmem).1 h0 h.1)];exact B.wd i s hi h0
  ·have hl:=(List.getElem?_eq_some_iff.1 hi).1
   simp at hl
   obtain rfl:i=V.length:=by omega
   simp at hi
   rw [if_pos hi]
 ·rw [FW]
  rcases List.mem_append.1 hu with hu | hu
  ·rw [if_neg (fun e=>by subst e;exact (hp.last hu).2 hw h3)];have:=B.pr s u hu h3 h4;rw [h2 s (fun h=>by rw [h.2.2] at this;cases this)];exact this
  ·obtain rfl:u=w:=by simpa using hu
   rw [if_neg (fun e=>h4 e.symm)];exact pre s h3 h4
 ·rw [FW];have hsw:=h w (by simp) hw;rw [if_neg (fun e=>hsw (by subst e;exact List.prefix_refl _)),h2 s (fun h=>hsw h.1)];exact B.no s fun u hu hu0=>h u (by simp [hu]) hu0
theorem BK.nil {V:List (List UInt8)} {m:List (List UInt8 × Int)} (B:BK V m):BK (V++[[]]) m:=by
 refine ⟨fun i s hi h0=>?_,fun s u hu h3 h4=>?_,fun s h=>?_⟩
 ·by_cases hlt:i<V.length
  ·rw [List.getElem?_append_left hlt] at hi;exact B.wd i s hi h0
  ·have hl:=(List.getElem?_eq_some_iff.1 hi).1
   simp at hl
   obtain rfl:i=V.length:=by omega
   simp at hi
   exact absurd hi h0
 ·rcases List.mem_append.1 hu with hu | hu
  ·exact B.pr s u hu h3 h4
  ·obtain rfl:u=[]:=by simpa using hu
   exact absurd (List.prefix_nil.1 h3) h4
 ·exact B.no s fun u hu hu0=>h u (by simp [hu]) hu0
theorem ZC (N:Nat) {w:List UInt8} (hw:w.length≤15) (m0:List (List UInt8 × Int)) (kk:List (List UInt8 × Int) × Int→Option (List Int × List UInt8 × Int)) (r) (T:Nat) (hT:T≤1000)
  (hk:∀m2 i,m2.length≤T+w.length→(∀s,s <+: w→s≠w→rC m0 s=none→rC m2 s=some (-1))→(∀s,¬(s <+: w∧s≠w∧rC m0 s=none)→rC m2 s=rC m0 s)→kk (m2,i)=r) :
  ∀(j k fuel:Nat) (m:List (List UInt8 × Int)),k+j=w.length→j<fuel→m.length≤T+k→(∀s,rC m s=if (∃q,q<k∧s=w.take q)∧rC m0 s=none then some (-1) else rC m0 s) →
  pT N w kk fuel (m,(k:Int))=r:=by
 intro j
 induction j with
 | zero=>
  intro k fuel m hkj hf hml hm;obtain ⟨fuel,rfl⟩:=oK fuel (by omega);unfold pT;rw [cF (dF (by omega))];refine hk m _ (by omega) (fun s h1 h2 h3=>?_) (fun s h=>?_)
  ·rw [hm,if_pos];refine ⟨⟨s.length,?_,(List.prefix_iff_eq_take.1 h1)⟩,h3⟩;have hle:=h1.length_le
   rcases Nat.lt_or_ge s.length w.length with h | h
   ·omega
   ·exact absurd (h1.eq_of_length (by omega)) h2
  ·rw [hm,if_neg];rintro ⟨⟨q,hq,rfl⟩,h3⟩;refine h ⟨List.take_prefix _ _,fun e=>?_,h3⟩;have:=congrArg List.length e;rw [List.length_take] at this
   omega
 | succ j ih=>
  intro k fuel m hkj hf hml hm;obtain ⟨fuel,rfl⟩:=oK fuel (by omega);have hnx:IntKind.i64.wrap ((k:Int)+1)=((k+1:Nat):Int):=by rw [gF (by omega)];rfl
  have hlt:(w.take k).length=k:=by rw [List.length_take];omega
  have inj:∀q,q<k→w.take k≠w.take q:=fun q hq e=>by
   have:=congrArg List.length e;rw [hlt,List.length_take] at this
   omega
  have hsame:rC m (w.take k)=rC m0 (w.take k):=by
   rw [hm,if_neg];rintro ⟨⟨q,hq,e⟩,_⟩;exact inj q hq e
  unfold pT;rw [cT (dT (by omega)),Dc (by omega),aC,FA (by omega),aC,hsame]
  rcases h0:rC m0 (w.take k) with _ | x
  ·rw [cT (by rfl),aC,SQ (by omega),aC,hnx];refine ih (k+1) fuel _ (by omega) (by omega) (by simp;omega) fun s=>?_
   rw [FW,hm]
   by_cases e:w.take k=s
   ·subst e;rw [if_pos rfl,if_pos ⟨⟨k,by omega,rfl⟩,h0⟩]
   ·rw [if_neg e]
    have:(∃q,q<k+1∧s=w.take q)↔∃q,q<k∧s=w.take q:=by
     constructor
     ·rintro ⟨q,hq,rfl⟩
      rcases Nat.lt_or_ge q k with h | h
      ·exact ⟨q,h,rfl⟩
      ·obtain rfl:q=k:=by omega
       exact absurd rfl e
     ·rintro ⟨q,hq,rfl⟩;exact ⟨q,by omega,rfl⟩
    simp only [this]
  ·rw [cF (by rfl),hnx];refine ih (k+1) fuel m (by omega) (by omega) (by omega) fun s=>?_
   rw [hm]
   have:((∃q,q<k+1∧s=w.take q)∧rC m0 s=none)↔(∃q,q<k∧s=w.take q)∧rC m0 s=none:=by
    constructor
    ·rintro ⟨⟨q,hq,rfl⟩,h3⟩
     rcases Nat.lt_or_ge q k with h | h
     ·exact ⟨⟨q,h,rfl⟩,h3⟩
     ·obtain rfl:q=k:=by omega
      rw [h0] at h3;cases h3
    ·rintro ⟨⟨q,hq,rfl⟩,h3⟩;exact ⟨⟨q,by omega,rfl⟩,h3⟩
   simp only [this]
theorem ZD (N:Nat) (hN:100≤N) {W:List (List UInt8)} (hW:W.length≤17) (hb:Nw W) (hp:PF W) (e:Int) (kk:List (List UInt8 × Int) × Int→Option (List Int × List UInt8 × Int)) (r) (hk:∀m i,BK W m→kk (m,i)=r) :
  ∀(j k fuel:Nat) (m:List (List UInt8 × Int)),k+j=W.length→j<fuel→m.length≤16*k→BK (W.take k) m→pU N (W,e) kk fuel (m,(k:Int))=r:=by
 intro j
 induction j with
 | zero=>
  intro k fuel m hkj hf hml B;obtain ⟨fuel,rfl⟩:=oK fuel (by omega);unfold pU;rw [cF (dF (by show ¬((k:Int)<(W.length:Int));omega))];rw [List.take_of_length_le (by omega)] at B;exact hk _ _ B
 | succ j ih=>
  intro k fuel m hkj hf hml B;obtain ⟨fuel,rfl⟩:=oK fuel (by omega);have hlt:k<W.length:=by omega
  have hnx:IntKind.i64.wrap ((k:Int)+1)=((k+1:Nat):Int):=by rw [gF (by omega)];rfl
  have hw:=hb _ (List.getElem_mem hlt);have htk:W.take (k+1)=W.take k++[W[k]]:=by rw [List.take_add_one,List.getElem?_eq_getElem hlt];rfl
  have hpk:PF (W.take k++[W[k]]):=by
   rw [←htk];intro i j' u v hij hu hv h0;rw [List.getElem?_take] at hu hv
   split at hu
   ·split at hv
    ·exact hp i j' u v hij hu hv h0
    ·cases hv
   ·cases hu
  have hkl:(W.take k).length=k:=by rw [List.length_take];omega
  unfold pU;rw [cT (dT (by show (k:Int)<(W.length:Int);omega)),eC];show Option.bind W[k]? _=_;rw [List.getElem?_eq_getElem hlt,aC];refine ZC N hw.2 m _ r (16*k) (by omega) (fun m2 i hm2 h1 h2=>?_) W[k].length 0 N m (by omega) (by omega) (by omega) (fun s=>by rw [if_neg];rintro ⟨⟨q,hq,_⟩,_⟩;omega)
  dsimp only
  by_cases h0:W[k]=[]
  ·rw [cF (by rw [dT h0];rfl),hnx];refine ih (k+1) fuel m2 (by omega) (by omega) (by have:=hw.2;omega) ?_;rw [htk,h0];have B2:=B.nil;have same:∀s,rC m2 s=rC m s:=fun s=>h2 s fun h=>by rw [h0] at h;exact h.2.1 (List.prefix_nil.1 h.1)
   exact ⟨fun i s a b=>by rw [same];exact B2.wd i s a b,fun s w a b c=>by rw [same];exact B2.pr s w a b c,fun s a=>by rw [same];exact B2.no s a⟩
  ·rw [cT (by rw [dF h0];rfl),SQ (by have:=hw.2;omega),aC,hnx];refine ih (k+1) fuel _ (by omega) (by omega) (by have:=hw.2;simp;omega) ?_;rw [htk];have:=B.step hpk h0 h1 h2;rw [hkl] at this;exact this
def isW (b w:List UInt8):Bool:=!w.isEmpty&&w.isPrefixOf b
def Qe (W:List (List UInt8)) (b:List UInt8):Option Nat:=W.findIdx? (isW b)
def Qf (W:List (List UInt8)) (b:List UInt8):Int:=if W.any (fun w=>!w.isEmpty&&b.isPrefixOf w)=true then 5 else 4
def Uf (W:List (List UInt8)):Nat→List Int→List UInt8→List Int × List UInt8 × Int
 | 0,out,b=>(out,b,0)
 | n+1,out,b=>match Qe W b with
  | some i=>Uf W n (out++[(i:Int)]) (b.drop (W.getD i []).length)
  | none=>([],[],Qf W b)
theorem J2 {b w:List UInt8}:isW b w=true↔w≠[]∧w <+: b:=by
 unfold isW;rw [Bool.and_eq_true,List.isPrefixOf_iff_prefix]
 cases w <;> simp
theorem FB {W:List (List UInt8)} {b:List UInt8} {i:Nat} (h:Qe W b=some i):∃u,W[i]? = some u∧u≠[]∧u <+: b:=by
 obtain ⟨hi,h1,_⟩:=List.findIdx?_eq_some_iff_getElem.1 h;obtain ⟨h2,h3⟩:=J2.1 h1;exact ⟨_,List.getElem?_eq_getElem hi,h2,h3⟩
theorem KD {W:List (List UInt8)} {b:List UInt8} (h:Qe W b=none):∀w∈W,w≠[]→¬w <+: b:=fun w hw h0 hp=>by
 have:=List.findIdx?_eq_none_iff.1 h w hw;rw [J2.2 ⟨h0,hp⟩] at this;cases this
theorem aCu {W:List (List UInt8)} (hp:PF W) {b u:List UInt8} {i:Nat} (hi:W[i]? = some u) (h0:u≠[]) (hb:u <+: b):Qe W b=some i:=by
 rcases h:Qe W b with _ | j
 ·exact absurd hb (KD h u (List.mem_of_getElem? hi) h0)
 ·obtain ⟨v,hv,hv0,hvb⟩:=FB h
  by_cases e:j=i
  ·rw [e]
  ·exfalso
   rcases Nat.le_total u.length v.length with hl | hl
   ·exact hp i j u v (fun q=>e q.symm) hi hv h0 (List.prefix_of_prefix_length_le hb hvb hl)
   ·exact hp j i v u e hv hi hv0 (List.prefix_of_prefix_length_le hvb hb hl)
section
variable {W:List (List UInt8)} {m:List (List UInt8 × Int)} (hb:Nw W) (B:BK W m) {b:List UInt8} (hbl:b.length≤16777216)
  (kk:Int × Int→Option (List Int × List UInt8 × Int))
include B hbl in
theorem WD (N:Nat) {u:List UInt8} {i:Nat} (hi:W[i]? = some u) (h0:u≠[]) (hu:u <+: b):∀(j k fuel:Nat),k+j=u.length→j+1<fuel→jO N m b kk fuel ((k:Int),-1)=kk ((u.length:Int),(i:Int)):=by
 intro j;have hle:=hu.length_le;have hut:=List.prefix_iff_eq_take.1 hu
 induction j with
 | zero=>
  intro k fuel hkj hf;obtain ⟨fuel,rfl⟩:∃q,fuel=q+2:=⟨fuel-2,by omega⟩
  obtain rfl:k=u.length:=by omega
  unfold jO;rw [cT (by decide),Dc (by omega),aC,FA (by rw [List.length_take];omega),aC,←hut,B.wd i u hi h0,cF (by rfl),cT (by exact dT (Int.natCast_nonneg _))];show jO N m b kk (fuel+1) ((u.length:Int),(i:Int))=_;unfold jO;rw [cF (dF (by omega))]
 | succ j ih=>
  intro k fuel hkj hf;obtain ⟨fuel,rfl⟩:=oK fuel (by omega);have hnx:IntKind.i64.wrap ((k:Int)+1)=((k+1:Nat):Int):=by rw [gF (by omega)];rfl
  have hpr:rC m (b.take k)=some (-1):=by
   have e:b.take k=u.take k:=by rw [hut,List.take_take,Nat.min_eq_left (by omega)]
   rw [e];refine B.pr _ u (List.mem_of_getElem? hi) (List.take_prefix _ _) fun e=>?_
   have:=congrArg List.length e;rw [List.length_take] at this
   omega
  unfold jO;rw [cT (by decide),Dc (by omega),aC,FA (by rw [List.length_take];omega),aC,hpr,cF (by rfl),cF (by rfl),cF (dF (by omega)),hnx,aC];exact ih (k+1) fuel (by omega) (by omega)
include hb B hbl in
theorem Ug (N:Nat) (hno:∀w∈W,w≠[]→¬w <+: b):∀(j k fuel:Nat),k+j=16→k≤b.length→j<fuel→jO N m b kk fuel ((k:Int),-1)=some ([],[],Qf W b):=by
 intro j
 induction j with
 | zero=>
  intro k fuel hkj hkb hf;obtain ⟨fuel,rfl⟩:=oK fuel (by omega)
  have WE:∀w∈W,w≠[]→¬(b.take k) <+: w:=fun w hw _ h=>by
   have h1:=h.length_le;have:=(hb w hw).2;rw [List.length_take] at h1
   omega
  unfold jO;rw [cT (by decide),Dc (by omega),aC,FA (by rw [List.length_take];omega),aC,B.no _ WE,cT (by rfl)];unfold Qf;rw [if_neg];rw [List.any_eq_true];rintro ⟨w,hw,h⟩;have h2:=J2 (b:=w) (w:=b);simp only [Bool.and_eq_true,List.isPrefixOf_iff_prefix] at h;have h1:=h.2.length_le;have:=(hb w hw).2
  omega
 | succ j ih=>
  intro k fuel hkj hkb hf;obtain ⟨fuel,rfl⟩:=oK fuel (by omega);have hnx:IntKind.i64.wrap ((k:Int)+1)=((k+1:Nat):Int):=by rw [gF (by omega)];rfl
  unfold jO;rw [cT (by decide),Dc hkb,aC,FA (by rw [List.length_take];omega),aC]
  by_cases hex:∃w∈W,w≠[]∧(b.take k) <+: w
  ·obtain ⟨w,hw,hw0,hwp⟩:=hex;have hne:b.take k≠w:=fun e=>hno w hw hw0 (by rw [←e];exact List.take_prefix _ _)
   rw [B.pr _ w hw hwp hne,cF (by rfl),cF (by rfl)]
   by_cases he:k=b.length
   ·rw [cT (dT (by omega))];unfold Qf;rw [if_pos];rw [List.any_eq_true];refine ⟨w,hw,?_⟩;rw [he,List.take_length] at hwp;rw [Bool.and_eq_true,List.isPrefixOf_iff_prefix];exact ⟨by cases w;exact absurd rfl hw0;rfl,hwp⟩
   ·rw [cF (dF (by omega)),hnx,aC];exact ih (k+1) fuel (by omega) (by omega) (by omega)
  ·rw [B.no _ (fun w hw hw0 hwp=>hex ⟨w,hw,hw0,hwp⟩),cT (by rfl)];unfold Qf;rw [if_neg];rw [List.any_eq_true];rintro ⟨w,hw,h⟩;simp only [Bool.and_eq_true,List.isPrefixOf_iff_prefix] at h;refine hex ⟨w,hw,?_,(List.take_prefix _ _).trans h.2⟩;intro e;rw [e] at h;simp at h
end
theorem ZE (N:Nat) (hN:5000≤N) {W:List (List UInt8)} {m:List (List UInt8 × Int)} (hb:Nw W) (B:BK W m) {p:Nat} (hp:p≤4096):∀(n fuel:Nat) (out:List Int) (b:List UInt8),out.length+n=p→n<fuel→b.length≤16777216 →
  oC N (p:Int) m (fun (l6,o3)=>some (l6,o3,0)) fuel (out,b)=some (Uf W n out b):=by
 intro n
 induction n with
 | zero=>
  intro fuel out b ho hf hbl;obtain ⟨fuel,rfl⟩:=oK fuel (by omega);unfold oC;rw [cF (dF (by omega))];rfl
 | succ n ih=>
  intro fuel out b ho hf hbl;obtain ⟨fuel,rfl⟩:=oK fuel (by omega);unfold oC;rw [cT (dT (by omega))]
  rcases h:Qe W b with _ | i
  ·have:=Ug hb B hbl (fun (i12,P7)=>Option.bind (app 8 out ([P7]:List Int)) fun l5=>Option.bind (DZ b i12 (b.length:Int)) fun s13=>oC N (p:Int) m (fun (l6,o3)=>some (l6,o3,0)) fuel (l5,s13)) N (KD h) 16 0 N (by omega) (by omega) (by omega);refine Eq.trans this ?_;unfold Uf;rw [h]
  ·obtain ⟨u,hu,hu0,hub⟩:=FB h;have aGs:=(hb u (List.mem_of_getElem? hu)).2;have:=WD B hbl (fun (i12,P7)=>Option.bind (app 8 out ([P7]:List Int)) fun l5=>Option.bind (DZ b i12 (b.length:Int)) fun s13=>oC N (p:Int) m (fun (l6,o3)=>some (l6,o3,0)) fuel (l5,s13)) N hu hu0 hub u.length 0 N (by omega) (by omega);refine Eq.trans this ?_
   dsimp only
   rw [oS (by simp;omega),aC,KC hub.length_le,aC,ih fuel _ _ (by simp;omega) (by omega) (by rw [List.length_drop];omega)]
   conv=>rhs;unfold Uf
   rw [h]
   dsimp only
   rw [List.getD_eq_getElem?_getD,hu];rfl
def SR (l:List Int) (b:List UInt8) (n:Int):List Int × List UInt8 × Int:=
 if lQ l≠0 then ([],[],lQ l) else if n<0∨4096<n then ([],[],3) else if Ce b=true then Uf (wordsOf l) n.toNat [] b else ([],[],1)
theorem Mt (N:Nat) (l:List Int) (b:List UInt8) (n:Int) (hb:b.length≤16777216) (hN:5000≤N∧b.length<N):uT N l b n=some (SR l b n):=by
 unfold uT SR;rw [Rc N (by omega),aC]
 by_cases h:lQ l=0
 ·rw [cF (by rw [show (wordsOf l,lQ l).2=0 from h];rfl),if_neg (by simpa using h)]
  by_cases h1:n<0
  ·rw [cT (dT h1),if_pos (.inl h1)]
  rw [cF (dF h1)]
  by_cases h2:4096<n
  ·rw [cT (dT h2),if_pos (.inr h2)]
  rw [cF (dF h2),if_neg (by omega),Q9 N hb hN.2,aC]
  by_cases h3:Ce b=true
  ·rw [if_pos h3,if_pos h3,cF (by rfl)]
   have aFH:(wordsOf l).length≤17:=by
    rw [yE h];obtain ⟨ns,rfl,_,_,Uh,_⟩:=Db h;rw [kX];exact Uh
   obtain ⟨q,rfl⟩:=Int.eq_ofNat_of_zero_le (show 0≤n by omega);refine ZD N (by omega) aFH (o8 l) (KA l) (lQ l) _ _ (fun m i B=>?_) (wordsOf l).length 0 N [] (by omega) (by omega) (by simp) ⟨fun i s h=>by simp at h,fun s w h=>by simp at h,fun s _=>rfl⟩;exact ZE N hN.1 (o8 l) B (by omega) q N [] b (by simp) (by omega) hb
  ·rw [if_neg h3,if_neg h3,cT (by rfl)]
 ·rw [cT (by rw [show (wordsOf l,lQ l).2=lQ l from rfl,dF h];rfl),if_pos h]
theorem KE (W:List (List UInt8)) (b:List UInt8):Qf W b≠0:=by unfold Qf;split <;> decide
theorem Cg (a b:List UInt8):Ce (a++b)=(Ce a&&Ce b):=by unfold Ce;rw [List.all_append]
def okE (e:Int):Bool:=decide (0≤e∧e≤65535)
def plF (W H:Int) (P:List Int):Bool:=decide (o7 W H P.length)&&P.all okE
def gsv (kind a b c:Int):Int:=if kind=1 then a else if kind=2 then b else if kind=3 then c else if kind=4 then a+b-c else if kind=5 then a+(b-c)/2 else if kind=6 then b+(a-c)/2 else (a+b)/2
def gs (W:Nat) (P:List Int) (kind:Int) (i:Nat):Int:=if i=0 then 32768 else if i/W=0 then P.getD (i-1) 0 else if i%W=0 then P.getD (i-W) 0 else gsv kind (P.getD (i-1) 0) (P.getD (i-W) 0) (P.getD (i-W-1) 0)
theorem aCv {kind a b c:Int} (ha:0≤a∧a≤65535) (hb:0≤b∧b≤65535) (hc:0≤c∧c≤65535):-65535≤gsv kind a b c∧gsv kind a b c≤131070:=by
 unfold gsv
 repeat' split
 all_goals omega
section
variable {P:List Int} (hP:∀e∈P,0≤e∧e≤65535)
include hP in
theorem Ly {j:Nat} (h:j<P.length):idx P (j:Int)=some (P.getD j 0)∧0≤P.getD j 0∧P.getD j 0≤65535:=by
 have e:P.getD j 0=P[j]:=by rw [List.getD_eq_getElem?_getD,List.getElem?_eq_getElem h];rfl
 rw [e,eC,List.getElem?_eq_getElem h];exact ⟨rfl,hP _ (List.getElem_mem h)⟩
include hP in
theorem aDG {W:Nat} {kind:Int} {i:Nat} (hW:1≤W) (hi:i<P.length):-65535≤gs W P kind i∧gs W P kind i≤131070:=by
 unfold gs
 split
 ·omega
 ·split
  ·have:=(Ly hP (j:=i-1) (by omega)).2;omega
  ·split
   ·have:=(Ly hP (j:=i-W) (by omega)).2;omega
   ·exact aCv (Ly hP (by omega)).2 (Ly hP (by omega)).2 (Ly hP (by omega)).2
theorem O0 {i W:Nat} (h:i/W≠0):W≤i∧0<W:=by
 rcases Nat.eq_zero_or_pos W with h0 | h0
 ·subst h0;simp at h
 ·refine ⟨?_,h0⟩
  rcases Nat.lt_or_ge i W with h1 | h1
  ·exact absurd (Nat.div_eq_of_lt h1) h
  ·exact h1
include hP in
theorem Re (N:Nat) {W:Nat} (hW:1≤W∧W≤64) {kind:Int} (hk:1≤kind∧kind≤7) (H:Int) {i:Nat} (hi:i<P.length) (hl:P.length≤4096):nY N (W:Int) H P kind (i:Int)=some (gs W P kind i):=by
 unfold nY gs;obtain ⟨t1,t2⟩:=Yb (W:=W) i (by omega);rw [BQ (by omega),aC,aC,t2,t1]
 by_cases h0:i=0
 ·rw [cT (dT (by omega)),if_pos h0]
 have hdl:i/W≤i:=Nat.div_le_self _ _;rw [cF (dF (by omega)),if_neg h0,gF (x:=((i/W:Nat):Int)) ⟨Int.le_trans (by decide) (Int.natCast_nonneg _),Int.le_trans (Int.ofNat_le.2 hdl) (by omega)⟩];have e1:IntKind.i64.wrap ((i:Int)-1)=((i-1:Nat):Int):=by rw [gF (by omega)];omega
 by_cases h1:i/W=0
 ·rw [cT (dT (by rw [h1];rfl)),if_pos h1,e1,(Ly hP (j:=i-1) (by omega)).1];rfl
 obtain ⟨hWi,hW0⟩:=O0 h1;have e2:IntKind.i64.wrap ((i:Int)-(W:Int))=((i-W:Nat):Int):=by rw [gF (by omega)];omega
 rw [cF (dF (fun h=>h1 (by exact_mod_cast h))),if_neg h1,e2]
 by_cases h2:i%W=0
 ·rw [cT (dT (by rw [h2];rfl)),if_pos h2,(Ly hP (j:=i-W) (by omega)).1];rfl
 have hlt:W<i:=by
  rcases Nat.lt_or_ge W i with h | h
  ·exact h
  ·obtain rfl:i=W:=by omega
   simp at h2
 have e3:IntKind.i64.wrap (((i-W:Nat):Int)-1)=((i-W-1:Nat):Int):=by rw [gF (by omega)];omega
 obtain ⟨a1,a2⟩:=Ly hP (j:=i-1) (by omega);obtain ⟨b1,b2⟩:=Ly hP (j:=i-W) (by omega);obtain ⟨c1,c2⟩:=Ly hP (j:=i-W-1) (by omega);rw [cF (dF (fun h=>h2 (by exact_mod_cast h))),if_neg h2,e1,a1,aC,b1,aC,e3,c1,aC]
 generalize P.getD (i-1) 0=a at *
 generalize P.getD (i-W) 0=b at *
 generalize P.getD (i-W-1) 0=c at *
 have s1:∀m:Int,iB .i64 m 1=m/2:=fun m=>QJ m 1 (by decide)
 rw [s1,s1,s1,gF (x:=a+b) (by omega),gF (x:=a+b-c) (by omega),gF (x:=b-c) (by omega),gF (x:=a-c) (by omega),gF (x:=a+(b-c)/2) (by omega),gF (x:=b+(a-c)/2) (by omega)];unfold gsv
 rcases (show kind=1∨kind=2∨kind=3∨kind=4∨kind=5∨kind=6∨kind=7 by omega) with rfl | rfl | rfl | rfl | rfl | rfl | rfl <;> rfl
end
def bl (n:Nat):Nat:=if n=0 then 0 else Nat.log2 n+1
theorem ZF {n:Nat} (h:0<n):bl n=bl (n/2)+1:=by
 unfold bl;rw [if_neg (by omega)]
 by_cases h2:2≤n
 ·rw [if_neg (by omega),Nat.log2_def,if_pos h2]
 ·obtain rfl:n=1:=by omega
  rfl
theorem Nx:∀(k n:Nat),bl n≤k↔n<2^k
 | 0,n=>by
  unfold bl
  split
  ·subst n;simp
  ·rw [Nat.pow_zero];omega
 | k+1,n=>by
  rcases Nat.eq_zero_or_pos n with rfl | h
  ·have:=Nat.two_pow_pos (k+1);simp [bl,this]
  ·have ih:=Nx k (n/2);rw [ZF h,Nat.pow_succ]
   constructor
   ·intro q;have:=ih.1 (by omega)
    omega
   ·intro q;have:=ih.2 (by omega)
    omega
def Rf (d:Int):Nat:=bl (max d (-d)).toNat
theorem aDH {d:Int} (h:-32768<d∧d≤32768):Rf d≤16:=(Nx 16 _).2 (by omega)
def mor (d:Int):List UInt8:=if Rf d=0∨Rf d=16 then [] else Fa (wS 2 (Rf d) (if 0<d then d else d+((2^Rf d:Nat):Int)-1).toNat)
def dfn (n g:Int):Int:=if 32768<(n-g)%65536 then (n-g)%65536-65536 else (n-g)%65536
theorem aCw (n g:Int):-32768<dfn n g∧dfn n g≤32768:=by unfold dfn;split <;> omega
def ds (W:Nat) (P:List Int) (kind:Int):List Int:=(List.range P.length).map fun i=>dfn (P.getD i 0) (gs W P kind i)
def dOK (W:List (List UInt8)) (d:Int):Bool:=decide (Rf d<W.length) && !(W.getD (Rf d) []).isEmpty
def Jd (W:List (List UInt8)) (d:Int):List UInt8:=W.getD (Rf d) []++mor d
def KF (W:List (List UInt8)) (l:List Int):List UInt8:=l.flatMap (Jd W)
theorem Ui (W:List (List UInt8)) (d:Int) (l:List Int):KF W (d::l)=Jd W d++KF W l:=rfl
theorem ZG {d:Int} (h:-32768<d∧d≤32768):(mor d).length≤16:=by
 unfold mor
 split
 ·simp
 ·rw [zF,rU];exact aDH h
theorem Uj {W:List (List UInt8)} (hb:Nw W) (i:Nat):(W.getD i []).length≤15∧Ce (W.getD i [])=true:=by
 rw [List.getD_eq_getElem?_getD]
 by_cases h:i<W.length
 ·rw [List.getElem?_eq_getElem h];exact ⟨(hb _ (List.getElem_mem h)).2,(hb _ (List.getElem_mem h)).1⟩
 ·rw [List.getElem?_eq_none (by omega)];exact ⟨by simp,rfl⟩
theorem Uk {W:List (List UInt8)} (hb:Nw W) {d:Int} (h:-32768<d∧d≤32768):(Jd W d).length≤31:=by
 unfold Jd;rw [List.length_append];have:=ZG h;have:=(Uj hb (Rf d)).1
 omega
theorem aDI (W:Nat) (P:List Int) (kind:Int):∀d∈ds W P kind,-32768<d∧d≤32768:=fun d hd=>by
 obtain ⟨i,_,rfl⟩:=List.mem_map.1 hd;exact aCw _ _
theorem aCx (W:Nat) (P:List Int) (kind:Int):(ds W P kind).length=P.length:=by simp [ds]
def byB (b:List UInt8):List UInt8:=(gr ((b.length+7)/8) (iO b)).map UInt8.ofNat
def J3 (W H:Int) (P:List Int) (kind:Int) (c:List Int):List UInt8 × Int:=
 if plF W H P=false then ([],1) else if ¬(1≤kind∧kind≤7) then ([],6) else if lQ c≠0 then ([],lQ c) else
 if (ds W.toNat P kind).all (dOK (wordsOf c))=true then (byB (KF (wordsOf c) (ds W.toNat P kind)),0) else ([],4)
theorem O1 {W:List (List UInt8)} (hb:Nw W):∀{l:List Int},(∀d∈l,-32768<d∧d≤32768)→(KF W l).length≤31*l.length
 | [],_=>by simp [KF]
 | d::l,h=>by
  have h1:=O1 hb (l:=l) fun d hd=>h d (by simp [hd])
  have h2:=Uk hb (h d (by simp));rw [Ui,List.length_append,List.length_cons];omega
def o9 (s:List UInt8):List UInt8:=Fa (wS 2 (8*s.length) (JB s s.length))
theorem KG (s:List UInt8):(o9 s).length=8*s.length:=by unfold o9;rw [zF,rU]
theorem Dd (s:List UInt8):Ce (o9 s)=true:=SO (IU (by decide) _ _)
theorem KH:o9 []=[]:=rfl
theorem J4 (s:List UInt8):JB s s.length=num 256 (s.map UInt8.toNat):=by unfold JB;rw [List.take_length]
theorem Ul (c:UInt8) (s:List UInt8):o9 (c::s)=o9 [c]++o9 s:=by
 unfold o9;rw [←Nq,J4,J4 [c],List.map_cons,List.map_singleton,Hp,List.length_map,Q7,←J4 s,OT (show JB s s.length<2^(8*s.length) from aCo (d:=1) (by decide) s)];rw [show 8*(c::s).length=8*[c].length+8*s.length by simp;omega,show num 256 [c.toNat]=c.toNat by simp [num]]
theorem ZH {l:List Nat} (h:∀y∈l,y<2):iO (Fa l)=l:=by
 unfold iO Fa;rw [List.map_map]
 conv=>rhs;rw [←List.map_id l]
 refine List.map_congr_left fun y hy=>?_
 have:=h y hy;show (UInt8.ofNat (48+y)).toNat-48=y;rw [UInt8.toNat_ofNat',Nat.mod_eq_of_lt (by omega)]
 omega
theorem aCy {M:Nat} {l m:List Nat} (hl:l.length=8*M) (hm:m.length=8*M) (h2:∀y∈l,y<2) (h3:∀y∈m,y<2) (h:gr M l=gr M m):l=m:=by
 have e1:=Hr (B:=2) l h2;have e2:=Hr (B:=2) m h3;have n1:=Da (B:=2) l h2;have n2:=Da (B:=2) m h3;rw [hl] at e1 n1;rw [hm] at e2 n2;have h4:gr M (wS 2 (8*M) (num 2 l))=gr M (wS 2 (8*M) (num 2 m)):=by rw [e1,e2,h]
 rw [Nr,Nr] at h4;have h5:=congrArg (num 256) h4;rw [FU,FU,Q7,Nat.mod_eq_of_lt n1,Nat.mod_eq_of_lt n2] at h5;rw [←e1,←e2,h5]
theorem ZI (s:List UInt8):(gr s.length (iO (o9 s))).map UInt8.ofNat=s:=by
 unfold o9;rw [ZH (IU (by decide) _ _),Nr,J4]
 have:=Hr (B:=256) (s.map UInt8.toNat) fun y hy=>by
  obtain ⟨c,_,rfl⟩:=List.mem_map.1 hy;exact c.toNat_lt
 rw [List.length_map] at this;rw [this,toNat_ofNat]
theorem aAC {M:Nat} {l:List Nat} (h:∀y∈l,y<2):∀y∈gr M l,y<256:=fun y hy=>by
 unfold gr at hy;obtain ⟨g,_,rfl⟩:=List.mem_map.1 hy
 have:=Da (B:=2) ((List.range 8).map fun t=>l.getD (8*g+t) 0) fun y hy=>by
  obtain ⟨t,_,rfl⟩:=List.mem_map.1 hy;rw [List.getD_eq_getElem?_getD]
  by_cases hq:8*g+t<l.length
  ·rw [List.getElem?_eq_getElem hq];exact h _ (List.getElem_mem hq)
  ·rw [List.getElem?_eq_none (by omega)];exact (by decide:(0:Nat)<2)
 simpa using this
theorem WF:∀{R:List UInt8},Ce R=true→iO R=List.replicate R.length 0→R=List.replicate R.length 48
 | [],_,_=>rfl
 | c::R,h,h2=>by
  have e:=JX h;rw [h2] at e;rw [←e];unfold Fa;rw [List.map_replicate,List.length_replicate];rfl
theorem ZJ {s D R:List UInt8} (h:o9 s=D++R):byB D=s↔R.length≤7∧R=List.replicate R.length 48:=by
 have hB:=Dd s;rw [h,Cg,Bool.and_eq_true] at hB;have hL:=KG s;rw [h,List.length_append] at hL;have hb:iO (o9 s)=iO D++iO R:=by rw [h];unfold iO;rw [List.map_append]
 have hs:=ZI s;have pad:gr s.length (iO D++List.replicate R.length 0)=gr s.length (iO D):=aCp _ _ _
 constructor
 ·intro e;have hl:=congrArg List.length e;unfold byB at hl e;rw [List.length_map] at hl;have hgl:∀M l,(gr M l).length=M:=fun M l=>by simp [gr]
  rw [hgl] at hl;refine ⟨by omega,?_⟩;rw [hl] at e
  have e2:gr s.length (iO D)=gr s.length (iO (o9 s)):=by
   have:=congrArg (List.map UInt8.toNat) (e.trans hs.symm)
   rwa [ofNat_toNat (aAC (u7 hB.1)),ofNat_toNat (aAC (u7 (Dd s)))] at this
  rw [←pad,hb] at e2;have bl:∀b:List UInt8,(iO b).length=b.length:=fun b=>by simp [iO]
  have z2:∀y∈iO D++List.replicate R.length 0,y<2:=fun y hy=>by
   rcases List.mem_append.1 hy with q | q
   ·exact u7 hB.1 y q
   ·rw [(List.mem_replicate.1 q).2];decide
  have z3:∀y∈iO D++iO R,y<2:=fun y hy=>by
   rcases List.mem_append.1 hy with q | q
   ·exact u7 hB.1 y q
   ·exact u7 hB.2 y q
  have:=aCy (by rw [List.length_append,bl,List.length_replicate];omega) (by rw [List.length_append,bl,bl];omega) z2 z3 e2;exact WF hB.2 (List.append_cancel_left this).symm
 ·rintro ⟨h7,hz⟩
  have e:iO R=List.replicate R.length 0:=by
   conv=>lhs;rw [hz]
   unfold iO;rw [List.map_replicate];rfl
  unfold byB;rw [show (D.length+7)/8=s.length by omega,←pad,←e,←hb];exact hs
def vd (t:List UInt8):Int:=if 2*num 2 (iO t)<2^t.length then (num 2 (iO t):Int)-((2^t.length:Nat):Int)+1 else (num 2 (iO t):Int)
theorem aDJ {d:Int} {c:Nat} (h:1≤c) (h2:((2^(c-1):Nat):Int)≤max d (-d)) (h3:max d (-d)<((2^c:Nat):Int)):Rf d=c:=by
 have a:=Nx c (max d (-d)).toNat;have b:=Nx (c-1) (max d (-d)).toNat;have a1:(max d (-d)).toNat<2^c:=by omega
 have b1:¬(max d (-d)).toNat<2^(c-1):=by omega
 have a2:=a.2 a1;have b2:¬bl (max d (-d)).toNat≤c-1:=fun q=>b1 (b.1 q)
 unfold Rf
 omega
theorem SS {t:List UInt8} (hb:Ce t=true) (hl:t.length≤15):Rf (vd t)=t.length∧mor (vd t)=t∧-32768<vd t∧vd t<32768:=by
 have hn:=Da (B:=2) (iO t) (u7 hb);have bl:(iO t).length=t.length:=by simp [iO]
 rw [bl] at hn
 by_cases h0:t.length=0
 ·obtain rfl:t=[]:=List.length_eq_zero_iff.1 h0;exact ⟨rfl,rfl,by decide,by decide⟩
 have hp:2^t.length=2*2^(t.length-1):=by rw [←Nat.pow_succ'];congr 1;omega
 have hle:2^t.length≤32768:=Nat.le_trans (Nat.pow_le_pow_right (by decide) hl) (by decide);have hpos:0<2^(t.length-1):=Nat.two_pow_pos _
 have hr:-32768<vd t∧vd t<32768:=by unfold vd;split <;> omega
 have hc:Rf (vd t)=t.length:=by
  refine aDJ (by omega) ?_ ?_
  ·unfold vd;split <;> omega
  ·unfold vd;split <;> omega
 refine ⟨hc,?_,hr⟩;unfold mor;rw [if_neg (by omega),hc]
 have:(if 0<vd t then vd t else vd t+((2^t.length:Nat):Int)-1).toNat=num 2 (iO t):=by
  by_cases hq:2*num 2 (iO t)<2^t.length
  ·have e:vd t=(num 2 (iO t):Int)-((2^t.length:Nat):Int)+1:=by unfold vd;rw [if_pos hq]
   rw [e,if_neg (by omega)]
   omega
  ·have e:vd t=(num 2 (iO t):Int):=by unfold vd;rw [if_neg hq]
   rw [e,if_pos (by omega)]
   omega
 rw [this,←bl,Hr _ (u7 hb),JX hb]
theorem KI:Rf 32768=16∧mor 32768=[]:=⟨by decide +kernel,by
 unfold mor
 rw [if_pos (.inr (by decide +kernel))]⟩
def rdStep (W:List (List UInt8)) (R:List UInt8):Option (Int × List UInt8):=match Qe W R with
 | none=>none
 | some c=>if c=16 then some (32768,R.drop (W.getD c []).length) else if (R.drop (W.getD c []).length).length<c then none else some (vd ((R.drop (W.getD c []).length).take c),(R.drop (W.getD c []).length).drop c)
def Qg (W:List (List UInt8)) (w:Nat) (kind:Int):Nat→List Int→List UInt8→Option (List Int × List UInt8)
 | 0,P,R=>some (P,R)
 | n+1,P,R=>match rdStep W R with
  | none=>none
  | some (d,R2)=>Qg W w kind n (P++[(gs w P kind P.length+d)%65536]) R2
theorem Ny {w:Nat} (hw:1≤w) (P Q:List Int) (kind:Int) {i:Nat} (h:i≤P.length):gs w (P++Q) kind i=gs w P kind i:=by
 unfold gs
 by_cases h0:i=0
 ·rw [if_pos h0,if_pos h0]
 have e:∀j,j<P.length→(P++Q).getD j 0=P.getD j 0:=fun j hj=>by
  rw [List.getD_eq_getElem?_getD,List.getD_eq_getElem?_getD,List.getElem?_append_left hj]
 rw [if_neg h0,if_neg h0,e (i-1) (by omega),e (i-w) (by omega),e (i-w-1) (by omega)]
theorem ST {w:Nat} (hw:1≤w) (P:List Int) (kind x:Int):ds w (P++[x]) kind=ds w P kind++[dfn x (gs w P kind P.length)]:=by
 unfold ds;rw [List.length_append,List.length_singleton,List.range_succ,List.map_append,List.map_singleton]
 congr 1
 ·refine List.map_congr_left fun i hi=>?_
  have hi:=List.mem_range.1 hi;rw [Ny hw _ _ _ (by omega),List.getD_eq_getElem?_getD,List.getD_eq_getElem?_getD,List.getElem?_append_left hi]
 ·rw [Ny hw _ _ _ (Nat.le_refl _),List.getD_eq_getElem?_getD,List.getElem?_append_right (Nat.le_refl _)]
  simp
theorem WG {g d:Int} (h:-32768<d∧d≤32768):dfn ((g+d)%65536) g=d:=by
 unfold dfn
 split <;> omega
theorem step_ok {W:List (List UInt8)} (hb:Nw W) (hW:W.length≤17) {R R2:List UInt8} {d:Int} (hR:Ce R=true) (h:rdStep W R=some (d,R2)) :
  (-32768<d∧d≤32768)∧dOK W d=true∧R=Jd W d++R2:=by
 unfold rdStep at h
 rcases hf:Qe W R with _ | c
 ·rw [hf] at h;cases h
 rw [hf] at h;dsimp only at h;obtain ⟨u,hu,hu0,hub⟩:=FB hf
 have hc:c<W.length:=by
  rcases Nat.lt_or_ge c W.length with q | q
  ·exact q
  ·rw [List.getElem?_eq_none q] at hu;cases hu
 have hg:W.getD c []=u:=by rw [List.getD_eq_getElem?_getD,hu];rfl
 obtain ⟨T,rfl⟩:=hub;rw [Cg,Bool.and_eq_true] at hR;rw [hg,List.drop_left] at h
 have ok:∀e,Rf e=c→dOK W e=true:=fun e he=>by
  unfold dOK;rw [he,dT hc,Bool.true_and,hg];cases u
  ·exact absurd rfl hu0
  ·rfl
 by_cases h16:c=16
 ·rw [if_pos h16] at h
  injection h with h;injection h with h1 h2
  subst h1 h2;refine ⟨by decide,ok _ (by rw [KI.1,h16]),?_⟩;unfold Jd;rw [KI.1,KI.2,←h16,hg,List.append_nil]
 ·rw [if_neg h16] at h
  by_cases hl:T.length<c
  ·rw [if_pos hl] at h;cases h
  rw [if_neg hl] at h
  injection h with h;injection h with h1 h2
  have ht:Ce (T.take c)=true:=by
   have:=hR.2;rw [←List.take_append_drop c T,Cg,Bool.and_eq_true] at this;exact this.1
  have hlen:(T.take c).length=c:=by rw [List.length_take];omega
  obtain ⟨a1,a2,a3⟩:=SS ht (by omega);rw [hlen] at a1;subst h1 h2;refine ⟨by omega,ok _ a1,?_⟩;unfold Jd;rw [a1,a2,hg,List.append_assoc,List.take_append_drop]
theorem Um (W:List (List UInt8)) (l:List Int) (d:Int):KF W (l++[d])=KF W l++Jd W d:=by
 unfold KF;rw [List.flatMap_append]
 simp
theorem Nz {W:List (List UInt8)} (hb:Nw W) (hW:W.length≤17) {w:Nat} (hw:1≤w) {kind:Int}:∀(n:Nat) (P:List Int) (R D:List UInt8) (P2:List Int) (R2:List UInt8),Ce R=true→(∀e∈P,0≤e∧e≤65535)→(ds w P kind).all (dOK W)=true →
  Qg W w kind n P R=some (P2,R2)→P2.length=P.length+n∧(∀e∈P2,0≤e∧e≤65535)∧(ds w P2 kind).all (dOK W)=true∧KF W (ds w P kind)++R=KF W (ds w P2 kind)++R2∧Ce R2=true:=by
 intro n
 induction n with
 | zero=>
  intro P R D P2 R2 hR hP ha h;unfold Qg at h
  injection h with h;injection h with h1 h2
  subst h1 h2;exact ⟨rfl,hP,ha,rfl,hR⟩
 | succ n ih=>
  intro P R D P2 R2 hR hP ha h;unfold Qg at h
  rcases hs:rdStep W R with _ | ⟨d,R1⟩
  ·rw [hs] at h;cases h
  rw [hs] at h;dsimp only at h;obtain ⟨hd,hok,hRR⟩:=step_ok hb hW hR hs
  have hR1:Ce R1=true:=by
   rw [hRR,Cg,Bool.and_eq_true] at hR;exact hR.2
  have e:=WG (g:=gs w P kind P.length) hd
  obtain ⟨b1,b2,b3,b4,b5⟩:=ih (P++[(gs w P kind P.length+d)%65536]) R1 D P2 R2 hR1 (fun x hx=>by
   rcases List.mem_append.1 hx with q | q
   ·exact hP x q
   ·rw [List.mem_singleton.1 q];omega) (by
   rw [ST hw,e,List.all_append,ha,Bool.true_and,List.all_cons,hok];rfl) h
  refine ⟨by rw [b1,List.length_append,List.length_singleton];omega,b2,b3,?_,b5⟩;rw [←b4,ST hw,e,Um,List.append_assoc,←hRR]
theorem NA {α:Type} {xs:List α} (h:1≤xs.length):DZ xs 0 1=some (xs.take 1):=Dc (k:=1) h
theorem NB {α:Type} {xs:List α} (h:1≤xs.length):DZ xs 1 (xs.length:Int)=some (xs.drop 1):=KC (k:=1) h
theorem SU {a b:List UInt8} (h:a.length+b.length≤9223372036854775807):Ds a b=some (a++b):=by unfold Ds;rw [if_pos h]
theorem aDK (N:Nat) (hN:100≤N) (c:UInt8):uU N [c]=some (o9 [c]):=Zy N (s:=[c]) (by simp) (by simp;omega)
theorem Mu (N:Nat) (kk):∀(fuel:Nat) (x:List UInt8 × List UInt8),uV N kk fuel x=jP N 1 kk fuel x
 | 0,_=>rfl
 | fuel+1,(a,b)=>by
  unfold uV jP;simp only [Mu N kk fuel]
theorem NC (N:Nat) (hN:100≤N) {n:Nat} (hn:n≤15):∀(j fuel:Nat) (b s:List UInt8),n≤b.length+8*j→j<fuel→b.length≤n+7 →
  ∃b2 s2,(∀kk,jP N (n:Int) kk fuel (b,s)=kk (b2,s2))∧b++o9 s=b2++o9 s2∧b2.length≤n+7∧(b2.length<n→s2=[]):=by
 intro j
 induction j with
 | zero=>
  intro fuel b s hj hf hb;obtain ⟨fuel,rfl⟩:=oK fuel (by omega);refine ⟨b,s,fun kk=>?_,rfl,hb,fun h=>by omega⟩;unfold jP;rw [cF (dF (by omega))]
 | succ j ih=>
  intro fuel b s hj hf hb;obtain ⟨fuel,rfl⟩:=oK fuel (by omega)
  by_cases h:b.length<n
  rotate_left
  ·refine ⟨b,s,fun kk=>?_,rfl,hb,fun h2=>absurd h2 h⟩;unfold jP;rw [cF (dF (by omega))]
  cases s with
  | nil=>
   refine ⟨b,[],fun kk=>?_,rfl,hb,fun _=>rfl⟩;unfold jP;rw [cT (dT (by omega)),cF (by rw [dT rfl];rfl)]
  | cons c s=>
   have h8:(o9 [c]).length=8:=KG [c];obtain ⟨b2,s2,h1,h2,h3,h4⟩:=ih fuel (b++o9 [c]) s (by rw [List.length_append];omega) (by omega) (by rw [List.length_append];omega);refine ⟨b2,s2,fun kk=>?_,?_,h3,h4⟩
   ·rw [←h1 kk]
    conv=>lhs;unfold jP
    rw [cT (dT (by omega)),cT (by rw [dF (by simp)];rfl),NA (by simp),aC,show (c::s).take 1=[c] from rfl,aDK N hN,aC,SU (by omega),aC,NB (by simp),aC]
    rfl
   ·rw [Ul,←List.append_assoc,h2]
theorem WH {b T:List UInt8} {n:Nat} (h:n≤b.length):(b++T).take n=b.take n∧(b++T).drop n=b.drop n++T:=⟨List.take_append_of_le_length h,List.drop_append_of_le_length h⟩
theorem aFI {W:List (List UInt8)} {b:List UInt8} (h:Qf W b=5):∃w∈W,w≠[]∧b <+: w:=by
 unfold Qf at h
 split at h
 ·rename_i q
  rw [List.any_eq_true] at q;obtain ⟨w,hw,h2⟩:=q;rw [Bool.and_eq_true,List.isPrefixOf_iff_prefix] at h2;exact ⟨w,hw,by intro e;rw [e] at h2;simp at h2,h2.2⟩
 ·cases h
theorem ZK {W:List (List UInt8)} {b:List UInt8} (h:Qf W b≠5):∀w∈W,w≠[]→¬b <+: w:=fun w hw h0 hp=>by
 refine h ?_;unfold Qf;rw [if_pos];rw [List.any_eq_true];exact ⟨w,hw,by rw [Bool.and_eq_true,List.isPrefixOf_iff_prefix];exact ⟨by cases w;exact absurd rfl h0;rfl,hp⟩⟩
theorem ND {W:List (List UInt8)} {b:List UInt8} (h:∀w∈W,w≠[]→¬w <+: b):Qe W b=none:=by
 unfold Qe;rw [List.findIdx?_eq_none_iff];intro w hw;rw [Bool.eq_false_iff];intro q;obtain ⟨h0,h1⟩:=J2.1 q;exact h w hw h0 h1
theorem ZL (N:Nat) (hN:5000≤N) {c:List Int} (hc:lQ c=0) {R:List UInt8} (hR:Ce R=true):∀(j k fuel:Nat) (b s:List UInt8),k+j=16→k≤R.length→j<fuel→b.length≤7→R.drop k=b++o9 s→(∀w∈wordsOf c,w≠[]→w.length≤k→¬(k≠w.length∧w <+: R)) →
  ∃b2 s2 w2,b2.length≤7∧((∃i u,Qe (wordsOf c) R=some i∧(wordsOf c)[i]? = some u∧(∀i4 i5 kk,iW N c kk fuel (b,s,i4,i5,R.take k)=kk (b2,s2,(i:Int),0,w2))∧R.drop u.length=b2++o9 s2) ∨
   (Qe (wordsOf c) R=none∧∀i4 i5 kk,iW N c kk fuel (b,s,i4,i5,R.take k)=kk (b2,s2,0,1,w2))):=by
 intro j;have hbW:=o8 c;have hpf:=KA c
 generalize hWW:wordsOf c=W at *
 induction j with
 | zero=>
  intro k fuel b s hkj hkR hf hb hd hno;obtain ⟨fuel,rfl⟩:=oK fuel (by omega);have hlk:(R.take k).length=k:=by rw [List.length_take];omega
  have hBt:Ce (R.take k)=true:=by rw [←List.take_append_drop k R,Cg,Bool.and_eq_true] at hR;exact hR.1
  have hrd:uT N c (R.take k) 1=some (Uf W 1 [] (R.take k)):=by
   rw [Mt N c _ 1 (by omega) ⟨hN,by omega⟩];unfold SR;rw [if_neg (by omega),if_neg (by omega),if_pos hBt,hWW];rfl
  have hnone:∀w∈W,w≠[]→¬w <+: R:=fun w hw h0 hp=>hno w hw h0 (by have:=(hbW w hw).2;omega) ⟨by have:=(hbW w hw).2;omega,hp⟩
  have h1:Qe W (R.take k)=none:=ND fun w hw h0 hp=>hnone w hw h0 (hp.trans (List.take_prefix _ _))
  have h2:Qf W (R.take k)≠5:=fun h=>by
   obtain ⟨w,hw,_,hp⟩:=aFI h;have:=hp.length_le;have:=(hbW w hw).2
   omega
  have O2:Uf W 1 [] (R.take k)=([],[],Qf W (R.take k)):=by unfold Uf;rw [h1]
  obtain ⟨b2,s2,f1,f2,f3,f4⟩:=NC N (by omega) (n:=1) (by omega) 1 N b s (by omega) (by omega) (by omega);have f1':∀kk,jP N 1 kk N (b,s)=kk (b2,s2):=f1
  by_cases h3:b2.length<1
  ·refine ⟨b2,s2,R.take k,by omega,.inr ⟨ND hnone,fun i4 i5 kk=>?_⟩⟩;unfold iW;rw [hrd,aC,O2]
   dsimp only
   rw [cF (dF (KE W _)),Mu,f1']
   dsimp only
   rw [cT (dT (by omega)),dF h2];rfl
  ·refine ⟨b2.drop 1,s2,R.take k,by rw [List.length_drop];omega,.inr ⟨ND hnone,fun i4 i5 kk=>?_⟩⟩;unfold iW;rw [hrd,aC,O2]
   dsimp only
   rw [cF (dF (KE W _)),Mu,f1']
   dsimp only
   rw [cF (dF (by omega)),NA (by omega),aC,NB (by omega),aC,cT (by rw [dF h2];rfl)]
 | succ j ih=>
  intro k fuel b s hkj hkR hf hb hd hno;obtain ⟨fuel,rfl⟩:=oK fuel (by omega);have hlk:(R.take k).length=k:=by rw [List.length_take];omega
  have hBt:Ce (R.take k)=true:=by
   have:=hR;rw [←List.take_append_drop k R,Cg,Bool.and_eq_true] at this;exact this.1
  have hrd:uT N c (R.take k) 1=some (Uf W 1 [] (R.take k)):=by
   rw [Mt N c _ 1 (by omega) ⟨hN,by omega⟩];unfold SR;rw [if_neg (by omega),if_neg (by omega),if_pos hBt,hWW];rfl
  rcases h1:Qe W (R.take k) with _ | i
  rotate_left
  ·obtain ⟨u,hu,hu0,hub⟩:=FB h1;have huR:=hub.trans (List.take_prefix k R)
   have hul:u.length=k:=by
    have hle:=hub.length_le;have:=hno u (List.mem_of_getElem? hu) hu0 (by omega)
    by_cases e:k=u.length
    ·exact e.symm
    ·exact absurd ⟨e,huR⟩ this
   refine ⟨b,s,R.take k,hb,.inl ⟨i,u,aCu hpf hu hu0 huR,hu,fun i4 i5 kk=>?_,by rw [hul,hd]⟩⟩;unfold iW;rw [hrd,aC];have O2:Uf W 1 [] (R.take k)=([(i:Int)],(R.take k).drop (W.getD i []).length,0):=by unfold Uf;rw [h1];rfl
   rw [O2]
   rfl
  have hnone:∀w∈W,w≠[]→w.length≤k→¬w <+: R:=fun w hw h0 hl hp=>KD h1 w hw h0 (by
   rw [List.prefix_iff_eq_take.1 hp];have:R.take w.length=(R.take k).take w.length:=by rw [List.take_take,Nat.min_eq_left hl]
   rw [this]
   exact List.take_prefix _ _)
  have O2:Uf W 1 [] (R.take k)=([],[],Qf W (R.take k)):=by unfold Uf;rw [h1]
  obtain ⟨b2,s2,f1,f2,f3,f4⟩:=NC N (by omega) (n:=1) (by omega) 1 N b s (by omega) (by omega) (by omega);have f1':∀kk,jP N 1 kk N (b,s)=kk (b2,s2):=f1
  by_cases h3:b2.length<1
  ·have hs2:=f4 h3;have hb2:b2=[]:=List.length_eq_zero_iff.1 (by omega)
   have hfull:R.length≤k:=by
    rw [f2,hb2,hs2] at hd;have:=congrArg List.length hd;rw [List.length_drop] at this
    simp [KH] at this
    omega
   have WE:Qe W R=none:=by rw [List.take_of_length_le hfull] at h1;exact h1
   refine ⟨b2,s2,R.take k,by omega,.inr ⟨WE,fun i4 i5 kk=>?_⟩⟩;unfold iW;rw [hrd,aC,O2]
   dsimp only
   rw [cF (dF (KE W _)),Mu,f1']
   dsimp only
   rw [cT (dT (by omega))]
   cases (!decide (Qf W (R.take k)=5)) <;> rfl
  by_cases h2:Qf W (R.take k)=5
  rotate_left
  ·have WE:Qe W R=none:=ND fun w hw h0 hp=>by
    rcases Nat.lt_or_ge k w.length with hl | hl
    ·refine ZK h2 w hw h0 ?_;exact List.prefix_of_prefix_length_le (List.take_prefix k R) hp (by omega)
    ·exact hnone w hw h0 hl hp
   refine ⟨b2.drop 1,s2,R.take k,by rw [List.length_drop];omega,.inr ⟨WE,fun i4 i5 kk=>?_⟩⟩;unfold iW;rw [hrd,aC,O2]
   dsimp only
   rw [cF (dF (KE W _)),Mu,f1']
   dsimp only
   rw [cF (dF (by omega)),NA (by omega),aC,NB (by omega),aC,cT (by rw [dF h2];rfl)]
  obtain ⟨t1,t2⟩:=WH (b:=b2) (T:=o9 s2) (n:=1) (by omega);rw [f2] at hd
  have hlt:k<R.length:=by
   have:=congrArg List.length hd;rw [List.length_drop,List.length_append] at this
   omega
  have htk:R.take k++b2.take 1=R.take (k+1):=by
   rw [←t1,←hd,List.take_add]
  have hdk:R.drop (k+1)=b2.drop 1++o9 s2:=by rw [←t2,←hd,List.drop_drop]
  obtain ⟨b3,s3,w3,g1,g2⟩:=ih (k+1) fuel (b2.drop 1) s2 (by omega) (by omega) (by omega) (by rw [List.length_drop];omega) hdk (fun w hw h0 hl hx=>by
   rcases Nat.lt_or_ge k w.length with q | q
   ·exact hx.1 (by omega)
   ·exact hnone w hw h0 q hx.2)
  have step:∀i4 i5 kk,iW N c kk (fuel+1) (b,s,i4,i5,R.take k)=iW N c kk fuel (b2.drop 1,s2,i4,i5,R.take (k+1)):=fun i4 i5 kk=>by
   conv=>lhs;unfold iW
   rw [hrd,aC,O2]
   dsimp only
   rw [cF (dF (KE W _)),Mu,f1']
   dsimp only
   rw [cF (dF (by omega)),NA (by omega),aC,NB (by omega),aC,cF (by rw [dT h2];rfl),SU (by rw [hlk,List.length_take];omega),aC,htk]
  refine ⟨b3,s3,w3,g1,?_⟩
  rcases g2 with ⟨i,u,a1,a2,a3,a4⟩ | ⟨a1,a2⟩
  ·exact .inl ⟨i,u,a1,a2,fun i4 i5 kk=>by rw [step,a3],a4⟩
  ·exact .inr ⟨a1,fun i4 i5 kk=>by rw [step,a2]⟩
theorem WI {t:List UInt8} (hb:Ce t=true) (h:1≤t.length):∃x,t[0]? = some x∧(((x.toNat:Int)=48)↔2*num 2 (iO t)<2^t.length):=by
 cases t with
 | nil=>simp at h
 | cons x t=>
  refine ⟨x,rfl,?_⟩;have hl:=Da (B:=2) (iO t) (u7 (by unfold Ce at hb ⊢;rw [List.all_cons,Bool.and_eq_true] at hb;exact hb.2));have bl:(iO t).length=t.length:=by simp [iO]
  have hx:x=48∨x=49:=by unfold Ce at hb;rw [List.all_cons,Bool.and_eq_true] at hb;exact of_decide_eq_true hb.1
  rw [show iO (x::t)=(x.toNat-48)::iO t from rfl,Hp,List.length_cons,Nat.pow_succ,bl];rw [bl] at hl
  rcases hx with rfl | rfl
  ·rw [show (48:UInt8).toNat=48 from rfl]
   constructor
   ·intro _;omega
   ·intro _;rfl
  ·rw [show (49:UInt8).toNat=49 from rfl]
   constructor
   ·intro h;omega
   ·intro h;omega
theorem ZM {t:List UInt8} (h:2*num 2 (iO t)<2^t.length):vd t=(num 2 (iO t):Int)-(((2^t.length:Nat):Int)-1):=by unfold vd;rw [if_pos h];omega
theorem ZN {t:List UInt8} (h:¬2*num 2 (iO t)<2^t.length):vd t=(num 2 (iO t):Int):=by unfold vd;rw [if_neg h]
theorem WJ {P:List Int} {x y:Int}:(P++[x]).set P.length y=P++[y]:=by
 rw [List.set_append_right _ _ (Nat.le_refl _),Nat.sub_self];rfl
theorem WK (N:Nat) (hN:5000≤N) {c:List Int} (hc:lQ c=0) {w h:Nat} (hw:1≤w∧w≤64) (hh:1≤h∧h≤64) {kind:Int} (hk:1≤kind∧kind≤7) (kk):∀(j fuel:Nat) (P:List Int) (b s:List UInt8),P.length+j=w*h→j<fuel→(∀e∈P,0≤e∧e≤65535)→b.length≤7→Ce (b++o9 s)=true →
  (Qg (wordsOf c) w kind j P (b++o9 s)=none∧eH N (w:Int) (h:Int) kind c kk fuel (P,b,s,(P.length:Int))=some (0,0,[],1)) ∨
  (∃P2 b2 s2,Qg (wordsOf c) w kind j P (b++o9 s)=some (P2,b2++o9 s2)∧b2.length≤7∧eH N (w:Int) (h:Int) kind c kk fuel (P,b,s,(P.length:Int))=kk (P2,b2,s2,((w*h:Nat):Int))):=by
 have hm:=Nat.mul_le_mul hw.2 hh.2;have hwh:IntKind.i64.wrap ((w:Int)*(h:Int))=((w*h:Nat):Int):=by rw [show (w:Int)*(h:Int)=((w*h:Nat):Int) by simp,gF (by omega)]
 have hbW:=o8 c
 have hWl:(wordsOf c).length≤17:=by
  rw [yE hc];obtain ⟨ns,rfl,_,_,Uh,_⟩:=Db hc;rw [kX];exact Uh
 intro j
 induction j with
 | zero=>
  intro fuel P b s hj hf hP hb hB;obtain ⟨fuel,rfl⟩:=oK fuel (by omega);refine .inr ⟨P,b,s,rfl,hb,?_⟩;unfold eH;rw [hwh,cF (dF (by omega)),show P.length=w*h by omega]
 | succ j ih=>
  intro fuel P b s hj hf hP hb hB;obtain ⟨fuel,rfl⟩:=oK fuel (by omega);have hlt:P.length<w*h:=by omega
  have hnx:IntKind.i64.wrap ((P.length:Int)+1)=((P.length+1:Nat):Int):=by rw [gF (by omega)];rfl
  have hP0:∀e∈P++[0],0≤e∧e≤65535:=fun e he=>by
   rcases List.mem_append.1 he with q | q
   ·exact hP e q
   ·rw [List.mem_singleton.1 q];decide
  have hP1:(P++[(0:Int)]).length=P.length+1:=by simp
  have hg:nY N (w:Int) (h:Int) (P++[0]) kind (P.length:Int)=some (gs w P kind P.length):=by
   rw [Re hP0 N hw hk _ (by omega) (by omega),Ny hw.1 _ _ _ (Nat.le_refl _)]
  have hgi:-65535≤gs w P kind P.length∧gs w P kind P.length≤131070:=by
   rw [←Ny hw.1 P [0] kind (Nat.le_refl _)];exact aDG hP0 hw.1 (by omega)
  have hset:∀y:Int,vU (P++[0]) (P.length:Int) y=some (P++[y]):=fun y=>by
   rw [Cc (by omega),Int.toNat_natCast,WJ]
  have hix:idx (P++[(0:Int)]) (P.length:Int)=some 0:=by rw [eC];simp
  have hval:∀d:Int,-32768<d∧d≤32768→IntKind.i64.wrap (IntKind.u16.wrap (IntKind.i64.wrap (gs w P kind P.length+d)))=(gs w P kind P.length+d)%65536:=fun d hd=>by
   rw [gF (x:=gs w P kind P.length+d) (by omega),show IntKind.u16.wrap (gs w P kind P.length+d)=(gs w P kind P.length+d)%65536 by simp [IntKind.wrap,IntKind.bits,IntKind.signed],gF (by omega)]
  have go:∀(d:Int) (b2 s2:List UInt8),b2.length≤7→rdStep (wordsOf c) (b++o9 s)=some (d,b2++o9 s2) → 
    eH N (w:Int) (h:Int) kind c kk (fuel+1) (P,b,s,(P.length:Int))=eH N (w:Int) (h:Int) kind c kk fuel (P++[(gs w P kind P.length+d)%65536],b2,s2,((P.length+1:Nat):Int)) →
    (Qg (wordsOf c) w kind (j+1) P (b++o9 s)=none∧eH N (w:Int) (h:Int) kind c kk (fuel+1) (P,b,s,(P.length:Int))=some (0,0,[],1)) ∨
    (∃P2 b2 s2,Qg (wordsOf c) w kind (j+1) P (b++o9 s)=some (P2,b2++o9 s2)∧b2.length≤7∧eH N (w:Int) (h:Int) kind c kk (fuel+1) (P,b,s,(P.length:Int))=kk (P2,b2,s2,((w*h:Nat):Int))):=by
   intro d b2 s2 h1 h2 h3;obtain ⟨hd,_,hRR⟩:=step_ok hbW hWl hB h2
   have hB2:Ce (b2++o9 s2)=true:=by
    rw [hRR,Cg,Bool.and_eq_true] at hB;exact hB.2
   have hl:(P++[(gs w P kind P.length+d)%65536]).length=P.length+1:=by simp
   have:=ih fuel (P++[(gs w P kind P.length+d)%65536]) b2 s2 (by omega) (by omega) (fun e he=>by
    rcases List.mem_append.1 he with q | q
    ·exact hP e q
    ·rw [List.mem_singleton.1 q];omega) h1 hB2
   have e:Qg (wordsOf c) w kind (j+1) P (b++o9 s)=Qg (wordsOf c) w kind j (P++[(gs w P kind P.length+d)%65536]) (b2++o9 s2):=by
    conv=>lhs;unfold Qg
    rw [h2]
   rw [hl] at this;rw [e,h3];exact this
  have bad:rdStep (wordsOf c) (b++o9 s)=none→Qg (wordsOf c) w kind (j+1) P (b++o9 s)=none:=fun q=>by unfold Qg;rw [q]
  obtain ⟨b2,s2,w2,n1,n2⟩:=ZL N hN hc hB 16 0 N b s rfl (by omega) (by omega) hb rfl (fun u hu h0 hl hx=>hx.1 (by omega));have start:eH N (w:Int) (h:Int) kind c kk (fuel+1) (P,b,s,(P.length:Int))=eH N (w:Int) (h:Int) kind c kk (fuel+1) (P,b,s,(P.length:Int)):=rfl
  rcases n2 with ⟨i,u,a1,a2,a3,a4⟩ | ⟨a1,a2⟩
  rotate_left
  ·refine .inl ⟨bad (by unfold rdStep;rw [a1]),?_⟩;unfold eH;rw [hwh,cT (dT (by omega)),oS (by simp;omega),aC];refine (a2 0 0 _).trans ?_
   rfl
  have hgd:(wordsOf c).getD i []=u:=by rw [List.getD_eq_getElem?_getD,a2];rfl
  have hil:i<(wordsOf c).length:=(List.getElem?_eq_some_iff.1 a2).1
  have hst:rdStep (wordsOf c) (b++o9 s)=if i=16 then some (32768,b2++o9 s2) else if (b2++o9 s2).length<i then none else some (vd ((b2++o9 s2).take i),(b2++o9 s2).drop i):=by
   unfold rdStep;rw [a1]
   dsimp only
   rw [hgd,a4]
  by_cases h16:i=16
  ·refine go 32768 b2 s2 n1 (by rw [hst,if_pos h16]) ?_
   conv=>lhs;unfold eH
   rw [hwh,cT (dT (by omega)),oS (by simp;omega),aC];refine (a3 0 0 _).trans ?_
   dsimp only
   rw [cF (by rfl),cT (dT (by omega)),hg,aC,hix,aC,hval _ (by decide),hset,aC,hnx]
  rw [if_neg h16] at hst
  by_cases h0:i=0
  ·subst h0;refine go 0 b2 s2 n1 (by rw [hst,if_neg (by omega),List.take_zero,List.drop_zero];rfl) ?_
   conv=>lhs;unfold eH
   rw [hwh,cT (dT (by omega)),oS (by simp;omega),aC];refine (a3 0 0 _).trans ?_
   dsimp only
   rw [cF (by rfl),cF (dF (by omega)),cF (dF (by omega)),hg,aC,hix,aC,hval _ (by decide),hset,aC,hnx]
  obtain ⟨b3,s3,f1,f2,f3,f4⟩:=NC N (by omega) (n:=i) (by omega) 2 N b2 s2 (by omega) (by omega) (by omega);rw [f2] at hst
  by_cases hs:b3.length<i
  ·have hs3:=f4 hs;refine .inl ⟨bad (by rw [hst,hs3,KH,List.append_nil,if_pos hs]),?_⟩;unfold eH;rw [hwh,cT (dT (by omega)),oS (by simp;omega),aC];refine (a3 0 0 _).trans ?_
   dsimp only
   rw [cF (by rfl),cF (dF (by omega)),cT (dT (by omega)),f1]
   dsimp only
   rw [cT (dT (by omega))]
  obtain ⟨t1,t2⟩:=WH (b:=b3) (T:=o9 s3) (n:=i) (by omega)
  have hB3:Ce (b3.take i)=true:=by
   have e:b++o9 s=u++(b3.take i++(b3.drop i++o9 s3)):=by
    obtain ⟨u2,hu2,_,hub⟩:=FB a1;rw [a2] at hu2;cases hu2;obtain ⟨T,hT⟩:=hub;rw [←hT,List.drop_left] at a4;rw [←hT,a4,f2,←List.append_assoc (b3.take i),List.take_append_drop]
   rw [e,Cg,Cg,Bool.and_eq_true,Bool.and_eq_true] at hB;exact hB.2.1
  have hlen:(b3.take i).length=i:=by rw [List.length_take];omega
  rw [if_neg (by rw [List.length_append];omega),t1,t2] at hst;obtain ⟨_,_,v1,v2⟩:=SS hB3 (by omega);have hvl:=Da (B:=2) (iO (b3.take i)) (u7 hB3);have bl:(iO (b3.take i)).length=i:=by simp only [iO,List.length_map];exact hlen
  rw [bl] at hvl;have aGt:=Kx (d:=i) (by omega);obtain ⟨x,x1,x2⟩:=WI hB3 (by omega);rw [hlen] at x2;refine go (vd (b3.take i)) (b3.drop i) s3 (by rw [List.length_drop];omega) hst ?_
  conv=>lhs;unfold eH
  rw [hwh,cT (dT (by omega)),oS (by simp;omega),aC];refine (a3 0 0 _).trans ?_
  dsimp only
  rw [cF (by rfl),cF (dF (by omega)),cT (dT (by omega)),f1]
  dsimp only
  rw [cF (dF (by omega)),Dc (by omega),aC,KC (by omega),aC,Ra N (by omega) (by omega),aC,if_pos hB3,if_pos (by omega),show idx (b3.take i) 0=(b3.take i)[0]? from eC _ 0,x1,aC]
  dsimp only
  by_cases hx:2*num 2 (iO (b3.take i))<2^i
  ·have hv:=ZM (t:=b3.take i) (by rw [hlen];exact hx);rw [hlen] at hv;rw [cT (dT (x2.2 hx)),Ew,aC,J0 (by omega),gF (x:=_-1) (by omega),gF (x:=_-_) (by omega),aC,hg,aC,hix,aC,←hv,hval _ (by omega),hset,aC,hnx]
  ·have hv:=ZN (t:=b3.take i) (by rw [hlen];exact hx);rw [cF (dF (fun q=>hx (x2.1 q))),hg,aC,hix,aC,←hv,hval _ (by omega),hset,aC,hnx]
def qE (s:List UInt8) (W H kind:Int) (c:List Int):Int × Int × List Int × Int:=
 if ¬(1≤W∧W≤64) then (0,0,[],3) else if ¬(1≤H∧H≤64) then (0,0,[],3) else if ¬(1≤kind∧kind≤7) then (0,0,[],6) else if lQ c≠0 then (0,0,[],lQ c) else
 match Qg (wordsOf c) W.toNat kind (W.toNat*H.toNat) [] (o9 s) with
 | none=>(0,0,[],1)
 | some (P,R)=>if R.length≤7∧R=List.replicate R.length 48 then (W,H,P,0) else (0,0,[],1)
theorem aDL:∀{b:List UInt8},Ce b=true→(decide (0≤Go.Lib.indexByte b 49)) = !decide (b=List.replicate b.length 48)
 | [],_=>rfl
 | x::b,h=>by
  have hx:x=48∨x=49:=by unfold Ce at h;rw [List.all_cons,Bool.and_eq_true] at h;exact of_decide_eq_true h.1
  have hb:Ce b=true:=by unfold Ce at h ⊢;rw [List.all_cons,Bool.and_eq_true] at h;exact h.2
  have ih:=aDL hb;have ge:=Go.Lib.indexByte_ge b 49
  rcases hx with rfl | rfl
  ·have e:decide (0≤Go.Lib.indexByte (48::b) 49)=decide (0≤Go.Lib.indexByte b 49):=by
    rw [decide_eq_decide];show 0≤(if ((48:UInt8)==49)=true then (0:Int) else if (Go.Lib.indexByte b 49 == -1)=true then -1 else Go.Lib.indexByte b 49+1)↔_;rw [if_neg (by decide)]
    by_cases hq:Go.Lib.indexByte b 49 = -1
    ·rw [if_pos (by rw [hq];rfl),hq]
    ·rw [if_neg (by simpa using hq)];omega
   rw [e,ih]
   congr 1
   rw [decide_eq_decide,List.length_cons,List.replicate_succ]
   simp
  ·rw [dF (show ¬((49:UInt8)::b=List.replicate ((49:UInt8)::b).length 48) by rw [List.length_cons,List.replicate_succ];intro q;injection q with q _;revert q;decide)];exact dT (by show 0≤(if ((49:UInt8)==49)=true then (0:Int) else _);rw [if_pos (by decide)];exact Int.le_refl _)
theorem Lz (N:Nat) (hN:200000≤N) (s:List UInt8) (W H kind:Int) (c:List Int):Bc N s W H kind c=some (qE s W H kind c):=by
 unfold Bc qE
 by_cases h1:W<1
 ·rw [cT (dT h1),if_pos (by omega)]
 rw [cF (dF h1)]
 by_cases h2:64<W
 ·rw [cT (dT h2),if_pos (by omega)]
 rw [cF (dF h2),if_neg (by omega)]
 by_cases h3:H<1
 ·rw [cT (dT h3),if_pos (by omega)]
 rw [cF (dF h3)]
 by_cases h4:64<H
 ·rw [cT (dT h4),if_pos (by omega)]
 rw [cF (dF h4),if_neg (by omega)]
 by_cases h5:kind<1
 ·rw [cT (dT h5),if_pos (by omega)]
 rw [cF (dF h5)]
 by_cases h6:7<kind
 ·rw [cT (dT h6),if_pos (by omega)]
 rw [cF (dF h6),if_neg (by omega),Ex N (by omega),aC]
 by_cases h7:lQ c=0
 rotate_left
 ·rw [cT (by rw [dF h7];rfl),if_pos h7]
 rw [cF (by rw [dT h7];rfl),if_neg (by omega)];obtain ⟨w,rfl⟩:=Int.eq_ofNat_of_zero_le (show 0≤W by omega);obtain ⟨h,rfl⟩:=Int.eq_ofNat_of_zero_le (show 0≤H by omega);have hm:=Nat.mul_le_mul (show w≤64 by omega) (show h≤64 by omega);rw [Int.toNat_natCast,Int.toNat_natCast];have hB:Ce ([]++o9 s)=true:=Dd s
 have key:=WK N (by omega) h7 (w:=w) (h:=h) (by omega) (by omega) (kind:=kind) (by omega) (fun (DM,x27,x28,i8)=>
  cond (!decide (x28=([]:List UInt8))) (
  some (0,0,([]:List Int),1)) (
  Option.bind (pS N x27 ([49]:List UInt8)) fun Ov=>
  cond (Ov) (
  some (0,0,([]:List Int),1)) (
  some ((w:Int),(h:Int),DM,0)))) (w*h) N [] [] s (by simp) (by omega) (by simp) (by simp) hB
 rw [List.nil_append] at key
 rcases key with ⟨k1,k2⟩ | ⟨P2,b2,s2,k1,k2,k3⟩
 ·rw [k1];exact k2
 refine Eq.trans k3 ?_;rw [k1]
 dsimp only
 have hB2:Ce (b2++o9 s2)=true:=(Nz (o8 c) (by
  rw [yE h7];obtain ⟨ns,rfl,_,_,Uh,_⟩:=Db h7
  rw [kX];exact Uh) (by omega) _ _ _ [] _ _ (Dd s) (by simp) rfl k1).2.2.2.2
 by_cases hs:s2=[]
 rotate_left
 ·have:1≤s2.length:=by
   rcases Nat.eq_zero_or_pos s2.length with q | q
   ·exact absurd (List.length_eq_zero_iff.1 q) hs
   ·exact q
  rw [cT (by rw [dF hs];rfl),if_neg];rw [List.length_append,KG]
  omega
 subst hs;rw [KH,List.append_nil] at hB2 ⊢;rw [cF (by rfl),show pS N b2 [49]=some (decide (0≤Go.Lib.indexByte b2 49)) from rfl,aC,aDL hB2]
 by_cases hz:b2=List.replicate b2.length 48
 ·rw [dT hz,if_pos ⟨k2,hz⟩];rfl
 ·rw [dF hz,if_neg (fun q=>hz q.2)];rfl
theorem Rg {w h:Nat} (hw:1≤w∧w≤64) (hh:1≤h∧h≤64) {P:List Int} (hP:∀e∈P,0≤e∧e≤65535) (hl:P.length=w*h) {kind:Int} (hk:1≤kind∧kind≤7) {c:List Int} (hc:lQ c=0) (ha:(ds w P kind).all (dOK (wordsOf c))=true):J3 (w:Int) (h:Int) P kind c=(byB (KF (wordsOf c) (ds w P kind)),0):=by
 have hp:plF (w:Int) (h:Int) P=true:=by
  unfold plF;rw [dT (show o7 (w:Int) (h:Int) P.length from ⟨by omega,by omega,by omega,by omega,by rw [hl];simp⟩),Bool.true_and,List.all_eq_true];exact fun e he=>dT (hP e he)
 unfold J3;rw [hp,if_neg (by decide),if_neg (by omega),if_neg (by omega),Int.toNat_natCast,if_pos ha]
theorem Rh (s:List UInt8) (W H kind:Int) (c:List Int):(qE s W H kind c).2.2.1.length≤4096:=by
 unfold qE
 split
 ·simp
 split
 ·simp
 split
 ·simp
 split
 ·simp
 rename_i h1 h2 h3 h4
 split
 ·simp
 rename_i P R hr
 split
 rotate_left
 ·simp
 have h7:lQ c=0:=by omega
 have hWl:(wordsOf c).length≤17:=by
  rw [yE h7];obtain ⟨ns,rfl,_,_,Uh,_⟩:=Db h7;rw [kX];exact Uh
 have hm:=Nat.mul_le_mul (show W.toNat≤64 by omega) (show H.toNat≤64 by omega);have:=(Nz (o8 c) hWl (by omega) _ _ _ [] _ _ (Dd s) (by simp) rfl hr).1;rw [List.length_nil,Nat.zero_add] at this;show P.length≤_
 omega
theorem O3 (s:List UInt8) (W H kind:Int) (c:List Int) (h:(qE s W H kind c).2.2.2=0):J3 (qE s W H kind c).1 (qE s W H kind c).2.1 (qE s W H kind c).2.2.1 kind c=(s,0):=by
 unfold qE at h ⊢
 by_cases h1:1≤W∧W≤64
 rotate_left
 ·rw [if_pos h1] at h;cases h
 rw [if_neg (by omega)] at h ⊢
 by_cases h2:1≤H∧H≤64
 rotate_left
 ·rw [if_pos h2] at h;cases h
 rw [if_neg (by omega)] at h ⊢
 by_cases h3:1≤kind∧kind≤7
 rotate_left
 ·rw [if_pos h3] at h;cases h
 rw [if_neg (by omega)] at h ⊢
 by_cases h7:lQ c=0
 rotate_left
 ·rw [if_pos h7] at h;exact absurd h h7
 rw [if_neg (by omega)] at h ⊢;obtain ⟨w,rfl⟩:=Int.eq_ofNat_of_zero_le (show 0≤W by omega);obtain ⟨k,rfl⟩:=Int.eq_ofNat_of_zero_le (show 0≤H by omega);rw [Int.toNat_natCast,Int.toNat_natCast] at h ⊢
 have hWl:(wordsOf c).length≤17:=by
  rw [yE h7];obtain ⟨ns,rfl,_,_,Uh,_⟩:=Db h7;rw [kX];exact Uh
 rcases hr:Qg (wordsOf c) w kind (w*k) [] (o9 s) with _ | ⟨P2,R2⟩
 ·rw [hr] at h;cases h
 rw [hr] at h;dsimp only at h ⊢
 by_cases hz:R2.length≤7∧R2=List.replicate R2.length 48
 rotate_left
 ·rw [if_neg hz] at h;cases h
 rw [if_pos hz];obtain ⟨q1,q2,q3,q4,q5⟩:=Nz (o8 c) hWl (by omega) _ _ _ [] _ _ (Dd s) (by simp) rfl hr;rw [List.length_nil,Nat.zero_add] at q1
 dsimp only
 rw [Rg (by omega) (by omega) q2 q1 h3 h7 q3,(ZJ q4).2 hz]
theorem FC {s:List UInt8} {o p:Int} (h:kS s o p=0):∃d n:Nat,o=d∧p=n∧(1≤d∧d≤16)∧n≤4096∧s.length=(n*d+7)/8∧JB s s.length%2^(8*s.length-d*n)=0:=by
 unfold kS at h
 by_cases h1:1≤o∧o≤16
 rotate_left
 ·rw [if_pos h1] at h;cases h
 rw [if_neg (fun q=>q h1)] at h
 by_cases h2:p<0
 ·rw [if_pos h2] at h;cases h
 rw [if_neg h2] at h
 by_cases h3:4096<p
 ·rw [if_pos h3] at h;cases h
 rw [if_neg h3] at h;obtain ⟨d,rfl⟩:=Int.eq_ofNat_of_zero_le (show 0≤o by omega);obtain ⟨n,rfl⟩:=Int.eq_ofNat_of_zero_le (show 0≤p by omega);rw [Int.toNat_natCast,Int.toNat_natCast] at h
 by_cases h4:s.length=(n*d+7)/8
 rotate_left
 ·rw [if_pos h4] at h;cases h
 rw [if_neg (fun q=>q h4)] at h
 by_cases h5:JB s s.length%2^(8*s.length-d*n)=0
 rotate_left
 ·rw [if_pos h5] at h;cases h
 exact ⟨d,n,rfl,rfl,by omega,by omega,h4,h5⟩
end
end Go.Proofs.YtpmnfhifmmfglabGreatDoor
