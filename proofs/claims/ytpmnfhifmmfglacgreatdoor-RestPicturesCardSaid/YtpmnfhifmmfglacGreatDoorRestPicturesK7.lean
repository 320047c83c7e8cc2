/- Texts of the claim RestPictures, joined and made small by a program. -/
import Derived.Test.YtpmnfhifmmfglacGreatDoorRestPicturesK5
import Derived.Test.YtpmnfhifmmfglacGreatDoorRestPicturesK6
set_option linter.unusedVariables false
set_option linter.unusedSimpArgs false
set_option linter.unusedSectionVars false
set_option maxRecDepth 100000
set_option maxHeartbeats 8000000
namespace Go.Proofs.YtpmnfhifmmfglacGreatDoor
section
open Go
theorem LA {W H n:Nat} (h:1≤W∧W≤64∧1≤H∧H≤64) (hn:n=W*H) {g:Nat→Int} (hg:∀i,i<n→0≤g i∧g i≤65535):bW W H ((List.range n).map g)=true:=by
 refine rU.2 ⟨⟨by omega,by omega,by omega,by omega⟩,by rw [List.length_map,List.length_range,hn,Int.natCast_mul],List.all_eq_true.2 fun x hx=>?_⟩;obtain ⟨i,hi,rfl⟩:=List.mem_map.1 hx;have:=hg i (List.mem_range.1 hi)
 simp [Jy,this]
theorem T0 {n:Nat} {g:Nat→Int} (hg:∀i,i<n→0≤g i∧g i≤65535):upTo ((List.range n).map g) 65535:=fun i=>by
 rw [List.getD_eq_getElem?_getD]
 by_cases hi:i<n
 ·rw [List.getElem?_map,List.getElem?_range hi];exact hg i hi
 ·rw [List.getElem?_eq_none (by simp;omega)];simp
theorem Vd {W H:Nat} {q:List Px} (hq:uB W H q=true) {f:Px→Px} (hf:∀p,Af p=true→Af (f p)=true):uB W H ((List.range q.length).map fun i=>f (q.getD i Ff))=true:=by
 have hs:=rO hq;have h:=EW W H q hs;simp only [uB,Bool.and_eq_true,decide_eq_true_eq];refine ⟨by rw [List.length_map,List.length_range];exact hs,List.all_eq_true.2 fun p hp=>?_⟩;obtain ⟨i,hi,rfl⟩:=List.mem_map.1 hp;have hlt:=List.mem_range.1 hi;refine hf _ ?_;exact MR hq (i:=i) (by rw [List.getD_eq_getElem?_getD,List.getElem?_eq_getElem hlt];rfl)
theorem Qy (a b c:Int) (p:Px):0≤NG a b c p∧NG a b c p≤65535:=by unfold NG;omega
theorem aBX (m0 m1 m2 m3 m4 m5 m6 m7 m8:Int) (p:Px):Af (Ly m0 m1 m2 m3 m4 m5 m6 m7 m8 p)=true:=by
 have h1:=Qy m0 m1 m2 p;have h2:=Qy m3 m4 m5 p;have h3:=Qy m6 m7 m8 p;unfold Ly;simp only [Af,decide_eq_true_eq];omega
theorem T1 {l:List Pt} (h:pJ l) {x:Int} (hx:0≤x∧x≤65535):0≤WC l x∧WC l x≤65535:=by
 obtain ⟨i,a,b,e⟩:=aC4 h 1125899906842624 (by omega) hx;have f:=Py h a b;have b1:=h.bd (i:=i-1) (by omega);have b2:=h.bd (i:=i) (by omega);unfold WC;rw [e];show 0≤seg l i x∧seg l i x≤65535
 omega
theorem Y1 {l:List Pt} (h:pJ l) (p:Px) (hp:Af p=true):Af (Gr l p)=true:=by
 simp only [Af,decide_eq_true_eq] at hp;have h1:=T1 h (x:=p.1) (by omega);have h2:=T1 h (x:=p.2.1) (by omega);have h3:=T1 h (x:=p.2.2) (by omega);unfold Gr;simp only [Af,decide_eq_true_eq];omega
section
variable (ph b0 b1 b2 b3 w:Int) (sp:List (Int × Int)) (g0 g1 g2 m0 m1 m2 m3 m4 m5 m6 m7 m8:Int) (cv:List (Int × Int)) (am:Int)
def st1 (W:Nat) (P:List Int):List Int:=(List.range P.length).map (JI W P b0 b1 b2 b3 w)
def st2 (W H:Nat) (P:List Int):List Int:=(List.range (st1 b0 b1 b2 b3 w W P).length).map (sO W H sp (st1 b0 b1 b2 b3 w W P))
def Y2 (W H:Nat) (P:List Int):List Int:=(List.range (st2 b0 b1 b2 b3 w sp W H P).length).map (RY W (st2 b0 b1 b2 b3 w sp W H P) ph g0 g1 g2)
def Y3 (W H:Nat) (P:List Int):List Px:=Lu W H (pF W H (Y2 ph b0 b1 b2 b3 w sp g0 g1 g2 W H P) ph)
def Y4 (W H:Nat) (P:List Int):List Px:=(List.range (Y3 ph b0 b1 b2 b3 w sp g0 g1 g2 W H P).length).map fun i=>Ly m0 m1 m2 m3 m4 m5 m6 m7 m8 ((Y3 ph b0 b1 b2 b3 w sp g0 g1 g2 W H P).getD i Ff)
def st6 (W H:Nat) (P:List Int):List Px:=(List.range (Y4 ph b0 b1 b2 b3 w sp g0 g1 g2 m0 m1 m2 m3 m4 m5 m6 m7 m8 W H P).length).map fun i=>Gr cv ((Y4 ph b0 b1 b2 b3 w sp g0 g1 g2 m0 m1 m2 m3 m4 m5 m6 m7 m8 W H P).getD i Ff)
def OU (W H:Nat) (P:List Int):List Px:=Lu W H (WD am W H (st6 ph b0 b1 b2 b3 w sp g0 g1 g2 m0 m1 m2 m3 m4 m5 m6 m7 m8 cv W H P))
structure JJ:Prop where
 phase:0≤ph∧ph≤3
 white:1≤w∧w≤65535
 black:RT b0 b1 b2 b3 w
 LB:sp.length≤64
 spots:sp.all (gC 64 64)=true
 gains:aEv g0 g1 g2
 matrix:B2 m0 m1 m2 m3 m4 m5 m6 m7 m8=true
 amount:0≤am∧am≤1024
theorem Ih (h:yH ph b0 b1 b2 b3 w sp g0 g1 g2 m0 m1 m2 m3 m4 m5 m6 m7 m8 am=true):JJ ph b0 b1 b2 b3 w sp g0 g1 g2 m0 m1 m2 m3 m4 m5 m6 m7 m8 am:=by
 unfold yH at h;simp only [List.all_cons,List.all_nil,Bool.and_true,Bool.and_eq_true] at h;obtain ⟨h1,h2,⟨c0,c1,c2,c3⟩,h4,h5,⟨d0,d1,d2⟩,h7,h8⟩:=h;have e0:=of_decide_eq_true c0;have e1:=of_decide_eq_true c1;have e2:=of_decide_eq_true c2;have e3:=of_decide_eq_true c3;exact ⟨of_decide_eq_true h1,of_decide_eq_true h2,⟨by omega,by omega,by omega,by omega⟩,of_decide_eq_true h4,h5,⟨of_decide_eq_true d0,of_decide_eq_true d1,of_decide_eq_true d2⟩,h7,of_decide_eq_true h8⟩
end
section
variable {ph b0 b1 b2 b3 w:Int} {sp:List (Int × Int)} {g0 g1 g2 m0 m1 m2 m3 m4 m5 m6 m7 m8:Int} {cv:List (Int × Int)} {am:Int} (hp:JJ ph b0 b1 b2 b3 w sp g0 g1 g2 m0 m1 m2 m3 m4 m5 m6 m7 m8 am)
include hp
section
variable {W H:Nat} {P:List Int} (hs:1≤W∧W≤64∧1≤H∧H≤64) (hl:P.length=W*H) (hP:upTo P 65535)
include hs hl hP
theorem MS:(st1 b0 b1 b2 b3 w W P).length=W*H:=by unfold st1;rw [List.length_map,List.length_range,hl]
theorem aC5 (i:Nat):0≤JI W P b0 b1 b2 b3 w i∧JI W P b0 b1 b2 b3 w i≤65535:=aBD hp.black hp.white.2 (Qq hp.black _ _)
theorem Y5:upTo (st1 b0 b1 b2 b3 w W P) 65535:=T0 fun i _=>aC5 hp hs hl hP i
theorem Y6:bW W H (st1 b0 b1 b2 b3 w W P)=true:=LA hs hl fun i _=>aC5 hp hs hl hP i
theorem MT:(st2 b0 b1 b2 b3 w sp W H P).length=W*H:=by unfold st2;rw [List.length_map,List.length_range,MS hp hs hl hP]
theorem aC6 (i:Nat):0≤sO W H sp (st1 b0 b1 b2 b3 w W P) i∧sO W H sp (st1 b0 b1 b2 b3 w W P) i≤65535:=by
 have:=aEA (W:=W) (H:=H) (l:=sp) (Y5 hp hs hl hP) (i%W) (i/W);unfold Pw at this;unfold sO;rw [Nat.mul_comm,Nat.div_add_mod,Int.natCast_emod,Int.natCast_ediv] at this;exact this
theorem Y7:upTo (st2 b0 b1 b2 b3 w sp W H P) 65535:=T0 fun i _=>aC6 hp hs hl hP i
theorem Y8:bW W H (st2 b0 b1 b2 b3 w sp W H P)=true:=LA hs (MS hp hs hl hP) fun i _=>aC6 hp hs hl hP i
theorem Ve:(Y2 ph b0 b1 b2 b3 w sp g0 g1 g2 W H P).length=W*H:=by unfold Y2;rw [List.length_map,List.length_range,MT hp hs hl hP]
theorem aC7 (i:Nat):0≤RY W (st2 b0 b1 b2 b3 w sp W H P) ph g0 g1 g2 i∧RY W (st2 b0 b1 b2 b3 w sp W H P) ph g0 g1 g2 i≤65535:=aEw (Y7 hp hs hl hP i) (TP hp.gains _)
theorem Y9:upTo (Y2 ph b0 b1 b2 b3 w sp g0 g1 g2 W H P) 65535:=T0 fun i _=>aC7 hp hs hl hP i
theorem Za:bW W H (Y2 ph b0 b1 b2 b3 w sp g0 g1 g2 W H P)=true:=LA hs (MT hp hs hl hP) fun i _=>aC7 hp hs hl hP i
theorem Qz:uB W H (Y3 ph b0 b1 b2 b3 w sp g0 g1 g2 W H P)=true:=Yt hs (Y9 hp hs hl hP) ph
theorem QA:uB W H (Y4 ph b0 b1 b2 b3 w sp g0 g1 g2 m0 m1 m2 m3 m4 m5 m6 m7 m8 W H P)=true:=Vd (Qz hp hs hl hP) fun p _=>aBX m0 m1 m2 m3 m4 m5 m6 m7 m8 p
theorem Vf (hc:pJ cv):uB W H (st6 ph b0 b1 b2 b3 w sp g0 g1 g2 m0 m1 m2 m3 m4 m5 m6 m7 m8 cv W H P)=true:=Vd (QA hp hs hl hP) fun p hp'=>Y1 hc p hp'
theorem Zb (hc:pJ cv) (hsp:sp.all (gC W H)=true) (hf:bW W H P=true) (hb:kE 1125899906842624 cv=some true) (hB:yH ph b0 b1 b2 b3 w sp g0 g1 g2 m0 m1 m2 m3 m4 m5 m6 m7 m8 am=true) :
  zT 1125899906842624 ph b0 b1 b2 b3 w sp g0 g1 g2 m0 m1 m2 m3 m4 m5 m6 m7 m8 cv am W H P=some ((W:Int),(H:Int),OU ph b0 b1 b2 b3 w sp g0 g1 g2 m0 m1 m2 m3 m4 m5 m6 m7 m8 cv am W H P,0):=by
 have hm:=Nat.mul_le_mul hs.2.1 hs.2.2.2;have l1:=MS hp hs hl hP;have l2:=MT hp hs hl hP;have e1:vY 1125899906842624 W H P b0 b1 b2 b3 w=some ((W:Int),(H:Int),st1 b0 b1 b2 b3 w W P,0):=Yv hp.black hp.white.2 hf
 have e2:gJ 1125899906842624 W H (st1 b0 b1 b2 b3 w W P) sp=some ((W:Int),(H:Int),st2 b0 b1 b2 b3 w sp W H P,0):=by
  unfold gJ;rw [if_neg (by omega),Y6 hp hs hl hP,if_neg (by simp),if_neg (by have:=hp.LB;omega),hsp,if_neg (by simp)]
  rfl
 have e3:xJ 1125899906842624 W H (st2 b0 b1 b2 b3 w sp W H P) ph g0 g1 g2=some ((W:Int),(H:Int),Y2 ph b0 b1 b2 b3 w sp g0 g1 g2 W H P,0):=aBH hp.gains hp.phase (Y8 hp hs hl hP)
 have e4:u6 1125899906842624 W H (Y2 ph b0 b1 b2 b3 w sp g0 g1 g2 W H P) ph=some ((W:Int),(H:Int),Y3 ph b0 b1 b2 b3 w sp g0 g1 g2 W H P,0):=by
  rw [fill_eq W H _ ph (by rw [Ve hp hs hl hP];omega),Za hp hs hl hP,if_neg (by simp),if_pos hp.phase,Int.toNat_natCast,Int.toNat_natCast];rfl
 have e5:CI 1125899906842624 W H (Y3 ph b0 b1 b2 b3 w sp g0 g1 g2 W H P) m0 m1 m2 m3 m4 m5 m6 m7 m8=some ((W:Int),(H:Int),Y4 ph b0 b1 b2 b3 w sp g0 g1 g2 m0 m1 m2 m3 m4 m5 m6 m7 m8 W H P,0):=by
  rw [aEC 1125899906842624 m0 m1 m2 m3 m4 m5 m6 m7 m8 (by omega),Qz hp hs hl hP,if_neg (by simp),hp.matrix,if_neg (by simp)];rfl
 have e6:Bt 1125899906842624 W H (Y4 ph b0 b1 b2 b3 w sp g0 g1 g2 m0 m1 m2 m3 m4 m5 m6 m7 m8 W H P) cv=some ((W:Int),(H:Int),st6 ph b0 b1 b2 b3 w sp g0 g1 g2 m0 m1 m2 m3 m4 m5 m6 m7 m8 cv W H P,0):=by
  rw [aBQ hb (iff_of_true rfl hc),if_neg (by simp),QA hp hs hl hP,if_neg (by simp)];rfl
 have e7:wA 1125899906842624 W H (st6 ph b0 b1 b2 b3 w sp g0 g1 g2 m0 m1 m2 m3 m4 m5 m6 m7 m8 cv W H P) am=some ((W:Int),(H:Int),OU ph b0 b1 b2 b3 w sp g0 g1 g2 m0 m1 m2 m3 m4 m5 m6 m7 m8 cv am W H P,0):=by
  rw [TX,Vf hp hs hl hP hc,if_neg (by simp),if_pos hp.amount,Int.toNat_natCast,Int.toNat_natCast];rfl
 unfold zT yD wP zP zQ AN zS vN;rw [Kk ph b0 b1 b2 b3 w sp g0 g1 g2 m0 m1 m2 m3 m4 m5 m6 m7 m8 cv am hb (iff_of_true rfl hc),hB,if_neg (by simp),if_neg (by simp),aC,cF (by rfl),e1];dsimp only [Option.bind];rw [cF (by rfl),e2]
 dsimp only
 rw [cF (by rfl),e3]
 dsimp only
 rw [cF (by rfl),e4]
 dsimp only
 rw [cF (by rfl),e5]
 dsimp only
 rw [cF (by rfl),e6]
 dsimp only
 rw [cF (by rfl),e7]
 rfl
theorem T2 (hc:pJ cv):lH 1125899906842624 ph b0 b1 b2 b3 w sp g0 g1 g2 m0 m1 m2 m3 m4 m5 m6 m7 m8 cv am W H P=some ((W:Int),(H:Int),OU ph b0 b1 b2 b3 w sp g0 g1 g2 m0 m1 m2 m3 m4 m5 m6 m7 m8 cv am W H P):=by
 have l1:=MS hp hs hl hP;have l2:=MT hp hs hl hP;have e1:mU 1125899906842624 W H P b0 b1 b2 b3 w=some ((W:Int),(H:Int),st1 b0 b1 b2 b3 w W P):=RW hp.black hp.white.2 hs hl hP;have e2:mV 1125899906842624 W H (st1 b0 b1 b2 b3 w W P) sp=some ((W:Int),(H:Int),st2 b0 b1 b2 b3 w sp W H P):=R2 hs l1 (Y5 hp hs hl hP) (by have:=hp.LB;omega);have e3:oO 1125899906842624 W H (st2 b0 b1 b2 b3 w sp W H P) ph g0 g1 g2=some ((W:Int),(H:Int),Y2 ph b0 b1 b2 b3 w sp g0 g1 g2 W H P):=Wz hp.gains hp.phase hs l2 (Y7 hp hs hl hP);have e4:oR 1125899906842624 W H (Y2 ph b0 b1 b2 b3 w sp g0 g1 g2 W H P) ph=some ((W:Int),(H:Int),Y3 ph b0 b1 b2 b3 w sp g0 g1 g2 W H P):=Ww hs (Ve hp hs hl hP) (Y9 hp hs hl hP) hp.phase;have e5:=YH m0 m1 m2 m3 m4 m5 m6 m7 m8 (Qz hp hs hl hP) hp.matrix;have e6:=aBS hc (QA hp hs hl hP);have e7:=YX (Vf hp hs hl hP hc) hp.amount;unfold lH;rw [e1];dsimp only [Option.bind];rw [e2]
 dsimp only
 rw [e3]
 dsimp only
 rw [e4]
 dsimp only
 rw [e5]
 dsimp only
 erw [e6]
 dsimp only
 erw [e7]
 rfl
end
end
section
variable (ph b0 b1 b2 b3 w:Int) (sp:List (Int × Int)) (g0 g1 g2 m0 m1 m2 m3 m4 m5 m6 m7 m8:Int) (cv:List (Int × Int)) (am:Int)
def NL (b:Bool) (W H:Int) (P:List Int):Int:=if yH ph b0 b1 b2 b3 w sp g0 g1 g2 m0 m1 m2 m3 m4 m5 m6 m7 m8 am=false then 3 else if b=false then 1 else if bW W H P=false then 1 else if sp.all (gC W H)=false then 3 else 0
theorem T3 {b:Bool} (hc:b=true↔pJ cv) {W H:Int} {P:List Int} (h:NL ph b0 b1 b2 b3 w sp g0 g1 g2 m0 m1 m2 m3 m4 m5 m6 m7 m8 am b W H P=0):lH 1125899906842624 ph b0 b1 b2 b3 w sp g0 g1 g2 m0 m1 m2 m3 m4 m5 m6 m7 m8 cv am W H P=some (W,H,OU ph b0 b1 b2 b3 w sp g0 g1 g2 m0 m1 m2 m3 m4 m5 m6 m7 m8 cv am W.toNat H.toNat P):=by
 unfold NL at h;cases hB:yH ph b0 b1 b2 b3 w sp g0 g1 g2 m0 m1 m2 m3 m4 m5 m6 m7 m8 am
 ·rw [hB] at h;simp at h
 cases b
 ·rw [hB] at h;simp at h
 cases hf:bW W H P
 ·rw [hB,hf] at h;simp at h
 obtain ⟨w',h',rfl,rfl,w1,w2,w3,w4,hlen,hm,hall⟩:=zX hf;rw [Int.toNat_natCast,Int.toNat_natCast];exact T2 (Ih ph b0 b1 b2 b3 w sp g0 g1 g2 m0 m1 m2 m3 m4 m5 m6 m7 m8 am hB) ⟨w1,w2,w3,w4⟩ hlen (Ig hlen hall) (hc.1 rfl)
theorem Vg (W H:Nat) (P:List Int):(OU ph b0 b1 b2 b3 w sp g0 g1 g2 m0 m1 m2 m3 m4 m5 m6 m7 m8 cv am W H P).length=W*H:=B1 _ _ _
end
theorem QB {α:Type} {n i:Nat} (f:Nat→α) (z:α) (h:i<n):((List.range n).map f).getD i z=f i:=by
 rw [List.getD_eq_getElem?_getD,List.getElem?_map,List.getElem?_range h];rfl
def RR (H H' t:Nat) (v:Int):Prop:=(0≤v∧v<H')↔(0≤v+t∧v+t<H)
def I0 {α:Type} (z:α) (W H' t:Nat) (lo hi:Int) (P P':List α):Prop:=∀x y:Nat,x<W→y<H'→lo≤y→(y:Int)<hi→P'.getD (y*W+x) z=P.getD ((y+t)*W+x) z
section
variable {W H H' t:Nat} {lo hi:Int} (hR:∀v:Int,lo≤v→v<hi→RR H H' t v)
include hR
theorem aGz {y:Nat} (hy:y<H') (h1:lo≤y) (h2:(y:Int)<hi):y+t<H:=by
 have:=(hR y h1 h2).1 ⟨by omega,by omega⟩
 omega
theorem aC8 {x y:Nat} (hx:x<W) (hy:y<H') (h1:lo≤y) (h2:(y:Int)<hi):y*W+x<W*H'∧(y+t)*W+x<W*H:=⟨s7 hx hy,s7 hx (aGz hR hy h1 h2)⟩
theorem Ii {α β:Type} {z:α} {f f':List β→Nat→α} {P P':List β} (hl:P.length=W*H) (hl':P'.length=W*H')
  (h:∀x y:Nat,x<W→y<H'→lo≤y→(y:Int)<hi→f' P' (y*W+x)=f P ((y+t)*W+x)):I0 z W H' t lo hi ((List.range P.length).map (f P)) ((List.range P'.length).map (f' P')):=fun x y hx hy h1 h2=>by
 obtain ⟨a,b⟩:=aC8 hR hx hy h1 h2;rw [QB _ _ (by omega),QB _ _ (by omega),h x y hx hy h1 h2]
theorem R4 {f f':Nat→Nat→Px} (h:∀x y:Nat,x<W→y<H'→lo≤y→(y:Int)<hi→f' x y=f x (y+t)):I0 Ff W H' t lo hi (Lu W H f) (Lu W H' f'):=fun x y hx hy h1 h2=>by
 obtain ⟨a,b⟩:=aC8 hR hx hy h1 h2;unfold Lu;rw [QB _ _ a,QB _ _ b,(dm y hx).1,(dm y hx).2,(dm (y+t) hx).1,(dm (y+t) hx).2,h x y hx hy h1 h2]
end
theorem Zc (y t:Int) {k:Nat} (hk:k<4):FO (y+t) k=FO y k+t∧y-2≤FO y k∧FO y k≤y+2:=by
 have:k=0∨k=1∨k=2∨k=3:=by omega
 rcases this with rfl | rfl | rfl | rfl
 ·show y+t=y+t∧y-2≤y∧y≤y+2;omega
 ·show y+t=y+t∧y-2≤y∧y≤y+2;omega
 ·show y+t-2=y-2+t∧y-2≤y-2∧y-2≤y+2;omega
 ·show y+t+2=y+2+t∧y-2≤y+2∧y+2≤y+2;omega
section
variable {W H H' t:Nat} {lo hi:Int} (hR:∀v:Int,lo≤v→v<hi→RR H H' t v) {l l':List (Int × Int)} (hs:∀u v:Int,0≤v→v<H'→cntF l' u v=cntF l u (v+t))
include hR hs
theorem Zd {x y:Int} (h1:lo+2≤y) (h2:y+2<hi) (k:Nat) (hk:k<4):HU W H' (cntF l') x y k↔HU W H (cntF l) x (y+t) k:=by
 have hn:=Zc y t hk;have hv:FO (y+t) k=FO y k+t∧lo≤FO y k∧FO y k<hi:=⟨hn.1,by omega,by omega⟩
 have r:=hR _ hv.2.1 hv.2.2;unfold RR at r;unfold HU;rw [hv.1]
 constructor
 ·rintro ⟨a,b,c,d,e⟩;have:=r.1 ⟨c,d⟩;exact ⟨a,b,this.1,this.2,by rw [←hs _ _ c d];exact e⟩
 ·rintro ⟨a,b,c,d,e⟩;have:=r.2 ⟨c,d⟩;exact ⟨a,b,this.1,this.2,by rw [hs _ _ this.1 this.2];exact e⟩
theorem aEI {P P':List Int} (he:I0 0 W H' t lo hi P P') {x y:Nat} (hx:x<W) (hy:y<H') (h1:lo+2≤y) (h2:(y:Int)+2<hi):Pw W H' P' l' x y=Pw W H P l x (y+t):=by
 have hok:=fun k hk=>Zd (W:=W) hR hs (x:=x) h1 h2 k hk
 have hval:∀k,k<4→HU W H' (cntF l') x y k→Fm W P' x y k=Fm W P x (y+t) k:=fun k hk hn=>by
  have hn':=(hok k hk).1 hn;unfold HU at hn hn';have hq:=Zc y t hk;have hv:FO ((y:Int)+t) k=FO y k+t∧lo≤FO y k∧FO y k<hi:=⟨hq.1,by omega,by omega⟩
  unfold Fm;rw [hv.1];obtain ⟨u,hu⟩:∃n:Nat,Lk (x:Int) k=n:=⟨(Lk (x:Int) k).toNat,by omega⟩
  obtain ⟨v,hv'⟩:∃n:Nat,FO (y:Int) k=n:=⟨(FO (y:Int) k).toNat,by omega⟩
  rw [hu,hv'];have:=he u v (by omega) (by omega) (by omega) (by omega);have e1:((v:Int)*W+u).toNat=v*W+u:=by rw [←Int.natCast_mul,←Int.natCast_add,Int.toNat_natCast]
  have e2:(((v:Int)+t)*W+u).toNat=(v+t)*W+u:=by rw [←Int.natCast_add,←Int.natCast_mul,←Int.natCast_add,Int.toNat_natCast]
  rw [e1,e2,this]
 have hc0:cntF l' x y=cntF l x ((y+t:Nat):Int):=by rw [Int.natCast_add];exact hs _ _ (by omega) (by omega)
 have hp0:=he x y hx hy (by omega) (by omega)
 have hS:∀k,k≤4→Aa W H' (cntF l') P' x y k=Aa W H (cntF l) P x (y+t) k∧uE W H' (cntF l') x y k=uE W H (cntF l) x (y+t) k:=by
  intro k
  induction k with
  | zero=>intro _;exact ⟨rfl,rfl⟩
  | succ k ih=>
   intro hk;obtain ⟨i1,i2⟩:=ih (by omega);simp only [Aa,uE];rw [i1,i2]
   by_cases h:HU W H' (cntF l') x y k
   ·rw [if_pos h,if_pos ((hok k (by omega)).1 h),if_pos h,if_pos ((hok k (by omega)).1 h),hval k (by omega) h];exact ⟨rfl,rfl⟩
   ·have h':=fun q=>h ((hok k (by omega)).2 q)
    rw [if_neg h,if_neg h',if_neg h,if_neg h'];exact ⟨rfl,rfl⟩
 obtain ⟨s1,s2⟩:=hS 4 (by omega);unfold Pw zN;rw [hp0,hc0,Int.natCast_add,s1,s2]
end
theorem aC9 {W H:Nat} {l:List (Int × Int)} {P:List Int} {x y:Nat} (hx:x<W):sO W H l P (y*W+x)=Pw W H P l x y:=by
 unfold sO Pw;rw [←Int.natCast_emod,←Int.natCast_ediv,(dm y hx).1,(dm y hx).2]
def shv (t:Nat) (q:Int × Int):Int × Int:=(q.1,q.2+t)
theorem Ze (t:Nat) (W x v:Int):∀(k:Nat) (u:Int),MA W x (v+t) k u=(MA W x v k u).map (shv t)
 | 0,_=>rfl
 | k+1,u=>by
  unfold MA
  split
  ·rw [List.map_cons,Ze t W x v k (u+1)];rfl
  ·rfl
theorem Vh {W x v:Int} {q:Int × Int}:∀(k:Nat) (u:Int),q∈MA W x v k u→u≤q.1∧q.1<W∧q.2=v
 | 0,_,h=>by cases h
 | k+1,u,h=>by
  unfold MA at h
  split at h
  ·rcases List.mem_cons.1 h with rfl | h
   ·dsimp only;omega
   ·have:=Vh k (u+1) h;omega
  ·cases h
theorem Zf {t H H':Nat} (W x:Int) {y:Int} (h:∀v:Int,y-1≤v→v≤y+1→0≤v→((v<H')↔(v+t<H))):∀(k:Nat) (v:Int),0≤v→y-1≤v→NB W H x (y+t) k (v+t)=(NB W H' x y k v).map (shv t)
 | 0,_,_,_=>rfl
 | k+1,v,h0,h1=>by
  unfold NB
  by_cases hc:v≤min ((H':Int)-1) (y+1)
  ·have:=h v h1 (by omega) h0;rw [if_pos hc,if_pos (by omega),List.map_append,Ze,show v+(t:Int)+1=(v+1)+t by omega,Zf W x h k (v+1) (by omega) (by omega)]
  ·rw [if_neg hc,if_neg]
   ·rfl
   ·intro hc';have:=h v h1 (by omega) h0
    omega
theorem Vi {W H x y:Int} {q:Int × Int}:∀(k:Nat) (v:Int),q∈NB W H x y k v→max 0 (x-1)≤q.1∧q.1<W∧v≤q.2∧q.2<H∧q.2≤y+1
 | 0,_,h=>by cases h
 | k+1,v,h=>by
  unfold NB at h
  split at h
  ·rcases List.mem_append.1 h with h | h
   ·have:=Vh 4 _ h;omega
   ·have:=Vi k (v+1) h;omega
  ·cases h
section
variable {W H H' t:Nat} {lo hi:Int} (hR:∀v:Int,lo≤v→v<hi→RR H H' t v) {ph OM:Int} (hc:∀u v:Int,tG OM u v=tG ph u (v+t))
include hR hc
theorem aEJ {P P':List Int} (he:I0 0 W H' t lo hi P P') {x y:Nat} (hx:x<W) (hy:y<H') (h1:lo+1≤y) (h2:(y:Int)+1<hi):pF W H' P' OM x y=pF W H P ph x (y+t):=by
 have r0:=hR (y-1) (by omega) (by omega);have r1:=hR y (by omega) (by omega);have r2:=hR (y+1) (by omega) (by omega);unfold RR at r0 r1 r2
 have hL:rQ W H x ((y:Int)+t)=(rQ W H' x y).map (shv t):=by
  unfold rQ;rw [show max 0 ((y:Int)+t-1)=max 0 ((y:Int)-1)+t by omega];refine Zf W x (fun v a b c=>?_) 4 _ (by omega) (by omega);have:v=y-1∨v=y∨v=y+1:=by omega
  rcases this with rfl | rfl | rfl <;> omega
 have hm:∀q∈rQ W H' x y,0≤q.1∧q.1<W∧0≤q.2∧q.2<H'∧lo≤q.2∧q.2<hi:=fun q hq=>by
  have:=Vi 4 _ hq
  omega
 have hA:∀q:Int × Int,0≤q.1∧q.1<W∧0≤q.2∧q.2<H'∧lo≤q.2∧q.2<hi→To W P (shv t q)=To W P' q:=fun q hq=>by
  obtain ⟨u,v⟩:=q;dsimp only at hq;obtain ⟨u,rfl⟩:=Int.eq_ofNat_of_zero_le hq.1;obtain ⟨v,rfl⟩:=Int.eq_ofNat_of_zero_le hq.2.2.1;have:=he u v (by omega) (by omega) (by omega) (by omega);unfold To shv
  dsimp only
  have e1:((v:Int)*W+u).toNat=v*W+u:=by rw [←Int.natCast_mul,←Int.natCast_add,Int.toNat_natCast]
  have e2:(((v:Int)+t)*W+u).toNat=(v+t)*W+u:=by rw [←Int.natCast_add,←Int.natCast_mul,←Int.natCast_add,Int.toNat_natCast]
  rw [e1,e2,this]
 have hO:∀c,U4 ph c ((rQ W H' x y).map (shv t))=(U4 OM c (rQ W H' x y)).map (shv t):=fun c=>by
  unfold U4;rw [List.filter_map]
  congr 1
  refine List.filter_congr fun q _=>?_
  show decide (tG ph q.1 (q.2+t)=c)=decide (tG OM q.1 q.2=c);rw [hc]
 have hcnt:∀c,cnt ph c (rQ W H x ((y:Int)+t))=cnt OM c (rQ W H' x y):=fun c=>by
  unfold cnt;rw [hL,hO,List.length_map]
 have hsm:∀c,sm W P ph c (rQ W H x ((y:Int)+t))=sm W P' OM c (rQ W H' x y):=fun c=>by
  unfold sm;rw [hL,hO,List.map_map]
  congr 1
  refine List.map_congr_left fun q hq=>?_
  exact hA q (hm q (List.mem_filter.1 hq).1)
 have h0:=hA ((x:Int),(y:Int)) (by dsimp only;omega);unfold shv at h0;unfold pF NC;rw [Int.natCast_add,hcnt,hcnt,hcnt,hsm,hsm,hsm,←h0,hc]
end
section
variable {W H H' t:Nat} {lo hi:Int} (hR:∀v:Int,lo≤v→v<hi→RR H H' t v)
include hR
theorem aBY (am:Int) {P P':List Px} (he:I0 Ff W H' t lo hi P P') {x y:Nat} (hx:x<W) (hy:y<H') (h1:lo+1≤y) (h2:(y:Int)+1<hi):WD am W H' P' x y=WD am W H P x (y+t):=by
 have r0:=hR (y-1) (by omega) (by omega);have r1:=hR y (by omega) (by omega);have r2:=hR (y+1) (by omega) (by omega);unfold RR at r0 r1 r2
 have hn:∀dy dx:Int,-1≤dy→dy≤1→nb P' W H' x y dy dx=nb P W H x (y+t) dy dx:=fun dy dx a b=>by
  have hd:dy = -1∨dy=0∨dy=1:=by omega
  have e:cl (y+t) dy H=cl y dy H'+t∧cl y dy H'<H'∧lo≤cl y dy H'∧(cl y dy H':Int)<hi:=by
   unfold cl
   rcases hd with rfl | rfl | rfl <;> omega
  have e2:cl x dx W<W:=by unfold cl;omega
  unfold nb;rw [e.1];exact he _ _ e2 e.2.1 e.2.2.1 e.2.2.2
 have h0:Lv P' W x y=Lv P W x (y+t):=he x y hx hy (by omega) (by omega);unfold WD Ki HZ;rw [h0,hn (-1) (-1) (by omega) (by omega),hn (-1) 0 (by omega) (by omega),hn (-1) 1 (by omega) (by omega),hn 0 (-1) (by omega) (by omega),hn 0 0 (by omega) (by omega),hn 0 1 (by omega) (by omega),hn 1 (-1) (by omega) (by omega),hn 1 0 (by omega) (by omega),hn 1 1 (by omega) (by omega)]
end
section
variable {W H H' t:Nat} {ph b0 b1 b2 b3 w:Int} {sp:List (Int × Int)} {g0 g1 g2 m0 m1 m2 m3 m4 m5 m6 m7 m8:Int} {cv:List (Int × Int)} {am:Int} {OM c0 c1 c2 c3:Int} {sp':List (Int × Int)}
theorem aBZ {lo hi:Int} (hR:∀v:Int,lo≤v→v<hi→RR H H' t v)
  (hb:∀x y:Nat,JH c0 c1 c2 c3 x y=JH b0 b1 b2 b3 x (y+t)) (hc:∀u v:Int,tG OM u v=tG ph u (v+t)) (hs:∀u v:Int,0≤v→v<H'→cntF sp' u v=cntF sp u (v+t))
  {P P':List Int} (hl:P.length=W*H) (hl':P'.length=W*H') (he:I0 0 W H' t lo hi P P') :
  I0 Ff W H' t (lo+4) (hi-4) (OU ph b0 b1 b2 b3 w sp g0 g1 g2 m0 m1 m2 m3 m4 m5 m6 m7 m8 cv am W H P) (OU OM c0 c1 c2 c3 w sp' g0 g1 g2 m0 m1 m2 m3 m4 m5 m6 m7 m8 cv am W H' P'):=by
 have sub:∀d:Int,0≤d→∀v:Int,lo+d≤v→v<hi-d→RR H H' t v:=fun d _ v a b=>hR v (by omega) (by omega)
 have e1:I0 0 W H' t lo hi (st1 b0 b1 b2 b3 w W P) (st1 c0 c1 c2 c3 w W P'):=by
  refine Ii hR (f:=fun P i=>JI W P b0 b1 b2 b3 w i) (f':=fun P i=>JI W P c0 c1 c2 c3 w i) hl hl' fun x y hx hy h1 h2=>?_
  simp only [JI];rw [(dm y hx).1,(dm y hx).2,(dm (y+t) hx).1,(dm (y+t) hx).2,hb,he x y hx hy h1 h2]
 have l1:(st1 b0 b1 b2 b3 w W P).length=W*H:=by unfold st1;rw [List.length_map,List.length_range,hl]
 have l1':(st1 c0 c1 c2 c3 w W P').length=W*H':=by unfold st1;rw [List.length_map,List.length_range,hl']
 have e2:I0 0 W H' t (lo+2) (hi-2) (st2 b0 b1 b2 b3 w sp W H P) (st2 c0 c1 c2 c3 w sp' W H' P'):=by
  refine Ii (sub 2 (by omega)) (f:=fun P i=>sO W H sp P i) (f':=fun P i=>sO W H' sp' P i) l1 l1' fun x y hx hy h1 h2=>?_
  show sO W H' sp' _ _=sO W H sp _ _;rw [aC9 hx,aC9 hx];exact aEI hR hs e1 hx hy h1 (by omega)
 have l2:(st2 b0 b1 b2 b3 w sp W H P).length=W*H:=by unfold st2;rw [List.length_map,List.length_range,l1]
 have l2':(st2 c0 c1 c2 c3 w sp' W H' P').length=W*H':=by unfold st2;rw [List.length_map,List.length_range,l1']
 have e3:I0 0 W H' t (lo+2) (hi-2) (Y2 ph b0 b1 b2 b3 w sp g0 g1 g2 W H P) (Y2 OM c0 c1 c2 c3 w sp' g0 g1 g2 W H' P'):=by
  refine Ii (sub 2 (by omega)) (f:=fun P i=>RY W P ph g0 g1 g2 i) (f':=fun P i=>RY W P OM g0 g1 g2 i) l2 l2' fun x y hx hy h1 h2=>?_
  simp only [RY];rw [(dm y hx).1,(dm y hx).2,(dm (y+t) hx).1,(dm (y+t) hx).2,hc,Int.natCast_add,e2 x y hx hy h1 h2]
 have e4:I0 Ff W H' t (lo+3) (hi-3) (Y3 ph b0 b1 b2 b3 w sp g0 g1 g2 W H P) (Y3 OM c0 c1 c2 c3 w sp' g0 g1 g2 W H' P'):=by
  unfold Y3;exact R4 (sub 3 (by omega)) fun x y hx hy h1 h2=>aEJ (sub 2 (by omega)) hc e3 hx hy (by omega) (by omega)
 have l4:(Y3 ph b0 b1 b2 b3 w sp g0 g1 g2 W H P).length=W*H:=B1 _ _ _;have l4':(Y3 OM c0 c1 c2 c3 w sp' g0 g1 g2 W H' P').length=W*H':=B1 _ _ _
 have e5:I0 Ff W H' t (lo+3) (hi-3) (Y4 ph b0 b1 b2 b3 w sp g0 g1 g2 m0 m1 m2 m3 m4 m5 m6 m7 m8 W H P) (Y4 OM c0 c1 c2 c3 w sp' g0 g1 g2 m0 m1 m2 m3 m4 m5 m6 m7 m8 W H' P'):=by
  refine Ii (sub 3 (by omega)) (f:=fun P i=>Ly m0 m1 m2 m3 m4 m5 m6 m7 m8 (P.getD i Ff)) (f':=fun P i=>Ly m0 m1 m2 m3 m4 m5 m6 m7 m8 (P.getD i Ff)) l4 l4' fun x y hx hy h1 h2=>?_
  rw [e4 x y hx hy h1 h2]
 have l5:(Y4 ph b0 b1 b2 b3 w sp g0 g1 g2 m0 m1 m2 m3 m4 m5 m6 m7 m8 W H P).length=W*H:=by unfold Y4;rw [List.length_map,List.length_range,l4]
 have l5':(Y4 OM c0 c1 c2 c3 w sp' g0 g1 g2 m0 m1 m2 m3 m4 m5 m6 m7 m8 W H' P').length=W*H':=by unfold Y4;rw [List.length_map,List.length_range,l4']
 have e6:I0 Ff W H' t (lo+3) (hi-3) (st6 ph b0 b1 b2 b3 w sp g0 g1 g2 m0 m1 m2 m3 m4 m5 m6 m7 m8 cv W H P) (st6 OM c0 c1 c2 c3 w sp' g0 g1 g2 m0 m1 m2 m3 m4 m5 m6 m7 m8 cv W H' P'):=by
  refine Ii (sub 3 (by omega)) (f:=fun P i=>Gr cv (P.getD i Ff)) (f':=fun P i=>Gr cv (P.getD i Ff)) l5 l5' fun x y hx hy h1 h2=>?_
  rw [e5 x y hx hy h1 h2]
 unfold OU;exact R4 (sub 4 (by omega)) fun x y hx hy h1 h2=>aBY (sub 3 (by omega)) am e6 hx hy (by omega) (by omega)
end
def R5 (t r:Int) (l:List (Int × Int)):List (Int × Int):=(l.filter fun s=>decide (t≤s.2∧s.2<t+r)).map fun s=>(s.1,s.2-t)
def WF (t ph:Int):Int:=if t%2=1 then P4 .i64 ph 2 else ph
def I9 (t a b:Int):Int:=if t%2=1 then b else a
theorem Vj (t r:Int):R5 t r []=[]:=rfl
theorem NM (t r:Int) (s:Int × Int) (l:List (Int × Int)):R5 t r (s::l)=if t≤s.2∧s.2<t+r then (s.1,s.2-t)::R5 t r l else R5 t r l:=by
 unfold R5;rw [List.filter_cons]
 by_cases h:t≤s.2∧s.2<t+r
 ·rw [if_pos (by simp [h]),if_pos h];rfl
 ·rw [if_neg (by simp only [decide_eq_true_eq];exact h),if_neg h]
theorem R6 (s:Int × Int) (l:List (Int × Int)) (u v:Int):cntF (s::l) u v=cntF l u v+if s=(u,v) then 1 else 0:=by
 unfold cntF;rw [List.count_cons]
 by_cases h:s=(u,v)
 ·rw [if_pos h,if_pos (by simp [h])];omega
 ·rw [if_neg h,if_neg (by simpa using h)];omega
theorem Vk (t r u:Int) {v:Int} (h0:0≤v) (h1:v<r):∀l:List (Int × Int),cntF (R5 t r l) u v=cntF l u (v+t)
 | []=>rfl
 | s::l=>by
  have ih:=Vk t r u h0 h1 l;rw [NM,R6];obtain ⟨a,b⟩:=s
  by_cases h:t≤b∧b<t+r
  ·rw [if_pos h,R6,ih]
   congr 1
   by_cases e:a=u∧b=v+t
   ·rw [if_pos (by rw [Prod.mk.injEq];omega),if_pos (by rw [Prod.mk.injEq];omega)]
   ·rw [if_neg (by rw [Prod.mk.injEq];omega),if_neg (by rw [Prod.mk.injEq];omega)]
  ·rw [if_neg h,ih,if_neg (by rw [Prod.mk.injEq];omega)];omega
theorem aB0 (t r:Int) (l:List (Int × Int)):(R5 t r l).length≤l.length:=by
 unfold R5;rw [List.length_map];exact List.length_filter_le _ _
theorem Vl {t r W H W':Int} {l:List (Int × Int)} (h:l.all (gC W H)=true) (hW:W≤W'):(R5 t r l).all (gC W' r)=true:=by
 refine List.all_eq_true.2 fun q hq=>?_
 obtain ⟨s,hs,rfl⟩:=List.mem_map.1 hq;obtain ⟨hs,hr⟩:=List.mem_filter.1 hs;have:=List.all_eq_true.1 h s hs;simp only [gC,Bool.and_eq_true,decide_eq_true_eq] at this hr ⊢
 omega
theorem aB1 {W H W' H':Int} {l:List (Int × Int)} (h:l.all (gC W H)=true) (hW:W≤W') (hH:H≤H'):l.all (gC W' H')=true:=by
 refine List.all_eq_true.2 fun q hq=>?_
 have:=List.all_eq_true.1 h q hq;simp only [gC,Bool.and_eq_true,decide_eq_true_eq] at this ⊢
 omega
theorem aB2:∀p:Fin 4,P4 .i64 ((p.val:Nat):Int) 2=((p.val:Nat):Int)+(if p.val<2 then 2 else -2):=by decide +kernel
theorem Vm {ph:Int} (h:0≤ph∧ph≤3):P4 .i64 ph 2=if ph<2 then ph+2 else ph-2:=by
 have:=aB2 ⟨ph.toNat,by omega⟩;have e:((ph.toNat:Nat):Int)=ph:=by omega
 simp only [e] at this;rw [this]
 split <;> split <;> omega
theorem aEK {t ph:Int} (h:0≤ph∧ph≤3):0≤WF t ph∧WF t ph≤3:=by
 unfold WF
 split
 ·rw [Vm h];split <;> omega
 ·exact h
theorem aB3 {t ph:Int} (h:0≤ph∧ph≤3) (u v:Int):tG (WF t ph) u v=tG ph u (v+t):=by
 unfold WF tG
 split
 ·rw [Vm h]
  split
  ·have:ph=0∨ph=1:=by omega
   rcases this with rfl | rfl <;> omega
  ·have:ph=2∨ph=3:=by omega
   rcases this with rfl | rfl <;> omega
 ·omega
theorem aB4 (t:Nat) (b0 b1 b2 b3:Int) (x y:Nat):JH (I9 t b0 b2) (I9 t b1 b3) (I9 t b2 b0) (I9 t b3 b1) x y=JH b0 b1 b2 b3 x (y+t):=by
 unfold I9 JH
 by_cases h:(t:Int)%2=1
 ·rw [if_pos h,if_pos h,if_pos h,if_pos h]
  by_cases hy:y%2=0
  ·have hz:¬(y+t)%2=0:=by omega
   rw [if_pos hy,if_neg hz]
  ·have hz:(y+t)%2=0:=by omega
   rw [if_neg hy,if_pos hz]
 ·rw [if_neg h,if_neg h,if_neg h,if_neg h]
  by_cases hy:y%2=0
  ·have hz:(y+t)%2=0:=by omega
   rw [if_pos hy,if_pos hz]
  ·have hz:¬(y+t)%2=0:=by omega
   rw [if_neg hy,if_neg hz]
section
variable {ph b0 b1 b2 b3 w:Int} {sp:List (Int × Int)} {g0 g1 g2 m0 m1 m2 m3 m4 m5 m6 m7 m8:Int} {am:Int}
theorem Zg (h:JJ ph b0 b1 b2 b3 w sp g0 g1 g2 m0 m1 m2 m3 m4 m5 m6 m7 m8 am):yH ph b0 b1 b2 b3 w sp g0 g1 g2 m0 m1 m2 m3 m4 m5 m6 m7 m8 am=true:=by
 obtain ⟨a,b,⟨c0,c1,c2,c3⟩,d,e,⟨f0,f1,f2⟩,g,i⟩:=h;unfold yH Ek;simp only [List.all_cons,List.all_nil,Bool.and_true,Bool.and_eq_true,decide_eq_true_eq];exact ⟨a,b,⟨⟨c0.1,by omega⟩,⟨c1.1,by omega⟩,⟨c2.1,by omega⟩,⟨c3.1,by omega⟩⟩,d,e,⟨f0,f1,f2⟩,g,i⟩
theorem WG (h:JJ ph b0 b1 b2 b3 w sp g0 g1 g2 m0 m1 m2 m3 m4 m5 m6 m7 m8 am) (t:Int) {r:Int} (hr:r≤64):JJ (WF t ph) (I9 t b0 b2) (I9 t b1 b3) (I9 t b2 b0) (I9 t b3 b1) w (R5 t r sp) g0 g1 g2 m0 m1 m2 m3 m4 m5 m6 m7 m8 am:=by
 obtain ⟨a,b,⟨c0,c1,c2,c3⟩,d,e,f,g,i⟩:=h;refine ⟨aEK a,b,?_,by have:=aB0 t r sp;omega,aB1 (Vl (r:=r) e (Int.le_refl _)) (Int.le_refl _) hr,f,g,i⟩;unfold I9 RT
 split
 ·exact ⟨c2,c3,c0,c1⟩
 ·exact ⟨c0,c1,c2,c3⟩
end
theorem Ij {α:Type} {Q:List α} {W H a b:Nat} (hl:Q.length=W*H) (hb:b≤H):((Q.take (b*W)).drop (a*W)).length=(b-a)*W:=by
 have:=Nat.mul_le_mul_right W hb;rw [List.length_drop,List.length_take,hl,Nat.mul_comm W H,Nat.min_eq_left this,Nat.sub_mul]
theorem NN {α:Type} {Q:List α} {W H a b:Nat} (z:α) (hl:Q.length=W*H) (hb:b≤H) {i:Nat} (hi:i<(b-a)*W):((Q.take (b*W)).drop (a*W))[i]? = some (Q.getD ((a+i/W)*W+i%W) z):=by
 have h1:=Nat.mul_le_mul_right W hb;have e:(a+i/W)*W+i%W=a*W+i:=by rw [Nat.add_mul,Nat.add_assoc,Nat.div_add_mod' i W]
 rw [Nat.sub_mul] at hi;rw [List.getElem?_drop,List.getElem?_take_of_lt (by omega),e,List.getD_eq_getElem?_getD,List.getElem?_eq_getElem (by rw [hl,Nat.mul_comm W H];omega)]
 rfl
theorem aB5 {α:Type} {z:α} {W H H' t a b:Nat} {lo hi:Int} {Q Q':List α} (he:I0 z W H' t lo hi Q Q') (hl:Q.length=W*H) (hl':Q'.length=W*H') (hb:b≤H') (hb':b+t≤H) (h1:lo≤a) (h2:(b:Int)≤hi) :
  (Q'.take (b*W)).drop (a*W)=(Q.take ((b+t)*W)).drop ((a+t)*W):=by
 apply List.ext_getElem?
 intro i
 by_cases hi:i<(b-a)*W
 ·have hW:0<W:=by
   rcases Nat.eq_zero_or_pos W with h0 | h0
   ·subst h0;simp at hi
   ·exact h0
  have hd:i/W<b-a:=Nat.div_lt_of_lt_mul (by rw [Nat.mul_comm];exact hi);rw [NN z hl' hb hi,NN z hl hb' (by rw [show b+t-(a+t)=b-a by omega];exact hi)]
  generalize i/W=q at hd ⊢
  rw [he _ _ (Nat.mod_lt i hW) (by omega) (by omega) (by omega),show a+q+t=a+t+q by omega]
 ·rw [List.getElem?_eq_none (by rw [Ij hl' hb];omega),List.getElem?_eq_none (by rw [Ij hl hb',show b+t-(a+t)=b-a by omega];omega)]
theorem Zh {α:Type} (Q:List α) {W a b:Nat} (h:a≤b):Q.take (a*W)++(Q.take (b*W)).drop (a*W)=Q.take (b*W):=by
 have h1:=Nat.mul_le_mul_right W h;have:=List.take_append_drop (a*W) (Q.take (b*W));rw [List.take_take,Nat.min_eq_left h1] at this;exact this
theorem WH {z:Int} {W H a b:Nat} {P:List Int} (lo hi:Int) (hl:P.length=W*H) (hb:b≤H):I0 z W (b-a) a lo hi P ((P.take (b*W)).drop (a*W)):=fun x y hx hy _ _=>by
 have hp:=s7 hx hy;rw [Nat.mul_comm W] at hp;rw [List.getD_eq_getElem?_getD,NN z hl hb hp,(dm y hx).1,(dm y hx).2,Nat.add_comm a y];rfl
theorem aB6 {sp:List (Int × Int)} {t r:Int} (hsp:sp.all (gC 64 64)=true) (hn:sp.length≤64) (ht:0≤t∧t≤64) (hr:0≤r∧r≤64) (kk):∀(d k fuel:Nat),k+d=sp.length→d<fuel→∀acc:List (Int × Int),acc.length≤k →
  sE 1125899906842624 sp t r kk fuel (acc,(k:Int))=kk (acc++R5 t r (sp.drop k),(sp.length:Int)):=by
 intro d
 induction d with
 | zero=>
  intro k fuel hk hf acc ha;obtain ⟨fuel,rfl⟩:=mK fuel (by omega);obtain rfl:k=sp.length:=by omega
  unfold sE;rw [cF (dF (by omega)),List.drop_length,Vj,List.append_nil]
 | succ d ih=>
  intro k fuel hk hf acc ha;obtain ⟨fuel,rfl⟩:=mK fuel (by omega);have hlt:k<sp.length:=by omega
  have hs:=List.all_eq_true.1 hsp sp[k] (List.getElem_mem hlt);simp only [gC,Bool.and_eq_true,decide_eq_true_eq] at hs;have e:IntKind.i64.wrap ((k:Int)+1)=((k+1:Nat):Int):=dC (by omega);unfold sE;rw [cT (dT (by omega)),dH,List.getElem?_eq_getElem hlt,aC,List.drop_eq_getElem_cons hlt,NM,dC (x:=t+r) (by omega),dC (x:=sp[k].2-t) (by omega),e]
  by_cases h1:t≤sp[k].2
  ·rw [cT (dT h1)]
   by_cases h2:sp[k].2<t+r
   ·rw [cT (dT h2),if_pos ⟨h1,h2⟩,lI (by simp;omega),aC,ih (k+1) fuel (by omega) (by omega) _ (by simp;omega),List.append_assoc];rfl
   ·rw [cF (dF h2),if_neg (fun h=>h2 h.2),ih (k+1) fuel (by omega) (by omega) _ (by omega)]
  ·rw [cF (dF h1),if_neg (fun h=>h1 h.1),ih (k+1) fuel (by omega) (by omega) _ (by omega)]
theorem aB7 {sp:List (Int × Int)} {t r:Int} (hsp:sp.all (gC 64 64)=true) (hn:sp.length≤64) (ht:0≤t∧t≤64) (hr:0≤r∧r≤64) (kk):∀(d k fuel:Nat),k+d=sp.length→d<fuel→∀acc:List (Int × Int),acc.length≤k →
  sF 1125899906842624 sp t r kk fuel (acc,(k:Int))=kk (acc++R5 t r (sp.drop k),(sp.length:Int)):=by
 intro d
 induction d with
 | zero=>
  intro k fuel hk hf acc ha;obtain ⟨fuel,rfl⟩:=mK fuel (by omega);obtain rfl:k=sp.length:=by omega
  unfold sF;rw [cF (dF (by omega)),List.drop_length,Vj,List.append_nil]
 | succ d ih=>
  intro k fuel hk hf acc ha;obtain ⟨fuel,rfl⟩:=mK fuel (by omega);have hlt:k<sp.length:=by omega
  have hs:=List.all_eq_true.1 hsp sp[k] (List.getElem_mem hlt);simp only [gC,Bool.and_eq_true,decide_eq_true_eq] at hs;have e:IntKind.i64.wrap ((k:Int)+1)=((k+1:Nat):Int):=dC (by omega);unfold sF;rw [cT (dT (by omega)),dH,List.getElem?_eq_getElem hlt,aC,List.drop_eq_getElem_cons hlt,NM,dC (x:=t+r) (by omega),dC (x:=sp[k].2-t) (by omega),e]
  by_cases h1:t≤sp[k].2
  ·rw [cT (dT h1)]
   by_cases h2:sp[k].2<t+r
   ·rw [cT (dT h2),if_pos ⟨h1,h2⟩,lI (by simp;omega),aC,ih (k+1) fuel (by omega) (by omega) _ (by simp;omega),List.append_assoc];rfl
   ·rw [cF (dF h2),if_neg (fun h=>h2 h.2),ih (k+1) fuel (by omega) (by omega) _ (by omega)]
  ·rw [cF (dF h1),if_neg (fun h=>h1 h.1),ih (k+1) fuel (by omega) (by omega) _ (by omega)]
theorem Zi (ph b0 b1 b2 b3 w:Int) (sp:List (Int × Int)) (g0 g1 g2 m0 m1 m2 m3 m4 m5 m6 m7 m8:Int) (cv:List (Int × Int)) (am:Int) {t r:Int} (hsp:sp.all (gC 64 64)=true) (hn:sp.length≤64) (ht:0≤t∧t≤64) (hr:0≤r∧r≤64):Dh 1125899906842624 ph b0 b1 b2 b3 w sp g0 g1 g2 m0 m1 m2 m3 m4 m5 m6 m7 m8 cv am t r=some (WF t ph,I9 t b0 b2,I9 t b1 b3,I9 t b2 b0,I9 t b3 b1,w,R5 t r sp,g0,g1,g2,m0,m1,m2,m3,m4,m5,m6,m7,m8,cv,am):=by
 have tm:Int.tmod t 2=t%2:=Int.tmod_eq_emod_of_nonneg ht.1;unfold Dh;rw [tm]
 by_cases h:t%2=1
 ·have:=aB6 hsp hn ht hr (fun x:List (Int × Int) × Int=>some (P4 .i64 ph 2,b2,b3,b0,b1,w,x.1,g0,g1,g2,m0,m1,m2,m3,m4,m5,m6,m7,m8,cv,am)) sp.length 0 1125899906842624 (by omega) (by omega) [] (by simp);rw [cT (dT h)];refine Eq.trans this ?_;rw [List.drop_zero,List.nil_append];unfold WF I9;rw [if_pos h,if_pos h,if_pos h,if_pos h,if_pos h]
 ·have:=aB7 hsp hn ht hr (fun x:List (Int × Int) × Int=>some (ph,b0,b1,b2,b3,w,x.1,g0,g1,g2,m0,m1,m2,m3,m4,m5,m6,m7,m8,cv,am)) sp.length 0 1125899906842624 (by omega) (by omega) [] (by simp);rw [cF (dF h)];refine Eq.trans this ?_;rw [List.drop_zero,List.nil_append];unfold WF I9;rw [if_neg h,if_neg h,if_neg h,if_neg h,if_neg h]
theorem aB8 (lo hi n:Int):pK 1125899906842624 lo hi [n]=some (decide (lo≤n∧n≤hi)):=by
 rw [G4 _ _ _ (by simp)];simp only [List.all_cons,List.all_nil,Bool.and_true]
 rfl
theorem Zj {W H:Int} {P:List Int} (hl:P.length≤9223372036854775807):∃r,gJ 1125899906842624 W H P []=some r∧r.2.2.2=if bW W H P=false then 1 else 0:=by
 unfold gJ;rw [if_neg (by omega)];cases bW W H P
 ·exact ⟨_,rfl,rfl⟩
 ·exact ⟨_,rfl,rfl⟩
def LC (sp:List (Int × Int)) (W H t h a b:Int):Prop:=(1≤h∧h≤64)∧(0≤t∧t≤h-H)∧(0≤a∧a≤h-1)∧(a+1≤b∧b≤h)∧¬(max (a-4) 0<t)∧¬(t+H<min (b+4) h)∧sp.all (gC W h)=true
instance (sp:List (Int × Int)) (W H t h a b:Int):Decidable (LC sp W H t h a b):=by unfold LC;infer_instance
section
variable (ph b0 b1 b2 b3 w:Int) (sp:List (Int × Int)) (g0 g1 g2 m0 m1 m2 m3 m4 m5 m6 m7 m8:Int) (cv:List (Int × Int)) (am:Int)
def aB9 (f:Bool) (W H:Int) (P:List Int) (t h a b:Int):Int:=if yH ph b0 b1 b2 b3 w sp g0 g1 g2 m0 m1 m2 m3 m4 m5 m6 m7 m8 am=false then 3 else if f=false then 1 else if bW W H P=false then 1 else if LC sp W H t h a b then 0 else 3
def R7 (W H:Nat) (P:List Int) (t a b:Nat):List Px:=((OU (WF t ph) (I9 t b0 b2) (I9 t b1 b3) (I9 t b2 b0) (I9 t b3 b1) w (R5 t H sp) g0 g1 g2 m0 m1 m2 m3 m4 m5 m6 m7 m8 cv am W H P).take ((b-t)*W)).drop ((a-t)*W)
theorem Zk {l:List Px} (h0:0<l.length) (h1:l.length≤4096):iN 1125899906842624 l=some l:=by
 unfold iN
 have:qP l=some ():=by cases l with
  | nil=>simp at h0
  | cons x l=>rfl
 first
  | rw [this,aC,lI (by rw [List.length_nil];omega),aC,List.nil_append]
  | rw [lI (by rw [List.length_nil];omega),aC,List.nil_append]
theorem aCa (hb:kE 1125899906842624 cv=some true) (hc:pJ cv) {W H:Nat} {P:List Int} {t h a b:Nat} (he:aB9 ph b0 b1 b2 b3 w sp g0 g1 g2 m0 m1 m2 m3 m4 m5 m6 m7 m8 am true W H P t h a b=0):Bu 1125899906842624 ph b0 b1 b2 b3 w sp g0 g1 g2 m0 m1 m2 m3 m4 m5 m6 m7 m8 cv am W H P t h a b=some ((W:Int),((b-a:Nat):Int),R7 ph b0 b1 b2 b3 w sp g0 g1 g2 m0 m1 m2 m3 m4 m5 m6 m7 m8 cv am W H P t a b,0):=by
 have hc':(true=true)↔pJ cv:=iff_of_true rfl hc;unfold aB9 at he;cases hB:yH ph b0 b1 b2 b3 w sp g0 g1 g2 m0 m1 m2 m3 m4 m5 m6 m7 m8 am
 ·rw [hB] at he;simp at he
 cases hf:bW W H P
 ·rw [hB,hf] at he;simp at he
 have hk:LC sp W H t h a b:=by
  refine Decidable.byContradiction fun q=>?_
  rw [hB,hf,if_neg q] at he;simp at he
 have hp:=Ih ph b0 b1 b2 b3 w sp g0 g1 g2 m0 m1 m2 m3 m4 m5 m6 m7 m8 am hB;obtain ⟨w',h',ew,eh,w1,w2,w3,w4,hlen,hm,hall⟩:=zX hf;obtain rfl:w'=W:=by omega
 obtain rfl:h'=H:=by omega
 obtain ⟨c1,c2,c3,c4,c5,c6,c7⟩:=hk;have hn:=hp.LB;have hs:1≤w'∧w'≤64∧1≤h'∧h'≤64:=⟨w1,w2,w3,w4⟩
 have hP:=Ig hlen hall;obtain ⟨r3,hr3,aGA⟩:=Zj (W:=w') (H:=h') (P:=P) (by omega);rw [hf] at aGA;have hp':JJ (WF t ph) (I9 t b0 b2) (I9 t b1 b3) (I9 t b2 b0) (I9 t b3 b1) w (R5 t h' sp) g0 g1 g2 m0 m1 m2 m3 m4 m5 m6 m7 m8 am:=WG hp t (by omega);have hw:=Zb hp' hs hlen hP hc (Vl c7 (Int.le_refl _)) hf hb (Zg hp')
 have e1:IntKind.i64.wrap (IntKind.i64.wrap ((a:Int)-t)*(w':Int))=(((a-t)*w':Nat):Int):=by
  have hta:t≤a:=by omega
  have hm2:(a-t)*w'≤64*64:=Nat.mul_le_mul (by omega) w2;rw [dC (x:=(a:Int)-t) (by omega),show (a:Int)-t=((a-t:Nat):Int) by omega,←Int.natCast_mul,dC (by omega)]
 have e2:IntKind.i64.wrap (IntKind.i64.wrap ((b:Int)-t)*(w':Int))=(((b-t)*w':Nat):Int):=by
  have hta:t≤b:=by omega
  have hm2:(b-t)*w'≤64*64:=Nat.mul_le_mul (by omega) w2;rw [dC (x:=(b:Int)-t) (by omega),show (b:Int)-t=((b-t:Nat):Int) by omega,←Int.natCast_mul,dC (by omega)]
 have hl7:(OU (WF t ph) (I9 t b0 b2) (I9 t b1 b3) (I9 t b2 b0) (I9 t b3 b1) w (R5 t h' sp) g0 g1 g2 m0 m1 m2 m3 m4 m5 m6 m7 m8 cv am w' h' P).length=w'*h':=B1 _ _ _;have hbt:b-t≤h':=by omega
 have hle:(a-t)*w'≤(b-t)*w':=Nat.mul_le_mul_right _ (by omega);have hle2:(b-t)*w'≤w'*h':=by rw [Nat.mul_comm w'];exact Nat.mul_le_mul_right _ hbt
 have hlv:(R7 ph b0 b1 b2 b3 w sp g0 g1 g2 m0 m1 m2 m3 m4 m5 m6 m7 m8 cv am w' h' P t a b).length=(b-t-(a-t))*w':=Ij hl7 hbt;have hpos:0<(b-t-(a-t))*w':=Nat.mul_pos (by omega) (by omega);have hmax:(b-t-(a-t))*w'≤64*64:=Nat.mul_le_mul (by omega) w2;unfold Bu;rw [Kk ph b0 b1 b2 b3 w sp g0 g1 g2 m0 m1 m2 m3 m4 m5 m6 m7 m8 cv am hb hc',hB,if_neg (by simp),if_neg (by simp),aC,cF (by rfl),hr3,aC,aGA,if_neg (by simp),cF (by rfl)];rw [aB8,aC,cF (by rw [dT c1];rfl),dC (x:=(h:Int)-h') (by omega),aB8,aC,cF (by rw [dT c2];rfl),dC (x:=(h:Int)-1) (by omega),aB8,aC,cF (by rw [dT c3];rfl),dC (x:=(a:Int)+1) (by omega),aB8,aC,cF (by rw [dT c4];rfl)];rw [dC (x:=(a:Int)-4) (by omega),cF (dF c5),dC (x:=(t:Int)+h') (by omega),dC (x:=(b:Int)+4) (by omega),cF (dF c6),PB sp (by omega) (by omega) (by omega),aC,c7,cF (by rfl)];rw [Zi ph b0 b1 b2 b3 w sp g0 g1 g2 m0 m1 m2 m3 m4 m5 m6 m7 m8 cv am hp.spots hp.LB (by omega) (by omega),aC]
 dsimp only
 rw [hw,aC,cF (by rfl)]
 dsimp only
 rw [e1,e2,Nv (by rw [hl7];omega),aC,Int.toNat_natCast,Int.toNat_natCast];rw [show ((OU (WF t ph) (I9 t b0 b2) (I9 t b1 b3) (I9 t b2 b0) (I9 t b3 b1) w (R5 t h' sp) g0 g1 g2 m0 m1 m2 m3 m4 m5 m6 m7 m8 cv am w' h' P).take ((b-t)*w')).drop ((a-t)*w')=R7 ph b0 b1 b2 b3 w sp g0 g1 g2 m0 m1 m2 m3 m4 m5 m6 m7 m8 cv am w' h' P t a b from rfl,Zk (by rw [hlv];exact hpos) (by rw [hlv];omega),aC,dC (by omega),show (b:Int)-a=((b-a:Nat):Int) by omega]
theorem Zl (hp:JJ ph b0 b1 b2 b3 w sp g0 g1 g2 m0 m1 m2 m3 m4 m5 m6 m7 m8 am) {W H G:Nat} {P A:List Int} {t a b:Nat} (hl:P.length=W*H) (hA:A.length=W*G) (hk:LC sp W H t G a b) (he:∀lo hi:Int,I0 0 W H t lo hi A P) :
  R7 ph b0 b1 b2 b3 w sp g0 g1 g2 m0 m1 m2 m3 m4 m5 m6 m7 m8 cv am W H P t a b=((OU ph b0 b1 b2 b3 w sp g0 g1 g2 m0 m1 m2 m3 m4 m5 m6 m7 m8 cv am W G A).take (b*W)).drop (a*W):=by
 obtain ⟨c1,c2,c3,c4,c5,c6,c7⟩:=hk
 have key:=aBZ (W:=W) (H:=G) (H':=H) (t:=t) (lo:=(a:Int)-t-4) (hi:=(b:Int)-t+4) (ph:=ph) (b0:=b0) (b1:=b1) (b2:=b2) (b3:=b3) (w:=w) (sp:=sp) (g0:=g0) (g1:=g1) (g2:=g2) (m0:=m0) (m1:=m1) (m2:=m2) (m3:=m3) (m4:=m4) (m5:=m5) (m6:=m6) (m7:=m7) (m8:=m8) (cv:=cv) (am:=am)
  (fun v h1 h2=>by unfold RR;omega) (aB4 t b0 b1 b2 b3) (aB3 hp.phase) (fun u v h0 h1=>Vk t H u h0 h1 sp) hA hl (he _ _)
 have:=aB5 (a:=a-t) (b:=b-t) key (B1 _ _ _) (B1 _ _ _) (by omega) (by omega) (by omega) (by omega);unfold R7;rw [this,show b-t+t=b by omega,show a-t+t=a by omega]
end
theorem WI {W H a b:Nat} {P:List Int} (hf:bW W H P=true) (hl:P.length=W*H) (hab:a<b) (hb:b≤H):bW W ((b-a:Nat):Int) ((P.take (b*W)).drop (a*W))=true:=by
 obtain ⟨⟨f1,f2,f3,f4⟩,f5,f6⟩:=rU.1 hf;refine rU.2 ⟨⟨by omega,by omega,by omega,by omega⟩,?_,List.all_eq_true.2 fun x hx=>?_⟩
 ·rw [Ij hl hb,Int.natCast_mul,Int.mul_comm]
 ·exact List.all_eq_true.1 f6 x (List.mem_of_mem_take (List.mem_of_mem_drop hx))
section
variable (ph b0 b1 b2 b3 w:Int) (sp:List (Int × Int)) (g0 g1 g2 m0 m1 m2 m3 m4 m5 m6 m7 m8:Int) (cv:List (Int × Int)) (am:Int)
theorem PC {f:Bool} {W H:Int} {P:List Int} (h:NL ph b0 b1 b2 b3 w sp g0 g1 g2 m0 m1 m2 m3 m4 m5 m6 m7 m8 am f W H P=0):yH ph b0 b1 b2 b3 w sp g0 g1 g2 m0 m1 m2 m3 m4 m5 m6 m7 m8 am=true∧f=true∧bW W H P=true∧sp.all (gC W H)=true:=by
 unfold NL at h;cases hB:yH ph b0 b1 b2 b3 w sp g0 g1 g2 m0 m1 m2 m3 m4 m5 m6 m7 m8 am
 ·rw [hB] at h;simp at h
 cases f
 ·rw [hB] at h;simp at h
 cases hf:bW W H P
 ·rw [hB,hf] at h;simp at h
 cases hs:sp.all (gC W H)
 ·rw [hB,hf,hs] at h;simp at h
 exact ⟨rfl,rfl,rfl,rfl⟩
theorem WJ (hb:kE 1125899906842624 cv=some true) (hc:pJ cv) (hB:yH ph b0 b1 b2 b3 w sp g0 g1 g2 m0 m1 m2 m3 m4 m5 m6 m7 m8 am=true) {W H:Nat} {P:List Int} (hf:bW W H P=true) (hsp:sp.all (gC W H)=true) {rows:Int} (hr:1≤rows) (kk):∀(d k fuel:Nat),k+d=H→d<fuel →
  wB 1125899906842624 ph b0 b1 b2 b3 w sp g0 g1 g2 m0 m1 m2 m3 m4 m5 m6 m7 m8 cv am W H P rows kk fuel ((OU ph b0 b1 b2 b3 w sp g0 g1 g2 m0 m1 m2 m3 m4 m5 m6 m7 m8 cv am W H P).take (k*W),(k:Int))=kk ((OU ph b0 b1 b2 b3 w sp g0 g1 g2 m0 m1 m2 m3 m4 m5 m6 m7 m8 cv am W H P).take (H*W),(H:Int)):=by
 have hp:=Ih ph b0 b1 b2 b3 w sp g0 g1 g2 m0 m1 m2 m3 m4 m5 m6 m7 m8 am hB;obtain ⟨w',h',ew,eh,w1,w2,w3,w4,hlen,hm,hall⟩:=zX hf;obtain rfl:w'=W:=by omega
 obtain rfl:h'=H:=by omega
 have hl7:(OU ph b0 b1 b2 b3 w sp g0 g1 g2 m0 m1 m2 m3 m4 m5 m6 m7 m8 cv am w' h' P).length=w'*h':=B1 _ _ _;intro d
 induction d using Nat.strongRecOn with
 | ind d ih=>
  intro k fuel hk hfu;obtain ⟨fuel,rfl⟩:=mK fuel (by omega);unfold wB
  by_cases hd:d=0
  ·obtain rfl:k=h':=by omega
   rw [cF (dF (by omega))]
  obtain ⟨s,hs,hs1,hs2⟩:∃s:Nat,min rows ((h':Int)-k)=s∧1≤s∧s≤d:=⟨(min rows ((h':Int)-k)).toNat,by omega,by omega,by omega⟩
  have e1:IntKind.i64.wrap ((k:Int)+min rows (IntKind.i64.wrap ((h':Int)-k)))=((k+s:Nat):Int):=by
   rw [dC (x:=(h':Int)-k) (by omega),hs,dC (by omega)];omega
  have e2:max (IntKind.i64.wrap ((k:Int)-4)) 0=((k-4:Nat):Int):=by rw [dC (by omega)];omega
  have e3:min (IntKind.i64.wrap (((k+s:Nat):Int)+4)) (h':Int)=((min (k+s+4) h':Nat):Int):=by rw [dC (by omega)];omega
  generalize he:min (k+s+4) h'=e at e3
  have he1:e≤h':=by omega
  have he2:k-4<e:=by omega
  have e4:IntKind.i64.wrap (((k-4:Nat):Int)*(w':Int))=(((k-4)*w':Nat):Int):=by
   have:(k-4)*w'≤64*64:=Nat.mul_le_mul (by omega) w2;rw [←Int.natCast_mul,dC (by omega)]
  have e5:IntKind.i64.wrap ((e:Int)*(w':Int))=((e*w':Nat):Int):=by
   have:e*w'≤64*64:=Nat.mul_le_mul (by omega) w2;rw [←Int.natCast_mul,dC (by omega)]
  have e6:IntKind.i64.wrap ((e:Int)-((k-4:Nat):Int))=((e-(k-4):Nat):Int):=by rw [dC (by omega)];omega
  have q1:(k-4)*w'≤e*w':=Nat.mul_le_mul_right _ (by omega);have q2:e*w'≤w'*h':=by rw [Nat.mul_comm w'];exact Nat.mul_le_mul_right _ he1
  have hk':LC sp w' ((e-(k-4):Nat):Int) ((k-4:Nat):Int) (h':Int) (k:Int) ((k+s:Nat):Int):=⟨by omega,by omega,by omega,by omega,by omega,by omega,hsp⟩
  have hfr:=WI hf hlen he2 he1
  have aI1:aB9 ph b0 b1 b2 b3 w sp g0 g1 g2 m0 m1 m2 m3 m4 m5 m6 m7 m8 am true w' ((e-(k-4):Nat):Int) ((P.take (e*w')).drop ((k-4)*w')) ((k-4:Nat):Int) (h':Int) (k:Int) ((k+s:Nat):Int)=0:=by
   unfold aB9;rw [hB,hfr,if_pos hk'];rfl
  have hV:=Zl ph b0 b1 b2 b3 w sp g0 g1 g2 m0 m1 m2 m3 m4 m5 m6 m7 m8 cv am hp (G:=h') (A:=P) (t:=k-4) (a:=k) (b:=k+s) (Ij (W:=w') (H:=h') (a:=k-4) (b:=e) hlen he1 |>.trans (Nat.mul_comm _ _)) hlen hk' (fun lo hi=>WH lo hi hlen he1);have hpart:=aCa ph b0 b1 b2 b3 w sp g0 g1 g2 m0 m1 m2 m3 m4 m5 m6 m7 m8 cv am hb hc aI1;rw [hV] at hpart;rw [cT (dT (by omega)),e1,aC,e2,aC,e3,aC,e4,e5,Nv (by omega),aC,Int.toNat_natCast,Int.toNat_natCast,e6,hpart,aC,cF (by rfl)]
  dsimp only
  have l1:((OU ph b0 b1 b2 b3 w sp g0 g1 g2 m0 m1 m2 m3 m4 m5 m6 m7 m8 cv am w' h' P).take (k*w')).length≤w'*h':=by rw [List.length_take,hl7];exact Nat.min_le_right _ _
  have l2:(((OU ph b0 b1 b2 b3 w sp g0 g1 g2 m0 m1 m2 m3 m4 m5 m6 m7 m8 cv am w' h' P).take ((k+s)*w')).drop (k*w')).length≤w'*h':=by rw [List.length_drop,List.length_take,hl7];omega
  rw [lI (by omega),aC,Zh _ (by omega)];exact ih (d-s) (by omega) (k+s) fuel (by omega) (by omega)
theorem WK {f:Bool} (hb:kE 1125899906842624 cv=some f) (hc:f=true↔pJ cv) (W H:Int) (P:List Int) (hl:P.length≤9223372036854775807) (rows:Int):vC 1125899906842624 ph b0 b1 b2 b3 w sp g0 g1 g2 m0 m1 m2 m3 m4 m5 m6 m7 m8 cv am W H P rows=some (if NL ph b0 b1 b2 b3 w sp g0 g1 g2 m0 m1 m2 m3 m4 m5 m6 m7 m8 am f W H P=0 then (if rows<1 then (0,0,[],3) else (W,H,OU ph b0 b1 b2 b3 w sp g0 g1 g2 m0 m1 m2 m3 m4 m5 m6 m7 m8 cv am W.toNat H.toNat P,0)) else (0,0,[],NL ph b0 b1 b2 b3 w sp g0 g1 g2 m0 m1 m2 m3 m4 m5 m6 m7 m8 am f W H P)):=by
 unfold vC;rw [Kk ph b0 b1 b2 b3 w sp g0 g1 g2 m0 m1 m2 m3 m4 m5 m6 m7 m8 cv am hb hc,aC]
 by_cases he:NL ph b0 b1 b2 b3 w sp g0 g1 g2 m0 m1 m2 m3 m4 m5 m6 m7 m8 am f W H P=0
 ·obtain ⟨hB,rfl,hf,hsp⟩:=PC ph b0 b1 b2 b3 w sp g0 g1 g2 m0 m1 m2 m3 m4 m5 m6 m7 m8 am he;have hp:=Ih ph b0 b1 b2 b3 w sp g0 g1 g2 m0 m1 m2 m3 m4 m5 m6 m7 m8 am hB;obtain ⟨w',h',rfl,rfl,w1,w2,w3,w4,hlen,hm,hall⟩:=zX hf
  have hrep:∃r,gJ 1125899906842624 w' h' P sp=some r∧r.2.2.2=0:=by
   have:=hp.LB;unfold gJ;rw [if_neg (by omega),hf,if_neg (by simp),if_neg (by omega),hsp,if_neg (by simp)];exact ⟨_,rfl,rfl⟩
  obtain ⟨r,hr,hr'⟩:=hrep;rw [if_pos he,hB,if_neg (by simp),if_neg (by simp),cF (by rfl),hr,aC,hr',cF (by rfl)]
  by_cases h1:rows<1
  ·rw [cT (dT h1),if_pos h1]
  rw [cF (dF h1),if_neg h1,Int.toNat_natCast,Int.toNat_natCast];have:=WJ ph b0 b1 b2 b3 w sp g0 g1 g2 m0 m1 m2 m3 m4 m5 m6 m7 m8 cv am hb (hc.1 rfl) hB hf hsp (rows:=rows) (by omega) (fun x:List Px × Int=>some ((w':Int),(h':Int),x.1,(0:Int))) h' 0 1125899906842624 (by omega) (by omega);rw [Nat.zero_mul,List.take_zero] at this;refine Eq.trans this ?_
  dsimp only
  rw [List.take_of_length_le];rw [Vg ph b0 b1 b2 b3 w sp g0 g1 g2 m0 m1 m2 m3 m4 m5 m6 m7 m8 cv am,Nat.mul_comm];exact Nat.le_refl _
 ·rw [if_neg he];unfold NL at he ⊢;cases hB:yH ph b0 b1 b2 b3 w sp g0 g1 g2 m0 m1 m2 m3 m4 m5 m6 m7 m8 am
  ·rfl
  rw [hB] at he;simp only [Bool.true_eq_false,if_false] at he ⊢;cases f
  ·rfl
  have hn:=(Ih ph b0 b1 b2 b3 w sp g0 g1 g2 m0 m1 m2 m3 m4 m5 m6 m7 m8 am hB).LB;simp only [Bool.true_eq_false,if_false] at he ⊢;unfold gJ;rw [cF (by rfl),if_neg (by omega)];cases hf:bW W H P
  ·rfl
  rw [hf] at he;simp only [Bool.true_eq_false,if_false] at he ⊢;rw [if_neg (by omega)];cases hs:sp.all (gC W H)
  ·rfl
  ·rw [hs] at he;simp at he
end
section
variable (N:Nat) (W H:Nat) (P:List Px) (hs:qI W H P.length)
include hs
theorem aCb (kk:List Px × Int→Option (Int × Int × List Px)):∀(d k fuel:Nat),k+d=W*H→d<fuel →
  gG N W P W H P kk fuel (Qn P (fun i=>i/W*W+i%W) (W*H) k,(k:Int))=kk (Qn P (fun i=>i/W*W+i%W) (W*H) (W*H),((W*H:Nat):Int)):=by
 obtain ⟨h1,h2,h3,h4,h5,h6⟩:=EW W H P hs;intro d
 induction d with
 | zero=>
  intro k fuel hk hf;obtain ⟨fuel,rfl⟩:=mK fuel (by omega);obtain rfl:k=W*H:=by omega
  unfold gG;rw [cF (dF (by omega))]
 | succ d ih=>
  intro k fuel hk hf;obtain ⟨fuel,rfl⟩:=mK fuel (by omega);have hk':k<W*H:=by omega
  obtain ⟨e1,e2⟩:=tdm k (show 0<W by omega);obtain ⟨l1,l2,_⟩:=wM hk';obtain ⟨rr,hrr⟩:∃rr,k%W=rr:=⟨_,rfl⟩
  obtain ⟨qq,hqq⟩:∃qq,k/W=qq:=⟨_,rfl⟩
  rw [hrr] at e1 l1;rw [hqq] at e2 l2;have hp:=s7 l1 l2;have hpx:P[k]? = some (P.getD k Ff):=by rw [List.getD_eq_getElem?_getD,List.getElem?_eq_getElem (by omega)];rfl
  have c1:((qq:Nat):Int)*(W:Int)=((qq*W:Nat):Int):=by rw [Int.natCast_mul]
  have hlen:=Kb P (fun i=>i/W*W+i%W) (W*H) k;unfold gG CX;rw [cT (dT (by omega)),dH,hpx,aC,AF (by omega),aC,aC,e1,e2,dC (x:=((qq:Nat):Int)) (by omega),c1];rw [dC (x:=((qq*W:Nat):Int)) (by omega),dC (x:=((qq*W:Nat):Int)+((rr:Nat):Int)) (by omega),aC];rw [show ((qq*W:Nat):Int)+((rr:Nat):Int)=((qq*W+rr:Nat):Int) by omega];rw [dH,List.getElem?_eq_getElem (by rw [hlen];exact hp),aC,BY (by omega),aC,dC (by omega),Int.toNat_natCast];subst hrr hqq;exact ih (k+1) fuel (by omega) (by omega)
theorem copy_eq (hN:5000≤N):bZ N W H P W H P=some ((W:Int),(H:Int),P):=by
 obtain ⟨h1,h2,h3,h4,h5,h6⟩:=EW W H P hs;unfold bZ;rw [aC,mk_eq (by omega),aC,h5,Int.toNat_natCast];refine (aCb N W H P hs _ (W*H) 0 N (by omega) (by omega)).trans ?_;rw [Wu (W':=W) (H':=H) (g:=fun x y=>y*W+x) rfl]
 ·have:=Ym h5;unfold Lv at this;rw [this]
 ·intro i hi;obtain ⟨l1,l2,_⟩:=wM hi;exact s7 l1 l2
 ·intro x y hx hy;obtain ⟨a,b⟩:=dm y hx;exact ⟨s7 hx hy,by rw [a,b]⟩
 ·intro i j hi hj hij;simp only [Nat.div_add_mod'] at hij;exact hij
end
def aDa (sw m fl:Bool) (N:Nat) (W H:Int) (P:List Px):Option (Int × Int × List Px × Int):=
 Option.bind (cond sw (BR N W H P) (some (W,H,P))) fun r4=>
 Option.bind (cond m (mP N r4.1 r4.2.1 r4.2.2 r4.1 r4.2.1 r4.2.2) (some r4)) fun r5=>
 Option.bind (cond fl (iH N r5.1 r5.2.1 r5.2.2 r5.1 r5.2.1 r5.2.2) (some r5)) fun r6=>
 Option.bind (bZ N r6.1 r6.2.1 r6.2.2 r6.1 r6.2.1 r6.2.2) fun r7=>some (r7.1,r7.2.1,r7.2.2,0)
def swO (o:Int):Bool:=decide (5≤o)
def miO (o:Int):Bool:=decide (o=2∨o=3∨o=6∨o=7)
def flO (o:Int):Bool:=decide (o=3∨o=4∨o=7∨o=8)
theorem ways {o:Int} (h:1≤o∧o≤8):o=1∨o=2∨o=3∨o=4∨o=5∨o=6∨o=7∨o=8:=by omega
theorem aCc (N:Nat) (W H:Int) (P:List Px) (o:Int) (h:1≤o∧o≤8):Bv N W H P o=Option.bind (rX N W H P 0) fun r2=>cond (!decide (r2.2.2.2=0)) (some (0,0,[],r2.2.2.2)) (aDa (swO o) (miO o) (flO o) N W H P):=by
 rcases ways h with rfl | rfl | rfl | rfl | rfl | rfl | rfl | rfl <;> rfl
def zC (B:Nat):Nat→Nat→List Nat
 | 0,_=>[]
 | n+1,x=>zC B n (x/B)++[x%B]
def num (B:Nat) (l:List Nat):Nat:=l.foldl (fun a x=>a*B+x) 0
theorem uS (B:Nat):∀n x,(zC B n x).length=n
 | 0,_=>rfl
 | n+1,x=>by simp [zC,uS B n]
theorem QC {B:Nat} (hB:0<B):∀n x,∀y∈zC B n x,y<B
 | 0,_,y,h=>by simp [zC] at h
 | n+1,x,y,h=>by
  rcases List.mem_append.1 h with h | h
  ·exact QC hB n _ y h
  ·rw [List.mem_singleton.1 h];exact Nat.mod_lt _ hB
theorem Fy (B m:Nat):∀q x,zC B (m+q) x=zC B m (x/B^q)++zC B q x
 | 0,x=>by simp [zC]
 | q+1,x=>by
  show zC B (m+q) (x/B)++[x%B]=_++(zC B q (x/B)++[x%B]);rw [Fy B m q,List.append_assoc,Nat.div_div_eq_div_mul,Nat.pow_succ,Nat.mul_comm B]
theorem MU (B:Nat):∀n x,zC B n (x%B^n)=zC B n x
 | 0,_=>rfl
 | n+1,x=>by
  show zC B n (x%B^(n+1)/B)++[x%B^(n+1)%B]=zC B n (x/B)++[x%B];rw [Nat.pow_succ,Nat.mul_comm,Nat.mod_mul_right_div_self,MU B n,Nat.mod_mul_right_mod]
theorem R8 {B n x y:Nat} (h:x%B^n=y%B^n):zC B n x=zC B n y:=by rw [←MU B n x,h,MU]
theorem Ik (B:Nat) (l:List Nat) (x:Nat):num B (l++[x])=num B l*B+x:=by simp [num]
theorem Vn (B:Nat):∀n x,num B (zC B n x)=x%B^n
 | 0,x=>by simp [zC,num,Nat.mod_one]
 | n+1,x=>by
  show num B (zC B n (x/B)++[x%B])=_;rw [Ik,Vn B n,Nat.pow_succ,Nat.mul_comm (B^n),Nat.mod_mul,Nat.mul_comm,Nat.add_comm]
theorem fold_eq (B:Nat):∀(l:List Nat) (a:Nat),l.foldl (fun a x=>a*B+x) a=a*B^l.length+num B l
 | [],a=>by simp [num]
 | x::l,a=>by
  have h1:=fold_eq B l (a*B+x);have h2:=fold_eq B l (0*B+x);unfold num;rw [List.foldl_cons,List.foldl_cons,h1,h2,List.length_cons,Nat.pow_succ,Nat.zero_mul,Nat.zero_add,Nat.add_mul,Nat.mul_assoc,Nat.mul_comm B,Nat.add_assoc]
theorem Zm (B x:Nat) (l:List Nat):num B (x::l)=x*B^l.length+num B l:=by
 have:=fold_eq B l (0*B+x);unfold num at this ⊢;rw [List.foldl_cons,this,Nat.zero_mul,Nat.zero_add]
theorem QD {B:Nat}:∀(l:List Nat),(∀y∈l,y<B)→num B l<B^l.length
 | [],_=>by simp [num]
 | x::l,h=>by
  have h1:=QD l fun y hy=>h y (by simp [hy])
  have h2:=h x (by simp);rw [Zm,List.length_cons,Nat.pow_succ];have:(x+1)*B^l.length≤B*B^l.length:=Nat.mul_le_mul_right _ h2;rw [Nat.add_mul,Nat.one_mul,Nat.mul_comm B] at this
  omega
theorem T4 (q:Nat):256^q=2^(8*q):=by rw [show 256=2^8 by decide,←Nat.pow_mul]
theorem MW {h k:Nat} (hk:k≤64):rL .i64 (h:Int) (k:Int)=((h/2^k:Nat):Int):=by
 unfold rL
 have:min ((k:Int)).toNat IntKind.i64.bits=k:=by
  rw [Int.toNat_natCast];exact Nat.min_eq_left hk
 rw [this,show (2:Int)^k=((2^k:Nat):Int) by simp,←Int.ofNat_fdiv]
theorem IK {h k:Nat} (hk:k≤64) (hb:h*2^k<9223372036854775808):wN .i64 (h:Int) (k:Int)=((h*2^k:Nat):Int):=by
 unfold wN
 have:min ((k:Int)).toNat IntKind.i64.bits=k:=by
  rw [Int.toNat_natCast];exact Nat.min_eq_left hk
 rw [this,show (2:Int)^k=((2^k:Nat):Int) by simp,←Int.natCast_mul,dC (by omega)]
theorem R9 {h k:Nat} (hh:h<9223372036854775808) (hk:k<63):Eg .i64 (h:Int) ((2^k-1:Nat):Int)=((h%2^k:Nat):Int):=by
 have hk2:2^k≤2^62:=Nat.pow_le_pow_right (by decide) (by omega);unfold Eg
 have e:(BitVec.ofInt IntKind.i64.bits (h:Int) &&& BitVec.ofInt IntKind.i64.bits ((2^k-1:Nat):Int)).toNat=h%2^k:=by
  rw [BitVec.toNat_and,BitVec.ofInt_natCast,BitVec.ofInt_natCast,BitVec.toNat_ofNat,BitVec.toNat_ofNat];have hb:IntKind.i64.bits=64:=rfl;rw [hb,Nat.mod_eq_of_lt (show h<2^64 by omega),Nat.mod_eq_of_lt (show 2^k-1<2^64 by omega),Nat.and_two_pow_sub_one_eq_mod]
 rw [e];have:=Nat.mod_le h (2^k);exact dC (by omega)
theorem aEL {h d e:Nat} (he:e<2^d) (hb:h*2^d+e<9223372036854775808):Ty .i64 ((h*2^d:Nat):Int) (e:Int)=((h*2^d+e:Nat):Int):=by
 unfold Ty;have hb':IntKind.i64.bits=64:=rfl
 have e1:(BitVec.ofInt IntKind.i64.bits ((h*2^d:Nat):Int) ||| BitVec.ofInt IntKind.i64.bits (e:Int)).toNat=h*2^d+e:=by
  rw [BitVec.toNat_or,BitVec.ofInt_natCast,BitVec.ofInt_natCast,BitVec.toNat_ofNat,BitVec.toNat_ofNat,hb',Nat.mod_eq_of_lt (show h*2^d<2^64 by omega),Nat.mod_eq_of_lt (show e<2^64 by omega)];rw [Nat.mul_comm h,Nat.two_pow_add_eq_or_of_lt he]
 rw [e1];exact dC (by omega)
theorem G5 (n:Nat):IntKind.u8.wrap (n:Int)=((n%256:Nat):Int):=by
 simp [IntKind.wrap,IntKind.bits,IntKind.signed]
def wI (l:List Nat):List Int:=l.map fun n:Nat=>(n:Int)
theorem pV (l:List Nat):(wI l).length=l.length:=by simp [wI]
theorem Kl (l m:List Nat):wI (l++m)=wI l++wI m:=by simp [wI]
theorem Bq (n:Nat):nn (n:Int)=some ():=by unfold nn;rw [if_pos (by omega)]
theorem Sa {X d e L:Nat} (he:e<2^d):X%2^L*2^d+e=(X*2^d+e)%2^(L+d):=by
 have h1:X*2^d+e=2^(L+d)*(X/2^L)+(X%2^L*2^d+e):=by
  have h3:=Nat.div_add_mod X (2^L);have h2:X*2^d=2^L*(X/2^L)*2^d+X%2^L*2^d:=by rw [←Nat.add_mul,h3]
  rw [h2,Nat.pow_add,Nat.mul_assoc,Nat.mul_comm (X/2^L),←Nat.mul_assoc,Nat.add_assoc]
 have h2:X%2^L*2^d+e<2^(L+d):=by
  have:X%2^L<2^L:=Nat.mod_lt _ (Nat.two_pow_pos L);have h3:(X%2^L+1)*2^d≤2^L*2^d:=Nat.mul_le_mul_right _ this;rw [←Nat.pow_add,Nat.add_mul,Nat.one_mul] at h3
  omega
 rw [h1,Nat.mul_add_mod,Nat.mod_eq_of_lt h2]
theorem Vo {X d e:Nat} (he:e<2^d):(X*2^d+e)/2^d=X:=by
 rw [Nat.mul_comm,Nat.mul_add_div (Nat.two_pow_pos d),Nat.div_eq_of_lt he,Nat.add_zero]
theorem Zn {X d e L q r:Nat} (m:Nat) (he:e<2^d) (hq:L+d=8*q+r):zC 256 m (X/2^L)++zC 256 q ((X%2^L*2^d+e)/2^r)=zC 256 (m+q) ((X*2^d+e)/2^r):=by
 rw [Fy]
 congr 1
 ·rw [T4,Nat.div_div_eq_div_mul,←Nat.pow_add,show r+8*q=d+L by omega,Nat.pow_add,←Nat.div_div_eq_div_mul,Vo he]
 ·rw [Sa he,show L+d=r+8*q by omega,Nat.pow_add,Nat.mod_mul_right_div_self,←T4,MU]
theorem step_mod {X d e L q r:Nat} (he:e<2^d) (hq:L+d=8*q+r):(X%2^L*2^d+e)%2^r=(X*2^d+e)%2^r:=by
 rw [Sa he,show L+d=r+8*q by omega,Nat.pow_add,Nat.mod_mul_right_mod]
theorem aCd (N h:Nat) (kk) {r:Nat} (hr:r<8):∀(q fuel:Nat) (out:List Int),8*q+r≤60→out.length+q≤100000→q<fuel →
  wC N (h:Int) kk fuel (out,((8*q+r:Nat):Int))=kk (out++wI (zC 256 q (h/2^r)),(r:Int)):=by
 intro q
 induction q with
 | zero=>
  intro fuel out hq ho hf;obtain ⟨fuel,rfl⟩:=mK fuel (by omega);unfold wC;rw [cF (dF (by omega)),Nat.mul_zero,Nat.zero_add]
  simp [zC,wI]
 | succ q ih=>
  intro fuel out hq ho hf;obtain ⟨fuel,rfl⟩:=mK fuel (by omega);have e1:IntKind.i64.wrap (((8*(q+1)+r:Nat):Int)-8)=((8*q+r:Nat):Int):=by rw [dC (by omega)];omega
  have e2:IntKind.u8.wrap (rL .i64 (h:Int) ((8*q+r:Nat):Int))=((h/2^(8*q+r)%256:Nat):Int):=by rw [MW (by omega),G5]
  have e3:zC 256 (q+1) (h/2^r)=[h/2^(8*q+r)%256]++zC 256 q (h/2^r):=by
   rw [Nat.add_comm q 1,Fy,T4,Nat.div_div_eq_div_mul,←Nat.pow_add,Nat.add_comm r]
   rfl
  unfold wC;rw [cT (dT (by omega)),e1,aC,Bq,aC,e2,lI (by simp;omega),aC,ih fuel _ (by omega) (by simp;omega) (by omega),e3,Kl,List.append_assoc]
  rfl
def Ru (d:Nat) (l:List Int) (k:Nat):Nat:=num (2^d) ((l.take k).map Int.toNat)
def Vp (d:Nat) (e:Int):Bool:=decide (0≤e∧e<((2^d:Nat):Int))
theorem Sb {d:Nat} {l:List Int} {k:Nat} (hk:k<l.length):Ru d l (k+1)=Ru d l k*2^d+l[k].toNat:=by
 unfold Ru;rw [List.take_succ_eq_append_getElem hk,List.map_append,List.map_cons,List.map_nil,Ik]
abbrev PSt:=List Int × Int × Int × Int
def pst (d:Nat) (l:List Int) (k:Nat):PSt:=(wI (zC 256 (k*d/8) (Ru d l k/2^(k*d%8))),((Ru d l k%2^(k*d%8):Nat):Int),((k*d%8:Nat):Int),(k:Int))
theorem Dl {d:Nat} (h:d≤16):2^d≤65536:=by
 have:=Nat.pow_le_pow_right (show 0<2 by decide) h;exact this
theorem aCe (N:Nat) (hN:100000≤N) {d:Nat} (hd:1≤d∧d≤16) (l:List Int) (hl:l.length≤4096) (kk):∀(j k fuel:Nat),k+j=l.length→j<fuel →
  wD N l (d:Int) kk fuel (pst d l k)=if (l.drop k).all (Vp d)=true then kk (pst d l l.length) else some ([],3):=by
 intro j
 induction j with
 | zero=>
  intro k fuel hk hf;obtain ⟨fuel,rfl⟩:=mK fuel (by omega);obtain rfl:k=l.length:=by omega
  unfold pst wD;rw [cF (dF (by omega)),List.drop_length]
  rfl
 | succ j ih=>
  intro k fuel hk hf;obtain ⟨fuel,rfl⟩:=mK fuel (by omega);have hlt:k<l.length:=by omega
  have hp:=Dl hd.2;have hih:=ih (k+1) fuel (by omega) (by omega);have hpos:0<2^d:=Nat.two_pow_pos d
  have esh:wN .i64 1 (d:Int)=((2^d:Nat):Int):=by
   have:=IK (h:=1) (k:=d) (by omega) (by omega);rw [Nat.one_mul] at this;exact this
  rw [List.drop_eq_getElem_cons hlt,List.all_cons];unfold pst wD;rw [cT (dT (by omega)),dH,List.getElem?_eq_getElem hlt,aC]
  by_cases h1:l[k]<0
  ·have:Vp d l[k]=false:=dF (by omega);rw [cT (dT h1),this];rfl
  rw [cF (dF h1),Bq,aC,esh]
  by_cases h2:((2^d:Nat):Int)≤l[k]
  ·have:Vp d l[k]=false:=dF (by omega);rw [cT (dT h2),this];rfl
  have hin:Vp d l[k]=true:=dT (by omega);rw [cF (dF h2),aC,hin,Bool.true_and];have hsm:=Sb (d:=d) hlt;obtain ⟨e,he⟩:∃e:Nat,l[k]=e:=⟨l[k].toNat,by omega⟩
  have hed:e<2^d:=by omega
  rw [he,Int.toNat_natCast] at hsm;rw [he];have hL:k*d%8<8:=Nat.mod_lt _ (by decide);have hkd:(k+1)*d=k*d+d:=by rw [Nat.add_mul,Nat.one_mul]
  have hkb:k*d≤4096*16:=Nat.mul_le_mul (by omega) hd.2;unfold pst at hih;rw [hsm,hkd] at hih
  generalize Ru d l k=X at hih ⊢
  have hdl:=uS 256 (k*d/8) (X/2^(k*d%8))
  generalize k*d=T at *
  have eT:(T+d)%8=(T%8+d)%8:=by omega
  have eQ:(T+d)/8=T/8+(T%8+d)/8:=by omega
  rw [eT,eQ] at hih;have hq:T%8+d=8*((T%8+d)/8)+(T%8+d)%8:=by omega
  have hr:(T%8+d)%8<8:=by omega
  generalize (T%8+d)/8=q at *
  generalize (T%8+d)%8=r at *
  have s1:=Zn (X:=X) (T/8) hed hq;have s2:=step_mod (X:=X) hed hq
  generalize T/8=m at *
  generalize T%8=L at *
  have hX:X%2^L<128:=Nat.lt_of_lt_of_le (Nat.mod_lt _ (Nat.two_pow_pos L)) (Nat.pow_le_pow_right (show 0<2 by decide) (show L≤7 by omega));have hx6:X%2^L*2^d≤128*65536:=Nat.mul_le_mul (by omega) hp
  have ex:Ty .i64 (wN .i64 ((X%2^L:Nat):Int) (d:Int)) (e:Int)=((X%2^L*2^d+e:Nat):Int):=by
   rw [IK (by omega) (by omega),aEL hed (by omega)]
  have ew:IntKind.i64.wrap ((L:Int)+(d:Int))=((8*q+r:Nat):Int):=by rw [dC (by omega)];omega
  have hpr:2^r≤128:=Nat.pow_le_pow_right (show 0<2 by decide) (show r≤7 by omega);have hr0:0<2^r:=Nat.two_pow_pos r
  have em:IntKind.i64.wrap (wN .i64 1 (r:Int)-1)=((2^r-1:Nat):Int):=by
   have:=IK (h:=1) (k:=r) (by omega) (by omega);rw [Nat.one_mul] at this;rw [show (1:Int)=((1:Nat):Int) from rfl,this,dC (by omega)]
   omega
  rw [ex,aC,ew,aC];refine (aCd N _ _ hr q N _ (by omega) (by rw [pV];omega) (by omega)).trans ?_
  dsimp only
  rw [Bq,aC,em,R9 (by omega) (by omega),aC,←Kl,s1,s2,dC (x:=(k:Int)+1) (by omega)];exact hih
def Sc (d:Nat) (l:List Int):List Nat:=zC 256 ((l.length*d+7)/8) (Ru d l l.length*2^((l.length*d+7)/8*8-l.length*d))
theorem WL (X L m:Nat) (hL:L<8) (h0:0<L):zC 256 m (X/2^L)++[X%2^L*2^(8-L)%256]=zC 256 (m+1) (X*2^(8-L)):=by
 have aEM:(256:Nat)=2^(8-L)*2^L:=by rw [←Nat.pow_add,show 8-L+L=8 by omega]
 show _=zC 256 m (X*2^(8-L)/256)++[X*2^(8-L)%256]
 have e1:X*2^(8-L)/256=X/2^L:=by
  conv=>lhs;rw [aEM]
  rw [←Nat.div_div_eq_div_mul,Nat.mul_div_cancel _ (Nat.two_pow_pos _)]
 have e2:X*2^(8-L)%256=X%2^L*2^(8-L):=by
  conv=>lhs;rw [aEM]
  rw [Nat.mul_comm X,Nat.mul_mod_mul_left,Nat.mul_comm]
 rw [e1,e2]
 congr 2
 rw [Nat.mod_eq_of_lt];have h1:X%2^L<2^L:=Nat.mod_lt _ (Nat.two_pow_pos L);have h2:(X%2^L+1)*2^(8-L)≤2^L*2^(8-L):=Nat.mul_le_mul_right _ h1;rw [Nat.mul_comm (2^L),←aEM,Nat.add_mul,Nat.one_mul] at h2;have:=Nat.two_pow_pos (8-L)
 omega
theorem Km (l:List Nat):toB (wI l)=l.map UInt8.ofNat:=by
 unfold toB wI;rw [List.map_map]
 rfl
def C8 (l:List Int) (o:Int):Int:=if ¬(1≤o∧o≤16) then 3 else if 4096<l.length then 2 else if l.all (Vp o.toNat)=true then 0 else 3
theorem WM (N:Nat) (o:Int):Av N o=some (decide (1≤o∧o≤16)):=by
 unfold Av
 by_cases h:1≤o
 ·rw [cT (dT h)];simp [h]
 ·rw [cF (dF h)];simp [h]
theorem aCf (N:Nat) (hN:100000≤N) (l:List Int) (o:Int):Dj N l o=some (if C8 l o=0 then ((Sc o.toNat l).map UInt8.ofNat,0) else ([],C8 l o)):=by
 unfold Dj;rw [WM,aC]
 by_cases h1:1≤o∧o≤16
 rotate_left
 ·have hpe:C8 l o=3:=by unfold C8;rw [if_pos h1]
  rw [cT (by rw [dF h1];rfl),hpe];rfl
 have h1':¬ ¬(1≤o∧o≤16):=fun h=>h h1
 rw [cF (by rw [dT h1];rfl)]
 by_cases h2:4096<l.length
 ·have hpe:C8 l o=2:=by unfold C8;rw [if_neg h1',if_pos h2]
  rw [cT (dT (by omega)),hpe];rfl
 have hpe:C8 l o=if l.all (Vp o.toNat)=true then 0 else 3:=by unfold C8;rw [if_neg h1',if_neg h2]
 rw [cF (dF (by omega)),hpe];clear hpe h1';obtain ⟨d,rfl⟩:=Int.eq_ofNat_of_zero_le (show 0≤o by omega);rw [Int.toNat_natCast];have hb:l.length*d≤4096*16:=Nat.mul_le_mul (by omega) (by omega)
 have e1:IntKind.i64.wrap (Int.tdiv (IntKind.i64.wrap (IntKind.i64.wrap ((l.length:Int)*(d:Int))+7)) 8)=(((l.length*d+7)/8:Nat):Int):=by
  rw [←Int.natCast_mul,dC (x:=((l.length*d:Nat):Int)) (by omega),dC (x:=((l.length*d:Nat):Int)+7) (by omega),show ((l.length*d:Nat):Int)+7=((l.length*d+7:Nat):Int) by omega,
   show Int.tdiv ((l.length*d+7:Nat):Int) 8=(((l.length*d+7)/8:Nat):Int) from rfl,dC (by omega)]
 have aEN:mok 1 (((l.length*d+7)/8:Nat):Int)=some ():=by unfold mok;rw [if_pos (by omega)]
 rw [e1,aEN,aC]
 have h0:pst d l 0=(([]:List Int),(0:Int),(0:Int),(0:Int)):=by
  unfold pst;rw [Nat.zero_mul]
  simp [Ru,num,zC,wI]
 have key:=aCe N hN (d:=d) (by omega) l (by omega) (fun x:PSt=>
  cond (decide (0<x.2.2.1)) (
  Option.bind (nn (IntKind.i64.wrap (8-x.2.2.1))) fun _=>
  Option.bind (app 1 x.1 (([IntKind.u8.wrap (wN .i64 x.2.1 (IntKind.i64.wrap (8-x.2.2.1)))]:List Int))) fun l10=>
  some (toB l10,0)) (
  some (toB x.1,0))) l.length 0 N (by omega) (by omega)
 rw [h0,List.drop_zero] at key;refine Eq.trans key ?_;cases hall:l.all (Vp d)
 ·rfl
 show _=some ((Sc d l).map UInt8.ofNat,0);rw [if_pos rfl];unfold pst Sc
 dsimp only
 generalize Ru d l l.length=X
 have hdl:=uS 256 (l.length*d/8) (X/2^(l.length*d%8))
 generalize l.length*d=T at *
 by_cases hr:T%8=0
 ·rw [cF (dF (by omega)),Km,hr,Nat.pow_zero,Nat.div_one,show (T+7)/8=T/8 by omega,show T/8*8-T=0 by omega,Nat.pow_zero,Nat.mul_one]
 ·have hw:IntKind.i64.wrap (8-((T%8:Nat):Int))=((8-T%8:Nat):Int):=by rw [dC (by omega)];omega
  have hX:X%2^(T%8)<128:=Nat.lt_of_lt_of_le (Nat.mod_lt _ (Nat.two_pow_pos _)) (Nat.pow_le_pow_right (show 0<2 by decide) (show T%8≤7 by omega));have hp2:2^(8-T%8)≤2^8:=Nat.pow_le_pow_right (show 0<2 by decide) (by omega);have hxx:X%2^(T%8)*2^(8-T%8)≤128*256:=Nat.mul_le_mul (by omega) hp2;rw [cT (dT (by omega)),hw,Bq,aC,IK (by omega) (by omega),G5,lI (by rw [pV];simp;omega),aC];have e2:=WL X (T%8) (T/8) (by omega) (by omega);have e3:wI (zC 256 (T/8) (X/2^(T%8)))++[((X%2^(T%8)*2^(8-T%8)%256:Nat):Int)]=wI (zC 256 (T/8+1) (X*2^(8-T%8))):=by rw [←e2,Kl];rfl
  rw [e3,Km,show (T+7)/8=T/8+1 by omega,show (T/8+1)*8-T=8-T%8 by omega]
theorem Sd (N:Nat) (l:List Int) (kk) (hl:l.length≤4611686018427387904):∀(j k fuel:Nat),k+j=l.length→j<fuel→kL N l l kk fuel (k:Int)=kk (l.length:Int):=by
 intro j
 induction j with
 | zero=>
  intro k fuel hk hf;obtain ⟨fuel,rfl⟩:=mK fuel (by omega);obtain rfl:k=l.length:=by omega
  unfold kL;rw [cF (dF (by omega))]
 | succ j ih=>
  intro k fuel hk hf;obtain ⟨fuel,rfl⟩:=mK fuel (by omega);have hlt:k<l.length:=by omega
  unfold kL;rw [cT (dT (by omega)),dH,List.getElem?_eq_getElem hlt,aC,aC,cF (by simp),aC,dC (by omega)];exact ih (k+1) fuel (by omega) (by omega)
theorem toNat_ofNat (s:List UInt8):(s.map UInt8.toNat).map UInt8.ofNat=s:=by
 rw [List.map_map]
 conv=>rhs;rw [←List.map_id s]
 refine List.map_congr_left fun y _=>?_
 simp
theorem LD (l:List Nat):(wI l).map Int.toNat=l:=by
 unfold wI;rw [List.map_map]
 conv=>rhs;rw [←List.map_id l]
 exact List.map_congr_left fun y _=>rfl
theorem WN {l:List Int} (h:∀y∈l,0≤y):wI (l.map Int.toNat)=l:=by
 unfold wI;rw [List.map_map]
 conv=>rhs;rw [←List.map_id l]
 refine List.map_congr_left fun y hy=>?_
 have:=h y hy;show ((y.toNat:Nat):Int)=y
 omega
def H3 (l:List Nat):List UInt8:=l.map fun b=>UInt8.ofNat (48+b)
theorem AO (l:List Nat):(H3 l).length=l.length:=by simp [H3]
theorem Vq (l m:List Nat):H3 (l++m)=H3 l++H3 m:=by simp [H3]
theorem aGB (N:Nat):∀(k fu n:Nat),k<fu→k≤16→n<9223372036854775808→jF N fu (n:Int) (k:Int)=some (H3 (zC 2 k n)):=by
 intro k
 induction k with
 | zero=>
  intro fu n hf _ _;obtain ⟨fu,rfl⟩:=mK fu (by omega);unfold jF;rw [cT (by rfl)];rfl
 | succ k ih=>
  intro fu n hf hk hn;obtain ⟨fu,rfl⟩:=mK fu (by omega);have e1:IntKind.i64.wrap (Int.tdiv (n:Int) 2)=((n/2:Nat):Int):=by rw [show Int.tdiv (n:Int) 2=((n/2:Nat):Int) from rfl,dC (by omega)]
  have e2:IntKind.i64.wrap (((k+1:Nat):Int)-1)=(k:Int):=by rw [dC (by omega)];omega
  have e3:IntKind.u8.wrap (48+IntKind.u8.wrap (Int.tmod (n:Int) 2))=((48+n%2:Nat):Int):=by
   rw [show Int.tmod (n:Int) 2=((n%2:Nat):Int) from rfl,G5,show (48:Int)+((n%2%256:Nat):Int)=((48+n%2%256:Nat):Int) by omega,G5]
   omega
  unfold jF;rw [cF (dF (by omega)),e1,e2,ih fu (n/2) (by omega) (by omega) (by omega),aC,e3];have hl:(H3 (zC 2 k (n/2))).length=k:=by rw [AO,uS]
  have ha:Wj (H3 (zC 2 k (n/2))) (toB [((48+n%2:Nat):Int)])=some (H3 (zC 2 (k+1) n)):=by
   unfold Wj;rw [if_pos (by rw [hl];simp [toB];omega)];show some (_++_)=some (H3 (zC 2 k (n/2)++[n%2]));rw [Vq]
   rfl
  rw [ha,aC]
theorem number_eq {N:Nat} (hN:100≤N) {n k:Nat} (hk:k≤16) (hn:n<9223372036854775808):mM N (n:Int) (k:Int)=some (H3 (zC 2 k n)):=aGB N k N n (by omega) hk hn
theorem QE (l m:List UInt8):Cc (l++m)=Cc l++Cc m:=by simp [Cc]
theorem Vr (l:List UInt8):toB (Cc l)=l:=by
 unfold toB Cc;rw [List.map_map]
 conv=>rhs;rw [←List.map_id l]
 refine List.map_congr_left fun y _=>?_
 show UInt8.ofNat (Int.toNat ((y.toNat:Nat):Int))=y
 simp
theorem CL (l:List UInt8):(Cc l).length=l.length:=by simp [Cc]
theorem Zo {d e X m:Nat} (he:e<2^d):zC 2 m X++zC 2 d e=zC 2 (m+d) (X*2^d+e):=by
 rw [Fy,Vo he]
 congr 1
 refine R8 ?_;rw [Nat.mul_comm,Nat.mul_add_mod]
theorem WO (N:Nat) (hN:100000≤N) {d:Nat} (hd:1≤d∧d≤16) {l:List Int} (hl:l.length≤4096) (hall:l.all (Vp d)=true) (kk):∀(j k fuel:Nat),k+j=l.length→j<fuel →
  lY N l (d:Int) kk fuel (Cc (H3 (zC 2 (k*d) (Ru d l k))),(k:Int))=kk (Cc (H3 (zC 2 (l.length*d) (Ru d l l.length))),(l.length:Int)):=by
 intro j
 induction j with
 | zero=>
  intro k fuel hk hf;obtain ⟨fuel,rfl⟩:=mK fuel (by omega);obtain rfl:k=l.length:=by omega
  unfold lY;rw [cF (dF (by omega))]
 | succ j ih=>
  intro k fuel hk hf;obtain ⟨fuel,rfl⟩:=mK fuel (by omega);have hlt:k<l.length:=by omega
  have hp:=Dl hd.2;have hin:=of_decide_eq_true (List.all_eq_true.1 hall _ (List.getElem_mem hlt));obtain ⟨e,he⟩:∃e:Nat,l[k]=e:=⟨l[k].toNat,by omega⟩
  have hed:e<2^d:=by omega
  have hsm:=Sb (d:=d) hlt;rw [he,Int.toNat_natCast] at hsm;have hkb:k*d≤4096*16:=Nat.mul_le_mul (by omega) hd.2;have hih:=ih (k+1) fuel (by omega) (by omega);rw [hsm,Nat.add_mul,Nat.one_mul,←Zo hed,Vq,QE] at hih;unfold lY;rw [cT (dT (by omega)),dH,List.getElem?_eq_getElem hlt,aC,he,number_eq (by omega) hd.2 (by omega),aC,lI (by rw [CL,CL,AO,AO,uS,uS];omega),aC,aC,dC (x:=(k:Int)+1) (by omega)];exact hih
def gr (M:Nat) (l:List Nat):List Nat:=(List.range M).map fun g=>num 2 ((List.range 8).map fun t=>l.getD (8*g+t) 0)
theorem aCg {M:Nat} {a c:List Nat} (ha:a.length=8*M) (hc:c.length=8):gr (M+1) (a++c)=gr M a++[num 2 c]:=by
 unfold gr;rw [List.range_succ (n:=M),List.map_append,List.map_singleton]
 congr 1
 ·refine List.map_congr_left fun g hg=>?_
  have:=List.mem_range.1 hg
  congr 1
  refine List.map_congr_left fun t ht=>?_
  have:=List.mem_range.1 ht;rw [List.getD_eq_getElem?_getD,List.getD_eq_getElem?_getD,List.getElem?_append_left (by omega)]
 ·congr 2
  apply List.ext_getElem?
  intro t
  by_cases ht:t<8
  ·rw [List.getElem?_map,List.getElem?_range ht];show some ((a++c).getD (8*M+t) 0)=_;rw [List.getD_eq_getElem?_getD,List.getElem?_append_right (by omega),show 8*M+t-a.length=t by omega,List.getElem?_eq_getElem (by omega)]
   rfl
  ·rw [List.getElem?_eq_none (by simp;omega),List.getElem?_eq_none (by omega)]
theorem Zp:∀(M Y:Nat),gr M (zC 2 (8*M) Y)=zC 256 M Y
 | 0,_=>rfl
 | M+1,Y=>by
  rw [show 8*(M+1)=8*M+8 by omega,Fy,aCg (uS _ _ _) (uS _ _ _),Vn,Zp M]
  rfl
theorem aEO (M p:Nat) (l:List Nat):gr M (l++List.replicate p 0)=gr M l:=by
 unfold gr;refine List.map_congr_left fun g _=>?_
 congr 1
 refine List.map_congr_left fun t _=>?_
 rw [List.getD_eq_getElem?_getD,List.getD_eq_getElem?_getD]
 by_cases h:8*g+t<l.length
 ·rw [List.getElem?_append_left h]
 ·rw [List.getElem?_append_right (by omega),List.getElem?_eq_none (l:=l) (by omega),List.getElem?_replicate]
  split <;> rfl
theorem Se (B:Nat):∀n,zC B n 0=List.replicate n 0
 | 0=>rfl
 | n+1=>by
  show zC B n (0/B)++[0%B]=_;rw [Nat.zero_div,Nat.zero_mod,Se B n,List.replicate_succ']
theorem aGC (T X:Nat):gr ((T+7)/8) (zC 2 T X)=zC 256 ((T+7)/8) (X*2^((T+7)/8*8-T)):=by
 have h1:zC 2 T X++List.replicate ((T+7)/8*8-T) 0=zC 2 (8*((T+7)/8)) (X*2^((T+7)/8*8-T)):=by
  rw [show 8*((T+7)/8)=T+((T+7)/8*8-T) by omega,Fy,Nat.mul_div_cancel _ (Nat.two_pow_pos _),←Se 2]
  congr 1
  exact R8 (by rw [Nat.mul_mod_left,Nat.zero_mod])
 rw [←Zp,←h1,aEO]
theorem Vs {l:List Nat} {k:Nat} (hk:k<l.length) (h2:∀y∈l,y<2):idx (H3 l) (k:Int)=some (UInt8.ofNat (48+l.getD k 0))∧((UInt8.ofNat (48+l.getD k 0)).toNat:Int)=((48+l.getD k 0:Nat):Int)∧l.getD k 0<2:=by
 have hg:l.getD k 0=l[k]:=by rw [List.getD_eq_getElem?_getD,List.getElem?_eq_getElem hk];rfl
 have h3:=h2 _ (List.getElem_mem hk);rw [hg];refine ⟨?_,?_,h3⟩
 ·rw [dH,H3,List.getElem?_map,List.getElem?_eq_getElem hk];rfl
 ·rw [UInt8.toNat_ofNat',Nat.mod_eq_of_lt (by omega)]
theorem Zr (N:Nat) {l:List Nat} (h2:∀y∈l,y<2) (hl:l.length≤16777216) {i:Nat} (hi:i<l.length) (kk):∀(j t fuel:Nat),t+j=8→j<fuel →
  jG N (H3 l) (i:Int) kk fuel (((num 2 ((List.range t).map fun t=>l.getD (i+t) 0):Nat):Int),((i+t:Nat):Int))=kk (((num 2 ((List.range 8).map fun t=>l.getD (i+t) 0):Nat):Int),((i+8:Nat):Int)):=by
 intro j
 induction j with
 | zero=>
  intro t fuel hk hf;obtain ⟨fuel,rfl⟩:=mK fuel (by omega);obtain rfl:t=8:=by omega
  unfold jG;rw [dC (x:=(i:Int)+8) (by omega),cF (dF (by omega))]
 | succ j ih=>
  intro t fuel hk hf;obtain ⟨fuel,rfl⟩:=mK fuel (by omega);have hih:=ih (t+1) fuel (by omega) (by omega);rw [List.range_succ,List.map_append,List.map_singleton,Ik] at hih
  have hb:num 2 ((List.range t).map fun t=>l.getD (i+t) 0)<256:=by
   have:=QD (B:=2) ((List.range t).map fun t=>l.getD (i+t) 0) fun y hy=>by
    obtain ⟨q,_,rfl⟩:=List.mem_map.1 hy;rw [List.getD_eq_getElem?_getD]
    by_cases hq:i+q<l.length
    ·rw [List.getElem?_eq_getElem hq];exact h2 _ (List.getElem_mem hq)
    ·rw [List.getElem?_eq_none (by omega)];decide
   rw [List.length_map,List.length_range] at this;have h8:2^t≤256:=Nat.pow_le_pow_right (show 0<2 by decide) (show t≤8 by omega)
   omega
  generalize num 2 ((List.range t).map fun t=>l.getD (i+t) 0)=v at *
  unfold jG;rw [dC (x:=(i:Int)+8) (by omega),cT (dT (by omega)),dC (x:=2*(v:Int)) (by omega),aC]
  by_cases hq:i+t<l.length
  ·obtain ⟨g1,g2,g3⟩:=Vs hq h2;rw [cT (dT (by rw [AO];omega)),g1,aC,g2]
   generalize l.getD (i+t) 0=b at *
   by_cases h1:b=1
   ·subst h1;rw [cT (dT (by omega)),dC (x:=2*(v:Int)+1) (by omega),aC,dC (x:=((i+t:Nat):Int)+1) (by omega),aC];rw [show v*2+1=2*v+1 by omega] at hih;exact hih
   ·obtain rfl:b=0:=by omega
    rw [cF (dF (by omega)),dC (x:=((i+t:Nat):Int)+1) (by omega),aC];rw [show v*2+0=2*v by omega] at hih;exact hih
  ·have hz:l.getD (i+t) 0=0:=by rw [List.getD_eq_getElem?_getD,List.getElem?_eq_none (by omega)];rfl
   rw [hz,show v*2+0=2*v by omega] at hih;rw [cF (dF (by rw [AO];omega)),dC (x:=((i+t:Nat):Int)+1) (by omega),aC];exact hih
theorem Zs (N:Nat) (hN:100≤N) {l:List Nat} (h2:∀y∈l,y<2) (hl:l.length≤16777216) (kk):∀(j m fuel:Nat),m+j=(l.length+7)/8→j<fuel →
  kK N (H3 l) kk fuel (wI (gr m l),((8*m:Nat):Int))=kk (wI (gr ((l.length+7)/8) l),((8*((l.length+7)/8):Nat):Int)):=by
 intro j
 induction j with
 | zero=>
  intro m fuel hk hf;obtain ⟨fuel,rfl⟩:=mK fuel (by omega);obtain rfl:m=(l.length+7)/8:=by omega
  unfold kK;rw [cF (dF (by rw [AO];omega))]
 | succ j ih=>
  intro m fuel hk hf;obtain ⟨fuel,rfl⟩:=mK fuel (by omega);have hlt:8*m<l.length:=by omega
  have hih:=ih (m+1) fuel (by omega) (by omega)
  have hg:gr (m+1) l=gr m l++[num 2 ((List.range 8).map fun t=>l.getD (8*m+t) 0)]:=by
   unfold gr;rw [List.range_succ (n:=m),List.map_append,List.map_singleton]
  have hgl:(gr m l).length=m:=by simp [gr]
  have hb:num 2 ((List.range 8).map fun t=>l.getD (8*m+t) 0)<256:=by
   have:=QD (B:=2) ((List.range 8).map fun t=>l.getD (8*m+t) 0) fun y hy=>by
    obtain ⟨q,_,rfl⟩:=List.mem_map.1 hy;rw [List.getD_eq_getElem?_getD]
    by_cases hq:8*m+q<l.length
    ·rw [List.getElem?_eq_getElem hq];exact h2 _ (List.getElem_mem hq)
    ·rw [List.getElem?_eq_none (by omega)];decide
   rw [List.length_map,List.length_range] at this;exact this
  unfold kK;rw [cT (dT (by rw [AO];omega))];have key:=Zr N h2 hl hlt (fun x:Int × Int=>Option.bind (app 1 (wI (gr m l)) ([IntKind.u8.wrap x.1]:List Int)) fun l4=>Option.bind (some (IntKind.i64.wrap (((8*m:Nat):Int)+8))) fun i3=>kK N (H3 l) kk fuel (l4,i3)) 8 0 N (by omega) (by omega);refine Eq.trans key ?_;rw [hg,Kl] at hih
  generalize num 2 ((List.range 8).map fun t=>l.getD (8*m+t) 0)=v at *
  dsimp only
  rw [G5,Nat.mod_eq_of_lt hb,lI (by rw [pV,hgl];simp;omega),aC,dC (by omega),aC,show ((8*m:Nat):Int)+8=((8*(m+1):Nat):Int) by omega];exact hih
theorem Sf (N:Nat) (l:List Nat) (h2:∀y∈l,y<2) (hl:l.length≤16777216) (hN:100≤N∧(l.length+7)/8<N):jT N (H3 l)=some ((gr ((l.length+7)/8) l).map UInt8.ofNat):=by
 unfold jT
 have e1:IntKind.i64.wrap (IntKind.i64.wrap (Int.tdiv ((H3 l).length:Int) 8)+1)=((l.length/8+1:Nat):Int):=by
  rw [AO,show Int.tdiv (l.length:Int) 8=((l.length/8:Nat):Int) from rfl,dC (x:=((l.length/8:Nat):Int)) (by omega),dC (by omega)]
  omega
 have aEN:mok 1 ((l.length/8+1:Nat):Int)=some ():=by unfold mok;rw [if_pos (by omega)]
 rw [e1,aEN,aC];have key:=Zs N hN.1 h2 hl (fun x:List Int × Int=>some (toB x.1)) ((l.length+7)/8) 0 N (by omega) (by omega);refine Eq.trans key ?_
 dsimp only
 rw [Km]
theorem WP (N:Nat) (hN:100000≤N) {d:Nat} (hd:1≤d∧d≤16) {l:List Int} (hl:l.length≤4096) (hall:l.all (Vp d)=true):rE N l (d:Int)=some ((Sc d l).map UInt8.ofNat):=by
 have hkb:l.length*d≤4096*16:=Nat.mul_le_mul hl hd.2;unfold rE;have key:=WO N hN hd hl hall (fun x:List Int × Int=>Option.bind (jT N (toB x.1)) fun r5=>some r5) l.length 0 N (by omega) (by omega);rw [Nat.zero_mul] at key;refine Eq.trans key ?_
 dsimp only
 rw [Vr,Sf N _ (fun y hy=>QC (by decide) _ _ y hy) (by rw [uS];omega) (by rw [uS];omega),aC,uS,aGC]
 rfl
def Il (l:List Nat):List Nat:=l.map fun b=>48+b
theorem WQ (l m:List Nat):Il (l++m)=Il l++Il m:=by simp [Il]
theorem WR (l:List Nat):(Il l).map UInt8.ofNat=H3 l:=by unfold Il H3;rw [List.map_map];rfl
theorem B3 (N:Nat) (n lo hi:Int):aL N n lo hi=some (decide (lo≤n∧n≤hi)):=by
 unfold aL
 by_cases h1:lo≤n
 ·rw [cT (dT h1)];simp [h1]
 ·rw [cF (dF h1)];simp [h1]
def MX (b:List UInt8):Bool:=b.all fun c=>decide (c=48∨c=49)
theorem Vt:∀b:List UInt8,b.count 48+b.count 49≤b.length∧(b.count 48+b.count 49=b.length↔MX b=true)
 | []=>by simp [MX]
 | c::b=>by
  obtain ⟨h1,h2⟩:=Vt b;have e:MX (c::b)=(decide (c=48∨c=49)&&MX b):=rfl;rw [e,List.count_cons,List.count_cons,List.length_cons]
  by_cases q:c=48
  ·subst q;have:((48:UInt8)==49)=false:=by decide
   rw [this,show decide ((48:UInt8)=48∨(48:UInt8)=49)=true by decide,Bool.true_and,←h2,show ((48:UInt8)==48)=true by decide]
   constructor
   ·simp;omega
   ·simp;omega
  ·by_cases q2:c=49
   ·subst q2;have:((49:UInt8)==48)=false:=by decide
    rw [this,show decide ((49:UInt8)=48∨(49:UInt8)=49)=true by decide,Bool.true_and,←h2,show ((49:UInt8)==49)=true by decide]
    constructor
    ·simp;omega
    ·simp;omega
   ·have q3:(c==48)=false:=by simpa using q
    have q4:(c==49)=false:=by simpa using q2
    rw [q3,q4,show decide (c=48∨c=49)=false from decide_eq_false (fun h=>h.elim q q2),Bool.false_and]
    constructor
    ·simp;omega
    ·simp;omega
theorem aDb {p:UInt8→Bool}:∀l:List UInt8,l.all p=true→l.dropWhile p=[]
 | [],_=>rfl
 | c::l,h=>by
  rw [List.all_cons,Bool.and_eq_true] at h;rw [List.dropWhile_cons,if_pos h.1];exact aDb l h.2
theorem WS {b:List UInt8} (h:MX b=true):Go.Lib.trimS b [48,49]=[]:=by
 have hp:b.all (fun c=>[(48:UInt8),49].contains c)=true:=by
  refine List.all_eq_true.2 fun c hc=>?_
  have:=of_decide_eq_true (List.all_eq_true.1 h c hc)
  rcases this with rfl | rfl <;> decide
 have hr:b.reverse.all (fun c=>[(48:UInt8),49].contains c)=true:=by rw [List.all_reverse];exact hp
 unfold Go.Lib.trimS Go.Lib.trimRightS;rw [aDb _ hr]
 rfl
theorem all_eq (N:Nat) {b:List UInt8} (hb:b.length≤16777216):EU N b=some (MX b):=by
 have ht:yM N b [48,49]=some (Go.Lib.trimS b [48,49]):=by
  unfold yM;rw [if_pos ⟨by omega,by decide,by decide⟩]
 have h0:uJ N b [48]=some ((b.count 48:Nat):Int):=rfl;have h1:uJ N b [49]=some ((b.count 49:Nat):Int):=rfl;obtain ⟨c1,c2⟩:=Vt b;have hw:IntKind.i64.wrap (((b.count 48:Nat):Int)+((b.count 49:Nat):Int))=((b.count 48+b.count 49:Nat):Int):=by rw [dC (by omega)];omega
 unfold EU;rw [ht,aC,h0,aC,h1,aC,hw]
 by_cases h:MX b=true
 ·rw [WS h,cT (by rfl),h,dT (by have:=c2.2 h;omega)]
 ·have hne:¬(b.count 48+b.count 49=b.length):=fun q=>h (c2.1 q)
  have hf:MX b=false:=by simpa using h
  rw [hf,dF (show ¬(((b.count 48+b.count 49:Nat):Int)=(b.length:Int)) by omega)]
  cases decide (Go.Lib.trimS b [48,49]=([]:List UInt8)) <;> rfl
def Gs (b:List UInt8):List Nat:=b.map fun c=>c.toNat-48
theorem Sg {b:List UInt8} (h:MX b=true):∀y∈Gs b,y<2:=fun y hy=>by
 obtain ⟨c,hc,rfl⟩:=List.mem_map.1 hy
 rcases of_decide_eq_true (List.all_eq_true.1 h c hc) with rfl | rfl <;> decide
theorem Vu {b:List UInt8} (h:MX b=true):H3 (Gs b)=b:=by
 unfold H3 Gs;rw [List.map_map]
 conv=>rhs;rw [←List.map_id b]
 refine List.map_congr_left fun c hc=>?_
 rcases of_decide_eq_true (List.all_eq_true.1 h c hc) with rfl | rfl <;> rfl
theorem aCh {h d e:Nat} (he:e<2^d) (hb:h*2^d+e<256):Ty .u8 ((h*2^d:Nat):Int) (e:Int)=((h*2^d+e:Nat):Int):=by
 unfold Ty;have hb':IntKind.u8.bits=8:=rfl
 have e1:(BitVec.ofInt IntKind.u8.bits ((h*2^d:Nat):Int) ||| BitVec.ofInt IntKind.u8.bits (e:Int)).toNat=h*2^d+e:=by
  rw [BitVec.toNat_or,BitVec.ofInt_natCast,BitVec.ofInt_natCast,BitVec.toNat_ofNat,BitVec.toNat_ofNat,hb',Nat.mod_eq_of_lt (show h*2^d<2^8 by omega),Nat.mod_eq_of_lt (show e<2^8 by omega)];rw [Nat.mul_comm h,Nat.two_pow_add_eq_or_of_lt he]
 rw [e1,G5,Nat.mod_eq_of_lt hb]
theorem aI2 {b k:Nat} (hk:k≤8) (h:b*2^k<256):wN .u8 (b:Int) (k:Int)=((b*2^k:Nat):Int):=by
 unfold wN
 have:min ((k:Int)).toNat IntKind.u8.bits=k:=by
  rw [Int.toNat_natCast];exact Nat.min_eq_left hk
 rw [this,show (2:Int)^k=((2^k:Nat):Int) by simp,←Int.natCast_mul,G5,Nat.mod_eq_of_lt h]
theorem Sh (f:Nat→Nat):∀t r,(∀q,t≤q→f q=0)→num 2 ((List.range (t+r)).map f)=num 2 ((List.range t).map f)*2^r
 | t,0,_=>by simp
 | t,r+1,h=>by
  rw [←Nat.add_assoc,List.range_succ,List.map_append,List.map_singleton,Ik,Sh f t r h,h (t+r) (by omega),Nat.add_zero,Nat.pow_succ,Nat.mul_assoc]
theorem aEP {M k:Nat} {l:List Nat} (hk:k<l.length) (hM:k/8<M) :
  (gr M (l.take k)).getD (k/8) 0=num 2 ((List.range (k%8)).map fun t=>l.getD (8*(k/8)+t) 0)*2^(8-k%8) ∧
  gr M (l.take (k+1))=(gr M (l.take k)).set (k/8) (num 2 ((List.range (k%8)).map fun t=>l.getD (8*(k/8)+t) 0)*2^(8-k%8)+l.getD k 0*2^(7-k%8)):=by
 have hmod:k%8<8:=Nat.mod_lt _ (by decide);have hdm:8*(k/8)+k%8=k:=Nat.div_add_mod k 8
 have get:∀n i,(l.take n).getD i 0=if i<n then l.getD i 0 else 0:=fun n i=>by
  rw [List.getD_eq_getElem?_getD,List.getD_eq_getElem?_getD,List.getElem?_take]
  split <;> rfl
 have hval:∀n,8*(k/8)≤n→n≤8*(k/8)+8→num 2 ((List.range 8).map fun t=>(l.take n).getD (8*(k/8)+t) 0)=num 2 ((List.range (n-8*(k/8))).map fun t=>l.getD (8*(k/8)+t) 0)*2^(8-(n-8*(k/8))):=fun n h1 h2=>by
  have:=Sh (fun t=>(l.take n).getD (8*(k/8)+t) 0) (n-8*(k/8)) (8-(n-8*(k/8))) (fun q hq=>by rw [get,if_neg (by omega)]);rw [show n-8*(k/8)+(8-(n-8*(k/8)))=8 by omega] at this;rw [this]
  congr 2
  refine List.map_congr_left fun t ht=>?_
  have:=List.mem_range.1 ht;rw [get,if_pos (by omega)]
 have hv0:=hval k (by omega) (by omega);have hv1:=hval (k+1) (by omega) (by omega);rw [show k-8*(k/8)=k%8 by omega] at hv0;rw [show k+1-8*(k/8)=k%8+1 by omega,List.range_succ (n:=k%8),List.map_append,List.map_singleton,Ik,hdm,Nat.add_mul] at hv1
 have e2:num 2 ((List.range (k%8)).map fun t=>l.getD (8*(k/8)+t) 0)*2*2^(8-(k%8+1))=num 2 ((List.range (k%8)).map fun t=>l.getD (8*(k/8)+t) 0)*2^(8-k%8):=by
  rw [Nat.mul_assoc,show 8-k%8=8-(k%8+1)+1 by omega,Nat.pow_succ,Nat.mul_comm 2]
 rw [e2,show 8-(k%8+1)=7-k%8 by omega] at hv1;have hgl:∀n,(gr M (l.take n)).length=M:=fun n=>by simp [gr]
 have hgg:∀n g,g<M→(gr M (l.take n))[g]? = some (num 2 ((List.range 8).map fun t=>(l.take n).getD (8*g+t) 0)):=fun n g hg=>by
  unfold gr;rw [List.getElem?_map,List.getElem?_range hg];rfl
 constructor
 ·rw [List.getD_eq_getElem?_getD,hgg k _ hM,hv0];rfl
 ·apply List.ext_getElem?
  intro g
  by_cases hg:g<M
  ·by_cases he:k/8=g
   ·subst he;rw [hgg _ _ hM,List.getElem?_set_self (by rw [hgl];exact hM),hv1]
   ·rw [List.getElem?_set_ne he,hgg _ _ hg,hgg _ _ hg]
    congr 2
    refine List.map_congr_left fun t ht=>?_
    have:=List.mem_range.1 ht;rw [get,get]
    by_cases q:8*g+t<k
    ·rw [if_pos (by omega),if_pos q]
    ·rw [if_neg q,if_neg]
     omega
  ·rw [List.getElem?_eq_none (by rw [hgl];omega),List.getElem?_eq_none (by rw [List.length_set,hgl];omega)]
theorem MY (l:List Nat) (i v:Nat):wI (l.set i v)=(wI l).set i (v:Int):=by simp [wI,List.map_set]
theorem MZ {l:List Nat} {i:Nat} (h:i<l.length):idx (wI l) (i:Int)=some ((l.getD i 0:Nat):Int):=by
 rw [dH,wI,List.getElem?_map,List.getElem?_eq_getElem h,List.getD_eq_getElem?_getD,List.getElem?_eq_getElem h];rfl
theorem WT (N:Nat) {l:List Nat} (h2:∀y∈l,y<2) (hl:l.length≤16777216) (kk):∀(j k fuel:Nat),k+j=l.length→j<fuel →
  uP N (H3 l) kk fuel (wI (gr ((l.length+7)/8) (l.take k)),(k:Int))=kk (wI (gr ((l.length+7)/8) l),(l.length:Int)):=by
 intro j
 induction j with
 | zero=>
  intro k fuel hk hf;obtain ⟨fuel,rfl⟩:=mK fuel (by omega);obtain rfl:k=l.length:=by omega
  unfold uP;rw [cF (dF (by rw [AO];omega)),List.take_length]
 | succ j ih=>
  intro k fuel hk hf;obtain ⟨fuel,rfl⟩:=mK fuel (by omega);have hlt:k<l.length:=by omega
  have hih:=ih (k+1) fuel (by omega) (by omega);have hmod:k%8<8:=Nat.mod_lt _ (by decide);have hM:k/8<(l.length+7)/8:=by omega
  obtain ⟨s1,s2⟩:=aEP (M:=(l.length+7)/8) hlt hM;obtain ⟨g1,g2,g3⟩:=Vs hlt h2;have hgl:(gr ((l.length+7)/8) (l.take k)).length=(l.length+7)/8:=by simp [gr]
  have hn:num 2 ((List.range (k%8)).map fun t=>l.getD (8*(k/8)+t) 0)<2^(k%8):=by
   have:=QD (B:=2) ((List.range (k%8)).map fun t=>l.getD (8*(k/8)+t) 0) fun y hy=>by
    obtain ⟨q,_,rfl⟩:=List.mem_map.1 hy;rw [List.getD_eq_getElem?_getD]
    by_cases hq:8*(k/8)+q<l.length
    ·rw [List.getElem?_eq_getElem hq];exact h2 _ (List.getElem_mem hq)
    ·rw [List.getElem?_eq_none (by omega)];decide
   rwa [List.length_map,List.length_range] at this
  rw [s2] at hih;have hold:=MZ (l:=gr ((l.length+7)/8) (l.take k)) (i:=k/8) (by omega);rw [s1] at hold
  generalize gr ((l.length+7)/8) (l.take k)=G at *
  generalize num 2 ((List.range (k%8)).map fun t=>l.getD (8*(k/8)+t) 0)=v at *
  generalize l.getD k 0=b at *
  have p1:2^(8-k%8)=2*2^(7-k%8):=by rw [show 8-k%8=7-k%8+1 by omega,Nat.pow_succ,Nat.mul_comm]
  have p2:2^(7-k%8)≤128:=Nat.pow_le_pow_right (show 0<2 by decide) (show 7-k%8≤7 by omega)
  have p3:(v+1)*2^(8-k%8)≤256:=by
   have:=Nat.mul_le_mul_right (2^(8-k%8)) hn;rw [←Nat.pow_add,show k%8+(8-k%8)=8 by omega] at this;exact this
  have p0:=Nat.two_pow_pos (7-k%8)
  have p4:b*2^(7-k%8)<2^(8-k%8):=by
   have:=Nat.mul_le_mul_right (2^(7-k%8)) (show b≤1 by omega)
   omega
  rw [Nat.add_mul,Nat.one_mul] at p3;have ediv:IntKind.i64.wrap (Int.tdiv (k:Int) 8)=((k/8:Nat):Int):=by rw [show Int.tdiv (k:Int) 8=((k/8:Nat):Int) from rfl,dC (by omega)]
  have aI3:IntKind.i64.wrap (7-Int.tmod (k:Int) 8)=((7-k%8:Nat):Int):=by rw [show Int.tmod (k:Int) 8=((k%8:Nat):Int) from rfl,dC (by omega)];omega
  have eb:IntKind.u8.wrap (((48+b:Nat):Int)-48)=(b:Int):=by rw [show ((48+b:Nat):Int)-48=(b:Int) by omega,G5];omega
  have eor:Ty .u8 ((v*2^(8-k%8):Nat):Int) (wN .u8 (b:Int) ((7-k%8:Nat):Int))=((v*2^(8-k%8)+b*2^(7-k%8):Nat):Int):=by rw [aI2 (by omega) (by omega),aCh p4 (by omega)]
  have hset:yK (wI G) ((k/8:Nat):Int) ((v*2^(8-k%8)+b*2^(7-k%8):Nat):Int)=some (wI (G.set (k/8) (v*2^(8-k%8)+b*2^(7-k%8)))):=by
   unfold yK;rw [if_pos (by rw [pV];omega),Int.toNat_natCast,MY]
  unfold uP;rw [cT (dT (by rw [AO];omega)),ediv,aC,hold,aC,g1,aC,g2,aI3,Bq,aC,aC,eb,eor,hset,aC,dC (x:=(k:Int)+1) (by omega)];exact hih
theorem aEQ (M:Nat):gr M []=List.replicate M 0:=by
 unfold gr
 apply List.ext_getElem?
 intro g
 by_cases h:g<M
 ·rw [List.getElem?_map,List.getElem?_range h,List.getElem?_replicate,if_pos h];rfl
 ·rw [List.getElem?_eq_none (by simp;omega),List.getElem?_eq_none (by simp;omega)]
theorem T5 (N:Nat) {b:List UInt8} (hb:b.length≤16777216) (hN:b.length<N):zV N b=some (if MX b=true then ((gr ((b.length+7)/8) (Gs b)).map UInt8.ofNat,0) else ([],1)):=by
 unfold zV;rw [all_eq N hb,aC]
 by_cases h:MX b=true
 rotate_left
 ·have hf:MX b=false:=by simpa using h
  rw [hf];rfl
 rw [h,cF (by rfl),if_pos rfl];have hlen:(Gs b).length=b.length:=by simp [Gs]
 have e1:IntKind.i64.wrap (Int.tdiv (IntKind.i64.wrap ((b.length:Int)+7)) 8)=(((b.length+7)/8:Nat):Int):=by
  rw [dC (x:=(b.length:Int)+7) (by omega),show (b.length:Int)+7=((b.length+7:Nat):Int) by omega,show Int.tdiv ((b.length+7:Nat):Int) 8=(((b.length+7)/8:Nat):Int) from rfl,dC (by omega)]
 rw [e1,aC,mk_eq (by omega),aC,Int.toNat_natCast];have key:=WT N (l:=Gs b) (Sg h) (by omega) (fun x:List Int × Int=>some (toB x.1,(0:Int))) (Gs b).length 0 N (by omega) (by omega);rw [List.take_zero,aEQ,Vu h,hlen] at key;have hz:wI (List.replicate ((b.length+7)/8) 0)=List.replicate ((b.length+7)/8) 0:=by simp [wI]
 rw [hz] at key;refine Eq.trans key ?_
 dsimp only
 rw [Km]
theorem WU (N:Nat) {b:List UInt8} (h:MX b=true) (hb:b.length≤16777216) (hN:100≤N∧b.length<N):jT N b=some ((gr ((b.length+7)/8) (Gs b)).map UInt8.ofNat):=by
 have hlen:(Gs b).length=b.length:=by simp [Gs]
 have:=Sf N (Gs b) (Sg h) (by omega) (by omega);rw [Vu h,hlen] at this;exact this
theorem aCi {T k Y:Nat} (h:k<T):(zC 2 T Y)[k]? = some (Y/2^(T-1-k)%2):=by
 have e:zC 2 T Y=zC 2 k (Y/2^(1+(T-1-k)))++([Y/2^(T-1-k)%2]++zC 2 (T-1-k) Y):=by
  conv=>lhs;rw [show T=k+(1+(T-1-k)) by omega]
  rw [Fy,Fy 2 1]
  rfl
 rw [e,List.getElem?_append_right (by rw [uS];exact Nat.le_refl _),uS,Nat.sub_self]
 rfl
def MB (size n k:Nat):List Int:=wI (Il ((zC 2 size n).take k)++List.replicate (size-k) 0)
theorem WV (N:Nat) {size n:Nat} (hs:size≤16) (hn:n<9223372036854775808) (kk):∀(j k fuel:Nat),k+j=size→j<fuel →
  tR N (n:Int) (size:Int) kk fuel (MB size n k,(size:Int),(k:Int))=kk (MB size n size,(size:Int),(size:Int)):=by
 intro j
 induction j with
 | zero=>
  intro k fuel hk hf;obtain ⟨fuel,rfl⟩:=mK fuel (by omega);obtain rfl:k=size:=by omega
  unfold tR;rw [cF (dF (by omega))]
 | succ j ih=>
  intro k fuel hk hf;obtain ⟨fuel,rfl⟩:=mK fuel (by omega);have hlt:k<size:=by omega
  have hih:=ih (k+1) fuel (by omega) (by omega);have ew:IntKind.i64.wrap (IntKind.i64.wrap ((size:Int)-1)-(k:Int))=((size-1-k:Nat):Int):=by rw [dC (x:=(size:Int)-1) (by omega),dC (by omega)];omega
  have eb:Eg .i64 (rL .i64 (n:Int) ((size-1-k:Nat):Int)) 1=((n/2^(size-1-k)%2:Nat):Int):=by
   rw [MW (by omega)];exact R9 (k:=1) (Nat.lt_of_le_of_lt (Nat.div_le_self _ _) hn) (by decide)
  have hg:=aCi (Y:=n) hlt;have hb2:n/2^(size-1-k)%2<2:=Nat.mod_lt _ (by decide);have hl:=uS 2 size n
  generalize hbv:n/2^(size-1-k)%2=b at *
  have hc:idx ([48,49]:List UInt8) (b:Int)=some (UInt8.ofNat (48+b)):=by
   rcases (show b=0∨b=1 by omega) with rfl | rfl <;> rfl
  have hcn:((UInt8.ofNat (48+b)).toNat:Int)=((48+b:Nat):Int):=by rw [UInt8.toNat_ofNat',Nat.mod_eq_of_lt (by omega)]
  have ht:(zC 2 size n).take (k+1)=(zC 2 size n).take k++[b]:=by
   rw [List.take_add_one,hg];rfl
  have hl1:(Il ((zC 2 size n).take k)).length=k:=by simp [Il,hl];omega
  have hlen:(MB size n k).length=size:=by
   unfold MB;rw [pV,List.length_append,hl1,List.length_replicate];omega
  have hget:∃e,idx (MB size n k) (k:Int)=some e:=by rw [dH];exact ⟨_,List.getElem?_eq_getElem (by omega)⟩
  obtain ⟨e,he⟩:=hget
  have hset:yK (MB size n k) (k:Int) ((48+b:Nat):Int)=some (MB size n (k+1)):=by
   unfold yK;rw [if_pos (by omega),Int.toNat_natCast];unfold MB;rw [←MY,ht,WQ,show size-k=(size-(k+1))+1 by omega,List.replicate_succ,List.append_assoc]
   congr 2
   rw [List.set_append_right _ _ (by omega),hl1,Nat.sub_self]
   rfl
  unfold tR;rw [cT (dT (by omega)),ew,Bq,aC,eb,hc,aC,he,aC,hcn,hset,aC,dC (x:=(k:Int)+1) (by omega)];exact hih
theorem WW (N:Nat) (hN:100≤N) {size n:Nat} (hs:size≤16) (hn:n<9223372036854775808):Aw N (n:Int) (size:Int)=some (H3 (zC 2 size n)):=by
 unfold Aw;rw [mk_eq (by omega),aC,Int.toNat_natCast];have key:=WV N hs hn (fun x:List Int × Int × Int=>some (toB x.1)) size 0 N (by omega) (by omega);have h0:MB size n 0=List.replicate size 0:=by unfold MB;simp [Il,wI]
 have h1:MB size n size=wI (Il (zC 2 size n)):=by
  unfold MB;rw [Nat.sub_self,List.take_of_length_le (by rw [uS];exact Nat.le_refl _)];simp
 rw [h0,h1] at key;rw [List.length_replicate];refine Eq.trans key ?_
 dsimp only
 rw [Km,WR]
def zD (n size:Int):Int:=if 0≤size∧size≤16 then (if 0≤n∧n<((2^size.toNat:Nat):Int) then 0 else 3) else 3
theorem IL {d:Nat} (hd:d≤16):wN .i64 1 (d:Int)=((2^d:Nat):Int):=by
 have hp:=Dl hd;have:=IK (h:=1) (k:=d) (by omega) (by omega);rw [Nat.one_mul] at this;exact this
theorem Im (N:Nat) (hN:100≤N) (n size:Int):oU N n size=some (if zD n size=0 then (H3 (zC 2 size.toNat n.toNat),0) else ([],3)):=by
 unfold oU
 by_cases h1:size<0
 ·have:zD n size=3:=by unfold zD;rw [if_neg (by omega)]
  rw [cT (dT h1),this];rfl
 rw [cF (dF h1)]
 by_cases h2:16<size
 ·have:zD n size=3:=by unfold zD;rw [if_neg (by omega)]
  rw [cT (dT h2),this];rfl
 rw [cF (dF h2)];obtain ⟨d,rfl⟩:=Int.eq_ofNat_of_zero_le (show 0≤size by omega);have hp:=Dl (d:=d) (by omega)
 by_cases h3:n<0
 ·have:zD n d=3:=by unfold zD;rw [if_pos (by omega),if_neg (by omega)]
  rw [cT (dT h3),this];rfl
 rw [cF (dF h3),Bq,aC,IL (by omega)]
 by_cases h4:((2^d:Nat):Int)≤n
 ·have:zD n d=3:=by unfold zD;rw [if_pos (by omega),Int.toNat_natCast,if_neg (by omega)]
  rw [cT (dT h4),this];rfl
 have hz:zD n d=0:=by unfold zD;rw [if_pos (by omega),Int.toNat_natCast,if_pos (by omega)]
 obtain ⟨m,rfl⟩:=Int.eq_ofNat_of_zero_le (show 0≤n by omega);rw [cF (dF h4),WW N hN (by omega) (by omega),aC,if_pos hz,Int.toNat_natCast,Int.toNat_natCast]
theorem NO (N:Nat) (hN:100≤N) {n size:Int} (h:zD n size=0):mM N n size=some (H3 (zC 2 size.toNat n.toNat)):=by
 unfold zD at h
 by_cases h1:0≤size∧size≤16
 rotate_left
 ·rw [if_neg h1] at h;cases h
 rw [if_pos h1] at h;obtain ⟨d,rfl⟩:=Int.eq_ofNat_of_zero_le h1.1;have hp:=Dl (d:=d) (by omega)
 by_cases h2:0≤n∧n<((2^(d:Int).toNat:Nat):Int)
 rotate_left
 ·rw [if_neg h2] at h;cases h
 rw [Int.toNat_natCast] at h2;obtain ⟨m,rfl⟩:=Int.eq_ofNat_of_zero_le h2.1;rw [Int.toNat_natCast,Int.toNat_natCast];exact number_eq hN (by omega) (by omega)
def rm (n:Nat):Nat:=if 0<n then 2^(15-n) else 0
theorem aDc (n:Nat):rm n≤16384:=by
 unfold rm
 split
 ·exact Nat.le_trans (Nat.pow_le_pow_right (by decide) (show 15-n≤14 by omega)) (by decide)
 ·omega
def I1 (l:List Int):Nat:=(l.map fun e=>rm e.toNat).sum
theorem LE (e:Int) (l:List Int):I1 (e::l)=rm e.toNat+I1 l:=by simp [I1]
def Ja (e:Int):Bool:=decide (0≤e∧e≤15)
def wY (l:List Int):Int:=if l.length<1∨17<l.length then 2 else if l.all Ja=true then (if I1 l=0∨32768<I1 l then 1 else 0) else 3
theorem Zt {e:Int} (h:0<e) (h2:e≤15):wN .i64 1 (IntKind.i64.wrap (15-e))=((rm e.toNat:Nat):Int)∧nn (IntKind.i64.wrap (15-e))=some ():=by
 have h0:IntKind.i64.wrap (15-e)=((15-e.toNat:Nat):Int):=by rw [dC (by omega)];omega
 rw [h0,IL (by omega),Bq,rm,if_pos (by omega)];exact ⟨rfl,rfl⟩
theorem Zu (N:Nat) {l:List Int} (hl:l.length≤17) (kk):∀(j k fuel:Nat) (room:Int),k+j=l.length→j<fuel→-1000000-16384*(k:Int)≤room∧room≤1000000 →
  sS N l kk fuel (room,(k:Int))=if (l.drop k).all Ja=true then kk (room-(I1 (l.drop k):Nat),(l.length:Int)) else some 3:=by
 intro j
 induction j with
 | zero=>
  intro k fuel room hk hf hr;obtain ⟨fuel,rfl⟩:=mK fuel (by omega);obtain rfl:k=l.length:=by omega
  unfold sS;rw [cF (dF (by omega)),List.drop_length,if_pos (by rfl),show I1 ([]:List Int)=0 by rfl]
  simp
 | succ j ih=>
  intro k fuel room hk hf hr;obtain ⟨fuel,rfl⟩:=mK fuel (by omega);have hlt:k<l.length:=by omega
  have hnx:IntKind.i64.wrap ((k:Int)+1)=((k+1:Nat):Int):=by rw [dC (by omega)];rfl
  rw [List.drop_eq_getElem_cons hlt,List.all_cons,LE];unfold sS;rw [cT (dT (by omega)),dH,List.getElem?_eq_getElem hlt,aC]
  by_cases h0:l[k]<0
  ·rw [cT (dT h0),if_neg];rw [show Ja l[k]=false from dF (by omega)];simp
  ·rw [cF (dF h0)]
   by_cases h1:15<l[k]
   ·rw [cT (dT h1),if_neg];rw [show Ja l[k]=false from dF (by omega)];simp
   ·rw [cF (dF h1),show Ja l[k]=true from dT (by omega),Bool.true_and]
    by_cases h2:0<l[k]
    ·obtain ⟨e1,e2⟩:=Zt h2 (by omega);have hr2:=aDc l[k].toNat;rw [cT (dT h2),e2,aC,aC,e1,dC (x:=room-_) (by omega),hnx,ih (k+1) fuel _ (by omega) (by omega) (by omega)]
     congr 2
     rw [Prod.mk.injEq];exact ⟨by omega,rfl⟩
    ·rw [cF (dF h2),hnx,ih (k+1) fuel _ (by omega) (by omega) (by omega),show rm l[k].toNat=0 by rw [rm,if_neg (by omega)],Nat.zero_add]
theorem JK (N:Nat) (hN:100≤N) (l:List Int):zU N l=some (wY l):=by
 unfold zU wY
 by_cases h1:l.length<1
 ·rw [cT (dT (by omega)),if_pos (.inl h1)]
 rw [cF (dF (by omega))]
 by_cases h2:17<l.length
 ·rw [cT (dT (by omega)),if_pos (.inr h2)]
 rw [cF (dF (by omega)),if_neg (by omega)];have key:=Zu N (l:=l) (by omega) (fun (Pp,i2)=>cond (decide (Pp<0)) (some 1) (cond (decide (Pp=32768)) (some 1) (some 0))) l.length 0 N 32768 (by omega) (by omega) (by omega);rw [List.drop_zero] at key;refine Eq.trans key ?_
 by_cases h3:l.all Ja=true
 ·rw [if_pos h3,if_pos h3]
  dsimp only
  by_cases h4:32768<I1 l
  ·rw [cT (dT (by omega)),if_pos (.inr h4)]
  ·rw [cF (dF (by omega))]
   by_cases h5:I1 l=0
   ·rw [cT (dT (by omega)),if_pos (.inl h5)]
   ·rw [cF (dF (by omega)),if_neg (by omega)]
 ·rw [if_neg h3,if_neg h3]
theorem Si (N:Nat) {l:List Int} (hl:l.length≤17) (kk):∀(j k fuel:Nat) (sum:Nat) (used:Bool),k+j=l.length→j<fuel→sum≤1000000+16384*k →
  iJ N l kk fuel ((sum:Int),used,(k:Int))=if (l.drop k).all Ja=true then kk (((sum+I1 (l.drop k):Nat):Int),used||decide (0<I1 (l.drop k)),(l.length:Int)) else some 3:=by
 intro j
 induction j with
 | zero=>
  intro k fuel sum used hk hf hr;obtain ⟨fuel,rfl⟩:=mK fuel (by omega);obtain rfl:k=l.length:=by omega
  unfold iJ;rw [cF (dF (by omega)),List.drop_length,if_pos (by rfl),show I1 ([]:List Int)=0 by rfl]
  simp
 | succ j ih=>
  intro k fuel sum used hk hf hr;obtain ⟨fuel,rfl⟩:=mK fuel (by omega);have hlt:k<l.length:=by omega
  have hnx:IntKind.i64.wrap ((k:Int)+1)=((k+1:Nat):Int):=by rw [dC (by omega)];rfl
  rw [List.drop_eq_getElem_cons hlt,List.all_cons,LE];unfold iJ;rw [cT (dT (by omega)),dH,List.getElem?_eq_getElem hlt,aC,B3,aC]
  by_cases h0:0≤l[k]∧l[k]≤15
  ·rw [show Ja l[k]=true from dT h0,cF (by rw [dT h0];rfl),aC,Bool.true_and]
   by_cases h2:0<l[k]
   ·obtain ⟨e1,e2⟩:=Zt h2 (by omega);have hr2:=aDc l[k].toNat;have hpos:0<rm l[k].toNat:=by rw [rm,if_pos (by omega)];exact Nat.two_pow_pos _
    rw [cT (dT h2),aC,e2,aC,aC,e1,hnx,aC,dC (x:=(sum:Int)+_) (by omega),show ((sum:Int)+(rm l[k].toNat:Nat))=((sum+rm l[k].toNat:Nat):Int) by omega,ih (k+1) fuel _ _ (by omega) (by omega) (by omega)];rw [Bool.true_or,dT (show 0<rm l[k].toNat+I1 (l.drop (k+1)) by omega),Bool.or_true,Nat.add_assoc]
   ·rw [cF (dF h2),hnx,aC,ih (k+1) fuel _ _ (by omega) (by omega) (by omega),show rm l[k].toNat=0 by rw [rm,if_neg (by omega)],Nat.zero_add]
  ·rw [show Ja l[k]=false from dF h0,cT (by rw [dF h0];rfl),if_neg (by simp)]
theorem PD (N:Nat) (hN:100≤N) (l:List Int):j1 N l=some (wY l):=by
 unfold j1 wY;rw [B3,aC]
 by_cases h1:l.length<1∨17<l.length
 ·rw [cT (by rw [dF (by omega)];rfl),if_pos h1]
 rw [cF (by rw [dT (by omega)];rfl),if_neg h1];have key:=Si N (l:=l) (by omega) (fun (aBn,U1,i6)=>cond (!(U1)) (some 1) (cond (decide (32768<aBn)) (some 1) (some 0))) l.length 0 N 0 false (by omega) (by omega) (by omega);rw [List.drop_zero] at key;refine Eq.trans key ?_
 by_cases h3:l.all Ja=true
 ·rw [if_pos h3,if_pos h3]
  dsimp only
  rw [Bool.false_or]
  by_cases h5:I1 l=0
  ·rw [cT (by rw [dF (by omega)];rfl),if_pos (.inl h5)]
  ·rw [cF (by rw [dT (by omega)];rfl)]
   by_cases h4:32768<I1 l
   ·rw [cT (dT (by omega)),if_pos (.inr h4)]
   ·rw [cF (dF (by omega)),if_neg (by omega)]
 ·rw [if_neg h3,if_neg h3]
def ky (ns:List Nat) (i:Nat):Nat:=ns.getD i 0
def tot (ns o:List Nat):Nat:=(o.map fun i=>2^(15-ky ns i)).sum
def wrd (S n:Nat):List UInt8:=H3 (zC 2 n (S/2^(15-n)))
def Vv (ns:List Nat) (st:List (List UInt8) × Nat) (i:Nat):List (List UInt8) × Nat:=(st.1.set i (wrd st.2 (ky ns i)),st.2+2^(15-ky ns i))
theorem Vw (ns:List Nat):tot ns []=0:=rfl
theorem Gt (ns:List Nat) (i:Nat) (o:List Nat):tot ns (i::o)=2^(15-ky ns i)+tot ns o:=by simp [tot]
theorem M5 (ns o p:List Nat):tot ns (o++p)=tot ns o+tot ns p:=by simp [tot]
theorem M6 (ns:List Nat):∀(o:List Nat) (st:List (List UInt8) × Nat),(o.foldl (Vv ns) st).1.length=st.1.length
 | [],_=>rfl
 | i::o,st=>by rw [List.foldl_cons,M6 ns o];simp [Vv]
theorem QF (ns:List Nat):∀(o:List Nat) (st:List (List UInt8) × Nat),(o.foldl (Vv ns) st).2=st.2+tot ns o
 | [],_=>rfl
 | i::o,st=>by rw [List.foldl_cons,QF ns o,Gt];simp [Vv];omega
section
variable {ns:List Nat} (hn:∀n∈ns,n≤15) (hl:ns.length≤17)
theorem NP {i:Nat} (h:i<ns.length):idx (wI ns) (i:Int)=some ((ky ns i:Nat):Int):=MZ h
include hn in
theorem Sj (i:Nat):ky ns i≤15:=by
 unfold ky;rw [List.getD_eq_getElem?_getD]
 by_cases h:i<ns.length
 ·rw [List.getElem?_eq_getElem h];exact hn _ (List.getElem_mem h)
 ·rw [List.getElem?_eq_none (by omega)];exact Nat.zero_le _
theorem aGD (n:Nat):2^(15-n)≤32768:=Nat.le_trans (Nat.pow_le_pow_right (by decide) (show 15-n≤15 by omega)) (by decide)
include hn hl in
theorem Zv (N:Nat) (hN:100≤N) (o:List Nat) (ho:∀i∈o,i<ns.length) (hol:o.length≤17) (kk):∀(j k fuel:Nat) (out:List (List UInt8)) (S:Nat),k+j=o.length→j<fuel→out.length=ns.length→S+tot ns (o.drop k)≤32768 →
  qS N (wI ns) (wI o) kk fuel (out,(S:Int),(k:Int))=kk (((o.drop k).foldl (Vv ns) (out,S)).1,((S+tot ns (o.drop k):Nat):Int),(o.length:Int)):=by
 intro j
 induction j with
 | zero=>
  intro k fuel out S hk hf hout hS;obtain ⟨fuel,rfl⟩:=mK fuel (by omega);obtain rfl:k=o.length:=by omega
  unfold qS;rw [cF (dF (by rw [pV];omega)),List.drop_length];rfl
 | succ j ih=>
  intro k fuel out S hk hf hout hS;obtain ⟨fuel,rfl⟩:=mK fuel (by omega);have hlt:k<o.length:=by omega
  have hi:o[k]<ns.length:=ho _ (List.getElem_mem hlt);have aJI:=Sj hn o[k];rw [List.drop_eq_getElem_cons hlt,Gt] at hS ⊢;have hp:=aGD (ky ns o[k]);have hp0:=Nat.two_pow_pos (15-ky ns o[k]);have h15:IntKind.i64.wrap (15-(ky ns o[k]:Nat))=((15-ky ns o[k]:Nat):Int):=by rw [dC (by omega)];omega
  have hget:idx (wI o) (k:Int)=some ((o[k]:Nat):Int):=by rw [MZ hlt,List.getD_eq_getElem?_getD,List.getElem?_eq_getElem hlt];rfl
  have aI4:zD ((S/2^(15-ky ns o[k]):Nat):Int) ((ky ns o[k]:Nat):Int)=0:=by
   have:S/2^(15-ky ns o[k])<2^ky ns o[k]:=by
    refine Nat.div_lt_of_lt_mul ?_;rw [←Nat.pow_add,show 15-ky ns o[k]+ky ns o[k]=15 by omega];show S<32768
    omega
   unfold zD;rw [if_pos (by omega),Int.toNat_natCast,if_pos ⟨Int.natCast_nonneg _,Int.ofNat_lt.2 this⟩]
  have hset:∀v,yK out (o[k]:Int) v=some (out.set o[k] v):=fun v=>by rw [BY (by omega),Int.toNat_natCast]
  have hio:∃e,idx out (o[k]:Int)=some e:=by rw [dH];exact ⟨_,List.getElem?_eq_getElem (by omega)⟩
  obtain ⟨e,he⟩:=hio;have hnx:IntKind.i64.wrap ((k:Int)+1)=((k+1:Nat):Int):=by rw [dC (by omega)];rfl
  have hih:=ih (k+1) fuel (out.set o[k] (wrd S (ky ns o[k]))) (S+2^(15-ky ns o[k])) (by omega) (by omega) (by rw [List.length_set];exact hout) (by omega);unfold qS;rw [cT (dT (by rw [pV];omega)),hget,aC,NP hi,aC,h15,Bq,aC,aC,MW (by omega),Im N hN,if_pos aI4,aC,he,aC,hset,aC,aC,h15,Bq,aC,IL (by omega),dC (x:=(S:Int)+_) (by omega),aC,hnx,Int.toNat_natCast,Int.toNat_natCast,show (S:Int)+((2^(15-ky ns o[k]):Nat):Int)=((S+2^(15-ky ns o[k]):Nat):Int) by omega];refine Eq.trans hih ?_;rw [List.foldl_cons,Nat.add_assoc]
  rfl
def pos (ns:List Nat) (i:Nat):Bool:=decide (0<ky ns i)
include hl in
theorem Zw (N:Nat) (kk):∀(j k fuel:Nat) (A:List Nat),k+j=ns.length→j<fuel→A.length≤k →
  sV N (wI ns) kk fuel (wI A,(k:Int))=kk (wI (A++(List.range' k j).filter (pos ns)),(ns.length:Int)):=by
 intro j
 induction j with
 | zero=>
  intro k fuel A hk hf hA;obtain ⟨fuel,rfl⟩:=mK fuel (by omega);obtain rfl:k=ns.length:=by omega
  unfold sV;rw [cF (dF (by rw [pV];omega))];simp
 | succ j ih=>
  intro k fuel A hk hf hA;obtain ⟨fuel,rfl⟩:=mK fuel (by omega);have hlt:k<ns.length:=by omega
  have hnx:IntKind.i64.wrap ((k:Int)+1)=((k+1:Nat):Int):=by rw [dC (by omega)];rfl
  unfold sV;rw [cT (dT (by rw [pV];omega)),NP hlt,aC,List.range'_succ]
  by_cases h:0<ky ns k
  ·have happ:app 8 (wI A) ([(k:Int)]:List Int)=some (wI (A++[k])):=by
    rw [lI (by rw [pV];simp;omega),Kl];rfl
   rw [cT (dT (by omega)),happ,aC,hnx,ih (k+1) fuel _ (by omega) (by omega) (by simp;omega),List.filter_cons,if_pos (show pos ns k=true from dT h),List.append_assoc]
   rfl
  ·rw [cF (dF (by omega)),hnx,ih (k+1) fuel _ (by omega) (by omega) (by omega),List.filter_cons,if_neg (by rw [show pos ns k=false from dF h];simp)]
def OV (f:Nat→Nat) (x:Nat):List Nat→List Nat→List Nat
 | [],B=>x::B
 | y::A,B=>if f x<f y then OV f x A (y::B) else (y::A).reverse++x::B
theorem Vx (f:Nat→Nat) (x:Nat):∀A B C,OV f x A (B++C)=OV f x A B++C
 | [],B,C=>rfl
 | y::A,B,C=>by
  unfold OV
  split
  ·rw [←List.cons_append,Vx f x A]
  ·simp
theorem Vy (f:Nat→Nat) (x:Nat):∀A B,(OV f x A B).length=A.length+B.length+1
 | [],B=>by simp [OV]
 | y::A,B=>by
  unfold OV
  split
  ·rw [Vy f x A];simp;omega
  ·simp;omega
theorem Sk (f:Nat→Nat) (x:Nat) (A1:List Nat) (h1:∀y∈A1,f y≤f x):∀(R:List Nat) (B:List Nat),(∀y∈R,f x<f y)→OV f x (R++A1.reverse) B=A1++x::(R.reverse++B)
 | [],B,_=>by
  rcases hA:A1.reverse with _ | ⟨y,A⟩
  ·have:A1=[]:=by simpa using hA
   subst this;rfl
  ·have hy:f y≤f x:=h1 y (by rw [←List.mem_reverse,hA];simp);rw [List.nil_append];unfold OV;rw [if_neg (by omega),←hA,List.reverse_reverse];rfl
 | y::R,B,h=>by
  have hy:=h y (by simp);show OV f x (y::(R++A1.reverse)) B=_;unfold OV;rw [if_pos hy,Sk f x A1 h1 R (y::B) (fun z hz=>h z (by simp [hz]))]
  simp
theorem cmp_eq (N:Nat) {a b:Nat} (ha:a<ns.length) (hb:b<ns.length):yQ N (a:Int) (b:Int) (wI ns)=some (if ky ns a<ky ns b then -1 else if ky ns b<ky ns a then 1 else 0):=by
 unfold yQ;rw [NP ha,aC,NP hb,aC];unfold yF xA;rw [aC,aC,cF (by simp),cF (by simp)]
 by_cases h1:ky ns a<ky ns b
 ·rw [cT (dT (by omega)),if_pos h1];rfl
 ·rw [cF (dF (by omega)),if_neg h1]
  by_cases h2:ky ns b<ky ns a
  ·rw [cT (dT (by omega)),if_pos h2];rfl
  ·rw [cF (dF (by omega)),if_neg h2];rfl
theorem T6 {A:List Nat} {i x:Nat} (h:A[i]? = some x):idx (wI A) (i:Int)=some (x:Int):=by
 rw [dH,wI,List.getElem?_map,h];rfl
theorem Zx (N:Nat) (kk:List Int × Int→Option (List (List UInt8) × Int)) (r) (x:Nat) (hx:x<ns.length):∀(A B:List Nat) (fuel:Nat),(∀y∈A,y<ns.length)→A.length≤1000→A.length<fuel→(∀j,kk (wI (OV (ky ns) x A B),j)=r) →
  uO N (wI ns) kk fuel (wI (A.reverse++x::B),(A.length:Int))=r:=by
 intro A
 induction A with
 | nil=>
  intro B fuel hA hA2 hf hk;obtain ⟨fuel,rfl⟩:∃m,fuel=m+1:=⟨fuel-1,by simp at hf;omega⟩
  unfold uO;rw [cF (dF (by simp))];exact hk _
 | cons y A ih=>
  intro B fuel hA hA2 hf hk;simp only [List.length_cons] at hf hA2;obtain ⟨fuel,rfl⟩:=mK fuel (by omega);have hy:y<ns.length:=hA y (by simp);have g1:∀u v:Nat,(A.reverse++u::v::B)[A.length]? = some u:=fun u v=>by rw [List.getElem?_append_right (by simp)];simp
  have g2:∀u v:Nat,(A.reverse++u::v::B)[A.length+1]? = some v:=fun u v=>by rw [List.getElem?_append_right (by simp)];simp
  have eq:(y::A).reverse++x::B=A.reverse++y::x::B:=by simp
  have hm1:IntKind.i64.wrap (((A.length+1:Nat):Int)-1)=(A.length:Int):=by rw [dC (by omega)];omega
  rw [List.length_cons,eq];unfold uO;rw [cT (dT (by omega)),T6 (g2 y x),aC,hm1,T6 (g1 y x),aC,cmp_eq N hx hy,aC];unfold OV at hk
  by_cases h:ky ns x<ky ns y
  ·rw [if_pos h] at hk
   have s1:yK (wI (A.reverse++y::x::B)) (((A.length+1:Nat):Int)) ((y:Nat):Int)=some (wI (A.reverse++y::y::B)):=by
    rw [BY (by rw [pV];simp;omega),Int.toNat_natCast,←MY]
    congr 2
    rw [List.set_append,if_neg (by simp)];simp
   have s2:yK (wI (A.reverse++y::y::B)) ((A.length:Nat):Int) ((x:Nat):Int)=some (wI (A.reverse++x::y::B)):=by
    rw [BY (by rw [pV];simp;omega),Int.toNat_natCast,←MY]
    congr 2
    rw [List.set_append,if_neg (by simp)];simp
   rw [if_pos h,cT (by decide),aC,aC,aC,s1,aC,T6 (g1 y y),aC,s2,aC,aC];exact ih (y::B) fuel (fun z hz=>hA z (by simp [hz])) (by omega) (by omega) hk
  ·rw [if_neg h] at hk;rw [if_neg h,cF (by split <;> decide),←eq];exact hk _
def QG (f:Nat→Nat) (o:List Nat):List Nat:=o.foldl (fun A x=>OV f x A.reverse []) []
theorem Sl (f:Nat→Nat) (o:List Nat) (x:Nat):QG f (o++[x])=OV f x (QG f o).reverse []:=by simp [QG]
theorem Vz (f:Nat→Nat) (o:List Nat):(QG f o).length=o.length:=by
 have:∀(o A:List Nat),(o.foldl (fun A x=>OV f x A.reverse []) A).length=A.length+o.length:=by
  intro o
  induction o with
  | nil=>intro A;rfl
  | cons x o ih=>intro A;rw [List.foldl_cons,ih,Vy];simp;omega
 rw [QG,this];simp
end
section
variable {ns:List Nat} (hn:∀n∈ns,n≤15) (hl:ns.length≤17)
theorem Zy (N:Nat) (hN:100≤N) (kk:List Int × Int × Int→Option (List (List UInt8) × Int)) (r) {o:List Nat} (ho:∀i∈o,i<ns.length) (hol:o.length≤17) (hk:∀b j,kk (wI (QG (ky ns) o),b,j)=r):∀(j k fuel:Nat),k+j=o.length→j<fuel →
  pH N (wI ns) kk fuel (wI (QG (ky ns) (o.take k)++o.drop k),(o.length:Int),(k:Int))=r:=by
 intro j
 induction j with
 | zero=>
  intro k fuel hkj hf;obtain ⟨fuel,rfl⟩:=mK fuel (by omega);obtain rfl:k=o.length:=by omega
  unfold pH;rw [cF (dF (by omega)),List.take_length,List.drop_length,List.append_nil];exact hk _ _
 | succ j ih=>
  intro k fuel hkj hf;obtain ⟨fuel,rfl⟩:=mK fuel (by omega);have hlt:k<o.length:=by omega
  have hnx:IntKind.i64.wrap ((k:Int)+1)=((k+1:Nat):Int):=by rw [dC (by omega)];rfl
  have hih:=ih (k+1) fuel (by omega) (by omega);have htk:o.take (k+1)=o.take k++[o[k]]:=by rw [List.take_add_one,List.getElem?_eq_getElem hlt];rfl
  rw [htk,Sl] at hih;have hlen:(QG (ky ns) (o.take k)).length=k:=by rw [Vz,List.length_take];omega
  have hmem:∀y∈QG (ky ns) (o.take k),y<ns.length:=fun y hy=>by
   refine ho y (List.mem_of_mem_take (i:=k) ?_)
   have key:∀(p A:List Nat),(∀z∈A,z∈o.take k)→(∀z∈p,z∈o.take k)→∀z∈p.foldl (fun A x=>OV (ky ns) x A.reverse []) A,z∈o.take k:=by
    intro p
    induction p with
    | nil=>intro A hA _ z hz;exact hA z hz
    | cons x p ihp=>
     intro A hA hp z hz;rw [List.foldl_cons] at hz;refine ihp _ ?_ (fun z hz=>hp z (by simp [hz])) z hz;intro u hu
     have sub:∀(R B:List Nat),∀z∈OV (ky ns) x R B,z∈R∨z=x∨z∈B:=by
      intro R
      induction R with
      | nil=>intro B z hz;simp [OV] at hz;rcases hz with rfl | hz;exact .inr (.inl rfl);exact .inr (.inr hz)
      | cons q R ihR=>
       intro B z hz;unfold OV at hz
       split at hz
       ·rcases ihR _ z hz with h | h | h
        ·exact .inl (by simp [h])
        ·exact .inr (.inl h)
        ·rcases List.mem_cons.1 h with rfl | h
         ·exact .inl (by simp)
         ·exact .inr (.inr h)
       ·simp at hz
        rcases hz with h | h | h | h
        ·exact .inl (by simp [h])
        ·exact .inl (by simp [h])
        ·exact .inr (.inl h)
        ·exact .inr (.inr h)
     rcases sub _ _ u hu with h | h | h
     ·exact hA u (by simpa using h)
     ·subst h;exact hp u (by simp)
     ·cases h
   exact key (o.take k) [] (fun z hz=>by cases hz) (fun z hz=>hz) y hy
  unfold pH;rw [cT (dT (by omega)),List.drop_eq_getElem_cons hlt]
  have h3:=Zx (ns:=ns) N (fun (l22,j9)=>Option.bind (some (IntKind.i64.wrap ((k:Int)+1))) fun i6=>pH N (wI ns) kk fuel (l22,(o.length:Int),i6)) r o[k] (ho _ (List.getElem_mem hlt)) (QG (ky ns) (o.take k)).reverse (o.drop (k+1)) N (fun y hy=>hmem y (by simpa using hy)) (by simp;omega) (by simp;omega) (fun q=>by
   show (Option.bind (some (IntKind.i64.wrap ((k:Int)+1))) fun i6=>pH N (wI ns) kk fuel (wI (OV (ky ns) o[k] (QG (ky ns) (o.take k)).reverse (o.drop (k+1))),(o.length:Int),i6))=r;rw [hnx,aC];have e:=Vx (ky ns) o[k] (QG (ky ns) (o.take k)).reverse [] (o.drop (k+1));rw [List.nil_append] at e;rw [e]
   exact hih)
  rw [List.reverse_reverse,List.length_reverse,hlen] at h3;exact h3
def AG (f:Nat→Nat) (o:List Nat):List Nat:=(List.range' 1 15).flatMap fun s=>o.filter fun i=>decide (f i=s)
theorem PE (f:Nat→Nat) (o:List Nat) {x:Nat} (hx:1≤f x∧f x≤15):∃A1 A2,AG f o=A1++A2∧AG f (o++[x])=A1++x::A2∧(∀y∈A1,f y≤f x)∧∀y∈A2,f x<f y:=by
 have hsp:List.range' 1 15=List.range' 1 (f x-1)++(f x::List.range' (f x+1) (15-f x)):=by
  have h1:List.range' 1 (f x-1)++List.range' (1+(f x-1)) (15-(f x-1))=List.range' 1 15:=by
   have:=List.range'_append (s:=1) (m:=f x-1) (n:=15-(f x-1)) (step:=1);rw [Nat.one_mul] at this;rw [this];congr 1;omega
  rw [←h1,show 1+(f x-1)=f x by omega,show 15-(f x-1)=(15-f x)+1 by omega,List.range'_succ]
 have hne:∀L:List Nat,(∀s∈L,s≠f x)→(L.flatMap fun s=>(o++[x]).filter fun i=>decide (f i=s))=L.flatMap fun s=>o.filter fun i=>decide (f i=s):=by
  intro L hL
  induction L with
  | nil=>rfl
  | cons s L ih=>
   rw [List.flatMap_cons,List.flatMap_cons,ih (fun s hs=>hL s (by simp [hs])),List.filter_append]
   congr 1
   rw [List.filter_cons,if_neg (by simpa using fun h=>hL s (by simp) h.symm)];simp
 refine ⟨((List.range' 1 (f x-1)).flatMap fun s=>o.filter fun i=>decide (f i=s))++o.filter (fun i=>decide (f i=f x)),(List.range' (f x+1) (15-f x)).flatMap (fun s=>o.filter fun i=>decide (f i=s)),?_,?_,?_,?_⟩
 ·unfold AG;rw [hsp,List.flatMap_append,List.flatMap_cons,List.append_assoc]
 ·unfold AG;rw [hsp,List.flatMap_append,List.flatMap_cons,hne _ (fun s hs=>by have:=(List.mem_range'_1.1 hs);omega),hne _ (fun s hs=>by have:=(List.mem_range'_1.1 hs);omega),List.filter_append,List.filter_cons,if_pos (by simp)]
  simp
 ·intro y hy
  rcases List.mem_append.1 hy with h | h
  ·obtain ⟨s,hs,h⟩:=List.mem_flatMap.1 h;have h1:=List.mem_range'_1.1 hs;have h2:=(List.mem_filter.1 h).2
   simp at h2
   omega
  ·have h2:=(List.mem_filter.1 h).2
   simp at h2
   omega
 ·intro y hy;obtain ⟨s,hs,h⟩:=List.mem_flatMap.1 hy;have h1:=List.mem_range'_1.1 hs;have h2:=(List.mem_filter.1 h).2
  simp at h2
  omega
theorem Sm {P:List Nat→Prop} (o:List Nat) (h0:P []) (hs:∀k (hk:k<o.length),P (o.take k)→P (o.take k++[o[k]])):P o:=by
 have:∀k,k≤o.length→P (o.take k):=by
  intro k
  induction k with
  | zero=>intro _;exact h0
  | succ k ih=>
   intro hk;have:=hs k (by omega) (ih (by omega))
   rwa [show o.take k++[o[k]]=o.take (k+1) by rw [List.take_add_one,List.getElem?_eq_getElem (by omega)];rfl] at this
 have:=this o.length (Nat.le_refl _)
 rwa [List.take_length] at this
theorem Zz (f:Nat→Nat):AG f []=[]:=by
 unfold AG;rw [List.flatMap_eq_nil_iff];intro s _;rfl
theorem aCj (f:Nat→Nat) (o:List Nat) (ho:∀x∈o,1≤f x∧f x≤15):QG f o=AG f o:=by
 refine Sm (P:=fun p=>QG f p=AG f p) o ?_ fun k hk ih=>?_
 ·show ([]:List Nat)=_;unfold AG;rw [eq_comm,List.flatMap_eq_nil_iff];intro s _;rfl
 ·obtain ⟨A1,A2,h1,h2,h3,h4⟩:=PE f (o.take k) (ho _ (List.getElem_mem hk));have:=Sk f o[k] A1 h3 A2.reverse [] (fun y hy=>h4 y (by simpa using hy));show QG f (o.take k++[o[k]])=AG f (o.take k++[o[k]]);rw [Sl,h2,show QG f (o.take k)=AG f (o.take k) from ih,h1,List.reverse_append,this]
  simp
theorem VA (o:List Nat) (ho:∀x∈o,1≤ky ns x∧ky ns x≤15):tot ns (AG (ky ns) o)=tot ns o:=by
 refine Sm (P:=fun p=>tot ns (AG (ky ns) p)=tot ns p) o ?_ fun k hk ih=>?_
 ·show tot ns (AG (ky ns) [])=tot ns [];rw [Zz]
 ·obtain ⟨A1,A2,h1,h2,h3,h4⟩:=PE (ky ns) (o.take k) (ho _ (List.getElem_mem hk));have ih':tot ns (AG (ky ns) (o.take k))=tot ns (o.take k):=ih;show tot ns (AG (ky ns) (o.take k++[o[k]]))=tot ns (o.take k++[o[k]]);rw [h2,M5,Gt,M5,←ih',h1,M5,Gt,Vw]
  omega
def ups (ns:List Nat) (k j:Nat):List Nat:=(List.range' k j).filter (pos ns)
theorem ZA:∀(j k:Nat),k+j=ns.length→I1 ((wI ns).drop k)=tot ns (ups ns k j):=by
 intro j
 induction j with
 | zero=>
  intro k hk;rw [List.drop_eq_nil_iff.2 (by rw [pV];omega)];rfl
 | succ j ih=>
  intro k hk;have hlt:k<(wI ns).length:=by rw [pV];omega
  have hv:(wI ns)[k].toNat=ky ns k:=by
   have:=MZ (l:=ns) (i:=k) (by omega);rw [dH,List.getElem?_eq_getElem hlt] at this;rw [Option.some.inj this,Int.toNat_natCast];rfl
  rw [List.drop_eq_getElem_cons hlt,LE,ih (k+1) (by omega),hv];unfold ups;rw [List.range'_succ,List.filter_cons]
  by_cases h:0<ky ns k
  ·rw [if_pos (show pos ns k=true from dT h),Gt,rm,if_pos h]
  ·rw [if_neg (by rw [show pos ns k=false from dF h];simp),rm,if_neg h,Nat.zero_add]
theorem VB (k j:Nat):AG (ky ns) (ups ns k j)=AG (ky ns) (List.range' k j):=by
 unfold AG ups
 have:∀L:List Nat,(∀s∈L,1≤s)→(L.flatMap fun s=>((List.range' k j).filter (pos ns)).filter fun i=>decide (ky ns i=s))=L.flatMap fun s=>(List.range' k j).filter fun i=>decide (ky ns i=s):=by
  intro L hL
  induction L with
  | nil=>rfl
  | cons s L ih=>
   rw [List.flatMap_cons,List.flatMap_cons,ih (fun s hs=>hL s (by simp [hs])),List.filter_filter]
   congr 1
   refine List.filter_congr fun i _=>?_
   have:=hL s (by simp);unfold pos
   by_cases h:ky ns i=s
   ·rw [dT h,dT (by omega)];rfl
   ·rw [dF h];rfl
 exact this _ fun s hs=>(List.mem_range'_1.1 hs).1
theorem QH {k j i:Nat} (h:i∈ups ns k j):k≤i∧i<k+j∧0<ky ns i:=by
 obtain ⟨h1,h2⟩:=List.mem_filter.1 h;have:=List.mem_range'_1.1 h1;exact ⟨this.1,this.2,of_decide_eq_true h2⟩
def EZ (ns:List Nat):List (List UInt8):=((AG (ky ns) (List.range' 0 ns.length)).foldl (Vv ns) (List.replicate ns.length [],0)).1
end
section
variable {ns:List Nat} (hn:∀n∈ns,n≤15) (hl:ns.length≤17)
include hn hl in
theorem aER (N:Nat) (hN:100≤N) {size:Nat} (hs:1≤size∧size≤15) (kk:List (List UInt8) × Int × Int × Int→Option (List (List UInt8))) (r):∀(j k fuel:Nat) (out:List (List UInt8)) (S nx la:Nat),k+j=ns.length→j<fuel→out.length=ns.length→la≤size→S=nx*2^(15-la)→S+tot ns ((List.range' k j).filter fun i=>decide (ky ns i=size))≤32768 →
  (∀nx' la':Nat,la'≤size→∀i':Int,(((List.range' k j).filter fun i=>decide (ky ns i=size)).foldl (Vv ns) (out,S)).2=nx'*2^(15-la')→kk ((((List.range' k j).filter fun i=>decide (ky ns i=size)).foldl (Vv ns) (out,S)).1,(nx':Int),(la':Int),i')=r) →
  jP N (wI ns) (size:Int) kk fuel (out,(nx:Int),(la:Int),(k:Int))=r:=by
 intro j
 induction j with
 | zero=>
  intro k fuel out S nx la hk hf hout hla hS hT hkk;obtain ⟨fuel,rfl⟩:=mK fuel (by omega);unfold jP;rw [cF (dF (by rw [pV];omega))];exact hkk nx la hla _ hS
 | succ j ih=>
  intro k fuel out S nx la hk hf hout hla hS hT hkk;obtain ⟨fuel,rfl⟩:=mK fuel (by omega);have hlt:k<ns.length:=by omega
  have hnx:IntKind.i64.wrap ((k:Int)+1)=((k+1:Nat):Int):=by rw [dC (by omega)];rfl
  unfold jP;rw [cT (dT (by rw [pV];omega)),NP hlt,aC];rw [List.range'_succ,List.filter_cons] at hT hkk
  by_cases h:ky ns k=size
  ·rw [if_pos (dT h)] at hT hkk;rw [Gt,h] at hT;rw [List.foldl_cons] at hkk;have hp0:=Nat.two_pow_pos (15-size);have hpw:2^(15-la)=2^(size-la)*2^(15-size):=by rw [←Nat.pow_add];congr 1;omega
   have hdiv:S/2^(15-size)=nx*2^(size-la):=by
    rw [hS,hpw,←Nat.mul_assoc,Nat.mul_div_cancel _ hp0]
   have hle:nx*2^(size-la)≤32768:=by rw [←hdiv];exact Nat.le_trans (Nat.div_le_self _ _) (by omega)
   have hsub:IntKind.i64.wrap ((size:Int)-(la:Int))=((size-la:Nat):Int):=by rw [dC (by omega)];omega
   have hio:∃e,idx out (k:Int)=some e:=by rw [dH];exact ⟨_,List.getElem?_eq_getElem (by omega)⟩
   obtain ⟨e,he⟩:=hio;have hset:∀v,yK out (k:Int) v=some (out.set k v):=fun v=>by rw [BY (by omega),Int.toNat_natCast]
   rw [cF (by rw [dT (by omega)];rfl),hsub,Bq,aC,IK (by omega) (by omega),aC,number_eq hN (by omega) (by omega),aC,he,aC,hset,aC,dC (x:=((nx*2^(size-la):Nat):Int)+1) (by omega),aC,hnx,aC];have hw:wrd S size=H3 (zC 2 size (nx*2^(size-la))):=by unfold wrd;rw [hdiv]
   have hst:Vv ns (out,S) k=(out.set k (H3 (zC 2 size (nx*2^(size-la)))),S+2^(15-size)):=by unfold Vv;rw [h,hw]
   rw [hst] at hkk;refine ih (k+1) fuel _ (S+2^(15-size)) (nx*2^(size-la)+1) size (by omega) (by omega) (by rw [List.length_set];exact hout) (Nat.le_refl _) ?_ (by omega) hkk;rw [Nat.add_mul,Nat.one_mul,hS,hpw,Nat.mul_assoc]
  ·rw [if_neg (by rw [dF h];simp)] at hT hkk;rw [cT (by rw [dF (by omega)];rfl),hnx,aC];exact ih (k+1) fuel out S nx la (by omega) (by omega) hout hla hS hT hkk
include hn hl in
theorem aES (N:Nat) (hN:100≤N) (kk:List (List UInt8) × Int × Int × Int→Option (List (List UInt8))) (r):∀(j s fuel:Nat) (out:List (List UInt8)) (S nx la:Nat),s+j=16→1≤s→j<fuel→out.length=ns.length→la<s→S=nx*2^(15-la)→S+tot ns ((List.range' s j).flatMap fun s=>(List.range' 0 ns.length).filter fun i=>decide (ky ns i=s))≤32768 →
  (∀a b c,kk ((((List.range' s j).flatMap fun s=>(List.range' 0 ns.length).filter fun i=>decide (ky ns i=s)).foldl (Vv ns) (out,S)).1,a,b,c)=r) →
  lE N (wI ns) kk fuel (out,(nx:Int),(la:Int),(s:Int))=r:=by
 intro j
 induction j with
 | zero=>
  intro s fuel out S nx la hk h1 hf hout hla hS hT hkk;obtain ⟨fuel,rfl⟩:=mK fuel (by omega);unfold lE;rw [cF (dF (by omega))];exact hkk _ _ _
 | succ j ih=>
  intro s fuel out S nx la hk h1 hf hout hla hS hT hkk;obtain ⟨fuel,rfl⟩:=mK fuel (by omega);unfold lE;rw [cT (dT (by omega))];rw [List.range'_succ,List.flatMap_cons] at hT hkk;rw [M5] at hT;refine aER hn hl N hN (size:=s) (by omega) _ r ns.length 0 N out S nx la (by omega) (by omega) hout (by omega) hS (by omega) fun nx' la' aJJ i' hS'=>?_
  dsimp only
  rw [dC (x:=(s:Int)+1) (by omega),aC,show (s:Int)+1=((s+1:Nat):Int) by rfl];have h2:=QF ns ((List.range' 0 ns.length).filter fun i=>decide (ky ns i=s)) (out,S);have h3:=M6 ns ((List.range' 0 ns.length).filter fun i=>decide (ky ns i=s)) (out,S);refine ih (s+1) fuel _ _ nx' la' (by omega) (by omega) (by omega) (h3.trans hout) (by omega) (h2.symm.trans hS') (by show S+_+_≤_;omega) fun a b c=>?_
  have:=hkk a b c;rw [List.foldl_append] at this;rw [←this]
  congr 3
  rw [←h2]
include hn hl in
theorem WX (N:Nat) (hN:100≤N) (hK:tot ns (ups ns 0 ns.length)≤32768):oE N (wI ns)=some (EZ ns):=by
 unfold oE;rw [pV,aC,mk_eq (by omega),aC,Int.toNat_natCast]
 have ht:tot ns (AG (ky ns) (List.range' 0 ns.length))≤32768:=by
  rw [←VB,VA]
  ·exact hK
  ·intro x hx;exact ⟨(QH hx).2.2,Sj hn x⟩
 exact aES hn hl N hN _ _ 15 1 N (List.replicate ns.length []) 0 0 0 (by omega) (by omega) (by omega) (by simp) (by omega) (by omega) (by rw [Nat.zero_add];exact ht) (fun a b c=>rfl)
include hn hl in
theorem WY (N:Nat) (hN:100≤N) (hK:tot ns (ups ns 0 ns.length)≤32768) (hP:0<tot ns (ups ns 0 ns.length)) (hc:wY (wI ns)=0):wT N (wI ns)=some (EZ ns,0):=by
 unfold wT;have aGE:∀x∈ups ns 0 ns.length,1≤ky ns x∧ky ns x≤15:=fun x hx=>⟨(QH hx).2.2,Sj hn x⟩
 have hlen:(ups ns 0 ns.length).length≤17:=by
  unfold ups;refine Nat.le_trans (List.length_filter_le _ _) ?_;rw [List.length_range'];exact hl
 have hmem:∀i∈ups ns 0 ns.length,i<ns.length:=fun i hi=>by have:=(QH hi).2.1;omega
 rw [JK N hN,hc,aC,cF (by decide)]
 have h1:=Zw (ns:=ns) hl N (fun (l6,i2)=>
  cond (decide (20≤(l6.length:Int))) none (
  Option.bind (some (IntKind.i64.wrap (0+1))) fun i3=>
  pH N (wI ns) (fun (L5,b2,i7)=>
  Option.bind (F9 l6 L5) fun _=>
  cond (decide (20<(L5.length:Int))) none (
  Option.bind (F9 l6 L5) fun _=>
  Option.bind (F9 l6 L5) fun _=>
  Option.bind (some (((wI ns).length:Int))) fun x2=>
  Option.bind (mk 16 x2 (([]:List UInt8):List UInt8)) fun l24=>
  qS N (wI ns) L5 (fun (l28,Ld,i11)=>
  some (l28,0)) N (l24,0,0))) N (l6,(l6.length:Int),i3))) ns.length 0 N [] (by omega) (by omega) (by simp)
 refine Eq.trans h1 ?_;rw [List.nil_append]
 dsimp only
 rw [show (List.range' 0 ns.length).filter (pos ns)=ups ns 0 ns.length from rfl,cF (dF (by rw [pV];omega)),show IntKind.i64.wrap (0+1)=((1:Nat):Int) by decide,aC,show ((wI (ups ns 0 ns.length)).length:Int)=((ups ns 0 ns.length).length:Int) by rw [pV]];have hsrt:=aCj (ky ns) (ups ns 0 ns.length) aGE;have hsl:=Vz (ky ns) (ups ns 0 ns.length)
 have hfin:∀b j:Int,(fun (x:List Int × Int × Int)=>(match x with
  | (L5,b2,i7)=>Option.bind (F9 (wI (ups ns 0 ns.length)) L5) fun _=>
  cond (decide (20<(L5.length:Int))) none (
  Option.bind (F9 (wI (ups ns 0 ns.length)) L5) fun _=>
  Option.bind (F9 (wI (ups ns 0 ns.length)) L5) fun _=>
  Option.bind (some (((wI ns).length:Int))) fun x2=>
  Option.bind (mk 16 x2 (([]:List UInt8):List UInt8)) fun l24=>
  qS N (wI ns) L5 (fun (l28,Ld,i11)=>
  some (l28,(0:Int))) N (l24,0,0)):Option (List (List UInt8) × Int))) (wI (QG (ky ns) (ups ns 0 ns.length)),b,j)=some (EZ ns,0):=by
  intro b j
  have hsame:F9 (wI (ups ns 0 ns.length)) (wI (QG (ky ns) (ups ns 0 ns.length)))=some ():=by
   unfold F9;rw [if_pos (by rw [pV,pV,hsl])]
  dsimp only
  rw [hsame,aC,cF (dF (by rw [pV,hsl];omega)),aC,aC,pV,aC,mk_eq (by omega),aC,Int.toNat_natCast,hsrt];have ht:tot ns (AG (ky ns) (ups ns 0 ns.length))≤32768:=by rw [VA _ aGE];exact hK
  have hom:∀i∈AG (ky ns) (ups ns 0 ns.length),i<ns.length:=fun i hi=>by
   obtain ⟨s,_,h⟩:=List.mem_flatMap.1 hi;exact hmem i (List.mem_filter.1 h).1
  have hol:(AG (ky ns) (ups ns 0 ns.length)).length≤17:=by rw [←hsrt,hsl];exact hlen
  have h4:=Zv hn hl N hN (AG (ky ns) (ups ns 0 ns.length)) hom hol (fun (l28,Ld,i11)=>some (l28,(0:Int))) (AG (ky ns) (ups ns 0 ns.length)).length 0 N (List.replicate ns.length []) 0 (by omega) (by omega) (by simp) (by rw [List.drop_zero,Nat.zero_add];exact ht);refine Eq.trans h4 ?_;rw [List.drop_zero,VB]
  rfl
 by_cases h0:(ups ns 0 ns.length).length=0
 ·rw [List.eq_nil_of_length_eq_zero h0,Vw] at hP
  omega
 ·have h2:=fun kk hk=>Zy (ns:=ns) N hN kk (some (EZ ns,0)) hmem hlen hk ((ups ns 0 ns.length).length-1) 1 N (by omega) (by omega)
  have htk:QG (ky ns) ((ups ns 0 ns.length).take 1)++(ups ns 0 ns.length).drop 1=ups ns 0 ns.length:=by
   rcases hu:ups ns 0 ns.length with _ | ⟨x,u⟩
   ·rw [hu] at h0;exact absurd rfl h0
   ·rfl
  simp only [htk] at h2;refine h2 _ ?_;exact hfin
end
theorem QI {l:List Int} (h:wY l=0):∃ns:List Nat,l=wI ns∧(∀n∈ns,n≤15)∧1≤ns.length∧ns.length≤17∧tot ns (ups ns 0 ns.length)≤32768∧0<tot ns (ups ns 0 ns.length):=by
 unfold wY at h
 split at h
 ·cases h
 rename_i h1
 split at h
 rotate_left
 ·cases h
 rename_i h2
 split at h
 ·cases h
 rename_i h3
 have hall:∀e∈l,0≤e∧e≤15:=fun e he=>of_decide_eq_true (List.all_eq_true.1 h2 e he)
 have he:wI (l.map Int.toNat)=l:=WN fun e h=>(hall e h).1
 have hs:=ZA (ns:=l.map Int.toNat) (l.map Int.toNat).length 0 (by omega);rw [he,List.drop_zero] at hs;refine ⟨l.map Int.toNat,he.symm,?_,by simp;omega,by simp;omega,by omega,by omega⟩;intro n hn;obtain ⟨e,h,rfl⟩:=List.mem_map.1 hn;have:=hall e h
 omega
def wordsOf (l:List Int):List (List UInt8):=if wY l=0 then EZ (l.map Int.toNat) else []
theorem T7 (N:Nat) (hN:100≤N) (l:List Int):wT N l=some (wordsOf l,wY l):=by
 unfold wordsOf
 by_cases h:wY l=0
 ·obtain ⟨ns,rfl,h1,h2,h3,h4,h5⟩:=QI h;rw [if_pos h,WY h1 h3 N hN h4 h5 h,LD,h]
 ·rw [if_neg h];unfold wT;rw [JK N hN,aC,cT (by rw [dF h];rfl)]
theorem Sn (N:Nat) (hN:100≤N) {l:List Int} (h:wY l=0):oE N l=some (wordsOf l):=by
 unfold wordsOf;obtain ⟨ns,rfl,h1,h2,h3,h4,h5⟩:=QI h;rw [if_pos h,WX h1 h3 N hN h4,LD]
section
variable {ns:List Nat}
theorem JL {i:Nat}:∀(o:List Nat) (st:List (List UInt8) × Nat),i∉o→(o.foldl (Vv ns) st).1[i]? = st.1[i]?
 | [],_,_=>rfl
 | k::o,st,h=>by
  simp only [List.mem_cons,not_or] at h;rw [List.foldl_cons,JL o _ h.2];show (st.1.set k _)[i]? = _;rw [List.getElem?_set_ne (fun e=>h.1 e.symm)]
theorem fold_at {i:Nat} (A B:List Nat) (st:List (List UInt8) × Nat) (hB:i∉B) (hi:i<st.1.length):((A++i::B).foldl (Vv ns) st).1[i]? = some (wrd (st.2+tot ns A) (ky ns i)):=by
 rw [List.foldl_append,List.foldl_cons,JL B _ hB];show ((A.foldl (Vv ns) st).1.set i _)[i]? = _;rw [List.getElem?_set_self (by rw [M6];exact hi),QF]
theorem ZB {f:Nat→Nat} {o:List Nat} {i:Nat}:i∈AG f o↔i∈o∧1≤f i∧f i≤15:=by
 unfold AG;rw [List.mem_flatMap]
 constructor
 ·rintro ⟨s,hs,h⟩;have h1:=List.mem_range'_1.1 hs;have h2:=List.mem_filter.1 h;have h3:=of_decide_eq_true h2.2;exact ⟨h2.1,by omega,by omega⟩
 ·rintro ⟨h1,h2,h3⟩;exact ⟨f i,List.mem_range'_1.2 ⟨h2,by omega⟩,List.mem_filter.2 ⟨h1,dT rfl⟩⟩
theorem WZ (f:Nat→Nat) {o:List Nat} (ho:o.Pairwise (· < ·)):(AG f o).Pairwise (fun a b=>f a≤f b∧a≠b):=by
 unfold AG
 have:∀(j s:Nat),((List.range' s j).flatMap fun s=>o.filter fun i=>decide (f i=s)).Pairwise (fun a b=>f a≤f b∧a≠b):=by
  intro j
  induction j with
  | zero=>intro s;exact List.Pairwise.nil
  | succ j ih=>
   intro s;rw [List.range'_succ,List.flatMap_cons,List.pairwise_append];refine ⟨?_,ih (s+1),?_⟩
   ·refine List.Pairwise.imp_of_mem ?_ (ho.filter _);intro a b ha hb hab;have h1:=of_decide_eq_true (List.mem_filter.1 ha).2;have h2:=of_decide_eq_true (List.mem_filter.1 hb).2;exact ⟨by omega,by omega⟩
   ·intro a ha b hb;have h1:=of_decide_eq_true (List.mem_filter.1 ha).2;obtain ⟨q,hq,hb⟩:=List.mem_flatMap.1 hb;have h3:=List.mem_range'_1.1 hq;have h2:=of_decide_eq_true (List.mem_filter.1 hb).2;exact ⟨by omega,fun e=>by subst e;omega⟩
 exact this 15 1
def ord (ns:List Nat):List Nat:=AG (ky ns) (List.range' 0 ns.length)
theorem ZC (ns:List Nat):(ord ns).Pairwise (fun a b=>ky ns a≤ky ns b∧a≠b):=WZ _ List.pairwise_lt_range'
theorem VC {i:Nat} (hn:∀n∈ns,n≤15):i∈ord ns↔i<ns.length∧1≤ky ns i:=by
 unfold ord;rw [ZB,List.mem_range'_1];have:=Sj hn i
 omega
theorem W1 {i:Nat} (hn:∀n∈ns,n≤15) (hi:i<ns.length) (h:ky ns i=0):(EZ ns)[i]? = some []:=by
 unfold EZ;rw [JL _ _ (fun hm=>by have:=((VC hn).1 hm).2;omega)]
 simp [hi]
theorem aCk {i:Nat} {A B:List Nat} (h:ord ns=A++i::B) (hi:i<ns.length):(EZ ns)[i]? = some (wrd (tot ns A) (ky ns i)):=by
 have hp:=ZC ns;rw [h,List.pairwise_append] at hp;have hB:i∉B:=fun hm=>((List.pairwise_cons.1 hp.2.1).1 i hm).2 rfl
 unfold EZ;have h':AG (ky ns) (List.range' 0 ns.length)=A++i::B:=h;rw [h',fold_at A B _ hB (by simpa using hi),Nat.zero_add]
theorem aCl (S n:Nat):(wrd S n).length=n:=by unfold wrd;rw [AO,uS]
end
def PF (W:List (List UInt8)):Prop:=∀(i j:Nat) (u v:List UInt8),i≠j→W[i]? = some u→W[j]? = some v→u≠[]→¬(u <+: v)
def So (W:List (List UInt8)):Prop:=∀w∈W,MX w=true∧w.length≤15
theorem VD {l:List Nat} (h:∀y∈l,y<2):MX (H3 l)=true:=by
 unfold MX H3;rw [List.all_map,List.all_eq_true];intro y hy;have:=h y hy
 rcases (show y=0∨y=1 by omega) with rfl | rfl <;> rfl
theorem zY (l:List Int):So (wordsOf l):=by
 intro w hw;unfold wordsOf at hw
 by_cases h:wY l=0
 ·obtain ⟨ns,rfl,h1,h2,h3,h4,h5⟩:=QI h;rw [if_pos h,LD] at hw;obtain ⟨i,hi⟩:=List.mem_iff_getElem?.1 hw;have hlen:(EZ ns).length=ns.length:=by unfold EZ;rw [M6,List.length_replicate]
  have hi':i<ns.length:=by rw [←hlen];exact (List.getElem?_eq_some_iff.1 hi).1
  rcases Nat.eq_zero_or_pos (ky ns i) with h0 | h0
  ·rw [W1 h1 hi' h0] at hi;cases hi;exact ⟨rfl,by simp⟩
  ·obtain ⟨A,B,hAB⟩:=List.append_of_mem ((VC h1).2 ⟨hi',h0⟩);rw [aCk hAB hi'] at hi;cases hi;refine ⟨VD (QC (by decide) _ _),?_⟩;rw [aCl];exact Sj h1 i
 ·rw [if_neg h] at hw;cases hw
end
end Go.Proofs.YtpmnfhifmmfglacGreatDoor
