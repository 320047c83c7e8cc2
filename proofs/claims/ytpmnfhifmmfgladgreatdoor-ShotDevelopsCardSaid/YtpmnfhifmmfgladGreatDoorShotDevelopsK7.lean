/- Parts of the proof. -/
import Derived.Test.YtpmnfhifmmfgladGreatDoorShotDevelopsK6
set_option linter.unusedVariables false
set_option linter.unusedSimpArgs false
set_option linter.unusedSectionVars false
set_option maxRecDepth 100000
set_option maxHeartbeats 8000000
open Bool renaming and_eq_true→o9,true_and→tF
open Go.IntKind renaming i64→aC,u8→iH
open Int renaming toNat_natCast→fM,tdiv→gI,tmod→mN,eq_ofNat_of_zero_le→sC,natCast_mul→vA
open List renaming getElem?_eq_getElem→f9,range→gS,getD_eq_getElem?_getD→qG,length_append→kG,replicate→nH,append_assoc→pL,all_cons→tK,append_nil→v4,getElem?_eq_none→wW,length_map→xK,length_take→yQ,drop_eq_getElem_cons→zC
open Nat renaming le_refl→pK,mul_comm→oA,mul_le_mul→tM
open Option renaming bind→dH
open UInt8 renaming ofNat→nN
namespace Go.Proofs.YtpmnfhifmmfgladGreatDoor
section
open Go
theorem OM {W H n:Nat} (h:1≤W∧W≤64∧1≤H∧H≤64) (hn:n=W*H) {g:Nat→Int} (hg:∀i,i<n→0≤g i∧g i≤65535):dK W H ((gS n).map g)=true:=by
 refine sI.2 ⟨⟨by omega,by omega,by omega,by omega⟩,by rw [xK,List.length_range,hn,vA],List.all_eq_true.2 fun x hx=>?_⟩;obtain ⟨i,hi,rfl⟩:=List.mem_map.1 hx;have:=hg i (List.mem_range.1 hi)
 simp [Ph,this]
theorem Zi {n:Nat} {g:Nat→Int} (hg:∀i,i<n→0≤g i∧g i≤65535):upTo ((gS n).map g) 65535:=fun i=>by
 rw [qG]
 by_cases hi:i<n
 ·rw [List.getElem?_map,List.getElem?_range hi];exact hg i hi
 ·rw [wW uW];simp
theorem aAF {W H:Nat} {q:List Px} (hq:p7 W H q=true) {f:Px→Px} (hf:∀p,sW p=true→sW (f p)=true):p7 W H ((gS q.length).map fun i=>f (q.getD i FG))=true:=by
 have hs:=mZ hq;have h:=uR W H q hs;simp only [p7,o9,decide_eq_true_eq];refine ⟨by rw [xK,List.length_range];exact hs,List.all_eq_true.2 fun p hp=>?_⟩;obtain ⟨i,hi,rfl⟩:=List.mem_map.1 hp;have hlt:=List.mem_range.1 hi;refine hf _ ?_;exact Qc hq (i:=i) (by rw [qG,f9 hlt];rfl)
theorem Vf (a b c:Int) (p:Px):0≤Rh a b c p∧Rh a b c p≤65535:=by unfold Rh;omega
theorem aGZ (m0 m1 m2 m3 m4 m5 m6 m7 m8:Int) (p:Px):sW (OK m0 m1 m2 m3 m4 m5 m6 m7 m8 p)=true:=by
 have h1:=Vf m0 m1 m2 p;have h2:=Vf m3 m4 m5 p;have h3:=Vf m6 m7 m8 p;unfold OK;simp only [sW,decide_eq_true_eq];omega
theorem Zj {l:List Pt} (h:pU l) {x:Int} (hx:0≤x∧x≤65535):0≤onV l x∧onV l x≤65535:=by
 obtain ⟨i,a,b,e⟩:=aIZ h 8589934592 oQ hx;have f:=T4 h a b;have b1:=h.bd (i:=i-1) oQ;have b2:=h.bd (i:=i) oQ;unfold onV;rw [e];show 0≤seg l i x∧seg l i x≤65535
 omega
theorem aEn {l:List Pt} (h:pU l) (p:Px) (hp:sW p=true):sW (Iz l p)=true:=by
 simp only [sW,decide_eq_true_eq] at hp;have h1:=Zj h (x:=p.1) oQ;have h2:=Zj h (x:=p.2.1) oQ;have h3:=Zj h (x:=p.2.2) oQ;unfold Iz;simp only [sW,decide_eq_true_eq];omega
section
variable (ph b0 b1 b2 b3 w:Int) (sp:List aN) (g0 g1 g2 m0 m1 m2 m3 m4 m5 m6 m7 m8:Int) (cv:List aN) (am:Int)
def st1 (W:Nat) (P:List Int):List Int:=(gS P.length).map (MB W P b0 b1 b2 b3 w)
def st2 (W H:Nat) (P:List Int):List Int:=(gS (st1 b0 b1 b2 b3 w W P).length).map (uX W H sp (st1 b0 b1 b2 b3 w W P))
def st3 (W H:Nat) (P:List Int):List Int:=(gS (st2 b0 b1 b2 b3 w sp W H P).length).map (WJ W (st2 b0 b1 b2 b3 w sp W H P) ph g0 g1 g2)
def st4 (W H:Nat) (P:List Int):List Px:=Id W H (pF W H (st3 ph b0 b1 b2 b3 w sp g0 g1 g2 W H P) ph)
def st5 (W H:Nat) (P:List Int):List Px:=(gS (st4 ph b0 b1 b2 b3 w sp g0 g1 g2 W H P).length).map fun i=>OK m0 m1 m2 m3 m4 m5 m6 m7 m8 ((st4 ph b0 b1 b2 b3 w sp g0 g1 g2 W H P).getD i FG)
def st6 (W H:Nat) (P:List Int):List Px:=(gS (st5 ph b0 b1 b2 b3 w sp g0 g1 g2 m0 m1 m2 m3 m4 m5 m6 m7 m8 W H P).length).map fun i=>Iz cv ((st5 ph b0 b1 b2 b3 w sp g0 g1 g2 m0 m1 m2 m3 m4 m5 m6 m7 m8 W H P).getD i FG)
def SM (W H:Nat) (P:List Int):List Px:=Id W H (shF am W H (st6 ph b0 b1 b2 b3 w sp g0 g1 g2 m0 m1 m2 m3 m4 m5 m6 m7 m8 cv W H P))
structure MC:Prop where
 aI:0≤ph∧ph≤3
 white:1≤w∧w≤65535
 black:WF b0 b1 b2 b3 w
 ON:sp.length≤64
 spots:sp.all (gX 64 64)=true
 gains:aKB g0 g1 g2
 matrix:Dh m0 m1 m2 m3 m4 m5 m6 m7 m8=true
 fK:0≤am∧am≤1024
theorem KK (h:zP ph b0 b1 b2 b3 w sp g0 g1 g2 m0 m1 m2 m3 m4 m5 m6 m7 m8 am=true):MC ph b0 b1 b2 b3 w sp g0 g1 g2 m0 m1 m2 m3 m4 m5 m6 m7 m8 am:=by
 unfold zP at h;simp only [tK,List.all_nil,Bool.and_true,o9] at h;obtain ⟨h1,h2,⟨c0,c1,c2,c3⟩,h4,h5,⟨d0,d1,d2⟩,h7,h8⟩:=h;have e0:=bW c0;have e1:=bW c1;have e2:=bW c2;have e3:=bW c3;exact ⟨bW h1,bW h2,⟨by omega,by omega,by omega,by omega⟩,bW h4,h5,⟨bW d0,bW d1,bW d2⟩,h7,bW h8⟩
end
section
variable {ph b0 b1 b2 b3 w:Int} {sp:List aN} {g0 g1 g2 m0 m1 m2 m3 m4 m5 m6 m7 m8:Int} {cv:List aN} {am:Int} (hp:MC ph b0 b1 b2 b3 w sp g0 g1 g2 m0 m1 m2 m3 m4 m5 m6 m7 m8 am)
include hp
section
variable {W H:Nat} {P:List Int} (hs:1≤W∧W≤64∧1≤H∧H≤64) (hl:P.length=W*H) (hP:upTo P 65535)
include hs hl hP
theorem Qd:(st1 b0 b1 b2 b3 w W P).length=W*H:=by unfold st1;rw [xK,List.length_range,hl]
theorem aI0 (i:Nat):0≤MB W P b0 b1 b2 b3 w i∧MB W P b0 b1 b2 b3 w i≤65535:=aGF hp.black hp.white.2 (U7 hp.black _ _)
theorem aEo:upTo (st1 b0 b1 b2 b3 w W P) 65535:=Zi fun i _=>aI0 hp hs hl hP i
theorem aEp:dK W H (st1 b0 b1 b2 b3 w W P)=true:=OM hs hl fun i _=>aI0 hp hs hl hP i
theorem Qe:(st2 b0 b1 b2 b3 w sp W H P).length=W*H:=by unfold st2;rw [xK,List.length_range,Qd hp hs hl hP]
theorem aI1 (i:Nat):0≤uX W H sp (st1 b0 b1 b2 b3 w W P) i∧uX W H sp (st1 b0 b1 b2 b3 w W P) i≤65535:=by
 have:=aKG (W:=W) (H:=H) (l:=sp) (aEo hp hs hl hP) (i%W) (i/W);unfold T3 at this;unfold uX;rw [oA,Nat.div_add_mod,Int.natCast_emod,Int.natCast_ediv] at this;exact this
theorem aEq:upTo (st2 b0 b1 b2 b3 w sp W H P) 65535:=Zi fun i _=>aI1 hp hs hl hP i
theorem aEr:dK W H (st2 b0 b1 b2 b3 w sp W H P)=true:=OM hs (Qd hp hs hl hP) fun i _=>aI1 hp hs hl hP i
theorem aAG:(st3 ph b0 b1 b2 b3 w sp g0 g1 g2 W H P).length=W*H:=by unfold st3;rw [xK,List.length_range,Qe hp hs hl hP]
theorem aI2 (i:Nat):0≤WJ W (st2 b0 b1 b2 b3 w sp W H P) ph g0 g1 g2 i∧WJ W (st2 b0 b1 b2 b3 w sp W H P) ph g0 g1 g2 i≤65535:=aKC (aEq hp hs hl hP i) (Y5 hp.gains _)
theorem aEs:upTo (st3 ph b0 b1 b2 b3 w sp g0 g1 g2 W H P) 65535:=Zi fun i _=>aI2 hp hs hl hP i
theorem aEt:dK W H (st3 ph b0 b1 b2 b3 w sp g0 g1 g2 W H P)=true:=OM hs (Qe hp hs hl hP) fun i _=>aI2 hp hs hl hP i
theorem Vg:p7 W H (st4 ph b0 b1 b2 b3 w sp g0 g1 g2 W H P)=true:=aDR hs (aEs hp hs hl hP) ph
theorem Vh:p7 W H (st5 ph b0 b1 b2 b3 w sp g0 g1 g2 m0 m1 m2 m3 m4 m5 m6 m7 m8 W H P)=true:=aAF (Vg hp hs hl hP) fun p _=>aGZ m0 m1 m2 m3 m4 m5 m6 m7 m8 p
theorem aAH (hc:pU cv):p7 W H (st6 ph b0 b1 b2 b3 w sp g0 g1 g2 m0 m1 m2 m3 m4 m5 m6 m7 m8 cv W H P)=true:=aAF (Vh hp hs hl hP) fun p hp'=>aEn hc p hp'
theorem aEu (hc:pU cv) (hsp:sp.all (gX W H)=true) (hf:dK W H P=true) (hb:jP 8589934592 cv=some true) (hB:zP ph b0 b1 b2 b3 w sp g0 g1 g2 m0 m1 m2 m3 m4 m5 m6 m7 m8 am=true) :
  DH 8589934592 ph b0 b1 b2 b3 w sp g0 g1 g2 m0 m1 m2 m3 m4 m5 m6 m7 m8 cv am W H P=some ((W:Int),(H:Int),SM ph b0 b1 b2 b3 w sp g0 g1 g2 m0 m1 m2 m3 m4 m5 m6 m7 m8 cv am W H P,0):=by
 have hm:=tM hs.2.1 hs.2.2.2;have l1:=Qd hp hs hl hP;have l2:=Qe hp hs hl hP;have e1:y7 8589934592 W H P b0 b1 b2 b3 w=some ((W:Int),(H:Int),st1 b0 b1 b2 b3 w W P,0):=aDT hp.black hp.white.2 hf
 have e2:iL 8589934592 W H (st1 b0 b1 b2 b3 w W P) sp=some ((W:Int),(H:Int),st2 b0 b1 b2 b3 w sp W H P,0):=by
  unfold iL;rw [aE oQ,aEp hp hs hl hP,aE sQ,aE (by have:=hp.ON;omega),hsp,aE sQ]
  rfl
 have e3:Az 8589934592 W H (st2 b0 b1 b2 b3 w sp W H P) ph g0 g1 g2=some ((W:Int),(H:Int),st3 ph b0 b1 b2 b3 w sp g0 g1 g2 W H P,0):=aGJ hp.gains hp.aI (aEr hp hs hl hP)
 have e4:AA 8589934592 W H (st3 ph b0 b1 b2 b3 w sp g0 g1 g2 W H P) ph=some ((W:Int),(H:Int),st4 ph b0 b1 b2 b3 w sp g0 g1 g2 W H P,0):=by
  rw [fill_eq W H _ ph (by rw [aAG hp hs hl hP];omega),aEt hp hs hl hP,aE sQ,aF hp.aI,fM,fM];rfl
 have e5:EC 8589934592 W H (st4 ph b0 b1 b2 b3 w sp g0 g1 g2 W H P) m0 m1 m2 m3 m4 m5 m6 m7 m8=some ((W:Int),(H:Int),st5 ph b0 b1 b2 b3 w sp g0 g1 g2 m0 m1 m2 m3 m4 m5 m6 m7 m8 W H P,0):=by
  rw [aKI 8589934592 m0 m1 m2 m3 m4 m5 m6 m7 m8 oQ,Vg hp hs hl hP,aE sQ,hp.matrix,aE sQ];rfl
 have e6:Dm 8589934592 W H (st5 ph b0 b1 b2 b3 w sp g0 g1 g2 m0 m1 m2 m3 m4 m5 m6 m7 m8 W H P) cv=some ((W:Int),(H:Int),st6 ph b0 b1 b2 b3 w sp g0 g1 g2 m0 m1 m2 m3 m4 m5 m6 m7 m8 cv W H P,0):=by
  rw [aGS hb (iff_of_true rfl hc),aE sQ,Vh hp hs hl hP,aE sQ];rfl
 have e7:y9 8589934592 W H (st6 ph b0 b1 b2 b3 w sp g0 g1 g2 m0 m1 m2 m3 m4 m5 m6 m7 m8 cv W H P) am=some ((W:Int),(H:Int),SM ph b0 b1 b2 b3 w sp g0 g1 g2 m0 m1 m2 m3 m4 m5 m6 m7 m8 cv am W H P,0):=by
  rw [Zf,aAH hp hs hl hP hc,aE sQ,aF hp.fK,fM,fM];rfl
 unfold DH AI zW BO BP CB BR yI;rw [Nk ph b0 b1 b2 b3 w sp g0 g1 g2 m0 m1 m2 m3 m4 m5 m6 m7 m8 cv am hb (iff_of_true rfl hc),hB,aE sQ,aE sQ,aD,cF rQ,e1];dsimp only [dH];rw [cF rQ,e2]
 dsimp only
 rw [cF rQ,e3]
 dsimp only
 rw [cF rQ,e4]
 dsimp only
 rw [cF rQ,e5]
 dsimp only
 rw [cF rQ,e6]
 dsimp only
 rw [cF rQ,e7]
 rfl
theorem Zk (hc:pU cv):pT 8589934592 ph b0 b1 b2 b3 w sp g0 g1 g2 m0 m1 m2 m3 m4 m5 m6 m7 m8 cv am W H P=some ((W:Int),(H:Int),SM ph b0 b1 b2 b3 w sp g0 g1 g2 m0 m1 m2 m3 m4 m5 m6 m7 m8 cv am W H P):=by
 have l1:=Qd hp hs hl hP;have l2:=Qe hp hs hl hP;have e1:oR 8589934592 W H P b0 b1 b2 b3 w=some ((W:Int),(H:Int),st1 b0 b1 b2 b3 w W P):=WH hp.black hp.white.2 hs hl hP;have e2:oS 8589934592 W H (st1 b0 b1 b2 b3 w W P) sp=some ((W:Int),(H:Int),st2 b0 b1 b2 b3 w sp W H P):=WN hs l1 (aEo hp hs hl hP) (by have:=hp.ON;omega);have e3:qN 8589934592 W H (st2 b0 b1 b2 b3 w sp W H P) ph g0 g1 g2=some ((W:Int),(H:Int),st3 ph b0 b1 b2 b3 w sp g0 g1 g2 W H P):=aBU hp.gains hp.aI hs l2 (aEq hp hs hl hP);have e4:qO 8589934592 W H (st3 ph b0 b1 b2 b3 w sp g0 g1 g2 W H P) ph=some ((W:Int),(H:Int),st4 ph b0 b1 b2 b3 w sp g0 g1 g2 W H P):=aBR hs (aAG hp hs hl hP) (aEs hp hs hl hP) hp.aI;have e5:=aD5 m0 m1 m2 m3 m4 m5 m6 m7 m8 (Vg hp hs hl hP) hp.matrix;have e6:=aGU hc (Vh hp hs hl hP);have e7:=aEj (aAH hp hs hl hP hc) hp.fK;unfold pT;rw [e1];dsimp only [dH];rw [e2]
 dsimp only
 rw [e3]
 dsimp only
 rw [e4]
 dsimp only
 rw [e5]
 dsimp only
 erw [e6]
 dsimp only
 erw [e7]
 rfl
end
end
section
variable (ph b0 b1 b2 b3 w:Int) (sp:List aN) (g0 g1 g2 m0 m1 m2 m3 m4 m5 m6 m7 m8:Int) (cv:List aN) (am:Int)
def OO (b:Bool) (W H:Int) (P:List Int):Int:=if zP ph b0 b1 b2 b3 w sp g0 g1 g2 m0 m1 m2 m3 m4 m5 m6 m7 m8 am=false then 3 else if b=false then 1 else if dK W H P=false then 1 else if sp.all (gX W H)=false then 3 else 0
theorem Zl {b:Bool} (hc:b=true↔pU cv) {W H:Int} {P:List Int} (h:OO ph b0 b1 b2 b3 w sp g0 g1 g2 m0 m1 m2 m3 m4 m5 m6 m7 m8 am b W H P=0):pT 8589934592 ph b0 b1 b2 b3 w sp g0 g1 g2 m0 m1 m2 m3 m4 m5 m6 m7 m8 cv am W H P=some (W,H,SM ph b0 b1 b2 b3 w sp g0 g1 g2 m0 m1 m2 m3 m4 m5 m6 m7 m8 cv am W.toNat H.toNat P):=by
 unfold OO at h;cases hB:zP ph b0 b1 b2 b3 w sp g0 g1 g2 m0 m1 m2 m3 m4 m5 m6 m7 m8 am
 ·rw [hB] at h;simp at h
 cases b
 ·rw [hB] at h;simp at h
 cases hf:dK W H P
 ·rw [hB,hf] at h;simp at h
 obtain ⟨w',h',rfl,rfl,w1,w2,w3,w4,gK,hm,hall⟩:=EF hf;rw [fM,fM];exact Zk (KK ph b0 b1 b2 b3 w sp g0 g1 g2 m0 m1 m2 m3 m4 m5 m6 m7 m8 am hB) ⟨w1,w2,w3,w4⟩ gK (KJ gK hall) (hc.1 rfl)
theorem aG0 (W H:Nat) (P:List Int):(SM ph b0 b1 b2 b3 w sp g0 g1 g2 m0 m1 m2 m3 m4 m5 m6 m7 m8 cv am W H P).length=W*H:=E4 _ _ _
end
theorem Vi {α:Type} {n i:Nat} (f:Nat→α) (z:α) (h:i<n):((gS n).map f).getD i z=f i:=by
 rw [qG,List.getElem?_map,List.getElem?_range h];rfl
def RR (H H' t:Nat) (v:Int):Prop:=(0≤v∧v<H')↔(0≤v+t∧v+t<H)
def LR {α:Type} (z:α) (W H' t:Nat) (lo hi:Int) (P P':List α):Prop:=∀x y:Nat,x<W→y<H'→lo≤y→(y:Int)<hi→P'.getD (y*W+x) z=P.getD ((y+t)*W+x) z
section
variable {W H H' t:Nat} {lo hi:Int} (hR:∀v:Int,lo≤v→v<hi→RR H H' t v)
include hR
theorem aMz {y:Nat} (hy:y<H') (h1:lo≤y) (h2:(y:Int)<hi):y+t<H:=by
 have:=(hR y h1 h2).1 ⟨by omega,by omega⟩
 omega
theorem aI3 {x y:Nat} (hx:x<W) (hy:y<H') (h1:lo≤y) (h2:(y:Int)<hi):y*W+x<W*H'∧(y+t)*W+x<W*H:=⟨mL hx hy,mL hx (aMz hR hy h1 h2)⟩
theorem KL {α β:Type} {z:α} {f f':List β→Nat→α} {P P':List β} (hl:P.length=W*H) (hl':P'.length=W*H')
  (h:∀x y:Nat,x<W→y<H'→lo≤y→(y:Int)<hi→f' P' (y*W+x)=f P ((y+t)*W+x)):LR z W H' t lo hi ((gS P.length).map (f P)) ((gS P'.length).map (f' P')):=fun x y hx hy h1 h2=>by
 obtain ⟨a,b⟩:=aI3 hR hx hy h1 h2;rw [Vi _ _ oQ,Vi _ _ oQ,h x y hx hy h1 h2]
theorem WP {f f':Nat→Nat→Px} (h:∀x y:Nat,x<W→y<H'→lo≤y→(y:Int)<hi→f' x y=f x (y+t)):LR FG W H' t lo hi (Id W H f) (Id W H' f'):=fun x y hx hy h1 h2=>by
 obtain ⟨a,b⟩:=aI3 hR hx hy h1 h2;unfold Id;rw [Vi _ _ a,Vi _ _ b,(dm y hx).1,(dm y hx).2,(dm (y+t) hx).1,(dm (y+t) hx).2,h x y hx hy h1 h2]
end
theorem aEv (y t:Int) {k:Nat} (hk:k<4):H2 (y+t) k=H2 y k+t∧y-2≤H2 y k∧H2 y k≤y+2:=by
 have:k=0∨k=1∨k=2∨k=3:=oQ
 rcases this with rfl|rfl|rfl|rfl
 ·show y+t=y+t∧y-2≤y∧y≤y+2;omega
 ·show y+t=y+t∧y-2≤y∧y≤y+2;omega
 ·show y+t-2=y-2+t∧y-2≤y-2∧y-2≤y+2;omega
 ·show y+t+2=y+2+t∧y-2≤y+2∧y+2≤y+2;omega
section
variable {W H H' t:Nat} {lo hi:Int} (hR:∀v:Int,lo≤v→v<hi→RR H H' t v) {l l':List aN} (hs:∀u v:Int,0≤v→v<H'→cntF l' u v=cntF l u (v+t))
include hR hs
theorem aEw {x y:Int} (h1:lo+2≤y) (h2:y+2<hi) (k:Nat) (hk:k<4):J4 W H' (cntF l') x y k↔J4 W H (cntF l) x (y+t) k:=by
 have hn:=aEv y t hk;have hv:H2 (y+t) k=H2 y k+t∧lo≤H2 y k∧H2 y k<hi:=⟨hn.1,by omega,by omega⟩
 have r:=hR _ hv.2.1 hv.2.2;unfold RR at r;unfold J4;rw [hv.1]
 constructor
 ·rintro ⟨a,b,c,d,e⟩;have:=r.1 ⟨c,d⟩;exact ⟨a,b,this.1,this.2,by rw [←hs _ _ c d];exact e⟩
 ·rintro ⟨a,b,c,d,e⟩;have:=r.2 ⟨c,d⟩;exact ⟨a,b,this.1,this.2,by rw [hs _ _ this.1 this.2];exact e⟩
theorem aKO {P P':List Int} (he:LR 0 W H' t lo hi P P') {x y:Nat} (hx:x<W) (hy:y<H') (h1:lo+2≤y) (h2:(y:Int)+2<hi):T3 W H' P' l' x y=T3 W H P l x (y+t):=by
 have hok:=fun k hk=>aEw (W:=W) hR hs (x:=x) h1 h2 k hk
 have hval:∀k,k<4→J4 W H' (cntF l') x y k→HH W P' x y k=HH W P x (y+t) k:=fun k hk hn=>by
  have hn':=(hok k hk).1 hn;unfold J4 at hn hn';have hq:=aEv y t hk;have hv:H2 ((y:Int)+t) k=H2 y k+t∧lo≤H2 y k∧H2 y k<hi:=⟨hq.1,by omega,by omega⟩
  unfold HH;rw [hv.1];obtain ⟨u,hu⟩:∃n:Nat,Ov (x:Int) k=n:=⟨(Ov (x:Int) k).toNat,by omega⟩
  obtain ⟨v,hv'⟩:∃n:Nat,H2 (y:Int) k=n:=⟨(H2 (y:Int) k).toNat,by omega⟩
  rw [hu,hv'];have:=he u v oQ oQ oQ oQ;have e1:((v:Int)*W+u).toNat=v*W+u:=by rw [←vA,←Int.natCast_add,fM]
  have e2:(((v:Int)+t)*W+u).toNat=(v+t)*W+u:=by rw [←Int.natCast_add,←vA,←Int.natCast_add,fM]
  rw [e1,e2,this]
 have hc0:cntF l' x y=cntF l x ((y+t:Nat):Int):=by rw [Int.natCast_add];exact hs _ _ oQ oQ
 have hp0:=he x y hx hy oQ oQ
 have hS:∀k,k≤4→BZ W H' (cntF l') P' x y k=BZ W H (cntF l) P x (y+t) k∧wX W H' (cntF l') x y k=wX W H (cntF l) x (y+t) k:=by
  intro k
  induction k with
  | zero=>intro _;exact ⟨rfl,rfl⟩
  | succ k ih=>
   intro hk;obtain ⟨i1,i2⟩:=ih oQ;simp only [BZ,wX];rw [i1,i2]
   by_cases h:J4 W H' (cntF l') x y k
   ·rw [aF h,aF ((hok k oQ).1 h),aF h,aF ((hok k oQ).1 h),hval k oQ h];exact ⟨rfl,rfl⟩
   ·have h':=fun q=>h ((hok k oQ).2 q)
    rw [aE h,aE h',aE h,aE h'];exact ⟨rfl,rfl⟩
 obtain ⟨s1,s2⟩:=hS 4 oQ;unfold T3 BL;rw [hp0,hc0,Int.natCast_add,s1,s2]
end
theorem aI4 {W H:Nat} {l:List aN} {P:List Int} {x y:Nat} (hx:x<W):uX W H l P (y*W+x)=T3 W H P l x y:=by
 unfold uX T3;rw [←Int.natCast_emod,←Int.natCast_ediv,(dm y hx).1,(dm y hx).2]
def shv (t:Nat) (q:aN):aN:=(q.1,q.2+t)
theorem aEx (t:Nat) (W x v:Int):∀(k:Nat) (u:Int),PM W x (v+t) k u=(PM W x v k u).map (shv t)
 | 0,_=>rfl
 | k+1,u=>by
  unfold PM
  split
  ·rw [List.map_cons,aEx t W x v k (u+1)];rfl
  ·rfl
theorem aAI {W x v:Int} {q:aN}:∀(k:Nat) (u:Int),q∈PM W x v k u→u≤q.1∧q.1<W∧q.2=v
 | 0,_,h=>by cases h
 | k+1,u,h=>by
  unfold PM at h
  split at h
  ·rcases List.mem_cons.1 h with rfl|h
   ·dsimp only;omega
   ·have:=aAI k (u+1) h;omega
  ·cases h
theorem aEy {t H H':Nat} (W x:Int) {y:Int} (h:∀v:Int,y-1≤v→v≤y+1→0≤v→((v<H')↔(v+t<H))):∀(k:Nat) (v:Int),0≤v→y-1≤v→Rc W H x (y+t) k (v+t)=(Rc W H' x y k v).map (shv t)
 | 0,_,_,_=>rfl
 | k+1,v,h0,h1=>by
  unfold Rc
  by_cases hc:v≤min ((H':Int)-1) (y+1)
  ·have:=h v h1 oQ h0;rw [aF hc,aF oQ,List.map_append,aEx,show v+(t:Int)+1=(v+1)+t by omega,aEy W x h k (v+1) oQ oQ]
  ·rw [aE hc,aE]
   ·rfl
   ·intro hc';have:=h v h1 oQ h0
    omega
theorem aAJ {W H x y:Int} {q:aN}:∀(k:Nat) (v:Int),q∈Rc W H x y k v→max 0 (x-1)≤q.1∧q.1<W∧v≤q.2∧q.2<H∧q.2≤y+1
 | 0,_,h=>by cases h
 | k+1,v,h=>by
  unfold Rc at h
  split at h
  ·rcases List.mem_append.1 h with h|h
   ·have:=aAI 4 _ h;omega
   ·have:=aAJ k (v+1) h;omega
  ·cases h
section
variable {W H H' t:Nat} {lo hi:Int} (hR:∀v:Int,lo≤v→v<hi→RR H H' t v) {ph Ys:Int} (hc:∀u v:Int,vL Ys u v=vL ph u (v+t))
include hR hc
theorem aKP {P P':List Int} (he:LR 0 W H' t lo hi P P') {x y:Nat} (hx:x<W) (hy:y<H') (h1:lo+1≤y) (h2:(y:Int)+1<hi):pF W H' P' Ys x y=pF W H P ph x (y+t):=by
 have r0:=hR (y-1) oQ oQ;have r1:=hR y oQ oQ;have r2:=hR (y+1) oQ oQ;unfold RR at r0 r1 r2
 have hL:tN W H x ((y:Int)+t)=(tN W H' x y).map (shv t):=by
  unfold tN;rw [show max 0 ((y:Int)+t-1)=max 0 ((y:Int)-1)+t by omega];refine aEy W x (fun v a b c=>?_) 4 _ oQ oQ;have:v=y-1∨v=y∨v=y+1:=oQ
  rcases this with rfl|rfl|rfl <;> omega
 have hm:∀q∈tN W H' x y,0≤q.1∧q.1<W∧0≤q.2∧q.2<H'∧lo≤q.2∧q.2<hi:=fun q hq=>by
  have:=aAJ 4 _ hq
  omega
 have hA:∀q:aN,0≤q.1∧q.1<W∧0≤q.2∧q.2<H'∧lo≤q.2∧q.2<hi→Yr W P (shv t q)=Yr W P' q:=fun q hq=>by
  obtain ⟨u,v⟩:=q;dsimp only at hq;obtain ⟨u,rfl⟩:=sC hq.1;obtain ⟨v,rfl⟩:=sC hq.2.2.1;have:=he u v oQ oQ oQ oQ;unfold Yr shv
  dsimp only
  have e1:((v:Int)*W+u).toNat=v*W+u:=by rw [←vA,←Int.natCast_add,fM]
  have e2:(((v:Int)+t)*W+u).toNat=(v+t)*W+u:=by rw [←Int.natCast_add,←vA,←Int.natCast_add,fM]
  rw [e1,e2,this]
 have hO:∀c,ofC ph c ((tN W H' x y).map (shv t))=(ofC Ys c (tN W H' x y)).map (shv t):=fun c=>by
  unfold ofC;rw [List.filter_map]
  congr 1
  refine List.filter_congr fun q _=>?_
  show decide (vL ph q.1 (q.2+t)=c)=decide (vL Ys q.1 q.2=c);rw [hc]
 have hcnt:∀c,cnt ph c (tN W H x ((y:Int)+t))=cnt Ys c (tN W H' x y):=fun c=>by
  unfold cnt;rw [hL,hO,xK]
 have hsm:∀c,sm W P ph c (tN W H x ((y:Int)+t))=sm W P' Ys c (tN W H' x y):=fun c=>by
  unfold sm;rw [hL,hO,List.map_map]
  congr 1
  refine List.map_congr_left fun q hq=>?_
  exact hA q (hm q (List.mem_filter.1 hq).1)
 have h0:=hA ((x:Int),(y:Int)) (by dsimp only;omega);unfold shv at h0;unfold pF Re;rw [Int.natCast_add,hcnt,hcnt,hcnt,hsm,hsm,hsm,←h0,hc]
end
section
variable {W H H' t:Nat} {lo hi:Int} (hR:∀v:Int,lo≤v→v<hi→RR H H' t v)
include hR
theorem aG1 (am:Int) {P P':List Px} (he:LR FG W H' t lo hi P P') {x y:Nat} (hx:x<W) (hy:y<H') (h1:lo+1≤y) (h2:(y:Int)+1<hi):shF am W H' P' x y=shF am W H P x (y+t):=by
 have r0:=hR (y-1) oQ oQ;have r1:=hR y oQ oQ;have r2:=hR (y+1) oQ oQ;unfold RR at r0 r1 r2
 have hn:∀dy dx:Int,-1≤dy→dy≤1→nb P' W H' x y dy dx=nb P W H x (y+t) dy dx:=fun dy dx a b=>by
  have hd:dy = -1∨dy=0∨dy=1:=oQ
  have e:cl (y+t) dy H=cl y dy H'+t∧cl y dy H'<H'∧lo≤cl y dy H'∧(cl y dy H':Int)<hi:=by
   unfold cl
   rcases hd with rfl|rfl|rfl <;> omega
  have e2:cl x dx W<W:=by unfold cl;omega
  unfold nb;rw [e.1];exact he _ _ e2 e.2.1 e.2.2.1 e.2.2.2
 have h0:GY P' W x y=GY P W x (y+t):=he x y hx hy oQ oQ;unfold shF Ni J7;rw [h0,hn (-1) (-1) oQ oQ,hn (-1) 0 oQ oQ,hn (-1) 1 oQ oQ,hn 0 (-1) oQ oQ,hn 0 0 oQ oQ,hn 0 1 oQ oQ,hn 1 (-1) oQ oQ,hn 1 0 oQ oQ,hn 1 1 oQ oQ]
end
section
variable {W H H' t:Nat} {ph b0 b1 b2 b3 w:Int} {sp:List aN} {g0 g1 g2 m0 m1 m2 m3 m4 m5 m6 m7 m8:Int} {cv:List aN} {am:Int} {Ys c0 c1 c2 c3:Int} {sp':List aN}
theorem aG2 {lo hi:Int} (hR:∀v:Int,lo≤v→v<hi→RR H H' t v)
  (hb:∀x y:Nat,MA c0 c1 c2 c3 x y=MA b0 b1 b2 b3 x (y+t)) (hc:∀u v:Int,vL Ys u v=vL ph u (v+t)) (hs:∀u v:Int,0≤v→v<H'→cntF sp' u v=cntF sp u (v+t))
  {P P':List Int} (hl:P.length=W*H) (hl':P'.length=W*H') (he:LR 0 W H' t lo hi P P') :
  LR FG W H' t (lo+4) (hi-4) (SM ph b0 b1 b2 b3 w sp g0 g1 g2 m0 m1 m2 m3 m4 m5 m6 m7 m8 cv am W H P) (SM Ys c0 c1 c2 c3 w sp' g0 g1 g2 m0 m1 m2 m3 m4 m5 m6 m7 m8 cv am W H' P'):=by
 have sub:∀d:Int,0≤d→∀v:Int,lo+d≤v→v<hi-d→RR H H' t v:=fun d _ v a b=>hR v oQ oQ
 have e1:LR 0 W H' t lo hi (st1 b0 b1 b2 b3 w W P) (st1 c0 c1 c2 c3 w W P'):=by
  refine KL hR (f:=fun P i=>MB W P b0 b1 b2 b3 w i) (f':=fun P i=>MB W P c0 c1 c2 c3 w i) hl hl' fun x y hx hy h1 h2=>?_
  simp only [MB];rw [(dm y hx).1,(dm y hx).2,(dm (y+t) hx).1,(dm (y+t) hx).2,hb,he x y hx hy h1 h2]
 have l1:(st1 b0 b1 b2 b3 w W P).length=W*H:=by unfold st1;rw [xK,List.length_range,hl]
 have l1':(st1 c0 c1 c2 c3 w W P').length=W*H':=by unfold st1;rw [xK,List.length_range,hl']
 have e2:LR 0 W H' t (lo+2) (hi-2) (st2 b0 b1 b2 b3 w sp W H P) (st2 c0 c1 c2 c3 w sp' W H' P'):=by
  refine KL (sub 2 oQ) (f:=fun P i=>uX W H sp P i) (f':=fun P i=>uX W H' sp' P i) l1 l1' fun x y hx hy h1 h2=>?_
  show uX W H' sp' _ _=uX W H sp _ _;rw [aI4 hx,aI4 hx];exact aKO hR hs e1 hx hy h1 oQ
 have l2:(st2 b0 b1 b2 b3 w sp W H P).length=W*H:=by unfold st2;rw [xK,List.length_range,l1]
 have l2':(st2 c0 c1 c2 c3 w sp' W H' P').length=W*H':=by unfold st2;rw [xK,List.length_range,l1']
 have e3:LR 0 W H' t (lo+2) (hi-2) (st3 ph b0 b1 b2 b3 w sp g0 g1 g2 W H P) (st3 Ys c0 c1 c2 c3 w sp' g0 g1 g2 W H' P'):=by
  refine KL (sub 2 oQ) (f:=fun P i=>WJ W P ph g0 g1 g2 i) (f':=fun P i=>WJ W P Ys g0 g1 g2 i) l2 l2' fun x y hx hy h1 h2=>?_
  simp only [WJ];rw [(dm y hx).1,(dm y hx).2,(dm (y+t) hx).1,(dm (y+t) hx).2,hc,Int.natCast_add,e2 x y hx hy h1 h2]
 have e4:LR FG W H' t (lo+3) (hi-3) (st4 ph b0 b1 b2 b3 w sp g0 g1 g2 W H P) (st4 Ys c0 c1 c2 c3 w sp' g0 g1 g2 W H' P'):=by
  unfold st4;exact WP (sub 3 oQ) fun x y hx hy h1 h2=>aKP (sub 2 oQ) hc e3 hx hy oQ oQ
 have l4:(st4 ph b0 b1 b2 b3 w sp g0 g1 g2 W H P).length=W*H:=E4 _ _ _;have l4':(st4 Ys c0 c1 c2 c3 w sp' g0 g1 g2 W H' P').length=W*H':=E4 _ _ _
 have e5:LR FG W H' t (lo+3) (hi-3) (st5 ph b0 b1 b2 b3 w sp g0 g1 g2 m0 m1 m2 m3 m4 m5 m6 m7 m8 W H P) (st5 Ys c0 c1 c2 c3 w sp' g0 g1 g2 m0 m1 m2 m3 m4 m5 m6 m7 m8 W H' P'):=by
  refine KL (sub 3 oQ) (f:=fun P i=>OK m0 m1 m2 m3 m4 m5 m6 m7 m8 (P.getD i FG)) (f':=fun P i=>OK m0 m1 m2 m3 m4 m5 m6 m7 m8 (P.getD i FG)) l4 l4' fun x y hx hy h1 h2=>?_
  rw [e4 x y hx hy h1 h2]
 have l5:(st5 ph b0 b1 b2 b3 w sp g0 g1 g2 m0 m1 m2 m3 m4 m5 m6 m7 m8 W H P).length=W*H:=by unfold st5;rw [xK,List.length_range,l4]
 have l5':(st5 Ys c0 c1 c2 c3 w sp' g0 g1 g2 m0 m1 m2 m3 m4 m5 m6 m7 m8 W H' P').length=W*H':=by unfold st5;rw [xK,List.length_range,l4']
 have e6:LR FG W H' t (lo+3) (hi-3) (st6 ph b0 b1 b2 b3 w sp g0 g1 g2 m0 m1 m2 m3 m4 m5 m6 m7 m8 cv W H P) (st6 Ys c0 c1 c2 c3 w sp' g0 g1 g2 m0 m1 m2 m3 m4 m5 m6 m7 m8 cv W H' P'):=by
  refine KL (sub 3 oQ) (f:=fun P i=>Iz cv (P.getD i FG)) (f':=fun P i=>Iz cv (P.getD i FG)) l5 l5' fun x y hx hy h1 h2=>?_
  rw [e5 x y hx hy h1 h2]
 unfold SM;exact WP (sub 4 oQ) fun x y hx hy h1 h2=>aG1 (sub 3 oQ) am e6 hx hy oQ oQ
end
def WQ (t r:Int) (l:List aN):List aN:=(l.filter fun s=>decide (t≤s.2∧s.2<t+r)).map fun s=>(s.1,s.2-t)
def dnP (t ph:Int):Int:=if t%2=1 then Wi .i64 ph 2 else ph
def L5 (t a b:Int):Int:=if t%2=1 then b else a
theorem aAK (t r:Int):WQ t r []=[]:=rfl
theorem Rm (t r:Int) (s:aN) (l:List aN):WQ t r (s::l)=if t≤s.2∧s.2<t+r then (s.1,s.2-t)::WQ t r l else WQ t r l:=by
 unfold WQ;rw [List.filter_cons]
 by_cases h:t≤s.2∧s.2<t+r
 ·rw [aF (by simp [h]),aF h];rfl
 ·rw [aE (by simp only [decide_eq_true_eq];exact h),aE h]
theorem WR (s:aN) (l:List aN) (u v:Int):cntF (s::l) u v=cntF l u v+if s=(u,v) then 1 else 0:=by
 unfold cntF;rw [List.count_cons]
 by_cases h:s=(u,v)
 ·rw [aF h,aF (by simp [h])];omega
 ·rw [aE h,aE (by simpa using h)];omega
theorem aAL (t r u:Int) {v:Int} (h0:0≤v) (h1:v<r):∀l:List aN,cntF (WQ t r l) u v=cntF l u (v+t)
 | []=>rfl
 | s::l=>by
  have ih:=aAL t r u h0 h1 l;rw [Rm,WR];obtain ⟨a,b⟩:=s
  by_cases h:t≤b∧b<t+r
  ·rw [aF h,WR,ih]
   congr 1
   by_cases e:a=u∧b=v+t
   ·rw [aF (by rw [Prod.mk.injEq];omega),aF (by rw [Prod.mk.injEq];omega)]
   ·rw [aE (by rw [Prod.mk.injEq];omega),aE (by rw [Prod.mk.injEq];omega)]
  ·rw [aE h,ih,aE (by rw [Prod.mk.injEq];omega)];omega
theorem aG3 (t r:Int) (l:List aN):(WQ t r l).length≤l.length:=by
 unfold WQ;rw [xK];exact List.length_filter_le _ _
theorem aAM {t r W H W':Int} {l:List aN} (h:l.all (gX W H)=true) (hW:W≤W'):(WQ t r l).all (gX W' r)=true:=by
 refine List.all_eq_true.2 fun q hq=>?_
 obtain ⟨s,hs,rfl⟩:=List.mem_map.1 hq;obtain ⟨hs,hr⟩:=List.mem_filter.1 hs;have:=List.all_eq_true.1 h s hs;simp only [gX,o9,decide_eq_true_eq] at this hr ⊢
 omega
theorem aG4 {W H W' H':Int} {l:List aN} (h:l.all (gX W H)=true) (hW:W≤W') (hH:H≤H'):l.all (gX W' H')=true:=by
 refine List.all_eq_true.2 fun q hq=>?_
 have:=List.all_eq_true.1 h q hq;simp only [gX,o9,decide_eq_true_eq] at this ⊢
 omega
theorem aG5:∀p:Fin 4,Wi .i64 ((p.val:Nat):Int) 2=((p.val:Nat):Int)+(if p.val<2 then 2 else -2):=by decide +kernel
theorem aAN {ph:Int} (h:0≤ph∧ph≤3):Wi .i64 ph 2=if ph<2 then ph+2 else ph-2:=by
 have:=aG5 ⟨ph.toNat,by omega⟩;have e:((ph.toNat:Nat):Int)=ph:=oQ
 simp only [e] at this;rw [this]
 split <;> split <;> omega
theorem aKQ {t ph:Int} (h:0≤ph∧ph≤3):0≤dnP t ph∧dnP t ph≤3:=by
 unfold dnP
 split
 ·rw [aAN h];split <;> omega
 ·exact h
theorem aG6 {t ph:Int} (h:0≤ph∧ph≤3) (u v:Int):vL (dnP t ph) u v=vL ph u (v+t):=by
 unfold dnP vL
 split
 ·rw [aAN h]
  split
  ·have:ph=0∨ph=1:=oQ
   rcases this with rfl|rfl <;> omega
  ·have:ph=2∨ph=3:=oQ
   rcases this with rfl|rfl <;> omega
 ·omega
theorem aG7 (t:Nat) (b0 b1 b2 b3:Int) (x y:Nat):MA (L5 t b0 b2) (L5 t b1 b3) (L5 t b2 b0) (L5 t b3 b1) x y=MA b0 b1 b2 b3 x (y+t):=by
 unfold L5 MA
 by_cases h:(t:Int)%2=1
 ·rw [aF h,aF h,aF h,aF h]
  by_cases hy:y%2=0
  ·have hz:¬(y+t)%2=0:=oQ
   rw [aF hy,aE hz]
  ·have hz:(y+t)%2=0:=oQ
   rw [aE hy,aF hz]
 ·rw [aE h,aE h,aE h,aE h]
  by_cases hy:y%2=0
  ·have hz:(y+t)%2=0:=oQ
   rw [aF hy,aF hz]
  ·have hz:¬(y+t)%2=0:=oQ
   rw [aE hy,aE hz]
section
variable {ph b0 b1 b2 b3 w:Int} {sp:List aN} {g0 g1 g2 m0 m1 m2 m3 m4 m5 m6 m7 m8:Int} {am:Int}
theorem aEz (h:MC ph b0 b1 b2 b3 w sp g0 g1 g2 m0 m1 m2 m3 m4 m5 m6 m7 m8 am):zP ph b0 b1 b2 b3 w sp g0 g1 g2 m0 m1 m2 m3 m4 m5 m6 m7 m8 am=true:=by
 obtain ⟨a,b,⟨c0,c1,c2,c3⟩,d,e,⟨f0,f1,f2⟩,g,i⟩:=h;unfold zP qQq;simp only [tK,List.all_nil,Bool.and_true,o9,decide_eq_true_eq];exact ⟨a,b,⟨⟨c0.1,by omega⟩,⟨c1.1,by omega⟩,⟨c2.1,by omega⟩,⟨c3.1,by omega⟩⟩,d,e,⟨f0,f1,f2⟩,g,i⟩
theorem aBY (h:MC ph b0 b1 b2 b3 w sp g0 g1 g2 m0 m1 m2 m3 m4 m5 m6 m7 m8 am) (t:Int) {r:Int} (hr:r≤64):MC (dnP t ph) (L5 t b0 b2) (L5 t b1 b3) (L5 t b2 b0) (L5 t b3 b1) w (WQ t r sp) g0 g1 g2 m0 m1 m2 m3 m4 m5 m6 m7 m8 am:=by
 obtain ⟨a,b,⟨c0,c1,c2,c3⟩,d,e,f,g,i⟩:=h;refine ⟨aKQ a,b,?_,by have:=aG3 t r sp;omega,aG4 (aAM (r:=r) e (Int.le_refl _)) (Int.le_refl _) hr,f,g,i⟩;unfold L5 WF
 split
 ·exact ⟨c2,c3,c0,c1⟩
 ·exact ⟨c0,c1,c2,c3⟩
end
theorem KN {α:Type} {Q:List α} {W H a b:Nat} (hl:Q.length=W*H) (hb:b≤H):((Q.take (b*W)).drop (a*W)).length=(b-a)*W:=by
 have:=Nat.mul_le_mul_right W hb;rw [List.length_drop,yQ,hl,oA W H,Nat.min_eq_left this,Nat.sub_mul]
theorem Rn {α:Type} {Q:List α} {W H a b:Nat} (z:α) (hl:Q.length=W*H) (hb:b≤H) {i:Nat} (hi:i<(b-a)*W):((Q.take (b*W)).drop (a*W))[i]? = some (Q.getD ((a+i/W)*W+i%W) z):=by
 have h1:=Nat.mul_le_mul_right W hb;have e:(a+i/W)*W+i%W=a*W+i:=by rw [Nat.add_mul,Nat.add_assoc,Nat.div_add_mod' i W]
 rw [Nat.sub_mul] at hi;rw [List.getElem?_drop,List.getElem?_take_of_lt oQ,e,qG,f9 (by rw [hl,oA W H];omega)]
 rfl
theorem aG8 {α:Type} {z:α} {W H H' t a b:Nat} {lo hi:Int} {Q Q':List α} (he:LR z W H' t lo hi Q Q') (hl:Q.length=W*H) (hl':Q'.length=W*H') (hb:b≤H') (hb':b+t≤H) (h1:lo≤a) (h2:(b:Int)≤hi) :
  (Q'.take (b*W)).drop (a*W)=(Q.take ((b+t)*W)).drop ((a+t)*W):=by
 apply List.ext_getElem?
 intro i
 by_cases hi:i<(b-a)*W
 ·have hW:0<W:=by
   rcases Nat.eq_zero_or_pos W with h0|h0
   ·subst h0;simp at hi
   ·exact h0
  have hd:i/W<b-a:=Nat.div_lt_of_lt_mul (by rw [oA];exact hi);rw [Rn z hl' hb hi,Rn z hl hb' (by rw [show b+t-(a+t)=b-a by omega];exact hi)]
  generalize i/W=q at hd ⊢
  rw [he _ _ (Nat.mod_lt i hW) oQ oQ oQ,show a+q+t=a+t+q by omega]
 ·rw [wW (by rw [KN hl' hb];omega),wW (by rw [KN hl hb',show b+t-(a+t)=b-a by omega];omega)]
theorem aEA {α:Type} (Q:List α) {W a b:Nat} (h:a≤b):Q.take (a*W)++(Q.take (b*W)).drop (a*W)=Q.take (b*W):=by
 have h1:=Nat.mul_le_mul_right W h;have:=List.take_append_drop (a*W) (Q.take (b*W));rw [List.take_take,Nat.min_eq_left h1] at this;exact this
theorem aBZ {z:Int} {W H a b:Nat} {P:List Int} (lo hi:Int) (hl:P.length=W*H) (hb:b≤H):LR z W (b-a) a lo hi P ((P.take (b*W)).drop (a*W)):=fun x y hx hy _ _=>by
 have hp:=mL hx hy;rw [oA W] at hp;rw [qG,Rn z hl hb hp,(dm y hx).1,(dm y hx).2,Nat.add_comm a y];rfl
theorem aG9 {sp:List aN} {t r:Int} (hsp:sp.all (gX 64 64)=true) (hn:sp.length≤64) (ht:0≤t∧t≤64) (hr:0≤r∧r≤64) (kk):∀(d k aA:Nat),k+d=sp.length→d<aA→∀acc:List aN,acc.length≤k →
  uH 8589934592 sp t r kk aA (acc,(k:Int))=kk (acc++WQ t r (sp.drop k),(sp.length:Int)):=by
 intro d
 induction d with
 | zero=>
  intro k aA hk hf acc ha;obtain ⟨aA,rfl⟩:=kF aA oQ;obtain rfl:k=sp.length:=oQ
  unfold uH;rw [nL,List.drop_length,aAK,v4]
 | succ d ih=>
  intro k aA hk hf acc ha;obtain ⟨aA,rfl⟩:=kF aA oQ;have hlt:k<sp.length:=oQ
  have hs:=List.all_eq_true.1 hsp sp[k] (List.getElem_mem hlt);simp only [gX,o9,decide_eq_true_eq] at hs;have e:aC.wrap ((k:Int)+1)=((k+1:Nat):Int):=cM oQ;unfold uH;rw [p8,dC,f9 hlt,aD,zC hlt,Rm,cM (x:=t+r) oQ,cM (x:=sp[k].2-t) oQ,e]
  by_cases h1:t≤sp[k].2
  ·rw [cT (dT h1)]
   by_cases h2:sp[k].2<t+r
   ·rw [cT (dT h2),aF ⟨h1,h2⟩,iQ uW,aD,ih (k+1) aA oQ oQ _ uW,pL];rfl
   ·rw [cF (dF h2),aE (fun h=>h2 h.2),ih (k+1) aA oQ oQ _ oQ]
  ·rw [cF (dF h1),aE (fun h=>h1 h.1),ih (k+1) aA oQ oQ _ oQ]
theorem aHa {sp:List aN} {t r:Int} (hsp:sp.all (gX 64 64)=true) (hn:sp.length≤64) (ht:0≤t∧t≤64) (hr:0≤r∧r≤64) (kk):∀(d k aA:Nat),k+d=sp.length→d<aA→∀acc:List aN,acc.length≤k →
  uI 8589934592 sp t r kk aA (acc,(k:Int))=kk (acc++WQ t r (sp.drop k),(sp.length:Int)):=by
 intro d
 induction d with
 | zero=>
  intro k aA hk hf acc ha;obtain ⟨aA,rfl⟩:=kF aA oQ;obtain rfl:k=sp.length:=oQ
  unfold uI;rw [nL,List.drop_length,aAK,v4]
 | succ d ih=>
  intro k aA hk hf acc ha;obtain ⟨aA,rfl⟩:=kF aA oQ;have hlt:k<sp.length:=oQ
  have hs:=List.all_eq_true.1 hsp sp[k] (List.getElem_mem hlt);simp only [gX,o9,decide_eq_true_eq] at hs;have e:aC.wrap ((k:Int)+1)=((k+1:Nat):Int):=cM oQ;unfold uI;rw [p8,dC,f9 hlt,aD,zC hlt,Rm,cM (x:=t+r) oQ,cM (x:=sp[k].2-t) oQ,e]
  by_cases h1:t≤sp[k].2
  ·rw [cT (dT h1)]
   by_cases h2:sp[k].2<t+r
   ·rw [cT (dT h2),aF ⟨h1,h2⟩,iQ uW,aD,ih (k+1) aA oQ oQ _ uW,pL];rfl
   ·rw [cF (dF h2),aE (fun h=>h2 h.2),ih (k+1) aA oQ oQ _ oQ]
  ·rw [cF (dF h1),aE (fun h=>h1 h.1),ih (k+1) aA oQ oQ _ oQ]
theorem aEB (ph b0 b1 b2 b3 w:Int) (sp:List aN) (g0 g1 g2 m0 m1 m2 m3 m4 m5 m6 m7 m8:Int) (cv:List aN) (am:Int) {t r:Int} (hsp:sp.all (gX 64 64)=true) (hn:sp.length≤64) (ht:0≤t∧t≤64) (hr:0≤r∧r≤64):Fe 8589934592 ph b0 b1 b2 b3 w sp g0 g1 g2 m0 m1 m2 m3 m4 m5 m6 m7 m8 cv am t r=some (dnP t ph,L5 t b0 b2,L5 t b1 b3,L5 t b2 b0,L5 t b3 b1,w,WQ t r sp,g0,g1,g2,m0,m1,m2,m3,m4,m5,m6,m7,m8,cv,am):=by
 have tm:mN t 2=t%2:=Int.tmod_eq_emod_of_nonneg ht.1;unfold Fe;rw [tm]
 by_cases h:t%2=1
 ·have:=aG9 hsp hn ht hr (fun x:Km=>some (Wi .i64 ph 2,b2,b3,b0,b1,w,x.1,g0,g1,g2,m0,m1,m2,m3,m4,m5,m6,m7,m8,cv,am)) sp.length 0 8589934592 oQ oQ [] sQ;rw [cT (dT h)];refine Eq.trans this ?_;rw [List.drop_zero,List.nil_append];unfold dnP L5;rw [aF h,aF h,aF h,aF h,aF h]
 ·have:=aHa hsp hn ht hr (fun x:Km=>some (ph,b0,b1,b2,b3,w,x.1,g0,g1,g2,m0,m1,m2,m3,m4,m5,m6,m7,m8,cv,am)) sp.length 0 8589934592 oQ oQ [] sQ;rw [cF (dF h)];refine Eq.trans this ?_;rw [List.drop_zero,List.nil_append];unfold dnP L5;rw [aE h,aE h,aE h,aE h,aE h]
theorem aHb (lo hi n:Int):rX 8589934592 lo hi [n]=some (decide (lo≤n∧n≤hi)):=by
 rw [Jj _ _ _ sQ];simp only [tK,List.all_nil,Bool.and_true]
 rfl
theorem aEC {W H:Int} {P:List Int} (hl:P.length≤9223372036854775807):∃r,iL 8589934592 W H P []=some r∧r.2.2.2=if dK W H P=false then 1 else 0:=by
 unfold iL;rw [aE oQ];cases dK W H P
 ·exact ⟨_,rfl,rfl⟩
 ·exact ⟨_,rfl,rfl⟩
def OP (sp:List aN) (W H t h a b:Int):Prop:=(1≤h∧h≤64)∧(0≤t∧t≤h-H)∧(0≤a∧a≤h-1)∧(a+1≤b∧b≤h)∧¬(max (a-4) 0<t)∧¬(t+H<min (b+4) h)∧sp.all (gX W h)=true
instance (sp:List aN) (W H t h a b:Int):Decidable (OP sp W H t h a b):=by unfold OP;infer_instance
section
variable (ph b0 b1 b2 b3 w:Int) (sp:List aN) (g0 g1 g2 m0 m1 m2 m3 m4 m5 m6 m7 m8:Int) (cv:List aN) (am:Int)
def aHc (f:Bool) (W H:Int) (P:List Int) (t h a b:Int):Int:=if zP ph b0 b1 b2 b3 w sp g0 g1 g2 m0 m1 m2 m3 m4 m5 m6 m7 m8 am=false then 3 else if f=false then 1 else if dK W H P=false then 1 else if OP sp W H t h a b then 0 else 3
def WS (W H:Nat) (P:List Int) (t a b:Nat):List Px:=((SM (dnP t ph) (L5 t b0 b2) (L5 t b1 b3) (L5 t b2 b0) (L5 t b3 b1) w (WQ t H sp) g0 g1 g2 m0 m1 m2 m3 m4 m5 m6 m7 m8 cv am W H P).take ((b-t)*W)).drop ((a-t)*W)
theorem aED {l:List Px} (h0:0<l.length) (h1:l.length≤4096):j0 8589934592 l=some l:=by
 unfold j0
 have:D5 l=some ():=by cases l with
  | nil=>simp at h0
  | cons x l=>rfl
 first
  | rw [this,aD,iQ (by rw [List.length_nil];omega),aD,List.nil_append]
  | rw [iQ (by rw [List.length_nil];omega),aD,List.nil_append]
theorem aHd (hb:jP 8589934592 cv=some true) (hc:pU cv) {W H:Nat} {P:List Int} {t h a b:Nat} (he:aHc ph b0 b1 b2 b3 w sp g0 g1 g2 m0 m1 m2 m3 m4 m5 m6 m7 m8 am true W H P t h a b=0):Ff 8589934592 ph b0 b1 b2 b3 w sp g0 g1 g2 m0 m1 m2 m3 m4 m5 m6 m7 m8 cv am W H P t h a b=some ((W:Int),((b-a:Nat):Int),WS ph b0 b1 b2 b3 w sp g0 g1 g2 m0 m1 m2 m3 m4 m5 m6 m7 m8 cv am W H P t a b,0):=by
 have hc':(true=true)↔pU cv:=iff_of_true rfl hc;unfold aHc at he;cases hB:zP ph b0 b1 b2 b3 w sp g0 g1 g2 m0 m1 m2 m3 m4 m5 m6 m7 m8 am
 ·rw [hB] at he;simp at he
 cases hf:dK W H P
 ·rw [hB,hf] at he;simp at he
 have hk:OP sp W H t h a b:=by
  refine Decidable.byContradiction fun q=>?_
  rw [hB,hf,aE q] at he;simp at he
 have hp:=KK ph b0 b1 b2 b3 w sp g0 g1 g2 m0 m1 m2 m3 m4 m5 m6 m7 m8 am hB;obtain ⟨w',h',ew,eh,w1,w2,w3,w4,gK,hm,hall⟩:=EF hf;obtain rfl:w'=W:=oQ
 obtain rfl:h'=H:=oQ
 obtain ⟨c1,c2,c3,c4,c5,c6,c7⟩:=hk;have hn:=hp.ON;have hs:1≤w'∧w'≤64∧1≤h'∧h'≤64:=⟨w1,w2,w3,w4⟩
 have hP:=KJ gK hall;obtain ⟨r3,hr3,aMA⟩:=aEC (W:=w') (H:=h') (P:=P) oQ;rw [hf] at aMA;have hp':MC (dnP t ph) (L5 t b0 b2) (L5 t b1 b3) (L5 t b2 b0) (L5 t b3 b1) w (WQ t h' sp) g0 g1 g2 m0 m1 m2 m3 m4 m5 m6 m7 m8 am:=aBY hp t oQ;have hw:=aEu hp' hs gK hP hc (aAM c7 (Int.le_refl _)) hf hb (aEz hp')
 have e1:aC.wrap (aC.wrap ((a:Int)-t)*(w':Int))=(((a-t)*w':Nat):Int):=by
  have hta:t≤a:=oQ
  have hm2:(a-t)*w'≤64*64:=tM oQ w2;rw [cM (x:=(a:Int)-t) oQ,show (a:Int)-t=((a-t:Nat):Int) by omega,←vA,cM oQ]
 have e2:aC.wrap (aC.wrap ((b:Int)-t)*(w':Int))=(((b-t)*w':Nat):Int):=by
  have hta:t≤b:=oQ
  have hm2:(b-t)*w'≤64*64:=tM oQ w2;rw [cM (x:=(b:Int)-t) oQ,show (b:Int)-t=((b-t:Nat):Int) by omega,←vA,cM oQ]
 have hl7:(SM (dnP t ph) (L5 t b0 b2) (L5 t b1 b3) (L5 t b2 b0) (L5 t b3 b1) w (WQ t h' sp) g0 g1 g2 m0 m1 m2 m3 m4 m5 m6 m7 m8 cv am w' h' P).length=w'*h':=E4 _ _ _;have hbt:b-t≤h':=oQ
 have hle:(a-t)*w'≤(b-t)*w':=Nat.mul_le_mul_right _ oQ;have hle2:(b-t)*w'≤w'*h':=by rw [oA w'];exact Nat.mul_le_mul_right _ hbt
 have hlv:(WS ph b0 b1 b2 b3 w sp g0 g1 g2 m0 m1 m2 m3 m4 m5 m6 m7 m8 cv am w' h' P t a b).length=(b-t-(a-t))*w':=KN hl7 hbt;have hpos:0<(b-t-(a-t))*w':=Nat.mul_pos oQ oQ;have hmax:(b-t-(a-t))*w'≤64*64:=tM oQ w2;unfold Ff;rw [Nk ph b0 b1 b2 b3 w sp g0 g1 g2 m0 m1 m2 m3 m4 m5 m6 m7 m8 cv am hb hc',hB,aE sQ,aE sQ,aD,cF rQ,hr3,aD,aMA,aE sQ,cF rQ];rw [aHb,aD,cF (by rw [dT c1];rfl),cM (x:=(h:Int)-h') oQ,aHb,aD,cF (by rw [dT c2];rfl),cM (x:=(h:Int)-1) oQ,aHb,aD,cF (by rw [dT c3];rfl),cM (x:=(a:Int)+1) oQ,aHb,aD,cF (by rw [dT c4];rfl)];rw [cM (x:=(a:Int)-4) oQ,cF (dF c5),cM (x:=(t:Int)+h') oQ,cM (x:=(b:Int)+4) oQ,cF (dF c6),T7 sp oQ oQ oQ,aD,c7,cF rQ];rw [aEB ph b0 b1 b2 b3 w sp g0 g1 g2 m0 m1 m2 m3 m4 m5 m6 m7 m8 cv am hp.spots hp.ON oQ oQ,aD]
 dsimp only
 rw [hw,aD,cF rQ]
 dsimp only
 rw [e1,e2,EE (by rw [hl7];omega),aD,fM,fM];rw [show ((SM (dnP t ph) (L5 t b0 b2) (L5 t b1 b3) (L5 t b2 b0) (L5 t b3 b1) w (WQ t h' sp) g0 g1 g2 m0 m1 m2 m3 m4 m5 m6 m7 m8 cv am w' h' P).take ((b-t)*w')).drop ((a-t)*w')=WS ph b0 b1 b2 b3 w sp g0 g1 g2 m0 m1 m2 m3 m4 m5 m6 m7 m8 cv am w' h' P t a b from rfl,aED (by rw [hlv];exact hpos) (by rw [hlv];omega),aD,cM oQ,show (b:Int)-a=((b-a:Nat):Int) by omega]
theorem aEE (hp:MC ph b0 b1 b2 b3 w sp g0 g1 g2 m0 m1 m2 m3 m4 m5 m6 m7 m8 am) {W H G:Nat} {P A:List Int} {t a b:Nat} (hl:P.length=W*H) (hA:A.length=W*G) (hk:OP sp W H t G a b) (he:∀lo hi:Int,LR 0 W H t lo hi A P) :
  WS ph b0 b1 b2 b3 w sp g0 g1 g2 m0 m1 m2 m3 m4 m5 m6 m7 m8 cv am W H P t a b=((SM ph b0 b1 b2 b3 w sp g0 g1 g2 m0 m1 m2 m3 m4 m5 m6 m7 m8 cv am W G A).take (b*W)).drop (a*W):=by
 obtain ⟨c1,c2,c3,c4,c5,c6,c7⟩:=hk
 have key:=aG2 (W:=W) (H:=G) (H':=H) (t:=t) (lo:=(a:Int)-t-4) (hi:=(b:Int)-t+4) (ph:=ph) (b0:=b0) (b1:=b1) (b2:=b2) (b3:=b3) (w:=w) (sp:=sp) (g0:=g0) (g1:=g1) (g2:=g2) (m0:=m0) (m1:=m1) (m2:=m2) (m3:=m3) (m4:=m4) (m5:=m5) (m6:=m6) (m7:=m7) (m8:=m8) (cv:=cv) (am:=am)
  (fun v h1 h2=>by unfold RR;omega) (aG7 t b0 b1 b2 b3) (aG6 hp.aI) (fun u v h0 h1=>aAL t H u h0 h1 sp) hA hl (he _ _)
 have:=aG8 (a:=a-t) (b:=b-t) key (E4 _ _ _) (E4 _ _ _) oQ oQ oQ oQ;unfold WS;rw [this,show b-t+t=b by omega,show a-t+t=a by omega]
end
theorem aB0 {W H a b:Nat} {P:List Int} (hf:dK W H P=true) (hl:P.length=W*H) (hab:a<b) (hb:b≤H):dK W ((b-a:Nat):Int) ((P.take (b*W)).drop (a*W))=true:=by
 obtain ⟨⟨f1,f2,f3,f4⟩,f5,f6⟩:=sI.1 hf;refine sI.2 ⟨⟨by omega,by omega,by omega,by omega⟩,?_,List.all_eq_true.2 fun x hx=>?_⟩
 ·rw [KN hl hb,vA,Int.mul_comm]
 ·exact List.all_eq_true.1 f6 x (List.mem_of_mem_take (List.mem_of_mem_drop hx))
section
variable (ph b0 b1 b2 b3 w:Int) (sp:List aN) (g0 g1 g2 m0 m1 m2 m3 m4 m5 m6 m7 m8:Int) (cv:List aN) (am:Int)
theorem T8 {f:Bool} {W H:Int} {P:List Int} (h:OO ph b0 b1 b2 b3 w sp g0 g1 g2 m0 m1 m2 m3 m4 m5 m6 m7 m8 am f W H P=0):zP ph b0 b1 b2 b3 w sp g0 g1 g2 m0 m1 m2 m3 m4 m5 m6 m7 m8 am=true∧f=true∧dK W H P=true∧sp.all (gX W H)=true:=by
 unfold OO at h;cases hB:zP ph b0 b1 b2 b3 w sp g0 g1 g2 m0 m1 m2 m3 m4 m5 m6 m7 m8 am
 ·rw [hB] at h;simp at h
 cases f
 ·rw [hB] at h;simp at h
 cases hf:dK W H P
 ·rw [hB,hf] at h;simp at h
 cases hs:sp.all (gX W H)
 ·rw [hB,hf,hs] at h;simp at h
 exact ⟨rfl,rfl,rfl,rfl⟩
theorem aB1 (hb:jP 8589934592 cv=some true) (hc:pU cv) (hB:zP ph b0 b1 b2 b3 w sp g0 g1 g2 m0 m1 m2 m3 m4 m5 m6 m7 m8 am=true) {W H:Nat} {P:List Int} (hf:dK W H P=true) (hsp:sp.all (gX W H)=true) {rows:Int} (hr:1≤rows) (kk):∀(d k aA:Nat),k+d=H→d<aA →
  zA 8589934592 ph b0 b1 b2 b3 w sp g0 g1 g2 m0 m1 m2 m3 m4 m5 m6 m7 m8 cv am W H P rows kk aA ((SM ph b0 b1 b2 b3 w sp g0 g1 g2 m0 m1 m2 m3 m4 m5 m6 m7 m8 cv am W H P).take (k*W),(k:Int))=kk ((SM ph b0 b1 b2 b3 w sp g0 g1 g2 m0 m1 m2 m3 m4 m5 m6 m7 m8 cv am W H P).take (H*W),(H:Int)):=by
 have hp:=KK ph b0 b1 b2 b3 w sp g0 g1 g2 m0 m1 m2 m3 m4 m5 m6 m7 m8 am hB;obtain ⟨w',h',ew,eh,w1,w2,w3,w4,gK,hm,hall⟩:=EF hf;obtain rfl:w'=W:=oQ
 obtain rfl:h'=H:=oQ
 have hl7:(SM ph b0 b1 b2 b3 w sp g0 g1 g2 m0 m1 m2 m3 m4 m5 m6 m7 m8 cv am w' h' P).length=w'*h':=E4 _ _ _;intro d
 induction d using Nat.strongRecOn with
 | ind d ih=>
  intro k aA hk hfu;obtain ⟨aA,rfl⟩:=kF aA oQ;unfold zA
  by_cases hd:d=0
  ·obtain rfl:k=h':=oQ
   rw [nL]
  obtain ⟨s,hs,hs1,hs2⟩:∃s:Nat,min rows ((h':Int)-k)=s∧1≤s∧s≤d:=⟨(min rows ((h':Int)-k)).toNat,by omega,by omega,by omega⟩
  have e1:aC.wrap ((k:Int)+min rows (aC.wrap ((h':Int)-k)))=((k+s:Nat):Int):=by
   rw [cM (x:=(h':Int)-k) oQ,hs,cM oQ];omega
  have e2:max (aC.wrap ((k:Int)-4)) 0=((k-4:Nat):Int):=by rw [cM oQ];omega
  have e3:min (aC.wrap (((k+s:Nat):Int)+4)) (h':Int)=((min (k+s+4) h':Nat):Int):=by rw [cM oQ];omega
  generalize he:min (k+s+4) h'=e at e3
  have he1:e≤h':=oQ
  have he2:k-4<e:=oQ
  have e4:aC.wrap (((k-4:Nat):Int)*(w':Int))=(((k-4)*w':Nat):Int):=by
   have:(k-4)*w'≤64*64:=tM oQ w2;rw [←vA,cM oQ]
  have e5:aC.wrap ((e:Int)*(w':Int))=((e*w':Nat):Int):=by
   have:e*w'≤64*64:=tM oQ w2;rw [←vA,cM oQ]
  have e6:aC.wrap ((e:Int)-((k-4:Nat):Int))=((e-(k-4):Nat):Int):=by rw [cM oQ];omega
  have q1:(k-4)*w'≤e*w':=Nat.mul_le_mul_right _ oQ;have q2:e*w'≤w'*h':=by rw [oA w'];exact Nat.mul_le_mul_right _ he1
  have hk':OP sp w' ((e-(k-4):Nat):Int) ((k-4:Nat):Int) (h':Int) (k:Int) ((k+s:Nat):Int):=⟨by omega,by omega,by omega,by omega,by omega,by omega,hsp⟩
  have hfr:=aB0 hf gK he2 he1
  have aPj:aHc ph b0 b1 b2 b3 w sp g0 g1 g2 m0 m1 m2 m3 m4 m5 m6 m7 m8 am true w' ((e-(k-4):Nat):Int) ((P.take (e*w')).drop ((k-4)*w')) ((k-4:Nat):Int) (h':Int) (k:Int) ((k+s:Nat):Int)=0:=by
   unfold aHc;rw [hB,hfr,aF hk'];rfl
  have hV:=aEE ph b0 b1 b2 b3 w sp g0 g1 g2 m0 m1 m2 m3 m4 m5 m6 m7 m8 cv am hp (G:=h') (A:=P) (t:=k-4) (a:=k) (b:=k+s) (KN (W:=w') (H:=h') (a:=k-4) (b:=e) gK he1 |>.trans (oA _ _)) gK hk' (fun lo hi=>aBZ lo hi gK he1);have hpart:=aHd ph b0 b1 b2 b3 w sp g0 g1 g2 m0 m1 m2 m3 m4 m5 m6 m7 m8 cv am hb hc aPj;rw [hV] at hpart;rw [p8,e1,aD,e2,aD,e3,aD,e4,e5,EE oQ,aD,fM,fM,e6,hpart,aD,cF rQ]
  dsimp only
  have l1:((SM ph b0 b1 b2 b3 w sp g0 g1 g2 m0 m1 m2 m3 m4 m5 m6 m7 m8 cv am w' h' P).take (k*w')).length≤w'*h':=by rw [yQ,hl7];exact Nat.min_le_right _ _
  have l2:(((SM ph b0 b1 b2 b3 w sp g0 g1 g2 m0 m1 m2 m3 m4 m5 m6 m7 m8 cv am w' h' P).take ((k+s)*w')).drop (k*w')).length≤w'*h':=by rw [List.length_drop,yQ,hl7];omega
  rw [iQ oQ,aD,aEA _ oQ];exact ih (d-s) oQ (k+s) aA oQ oQ
theorem aB2 {f:Bool} (hb:jP 8589934592 cv=some f) (hc:f=true↔pU cv) (W H:Int) (P:List Int) (hl:P.length≤9223372036854775807) (rows:Int):Co 8589934592 ph b0 b1 b2 b3 w sp g0 g1 g2 m0 m1 m2 m3 m4 m5 m6 m7 m8 cv am W H P rows=some (if OO ph b0 b1 b2 b3 w sp g0 g1 g2 m0 m1 m2 m3 m4 m5 m6 m7 m8 am f W H P=0 then (if rows<1 then (0,0,[],3) else (W,H,SM ph b0 b1 b2 b3 w sp g0 g1 g2 m0 m1 m2 m3 m4 m5 m6 m7 m8 cv am W.toNat H.toNat P,0)) else (0,0,[],OO ph b0 b1 b2 b3 w sp g0 g1 g2 m0 m1 m2 m3 m4 m5 m6 m7 m8 am f W H P)):=by
 unfold Co;rw [Nk ph b0 b1 b2 b3 w sp g0 g1 g2 m0 m1 m2 m3 m4 m5 m6 m7 m8 cv am hb hc,aD]
 by_cases he:OO ph b0 b1 b2 b3 w sp g0 g1 g2 m0 m1 m2 m3 m4 m5 m6 m7 m8 am f W H P=0
 ·obtain ⟨hB,rfl,hf,hsp⟩:=T8 ph b0 b1 b2 b3 w sp g0 g1 g2 m0 m1 m2 m3 m4 m5 m6 m7 m8 am he;have hp:=KK ph b0 b1 b2 b3 w sp g0 g1 g2 m0 m1 m2 m3 m4 m5 m6 m7 m8 am hB;obtain ⟨w',h',rfl,rfl,w1,w2,w3,w4,gK,hm,hall⟩:=EF hf
  have hrep:∃r,iL 8589934592 w' h' P sp=some r∧r.2.2.2=0:=by
   have:=hp.ON;unfold iL;rw [aE oQ,hf,aE sQ,aE oQ,hsp,aE sQ];exact ⟨_,rfl,rfl⟩
  obtain ⟨r,hr,hr'⟩:=hrep;rw [aF he,hB,aE sQ,aE sQ,cF rQ,hr,aD,hr',cF rQ]
  by_cases h1:rows<1
  ·rw [cT (dT h1),aF h1]
  rw [cF (dF h1),aE h1,fM,fM];have:=aB1 ph b0 b1 b2 b3 w sp g0 g1 g2 m0 m1 m2 m3 m4 m5 m6 m7 m8 cv am hb (hc.1 rfl) hB hf hsp (rows:=rows) oQ (fun x:List Px×Int=>some ((w':Int),(h':Int),x.1,(0:Int))) h' 0 8589934592 oQ oQ;rw [Nat.zero_mul,List.take_zero] at this;refine Eq.trans this ?_
  dsimp only
  rw [List.take_of_length_le];rw [aG0 ph b0 b1 b2 b3 w sp g0 g1 g2 m0 m1 m2 m3 m4 m5 m6 m7 m8 cv am,oA];exact pK _
 ·rw [aE he];unfold OO at he ⊢;cases hB:zP ph b0 b1 b2 b3 w sp g0 g1 g2 m0 m1 m2 m3 m4 m5 m6 m7 m8 am
  ·rfl
  rw [hB] at he;simp only [Bool.true_eq_false,if_false] at he ⊢;cases f
  ·rfl
  have hn:=(KK ph b0 b1 b2 b3 w sp g0 g1 g2 m0 m1 m2 m3 m4 m5 m6 m7 m8 am hB).ON;simp only [Bool.true_eq_false,if_false] at he ⊢;unfold iL;rw [cF rQ,aE oQ];cases hf:dK W H P
  ·rfl
  rw [hf] at he;simp only [Bool.true_eq_false,if_false] at he ⊢;rw [aE oQ];cases hs:sp.all (gX W H)
  ·rfl
  ·rw [hs] at he;simp at he
end
theorem aMB (N:Nat) (P:List bU) (kk:Int→Option Bool) (hP:P.length≤4096):∀(d k aA:Nat),k+d=P.length→d<aA→kV N P kk aA (k:Int)=if (P.drop k).all sW then kk P.length else some false:=by
 intro d
 induction d with
 | zero=>
  intro k aA hk hf;obtain ⟨aA,rfl⟩:=kF aA oQ;have hk':k=P.length:=oQ
  subst hk';unfold kV;rw [nL]
  simp
 | succ d ih=>
  intro k aA hk hf;obtain ⟨aA,rfl⟩:=kF aA oQ;have hlt:k<P.length:=oQ
  obtain ⟨⟨x,y,z⟩,hx⟩:∃p,P[k]? = some p:=⟨P[k],f9 hlt⟩
  unfold kV;rw [p8,dC,hx];simp only [aD,sU];rw [cM oQ]
  have hd:P.drop k=(x,y,z)::P.drop (k+1):=by
   rw [zC hlt]
   congr 1
   exact (List.getElem?_eq_some_iff.1 hx).2
  rw [hd,tK];have hih:=ih (k+1) aA oQ oQ
  by_cases h1:0≤x∧x≤65535
  ·rw [cF (by simp [h1])]
   by_cases h2:0≤y∧y≤65535
   ·rw [cF (by simp [h2])]
    by_cases h3:0≤z∧z≤65535
    ·rw [cF (by simp [h3])];have:sW (x,y,z)=true:=by simp only [sW,decide_eq_true_eq];omega
     rw [this,tF,←hih]
     rfl
    ·rw [cT (by simp only [Bool.not_eq_true',decide_eq_false_iff_not];exact h3)];have:sW (x,y,z)=false:=by simp only [sW,decide_eq_false_iff_not];omega
     simp [this]
   ·rw [cT (by simp only [Bool.not_eq_true',decide_eq_false_iff_not];exact h2)];have:sW (x,y,z)=false:=by simp only [sW,decide_eq_false_iff_not];omega
    simp [this]
  ·rw [cT (by simp only [Bool.not_eq_true',decide_eq_false_iff_not];exact h1)];have:sW (x,y,z)=false:=by simp only [sW,decide_eq_false_iff_not];omega
   simp [this]
theorem Ro (N:Nat) (W H:Int) (P:List bU) (hN:5000≤N):pH N W H P=some (p7 W H P):=by
 unfold pH;simp only [aD,sU];have no:¬oN W H P.length→p7 W H P=false:=fun h=>by simp [p7,h]
 by_cases h1:1≤W∧W≤64
 ·rw [cF (by simp [h1])]
  by_cases h2:1≤H∧H≤64
  ·rw [cF (by simp [h2])];have hb:=OG (W:=W) (H:=H) oQ;rw [cM oQ]
   by_cases h5:(P.length:Int)=W*H
   ·rw [cF (by simp [h5])];have hs:oN W H P.length:=⟨by omega,by omega,by omega,by omega,h5⟩
    refine (aMB N P _ oQ P.length 0 N oQ oQ).trans ?_;simp only [p7,hs,decide_true,tF,List.drop_zero]
    cases P.all sW <;> rfl
   ·rw [cT (by simp [h5]),no (fun h=>h5 h.2.2.2.2)]
  ·rw [cT (by simp only [Bool.not_eq_true',decide_eq_false_iff_not];exact h2),no (fun h=>by unfold oN at h;omega)]
 ·rw [cT (by simp only [Bool.not_eq_true',decide_eq_false_iff_not];exact h1),no (fun h=>by unfold oN at h;omega)]
def By (W H x y w h:Int):Prop:=1≤w∧w≤W∧1≤h∧h≤H∧0≤x∧x≤W-w∧0≤y∧y≤H-h
instance (W H x y w h:Int):Decidable (By W H x y w h):=by unfold By;infer_instance
def rowsOf (W:Int) (P:List bU) (x y w:Int):Nat→List bU
 | 0=>[]
 | k+1=>rowsOf W P x y w k++(P.take ((y+k)*W+x+w).toNat).drop ((y+k)*W+x).toNat
theorem Zm {W H:Int} {n:Nat} {x y w h:Int} (hs:oN W H n) (hr:By W H x y w h) (k:Nat) (hk:(k:Int)<h):0≤(y+k)*W∧(y+k)*W+x+w≤n∧(y+k)*W≤4096:=by
 obtain ⟨h1,h2,h3,h4,h5⟩:=hs;obtain ⟨r1,r2,r3,r4,r5,r6,r7,r8⟩:=hr;have a:0≤(y+k)*W:=Int.mul_nonneg oQ oQ;have b:(y+k+1)*W≤H*W:=Int.mul_le_mul_of_nonneg_right oQ oQ;rw [Int.add_mul,Int.one_mul,Int.mul_comm H W] at b;have:=OG ⟨h1,h2,h3,h4⟩
 omega
theorem MD {W H:Int} {P:List bU} {x y w h:Int} (hs:oN W H P.length) (hr:By W H x y w h):∀k:Nat,(k:Int)≤h→((rowsOf W P x y w k).length:Int)=k*w
 | 0,_=>by simp [rowsOf]
 | k+1,hk=>by
  have hb:=Zm hs hr k oQ;have ih:=MD hs hr k oQ;obtain ⟨r1,r2,r3,r4,r5,r6,r7,r8⟩:=hr;have e:((k+1:Nat):Int)*w=k*w+w:=by rw [Int.natCast_add,Int.add_mul];simp
  rw [rowsOf,kG,List.length_drop,yQ,e]
  omega
theorem T9 {W H:Int} {P:List bU} {x y w h:Int} (hs:oN W H P.length) (hr:By W H x y w h) (k:Nat) (hk:(k:Int)≤h):(rowsOf W P x y w k).length≤4096:=by
 have hl:=MD hs hr k hk;obtain ⟨h1,h2,h3,h4,h5⟩:=hs;obtain ⟨r1,r2,r3,r4,r5,r6,r7,r8⟩:=hr;have:=Int.mul_le_mul (show (k:Int)≤64 by omega) (show w≤64 by omega) oQ oQ
 omega
theorem aKR (N:Nat) {W H:Int} {P:List bU} {x y w h:Int} (kk:pN→Option yH) (hs:oN W H P.length) (hr:By W H x y w h) :
  ∀(d k aA:Nat),(k:Int)+d=h→d<aA→AB N W P x y w h kk aA (rowsOf W P x y w k,(k:Int))=kk (rowsOf W P x y w h.toNat,h):=by
 intro d
 induction d with
 | zero=>
  intro k aA hk hf;obtain ⟨aA,rfl⟩:=kF aA oQ;obtain rfl:h=(k:Int):=oQ
  unfold AB;rw [nL,fM]
 | succ d ih=>
  intro k aA hk hf;obtain ⟨aA,rfl⟩:=kF aA oQ;have hb:=Zm hs hr k oQ;have hl:=T9 hs hr k oQ;have hP:=An hs;have hr':=hr;have hs':=hs;obtain ⟨r1,r2,r3,r4,r5,r6,r7,r8⟩:=hr';obtain ⟨s1,s2,s3,s4,s5⟩:=hs';unfold AB;rw [p8,aD,cM (x:=y+k) oQ,cM (x:=(y+k)*W) oQ,cM (x:=(y+k)*W+x) oQ,cM (x:=(y+k)*W+x+w) oQ,EE oQ,aD];rw [iQ (by rw [List.length_drop,yQ];omega),aD,cM oQ];exact ih (k+1) aA oQ oQ
theorem aKS (N:Nat) (W H:Int) (P:List bU) (x y w h:Int) (hN:5000≤N) :
  C9 N W H P x y w h=some (if p7 W H P=false then (0,0,[],1) else if By W H x y w h then (w,h,rowsOf W P x y w h.toNat,0) else (0,0,[],3)):=by
 unfold C9;obtain ⟨a,b,l,ht⟩:=AC N W H P hN;rw [ht,aD];cases hp:p7 W H P
 ·rfl
 have hs:=mZ hp;have hs':=hs;obtain ⟨s1,s2,s3,s4,s5⟩:=hs';rw [cF sQ,aE sQ]
 by_cases hr:By W H x y w h
 ·have hr':=hr;obtain ⟨r1,r2,r3,r4,r5,r6,r7,r8⟩:=hr';rw [aF hr,cM oQ,cM oQ,nL,nL,nL,nL,nL,nL,nL,nL];exact aKR N _ hs hr h.toNat 0 N oQ oQ
 ·rw [aE hr];unfold By at hr
  by_cases c1:w<1
  ·rw [cT (dT c1)]
  rw [cF (dF c1)]
  by_cases c2:h<1
  ·rw [cT (dT c2)]
  rw [cF (dF c2)]
  by_cases c3:W<w
  ·rw [cT (dT c3)]
  rw [cF (dF c3)]
  by_cases c4:H<h
  ·rw [cT (dT c4)]
  rw [cF (dF c4)]
  by_cases c5:x<0
  ·rw [cT (dT c5)]
  rw [cF (dF c5)]
  by_cases c6:y<0
  ·rw [cT (dT c6)]
  rw [cF (dF c6),cM oQ,cM oQ]
  by_cases c7:W-w<x
  ·rw [cT (dT c7)]
  rw [cF (dF c7),p8]
theorem aEF (N:Nat) {W H:Int} {P:List bU} {x y w h:Int} (kk:pN→Option nJ) (hs:oN W H P.length) (hr:By W H x y w h) :
  ∀(d k aA:Nat),(k:Int)+d=h→d<aA→oZ N W P x y w h kk aA (rowsOf W P x y w k,y+(k:Int))=kk (rowsOf W P x y w h.toNat,y+h):=by
 intro d
 induction d with
 | zero=>
  intro k aA hk hf;obtain ⟨aA,rfl⟩:=kF aA oQ;obtain ⟨r1,r2,r3,r4,r5,r6,r7,r8⟩:=hr;obtain ⟨s1,s2,s3,s4,s5⟩:=hs;obtain rfl:h=(k:Int):=oQ
  unfold oZ;rw [cM oQ,nL,fM]
 | succ d ih=>
  intro k aA hk hf;obtain ⟨aA,rfl⟩:=kF aA oQ;have hb:=Zm hs hr k oQ;have hl:=T9 hs hr k oQ;have hP:=An hs;have hr':=hr;have hs':=hs;obtain ⟨r1,r2,r3,r4,r5,r6,r7,r8⟩:=hr';obtain ⟨s1,s2,s3,s4,s5⟩:=hs';unfold oZ;rw [cM (x:=y+h) oQ,p8,cM (x:=(y+k)*W) oQ,cM (x:=(y+k)*W+x) oQ,cM (x:=(y+k)*W+x+w) oQ,EE oQ,aD];rw [iQ (by rw [List.length_drop,yQ];omega),aD,cM oQ,aD];have:=ih (k+1) aA oQ oQ;rw [show y+((k+1:Nat):Int)=y+k+1 by omega] at this;exact this
theorem aEG (N:Nat) (W H:Int) (P:List bU) (x y w h:Int) (hN:5000≤N) (hp:p7 W H P=true) (hr:By W H x y w h):sB N W H P x y w h=some (w,h,rowsOf W P x y w h.toNat):=by
 have hs:=mZ hp;have hs':=hs;obtain ⟨s1,s2,s3,s4,s5⟩:=hs';have hr':=hr;obtain ⟨r1,r2,r3,r4,r5,r6,r7,r8⟩:=hr';unfold sB;have:=aEF N (fun (nD,y4)=>some (w,h,nD)) hs hr h.toNat 0 N oQ oQ;simp only [Int.natCast_zero,Int.add_zero,rowsOf] at this;exact this
theorem WT (N:Nat) (W H:Int) (P:List bU) (x y w h:Int) (hN:5000≤N) (hw:-9223372036854775808≤w∧w≤9223372036854775807) (hh:-9223372036854775808≤h∧h≤9223372036854775807) :
  oY N W H P x y w h=some (if p7 W H P=false then 1 else if By W H x y w h then 0 else 3):=by
 unfold oY;rw [Ro N W H P hN,aD];simp only [sU,aD];cases hp:p7 W H P
 ·rfl
 obtain ⟨s1,s2,s3,s4,s5⟩:=mZ hp;rw [cF sQ,aE sQ]
 by_cases hr:By W H x y w h
 ·have hr':=hr;obtain ⟨r1,r2,r3,r4,r5,r6,r7,r8⟩:=hr';rw [aF hr,cM oQ,cM oQ,cF uW,cF uW,cF uW,cF uW]
 ·rw [aE hr];unfold By at hr
  by_cases c1:1≤w∧w≤W
  ·rw [cF (by simp [c1])]
   by_cases c2:1≤h∧h≤H
   ·rw [cF (by simp [c2]),cM oQ,cM oQ]
    by_cases c3:0≤x∧x≤W-w
    ·rw [cF (by simp [c3]),cT uW]
    ·rw [cT (by simp only [Bool.not_eq_true',decide_eq_false_iff_not];exact c3)]
   ·rw [cT (by simp only [Bool.not_eq_true',decide_eq_false_iff_not];exact c2)]
  ·rw [cT (by simp only [Bool.not_eq_true',decide_eq_false_iff_not];exact c1)]
section
variable (N:Nat) (W H:Nat) (P:List Px) (hs:oN W H P.length)
include hs
theorem Zn (kk:List Px×Int→Option (Int×Int×List Px)):∀(d k aA:Nat),k+d=W*H→d<aA →
  sK N W H P kk aA (Mz P (fun i=>i%W*H+i/W) (W*H) k,(k:Int))=kk (Mz P (fun i=>i%W*H+i/W) (W*H) (W*H),((W*H:Nat):Int)):=by
 obtain ⟨h1,h2,h3,h4,h5,h6⟩:=uR W H P hs;intro d
 induction d with
 | zero=>
  intro k aA hk hf;obtain ⟨aA,rfl⟩:=kF aA oQ;obtain rfl:k=W*H:=oQ
  unfold sK;rw [nL]
 | succ d ih=>
  intro k aA hk hf;obtain ⟨aA,rfl⟩:=kF aA oQ;have hk':k<W*H:=oQ
  obtain ⟨e1,e2⟩:=tdm k (show 0<W by omega);obtain ⟨l1,l2,_⟩:=kA hk';obtain ⟨rr,hrr⟩:∃rr,k%W=rr:=⟨_,rfl⟩
  obtain ⟨qq,hqq⟩:∃qq,k/W=qq:=⟨_,rfl⟩
  rw [hrr] at e1 l1;rw [hqq] at e2 l2;have hp:=mL l2 l1;rw [oA H W] at hp;have hpx:P[k]? = some (P.getD k FG):=by rw [qG,f9 oQ];rfl
  have c1:((rr:Nat):Int)*(H:Int)=((rr*H:Nat):Int):=by rw [vA]
  have gK:=GZ P (fun i=>i%W*H+i/W) (W*H) k;unfold sK;rw [p8,dC,hpx,aD,AJ oQ,aD,aD,e1,e2,c1];rw [cM (x:=((rr*H:Nat):Int)) oQ,cM (x:=((qq:Nat):Int)) oQ,cM (x:=((rr*H:Nat):Int)+((qq:Nat):Int)) oQ];rw [show ((rr*H:Nat):Int)+((qq:Nat):Int)=((rr*H+qq:Nat):Int) by omega];rw [dC,f9 (by rw [gK];exact hp),aD,DK oQ,aD,cM oQ,fM];subst hrr hqq;exact ih (k+1) aA oQ oQ
theorem Zo (hN:5000≤N):wD N W H P=some ((H:Int),(W:Int),Id H W fun x y=>GY P W y x):=by
 obtain ⟨h1,h2,h3,h4,h5,h6⟩:=uR W H P hs;unfold wD;rw [aD,mk_eq oQ,aD,h5,fM];refine (Zn N W H P hs _ (W*H) 0 N oQ oQ).trans ?_;rw [Lz (W':=H) (H':=W) (g:=fun x y=>x*W+y) (oA W H)]
 ·rfl
 ·intro i hi;obtain ⟨l1,l2,_⟩:=kA hi;have:=mL l2 l1
  rwa [oA H W] at this
 ·intro x y hx hy;obtain ⟨a,b⟩:=dm x hy;exact ⟨mL hy hx,by rw [a,b]⟩
 ·intro i j hi hj hij;obtain ⟨l1,l2,_⟩:=kA hi;obtain ⟨m1,m2,_⟩:=kA hj;obtain ⟨a,b⟩:=dm (i%W) l2;obtain ⟨c,d⟩:=dm (j%W) m2;rw [hij] at a b;rw [←Nat.div_add_mod' i W,←Nat.div_add_mod' j W,←a,←b,c,d]
theorem aB3 (kk:List Px×Int→Option (Int×Int×List Px)):∀(d k aA:Nat),k+d=W*H→d<aA →
  iD N W P W H P kk aA (Mz P (fun i=>i/W*W+(W-1-i%W)) (W*H) k,(k:Int))=kk (Mz P (fun i=>i/W*W+(W-1-i%W)) (W*H) (W*H),((W*H:Nat):Int)):=by
 obtain ⟨h1,h2,h3,h4,h5,h6⟩:=uR W H P hs;intro d
 induction d with
 | zero=>
  intro k aA hk hf;obtain ⟨aA,rfl⟩:=kF aA oQ;obtain rfl:k=W*H:=oQ
  unfold iD;rw [nL]
 | succ d ih=>
  intro k aA hk hf;obtain ⟨aA,rfl⟩:=kF aA oQ;have hk':k<W*H:=oQ
  obtain ⟨e1,e2⟩:=tdm k (show 0<W by omega);obtain ⟨l1,l2,_⟩:=kA hk';obtain ⟨rr,hrr⟩:∃rr,k%W=rr:=⟨_,rfl⟩
  obtain ⟨qq,hqq⟩:∃qq,k/W=qq:=⟨_,rfl⟩
  rw [hrr] at e1 l1;rw [hqq] at e2 l2;have hp:=mL (show W-1-rr<W by omega) l2;have hpx:P[k]? = some (P.getD k FG):=by rw [qG,f9 oQ];rfl
  have c1:((qq:Nat):Int)*(W:Int)=((qq*W:Nat):Int):=by rw [vA]
  have gK:=GZ P (fun i=>i/W*W+(W-1-i%W)) (W*H) k;unfold iD E0;rw [p8,dC,hpx,aD,AJ oQ,aD,aD,e1,e2,cM (x:=((qq:Nat):Int)) oQ,c1];rw [cM (x:=((qq*W:Nat):Int)) oQ,cM (x:=((qq*W:Nat):Int)+W) oQ,cM (x:=((qq*W:Nat):Int)+W-1) oQ,cM (x:=((qq*W:Nat):Int)+W-1-((rr:Nat):Int)) oQ,aD];rw [show ((qq*W:Nat):Int)+W-1-((rr:Nat):Int)=((qq*W+(W-1-rr):Nat):Int) by omega];rw [dC,f9 (by rw [gK];exact hp),aD,DK oQ,aD,cM oQ,fM];subst hrr hqq;exact ih (k+1) aA oQ oQ
theorem aB4 (hN:5000≤N):iA N W H P W H P=some ((W:Int),(H:Int),Id W H fun x y=>GY P W (W-1-x) y):=by
 obtain ⟨h1,h2,h3,h4,h5,h6⟩:=uR W H P hs;unfold iA;rw [aD,mk_eq oQ,aD,h5,fM];refine (aB3 N W H P hs _ (W*H) 0 N oQ oQ).trans ?_;rw [Lz (W':=W) (H':=H) (g:=fun x y=>y*W+(W-1-x)) rfl]
 ·rfl
 ·intro i hi;obtain ⟨l1,l2,_⟩:=kA hi;exact mL (Nat.lt_of_le_of_lt (Nat.sub_le _ _) oQ) l2
 ·intro x y hx hy;obtain ⟨a,b⟩:=dm y (show W-1-x<W by omega);exact ⟨mL oQ hy,by rw [a,b];omega⟩
 ·intro i j hi hj hij;obtain ⟨l1,l2,_⟩:=kA hi;obtain ⟨m1,m2,_⟩:=kA hj;obtain ⟨a,b⟩:=dm (i/W) (show W-1-i%W<W by omega);obtain ⟨c,d⟩:=dm (j/W) (show W-1-j%W<W by omega);rw [hij] at a b;have e1:i/W=j/W:=b.symm.trans d;have e2:i%W=j%W:=aAx l1 m1 (a.symm.trans c);rw [←Nat.div_add_mod' i W,←Nat.div_add_mod' j W,e1,e2]
theorem aHe (kk:List Px×Int→Option (Int×Int×List Px)):∀(d k aA:Nat),k+d=W*H→d<aA →
  iE N W P W H P kk aA (Mz P (fun i=>(H-1-i/W)*W+i%W) (W*H) k,(k:Int))=kk (Mz P (fun i=>(H-1-i/W)*W+i%W) (W*H) (W*H),((W*H:Nat):Int)):=by
 obtain ⟨h1,h2,h3,h4,h5,h6⟩:=uR W H P hs;intro d
 induction d with
 | zero=>
  intro k aA hk hf;obtain ⟨aA,rfl⟩:=kF aA oQ;obtain rfl:k=W*H:=oQ
  unfold iE;rw [nL]
 | succ d ih=>
  intro k aA hk hf;obtain ⟨aA,rfl⟩:=kF aA oQ;have hk':k<W*H:=oQ
  obtain ⟨e1,e2⟩:=tdm k (show 0<W by omega);obtain ⟨l1,l2,_⟩:=kA hk';obtain ⟨rr,hrr⟩:∃rr,k%W=rr:=⟨_,rfl⟩
  obtain ⟨qq,hqq⟩:∃qq,k/W=qq:=⟨_,rfl⟩
  rw [hrr] at e1 l1;rw [hqq] at e2 l2;have hp:=mL l1 (show H-1-qq<H by omega);have hpx:P[k]? = some (P.getD k FG):=by rw [qG,f9 oQ];rfl
  have c0:(H:Int)-1-((qq:Nat):Int)=((H-1-qq:Nat):Int):=oQ
  have c1:((H-1-qq:Nat):Int)*(W:Int)=(((H-1-qq)*W:Nat):Int):=by rw [vA]
  have gK:=GZ P (fun i=>(H-1-i/W)*W+i%W) (W*H) k;unfold iE E1;rw [p8,dC,hpx,aD,AJ oQ,aD,aD,e1,e2,cM (x:=((qq:Nat):Int)) oQ,cM (x:=(H:Int)-1) oQ,c0,cM (x:=((H-1-qq:Nat):Int)) oQ,c1];rw [cM (x:=(((H-1-qq)*W:Nat):Int)) oQ,cM (x:=(((H-1-qq)*W:Nat):Int)+((rr:Nat):Int)) oQ,aD];rw [show (((H-1-qq)*W:Nat):Int)+((rr:Nat):Int)=(((H-1-qq)*W+rr:Nat):Int) by omega];rw [dC,f9 (by rw [gK];exact hp),aD,DK oQ,aD,cM oQ,fM];subst hrr hqq;exact ih (k+1) aA oQ oQ
theorem aHf (hN:5000≤N):eP N W H P W H P=some ((W:Int),(H:Int),Id W H fun x y=>GY P W x (H-1-y)):=by
 obtain ⟨h1,h2,h3,h4,h5,h6⟩:=uR W H P hs;unfold eP;rw [aD,mk_eq oQ,aD,h5,fM];refine (aHe N W H P hs _ (W*H) 0 N oQ oQ).trans ?_;rw [Lz (W':=W) (H':=H) (g:=fun x y=>(H-1-y)*W+x) rfl]
 ·rfl
 ·intro i hi;obtain ⟨l1,l2,_⟩:=kA hi;exact mL l1 (Nat.lt_of_le_of_lt (Nat.sub_le _ _) oQ)
 ·intro x y hx hy;obtain ⟨a,b⟩:=dm (H-1-y) hx;exact ⟨mL hx oQ,by rw [a,b,show H-1-(H-1-y)=y by omega]⟩
 ·intro i j hi hj hij;obtain ⟨l1,l2,_⟩:=kA hi;obtain ⟨m1,m2,_⟩:=kA hj;obtain ⟨a,b⟩:=dm (H-1-i/W) l1;obtain ⟨c,d⟩:=dm (H-1-j/W) m1;rw [hij] at a b;have e1:i/W=j/W:=aAx l2 m2 (b.symm.trans d);have e2:i%W=j%W:=a.symm.trans c;rw [←Nat.div_add_mod' i W,←Nat.div_add_mod' j W,e1,e2]
theorem aHg (kk:List Px×Int→Option (Int×Int×List Px)):∀(d k aA:Nat),k+d=W*H→d<aA →
  iF N W P W H P kk aA (Mz P (fun i=>i/W*W+i%W) (W*H) k,(k:Int))=kk (Mz P (fun i=>i/W*W+i%W) (W*H) (W*H),((W*H:Nat):Int)):=by
 obtain ⟨h1,h2,h3,h4,h5,h6⟩:=uR W H P hs;intro d
 induction d with
 | zero=>
  intro k aA hk hf;obtain ⟨aA,rfl⟩:=kF aA oQ;obtain rfl:k=W*H:=oQ
  unfold iF;rw [nL]
 | succ d ih=>
  intro k aA hk hf;obtain ⟨aA,rfl⟩:=kF aA oQ;have hk':k<W*H:=oQ
  obtain ⟨e1,e2⟩:=tdm k (show 0<W by omega);obtain ⟨l1,l2,_⟩:=kA hk';obtain ⟨rr,hrr⟩:∃rr,k%W=rr:=⟨_,rfl⟩
  obtain ⟨qq,hqq⟩:∃qq,k/W=qq:=⟨_,rfl⟩
  rw [hrr] at e1 l1;rw [hqq] at e2 l2;have hp:=mL l1 l2;have hpx:P[k]? = some (P.getD k FG):=by rw [qG,f9 oQ];rfl
  have c1:((qq:Nat):Int)*(W:Int)=((qq*W:Nat):Int):=by rw [vA]
  have gK:=GZ P (fun i=>i/W*W+i%W) (W*H) k;unfold iF E2;rw [p8,dC,hpx,aD,AJ oQ,aD,aD,e1,e2,cM (x:=((qq:Nat):Int)) oQ,c1];rw [cM (x:=((qq*W:Nat):Int)) oQ,cM (x:=((qq*W:Nat):Int)+((rr:Nat):Int)) oQ,aD];rw [show ((qq*W:Nat):Int)+((rr:Nat):Int)=((qq*W+rr:Nat):Int) by omega];rw [dC,f9 (by rw [gK];exact hp),aD,DK oQ,aD,cM oQ,fM];subst hrr hqq;exact ih (k+1) aA oQ oQ
theorem copy_eq (hN:5000≤N):cZ N W H P W H P=some ((W:Int),(H:Int),P):=by
 obtain ⟨h1,h2,h3,h4,h5,h6⟩:=uR W H P hs;unfold cZ;rw [aD,mk_eq oQ,aD,h5,fM];refine (aHg N W H P hs _ (W*H) 0 N oQ oQ).trans ?_;rw [Lz (W':=W) (H':=H) (g:=fun x y=>y*W+x) rfl]
 ·have:=WB h5;unfold GY at this;rw [this]
 ·intro i hi;obtain ⟨l1,l2,_⟩:=kA hi;exact mL l1 l2
 ·intro x y hx hy;obtain ⟨a,b⟩:=dm y hx;exact ⟨mL hx hy,by rw [a,b]⟩
 ·intro i j hi hj hij;simp only [Nat.div_add_mod'] at hij;exact hij
end
section
variable (N:Nat) {W H:Nat} (f:Nat→Nat→Px) (h:1≤W∧W≤64∧1≤H∧H≤64) (hN:5000≤N)
include h hN
theorem Zp:wD N W H (Id W H f)=some ((H:Int),(W:Int),Id H W fun x y=>f y x):=by
 rw [Zo N W H _ (KG h f) hN];refine bZ (fun l=>some ((H:Int),(W:Int),l)) (Qb fun x y hx hy=>?_);exact Q6 f hy hx
theorem Ua:iA N W H (Id W H f) W H (Id W H f)=some ((W:Int),(H:Int),Id W H fun x y=>f (W-1-x) y):=by
 rw [aB4 N W H _ (KG h f) hN];refine bZ (fun l=>some ((W:Int),(H:Int),l)) (Qb fun x y hx hy=>?_);exact Q6 f oQ hy
theorem aAO:eP N W H (Id W H f) W H (Id W H f)=some ((W:Int),(H:Int),Id W H fun x y=>f x (H-1-y)):=by
 rw [aHf N W H _ (KG h f) hN];refine bZ (fun l=>some ((W:Int),(H:Int),l)) (Qb fun x y hx hy=>?_);exact Q6 f hx oQ
theorem aAP:cZ N W H (Id W H f) W H (Id W H f)=some ((W:Int),(H:Int),Id W H f):=copy_eq N W H _ (KG h f) hN
end
def aEH (sw m fl:Bool) (N:Nat) (W H:Int) (P:List Px):Option (Int×Int×List Px×Int):=
 dH (cond sw (wD N W H P) (some (W,H,P))) fun r4=>
 dH (cond m (iA N r4.1 r4.2.1 r4.2.2 r4.1 r4.2.1 r4.2.2) (some r4)) fun r5=>
 dH (cond fl (eP N r5.1 r5.2.1 r5.2.2 r5.1 r5.2.1 r5.2.2) (some r5)) fun r6=>
 dH (cZ N r6.1 r6.2.1 r6.2.2 r6.1 r6.2.1 r6.2.2) fun r7=>some (r7.1,r7.2.1,r7.2.2,0)
def B3 (o:Int):Bool:=decide (5≤o)
def miO (o:Int):Bool:=decide (o=2∨o=3∨o=6∨o=7)
def flO (o:Int):Bool:=decide (o=3∨o=4∨o=7∨o=8)
theorem ways {o:Int} (h:1≤o∧o≤8):o=1∨o=2∨o=3∨o=4∨o=5∨o=6∨o=7∨o=8:=oQ
theorem aAQ (N:Nat) (W H:Int) (P:List Px) (o:Int) (h:1≤o∧o≤8):pD N W H P o=dH (qT N W H P 0) fun r2=>cond (!decide (r2.2.2.2=0)) (some (0,0,[],r2.2.2.2)) (aEH (B3 o) (miO o) (flO o) N W H P):=by
 rcases ways h with rfl|rfl|rfl|rfl|rfl|rfl|rfl|rfl <;> rfl
def tPx (sw m fl:Bool) (W H:Nat) (P:List Px) (x y:Nat):Px:=
 let W':=cond sw H W
 let H':=cond sw W H
 let x':=cond m (W'-1-x) x
 let y':=cond fl (H'-1-y) y
 cond sw (GY P W y' x') (GY P W x' y')
theorem WU (sw m fl:Bool) (N W H:Nat) (P:List Px) (hs:oN W H P.length) (hN:5000≤N):aEH sw m fl N W H P=some (((cond sw H W:Nat):Int),((cond sw W H:Nat):Int),Id (cond sw H W) (cond sw W H) (tPx sw m fl W H P),0):=by
 obtain ⟨h1,h2,h3,h4,h5,h6⟩:=uR W H P hs;have hP:=WB h5;have hw:1≤W∧W≤64∧1≤H∧H≤64:=oQ
 have hw':1≤H∧H≤64∧1≤W∧W≤64:=oQ
 unfold aEH
 conv=>lhs;rw [←hP]
 cases sw <;> cases m <;> cases fl <;>
  simp only [cond_true,cond_false,aD,Zp N _ hw hN,Ua N _ hw hN,Ua N _ hw' hN,aAO N _ hw hN,aAO N _ hw' hN,aAP N _ hw hN,aAP N _ hw' hN] <;> rfl
def uO (o:Int):Bool:=decide (o=2∨o=3∨o=7∨o=8)
def vO (o:Int):Bool:=decide (o=3∨o=4∨o=6∨o=7)
def rPx (o:Int) (W H:Nat) (P:List Px) (x y:Nat):Px:=
 let u:=cond (B3 o) y x
 let v:=cond (B3 o) x y
 GY P W (cond (uO o) (W-1-u) u) (cond (vO o) (H-1-v) v)
theorem aKT (o:Int) (h:1≤o∧o≤8) (W H:Nat) (P:List Px) (x y:Nat):rPx o W H P x y=tPx (B3 o) (miO o) (flO o) W H P x y:=by
 rcases ways h with rfl|rfl|rfl|rfl|rfl|rfl|rfl|rfl <;> rfl
theorem aMC (N:Nat) (o:Int) (kk):t8 N o kk=kk (uO o):=by
 unfold t8 uO
 by_cases h1:o=2
 ·rw [cT (dT h1),dT oQ]
 rw [cF (dF h1)]
 by_cases h2:o=3
 ·rw [cT (dT h2),dT oQ]
 rw [cF (dF h2)]
 by_cases h3:o=7
 ·rw [cT (dT h3),dT oQ]
 rw [cF (dF h3)]
 by_cases h4:o=8
 ·rw [dT h4,dT oQ]
 rw [dF h4,dF oQ]
theorem aMD (N:Nat) (o:Int) (kk):t6 N o kk=kk (vO o):=by
 unfold t6 vO
 by_cases h1:o=3
 ·rw [cT (dT h1),dT oQ]
 rw [cF (dF h1)]
 by_cases h2:o=4
 ·rw [cT (dT h2),dT oQ]
 rw [cF (dF h2)]
 by_cases h3:o=6
 ·rw [cT (dT h3),dT oQ]
 rw [cF (dF h3)]
 by_cases h4:o=7
 ·rw [dT h4,dT oQ]
 rw [dF h4,dF oQ]
theorem aME (N:Nat) (o i j:Int) (kk):t9 N o i j kk=kk (cond (B3 o) i j,cond (B3 o) j i):=by
 unfold t9 B3
 cases decide (5≤o) <;> rfl
theorem aMF (N W u:Nat) (b:Bool) (kk) (hW:W≤64) (hu:u<W):t7 N W u b kk=kk ((cond b (W-1-u) u:Nat):Int):=by
 unfold t7;cases b
 ·rfl
 ·rw [cond_true,cond_true,aD,cM (x:=(W:Int)-1) oQ,cM oQ,show (W:Int)-1-u=((W-1-u:Nat):Int) by omega]
theorem aMG (N W u:Nat) (b:Bool) (kk) (hW:W≤64) (hu:u<W):tZ N W u b kk=kk ((cond b (W-1-u) u:Nat):Int):=by
 unfold tZ;cases b
 ·rfl
 ·rw [cond_true,cond_true,aD,cM (x:=(W:Int)-1) oQ,cM oQ,show (W:Int)-1-u=((W-1-u:Nat):Int) by omega]
section
variable (N:Nat) (W H:Nat) (P:List Px) (hs:oN W H P.length) (o:Int)
include hs
theorem aB5 (kk) (y:Nat) (hy:y<cond (B3 o) W H):∀(d x aA:Nat),x+d=cond (B3 o) H W→d<aA →
  nZ N W H P o ((cond (B3 o) H W:Nat):Int) y kk aA (pre (cond (B3 o) H W) (rPx o W H P) (y*(cond (B3 o) H W)+x),(x:Int))=kk (pre (cond (B3 o) H W) (rPx o W H P) ((y+1)*(cond (B3 o) H W)+0),((cond (B3 o) H W:Nat):Int)):=by
 obtain ⟨h1,h2,h3,h4,h5,h6⟩:=uR W H P hs;intro d
 induction d with
 | zero=>
  intro x aA hk hf;obtain ⟨aA,rfl⟩:=kF aA oQ;obtain rfl:x=cond (B3 o) H W:=oQ
  unfold nZ;rw [nL,LA]
 | succ d ih=>
  intro x aA hk hf;obtain ⟨aA,rfl⟩:=kF aA oQ;have hx:x<cond (B3 o) H W:=oQ
  have hu:cond (B3 o) y x<W:=by revert hx hy;cases B3 o <;> simp <;> omega
  have hv:cond (B3 o) x y<H:=by revert hx hy;cases B3 o <;> simp <;> omega
  have cu:(cond (B3 o) (y:Int) (x:Int))=((cond (B3 o) y x:Nat):Int):=by cases B3 o <;> rfl
  have cv:(cond (B3 o) (x:Int) (y:Int))=((cond (B3 o) x y:Nat):Int):=by cases B3 o <;> rfl
  have hWH:cond (B3 o) H W≤64∧y<64:=by revert hy;cases B3 o <;> simp <;> omega
  have hmul:(y+1)*cond (B3 o) H W≤4096:=by
   have:=tM (show y+1≤64 by omega) hWH.1
   omega
  rw [Nat.add_mul,Nat.one_mul] at hmul;unfold nZ;rw [p8,aME];simp only [cu,cv,aMC,aMD,aMF N W _ _ _ (show W≤64 by omega) hu,aMG N H _ _ _ (show H≤64 by omega) hv];obtain ⟨u',hu'⟩:∃u',cond (uO o) (W-1-cond (B3 o) y x) (cond (B3 o) y x)=u':=⟨_,rfl⟩
  obtain ⟨v',hv'⟩:∃v',cond (vO o) (H-1-cond (B3 o) x y) (cond (B3 o) x y)=v':=⟨_,rfl⟩
  have lu:u'<W:=by subst hu';cases uO o <;> simp <;> omega
  have lv:v'<H:=by subst hv';cases vO o <;> simp <;> omega
  have hpl:=mL lu lv;have hr:rPx o W H P x y=P.getD (v'*W+u') FG:=by subst hu' hv';rfl
  rw [hu',hv',cM (x:=(v':Int)*W) (by rw [←vA];omega),←vA,←Int.natCast_add,cM oQ,dC,f9 oQ,aD];have he:P[v'*W+u']'oQ=rPx o W H P x y:=by rw [hr,qG,f9 oQ];rfl
  rw [he,iQ (by rw [Jf];simp;omega),aD,aD,cM oQ,←Ix (rPx o W H P) y hx];exact ih (x+1) aA oQ oQ
theorem aB6 (kk) (hN:5000≤N):∀(d y aA:Nat),y+d=cond (B3 o) W H→d<aA →
  lP N W H P o ((cond (B3 o) H W:Nat):Int) ((cond (B3 o) W H:Nat):Int) kk aA (pre (cond (B3 o) H W) (rPx o W H P) (y*(cond (B3 o) H W)+0),(y:Int))=kk (pre (cond (B3 o) H W) (rPx o W H P) ((cond (B3 o) W H)*(cond (B3 o) H W)+0),((cond (B3 o) W H:Nat):Int)):=by
 obtain ⟨h1,h2,h3,h4,h5,h6⟩:=uR W H P hs
 have b1:cond (B3 o) H W≤64:=by cases B3 o <;> simp <;> omega
 have b2:cond (B3 o) W H≤64:=by cases B3 o <;> simp <;> omega
 intro d
 induction d with
 | zero=>
  intro y aA hk hf;obtain ⟨aA,rfl⟩:=kF aA oQ;obtain rfl:y=cond (B3 o) W H:=oQ
  unfold lP;rw [nL]
 | succ d ih=>
  intro y aA hk hf;obtain ⟨aA,rfl⟩:=kF aA oQ;unfold lP;rw [p8];have:=aB5 N W H P hs o (fun x:List Px×Int=>lP N W H P o ((cond (B3 o) H W:Nat):Int) ((cond (B3 o) W H:Nat):Int) kk aA (x.1,aC.wrap ((y:Int)+1))) y oQ (cond (B3 o) H W) 0 N oQ oQ;refine this.trans ?_;rw [cM oQ];exact ih (y+1) aA oQ oQ
theorem aB7 (hN:5000≤N):fW N W H P o=some (((cond (B3 o) H W:Nat):Int),((cond (B3 o) W H:Nat):Int),Id (cond (B3 o) H W) (cond (B3 o) W H) (rPx o W H P)):=by
 unfold fW
 have hj:∀kk,uA N (W:Int) (H:Int) o kk=kk (((cond (B3 o) H W:Nat):Int),((cond (B3 o) W H:Nat):Int)):=fun kk=>by
  unfold uA B3
  cases decide (5≤o) <;> rfl
 rw [hj];have:=aB6 N W H P hs o (fun x:List Px×Int=>some (((cond (B3 o) H W:Nat):Int),((cond (B3 o) W H:Nat):Int),x.1)) hN (cond (B3 o) W H) 0 N oQ (by cases B3 o <;> simp <;> obtain ⟨h1,h2,h3,h4,h5,h6⟩:=uR W H P hs <;> omega);simp only [Nat.zero_mul,Nat.add_zero,pre,List.range_zero,List.map_nil] at this;refine this.trans ?_;rw [Id,oA]
end
theorem aHh (N:Nat) (W H:Int) (P:List Px) (o:Int) (hN:5000≤N) :
  pD N W H P o=if p7 W H P=false then some (0,0,[],1) else if 1≤o∧o≤8 then (fW N W H P o).map fun r=>(r.1,r.2.1,r.2.2,0) else some (0,0,[],3):=by
 obtain ⟨a,b,l,ht⟩:=AC N W H P hN;cases hp:p7 W H P
 ·rw [aF rfl];unfold pD;rw [ht,hp]
  rfl
 ·rw [aE sQ];rw [hp,aF rfl] at ht
  by_cases ho:1≤o∧o≤8
  ·rw [aF ho,aAQ N W H P o ho,ht];have hs:=mZ hp;obtain ⟨W',rfl⟩:∃n:Nat,W=n:=⟨W.toNat,by have:=hs.1;omega⟩
   obtain ⟨H',rfl⟩:∃n:Nat,H=n:=⟨H.toNat,by have:=hs.2.2.1;omega⟩
   rw [aB7 N W' H' P hs o hN];refine (WU _ _ _ N W' H' P hs hN).trans ?_;rw [Option.map_some];refine bZ (fun l=>some (_,_,l,_)) (Qb fun x y _ _=>?_);exact (aKT o ho W' H' P x y).symm
  ·rw [aE ho];unfold pD;rw [ht,aD,cF rQ]
   by_cases h1:o<1
   ·rw [cT (dT h1)]
   ·rw [cF (dF h1),p8]
def uS (B:Nat):Nat→Nat→List Nat
 | 0,_=>[]
 | n+1,x=>uS B n (x/B)++[x%B]
def num (B:Nat) (l:List Nat):Nat:=l.foldl (fun a x=>a*B+x) 0
theorem mO (B:Nat):∀n x,(uS B n x).length=n
 | 0,_=>rfl
 | n+1,x=>by simp [uS,mO B n]
theorem FI {B:Nat} (hB:0<B):∀n x,∀y∈uS B n x,y<B
 | 0,_,y,h=>by simp [uS] at h
 | n+1,x,y,h=>by
  rcases List.mem_append.1 h with h|h
  ·exact FI hB n _ y h
  ·rw [List.mem_singleton.1 h];exact Nat.mod_lt _ hB
theorem BS (B m:Nat):∀q x,uS B (m+q) x=uS B m (x/B^q)++uS B q x
 | 0,x=>by simp [uS]
 | q+1,x=>by
  show uS B (m+q) (x/B)++[x%B]=_++(uS B q (x/B)++[x%B]);rw [BS B m q,pL,Nat.div_div_eq_div_mul,Nat.pow_succ,oA B]
theorem Nl (B:Nat):∀n x,uS B n (x%B^n)=uS B n x
 | 0,_=>rfl
 | n+1,x=>by
  show uS B n (x%B^(n+1)/B)++[x%B^(n+1)%B]=uS B n (x/B)++[x%B];rw [Nat.pow_succ,oA,Nat.mod_mul_right_div_self,Nl B n,Nat.mod_mul_right_mod]
theorem Rq {B n x y:Nat} (h:x%B^n=y%B^n):uS B n x=uS B n y:=by rw [←Nl B n x,h,Nl]
theorem Fh (B:Nat) (l:List Nat) (x:Nat):num B (l++[x])=num B l*B+x:=by simp [num]
theorem F2 (B:Nat):∀n x,num B (uS B n x)=x%B^n
 | 0,x=>by simp [uS,num,Nat.mod_one]
 | n+1,x=>by
  show num B (uS B n (x/B)++[x%B])=_;rw [Fh,F2 B n,Nat.pow_succ,oA (B^n),Nat.mod_mul,oA,Nat.add_comm]
theorem fold_eq (B:Nat):∀(l:List Nat) (a:Nat),l.foldl (fun a x=>a*B+x) a=a*B^l.length+num B l
 | [],a=>by simp [num]
 | x::l,a=>by
  have h1:=fold_eq B l (a*B+x);have h2:=fold_eq B l (0*B+x);unfold num;rw [List.foldl_cons,List.foldl_cons,h1,h2,List.length_cons,Nat.pow_succ,Nat.zero_mul,Nat.zero_add,Nat.add_mul,Nat.mul_assoc,oA B,Nat.add_assoc]
theorem Nm (B x:Nat) (l:List Nat):num B (x::l)=x*B^l.length+num B l:=by
 have:=fold_eq B l (0*B+x);unfold num at this ⊢;rw [List.foldl_cons,this,Nat.zero_mul,Nat.zero_add]
theorem B6 {B:Nat}:∀(l:List Nat),(∀y∈l,y<B)→num B l<B^l.length
 | [],_=>by simp [num]
 | x::l,h=>by
  have h1:=B6 l fun y hy=>h y (by simp [hy])
  have h2:=h x sQ;rw [Nm,List.length_cons,Nat.pow_succ];have:(x+1)*B^l.length≤B*B^l.length:=Nat.mul_le_mul_right _ h2;rw [Nat.add_mul,Nat.one_mul,oA B] at this
  omega
theorem LC {B:Nat}:∀(l:List Nat),(∀y∈l,y<B)→uS B l.length (num B l)=l
 | [],_=>rfl
 | x::l,h=>by
  have hl:=fun y hy=>h y (List.mem_cons_of_mem x hy)
  have h1:=B6 l hl;have h2:=h x sQ;rw [Nm,List.length_cons,Nat.add_comm l.length 1,BS];have hpos:0<B^l.length:=oQ
  have e1:(x*B^l.length+num B l)/B^l.length=x:=by
   rw [oA,Nat.mul_add_div hpos,Nat.div_eq_of_lt h1,Nat.add_zero]
  have e2:(x*B^l.length+num B l)%B^l.length=num B l%B^l.length:=by
   rw [oA,Nat.mul_add_mod]
  rw [e1,Rq e2,LC l hl];show []++[x%B]++l=x::l;rw [Nat.mod_eq_of_lt h2];rfl
theorem Vj (q:Nat):256^q=2^(8*q):=by rw [show 256=2^8 by decide,←Nat.pow_mul]
theorem aB8 (d q:Nat):(2^d)^q=2^(d*q):=by rw [←Nat.pow_mul]
theorem Qf {h k:Nat} (hk:k≤64):jN .i64 (h:Int) (k:Int)=((h/2^k:Nat):Int):=by
 unfold jN
 have:min ((k:Int)).toNat aC.bits=k:=by
  rw [fM];exact Nat.min_eq_left hk
 rw [this,show (2:Int)^k=((2^k:Nat):Int) by simp,←Int.ofNat_fdiv]
theorem F3 {h k:Nat} (hk:k≤64) (hb:h*2^k<9223372036854775808):qF .i64 (h:Int) (k:Int)=((h*2^k:Nat):Int):=by
 unfold qF
 have:min ((k:Int)).toNat aC.bits=k:=by
  rw [fM];exact Nat.min_eq_left hk
 rw [this,show (2:Int)^k=((2^k:Nat):Int) by simp,←vA,cM oQ]
theorem WV {h k:Nat} (hh:h<9223372036854775808) (hk:k<63):BJ .i64 (h:Int) ((2^k-1:Nat):Int)=((h%2^k:Nat):Int):=by
 have hk2:2^k≤2^62:=Nat.pow_le_pow_right aL oQ;unfold BJ
 have e:(BitVec.ofInt aC.bits (h:Int) &&& BitVec.ofInt aC.bits ((2^k-1:Nat):Int)).toNat=h%2^k:=by
  rw [BitVec.toNat_and,BitVec.ofInt_natCast,BitVec.ofInt_natCast,BitVec.toNat_ofNat,BitVec.toNat_ofNat];have hb:aC.bits=64:=rfl;rw [hb,Nat.mod_eq_of_lt (show h<2^64 by omega),Nat.mod_eq_of_lt (show 2^k-1<2^64 by omega),Nat.and_two_pow_sub_one_eq_mod]
 rw [e];have:=Nat.mod_le h (2^k);exact cM oQ
theorem Rr {h d e:Nat} (he:e<2^d) (hb:h*2^d+e<9223372036854775808):Ir .i64 ((h*2^d:Nat):Int) (e:Int)=((h*2^d+e:Nat):Int):=by
 unfold Ir;have hb':aC.bits=64:=rfl
 have e1:(BitVec.ofInt aC.bits ((h*2^d:Nat):Int) ||| BitVec.ofInt aC.bits (e:Int)).toNat=h*2^d+e:=by
  rw [BitVec.toNat_or,BitVec.ofInt_natCast,BitVec.ofInt_natCast,BitVec.toNat_ofNat,BitVec.toNat_ofNat,hb',Nat.mod_eq_of_lt (show h*2^d<2^64 by omega),Nat.mod_eq_of_lt (show e<2^64 by omega)];rw [oA h,Nat.two_pow_add_eq_or_of_lt he]
 rw [e1];exact cM oQ
theorem KO (n:Nat):iH.wrap (n:Int)=((n%256:Nat):Int):=by
 simp [IntKind.wrap,IntKind.bits,IntKind.signed]
def uT (l:List Nat):List Int:=l.map fun n:Nat=>(n:Int)
theorem kL (l:List Nat):(uT l).length=l.length:=by simp [uT]
theorem Jk (l m:List Nat):uT (l++m)=uT l++uT m:=by simp [uT]
theorem DL (n:Nat):nn (n:Int)=some ():=by unfold nn;rw [aF oQ]
theorem Rs {X d e L:Nat} (he:e<2^d):X%2^L*2^d+e=(X*2^d+e)%2^(L+d):=by
 have h1:X*2^d+e=2^(L+d)*(X/2^L)+(X%2^L*2^d+e):=by
  have h3:=Nat.div_add_mod X (2^L);have h2:X*2^d=2^L*(X/2^L)*2^d+X%2^L*2^d:=by rw [←Nat.add_mul,h3]
  rw [h2,Nat.pow_add,Nat.mul_assoc,oA (X/2^L),←Nat.mul_assoc,Nat.add_assoc]
 have h2:X%2^L*2^d+e<2^(L+d):=by
  have:X%2^L<2^L:=Nat.mod_lt _ (Nat.two_pow_pos L);have h3:(X%2^L+1)*2^d≤2^L*2^d:=Nat.mul_le_mul_right _ this;rw [←Nat.pow_add,Nat.add_mul,Nat.one_mul] at h3
  omega
 rw [h1,Nat.mul_add_mod,Nat.mod_eq_of_lt h2]
theorem aAR {X d e:Nat} (he:e<2^d):(X*2^d+e)/2^d=X:=by
 rw [oA,Nat.mul_add_div (Nat.two_pow_pos d),Nat.div_eq_of_lt he,Nat.add_zero]
def Oq (d:Nat) (l:List Int) (k:Nat):Nat:=num (2^d) ((l.take k).map Int.toNat)
def inD (d:Nat) (e:Int):Bool:=decide (0≤e∧e<((2^d:Nat):Int))
theorem aEI {d:Nat} {l:List Int} {k:Nat} (hk:k<l.length):Oq d l (k+1)=Oq d l k*2^d+l[k].toNat:=by
 unfold Oq;rw [List.take_succ_eq_append_getElem hk,List.map_append,List.map_cons,List.map_nil,Fh]
abbrev PSt:=Qx
theorem Fi {d:Nat} (h:d≤16):2^d≤65536:=by
 have:=Nat.pow_le_pow_right (show 0<2 by decide) h;exact this
def JK (d:Nat) (l:List Int):List Nat:=uS 256 ((l.length*d+7)/8) (Oq d l l.length*2^((l.length*d+7)/8*8-l.length*d))
theorem Qg (l:List Nat):toB (uT l)=l.map nN:=by
 unfold toB uT;rw [List.map_map]
 rfl
def aAS (l:List Int) (o:Int):Int:=if ¬(1≤o∧o≤16) then 3 else if 4096<l.length then 2 else if l.all (inD o.toNat)=true then 0 else 3
theorem aB9 (N:Nat) (o:Int):Ax N o=some (decide (1≤o∧o≤16)):=by
 unfold Ax
 by_cases h:1≤o
 ·rw [cT (dT h)];simp [h]
 ·rw [cF (dF h)];simp [h]
theorem aCa {w X d e L q r:Nat} (m:Nat) (he:e<2^d) (hq:L+d=w*q+r):uS (2^w) m (X/2^L)++uS (2^w) q ((X%2^L*2^d+e)/2^r)=uS (2^w) (m+q) ((X*2^d+e)/2^r):=by
 rw [BS]
 congr 1
 ·rw [aB8,Nat.div_div_eq_div_mul,←Nat.pow_add,show r+w*q=d+L by omega,Nat.pow_add,←Nat.div_div_eq_div_mul,aAR he]
 ·rw [Rs he,show L+d=r+w*q by omega,Nat.pow_add,Nat.mod_mul_right_div_self,←aB8,Nl]
theorem aCb {w X d e L q r:Nat} (he:e<2^d) (hq:L+d=w*q+r):(X%2^L*2^d+e)%2^r=(X*2^d+e)%2^r:=by
 rw [Rs he,show L+d=r+w*q by omega,Nat.pow_add,Nat.mod_mul_right_mod]
theorem aCc (N:Nat) {d n:Nat} (hd:1≤d∧d≤16) (hn:n≤4096) (kk):∀(a t h aA:Nat) (out:List Int),a=min (t/d) (n-out.length)→out.length≤n→t≤32→h<2^t→a<aA →
  vT N (d:Int) (n:Int) kk aA (out,(h:Int),(t:Int))=kk (out++uT (uS (2^d) a (h/2^(t-d*a))),((h%2^(t-d*a):Nat):Int),((t-d*a:Nat):Int)):=by
 intro a
 induction a with
 | zero=>
  intro t h aA out ha hon ht hh hf;obtain ⟨aA,rfl⟩:=kF aA oQ
  have hex:t<d∨n=out.length:=by
   by_cases q:t<d
   ·exact .inl q
   ·right
    have:1≤t/d:=(Nat.le_div_iff_mul_le oQ).2 oQ
    omega
  have hfin:kk (out++uT (uS (2^d) 0 (h/2^(t-d*0))),((h%2^(t-d*0):Nat):Int),((t-d*0:Nat):Int))=kk (out,(h:Int),(t:Int)):=by
   rw [Nat.mul_zero,Nat.sub_zero,Nat.mod_eq_of_lt hh]
   simp [uS,uT]
  rw [hfin];unfold vT
  by_cases q:(d:Int)≤t
  ·rw [cT (dT q),nL]
  ·rw [cF (dF q)]
 | succ a ih=>
  intro t h aA out ha hon ht hh hf;obtain ⟨aA,rfl⟩:=kF aA oQ
  have h1:d≤t:=by
   rcases Nat.lt_or_ge t d with q|q
   ·rw [Nat.div_eq_of_lt q] at ha;omega
   ·exact q
  have h2:out.length<n:=oQ
  have htd:(t-d)/d=t/d-1:=by
   have:=Nat.sub_mul_div t d 1;rw [Nat.mul_one] at this;exact this
  have hx:aC.wrap ((t:Int)-(d:Int))=((t-d:Nat):Int):=by rw [cM oQ];omega
  have hpt:2^t≤2^32:=Nat.pow_le_pow_right aL ht;have aQk:2^(t-d)≤2^32:=Nat.pow_le_pow_right aL oQ;have hp0:=Nat.two_pow_pos (t-d)
  have em:aC.wrap (qF .i64 1 ((t-d:Nat):Int)-1)=((2^(t-d)-1:Nat):Int):=by
   have:=F3 (h:=1) (k:=t-d) oQ oQ;rw [Nat.one_mul] at this;rw [show (1:Int)=((1:Nat):Int) from rfl,this,cM oQ]
   omega
  have hmul:d*(a+1)=d+d*a:=by rw [Nat.mul_add,Nat.mul_one,Nat.add_comm]
  have hle:d*(a+1)≤t:=by
   have:=Nat.div_mul_le_self t d;have q:a+1≤t/d:=oQ
   have:=Nat.mul_le_mul_left d q;rw [oA d (t/d)] at this
   omega
  unfold vT;rw [p8,p8,hx,aD,DL,aD,Qf oQ,iQ uW,aD,aD,em,WV oQ oQ,aD];rw [ih (t-d) (h%2^(t-d)) aA (out++[((h/2^(t-d):Nat):Int)]) (by rw [htd,kG,List.length_singleton];omega) (by rw [kG,List.length_singleton];omega) oQ (Nat.mod_lt _ hp0) oQ];have er:t-d-d*a=t-d*(a+1):=oQ
  rw [er]
  have e1:h%2^(t-d)%2^(t-d*(a+1))=h%2^(t-d*(a+1)):=by
   rw [show t-d=(t-d*(a+1))+d*a by omega,Nat.pow_add,Nat.mod_mul_right_mod]
  have e2:uS (2^d) (a+1) (h/2^(t-d*(a+1)))=[h/2^(t-d)]++uS (2^d) a (h%2^(t-d)/2^(t-d*(a+1))):=by
   rw [Nat.add_comm a 1,BS,Nat.add_comm 1 a]
   congr 1
   ·show [h/2^(t-d*(a+1))/(2^d)^a%2^d]=_;rw [aB8,Nat.div_div_eq_div_mul,←Nat.pow_add,show t-d*(a+1)+d*a=t-d by omega,Nat.mod_eq_of_lt];rw [Nat.div_lt_iff_lt_mul hp0,←Nat.pow_add,show d+(t-d)=t by omega];exact hh
   ·have:h%2^(t-d)/2^(t-d*(a+1))=h/2^(t-d*(a+1))%(2^d)^a:=by
     rw [aB8,show t-d=(t-d*(a+1))+d*a by omega,Nat.pow_add,Nat.mod_mul_right_div_self]
    rw [this,Nl]
  rw [e1,e2,Jk,pL]
  rfl
def JL (s:aR) (k:Nat):Nat:=num 256 ((s.take k).map UInt8.toNat)
theorem Ru {s:aR} {k:Nat} (hk:k<s.length):JL s (k+1)=JL s k*2^8+s[k].toNat:=by
 unfold JL;rw [List.take_succ_eq_append_getElem hk,List.map_append,List.map_cons,List.map_nil,Fh]
def cN (d n k:Nat):Nat:=min (8*k/d) n
def ust (d n:Nat) (s:aR) (k:Nat):PSt:=(uT (uS (2^d) (cN d n k) (JL s k/2^(8*k-d*cN d n k))),((JL s k%2^(8*k-d*cN d n k):Nat):Int),((8*k-d*cN d n k:Nat):Int),(k:Int))
theorem aCd (N:Nat) (hN:100000≤N) {d n:Nat} (hd:1≤d∧d≤16) (hn:n≤4096) (s:aR) (hl:s.length=(n*d+7)/8) (kk):∀(j k aA:Nat),k+j=s.length→j<aA →
  vU N s (d:Int) (n:Int) kk aA (ust d n s k)=kk (ust d n s s.length):=by
 have hnd:n*d≤4096*16:=tM hn hd.2;intro j
 induction j with
 | zero=>
  intro k aA hk hf;obtain ⟨aA,rfl⟩:=kF aA oQ;obtain rfl:k=s.length:=oQ
  unfold ust vU;rw [nL]
 | succ j ih=>
  intro k aA hk hf;obtain ⟨aA,rfl⟩:=kF aA oQ;have hlt:k<s.length:=oQ
  have hih:=ih (k+1) aA oQ oQ;have hbs:=Ru hlt;have hb:s[k].toNat<2^8:=s[k].toNat_lt
  have hc:cN d n k=8*k/d:=by
   unfold cN;have:8*k/d<n:=(Nat.div_lt_iff_lt_mul oQ).2 oQ
   omega
  have hL:8*k-d*cN d n k=8*k%d:=by
   have:=Nat.div_add_mod (8*k) d;rw [hc];omega
  have hLd:8*k%d<d:=Nat.mod_lt _ oQ;have hcn:cN d n k≤n:=Nat.min_le_right _ _
  have ha:cN d n (k+1)=cN d n k+min ((8*k%d+8)/d) (n-cN d n k):=by
   have h1:(8*k+8)/d=8*k/d+(8*k%d+8)/d:=by
    have:=Nat.div_add_mod (8*k) d;have e:8*k+8=d*(8*k/d)+(8*k%d+8):=oQ
    rw [e,Nat.mul_add_div oQ]
   have h2:cN d n (k+1)=min ((8*k+8)/d) n:=by unfold cN;rw [show 8*(k+1)=8*k+8 by omega]
   rw [h2,h1,←hc]
   omega
  have hL2:8*(k+1)-d*cN d n (k+1)=8*k%d+8-d*min ((8*k%d+8)/d) (n-cN d n k):=by
   rw [ha,Nat.mul_add d];have h3:=Nat.div_mul_le_self (8*k) d;rw [←hc,oA] at h3
   omega
  have aQl:d*min ((8*k%d+8)/d) (n-cN d n k)≤8*k%d+8:=by
   have h4:=Nat.div_mul_le_self (8*k%d+8) d;have h5:=Nat.mul_le_mul_left d (Nat.min_le_left ((8*k%d+8)/d) (n-cN d n k));rw [oA d ((8*k%d+8)/d)] at h5
   omega
  unfold ust at hih ⊢;rw [hL];rw [hL2,ha,hbs] at hih;have hol:=kL (uS (2^d) (cN d n k) (JL s k/2^(8*k%d)));rw [mO] at hol;have aMH:min ((8*k%d+8)/d) (n-cN d n k)=min ((8*k%d+8)/d) (n-(uT (uS (2^d) (cN d n k) (JL s k/2^(8*k%d)))).length):=by rw [hol]
  generalize min ((8*k%d+8)/d) (n-cN d n k)=a at *
  generalize JL s k=X at *
  generalize hbb:s[k].toNat=b at *
  have hlow:=Rs (X:=X) (L:=8*k%d) hb;have aQm:8*k%d≤15:=oQ
  generalize 8*k%d=L at *
  generalize cN d n k=c at *
  have aKU:X%2^L*2^8+b<2^(L+8):=by rw [hlow];exact Nat.mod_lt _ (Nat.two_pow_pos _)
  have aMI:2^(L+8)≤8388608:=Nat.pow_le_pow_right (show 0<2 by decide) (show L+8≤23 by omega)
  have hb8:X%2^L*2^8<8388608:=by
   have:=Nat.lt_of_lt_of_le aKU aMI;exact Nat.lt_of_le_of_lt (Nat.le_add_right _ b) this
  have hb9:X%2^L*2^8+b<8388608:=Nat.lt_of_lt_of_le aKU aMI
  have ex:Ir .i64 (qF .i64 ((X%2^L:Nat):Int) 8) (aC.wrap (b:Int))=((X%2^L*2^8+b:Nat):Int):=by
   have q1:=F3 (h:=X%2^L) (k:=8) aL (Nat.lt_trans hb8 aL);have q2:=Rr (h:=X%2^L) (d:=8) (e:=b) hb (Nat.lt_trans hb9 aL);rw [cM (x:=(b:Int)) oQ,←q2,←q1]
   rfl
  have ew:aC.wrap ((L:Int)+8)=((L+8:Nat):Int):=by rw [cM oQ];omega
  have hq:L+8=d*a+(L+8-d*a):=oQ
  have s1:=aCa (X:=X) c hb hq;have s2:=aCb (X:=X) hb hq;unfold vU;rw [p8,dC,f9 hlt,aD,hbb,ex,aD,ew,aD];refine (aCc N hd hn _ a (L+8) (X%2^L*2^8+b) N (uT (uS (2^d) c (X/2^L))) aMH (by rw [hol];exact hcn) oQ aKU oQ).trans ?_
  dsimp only
  rw [←Jk,s1,s2,cM (x:=(k:Int)+1) oQ];exact hih
def f8 (s:aR) (o p:Int):Int:=if ¬(1≤o∧o≤16) then 3 else if p<0 then 3 else if 4096<p then 2 else if s.length≠(p.toNat*o.toNat+7)/8 then 1 else if JL s s.length%2^(8*s.length-o.toNat*p.toNat)≠0 then 1 else 0
def uY (s:aR) (d n:Nat):List Nat:=uS (2^d) n (JL s s.length/2^(8*s.length-d*n))
theorem aCe (N:Nat) (hN:100000≤N) (s:aR) (hs:s.length≤9223372036854775807) (o p:Int):Cl N s o p=some (if f8 s o p=0 then (uT (uY s o.toNat p.toNat),0) else ([],f8 s o p)):=by
 unfold Cl;rw [aB9,aD]
 by_cases h1:1≤o∧o≤16
 rotate_left
 ·have hpe:f8 s o p=3:=by unfold f8;rw [aF h1]
  rw [cT (by rw [dF h1];rfl),hpe];rfl
 have h1':¬ ¬(1≤o∧o≤16):=fun h=>h h1
 rw [cF (by rw [dT h1];rfl)]
 by_cases h2:p<0
 ·have hpe:f8 s o p=3:=by unfold f8;rw [aE h1',aF h2]
  rw [cT (dT h2),hpe];rfl
 rw [cF (dF h2)]
 by_cases h3:4096<p
 ·have hpe:f8 s o p=2:=by unfold f8;rw [aE h1',aE h2,aF h3]
  rw [cT (dT h3),hpe];rfl
 rw [cF (dF h3)];obtain ⟨d,rfl⟩:=sC (show 0≤o by omega);obtain ⟨n,rfl⟩:=sC (show 0≤p by omega);have hb:n*d≤4096*16:=tM oQ oQ
 have e1:aC.wrap (gI (aC.wrap (aC.wrap ((n:Int)*(d:Int))+7)) 8)=(((n*d+7)/8:Nat):Int):=by
  rw [←vA,cM (x:=((n*d:Nat):Int)) oQ,cM (x:=((n*d:Nat):Int)+7) oQ,show ((n*d:Nat):Int)+7=((n*d+7:Nat):Int) by omega,
   show gI ((n*d+7:Nat):Int) 8=(((n*d+7)/8:Nat):Int) from rfl,cM oQ]
 rw [e1]
 by_cases h4:s.length=(n*d+7)/8
 rotate_left
 ·have hpe:f8 s d n=1:=by unfold f8;rw [aE h1',aE h2,aE h3,fM,fM,aF h4]
  rw [cT (by rw [dF oQ];rfl),hpe];rfl
 rw [cF (by rw [dT oQ];rfl)]
 have h0:ust d n s 0=(([]:List Int),(0:Int),(0:Int),(0:Int)):=by
  unfold ust cN
  simp [JL,num,uS,uT,Nat.mod_one]
 have key:=aCd N hN (d:=d) (n:=n) oQ oQ s h4 (fun x:PSt=>cond (!decide (x.2.1=0)) (some (([]:List Int),1)) (some (x.1,0))) s.length 0 N oQ oQ;rw [h0] at key;refine Eq.trans key ?_
 have hc:cN d n s.length=n:=by
  unfold cN;have:n≤8*s.length/d:=(Nat.le_div_iff_mul_le oQ).2 (by rw [h4];omega)
  omega
 unfold ust;rw [hc]
 dsimp only
 by_cases h5:JL s s.length%2^(8*s.length-d*n)=0
 ·have hpe:f8 s d n=0:=by
   unfold f8;rw [aE h1',aE h2,aE h3,fM,fM,aE oQ,aE oQ]
  rw [cF (by rw [dT oQ];rfl),hpe,aF rfl,fM,fM]
  rfl
 ·have hpe:f8 s d n=1:=by
   unfold f8;rw [aE h1',aE h2,aE h3,fM,fM,aE oQ,aF h5]
  rw [cT (by rw [dF oQ];rfl),hpe];rfl
theorem ofNat_toNat {l:List Nat} (h:∀y∈l,y<256):(l.map nN).map UInt8.toNat=l:=by
 rw [List.map_map]
 conv=>rhs;rw [←List.map_id l]
 refine List.map_congr_left fun y hy=>?_
 have:=h y hy
 simp [UInt8.toNat_ofNat',Nat.mod_eq_of_lt this]
theorem toNat_ofNat (s:aR):(s.map UInt8.toNat).map nN=s:=by
 rw [List.map_map]
 conv=>rhs;rw [←List.map_id s]
 refine List.map_congr_left fun y _=>?_
 simp
theorem IA (l:List Nat):(uT l).map Int.toNat=l:=by
 unfold uT;rw [List.map_map]
 conv=>rhs;rw [←List.map_id l]
 exact List.map_congr_left fun y _=>rfl
theorem aCf {l:List Int} (h:∀y∈l,0≤y):uT (l.map Int.toNat)=l:=by
 unfold uT;rw [List.map_map]
 conv=>rhs;rw [←List.map_id l]
 refine List.map_congr_left fun y hy=>?_
 have:=h y hy;show ((y.toNat:Nat):Int)=y
 omega
section
variable {d n:Nat} (hd:1≤d∧d≤16)
include hd
theorem aKV {l:List Int} (h:l.all (inD d)=true):Oq d l l.length<2^(d*l.length):=by
 unfold Oq;rw [List.take_length,←aB8]
 have:=B6 (B:=2^d) (l.map Int.toNat) fun y hy=>by
  obtain ⟨e,he,rfl⟩:=List.mem_map.1 hy;have:=bW (List.all_eq_true.1 h e he)
  omega
 rwa [xK] at this
theorem aEJ {l:List Int} (h:l.all (inD d)=true):((JK d l).map nN).length=(l.length*d+7)/8∧JL ((JK d l).map nN) ((l.length*d+7)/8)=Oq d l l.length*2^(8*((l.length*d+7)/8)-d*l.length):=by
 have gK:((JK d l).map nN).length=(l.length*d+7)/8:=by rw [xK];exact mO _ _ _
 refine ⟨gK,?_⟩;unfold JL;have ht:((JK d l).map nN).take ((l.length*d+7)/8)=(JK d l).map nN:=List.take_of_length_le oQ;have aPk:∀y∈JK d l,y<256:=fun y hy=>FI aL _ _ y hy
 rw [ht,ofNat_toNat aPk];unfold JK;rw [F2,oA l.length d,oA ((d*l.length+7)/8) 8,Nat.mod_eq_of_lt];have h1:=aKV hd h;rw [Vj];have h2:Oq d l l.length*2^(8*((d*l.length+7)/8)-d*l.length)<2^(d*l.length)*2^(8*((d*l.length+7)/8)-d*l.length):=Nat.mul_lt_mul_of_pos_right h1 (Nat.two_pow_pos _);rw [←Nat.pow_add,show d*l.length+(8*((d*l.length+7)/8)-d*l.length)=8*((d*l.length+7)/8) by omega] at h2;exact h2
theorem aEK (s:aR):JL s s.length<2^(8*s.length):=by
 unfold JL;rw [List.take_length,←Vj]
 have:=B6 (B:=256) (s.map UInt8.toNat) fun y hy=>by
  obtain ⟨e,_,rfl⟩:=List.mem_map.1 hy;exact e.toNat_lt
 rwa [xK] at this
theorem WW {s:aR} (hl:s.length=(n*d+7)/8) (hn:n≤4096) (hz:JL s s.length%2^(8*s.length-d*n)=0) :
  aAS (uT (uY s d n)) d=0∧(JK d (uT (uY s d n))).map nN=s∧(uT (uY s d n)).length=n:=by
 have gK:(uT (uY s d n)).length=n:=by rw [kL];exact mO _ _ _
 have hdn:d*n≤8*s.length:=by rw [hl,oA d];omega
 refine ⟨?_,?_,gK⟩
 ·unfold aAS;rw [aE (fun q=>q oQ),aE oQ,fM,aF];refine List.all_eq_true.2 fun y hy=>?_
  obtain ⟨e,he,rfl⟩:=List.mem_map.1 hy;have:=FI (Nat.two_pow_pos d) _ _ e he;exact decide_eq_true oQ
 ·unfold JK
  have hS:Oq d (uT (uY s d n)) n=JL s s.length/2^(8*s.length-d*n):=by
   unfold Oq;rw [List.take_of_length_le oQ,IA];unfold uY;rw [F2,aB8,Nat.mod_eq_of_lt];have:=aEK hd s;rw [show 8*s.length=d*n+(8*s.length-d*n) by omega,Nat.pow_add] at this;exact (Nat.div_lt_iff_lt_mul (Nat.two_pow_pos _)).2 (by rw [show 8*s.length=d*n+(8*s.length-d*n) by omega];simpa using this)
  rw [gK,hS,←hl,oA n d,oA s.length 8,Nat.div_mul_cancel (Nat.dvd_of_mod_eq_zero hz)];unfold JL;rw [List.take_length]
  have:=LC (B:=256) (s.map UInt8.toNat) fun y hy=>by
   obtain ⟨e,_,rfl⟩:=List.mem_map.1 hy;exact e.toNat_lt
  rw [xK] at this;rw [this,toNat_ofNat]
end
def Dw (l:List Nat):aR:=l.map fun b=>nN (48+b)
theorem tD (l:List Nat):(Dw l).length=l.length:=by simp [Dw]
theorem Nn (l m:List Nat):Dw (l++m)=Dw l++Dw m:=by simp [Dw]
theorem aMJ (N:Nat):∀(k fu n:Nat),k<fu→k≤16→n<9223372036854775808→kO N fu (n:Int) (k:Int)=some (Dw (uS 2 k n)):=by
 intro k
 induction k with
 | zero=>
  intro fu n hf _ _;obtain ⟨fu,rfl⟩:=kF fu oQ;unfold kO;rw [cT rQ];rfl
 | succ k ih=>
  intro fu n hf hk hn;obtain ⟨fu,rfl⟩:=kF fu oQ;have e1:aC.wrap (gI (n:Int) 2)=((n/2:Nat):Int):=by rw [show gI (n:Int) 2=((n/2:Nat):Int) from rfl,cM oQ]
  have e2:aC.wrap (((k+1:Nat):Int)-1)=(k:Int):=by rw [cM oQ];omega
  have e3:iH.wrap (48+iH.wrap (mN (n:Int) 2))=((48+n%2:Nat):Int):=by
   rw [show mN (n:Int) 2=((n%2:Nat):Int) from rfl,KO,show (48:Int)+((n%2%256:Nat):Int)=((48+n%2%256:Nat):Int) by omega,KO]
   omega
  unfold kO;rw [nL,e1,e2,ih fu (n/2) oQ oQ oQ,aD,e3];have hl:(Dw (uS 2 k (n/2))).length=k:=by rw [tD,mO]
  have ha:Ai (Dw (uS 2 k (n/2))) (toB [((48+n%2:Nat):Int)])=some (Dw (uS 2 (k+1) n)):=by
   unfold Ai;rw [aF (by rw [hl];simp [toB];omega)];show some (_++_)=some (Dw (uS 2 k (n/2)++[n%2]));rw [Nn]
   rfl
  rw [ha,aD]
theorem number_eq {N:Nat} (hN:100≤N) {n k:Nat} (hk:k≤16) (hn:n<9223372036854775808):oF N (n:Int) (k:Int)=some (Dw (uS 2 k n)):=aMJ N k N n oQ hk hn
theorem Qh (l m:aR):rT (l++m)=rT l++rT m:=by simp [rT]
theorem Vk (l:aR):toB (rT l)=l:=by
 unfold toB rT;rw [List.map_map]
 conv=>rhs;rw [←List.map_id l]
 refine List.map_congr_left fun y _=>?_
 show nN (Int.toNat ((y.toNat:Nat):Int))=y
 simp
theorem yD (l:aR):(rT l).length=l.length:=by simp [rT]
theorem Np {d e X m:Nat} (he:e<2^d):uS 2 m X++uS 2 d e=uS 2 (m+d) (X*2^d+e):=by
 rw [BS,aAR he]
 congr 1
 refine Rq ?_;rw [oA,Nat.mul_add_mod]
theorem aCg (N:Nat) (hN:100000≤N) {d:Nat} (hd:1≤d∧d≤16) {l:List Int} (hl:l.length≤4096) (hall:l.all (inD d)=true) (kk):∀(j k aA:Nat),k+j=l.length→j<aA →
  nU N l (d:Int) kk aA (rT (Dw (uS 2 (k*d) (Oq d l k))),(k:Int))=kk (rT (Dw (uS 2 (l.length*d) (Oq d l l.length))),(l.length:Int)):=by
 intro j
 induction j with
 | zero=>
  intro k aA hk hf;obtain ⟨aA,rfl⟩:=kF aA oQ;obtain rfl:k=l.length:=oQ
  unfold nU;rw [nL]
 | succ j ih=>
  intro k aA hk hf;obtain ⟨aA,rfl⟩:=kF aA oQ;have hlt:k<l.length:=oQ
  have hp:=Fi hd.2;have hin:=bW (List.all_eq_true.1 hall _ (List.getElem_mem hlt));obtain ⟨e,he⟩:∃e:Nat,l[k]=e:=⟨l[k].toNat,by omega⟩
  have hed:e<2^d:=oQ
  have hsm:=aEI (d:=d) hlt;rw [he,fM] at hsm;have hkb:k*d≤4096*16:=tM oQ hd.2;have hih:=ih (k+1) aA oQ oQ;rw [hsm,Nat.add_mul,Nat.one_mul,←Np hed,Nn,Qh] at hih;unfold nU;rw [p8,dC,f9 hlt,aD,he,number_eq oQ hd.2 oQ,aD,iQ (by rw [yD,yD,tD,tD,mO,mO];omega),aD,aD,cM (x:=(k:Int)+1) oQ];exact hih
def gr (M:Nat) (l:List Nat):List Nat:=(gS M).map fun g=>num 2 ((gS 8).map fun t=>l.getD (8*g+t) 0)
theorem aHi {M:Nat} {a c:List Nat} (ha:a.length=8*M) (hc:c.length=8):gr (M+1) (a++c)=gr M a++[num 2 c]:=by
 unfold gr;rw [List.range_succ (n:=M),List.map_append,List.map_singleton]
 congr 1
 ·refine List.map_congr_left fun g hg=>?_
  have:=List.mem_range.1 hg
  congr 1
  refine List.map_congr_left fun t ht=>?_
  have:=List.mem_range.1 ht;rw [qG,qG,List.getElem?_append_left oQ]
 ·congr 2
  apply List.ext_getElem?
  intro t
  by_cases ht:t<8
  ·rw [List.getElem?_map,List.getElem?_range ht];show some ((a++c).getD (8*M+t) 0)=_;rw [qG,List.getElem?_append_right oQ,show 8*M+t-a.length=t by omega,f9 oQ]
   rfl
  ·rw [wW uW,wW oQ]
theorem Rv:∀(M Y:Nat),gr M (uS 2 (8*M) Y)=uS 256 M Y
 | 0,_=>rfl
 | M+1,Y=>by
  rw [show 8*(M+1)=8*M+8 by omega,BS,aHi (mO _ _ _) (mO _ _ _),F2,Rv M]
  rfl
theorem aEL (M p:Nat) (l:List Nat):gr M (l++nH p 0)=gr M l:=by
 unfold gr;refine List.map_congr_left fun g _=>?_
 congr 1
 refine List.map_congr_left fun t _=>?_
 rw [qG,qG]
 by_cases h:8*g+t<l.length
 ·rw [List.getElem?_append_left h]
 ·rw [List.getElem?_append_right oQ,wW (l:=l) oQ,List.getElem?_replicate]
  split <;> rfl
theorem WX (B:Nat):∀n,uS B n 0=nH n 0
 | 0=>rfl
 | n+1=>by
  show uS B n (0/B)++[0%B]=_;rw [Nat.zero_div,Nat.zero_mod,WX B n,List.replicate_succ']
theorem aMK (T X:Nat):gr ((T+7)/8) (uS 2 T X)=uS 256 ((T+7)/8) (X*2^((T+7)/8*8-T)):=by
 have h1:uS 2 T X++nH ((T+7)/8*8-T) 0=uS 2 (8*((T+7)/8)) (X*2^((T+7)/8*8-T)):=by
  rw [show 8*((T+7)/8)=T+((T+7)/8*8-T) by omega,BS,Nat.mul_div_cancel _ (Nat.two_pow_pos _),←WX 2]
  congr 1
  exact Rq (by rw [Nat.mul_mod_left,Nat.zero_mod])
 rw [←Rv,←h1,aEL]
theorem Qi {l:List Nat} {k:Nat} (hk:k<l.length) (h2:∀y∈l,y<2):idx (Dw l) (k:Int)=some (nN (48+l.getD k 0))∧((nN (48+l.getD k 0)).toNat:Int)=((48+l.getD k 0:Nat):Int)∧l.getD k 0<2:=by
 have hg:l.getD k 0=l[k]:=by rw [qG,f9 hk];rfl
 have h3:=h2 _ (List.getElem_mem hk);rw [hg];refine ⟨?_,?_,h3⟩
 ·rw [dC,Dw,List.getElem?_map,f9 hk];rfl
 ·rw [UInt8.toNat_ofNat',Nat.mod_eq_of_lt oQ]
theorem aEM (N:Nat) {l:List Nat} (h2:∀y∈l,y<2) (hl:l.length≤16777216) {i:Nat} (hi:i<l.length) (kk):∀(j t aA:Nat),t+j=8→j<aA →
  kQ N (Dw l) (i:Int) kk aA (((num 2 ((gS t).map fun t=>l.getD (i+t) 0):Nat):Int),((i+t:Nat):Int))=kk (((num 2 ((gS 8).map fun t=>l.getD (i+t) 0):Nat):Int),((i+8:Nat):Int)):=by
 intro j
 induction j with
 | zero=>
  intro t aA hk hf;obtain ⟨aA,rfl⟩:=kF aA oQ;obtain rfl:t=8:=oQ
  unfold kQ;rw [cM (x:=(i:Int)+8) oQ,nL]
 | succ j ih=>
  intro t aA hk hf;obtain ⟨aA,rfl⟩:=kF aA oQ;have hih:=ih (t+1) aA oQ oQ;rw [List.range_succ,List.map_append,List.map_singleton,Fh] at hih
  have hb:num 2 ((gS t).map fun t=>l.getD (i+t) 0)<256:=by
   have:=B6 (B:=2) ((gS t).map fun t=>l.getD (i+t) 0) fun y hy=>by
    obtain ⟨q,_,rfl⟩:=List.mem_map.1 hy;rw [qG]
    by_cases hq:i+q<l.length
    ·rw [f9 hq];exact h2 _ (List.getElem_mem hq)
    ·rw [wW oQ];decide
   rw [xK,List.length_range] at this;have h8:2^t≤256:=Nat.pow_le_pow_right (show 0<2 by decide) (show t≤8 by omega)
   omega
  generalize num 2 ((gS t).map fun t=>l.getD (i+t) 0)=v at *
  unfold kQ;rw [cM (x:=(i:Int)+8) oQ,p8,cM (x:=2*(v:Int)) oQ,aD]
  by_cases hq:i+t<l.length
  ·obtain ⟨g1,g2,g3⟩:=Qi hq h2;rw [cT (dT (by rw [tD];omega)),g1,aD,g2]
   generalize l.getD (i+t) 0=b at *
   by_cases h1:b=1
   ·subst h1;rw [p8,cM (x:=2*(v:Int)+1) oQ,aD,cM (x:=((i+t:Nat):Int)+1) oQ,aD];rw [show v*2+1=2*v+1 by omega] at hih;exact hih
   ·obtain rfl:b=0:=oQ
    rw [nL,cM (x:=((i+t:Nat):Int)+1) oQ,aD];rw [show v*2+0=2*v by omega] at hih;exact hih
  ·have hz:l.getD (i+t) 0=0:=by rw [qG,wW oQ];rfl
   rw [hz,show v*2+0=2*v by omega] at hih;rw [cF (dF (by rw [tD];omega)),cM (x:=((i+t:Nat):Int)+1) oQ,aD];exact hih
theorem aEN (N:Nat) (hN:100≤N) {l:List Nat} (h2:∀y∈l,y<2) (hl:l.length≤16777216) (kk):∀(j m aA:Nat),m+j=(l.length+7)/8→j<aA →
  mA N (Dw l) kk aA (uT (gr m l),((8*m:Nat):Int))=kk (uT (gr ((l.length+7)/8) l),((8*((l.length+7)/8):Nat):Int)):=by
 intro j
 induction j with
 | zero=>
  intro m aA hk hf;obtain ⟨aA,rfl⟩:=kF aA oQ;obtain rfl:m=(l.length+7)/8:=oQ
  unfold mA;rw [cF (dF (by rw [tD];omega))]
 | succ j ih=>
  intro m aA hk hf;obtain ⟨aA,rfl⟩:=kF aA oQ;have hlt:8*m<l.length:=oQ
  have hih:=ih (m+1) aA oQ oQ
  have hg:gr (m+1) l=gr m l++[num 2 ((gS 8).map fun t=>l.getD (8*m+t) 0)]:=by
   unfold gr;rw [List.range_succ (n:=m),List.map_append,List.map_singleton]
  have hgl:(gr m l).length=m:=by simp [gr]
  have hb:num 2 ((gS 8).map fun t=>l.getD (8*m+t) 0)<256:=by
   have:=B6 (B:=2) ((gS 8).map fun t=>l.getD (8*m+t) 0) fun y hy=>by
    obtain ⟨q,_,rfl⟩:=List.mem_map.1 hy;rw [qG]
    by_cases hq:8*m+q<l.length
    ·rw [f9 hq];exact h2 _ (List.getElem_mem hq)
    ·rw [wW oQ];decide
   rw [xK,List.length_range] at this;exact this
  unfold mA;rw [cT (dT (by rw [tD];omega))];have key:=aEM N h2 hl hlt (fun x:aN=>dH (app 1 (uT (gr m l)) ([iH.wrap x.1]:List Int)) fun l4=>dH (some (aC.wrap (((8*m:Nat):Int)+8))) fun i3=>mA N (Dw l) kk aA (l4,i3)) 8 0 N oQ oQ;refine Eq.trans key ?_;rw [hg,Jk] at hih
  generalize num 2 ((gS 8).map fun t=>l.getD (8*m+t) 0)=v at *
  dsimp only
  rw [KO,Nat.mod_eq_of_lt hb,iQ (by rw [kL,hgl];simp;omega),aD,cM oQ,aD,show ((8*m:Nat):Int)+8=((8*(m+1):Nat):Int) by omega];exact hih
theorem WY (N:Nat) (l:List Nat) (h2:∀y∈l,y<2) (hl:l.length≤16777216) (hN:100≤N∧(l.length+7)/8<N):lI N (Dw l)=some ((gr ((l.length+7)/8) l).map nN):=by
 unfold lI
 have e1:aC.wrap (aC.wrap (gI ((Dw l).length:Int) 8)+1)=((l.length/8+1:Nat):Int):=by
  rw [tD,show gI (l.length:Int) 8=((l.length/8:Nat):Int) from rfl,cM (x:=((l.length/8:Nat):Int)) oQ,cM oQ]
  omega
 have aKW:mok 1 ((l.length/8+1:Nat):Int)=some ():=by unfold mok;rw [aF oQ]
 rw [e1,aKW,aD];have key:=aEN N hN.1 h2 hl (fun x:gL=>some (toB x.1)) ((l.length+7)/8) 0 N oQ oQ;refine Eq.trans key ?_
 dsimp only
 rw [Qg]
theorem aCh (N:Nat) (hN:100000≤N) {d:Nat} (hd:1≤d∧d≤16) {l:List Int} (hl:l.length≤4096) (hall:l.all (inD d)=true):qK N l (d:Int)=some ((JK d l).map nN):=by
 have hkb:l.length*d≤4096*16:=tM hl hd.2;unfold qK;have key:=aCg N hN hd hl hall (fun x:gL=>dH (lI N (toB x.1)) fun r5=>some r5) l.length 0 N oQ oQ;rw [Nat.zero_mul] at key;refine Eq.trans key ?_
 dsimp only
 rw [Vk,WY N _ (fun y hy=>FI aL _ _ y hy) (by rw [mO];omega) (by rw [mO];omega),aD,mO,aMK]
 rfl
theorem WZ:∀n:Fin 256,BJ .u8 ((n.val:Nat):Int) 1=((n.val%2:Nat):Int):=by decide +kernel
theorem aPl {b k:Nat} (hk:k≤8):jN .u8 (b:Int) (k:Int)=((b/2^k:Nat):Int):=by
 unfold jN
 have:min ((k:Int)).toNat iH.bits=k:=by
  rw [fM];exact Nat.min_eq_left hk
 rw [this,show (2:Int)^k=((2^k:Nat):Int) by simp,←Int.ofNat_fdiv]
def Eb (l:List Nat):List Nat:=l.map fun b=>48+b
theorem OQ (l m:List Nat):Eb (l++m)=Eb l++Eb m:=by simp [Eb]
theorem Ub (l:List Nat):(Eb l).map nN=Dw l:=by unfold Eb Dw;rw [List.map_map];rfl
theorem aKX (N:Nat) {s:aR} {i:Nat} (hi:i<s.length) (kk):∀(j aA:Nat) (out:List Int),j≤8→out.length+j≤140737488355328→j<aA →
  qJ N s (i:Int) kk aA (out,(j:Int)-1)=kk (out++uT (Eb (uS 2 j s[i].toNat)),-1):=by
 intro j
 induction j with
 | zero=>
  intro aA out _ _ hf;obtain ⟨aA,rfl⟩:=kF aA oQ;unfold qJ;rw [nL]
  simp [uS,Eb,uT]
 | succ j ih=>
  intro aA out hj ho hf;obtain ⟨aA,rfl⟩:=kF aA oQ;have hb:s[i].toNat<256:=s[i].toNat_lt;have e0:((j+1:Nat):Int)-1=(j:Int):=oQ
  generalize hbb:s[i].toNat=b at *
  have hlt:b/2^j<256:=Nat.lt_of_le_of_lt (Nat.div_le_self _ _) hb
  have e1:iH.wrap (48+BJ .u8 (jN .u8 (b:Int) (j:Int)) 1)=((48+b/2^j%2:Nat):Int):=by
   have:=WZ ⟨b/2^j,hlt⟩;rw [aPl oQ,this,show (48:Int)+((b/2^j%2:Nat):Int)=((48+b/2^j%2:Nat):Int) by omega,KO]
   omega
  have e2:uS 2 (j+1) b=[b/2^j%2]++uS 2 j b:=by rw [Nat.add_comm j 1,BS];rfl
  unfold qJ;rw [e0,p8,dC,f9 hi,aD,hbb,DL,aD,e1,iQ uW,aD,cM (x:=(j:Int)-1) oQ,aD];rw [ih aA (out++[((48+b/2^j%2:Nat):Int)]) oQ uW oQ,e2,OQ,Jk,pL]
  rfl
theorem aKY (N:Nat) (hN:100≤N) {s:aR} (hs:s.length≤16777216) (kk):∀(j k aA:Nat),k+j=s.length→j<aA →
  oE N s kk aA (uT (Eb (uS 2 (8*k) (JL s k))),(k:Int))=kk (uT (Eb (uS 2 (8*s.length) (JL s s.length))),(s.length:Int)):=by
 intro j
 induction j with
 | zero=>
  intro k aA hk hf;obtain ⟨aA,rfl⟩:=kF aA oQ;obtain rfl:k=s.length:=oQ
  unfold oE;rw [nL]
 | succ j ih=>
  intro k aA hk hf;obtain ⟨aA,rfl⟩:=kF aA oQ;have hlt:k<s.length:=oQ
  have hih:=ih (k+1) aA oQ oQ;rw [Ru hlt,Nat.mul_add,Nat.mul_one,←Np (show s[k].toNat<2^8 from s[k].toNat_lt),OQ,Jk] at hih;have gK:(uT (Eb (uS 2 (8*k) (JL s k)))).length=8*k:=by rw [kL];simp [Eb,mO]
  unfold oE;rw [p8];have key:=aKX N hlt (fun x:gL=>dH (some (aC.wrap ((k:Int)+1))) fun i3=>oE N s kk aA (x.1,i3)) 8 N (uT (Eb (uS 2 (8*k) (JL s k)))) oQ (by rw [gK];omega) oQ;refine Eq.trans key ?_
  dsimp only
  rw [aD,cM (x:=(k:Int)+1) oQ];exact hih
theorem aEO (N:Nat) {s:aR} (hs:s.length≤16777216) (hN:100≤N∧s.length<N):tI N s=some (Dw (uS 2 (8*s.length) (JL s s.length))):=by
 unfold tI;have aKW:mok 1 (aC.wrap (8*(s.length:Int)))=some ():=by unfold mok;rw [cM oQ,aF oQ]
 rw [aKW,aD];have key:=aKY N hN.1 hs (fun x:gL=>some (toB x.1)) s.length 0 N oQ oQ;refine Eq.trans key ?_
 dsimp only
 rw [Qg,Ub]
theorem aEP (N:Nat) {l:List Nat} (h2:∀y∈l,y<2) (hl:l.length≤60) (kk):∀(j k aA:Nat),k+j=l.length→j<aA →
  oP N (Dw l) kk aA (((num 2 (l.take k):Nat):Int),(k:Int))=kk (((num 2 l:Nat):Int),(l.length:Int)):=by
 intro j
 induction j with
 | zero=>
  intro k aA hk hf;obtain ⟨aA,rfl⟩:=kF aA oQ;obtain rfl:k=l.length:=oQ
  unfold oP;rw [cF (dF (by rw [tD];omega)),List.take_length]
 | succ j ih=>
  intro k aA hk hf;obtain ⟨aA,rfl⟩:=kF aA oQ;have hlt:k<l.length:=oQ
  have hih:=ih (k+1) aA oQ oQ;obtain ⟨g1,g2,g3⟩:=Qi hlt h2;have hg:l.getD k 0=l[k]:=by rw [qG,f9 hlt];rfl
  rw [List.take_succ_eq_append_getElem hlt,Fh,←hg] at hih
  have hv:num 2 (l.take k)<2^60:=by
   have:=B6 (B:=2) (l.take k) fun y hy=>h2 y (List.mem_of_mem_take hy)
   rw [yQ,Nat.min_eq_left oQ] at this;exact Nat.lt_of_lt_of_le this (Nat.pow_le_pow_right aL oQ)
  generalize num 2 (l.take k)=v at *
  generalize l.getD k 0=b at *
  have e1:iH.wrap (((48+b:Nat):Int)-48)=(b:Int):=by rw [show ((48+b:Nat):Int)-48=(b:Int) by omega,KO];omega
  unfold oP;rw [cT (dT (by rw [tD];omega)),g1,aD,g2,e1,cM (x:=2*(v:Int)) oQ,cM (x:=(b:Int)) oQ,cM (x:=2*(v:Int)+b) oQ,aD,cM (x:=(k:Int)+1) oQ,aD,show 2*(v:Int)+b=((v*2+b:Nat):Int) by omega];exact hih
theorem W1 {N:Nat} (hN:100≤N) {l:List Nat} (h2:∀y∈l,y<2) (hl:l.length≤60):pE N (Dw l)=some ((num 2 l:Nat):Int):=by
 unfold pE;exact aEP N h2 hl (fun x:aN=>some x.1) l.length 0 N oQ oQ
theorem aCi {T p d Y:Nat} (h:p+d≤T):((uS 2 T Y).take (p+d)).drop p=uS 2 d (Y/2^(T-p-d)):=by
 have e:uS 2 T Y=uS 2 p (Y/2^(d+(T-p-d)))++(uS 2 d (Y/2^(T-p-d))++uS 2 (T-p-d) Y):=by
  conv=>lhs;rw [show T=p+(d+(T-p-d)) by omega]
  rw [BS,BS 2 d]
 have l1:=mO 2 p (Y/2^(d+(T-p-d)));have l2:=mO 2 d (Y/2^(T-p-d));rw [e,←pL,List.take_append_of_le_length (by rw [kG];omega),List.take_of_length_le (by rw [kG];omega),List.drop_append_of_le_length oQ,List.drop_of_length_le oQ,List.nil_append]
theorem aHj (N:Nat) (hN:100≤N) {d n:Nat} (hd:1≤d∧d≤16) (hn:n≤4096) {T Y:Nat} (hT:n*d≤T) (hT2:T≤100000) (kk):∀(j k aA:Nat),k+j=n→j<aA →
  mC N (d:Int) (n:Int) (Dw (uS 2 T Y)) kk aA (uT (uS (2^d) k (Y/2^(T-d*k))),(k:Int))=kk (uT (uS (2^d) n (Y/2^(T-d*n))),(n:Int)):=by
 intro j
 induction j with
 | zero=>
  intro k aA hk hf;obtain ⟨aA,rfl⟩:=kF aA oQ;obtain rfl:k=n:=oQ
  unfold mC;rw [nL]
 | succ j ih=>
  intro k aA hk hf;obtain ⟨aA,rfl⟩:=kF aA oQ;have hlt:k<n:=oQ
  have hih:=ih (k+1) aA oQ oQ;have hk1:(k+1)*d≤n*d:=Nat.mul_le_mul_right d hlt;have hk2:(k+1)*d=k*d+d:=by rw [Nat.add_mul,Nat.one_mul]
  have hk3:d*(k+1)=k*d+d:=by rw [oA,hk2]
  have hk4:d*k=k*d:=oA _ _
  have eZ:uS (2^d) (k+1) (Y/2^(T-d*(k+1)))=uS (2^d) k (Y/2^(T-d*k))++[Y/2^(T-d*(k+1))%2^d]:=by
   show uS (2^d) k (Y/2^(T-d*(k+1))/2^d)++_=_;rw [Nat.div_div_eq_div_mul,←Nat.pow_add,show T-d*(k+1)+d=T-d*k by omega]
  rw [eZ,Jk] at hih;have e1:aC.wrap ((k:Int)*(d:Int))=((k*d:Nat):Int):=by rw [←vA,cM oQ]
  have e2:aC.wrap (aC.wrap ((k:Int)+1)*(d:Int))=((k*d+d:Nat):Int):=by
   rw [cM (x:=(k:Int)+1) oQ,show (k:Int)+1=((k+1:Nat):Int) by omega,←vA,cM oQ,hk2]
  have hsl:Fs (Dw (uS 2 T Y)) ((k*d:Nat):Int) ((k*d+d:Nat):Int)=some (Dw (uS 2 d (Y/2^(T-d*(k+1))))):=by
   rw [EE (by rw [tD,mO];omega),fM,fM];unfold Dw;rw [←List.map_take,←List.map_drop,aCi oQ,show T-k*d-d=T-d*(k+1) by omega]
  have hol:=kL (uS (2^d) k (Y/2^(T-d*k)));rw [mO] at hol;unfold mC;rw [p8,e1,e2,hsl,aD,W1 hN (fun y hy=>FI aL _ _ y hy) (by rw [mO];omega),aD,F2,iQ (by rw [hol];simp;omega),aD,aD,cM (x:=(k:Int)+1) oQ];exact hih
theorem Vl {d n:Nat} (s:aR):(uT (uY s d n)).all (inD d)=true:=by
 refine List.all_eq_true.2 fun y hy=>?_
 obtain ⟨e,he,rfl⟩:=List.mem_map.1 hy;have:=FI (Nat.two_pow_pos d) _ _ e he;exact decide_eq_true oQ
theorem z6 (N:Nat) (n lo hi:Int):aM N n lo hi=some (decide (lo≤n∧n≤hi)):=by
 unfold aM
 by_cases h1:lo≤n
 ·rw [cT (dT h1)];simp [h1]
 ·rw [cF (dF h1)];simp [h1]
theorem aHk {d n:Nat} (hd:1≤d∧d≤16) {s:aR} (hl:s.length=(n*d+7)/8) (h:(JK d (uT (uY s d n))).map nN=s):JL s s.length%2^(8*s.length-d*n)=0:=by
 have gK:(uT (uY s d n)).length=n:=by rw [kL];exact mO _ _ _
 obtain ⟨b1,b2⟩:=aEJ hd (Vl (d:=d) (n:=n) s);rw [h,gK,←hl] at b2;rw [b2];exact Nat.mul_mod_left _ _
theorem W2 (N:Nat) (hN:100000≤N) (s:aR) (hs:s.length≤9223372036854775807) (o p:Int):rZ N s o p=some (if f8 s o p=0 then (uT (uY s o.toNat p.toNat),0) else ([],f8 s o p)):=by
 unfold rZ;rw [z6,aD]
 by_cases h1:1≤o∧o≤16
 rotate_left
 ·have hpe:f8 s o p=3:=by unfold f8;rw [aF h1]
  rw [cT (by rw [dF h1];rfl),hpe];rfl
 have h1':¬ ¬(1≤o∧o≤16):=fun h=>h h1
 rw [cF (by rw [dT h1];rfl)]
 by_cases h2:p<0
 ·have hpe:f8 s o p=3:=by unfold f8;rw [aE h1',aF h2]
  rw [cT (dT h2),hpe];rfl
 rw [cF (dF h2)]
 by_cases h3:4096<p
 ·have hpe:f8 s o p=2:=by unfold f8;rw [aE h1',aE h2,aF h3]
  rw [cT (dT h3),hpe];rfl
 rw [cF (dF h3)];obtain ⟨d,rfl⟩:=sC (show 0≤o by omega);obtain ⟨n,rfl⟩:=sC (show 0≤p by omega);have hb:n*d≤4096*16:=tM oQ oQ
 have e1:aC.wrap (gI (aC.wrap (aC.wrap ((n:Int)*(d:Int))+7)) 8)=(((n*d+7)/8:Nat):Int):=by
  rw [←vA,cM (x:=((n*d:Nat):Int)) oQ,cM (x:=((n*d:Nat):Int)+7) oQ,show ((n*d:Nat):Int)+7=((n*d+7:Nat):Int) by omega,
   show gI ((n*d+7:Nat):Int) 8=(((n*d+7)/8:Nat):Int) from rfl,cM oQ]
 rw [e1]
 by_cases h4:s.length=(n*d+7)/8
 rotate_left
 ·have hpe:f8 s d n=1:=by unfold f8;rw [aE h1',aE h2,aE h3,fM,fM,aF h4]
  rw [cT (by rw [dF oQ];rfl),hpe];rfl
 rw [cF (by rw [dT oQ];rfl),aEO N oQ oQ,aD];have hd:1≤d∧d≤16:=oQ
 have key:=aHj N oQ hd (n:=n) oQ (T:=8*s.length) (Y:=JL s s.length) oQ oQ (fun x:gL=>
  dH (qK N x.1 (d:Int)) fun r7=>
  cond (!decide (r7=s)) (
  some (([]:List Int),1)) (
  some (x.1,0))) n 0 N oQ oQ
 refine Eq.trans key ?_;have gK:(uT (uY s d n)).length=n:=by rw [kL];exact mO _ _ _
 have hpk:=aCh N hN hd (l:=uT (uY s d n)) oQ (Vl s);unfold uY at hpk
 dsimp only
 rw [hpk,aD]
 by_cases h5:JL s s.length%2^(8*s.length-d*n)=0
 ·have hpe:f8 s d n=0:=by
   unfold f8;rw [aE h1',aE h2,aE h3,fM,fM,aE oQ,aE oQ]
  have hq:=(WW hd h4 oQ h5).2.1;unfold uY at hq;rw [cF (by rw [dT hq];rfl),hpe,aF rfl,fM,fM]
  rfl
 ·have hpe:f8 s d n=1:=by
   unfold f8;rw [aE h1',aE h2,aE h3,fM,fM,aE oQ,aF h5]
  have hq:¬(JK d (uT (uY s d n))).map nN=s:=fun h=>h5 (aHk hd h4 h)
  unfold uY at hq;rw [cT (by rw [dF hq];rfl),hpe];rfl
def D7 (b:aR):Bool:=b.all fun c=>decide (c=48∨c=49)
theorem aAT:∀b:aR,b.count 48+b.count 49≤b.length∧(b.count 48+b.count 49=b.length↔D7 b=true)
 | []=>by simp [D7]
 | c::b=>by
  obtain ⟨h1,h2⟩:=aAT b;have e:D7 (c::b)=(decide (c=48∨c=49)&&D7 b):=rfl;rw [e,List.count_cons,List.count_cons,List.length_cons]
  by_cases q:c=48
  ·subst q;have:((48:UInt8)==49)=false:=by decide
   rw [this,show decide ((48:UInt8)=48∨(48:UInt8)=49)=true by decide,tF,←h2,show ((48:UInt8)==48)=true by decide]
   constructor
   ·simp;omega
   ·simp;omega
  ·by_cases q2:c=49
   ·subst q2;have:((49:UInt8)==48)=false:=by decide
    rw [this,show decide ((49:UInt8)=48∨(49:UInt8)=49)=true by decide,tF,←h2,show ((49:UInt8)==49)=true by decide]
    constructor
    ·simp;omega
    ·simp;omega
   ·have q3:(c==48)=false:=by simpa using q
    have q4:(c==49)=false:=by simpa using q2
    rw [q3,q4,show decide (c=48∨c=49)=false from decide_eq_false (fun h=>h.elim q q2),Bool.false_and]
    constructor
    ·simp;omega
    ·simp;omega
theorem aI5 {p:UInt8→Bool}:∀l:aR,l.all p=true→l.dropWhile p=[]
 | [],_=>rfl
 | c::l,h=>by
  rw [tK,o9] at h;rw [List.dropWhile_cons,aF h.1];exact aI5 l h.2
theorem aCj {b:aR} (h:D7 b=true):Go.Lib.trimS b [48,49]=[]:=by
 have hp:b.all (fun c=>[(48:UInt8),49].contains c)=true:=by
  refine List.all_eq_true.2 fun c hc=>?_
  have:=bW (List.all_eq_true.1 h c hc)
  rcases this with rfl|rfl <;> decide
 have hr:b.reverse.all (fun c=>[(48:UInt8),49].contains c)=true:=by rw [List.all_reverse];exact hp
 unfold Go.Lib.trimS Go.Lib.trimRightS;rw [aI5 _ hr]
 rfl
theorem all_eq (N:Nat) {b:aR} (hb:b.length≤16777216):Ew N b=some (D7 b):=by
 have ht:AY N b [48,49]=some (Go.Lib.trimS b [48,49]):=by
  unfold AY;rw [aF ⟨by omega,by decide,by decide⟩]
 have h0:w9 N b [48]=some ((b.count 48:Nat):Int):=rfl;have h1:w9 N b [49]=some ((b.count 49:Nat):Int):=rfl;obtain ⟨c1,c2⟩:=aAT b;have hw:aC.wrap (((b.count 48:Nat):Int)+((b.count 49:Nat):Int))=((b.count 48+b.count 49:Nat):Int):=by rw [cM oQ];omega
 unfold Ew;rw [ht,aD,h0,aD,h1,aD,hw]
 by_cases h:D7 b=true
 ·rw [aCj h,cT rQ,h,dT (by have:=c2.2 h;omega)]
 ·have hne:¬(b.count 48+b.count 49=b.length):=fun q=>h (c2.1 q)
  have hf:D7 b=false:=by simpa using h
  rw [hf,dF (show ¬(((b.count 48+b.count 49:Nat):Int)=(b.length:Int)) by omega)]
  cases decide (Go.Lib.trimS b [48,49]=([]:aR)) <;> rfl
def jC (b:aR):List Nat:=b.map fun c=>c.toNat-48
theorem xL {b:aR} (h:D7 b=true):∀y∈jC b,y<2:=fun y hy=>by
 obtain ⟨c,hc,rfl⟩:=List.mem_map.1 hy
 rcases bW (List.all_eq_true.1 h c hc) with rfl|rfl <;> decide
theorem LD {b:aR} (h:D7 b=true):Dw (jC b)=b:=by
 unfold Dw jC;rw [List.map_map]
 conv=>rhs;rw [←List.map_id b]
 refine List.map_congr_left fun c hc=>?_
 rcases bW (List.all_eq_true.1 h c hc) with rfl|rfl <;> rfl
theorem aHl {h d e:Nat} (he:e<2^d) (hb:h*2^d+e<256):Ir .u8 ((h*2^d:Nat):Int) (e:Int)=((h*2^d+e:Nat):Int):=by
 unfold Ir;have hb':iH.bits=8:=rfl
 have e1:(BitVec.ofInt iH.bits ((h*2^d:Nat):Int) ||| BitVec.ofInt iH.bits (e:Int)).toNat=h*2^d+e:=by
  rw [BitVec.toNat_or,BitVec.ofInt_natCast,BitVec.ofInt_natCast,BitVec.toNat_ofNat,BitVec.toNat_ofNat,hb',Nat.mod_eq_of_lt (show h*2^d<2^8 by omega),Nat.mod_eq_of_lt (show e<2^8 by omega)];rw [oA h,Nat.two_pow_add_eq_or_of_lt he]
 rw [e1,KO,Nat.mod_eq_of_lt hb]
theorem aPm {b k:Nat} (hk:k≤8) (h:b*2^k<256):qF .u8 (b:Int) (k:Int)=((b*2^k:Nat):Int):=by
 unfold qF
 have:min ((k:Int)).toNat iH.bits=k:=by
  rw [fM];exact Nat.min_eq_left hk
 rw [this,show (2:Int)^k=((2^k:Nat):Int) by simp,←vA,KO,Nat.mod_eq_of_lt h]
theorem W4 (f:Nat→Nat):∀t r,(∀q,t≤q→f q=0)→num 2 ((gS (t+r)).map f)=num 2 ((gS t).map f)*2^r
 | t,0,_=>by simp
 | t,r+1,h=>by
  rw [←Nat.add_assoc,List.range_succ,List.map_append,List.map_singleton,Fh,W4 f t r h,h (t+r) oQ,Nat.add_zero,Nat.pow_succ,Nat.mul_assoc]
theorem aKZ {M k:Nat} {l:List Nat} (hk:k<l.length) (hM:k/8<M) :
  (gr M (l.take k)).getD (k/8) 0=num 2 ((gS (k%8)).map fun t=>l.getD (8*(k/8)+t) 0)*2^(8-k%8) ∧
  gr M (l.take (k+1))=(gr M (l.take k)).set (k/8) (num 2 ((gS (k%8)).map fun t=>l.getD (8*(k/8)+t) 0)*2^(8-k%8)+l.getD k 0*2^(7-k%8)):=by
 have hmod:k%8<8:=Nat.mod_lt _ aL;have hdm:8*(k/8)+k%8=k:=Nat.div_add_mod k 8
 have get:∀n i,(l.take n).getD i 0=if i<n then l.getD i 0 else 0:=fun n i=>by
  rw [qG,qG,List.getElem?_take]
  split <;> rfl
 have hval:∀n,8*(k/8)≤n→n≤8*(k/8)+8→num 2 ((gS 8).map fun t=>(l.take n).getD (8*(k/8)+t) 0)=num 2 ((gS (n-8*(k/8))).map fun t=>l.getD (8*(k/8)+t) 0)*2^(8-(n-8*(k/8))):=fun n h1 h2=>by
  have:=W4 (fun t=>(l.take n).getD (8*(k/8)+t) 0) (n-8*(k/8)) (8-(n-8*(k/8))) (fun q hq=>by rw [get,aE oQ]);rw [show n-8*(k/8)+(8-(n-8*(k/8)))=8 by omega] at this;rw [this]
  congr 2
  refine List.map_congr_left fun t ht=>?_
  have:=List.mem_range.1 ht;rw [get,aF oQ]
 have hv0:=hval k oQ oQ;have hv1:=hval (k+1) oQ oQ;rw [show k-8*(k/8)=k%8 by omega] at hv0;rw [show k+1-8*(k/8)=k%8+1 by omega,List.range_succ (n:=k%8),List.map_append,List.map_singleton,Fh,hdm,Nat.add_mul] at hv1
 have e2:num 2 ((gS (k%8)).map fun t=>l.getD (8*(k/8)+t) 0)*2*2^(8-(k%8+1))=num 2 ((gS (k%8)).map fun t=>l.getD (8*(k/8)+t) 0)*2^(8-k%8):=by
  rw [Nat.mul_assoc,show 8-k%8=8-(k%8+1)+1 by omega,Nat.pow_succ,oA 2]
 rw [e2,show 8-(k%8+1)=7-k%8 by omega] at hv1;have hgl:∀n,(gr M (l.take n)).length=M:=fun n=>by simp [gr]
 have hgg:∀n g,g<M→(gr M (l.take n))[g]? = some (num 2 ((gS 8).map fun t=>(l.take n).getD (8*g+t) 0)):=fun n g hg=>by
  unfold gr;rw [List.getElem?_map,List.getElem?_range hg];rfl
 constructor
 ·rw [qG,hgg k _ hM,hv0];rfl
 ·apply List.ext_getElem?
  intro g
  by_cases hg:g<M
  ·by_cases he:k/8=g
   ·subst he;rw [hgg _ _ hM,List.getElem?_set_self (by rw [hgl];exact hM),hv1]
   ·rw [List.getElem?_set_ne he,hgg _ _ hg,hgg _ _ hg]
    congr 2
    refine List.map_congr_left fun t ht=>?_
    have:=List.mem_range.1 ht;rw [get,get]
    by_cases q:8*g+t<k
    ·rw [aF oQ,aF q]
    ·rw [aE q,aE]
     omega
  ·rw [wW (by rw [hgl];omega),wW (by rw [List.length_set,hgl];omega)]
theorem Qj (l:List Nat) (i v:Nat):uT (l.set i v)=(uT l).set i (v:Int):=by simp [uT,List.map_set]
theorem Qk {l:List Nat} {i:Nat} (h:i<l.length):idx (uT l) (i:Int)=some ((l.getD i 0:Nat):Int):=by
 rw [dC,uT,List.getElem?_map,f9 h,qG,f9 h];rfl
theorem aCk (N:Nat) {l:List Nat} (h2:∀y∈l,y<2) (hl:l.length≤16777216) (kk):∀(j k aA:Nat),k+j=l.length→j<aA →
  xD N (Dw l) kk aA (uT (gr ((l.length+7)/8) (l.take k)),(k:Int))=kk (uT (gr ((l.length+7)/8) l),(l.length:Int)):=by
 intro j
 induction j with
 | zero=>
  intro k aA hk hf;obtain ⟨aA,rfl⟩:=kF aA oQ;obtain rfl:k=l.length:=oQ
  unfold xD;rw [cF (dF (by rw [tD];omega)),List.take_length]
 | succ j ih=>
  intro k aA hk hf;obtain ⟨aA,rfl⟩:=kF aA oQ;have hlt:k<l.length:=oQ
  have hih:=ih (k+1) aA oQ oQ;have hmod:k%8<8:=Nat.mod_lt _ aL;have hM:k/8<(l.length+7)/8:=oQ
  obtain ⟨s1,s2⟩:=aKZ (M:=(l.length+7)/8) hlt hM;obtain ⟨g1,g2,g3⟩:=Qi hlt h2;have hgl:(gr ((l.length+7)/8) (l.take k)).length=(l.length+7)/8:=by simp [gr]
  have hn:num 2 ((gS (k%8)).map fun t=>l.getD (8*(k/8)+t) 0)<2^(k%8):=by
   have:=B6 (B:=2) ((gS (k%8)).map fun t=>l.getD (8*(k/8)+t) 0) fun y hy=>by
    obtain ⟨q,_,rfl⟩:=List.mem_map.1 hy;rw [qG]
    by_cases hq:8*(k/8)+q<l.length
    ·rw [f9 hq];exact h2 _ (List.getElem_mem hq)
    ·rw [wW oQ];decide
   rwa [xK,List.length_range] at this
  rw [s2] at hih;have hold:=Qk (l:=gr ((l.length+7)/8) (l.take k)) (i:=k/8) oQ;rw [s1] at hold
  generalize gr ((l.length+7)/8) (l.take k)=G at *
  generalize num 2 ((gS (k%8)).map fun t=>l.getD (8*(k/8)+t) 0)=v at *
  generalize l.getD k 0=b at *
  have p1:2^(8-k%8)=2*2^(7-k%8):=by rw [show 8-k%8=7-k%8+1 by omega,Nat.pow_succ,oA]
  have p2:2^(7-k%8)≤128:=Nat.pow_le_pow_right (show 0<2 by decide) (show 7-k%8≤7 by omega)
  have p3:(v+1)*2^(8-k%8)≤256:=by
   have:=Nat.mul_le_mul_right (2^(8-k%8)) hn;rw [←Nat.pow_add,show k%8+(8-k%8)=8 by omega] at this;exact this
  have p0:=Nat.two_pow_pos (7-k%8)
  have p4:b*2^(7-k%8)<2^(8-k%8):=by
   have:=Nat.mul_le_mul_right (2^(7-k%8)) (show b≤1 by omega)
   omega
  rw [Nat.add_mul,Nat.one_mul] at p3;have ediv:aC.wrap (gI (k:Int) 8)=((k/8:Nat):Int):=by rw [show gI (k:Int) 8=((k/8:Nat):Int) from rfl,cM oQ]
  have aPn:aC.wrap (7-mN (k:Int) 8)=((7-k%8:Nat):Int):=by rw [show mN (k:Int) 8=((k%8:Nat):Int) from rfl,cM oQ];omega
  have eb:iH.wrap (((48+b:Nat):Int)-48)=(b:Int):=by rw [show ((48+b:Nat):Int)-48=(b:Int) by omega,KO];omega
  have eor:Ir .u8 ((v*2^(8-k%8):Nat):Int) (qF .u8 (b:Int) ((7-k%8:Nat):Int))=((v*2^(8-k%8)+b*2^(7-k%8):Nat):Int):=by rw [aPm oQ oQ,aHl p4 oQ]
  have hset:yO (uT G) ((k/8:Nat):Int) ((v*2^(8-k%8)+b*2^(7-k%8):Nat):Int)=some (uT (G.set (k/8) (v*2^(8-k%8)+b*2^(7-k%8)))):=by
   unfold yO;rw [aF (by rw [kL];omega),fM,Qj]
  unfold xD;rw [cT (dT (by rw [tD];omega)),ediv,aD,hold,aD,g1,aD,g2,aPn,DL,aD,aD,eb,eor,hset,aD,cM (x:=(k:Int)+1) oQ];exact hih
theorem aK0 (M:Nat):gr M []=nH M 0:=by
 unfold gr
 apply List.ext_getElem?
 intro g
 by_cases h:g<M
 ·rw [List.getElem?_map,List.getElem?_range h,List.getElem?_replicate,aF h];rfl
 ·rw [wW uW,wW uW]
theorem Zr (N:Nat) {b:aR} (hb:b.length≤16777216) (hN:b.length<N):BN N b=some (if D7 b=true then ((gr ((b.length+7)/8) (jC b)).map nN,0) else ([],1)):=by
 unfold BN;rw [all_eq N hb,aD]
 by_cases h:D7 b=true
 rotate_left
 ·have hf:D7 b=false:=by simpa using h
  rw [hf];rfl
 rw [h,cF rQ,aF rfl];have gK:(jC b).length=b.length:=by simp [jC]
 have e1:aC.wrap (gI (aC.wrap ((b.length:Int)+7)) 8)=(((b.length+7)/8:Nat):Int):=by
  rw [cM (x:=(b.length:Int)+7) oQ,show (b.length:Int)+7=((b.length+7:Nat):Int) by omega,show gI ((b.length+7:Nat):Int) 8=(((b.length+7)/8:Nat):Int) from rfl,cM oQ]
 rw [e1,aD,mk_eq oQ,aD,fM];have key:=aCk N (l:=jC b) (xL h) oQ (fun x:gL=>some (toB x.1,(0:Int))) (jC b).length 0 N oQ oQ;rw [List.take_zero,aK0,LD h,gK] at key;have hz:uT (nH ((b.length+7)/8) 0)=nH ((b.length+7)/8) 0:=by simp [uT]
 rw [hz] at key;refine Eq.trans key ?_
 dsimp only
 rw [Qg]
theorem aCl (N:Nat) {b:aR} (h:D7 b=true) (hb:b.length≤16777216) (hN:100≤N∧b.length<N):lI N b=some ((gr ((b.length+7)/8) (jC b)).map nN):=by
 have gK:(jC b).length=b.length:=by simp [jC]
 have:=WY N (jC b) (xL h) oQ oQ;rw [LD h,gK] at this;exact this
theorem aHm (N:Nat) {l:List Nat} (h2:∀y∈l,y<2) (hl:l.length≤16) (kk):∀(j k aA:Nat),k+j=l.length→j<aA →
  xE N (Dw l) kk aA (((num 2 (l.take k):Nat):Int),(k:Int))=kk (((num 2 l:Nat):Int),(l.length:Int)):=by
 intro j
 induction j with
 | zero=>
  intro k aA hk hf;obtain ⟨aA,rfl⟩:=kF aA oQ;obtain rfl:k=l.length:=oQ
  unfold xE;rw [cF (dF (by rw [tD];omega)),List.take_length]
 | succ j ih=>
  intro k aA hk hf;obtain ⟨aA,rfl⟩:=kF aA oQ;have hlt:k<l.length:=oQ
  have hih:=ih (k+1) aA oQ oQ;obtain ⟨g1,g2,g3⟩:=Qi hlt h2;have hg:l.getD k 0=l[k]:=by rw [qG,f9 hlt];rfl
  rw [List.take_succ_eq_append_getElem hlt,Fh,←hg] at hih
  have hv:num 2 (l.take k)<65536:=by
   have:=B6 (B:=2) (l.take k) fun y hy=>h2 y (List.mem_of_mem_take hy)
   rw [yQ,Nat.min_eq_left oQ] at this;exact Nat.lt_of_lt_of_le this (Nat.pow_le_pow_right (show 0<2 by decide) (show k≤16 by omega))
  generalize num 2 (l.take k)=v at *
  generalize l.getD k 0=b at *
  have e1:aC.wrap (BJ .u8 ((48+b:Nat):Int) 1)=(b:Int):=by
   have:=WZ ⟨48+b,by omega⟩;rw [this,show (48+b)%2=b by omega,cM oQ]
  have e2:qF .i64 (v:Int) 1=((v*2:Nat):Int):=F3 (k:=1) aL oQ;unfold xE;rw [cT (dT (by rw [tD];omega)),g1,aD,g2,e1,e2,show ((v*2:Nat):Int)+(b:Int)=((v*2+b:Nat):Int) by omega,cM (x:=((v*2+b:Nat):Int)) oQ,aD,cM (x:=(k:Int)+1) oQ];exact hih
theorem Zs (N:Nat) (hN:100≤N) {b:aR} (hb:b.length≤16777216):DE N b=some (if D7 b=true then (if b.length≤16 then (((num 2 (jC b):Nat):Int),0) else (0,3)) else (0,1)):=by
 unfold DE;rw [all_eq N hb,aD]
 by_cases h:D7 b=true
 rotate_left
 ·have hf:D7 b=false:=by simpa using h
  rw [hf];rfl
 rw [h,cF rQ,aF rfl]
 by_cases h3:b.length≤16
 rotate_left
 ·rw [p8,aE h3]
 rw [nL,aF h3];have gK:(jC b).length=b.length:=by simp [jC]
 have key:=aHm N (l:=jC b) (xL h) oQ (fun x:aN=>some (x.1,(0:Int))) (jC b).length 0 N oQ oQ;rw [LD h] at key;exact key
theorem aCm (N:Nat) (hN:100≤N) {b:aR} (h:D7 b=true) (hb:b.length≤16):pE N b=some ((num 2 (jC b):Nat):Int):=by
 have gK:(jC b).length=b.length:=by simp [jC]
 have:=W1 hN (l:=jC b) (xL h) oQ;rw [LD h] at this;exact this
theorem aHn {T k Y:Nat} (h:k<T):(uS 2 T Y)[k]? = some (Y/2^(T-1-k)%2):=by
 have e:uS 2 T Y=uS 2 k (Y/2^(1+(T-1-k)))++([Y/2^(T-1-k)%2]++uS 2 (T-1-k) Y):=by
  conv=>lhs;rw [show T=k+(1+(T-1-k)) by omega]
  rw [BS,BS 2 1]
  rfl
 rw [e,List.getElem?_append_right (by rw [mO];exact pK _),mO,Nat.sub_self]
 rfl
def PN (size n k:Nat):List Int:=uT (Eb ((uS 2 size n).take k)++nH (size-k) 0)
theorem aCn (N:Nat) {size n:Nat} (hs:size≤16) (hn:n<9223372036854775808) (kk):∀(j k aA:Nat),k+j=size→j<aA →
  vV N (n:Int) (size:Int) kk aA (PN size n k,(size:Int),(k:Int))=kk (PN size n size,(size:Int),(size:Int)):=by
 intro j
 induction j with
 | zero=>
  intro k aA hk hf;obtain ⟨aA,rfl⟩:=kF aA oQ;obtain rfl:k=size:=oQ
  unfold vV;rw [nL]
 | succ j ih=>
  intro k aA hk hf;obtain ⟨aA,rfl⟩:=kF aA oQ;have hlt:k<size:=oQ
  have hih:=ih (k+1) aA oQ oQ;have ew:aC.wrap (aC.wrap ((size:Int)-1)-(k:Int))=((size-1-k:Nat):Int):=by rw [cM (x:=(size:Int)-1) oQ,cM oQ];omega
  have eb:BJ .i64 (jN .i64 (n:Int) ((size-1-k:Nat):Int)) 1=((n/2^(size-1-k)%2:Nat):Int):=by
   rw [Qf oQ];exact WV (k:=1) (Nat.lt_of_le_of_lt (Nat.div_le_self _ _) hn) aL
  have hg:=aHn (Y:=n) hlt;have hb2:n/2^(size-1-k)%2<2:=Nat.mod_lt _ aL;have hl:=mO 2 size n
  generalize hbv:n/2^(size-1-k)%2=b at *
  have hc:idx ([48,49]:aR) (b:Int)=some (nN (48+b)):=by
   rcases (show b=0∨b=1 by omega) with rfl|rfl <;> rfl
  have hcn:((nN (48+b)).toNat:Int)=((48+b:Nat):Int):=by rw [UInt8.toNat_ofNat',Nat.mod_eq_of_lt oQ]
  have ht:(uS 2 size n).take (k+1)=(uS 2 size n).take k++[b]:=by
   rw [List.take_add_one,hg];rfl
  have hl1:(Eb ((uS 2 size n).take k)).length=k:=by simp [Eb,hl];omega
  have gK:(PN size n k).length=size:=by
   unfold PN;rw [kL,kG,hl1,List.length_replicate];omega
  have hget:∃e,idx (PN size n k) (k:Int)=some e:=by rw [dC];exact ⟨_,f9 oQ⟩
  obtain ⟨e,he⟩:=hget
  have hset:yO (PN size n k) (k:Int) ((48+b:Nat):Int)=some (PN size n (k+1)):=by
   unfold yO;rw [aF oQ,fM];unfold PN;rw [←Qj,ht,OQ,show size-k=(size-(k+1))+1 by omega,List.replicate_succ,pL]
   congr 2
   rw [List.set_append_right _ _ oQ,hl1,Nat.sub_self]
   rfl
  unfold vV;rw [p8,ew,DL,aD,eb,hc,aD,he,aD,hcn,hset,aD,cM (x:=(k:Int)+1) oQ];exact hih
theorem Uc (N:Nat) (hN:100≤N) {size n:Nat} (hs:size≤16) (hn:n<9223372036854775808):xU N (n:Int) (size:Int)=some (Dw (uS 2 size n)):=by
 unfold xU;rw [mk_eq oQ,aD,fM];have key:=aCn N hs hn (fun x:JI=>some (toB x.1)) size 0 N oQ oQ;have h0:PN size n 0=nH size 0:=by unfold PN;simp [Eb,uT]
 have h1:PN size n size=uT (Eb (uS 2 size n)):=by
  unfold PN;rw [Nat.sub_self,List.take_of_length_le (by rw [mO];exact pK _)];simp
 rw [h0,h1] at key;rw [List.length_replicate];refine Eq.trans key ?_
 dsimp only
 rw [Qg,Ub]
def Bz (n size:Int):Int:=if 0≤size∧size≤16 then (if 0≤n∧n<((2^size.toNat:Nat):Int) then 0 else 3) else 3
theorem Jl {d:Nat} (hd:d≤16):qF .i64 1 (d:Int)=((2^d:Nat):Int):=by
 have hp:=Fi hd;have:=F3 (h:=1) (k:=d) oQ oQ;rw [Nat.one_mul] at this;exact this
theorem W5 (N:Nat) (hN:100≤N) (n size:Int):tQ N n size=some (if Bz n size=0 then (Dw (uS 2 size.toNat n.toNat),0) else ([],3)):=by
 unfold tQ
 by_cases h1:size<0
 ·have:Bz n size=3:=by unfold Bz;rw [aE oQ]
  rw [cT (dT h1),this];rfl
 rw [cF (dF h1)]
 by_cases h2:16<size
 ·have:Bz n size=3:=by unfold Bz;rw [aE oQ]
  rw [cT (dT h2),this];rfl
 rw [cF (dF h2)];obtain ⟨d,rfl⟩:=sC (show 0≤size by omega);have hp:=Fi (d:=d) oQ
 by_cases h3:n<0
 ·have:Bz n d=3:=by unfold Bz;rw [aF oQ,aE oQ]
  rw [cT (dT h3),this];rfl
 rw [cF (dF h3),DL,aD,Jl oQ]
 by_cases h4:((2^d:Nat):Int)≤n
 ·have:Bz n d=3:=by unfold Bz;rw [aF oQ,fM,aE oQ]
  rw [cT (dT h4),this];rfl
 have hz:Bz n d=0:=by unfold Bz;rw [aF oQ,fM,aF oQ]
 obtain ⟨m,rfl⟩:=sC (show 0≤n by omega);rw [cF (dF h4),Uc N hN oQ oQ,aD,aF hz,fM,fM]
theorem Rw (N:Nat) (hN:100≤N) {n size:Int} (h:Bz n size=0):oF N n size=some (Dw (uS 2 size.toNat n.toNat)):=by
 unfold Bz at h
 by_cases h1:0≤size∧size≤16
 rotate_left
 ·rw [aE h1] at h;cases h
 rw [aF h1] at h;obtain ⟨d,rfl⟩:=sC h1.1;have hp:=Fi (d:=d) oQ
 by_cases h2:0≤n∧n<((2^(d:Int).toNat:Nat):Int)
 rotate_left
 ·rw [aE h2] at h;cases h
 rw [fM] at h2;obtain ⟨m,rfl⟩:=sC h2.1;rw [fM,fM];exact number_eq hN oQ oQ
theorem aHo (N:Nat) (hN:100≤N) {s:aR} (hs:s.length≤16777216) (kk):∀(j k aA:Nat),k+j=s.length→j<aA →
  yU N s kk aA (Dw (uS 2 (8*k) (JL s k)),(k:Int))=kk (Dw (uS 2 (8*s.length) (JL s s.length)),(s.length:Int)):=by
 intro j
 induction j with
 | zero=>
  intro k aA hk hf;obtain ⟨aA,rfl⟩:=kF aA oQ;obtain rfl:k=s.length:=oQ
  unfold yU;rw [nL]
 | succ j ih=>
  intro k aA hk hf;obtain ⟨aA,rfl⟩:=kF aA oQ;have hlt:k<s.length:=oQ
  have hb:s[k].toNat<256:=s[k].toNat_lt;have hih:=ih (k+1) aA oQ oQ;rw [Ru hlt,Nat.mul_add,Nat.mul_one,←Np (show s[k].toNat<2^8 from hb),Nn] at hih;have hd:xU N (s[k].toNat:Int) 8=some (Dw (uS 2 8 s[k].toNat)):=Uc N hN (size:=8) aL oQ
  have hbw:V5 (Dw (uS 2 (8*k) (JL s k))) (Dw (uS 2 8 s[k].toNat))=some (Dw (uS 2 (8*k) (JL s k))++Dw (uS 2 8 s[k].toNat)):=by
   unfold V5;rw [aF (by rw [tD,tD,mO,mO];omega)]
  unfold yU;rw [p8,dC,f9 hlt,aD,cM (x:=(s[k].toNat:Int)) oQ,hd,aD,hbw,aD,cM (x:=(k:Int)+1) oQ];exact hih
theorem aHp (N:Nat) {s:aR} (hs:s.length≤16777216) (hN:100≤N∧s.length<N):Bc N s=some (Dw (uS 2 (8*s.length) (JL s s.length))):=by
 unfold Bc;exact aHo N hN.1 hs (fun x:lC=>some x.1) s.length 0 N oQ oQ
def rm (n:Nat):Nat:=if 0<n then 2^(15-n) else 0
theorem aI6 (n:Nat):rm n≤16384:=by
 unfold rm
 split
 ·exact Nat.le_trans (Nat.pow_le_pow_right aL (show 15-n≤14 by omega)) aL
 ·omega
def LS (l:List Int):Nat:=(l.map fun e=>rm e.toNat).sum
theorem OR (e:Int) (l:List Int):LS (e::l)=rm e.toNat+LS l:=by simp [LS]
def L6 (e:Int):Bool:=decide (0≤e∧e≤15)
def oH (l:List Int):Int:=if l.length<1∨17<l.length then 2 else if l.all L6=true then (if LS l=0∨32768<LS l then 1 else 0) else 3
theorem aEQ {e:Int} (h:0<e) (h2:e≤15):qF .i64 1 (aC.wrap (15-e))=((rm e.toNat:Nat):Int)∧nn (aC.wrap (15-e))=some ():=by
 have h0:aC.wrap (15-e)=((15-e.toNat:Nat):Int):=by rw [cM oQ];omega
 rw [h0,Jl oQ,DL,rm,aF oQ];exact ⟨rfl,rfl⟩
theorem aER (N:Nat) {l:List Int} (hl:l.length≤17) (kk):∀(j k aA:Nat) (room:Int),k+j=l.length→j<aA→-1000000-16384*(k:Int)≤room∧room≤1000000 →
  u4 N l kk aA (room,(k:Int))=if (l.drop k).all L6=true then kk (room-(LS (l.drop k):Nat),(l.length:Int)) else some 3:=by
 intro j
 induction j with
 | zero=>
  intro k aA room hk hf hr;obtain ⟨aA,rfl⟩:=kF aA oQ;obtain rfl:k=l.length:=oQ
  unfold u4;rw [nL,List.drop_length,aF rQ,show LS ([]:List Int)=0 by rfl]
  simp
 | succ j ih=>
  intro k aA room hk hf hr;obtain ⟨aA,rfl⟩:=kF aA oQ;have hlt:k<l.length:=oQ
  have hnx:aC.wrap ((k:Int)+1)=((k+1:Nat):Int):=by rw [cM oQ];rfl
  rw [zC hlt,tK,OR];unfold u4;rw [p8,dC,f9 hlt,aD]
  by_cases h0:l[k]<0
  ·rw [cT (dT h0),aE];rw [show L6 l[k]=false from dF oQ];simp
  ·rw [cF (dF h0)]
   by_cases h1:15<l[k]
   ·rw [cT (dT h1),aE];rw [show L6 l[k]=false from dF oQ];simp
   ·rw [cF (dF h1),show L6 l[k]=true from dT oQ,tF]
    by_cases h2:0<l[k]
    ·obtain ⟨e1,e2⟩:=aEQ h2 oQ;have hr2:=aI6 l[k].toNat;rw [cT (dT h2),e2,aD,aD,e1,cM (x:=room-_) oQ,hnx,ih (k+1) aA _ oQ oQ oQ]
     congr 2
     rw [Prod.mk.injEq];exact ⟨by omega,rfl⟩
    ·rw [cF (dF h2),hnx,ih (k+1) aA _ oQ oQ oQ,show rm l[k].toNat=0 by rw [rm,aE oQ],Nat.zero_add]
theorem Jm (N:Nat) (hN:100≤N) (l:List Int):zU N l=some (oH l):=by
 unfold zU oH
 by_cases h1:l.length<1
 ·rw [p8,aF (.inl h1)]
 rw [nL]
 by_cases h2:17<l.length
 ·rw [p8,aF (.inr h2)]
 rw [nL,aE oQ];have key:=aER N (l:=l) oQ (fun (Tz,i2)=>cond (decide (Tz<0)) (some 1) (cond (decide (Tz=32768)) (some 1) (some 0))) l.length 0 N 32768 oQ oQ oQ;rw [List.drop_zero] at key;refine Eq.trans key ?_
 by_cases h3:l.all L6=true
 ·rw [aF h3,aF h3]
  dsimp only
  by_cases h4:32768<LS l
  ·rw [p8,aF (.inr h4)]
  ·rw [nL]
   by_cases h5:LS l=0
   ·rw [p8,aF (.inl h5)]
   ·rw [nL,aE oQ]
 ·rw [aE h3,aE h3]
theorem W6 (N:Nat) {l:List Int} (hl:l.length≤17) (kk):∀(j k aA:Nat) (sum:Nat) (used:Bool),k+j=l.length→j<aA→sum≤1000000+16384*k →
  jT N l kk aA ((sum:Int),used,(k:Int))=if (l.drop k).all L6=true then kk (((sum+LS (l.drop k):Nat):Int),used||decide (0<LS (l.drop k)),(l.length:Int)) else some 3:=by
 intro j
 induction j with
 | zero=>
  intro k aA sum used hk hf hr;obtain ⟨aA,rfl⟩:=kF aA oQ;obtain rfl:k=l.length:=oQ
  unfold jT;rw [nL,List.drop_length,aF rQ,show LS ([]:List Int)=0 by rfl]
  simp
 | succ j ih=>
  intro k aA sum used hk hf hr;obtain ⟨aA,rfl⟩:=kF aA oQ;have hlt:k<l.length:=oQ
  have hnx:aC.wrap ((k:Int)+1)=((k+1:Nat):Int):=by rw [cM oQ];rfl
  rw [zC hlt,tK,OR];unfold jT;rw [p8,dC,f9 hlt,aD,z6,aD]
  by_cases h0:0≤l[k]∧l[k]≤15
  ·rw [show L6 l[k]=true from dT h0,cF (by rw [dT h0];rfl),aD,tF]
   by_cases h2:0<l[k]
   ·obtain ⟨e1,e2⟩:=aEQ h2 oQ;have hr2:=aI6 l[k].toNat;have hpos:0<rm l[k].toNat:=by rw [rm,aF oQ];exact Nat.two_pow_pos _
    rw [cT (dT h2),aD,e2,aD,aD,e1,hnx,aD,cM (x:=(sum:Int)+_) oQ,show ((sum:Int)+(rm l[k].toNat:Nat))=((sum+rm l[k].toNat:Nat):Int) by omega,ih (k+1) aA _ _ oQ oQ oQ];rw [Bool.true_or,dT (show 0<rm l[k].toNat+LS (l.drop (k+1)) by omega),Bool.or_true,Nat.add_assoc]
   ·rw [cF (dF h2),hnx,aD,ih (k+1) aA _ _ oQ oQ oQ,show rm l[k].toNat=0 by rw [rm,aE oQ],Nat.zero_add]
  ·rw [show L6 l[k]=false from dF h0,cT (by rw [dF h0];rfl),aE sQ]
theorem OS (N:Nat) (hN:100≤N) (l:List Int):j1 N l=some (oH l):=by
 unfold j1 oH;rw [z6,aD]
 by_cases h1:l.length<1∨17<l.length
 ·rw [cT (by rw [dF oQ];rfl),aF h1]
 rw [cF (by rw [dT oQ];rfl),aE h1];have key:=W6 N (l:=l) oQ (fun (aGq,aAr,i6)=>cond (!(aAr)) (some 1) (cond (decide (32768<aGq)) (some 1) (some 0))) l.length 0 N 0 false oQ oQ oQ;rw [List.drop_zero] at key;refine Eq.trans key ?_
 by_cases h3:l.all L6=true
 ·rw [aF h3,aF h3]
  dsimp only
  rw [Bool.false_or]
  by_cases h5:LS l=0
  ·rw [cT (by rw [dF oQ];rfl),aF (.inl h5)]
  ·rw [cF (by rw [dT oQ];rfl)]
   by_cases h4:32768<LS l
   ·rw [p8,aF (.inr h4)]
   ·rw [nL,aE oQ]
 ·rw [aE h3,aE h3]
end
end Go.Proofs.YtpmnfhifmmfgladGreatDoor
