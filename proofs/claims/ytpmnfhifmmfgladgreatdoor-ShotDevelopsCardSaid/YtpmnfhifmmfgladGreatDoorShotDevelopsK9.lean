/- Parts of the proof. -/
import Derived.KernelRfl
import Derived.Laws.BytesArg
import Derived.Laws.CopyRow
import Derived.Laws.IdiomCopy
import Derived.Laws.Strings2
import Derived.Laws.Strings3
import Derived.Lib.AppendStr
import Derived.Lib.AtoiAllCases
import Derived.Lib.SliceRun
import Derived.LoopN
import Derived.Maps.OwnSet
import Derived.WalkSpells
import Derived.WideMake
import Derived.Test.YtpmnfhifmmfgladGreatDoorShotDevelopsK4
import Derived.Test.YtpmnfhifmmfgladGreatDoorShotDevelopsK6
import Derived.Test.YtpmnfhifmmfgladGreatDoorShotDevelopsK7
import Derived.Test.YtpmnfhifmmfgladGreatDoorShotDevelopsK8
set_option linter.unusedVariables false
set_option linter.unusedSimpArgs false
set_option linter.unusedSectionVars false
set_option maxRecDepth 100000
set_option maxHeartbeats 8000000
open Bool renaming and_eq_true→o9,true_and→tF
open Go.IntKind renaming i64→aC,u8→iH
open Int renaming toNat_natCast→fM,tdiv→gI,tmod→mN,eq_ofNat_of_zero_le→sC,natCast_mul→vA
open List renaming getElem?_eq_getElem→f9,range→gS,getD_eq_getElem?_getD→qG,length_append→kG,replicate→nH,append_assoc→pL,all_cons→tK,append_nil→v4,length_map→xK,drop_eq_getElem_cons→zC
open Nat renaming le_refl→pK,mul_le_mul→tM
open Option renaming bind→dH
open UInt8 renaming ofNat→nN
namespace Go.Proofs.YtpmnfhifmmfgladGreatDoor
section
open Go
def stripR (W D K:Int) (Ls:List Int) (rows:Int) (s:aR):Option (List Int):=
 if K=0 then (if f8 s D (W*rows)=0 then some (uT (uY s D.toNat (W*rows).toNat)) else none)
 else if (uU s W rows K Ls).2.2.2=0∧(uU s W rows K Ls).2.2.1.all (fun e=>decide (e<((2^D.toNat:Nat):Int)))=true then some (uU s W rows K Ls).2.2.1 else none
theorem O1 {s:aR} {W H kind:Int} {c:List Int} (h:(uU s W H kind c).2.2.2=0):(1≤W∧W≤64)∧(1≤H∧H≤64)∧(uU s W H kind c).1=W∧(uU s W H kind c).2.1=H∧(uU s W H kind c).2.2.1.length=W.toNat*H.toNat∧∀e∈(uU s W H kind c).2.2.1,0≤e∧e≤65535:=by
 unfold uU at h ⊢
 by_cases h1:1≤W∧W≤64
 rotate_left
 ·rw [aF h1] at h;cases h
 rw [aE oQ] at h ⊢
 by_cases h2:1≤H∧H≤64
 rotate_left
 ·rw [aF h2] at h;cases h
 rw [aE oQ] at h ⊢
 by_cases h3:1≤kind∧kind≤7
 rotate_left
 ·rw [aF h3] at h;cases h
 rw [aE oQ] at h ⊢
 by_cases h7:oH c=0
 rotate_left
 ·rw [aF h7] at h;exact absurd h h7
 rw [aE oQ] at h ⊢
 have hWl:(dL c).length≤17:=by
  rw [zQ h7];obtain ⟨ns,rfl,_,_,Xb,_⟩:=DM h7;rw [kL];exact Xb
 rcases hr:PO (dL c) W.toNat kind (W.toNat*H.toNat) [] (uC s) with _|⟨P2,R2⟩
 ·rw [hr] at h;cases h
 rw [hr] at h;dsimp only at h ⊢
 by_cases hz:R2.length≤7∧R2=nH R2.length 48
 rotate_left
 ·rw [aE hz] at h;cases h
 rw [aF hz];obtain ⟨q1,q2,q3,q4,q5⟩:=RE (nG c) hWl oQ _ _ _ [] _ _ (DO s) sQ rfl hr;rw [List.length_nil,Nat.zero_add] at q1;exact ⟨h1,h2,rfl,rfl,q1,q2⟩
section
variable (W H D K R:Int) (Ls:List Int) (St:List aR) (ph b0 b1 b2 b3 w:Int) (sp:List aN) (g0 g1 g2 m0 m1 m2 m3 m4 m5 m6 m7 m8:Int) (cv:List aN) (am:Int)
theorem aHR {s:aR} {o p:Int} (h:f8 s o p=0):(uT (uY s o.toNat p.toNat)).length=p.toNat:=by
 obtain ⟨d,n,rfl,rfl,h1,h2,h3,h4⟩:=KU h;rw [kL,fM,fM];unfold uY;exact mO _ _ _
theorem O2 {W D K rows:Int} {Ls:List Int} {s:aR} {l:List Int} (hW:1≤W∧W≤64) (hr:1≤rows∧rows≤64) (h:stripR W D K Ls rows s=some l):l.length=W.toNat*rows.toNat:=by
 unfold stripR at h
 split at h
 ·split at h
  ·rename_i hh
   injection h with h
   subst h;rw [aHR hh];obtain ⟨w',rfl⟩:=sC (show 0≤W by omega);obtain ⟨r',rfl⟩:=sC (show 0≤rows by omega)
   rfl
  ·cases h
 ·split at h
  ·rename_i hh
   injection h with h
   subst h;exact (O1 hh.1).2.2.2.2.1
  ·cases h
theorem VA (N:Nat) (hN:200000≤N) {W D rows:Int} (hW:1≤W∧W≤64) (hD:1≤D∧D≤16) (hr:1≤rows∧rows≤64) {s:aR} (hs:s.length≤9223372036854775807) :
  ∃l e,Cm N W H D K R Ls St ph b0 b1 b2 b3 w sp g0 g1 g2 m0 m1 m2 m3 m4 m5 m6 m7 m8 cv am s rows=some (l,e)∧((e=0∧stripR W D K Ls rows s=some l)∨(e≠0∧stripR W D K Ls rows s=none)):=by
 obtain ⟨w',rfl⟩:=sC (show 0≤W by omega);obtain ⟨r',rfl⟩:=sC (show 0≤rows by omega);obtain ⟨d,rfl⟩:=sC (show 0≤D by omega);have hm:=tM (show w'≤64 by omega) (show r'≤64 by omega);have hwr:aC.wrap ((w':Int)*(r':Int))=(w':Int)*(r':Int):=by rw [show (w':Int)*(r':Int)=((w'*r':Nat):Int) by simp,cM oQ]
 unfold Cm stripR
 by_cases hK:K=0
 ·rw [cT (dT hK),aF hK,hwr,aCe N oQ s hs,aD]
  by_cases he:f8 s (d:Int) ((w':Int)*(r':Int))=0
  ·rw [aF he,aF he];exact ⟨_,_,rfl,.inl ⟨rfl,rfl⟩⟩
  ·rw [aE he,aE he];exact ⟨_,_,rfl,.inr ⟨he,rfl⟩⟩
 rw [cF (dF hK),aE hK,SQ N hN,aD]
 by_cases he:(uU s (w':Int) (r':Int) K Ls).2.2.2=0
 rotate_left
 ·rw [cF (dF he),aE (fun q=>he q.1)];exact ⟨_,_,rfl,.inr ⟨he,rfl⟩⟩
 obtain ⟨_,_,_,_,hl,hP⟩:=O1 he;rw [fM,fM] at hl;have hpos:1≤w'*r':=Nat.mul_pos oQ oQ;obtain ⟨M,e1,e2⟩:=max_eq N (l:=(uU s (w':Int) (r':Int) K Ls).2.2.1) oQ oQ oQ
 generalize (uU s (w':Int) (r':Int) K Ls).2.2.1=P at *
 rw [cT (dT he),e1,aD,DL,aD,fM];obtain ⟨x0,hx0⟩:∃x,x∈P:=⟨P[0],List.getElem_mem oQ⟩
 have hM0:0≤M:=by
  have:=(e2 M).1 (Int.le_refl _) x0 hx0;have:=(hP x0 hx0).1
  omega
 obtain ⟨m,rfl⟩:=sC hM0;have hp2:=Nat.two_pow_pos d
 have hsh:(0<((m/2^d:Nat):Int))↔P.all (fun e=>decide (e<((2^d:Nat):Int)))=false:=by
  have h6:=e2 (((2^d:Nat):Int)-1);have h7:(0<m/2^d)↔2^d≤m:=Nat.div_pos_iff.trans ⟨fun q=>q.2,fun q=>⟨hp2,q⟩⟩
  constructor
  ·intro q;rw [Bool.eq_false_iff];intro q2;rw [List.all_eq_true] at q2;have:=h6.2 fun e he=>by have:=bW (q2 e he);omega
   have:=h7.1 oQ
   omega
  ·intro q
   have:¬m<2^d:=fun q2=>by
    have:=h6.1 oQ;rw [Bool.eq_false_iff] at q;exact q (List.all_eq_true.2 fun e he=>decide_eq_true (by have:=this e he;omega))
   have:=h7.2 oQ
   omega
 rw [Qf oQ]
 by_cases h6:P.all (fun e=>decide (e<((2^d:Nat):Int)))=false
 ·rw [cT (decide_eq_true (hsh.2 h6)),aE (fun q=>by rw [h6] at q;exact absurd q.2 aL)];exact ⟨_,_,rfl,.inr ⟨by decide,rfl⟩⟩
 ·rw [cF (decide_eq_false (fun q=>h6 (hsh.1 q))),aF ⟨he,(Bool.not_eq_false _).mp h6⟩];exact ⟨_,_,rfl,.inl ⟨he,rfl⟩⟩
def BA (W D K:Int) (Ls:List Int) (H R:Nat):Nat→List aR→List Int→Option (List Int)
 | _,[],acc=>some acc
 | i,s::t,acc=>match stripR W D K Ls ((zR H R i:Nat):Int) s with
  | none=>none
  | some l=>BA W D K Ls H R (i+1) t (acc++l)
theorem Qp {H R i:Nat} (hR:1≤R∧R≤H) (hH:H≤64) (hi:i<EH H R):1≤((zR H R i:Nat):Int)∧((zR H R i:Nat):Int)≤64:=by
 have:=(cnt_lt (H:=H) (i:=i) hR.1).1 hi;unfold zR
 omega
theorem SR (N:Nat) (hN:200000≤N) {w' h r d:Nat} (hW:1≤w'∧w'≤64) (hH:1≤h∧h≤64) (hR:1≤r∧r≤h) (hd:1≤d∧d≤16) (hs:∀y∈St,y.length≤9223372036854775807) (hl:St.length=EH h r) (kk) :
  ∀(j k aA:Nat) (acc:List Int),k+j=St.length→j<aA→acc.length≤4096*k →
  yV N (w':Int) (h:Int) (d:Int) K (r:Int) Ls St ph b0 b1 b2 b3 w sp g0 g1 g2 m0 m1 m2 m3 m4 m5 m6 m7 m8 cv am ((gS (EH h r)).map fun i=>(((i*r:Nat):Int),((zR h r i:Nat):Int))) kk aA (acc,(k:Int))=match BA (w':Int) (d:Int) K Ls h r k (St.drop k) acc with
   | none=>some (0,0,[],1)
   | some P=>kk (P,(St.length:Int)):=by
 have hcl:=KV (H:=h) (R:=r) hR.1 hH.1;intro j
 induction j with
 | zero=>
  intro k aA acc hk hf ha;obtain ⟨aA,rfl⟩:=kF aA oQ;unfold yV;rw [nL,List.drop_of_length_le oQ,show k=St.length by omega]
  rfl
 | succ j ih=>
  intro k aA acc hk hf ha;obtain ⟨aA,rfl⟩:=kF aA oQ;have hlt:k<St.length:=oQ
  have JH:=Qp (i:=k) hR hH.2 oQ;have hnx:aC.wrap ((k:Int)+1)=((k+1:Nat):Int):=by rw [cM oQ];rfl
  have hm:=tM hW.2 (show zR h r k≤64 by omega);unfold yV;rw [p8,dC,f9 hlt,aD,dC,List.getElem?_map,List.getElem?_range oQ];show dH (some _) _=_;rw [aD]
  dsimp only
  obtain ⟨l,e,q1,q2⟩:=VA (h:Int) K (r:Int) Ls St ph b0 b1 b2 b3 w sp g0 g1 g2 m0 m1 m2 m3 m4 m5 m6 m7 m8 cv am N hN (W:=(w':Int)) (D:=(d:Int)) oQ oQ JH (hs St[k] (List.getElem_mem hlt));rw [q1,aD,zC hlt];unfold BA
  rcases q2 with ⟨rfl,q2⟩|⟨q3,q2⟩
  ·have hll:=O2 oQ JH q2;rw [fM,fM] at hll;rw [q2,cF rQ]
   dsimp only
   rw [iQ oQ,aD,hnx];exact ih (k+1) aA _ oQ oQ (by rw [kG];omega)
  ·rw [q2,cT (by rw [dF q3];rfl)]
def BB (f:Bool):pW:=
 if AL W H D K R Ls≠0 then (0,0,[],AL W H D K R Ls) else if St.length≠EH H.toNat R.toNat then (0,0,[],2) else
 if O0 W H ph b0 b1 b2 b3 w sp g0 g1 g2 m0 m1 m2 m3 m4 m5 m6 m7 m8 am f≠0 then (0,0,[],O0 W H ph b0 b1 b2 b3 w sp g0 g1 g2 m0 m1 m2 m3 m4 m5 m6 m7 m8 am f) else
 match BA W D K Ls H.toNat R.toNat 0 St [] with
 | none=>(0,0,[],1)
 | some P=>(W,H,P,0)
theorem Xh (N:Nat) (hN:5000≤N) {k' r:Nat} (hr:1≤r∧r≤k') (hk:1≤k'∧k'≤64):DC N W (k':Int) D K (r:Int) Ls St ph b0 b1 b2 b3 w sp g0 g1 g2 m0 m1 m2 m3 m4 m5 m6 m7 m8 cv am=some ((gS (EH k' r)).map fun i=>(((i*r:Nat):Int),((zR k' r i:Nat):Int))):=by
 have hcn:=KV (H:=k') (R:=r) hr.1 hk.1;have:=ZB N hr hk.2 (fun (l6,y5)=>some l6) (EH k' r) 0 N oQ oQ;rw [Nat.zero_mul] at this;exact this
theorem RH {f:Bool} (hb:jP 8589934592 cv=some f) (hc:f=true↔pU cv) (hs:∀y∈St,y.length≤9223372036854775807):Dl 8589934592 W H D K R Ls St ph b0 b1 b2 b3 w sp g0 g1 g2 m0 m1 m2 m3 m4 m5 m6 m7 m8 cv am=some (BB W H D K R Ls St ph b0 b1 b2 b3 w sp g0 g1 g2 m0 m1 m2 m3 m4 m5 m6 m7 m8 am f):=by
 unfold Dl BB;rw [aCv W H D K R Ls St ph b0 b1 b2 b3 w sp g0 g1 g2 m0 m1 m2 m3 m4 m5 m6 m7 m8 cv am 8589934592 aL,aD]
 by_cases h1:AL W H D K R Ls=0
 rotate_left
 ·rw [cT (by rw [decide_eq_false h1];rfl),aF h1]
 obtain ⟨q1,q2,q3,q4⟩:=Ns W H D K R Ls h1;rw [cF (by rw [decide_eq_true h1];rfl),aE (fun q=>q h1)];unfold EG at q1;obtain ⟨w',rfl⟩:=sC (show 0≤W by omega);obtain ⟨k',rfl⟩:=sC (show 0≤H by omega);obtain ⟨d,rfl⟩:=sC (show 0≤D by omega);obtain ⟨r,rfl⟩:=sC (show 0≤R by omega);rw [Xh _ _ K Ls St ph b0 b1 b2 b3 w sp g0 g1 g2 m0 m1 m2 m3 m4 m5 m6 m7 m8 cv am 8589934592 aL oQ oQ,aD,xK,List.length_range,fM,fM]
 by_cases h2:St.length=EH k' r
 rotate_left
 ·rw [cT (by rw [dF oQ];rfl),aF h2]
 rw [cF (by rw [dT oQ];rfl),aE (fun q=>q h2),aCw _ _ _ K _ Ls St ph b0 b1 b2 b3 w sp g0 g1 g2 m0 m1 m2 m3 m4 m5 m6 m7 m8 cv am hb hc,aD]
 by_cases h3:O0 (w':Int) (k':Int) ph b0 b1 b2 b3 w sp g0 g1 g2 m0 m1 m2 m3 m4 m5 m6 m7 m8 am f=0
 rotate_left
 ·rw [cT (by rw [decide_eq_false h3];rfl),aF h3]
 rw [cF (by rw [decide_eq_true h3];rfl),aE (fun q=>q h3)];have hcn:=KV (H:=k') (R:=r) oQ oQ;have key:=SR K Ls St ph b0 b1 b2 b3 w sp g0 g1 g2 m0 m1 m2 m3 m4 m5 m6 m7 m8 cv am 8589934592 aL (w':=w') (h:=k') (r:=r) (d:=d) oQ oQ oQ oQ hs h2 (fun (sZ,i2)=>some ((w':Int),(k':Int),sZ,(0:Int))) St.length 0 8589934592 [] oQ oQ sQ;rw [List.drop_zero] at key;refine Eq.trans key ?_
 cases BA (w':Int) (d:Int) K Ls k' r 0 St [] <;> rfl
theorem aCy (N:Nat) (hN:200000≤N) {W D:Int} (hW:1≤W∧W≤64) (hD:1≤D∧D≤16) {h r k:Nat} (hH:1≤h∧h≤64) (hR:1≤r∧r≤h) (hk:k<EH h r) (hlt:k<St.length) (hs:St[k].length≤9223372036854775807) :
  ∃l b,uN N W (h:Int) D K (r:Int) Ls St ph b0 b1 b2 b3 w sp g0 g1 g2 m0 m1 m2 m3 m4 m5 m6 m7 m8 cv am (k:Int)=some (l,b)∧((b=true∧stripR W D K Ls ((zR h r k:Nat):Int) St[k]=some l)∨(b=false∧stripR W D K Ls ((zR h r k:Nat):Int) St[k]=none)):=by
 obtain ⟨w',rfl⟩:=sC (show 0≤W by omega);obtain ⟨d,rfl⟩:=sC (show 0≤D by omega);have JH:=Qp (i:=k) hR hH.2 hk;have hkR:=(cnt_lt (H:=h) (i:=k) hR.1).1 hk;have hm:=tM (show w'≤64 by omega) (show zR h r k≤64 by omega);have hwr:aC.wrap ((w':Int)*((zR h r k:Nat):Int))=(w':Int)*((zR h r k:Nat):Int):=by rw [show (w':Int)*((zR h r k:Nat):Int)=((w'*zR h r k:Nat):Int) by simp,cM oQ]
 have e0:aC.wrap ((k:Int)*(r:Int))=((k*r:Nat):Int):=by rw [show (k:Int)*(r:Int)=((k*r:Nat):Int) by simp,cM oQ]
 have er:min (r:Int) (aC.wrap ((h:Int)-((k*r:Nat):Int)))=((zR h r k:Nat):Int):=by
  rw [cM oQ];unfold zR;omega
 unfold uN wL stripR;rw [e0,er,aD]
 by_cases hK:K=0
 ·rw [cT (dT hK),aF hK,dC,f9 hlt,aD,hwr,W2 N oQ _ hs,aD]
  by_cases he:f8 St[k] (d:Int) ((w':Int)*((zR h r k:Nat):Int))=0
  ·rw [aF he,aF he];exact ⟨_,_,rfl,.inl ⟨rfl,rfl⟩⟩
  ·rw [aE he,aE he];exact ⟨_,_,rfl,.inr ⟨dF he,rfl⟩⟩
 rw [cF (dF hK),aE hK,dC,f9 hlt,aD,Vy N hN,aD]
 by_cases he:(uU St[k] (w':Int) ((zR h r k:Nat):Int) K Ls).2.2.2=0
 rotate_left
 ·rw [cF (dF he),aE (fun q=>he q.1)];exact ⟨_,_,rfl,.inr ⟨rfl,rfl⟩⟩
 have hl:=RG St[k] (w':Int) ((zR h r k:Nat):Int) K Ls;rw [cT (dT he),aHP N oQ hl oQ,aD,fM]
 by_cases h6:(uU St[k] (w':Int) ((zR h r k:Nat):Int) K Ls).2.2.1.all (fun e=>decide (e<((2^d:Nat):Int)))=true
 ·rw [aF ⟨he,h6⟩];exact ⟨_,_,rfl,.inl ⟨h6,rfl⟩⟩
 ·rw [aE (fun q=>h6 q.2)];exact ⟨_,_,rfl,.inr ⟨(Bool.not_eq_true _).mp h6,rfl⟩⟩
theorem VB (N:Nat) (hN:200000≤N) {w' h r d:Nat} (hW:1≤w'∧w'≤64) (hH:1≤h∧h≤64) (hR:1≤r∧r≤h) (hd:1≤d∧d≤16) (hs:∀y∈St,y.length≤9223372036854775807) (hl:St.length=EH h r) (kk) :
  ∀(j k aA:Nat) (acc:List Int),k+j=St.length→j<aA→acc.length≤4096*k →
  mD N (w':Int) (h:Int) (d:Int) K (r:Int) Ls St ph b0 b1 b2 b3 w sp g0 g1 g2 m0 m1 m2 m3 m4 m5 m6 m7 m8 cv am kk aA (acc,(k:Int))=match BA (w':Int) (d:Int) K Ls h r k (St.drop k) acc with
   | none=>some (0,0,[],1)
   | some P=>kk (P,(St.length:Int)):=by
 have hcl:=KV (H:=h) (R:=r) hR.1 hH.1;intro j
 induction j with
 | zero=>
  intro k aA acc hk hf ha;obtain ⟨aA,rfl⟩:=kF aA oQ;unfold mD;rw [nL,List.drop_of_length_le oQ,show k=St.length by omega]
  rfl
 | succ j ih=>
  intro k aA acc hk hf ha;obtain ⟨aA,rfl⟩:=kF aA oQ;have hlt:k<St.length:=oQ
  have JH:=Qp (i:=k) hR hH.2 oQ;have hnx:aC.wrap ((k:Int)+1)=((k+1:Nat):Int):=by rw [cM oQ];rfl
  have hm:=tM hW.2 (show zR h r k≤64 by omega);unfold mD;obtain ⟨l,e,q1,q2⟩:=aCy K Ls St ph b0 b1 b2 b3 w sp g0 g1 g2 m0 m1 m2 m3 m4 m5 m6 m7 m8 cv am N hN (W:=(w':Int)) (D:=(d:Int)) oQ oQ hH hR (k:=k) oQ hlt (hs St[k] (List.getElem_mem hlt));rw [p8,q1,aD,zC hlt];unfold BA
  rcases q2 with ⟨rfl,q2⟩|⟨rfl,q2⟩
  ·have hll:=O2 oQ JH q2;rw [fM,fM] at hll;rw [q2,cF rQ]
   dsimp only
   rw [iQ oQ,aD,hnx,aD];exact ih (k+1) aA _ oQ oQ (by rw [kG];omega)
  ·rw [q2,cT rQ]
theorem aCz (N:Nat) {k' r:Nat} (hr:1≤r∧r≤k') (hk:1≤k'∧k'≤64):uL N W (k':Int) D K (r:Int) Ls St ph b0 b1 b2 b3 w sp g0 g1 g2 m0 m1 m2 m3 m4 m5 m6 m7 m8 cv am=some ((EH k' r:Nat):Int):=by
 have hcl:=KV (H:=k') (R:=r) hr.1 hk.1;unfold uL;rw [AJ oQ,aD,cM (x:=(k':Int)+r) oQ,cM (x:=(k':Int)+r-1) oQ,show (k':Int)+r-1=((k'+r-1:Nat):Int) by omega,show gI ((k'+r-1:Nat):Int) (r:Int)=(((k'+r-1)/r:Nat):Int) from rfl];exact bZ some (cM (x:=((EH k' r:Nat):Int)) oQ)
theorem Uj {f:Bool} (hb:iM 8589934592 cv=some f) (hs:∀y∈St,y.length≤9223372036854775807):mE 8589934592 W H D K R Ls St ph b0 b1 b2 b3 w sp g0 g1 g2 m0 m1 m2 m3 m4 m5 m6 m7 m8 cv am=some (BB W H D K R Ls St ph b0 b1 b2 b3 w sp g0 g1 g2 m0 m1 m2 m3 m4 m5 m6 m7 m8 am f):=by
 unfold mE BB;rw [aFg W H D K R Ls St ph b0 b1 b2 b3 w sp g0 g1 g2 m0 m1 m2 m3 m4 m5 m6 m7 m8 cv am 8589934592 aL,aD]
 by_cases h1:AL W H D K R Ls=0
 rotate_left
 ·rw [cT (by rw [decide_eq_false h1];rfl),aF h1]
 obtain ⟨q1,q2,q3,q4⟩:=Ns W H D K R Ls h1;rw [cF (by rw [decide_eq_true h1];rfl),aE (fun q=>q h1)];unfold EG at q1;obtain ⟨w',rfl⟩:=sC (show 0≤W by omega);obtain ⟨k',rfl⟩:=sC (show 0≤H by omega);obtain ⟨d,rfl⟩:=sC (show 0≤D by omega);obtain ⟨r,rfl⟩:=sC (show 0≤R by omega);rw [aCz _ _ K Ls St ph b0 b1 b2 b3 w sp g0 g1 g2 m0 m1 m2 m3 m4 m5 m6 m7 m8 cv am 8589934592 oQ oQ,aD,fM,fM]
 by_cases h2:St.length=EH k' r
 rotate_left
 ·rw [cT (by rw [dF oQ];rfl),aF h2]
 rw [cF (by rw [dT oQ];rfl),aE (fun q=>q h2),aFh _ _ _ K _ Ls St ph b0 b1 b2 b3 w sp g0 g1 g2 m0 m1 m2 m3 m4 m5 m6 m7 m8 cv am hb oQ oQ,aD]
 by_cases h3:O0 (w':Int) (k':Int) ph b0 b1 b2 b3 w sp g0 g1 g2 m0 m1 m2 m3 m4 m5 m6 m7 m8 am f=0
 rotate_left
 ·rw [cT (by rw [decide_eq_false h3];rfl),aF h3]
 rw [cF (by rw [decide_eq_true h3];rfl),aE (fun q=>q h3)];have hcn:=KV (H:=k') (R:=r) oQ oQ;have key:=VB K Ls St ph b0 b1 b2 b3 w sp g0 g1 g2 m0 m1 m2 m3 m4 m5 m6 m7 m8 cv am 8589934592 aL (w':=w') (h:=k') (r:=r) (d:=d) oQ oQ oQ oQ hs h2 (fun (aGr,i4)=>some ((w':Int),(k':Int),aGr,(0:Int))) St.length 0 8589934592 [] oQ oQ sQ;rw [List.drop_zero] at key;refine Eq.trans key ?_
 cases BA (w':Int) (d:Int) K Ls k' r 0 St [] <;> rfl
theorem MH {W D K:Int} {Ls:List Int} {H R:Nat} (hW:1≤W∧W≤64) (hR:1≤R∧R≤H) (hH:H≤64):∀(t:List aR) (i:Nat) (acc P:List Int),BA W D K Ls H R i t acc=some P→i+t.length=EH H R→P.length=acc.length+W.toNat*(H-i*R)
 | [],i,acc,P,h,hi=>by
  injection h with h
  subst h;have:=mt (cnt_lt (H:=H) (i:=i) hR.1).2 (by simp only [List.length_nil] at hi;omega);rw [show H-i*R=0 by omega];simp
 | s::t,i,acc,P,h,hi=>by
  have hlt:i<EH H R:=by rw [List.length_cons] at hi;omega
  have h1:=(cnt_lt (H:=H) (i:=i) hR.1).1 hlt;unfold BA at h
  split at h
  ·cases h
  ·rename_i l hl
   have hll:=O2 hW (Qp hR hH hlt) hl;rw [fM] at hll;have ih:=MH hW hR hH t (i+1) _ P h (by rw [List.length_cons] at hi;omega);rw [ih,kG,hll,Nat.add_assoc,←Nat.mul_add]
   congr 2
   rw [Nat.add_mul];unfold zR
   omega
theorem ZC (f:Bool):(BB W H D K R Ls St ph b0 b1 b2 b3 w sp g0 g1 g2 m0 m1 m2 m3 m4 m5 m6 m7 m8 am f).2.2.1.length≤4096:=by
 unfold BB
 by_cases h1:AL W H D K R Ls=0
 rotate_left
 ·rw [aF h1];simp
 obtain ⟨q1,q2,q3,q4⟩:=Ns W H D K R Ls h1;rw [aE (fun q=>q h1)]
 by_cases h2:St.length=EH H.toNat R.toNat
 rotate_left
 ·rw [aF h2];simp
 rw [aE (fun q=>q h2)]
 split
 ·simp
 unfold EG at q1
 rcases hp:BA W D K Ls H.toNat R.toNat 0 St [] with _|P
 ·simp
 ·have:=MH oQ oQ oQ St 0 [] P hp oQ;have hm:=tM (show W.toNat≤64 by omega) (show H.toNat≤64 by omega);rw [Nat.zero_mul,Nat.sub_zero,List.length_nil,Nat.zero_add] at this;show P.length≤4096
  omega
theorem Xi {f:Bool} (hb:jP 8589934592 cv=some f) (hc:f=true↔pU cv) (hs:∀y∈St,y.length≤9223372036854775807):Be 8589934592 W H D K R Ls St ph b0 b1 b2 b3 w sp g0 g1 g2 m0 m1 m2 m3 m4 m5 m6 m7 m8 cv am=some (BB W H D K R Ls St ph b0 b1 b2 b3 w sp g0 g1 g2 m0 m1 m2 m3 m4 m5 m6 m7 m8 am f).2.2.2:=by
 unfold Be;rw [RH W H D K R Ls St ph b0 b1 b2 b3 w sp g0 g1 g2 m0 m1 m2 m3 m4 m5 m6 m7 m8 cv am hb hc hs,aD]
end
theorem u8w (x:Int):iH.wrap x=x%256:=by
 simp [IntKind.wrap,IntKind.bits,IntKind.signed]
theorem aLc (e:Int) {k:Nat} (hk:k≤64):jN .i64 e (k:Int)=e/((2^k:Nat):Int):=by
 unfold jN;rw [fM,show min k (aC.bits)=k by show min k 64=k;omega];rw [Int.fdiv_eq_ediv_of_nonneg _ (by exact Int.le_of_lt (Int.pow_pos aL))]
 norm_cast
theorem aMR (e:Int):iH.wrap (jN .i64 e 8)=(e/256)%256:=by rw [u8w,show (8:Int)=((8:Nat):Int) from rfl,aLc e aL];rfl
theorem aPv {n:Int} (h:0≤n∧n<4294967296):IntKind.i32.wrap n=if n<2147483648 then n else n-4294967296:=by
 have e:IntKind.i32.wrap n=if n%4294967296≥2147483648 then n%4294967296-4294967296 else n%4294967296:=by
  simp [IntKind.wrap,IntKind.bits,IntKind.signed]
 rw [e,show n%4294967296=n by omega]
 split <;> split <;> omega
theorem aHS {x y:Nat} (hx:x<16777216) (hy:y<256):Ir .i64 (qF .i64 (x:Int) 8) (aC.wrap (y:Int))=((x*256+y:Nat):Int):=by
 rw [show (8:Int)=((8:Nat):Int) from rfl,F3 aL oQ,cM oQ];exact Rr (h:=x) (d:=8) (e:=y) oQ oQ
theorem aHT (a b c d:UInt8):aC.wrap (IntKind.i32.wrap ((((a.toNat*256+b.toNat)*256+c.toNat)*256+d.toNat:Nat):Int))=v32 a b c d:=by
 have ha:=a.toNat_lt;have hb:=b.toNat_lt;have hc:=c.toNat_lt;have hd:=d.toNat_lt;rw [aPv oQ];unfold v32
 by_cases q:(a.toNat:Int)<128
 ·rw [aF q,aF oQ,cM oQ];omega
 ·rw [aE q,aE oQ,cM oQ];omega
theorem aLd (N:Nat) (l:FR) (kk) (hl:l.1.length≤4):∀(j k aA x:Nat),k+j=l.1.length→j<aA→x<256^k→lU N l kk aA ((x:Int),(k:Int))=kk (((((l.1.drop k).foldl (fun x b=>x*256+b.toNat) x:Nat)):Int),(l.1.length:Int)):=by
 intro j
 induction j with
 | zero=>
  intro k aA x hk hf hx;obtain ⟨aA,rfl⟩:=kF aA oQ;unfold lU;rw [cF (dF (by rw [yD];omega)),List.drop_of_length_le oQ,show k=l.1.length by omega];rfl
 | succ j ih=>
  intro k aA x hk hf hx;obtain ⟨aA,rfl⟩:=kF aA oQ;have hlt:k<l.1.length:=oQ
  have hb:=(l.1[k]).toNat_lt
  have hx2:x<16777216:=by
   have:256^k≤256^3:=Nat.pow_le_pow_right aL oQ;have e:(256:Nat)^3=16777216:=by decide
   omega
  unfold lU;rw [cT (dT (by rw [yD];omega)),dC];have e1:(rT l.1)[k]? = some ((l.1[k].toNat:Nat):Int):=by unfold rT;rw [List.getElem?_map,f9 hlt];rfl
  rw [e1,aD,aHS hx2 hb,aD,cM (x:=(k:Int)+1) oQ];refine Eq.trans (ih (k+1) aA (x*256+l.1[k].toNat) oQ oQ (by rw [Nat.pow_succ];omega)) ?_;rw [zC hlt,List.foldl_cons]
theorem MI (N:Nat) (S:aR) (n:Int):lG N S n=some (if 0≤n∧n≤S.length then some (S.take n.toNat,S.drop n.toNat) else none):=by
 unfold lG
 by_cases h1:n<0
 ·rw [cT (dT h1),aE oQ]
 rw [cF (dF h1)]
 by_cases h2:(S.length:Int)<n
 ·rw [cT (dT h2),aE oQ]
 rw [cF (dF h2),EE oQ,aD,EE oQ,aD,aF oQ,show ((0:Int)).toNat=0 from rfl,List.drop_zero,fM,List.take_length]
theorem DP (N:Nat) (hN:6≤N) (S:aR):aS N S=some (Dk S):=by
 unfold aS;rw [MI,aD]
 rcases S with _|⟨a,_|⟨b,_|⟨c,_|⟨d,t⟩⟩⟩⟩
 ·rfl
 ·rfl
 ·rfl
 ·rfl
 rw [aF uW];show lU N ([a,b,c,d],t) _ N (0,0)=_;have key:=aLd N ([a,b,c,d],t) (fun (n4,i2)=>some (some (aC.wrap (IntKind.i32.wrap n4),t))) sQ 4 0 N 0 rfl oQ aL;refine Eq.trans key ?_;show some (some (aC.wrap (IntKind.i32.wrap ((((0*256+a.toNat)*256+b.toNat)*256+c.toNat)*256+d.toNat:Nat)),t))=some (some (v32 a b c d,t));rw [←aHT,Nat.zero_mul,Nat.zero_add]
def lpE {α β:Type} (no:Option β) (kk:List α×aR×Int→Option β) (l:List α) (i:Int):Option (List α×aR)→Option β
 | none=>no
 | some (m,u)=>kk (l++m,u,i)
section
variable {γ:Type} {out:Option γ→Option Vz} {no:Option Vz}
theorem AM {N:Nat} (hN:6≤N) (hno:out none=no) (S:aR) {k:HD→Option Vz} {g:HD→Option γ} (h:∀n t,k (n,t)=out (g (n,t))):(dH (aS N S) fun q=>Gc q no k)=out ((Dk S).bind g):=by
 rw [DP N hN,aD]
 rcases Dk S with _|⟨n,t⟩
 ·exact hno.symm
 ·exact h n t
theorem aMS {N:Nat} (hN:6≤N) (hno:out none=no) (S:aR) {k:FR→Option Vz} {g:FR→Option γ} (h:∀n t,k (n,t)=out (g (n,t))):(dH (aS N S) fun q=>Gc q no fun r2=>dH (lG N r2.2 r2.1) fun q2=>Gc q2 no k)=out ((Ty S).bind g):=by
 rw [DP N hN,aD];unfold Ty rdC
 rcases Dk S with _|⟨n,t⟩
 ·exact hno.symm
 show (dH (lG N t n) fun q2=>Gc q2 no k)=out ((((if _ then _ else _:Option aAj)).bind _).bind g);rw [MI,aD]
 dsimp only
 by_cases q:0≤n∧n≤t.length
 ·rw [aF q,aF q];exact h _ _
 ·rw [aE q,aE q];exact hno.symm
theorem aBb {N:Nat} (hN:2147483655≤N) (hno:out none=no) (S:aR) {α:Type} {f:aR→Option (α×aR)} {lp:HD→(List α×aR×Int→Option Vz)→Nat→List α×aR×Int→Option Vz} {kk:List α×aR×Int→Option Vz} {g:List α×aR→Option γ}
  (hl:∀(n:Int) (s0:aR),n<2147483648→∀(j aA:Nat) (l:List α) (t:aR),l.length+j=n.toNat→j<aA→lp (n,s0) kk aA (l,t,(l.length:Int))=lpE no kk l (((l.length+j:Nat)):Int) (Iq f j t))
  (h:∀l t i,kk (l,t,i)=out (g (l,t))):(dH (aS N S) fun q=>Gc q no fun r9=>cond (decide (r9.1<0)) no (cond (decide ((r9.2.length:Int)<r9.1)) no (lp r9 kk N ([],r9.2,0))))=out ((SG f S).bind g):=by
 rw [DP N oQ,aD];unfold SG rdC
 rcases hr:Dk S with _|⟨n,t⟩
 ·exact hno.symm
 obtain ⟨_,hi⟩:=eV hr;unfold is32 at hi;show cond (decide (n<0)) no (cond (decide ((t.length:Int)<n)) no (lp (n,t) kk N ([],t,0)))=out ((((if _ then _ else _:Option aAj)).bind _).bind g)
 by_cases q1:n<0
 ·rw [cT (dT q1),aE (fun q=>by have:=q.1;omega)];exact hno.symm
 rw [cF (dF q1)]
 by_cases q2:(t.length:Int)<n
 ·rw [cT (dT q2),aE (fun q=>by have:n≤(t.length:Int):=q.2;omega)];exact hno.symm
 rw [cF (dF q2),aF ⟨by omega,by show n≤(t.length:Int);omega⟩];have:=hl n t oQ n.toNat N [] t sQ oQ;refine Eq.trans this ?_
 dsimp only
 show _=out ((Iq f n.toNat t).bind g)
 rcases Iq f n.toNat t with _|⟨m,u⟩
 ·exact hno.symm
 ·show kk ([]++m,u,_)=_;rw [List.nil_append];exact h _ _ _
end
def Fj:Option Vz:=some (0,0,0,0,0,[],[],0,0,0,0,0,0,[],0,0,0,0,0,0,0,0,0,0,0,0,[],0,1)
theorem aMT (N:Nat) (hN:6≤N) (kk) (n:Int) (s0:aR) (hn:n<2147483648):∀(j aA:Nat) (l:List Int) (t:aR),l.length+j=n.toNat→j<aA→xY N (n,s0) kk aA (l,t,(l.length:Int))=lpE Fj kk l (((l.length+j:Nat)):Int) (Iq Dk j t):=by
 intro j
 induction j with
 | zero=>
  intro aA l t hl hf;obtain ⟨aA,rfl⟩:=kF aA oQ;unfold xY;rw [cF (dF (by show ¬(l.length:Int)<n;omega))];show kk _=kk _;rw [v4];rfl
 | succ j ih=>
  intro aA l t hl hf;obtain ⟨aA,rfl⟩:=kF aA oQ;unfold xY Iq;rw [cT (dT (by show (l.length:Int)<n;omega)),DP N hN,aD]
  rcases Dk t with _|⟨x,u⟩
  ·rfl
  show (dH (app 8 l [x]) _)=_;rw [iQ uW,aD,cM (x:=(l.length:Int)+1) oQ];have:=ih aA (l++[x]) u uW oQ;rw [kG] at this;refine Eq.trans this ?_;show _=lpE Fj kk l (((l.length+(j+1):Nat)):Int) ((Iq Dk j u).bind fun q=>some (x::q.1,q.2))
  rcases Iq Dk j u with _|⟨m,v⟩
  ·rfl
  ·show kk _=kk _;rw [pL]
   congr 3
   simp;omega
theorem aMU (N:Nat) (hN:6≤N) (kk) (n:Int) (s0:aR) (hn:n<2147483648):∀(j aA:Nat) (l:List aR) (t:aR),l.length+j=n.toNat→j<aA→xX N (n,s0) kk aA (l,t,(l.length:Int))=lpE Fj kk l (((l.length+j:Nat)):Int) (Iq Ty j t):=by
 intro j
 induction j with
 | zero=>
  intro aA l t hl hf;obtain ⟨aA,rfl⟩:=kF aA oQ;unfold xX;rw [cF (dF (by show ¬(l.length:Int)<n;omega))];show kk _=kk _;rw [v4];rfl
 | succ j ih=>
  intro aA l t hl hf;obtain ⟨aA,rfl⟩:=kF aA oQ;unfold xX Iq;rw [cT (dT (by show (l.length:Int)<n;omega)),DP N hN,aD];unfold Ty rdC
  rcases Dk t with _|⟨x,u⟩
  ·rfl
  show (dH (lG N u x) fun q15=>Gc q15 _ _)=_;rw [MI,aD];show _=lpE Fj kk l (((l.length+(j+1):Nat)):Int) ((((if _ then _ else _:Option aAj)).bind fun p=>some (p.2.take p.1,p.2.drop p.1)).bind _)
  by_cases q:0≤x∧x≤(u.length:Int)
  rotate_left
  ·rw [aE q,aE (fun q'=>q q')];rfl
  rw [aF q,aF (show 0≤(x,u).1∧(x,u).1≤((x,u).2.length:Int) from q)];show (dH (app 16 l [u.take x.toNat]) _)=_;rw [iQ uW,aD,cM (x:=(l.length:Int)+1) oQ];have:=ih aA (l++[u.take x.toNat]) (u.drop x.toNat) uW oQ;rw [kG] at this;refine Eq.trans this ?_;show _=lpE Fj kk l (((l.length+(j+1):Nat)):Int) ((Iq Ty j (u.drop x.toNat)).bind fun q=>some (u.take x.toNat::q.1,q.2))
  rcases Iq Ty j (u.drop x.toNat) with _|⟨m,v⟩
  ·rfl
  ·show kk _=kk _;rw [pL]
   congr 3
   simp;omega
theorem aMV (N:Nat) (hN:6≤N) (kk) (n:Int) (s0:aR) (hn:n<2147483648):∀(j aA:Nat) (l:List aN) (t:aR),l.length+j=n.toNat→j<aA→xW N (n,s0) kk aA (l,t,(l.length:Int))=lpE Fj kk l (((l.length+j:Nat)):Int) (Iq SF j t):=by
 intro j
 induction j with
 | zero=>
  intro aA l t hl hf;obtain ⟨aA,rfl⟩:=kF aA oQ;unfold xW;rw [cF (dF (by show ¬(l.length:Int)<n;omega))];show kk _=kk _;rw [v4];rfl
 | succ j ih=>
  intro aA l t hl hf;obtain ⟨aA,rfl⟩:=kF aA oQ;unfold xW Iq;rw [cT (dT (by show (l.length:Int)<n;omega)),DP N hN,aD];unfold SF
  rcases Dk t with _|⟨x,u⟩
  ·rfl
  show (dH (aS N u) fun q27=>Gc q27 _ _)=lpE Fj kk l (((l.length+(j+1):Nat)):Int) ((((Dk u).bind _)).bind _);rw [DP N hN,aD]
  rcases Dk u with _|⟨y,v⟩
  ·rfl
  show (dH (app 16 l [(x,y)]) _)=_;rw [iQ uW,aD,cM (x:=(l.length:Int)+1) oQ];have:=ih aA (l++[(x,y)]) v uW oQ;rw [kG] at this;refine Eq.trans this ?_;show _=lpE Fj kk l (((l.length+(j+1):Nat)):Int) ((Iq SF j v).bind fun q=>some ((x,y)::q.1,q.2))
  rcases Iq SF j v with _|⟨m,z⟩
  ·rfl
  ·show kk _=kk _;rw [pL]
   congr 3
   simp;omega
theorem aMW (N:Nat) (hN:6≤N) (kk) (n:Int) (s0:aR) (hn:n<2147483648):∀(j aA:Nat) (l:List aN) (t:aR),l.length+j=n.toNat→j<aA→xV N (n,s0) kk aA (l,t,(l.length:Int))=lpE Fj kk l (((l.length+j:Nat)):Int) (Iq SF j t):=by
 intro j
 induction j with
 | zero=>
  intro aA l t hl hf;obtain ⟨aA,rfl⟩:=kF aA oQ;unfold xV;rw [cF (dF (by show ¬(l.length:Int)<n;omega))];show kk _=kk _;rw [v4];rfl
 | succ j ih=>
  intro aA l t hl hf;obtain ⟨aA,rfl⟩:=kF aA oQ;unfold xV Iq;rw [cT (dT (by show (l.length:Int)<n;omega)),DP N hN,aD];unfold SF
  rcases Dk t with _|⟨x,u⟩
  ·rfl
  show (dH (aS N u) fun q27=>Gc q27 _ _)=lpE Fj kk l (((l.length+(j+1):Nat)):Int) ((((Dk u).bind _)).bind _);rw [DP N hN,aD]
  rcases Dk u with _|⟨y,v⟩
  ·rfl
  show (dH (app 16 l [(x,y)]) _)=_;rw [iQ uW,aD,cM (x:=(l.length:Int)+1) oQ];have:=ih aA (l++[(x,y)]) v uW oQ;rw [kG] at this;refine Eq.trans this ?_;show _=lpE Fj kk l (((l.length+(j+1):Nat)):Int) ((Iq SF j v).bind fun q=>some ((x,y)::q.1,q.2))
  rcases Iq SF j v with _|⟨m,z⟩
  ·rfl
  ·show kk _=kk _;rw [pL]
   congr 3
   simp;omega
def Cs (N:Nat):Option (aKl×aR)→Option Vz
 | none=>Fj
 | some ((W,H,D,K,R,Ls,St,ph,b0,b1,b2,b3,w,sp,g0,g1,g2,m0,m1,m2,m3,m4,m5,m6,m7,m8,cv,am),t)=>
  cond (!decide (t=([]:aR))) Fj (dH (Be N W H D K R Ls St ph b0 b1 b2 b3 w sp g0 g1 g2 m0 m1 m2 m3 m4 m5 m6 m7 m8 cv am) fun e=>cond (!decide (e=0)) Fj (some (W,H,D,K,R,Ls,St,ph,b0,b1,b2,b3,w,sp,g0,g1,g2,m0,m1,m2,m3,m4,m5,m6,m7,m8,cv,am,0)))
theorem SS (N:Nat) (hN:2147483655≤N) (s:aR):zV N s=Cs N (YH s):=by
 have h6:6≤N:=oQ
 have no:Cs N none=Fj:=rfl;unfold zV YH;refine aMS (out:=Cs N) h6 no s fun m s=>?_
 dsimp only
 by_cases hm:m=[100,97,114,107]
 rotate_left
 ·rw [cT (by rw [dF hm];rfl),aF (show m≠Wo from hm)];rfl
 rw [cF (by rw [dT hm];rfl),aE (fun q=>q hm)];refine AM (out:=Cs N) h6 no s fun W s=>?_;dsimp only
 refine AM (out:=Cs N) h6 no s fun H s=>?_;dsimp only
 refine AM (out:=Cs N) h6 no s fun D s=>?_;dsimp only
 refine AM (out:=Cs N) h6 no s fun K s=>?_;dsimp only
 refine AM (out:=Cs N) h6 no s fun R s=>?_;dsimp only
 refine aBb (out:=Cs N) hN no s (lp:=xY N) (fun n s0 hn=>aMT N h6 _ n s0 hn) fun Ls s i=>?_;dsimp only
 refine aBb (out:=Cs N) hN no s (lp:=xX N) (fun n s0 hn=>aMU N h6 _ n s0 hn) fun St s i=>?_;dsimp only
 refine AM (out:=Cs N) h6 no s fun ph s=>?_;dsimp only
 refine AM (out:=Cs N) h6 no s fun b0 s=>?_;dsimp only
 refine AM (out:=Cs N) h6 no s fun b1 s=>?_;dsimp only
 refine AM (out:=Cs N) h6 no s fun b2 s=>?_;dsimp only
 refine AM (out:=Cs N) h6 no s fun b3 s=>?_;dsimp only
 refine AM (out:=Cs N) h6 no s fun w s=>?_;dsimp only
 refine aBb (out:=Cs N) hN no s (lp:=xW N) (fun n s0 hn=>aMV N h6 _ n s0 hn) fun sp s i=>?_;dsimp only
 refine AM (out:=Cs N) h6 no s fun g0 s=>?_;dsimp only
 refine AM (out:=Cs N) h6 no s fun g1 s=>?_;dsimp only
 refine AM (out:=Cs N) h6 no s fun g2 s=>?_;dsimp only
 refine AM (out:=Cs N) h6 no s fun m0 s=>?_;dsimp only
 refine AM (out:=Cs N) h6 no s fun m1 s=>?_;dsimp only
 refine AM (out:=Cs N) h6 no s fun m2 s=>?_;dsimp only
 refine AM (out:=Cs N) h6 no s fun m3 s=>?_;dsimp only
 refine AM (out:=Cs N) h6 no s fun m4 s=>?_;dsimp only
 refine AM (out:=Cs N) h6 no s fun m5 s=>?_;dsimp only
 refine AM (out:=Cs N) h6 no s fun m6 s=>?_;dsimp only
 refine AM (out:=Cs N) h6 no s fun m7 s=>?_;dsimp only
 refine AM (out:=Cs N) h6 no s fun m8 s=>?_;dsimp only
 refine aBb (out:=Cs N) hN no s (lp:=xV N) (fun n s0 hn=>aMW N h6 _ n s0 hn) fun cv s i=>?_;dsimp only
 refine AM (out:=Cs N) h6 no s fun am s=>?_;dsimp only
 rfl
theorem Qq (N:Nat) (S:aR):aG N S true=some (0,S,true):=by
 unfold aG;rfl
theorem or4 (a b c d:UInt8):Ir .i64 (Ir .i64 (Ir .i64 (qF .i64 (aC.wrap (a.toNat:Int)) 24) (qF .i64 (aC.wrap (b.toNat:Int)) 16)) (qF .i64 (aC.wrap (c.toNat:Int)) 8)) (aC.wrap (d.toNat:Int))=((((a.toNat*256+b.toNat)*256+c.toNat)*256+d.toNat:Nat):Int):=by
 have ha:=a.toNat_lt;have hb:=b.toNat_lt;have hc:=c.toNat_lt;have hd:=d.toNat_lt;rw [cM (x:=(a.toNat:Int)) oQ,cM (x:=(b.toNat:Int)) oQ,cM (x:=(c.toNat:Int)) oQ,cM (x:=(d.toNat:Int)) oQ];rw [show (24:Int)=((24:Nat):Int) from rfl,show (16:Int)=((16:Nat):Int) from rfl,show (8:Int)=((8:Nat):Int) from rfl];rw [F3 (h:=a.toNat) (k:=24) aL oQ,F3 (h:=b.toNat) (k:=16) aL oQ,F3 (h:=c.toNat) (k:=8) aL oQ];rw [Rr (h:=a.toNat) (d:=24) (e:=b.toNat*2^16) oQ oQ];rw [show a.toNat*2^24+b.toNat*2^16=(a.toNat*256+b.toNat)*2^16 by omega,Rr (h:=a.toNat*256+b.toNat) (d:=16) (e:=c.toNat*2^8) oQ oQ];rw [show (a.toNat*256+b.toNat)*2^16+c.toNat*2^8=((a.toNat*256+b.toNat)*256+c.toNat)*2^8 by omega,Rr (h:=(a.toNat*256+b.toNat)*256+c.toNat) (d:=8) (e:=d.toNat) oQ oQ]
theorem Jo (N:Nat) (S:aR):aG N S false=some (match Dk S with|none=>(0,S,true)|some (n,t)=>(n,t,false)):=by
 unfold aG;rw [cF rfl]
 rcases S with _|⟨a,_|⟨b,_|⟨c,_|⟨d,t⟩⟩⟩⟩
 ·rfl
 ·rfl
 ·rfl
 ·rfl
 have ha:=a.toNat_lt;have hb:=b.toNat_lt;have hc:=c.toNat_lt;have hd:=d.toNat_lt;rw [cF (dF uW),show idx (a::b::c::d::t) 0=some a from rfl,aD,show idx (a::b::c::d::t) 1=some b from rfl,aD,show idx (a::b::c::d::t) 2=some c from rfl,aD,aD,show idx (a::b::c::d::t) 3=some d from rfl,aD,aD,or4,EE uW,aD];have e:(List.take (((a::b::c::d::t).length:Int)).toNat (a::b::c::d::t)).drop (4:Int).toNat=t:=by rw [fM,List.take_length];rfl
 rw [e];show _=some (v32 a b c d,t,false);unfold v32
 by_cases q:(a.toNat:Int)<128
 ·rw [aF q,nL]
  congr 2;omega
 ·rw [aE q,p8,cM oQ,aD]
  congr 2;omega
def lpB {α β:Type} (kk:List α×aR×Bool×Int→Option β) (l:List α) (bad:Option β):Option (List α×aR)→Option β
 | none=>bad
 | some (m,u)=>kk (l++m,u,false,0)
section
variable {β:Type}
def GD (no:Option β) (e:aR→Bool→Option β) (f:aR→Option β):Prop:=(∀S,e S true=no)∧∀S,e S false=f S
variable {γ:Type} {out:Option γ→Option β} {no:Option β} {N:Nat}
theorem GN (hno:out none=no) {k:Kl→Option β} {g:HD→Option γ} (h:∀n,GD no (fun S b=>k (n,S,b)) (fun S=>out (g (n,S)))):GD no (fun S b=>dH (aG N S b) k) (fun S=>out ((Dk S).bind g)):=by
 refine ⟨fun S=>?_,fun S=>?_⟩
 ·dsimp only
  rw [Qq,aD];exact (h 0).1 S
 ·dsimp only
  rw [Jo,aD]
  rcases Dk S with _|⟨n,t⟩
  ·exact ((h 0).1 S).trans hno.symm
  ·exact (h n).2 t
theorem Xj (S:aR):∃n,eF N S true=some (n,S,true)∧n=0:=by
 unfold eF;rw [Qq,aD]
 by_cases q:(S.length:Int)<0
 ·omega
 ·rw [cF rQ,cF (dF q),cT rfl];exact ⟨_,rfl,rfl⟩
theorem aBd (S:aR):∃n t b,eF N S false=some (n,t,b)∧((rdC S=none∧n=0∧b=true)∨∃m,rdC S=some (m,t)∧n=(m:Int)∧b=false):=by
 unfold eF rdC;rw [Jo,aD]
 rcases Dk S with _|⟨n,t⟩
 ·by_cases q:(S.length:Int)<0
  ·omega
  ·dsimp only
   rw [cF rQ,cF (dF q),cT rfl];exact ⟨_,_,_,rfl,.inl ⟨rfl,rfl,rfl⟩⟩
 dsimp only
 rw [aD]
 dsimp only
 by_cases q1:n<0
 ·rw [cT (dT q1),aE (fun q=>by have:=q.1;omega)];exact ⟨_,_,_,rfl,.inl ⟨rfl,rfl,rfl⟩⟩
 rw [cF (dF q1)]
 by_cases q2:(t.length:Int)<n
 ·rw [cT (dT q2),aE (fun q=>by have:=q.2;omega)];exact ⟨_,_,_,rfl,.inl ⟨rfl,rfl,rfl⟩⟩
 rw [cF (dF q2),cF rfl,aF ⟨by omega,by omega⟩];exact ⟨_,_,_,rfl,.inr ⟨n.toNat,rfl,by omega,rfl⟩⟩
theorem aFi (S:aR):gR N S true=some ([],S,true):=by
 unfold gR;obtain ⟨n,h,_⟩:=Xj (N:=N) S;rw [h,aD];rfl
theorem aBe (S:aR):∃t,gR N S false=some (match Ty S with|none=>([],t,true)|some (x,u)=>(x,u,false)):=by
 unfold gR Ty;obtain ⟨n,t,b,h,⟨h1,rfl,rfl⟩|⟨m,h1,rfl,rfl⟩⟩:=aBd (N:=N) S
 ·rw [h,aD,h1];exact ⟨_,rfl⟩
 ·have hm:=(P9 h1).2.2;rw [h,aD,h1]
  dsimp only
  rw [cT rQ,EE oQ,aD,EE oQ,aD];refine ⟨[],?_⟩;show _=some (t.take m,t.drop m,false);rw [fM,fM,List.take_length,show ((0:Int)).toNat=0 from rfl,List.drop_zero]
theorem GT (hno:out none=no) {k:M5→Option β} {g:FR→Option γ} (h:∀n,GD no (fun S b=>k (n,S,b)) (fun S=>out (g (n,S)))):GD no (fun S b=>dH (gR N S b) k) (fun S=>out ((Ty S).bind g)):=by
 refine ⟨fun S=>?_,fun S=>?_⟩
 ·dsimp only
  rw [aFi,aD];exact (h []).1 S
 ·dsimp only
  obtain ⟨t,ht⟩:=aBe (N:=N) S;rw [ht,aD]
  rcases Ty S with _|⟨n,u⟩
  ·exact ((h []).1 t).trans hno.symm
  ·exact (h n).2 u
theorem GL (hN:2147483655≤N) (hno:out none=no) {α:Type} {f:aR→Option (α×aR)} {lp:(List α×aR×Bool×Int→Option β)→Nat→List α×aR×Bool×Int→Option β} {kk:List α×aR×Bool×Int→Option β} {g:List α×aR→Option γ}
  (hbad:∀(aA:Nat) (l:List α) (t:aR) (i:Int),lp kk (aA+1) (l,t,true,i)=kk (l,t,true,i))
  (hl:∀(j aA:Nat) (l:List α) (t:aR),l.length+j<2147483648→j+1<aA→∃l2 t2 i2,lp kk aA (l,t,false,(j:Int))=lpB kk l (kk (l2,t2,true,i2)) (Iq f j t))
  (h:∀l i,GD no (fun S b=>kk (l,S,b,i)) (fun S=>out (g (l,S)))):GD no (fun S b=>dH (eF N S b) fun r8=>lp kk N ([],r8.2.1,r8.2.2,r8.1)) (fun S=>out ((SG f S).bind g)):=by
 obtain ⟨M,rfl⟩:∃q,N=q+1:=⟨N-1,by omega⟩
 refine ⟨fun S=>?_,fun S=>?_⟩
 ·dsimp only
  obtain ⟨n,hc,rfl⟩:=Xj (N:=M+1) S;rw [hc,aD]
  dsimp only
  rw [hbad];exact (h [] 0).1 S
 ·dsimp only
  unfold SG;obtain ⟨n,t,b,hc,⟨h1,rfl,rfl⟩|⟨m,h1,rfl,rfl⟩⟩:=aBd (N:=M+1) S
  ·rw [hc,aD,h1]
   dsimp only
   rw [hbad];exact ((h [] 0).1 t).trans hno.symm
  ·have hm:=(P9 h1).2.1;rw [hc,aD,h1]
   dsimp only
   obtain ⟨l2,t2,i2,hh⟩:=hl m (M+1) [] t uW oQ;refine hh.trans ?_;show _=out ((Iq f m t).bind g)
   rcases Iq f m t with _|⟨x,u⟩
   ·exact ((h l2 i2).1 t2).trans hno.symm
   ·exact (h _ 0).2 u
end
theorem aBf (N:Nat) (kk) (aA:Nat) (l:List Int) (t:aR) (i:Int):gW N kk (aA+1) (l,t,true,i)=kk (l,t,true,i):=by
 unfold gW
 by_cases q:0<i
 ·rw [cT (dT q),cF rQ]
 ·rw [cF (dF q)]
theorem aMX (N:Nat) (kk):∀(j aA:Nat) (l:List Int) (t:aR),l.length+j<2147483648→j+1<aA→∃l2 t2 i2,gW N kk aA (l,t,false,(j:Int))=lpB kk l (kk (l2,t2,true,i2)) (Iq Dk j t):=by
 intro j
 induction j with
 | zero=>
  intro aA l t hl hf;obtain ⟨aA,rfl⟩:=kF aA oQ;unfold gW;rw [cF rQ];refine ⟨[],[],0,?_⟩;show kk _=kk _;rw [v4];rfl
 | succ j ih=>
  intro aA l t hl hf;obtain ⟨aA,rfl⟩:∃q,aA=q+1+1:=⟨aA-2,by omega⟩
  have hj:aC.wrap (((j+1:Nat):Int)-1)=(j:Int):=by rw [cM oQ];omega
  unfold gW Iq;rw [p8,cT rQ];rw [Jo,aD]
  rcases Dk t with _|⟨x,u⟩
  ·dsimp only
   rw [iQ uW,aD,hj,aD,aBf];exact ⟨_,_,_,rfl⟩
  dsimp only
  rw [iQ uW,aD,hj,aD];obtain ⟨l2,t2,i2,hh⟩:=ih (aA+1) (l++[x]) u uW oQ;refine ⟨l2,t2,i2,hh.trans ?_⟩;show _=lpB kk l (kk (l2,t2,true,i2)) ((Iq Dk j u).bind fun q=>some (x::q.1,q.2))
  rcases Iq Dk j u with _|⟨m,v⟩
  ·rfl
  ·show kk _=kk _;rw [pL];rfl
theorem aBg (N:Nat) (kk) (aA:Nat) (l:List aR) (t:aR) (i:Int):gV N kk (aA+1) (l,t,true,i)=kk (l,t,true,i):=by
 unfold gV
 by_cases q:0<i
 ·rw [cT (dT q),cF rQ]
 ·rw [cF (dF q)]
theorem aMY (N:Nat) (kk):∀(j aA:Nat) (l:List aR) (t:aR),l.length+j<2147483648→j+1<aA→∃l2 t2 i2,gV N kk aA (l,t,false,(j:Int))=lpB kk l (kk (l2,t2,true,i2)) (Iq Ty j t):=by
 intro j
 induction j with
 | zero=>
  intro aA l t hl hf;obtain ⟨aA,rfl⟩:=kF aA oQ;unfold gV;rw [cF rQ];refine ⟨[],[],0,?_⟩;show kk _=kk _;rw [v4];rfl
 | succ j ih=>
  intro aA l t hl hf;obtain ⟨aA,rfl⟩:∃q,aA=q+1+1:=⟨aA-2,by omega⟩
  have hj:aC.wrap (((j+1:Nat):Int)-1)=(j:Int):=by rw [cM oQ];omega
  unfold gV Iq;rw [p8,cT rQ];obtain ⟨t0,ht⟩:=aBe (N:=N) t;rw [ht,aD]
  rcases Ty t with _|⟨x,u⟩
  ·dsimp only
   rw [iQ uW,aD,hj,aD,aBg];exact ⟨_,_,_,rfl⟩
  dsimp only
  rw [iQ uW,aD,hj,aD];obtain ⟨l2,t2,i2,hh⟩:=ih (aA+1) (l++[x]) u uW oQ;refine ⟨l2,t2,i2,hh.trans ?_⟩;show _=lpB kk l (kk (l2,t2,true,i2)) ((Iq Ty j u).bind fun q=>some (x::q.1,q.2))
  rcases Iq Ty j u with _|⟨m,v⟩
  ·rfl
  ·show kk _=kk _;rw [pL];rfl
theorem VC (N:Nat) (kk) (aA:Nat) (l:List aN) (t:aR) (i:Int):gU N kk (aA+1) (l,t,true,i)=kk (l,t,true,i):=by
 unfold gU
 by_cases q:0<i
 ·rw [cT (dT q),cF rQ]
 ·rw [cF (dF q)]
theorem aMZ (N:Nat) (kk):∀(j aA:Nat) (l:List aN) (t:aR),l.length+j<2147483648→j+1<aA→∃l2 t2 i2,gU N kk aA (l,t,false,(j:Int))=lpB kk l (kk (l2,t2,true,i2)) (Iq SF j t):=by
 intro j
 induction j with
 | zero=>
  intro aA l t hl hf;obtain ⟨aA,rfl⟩:=kF aA oQ;unfold gU;rw [cF rQ];refine ⟨[],[],0,?_⟩;show kk _=kk _;rw [v4];rfl
 | succ j ih=>
  intro aA l t hl hf;obtain ⟨aA,rfl⟩:∃q,aA=q+1+1:=⟨aA-2,by omega⟩
  have hj:aC.wrap (((j+1:Nat):Int)-1)=(j:Int):=by rw [cM oQ];omega
  unfold gU Iq;rw [p8,cT rQ];rw [Jo,aD];rw [show SF t=((Dk t).bind fun p=>(Dk p.2).bind fun q=>some ((p.1,q.1),q.2)) from rfl]
  rcases Dk t with _|⟨x,u⟩
  ·dsimp only
   rw [Qq,aD]
   dsimp only
   rw [iQ uW,aD,hj,aD,VC];exact ⟨_,_,_,rfl⟩
  dsimp only
  rw [Jo,aD];simp only [Option.bind_some]
  rcases Dk u with _|⟨y,v⟩
  ·dsimp only
   rw [iQ uW,aD,hj,VC];exact ⟨_,_,_,rfl⟩
  dsimp only
  rw [iQ uW,aD,hj];obtain ⟨l2,t2,i2,hh⟩:=ih (aA+1) (l++[(x,y)]) v uW oQ;refine ⟨l2,t2,i2,hh.trans ?_⟩;show _=lpB kk l (kk (l2,t2,true,i2)) ((Iq SF j v).bind fun q=>some ((x,y)::q.1,q.2))
  rcases Iq SF j v with _|⟨m,z⟩
  ·rfl
  ·show kk _=kk _;rw [pL];rfl
theorem VD (N:Nat) (kk) (aA:Nat) (l:List aN) (t:aR) (i:Int):gT N kk (aA+1) (l,t,true,i)=kk (l,t,true,i):=by
 unfold gT
 by_cases q:0<i
 ·rw [cT (dT q),cF rQ]
 ·rw [cF (dF q)]
theorem aM0 (N:Nat) (kk):∀(j aA:Nat) (l:List aN) (t:aR),l.length+j<2147483648→j+1<aA→∃l2 t2 i2,gT N kk aA (l,t,false,(j:Int))=lpB kk l (kk (l2,t2,true,i2)) (Iq SF j t):=by
 intro j
 induction j with
 | zero=>
  intro aA l t hl hf;obtain ⟨aA,rfl⟩:=kF aA oQ;unfold gT;rw [cF rQ];refine ⟨[],[],0,?_⟩;show kk _=kk _;rw [v4];rfl
 | succ j ih=>
  intro aA l t hl hf;obtain ⟨aA,rfl⟩:∃q,aA=q+1+1:=⟨aA-2,by omega⟩
  have hj:aC.wrap (((j+1:Nat):Int)-1)=(j:Int):=by rw [cM oQ];omega
  unfold gT Iq;rw [p8,cT rQ];rw [Jo,aD];rw [show SF t=((Dk t).bind fun p=>(Dk p.2).bind fun q=>some ((p.1,q.1),q.2)) from rfl]
  rcases Dk t with _|⟨x,u⟩
  ·dsimp only
   rw [Qq,aD]
   dsimp only
   rw [iQ uW,aD,hj,aD,VD];exact ⟨_,_,_,rfl⟩
  dsimp only
  rw [Jo,aD];simp only [Option.bind_some]
  rcases Dk u with _|⟨y,v⟩
  ·dsimp only
   rw [iQ uW,aD,hj,VD];exact ⟨_,_,_,rfl⟩
  dsimp only
  rw [iQ uW,aD,hj];obtain ⟨l2,t2,i2,hh⟩:=ih (aA+1) (l++[(x,y)]) v uW oQ;refine ⟨l2,t2,i2,hh.trans ?_⟩;show _=lpB kk l (kk (l2,t2,true,i2)) ((Iq SF j v).bind fun q=>some ((x,y)::q.1,q.2))
  rcases Iq SF j v with _|⟨m,z⟩
  ·rfl
  ·show kk _=kk _;rw [pL];rfl
theorem aM1 (N:Nat) (kk) (aA:Nat) (S:aR) (b:Bool) (x0 x1 x2 x3:Int):bR N kk (aA+1) (S,b,x0,x1,x2,x3,0)=dH (aG N S b) fun r=>bR N kk aA (r.2.1,r.2.2,r.1,x1,x2,x3,1):=by
 conv=>lhs;unfold bR
 rw [cT rQ]
 rfl
theorem aM2 (N:Nat) (kk) (aA:Nat) (S:aR) (b:Bool) (x0 x1 x2 x3:Int):bR N kk (aA+1) (S,b,x0,x1,x2,x3,1)=dH (aG N S b) fun r=>bR N kk aA (r.2.1,r.2.2,x0,r.1,x2,x3,2):=by
 conv=>lhs;unfold bR
 rw [cT rQ]
 rfl
theorem aM3 (N:Nat) (kk) (aA:Nat) (S:aR) (b:Bool) (x0 x1 x2 x3:Int):bR N kk (aA+1) (S,b,x0,x1,x2,x3,2)=dH (aG N S b) fun r=>bR N kk aA (r.2.1,r.2.2,x0,x1,r.1,x3,3):=by
 conv=>lhs;unfold bR
 rw [cT rQ]
 rfl
theorem aM4 (N:Nat) (kk) (aA:Nat) (S:aR) (b:Bool) (x0 x1 x2 x3:Int):bR N kk (aA+1) (S,b,x0,x1,x2,x3,3)=dH (aG N S b) fun r=>bR N kk aA (r.2.1,r.2.2,x0,x1,x2,r.1,4):=by
 conv=>lhs;unfold bR
 rw [cT rQ]
 rfl
theorem aM5 (N:Nat) (kk) (aA:Nat) (S:aR) (b:Bool) (x0 x1 x2 x3:Int):bR N kk (aA+1) (S,b,x0,x1,x2,x3,4)=kk (S,b,x0,x1,x2,x3,4):=by
 conv=>lhs;unfold bR
 rw [cF rQ]
theorem aM6 (N:Nat) (kk) (aA:Nat) (S:aR) (b:Bool) (x0 x1 x2:Int):bY N kk (aA+1) (S,b,x0,x1,x2,0)=dH (aG N S b) fun r=>bY N kk aA (r.2.1,r.2.2,r.1,x1,x2,1):=by
 conv=>lhs;unfold bY
 rw [cT rQ]
 rfl
theorem aM7 (N:Nat) (kk) (aA:Nat) (S:aR) (b:Bool) (x0 x1 x2:Int):bY N kk (aA+1) (S,b,x0,x1,x2,1)=dH (aG N S b) fun r=>bY N kk aA (r.2.1,r.2.2,x0,r.1,x2,2):=by
 conv=>lhs;unfold bY
 rw [cT rQ]
 rfl
theorem aM8 (N:Nat) (kk) (aA:Nat) (S:aR) (b:Bool) (x0 x1 x2:Int):bY N kk (aA+1) (S,b,x0,x1,x2,2)=dH (aG N S b) fun r=>bY N kk aA (r.2.1,r.2.2,x0,x1,r.1,3):=by
 conv=>lhs;unfold bY
 rw [cT rQ]
 rfl
theorem aM9 (N:Nat) (kk) (aA:Nat) (S:aR) (b:Bool) (x0 x1 x2:Int):bY N kk (aA+1) (S,b,x0,x1,x2,3)=kk (S,b,x0,x1,x2,3):=by
 conv=>lhs;unfold bY
 rw [cF rQ]
theorem aNa (N:Nat) (kk) (aA:Nat) (S:aR) (b:Bool) (x0 x1 x2 x3 x4 x5 x6 x7 x8:Int):aJ N kk (aA+1) (S,b,x0,x1,x2,x3,x4,x5,x6,x7,x8,0)=dH (aG N S b) fun r=>aJ N kk aA (r.2.1,r.2.2,r.1,x1,x2,x3,x4,x5,x6,x7,x8,1):=by
 conv=>lhs;unfold aJ
 rw [cT rQ]
 rfl
theorem aNb (N:Nat) (kk) (aA:Nat) (S:aR) (b:Bool) (x0 x1 x2 x3 x4 x5 x6 x7 x8:Int):aJ N kk (aA+1) (S,b,x0,x1,x2,x3,x4,x5,x6,x7,x8,1)=dH (aG N S b) fun r=>aJ N kk aA (r.2.1,r.2.2,x0,r.1,x2,x3,x4,x5,x6,x7,x8,2):=by
 conv=>lhs;unfold aJ
 rw [cT rQ]
 rfl
theorem aNc (N:Nat) (kk) (aA:Nat) (S:aR) (b:Bool) (x0 x1 x2 x3 x4 x5 x6 x7 x8:Int):aJ N kk (aA+1) (S,b,x0,x1,x2,x3,x4,x5,x6,x7,x8,2)=dH (aG N S b) fun r=>aJ N kk aA (r.2.1,r.2.2,x0,x1,r.1,x3,x4,x5,x6,x7,x8,3):=by
 conv=>lhs;unfold aJ
 rw [cT rQ]
 rfl
theorem aNd (N:Nat) (kk) (aA:Nat) (S:aR) (b:Bool) (x0 x1 x2 x3 x4 x5 x6 x7 x8:Int):aJ N kk (aA+1) (S,b,x0,x1,x2,x3,x4,x5,x6,x7,x8,3)=dH (aG N S b) fun r=>aJ N kk aA (r.2.1,r.2.2,x0,x1,x2,r.1,x4,x5,x6,x7,x8,4):=by
 conv=>lhs;unfold aJ
 rw [cT rQ]
 rfl
theorem aNe (N:Nat) (kk) (aA:Nat) (S:aR) (b:Bool) (x0 x1 x2 x3 x4 x5 x6 x7 x8:Int):aJ N kk (aA+1) (S,b,x0,x1,x2,x3,x4,x5,x6,x7,x8,4)=dH (aG N S b) fun r=>aJ N kk aA (r.2.1,r.2.2,x0,x1,x2,x3,r.1,x5,x6,x7,x8,5):=by
 conv=>lhs;unfold aJ
 rw [cT rQ]
 rfl
theorem aNf (N:Nat) (kk) (aA:Nat) (S:aR) (b:Bool) (x0 x1 x2 x3 x4 x5 x6 x7 x8:Int):aJ N kk (aA+1) (S,b,x0,x1,x2,x3,x4,x5,x6,x7,x8,5)=dH (aG N S b) fun r=>aJ N kk aA (r.2.1,r.2.2,x0,x1,x2,x3,x4,r.1,x6,x7,x8,6):=by
 conv=>lhs;unfold aJ
 rw [cT rQ]
 rfl
theorem aNg (N:Nat) (kk) (aA:Nat) (S:aR) (b:Bool) (x0 x1 x2 x3 x4 x5 x6 x7 x8:Int):aJ N kk (aA+1) (S,b,x0,x1,x2,x3,x4,x5,x6,x7,x8,6)=dH (aG N S b) fun r=>aJ N kk aA (r.2.1,r.2.2,x0,x1,x2,x3,x4,x5,r.1,x7,x8,7):=by
 conv=>lhs;unfold aJ
 rw [cT rQ]
 rfl
theorem aNh (N:Nat) (kk) (aA:Nat) (S:aR) (b:Bool) (x0 x1 x2 x3 x4 x5 x6 x7 x8:Int):aJ N kk (aA+1) (S,b,x0,x1,x2,x3,x4,x5,x6,x7,x8,7)=dH (aG N S b) fun r=>aJ N kk aA (r.2.1,r.2.2,x0,x1,x2,x3,x4,x5,x6,r.1,x8,8):=by
 conv=>lhs;unfold aJ
 rw [cT rQ]
 rfl
theorem aNi (N:Nat) (kk) (aA:Nat) (S:aR) (b:Bool) (x0 x1 x2 x3 x4 x5 x6 x7 x8:Int):aJ N kk (aA+1) (S,b,x0,x1,x2,x3,x4,x5,x6,x7,x8,8)=dH (aG N S b) fun r=>aJ N kk aA (r.2.1,r.2.2,x0,x1,x2,x3,x4,x5,x6,x7,r.1,9):=by
 conv=>lhs;unfold aJ
 rw [cT rQ]
 rfl
theorem aNj (N:Nat) (kk) (aA:Nat) (S:aR) (b:Bool) (x0 x1 x2 x3 x4 x5 x6 x7 x8:Int):aJ N kk (aA+1) (S,b,x0,x1,x2,x3,x4,x5,x6,x7,x8,9)=kk (S,b,x0,x1,x2,x3,x4,x5,x6,x7,x8,9):=by
 conv=>lhs;unfold aJ
 rw [cF rQ]
theorem aNk (N:Nat) (hN:20≤N) (kk) (S:aR) (b:Bool) (x0 x1 x2 x3:Int):bR N kk N (S,b,x0,x1,x2,x3,0)=dH (aG N S b) fun r0=>dH (aG N r0.2.1 r0.2.2) fun r1=>dH (aG N r1.2.1 r1.2.2) fun r2=>dH (aG N r2.2.1 r2.2.2) fun r3=>kk (r3.2.1,r3.2.2,r0.1,r1.1,r2.1,r3.1,4):=by
 obtain ⟨M,hM⟩:∃q,N=q+5:=⟨N-5,by omega⟩
 have e:bR N kk N (S,b,x0,x1,x2,x3,0)=bR N kk (M+5) (S,b,x0,x1,x2,x3,0):=congrFun (bZ (bR N kk) hM) _;rw [e,aM1];refine bZ (dH _) (funext fun r0=>?_);rw [aM2];refine bZ (dH _) (funext fun r1=>?_);rw [aM3];refine bZ (dH _) (funext fun r2=>?_);rw [aM4];refine bZ (dH _) (funext fun r3=>?_);rw [aM5]
theorem aNl (N:Nat) (hN:20≤N) (kk) (S:aR) (b:Bool) (x0 x1 x2:Int):bY N kk N (S,b,x0,x1,x2,0)=dH (aG N S b) fun r0=>dH (aG N r0.2.1 r0.2.2) fun r1=>dH (aG N r1.2.1 r1.2.2) fun r2=>kk (r2.2.1,r2.2.2,r0.1,r1.1,r2.1,3):=by
 obtain ⟨M,hM⟩:∃q,N=q+4:=⟨N-4,by omega⟩
 have e:bY N kk N (S,b,x0,x1,x2,0)=bY N kk (M+4) (S,b,x0,x1,x2,0):=congrFun (bZ (bY N kk) hM) _;rw [e,aM6];refine bZ (dH _) (funext fun r0=>?_);rw [aM7];refine bZ (dH _) (funext fun r1=>?_);rw [aM8];refine bZ (dH _) (funext fun r2=>?_);rw [aM9]
theorem aNm (N:Nat) (hN:20≤N) (kk) (S:aR) (b:Bool) (x0 x1 x2 x3 x4 x5 x6 x7 x8:Int):aJ N kk N (S,b,x0,x1,x2,x3,x4,x5,x6,x7,x8,0)=dH (aG N S b) fun r0=>dH (aG N r0.2.1 r0.2.2) fun r1=>dH (aG N r1.2.1 r1.2.2) fun r2=>dH (aG N r2.2.1 r2.2.2) fun r3=>dH (aG N r3.2.1 r3.2.2) fun r4=>dH (aG N r4.2.1 r4.2.2) fun r5=>dH (aG N r5.2.1 r5.2.2) fun r6=>dH (aG N r6.2.1 r6.2.2) fun r7=>dH (aG N r7.2.1 r7.2.2) fun r8=>kk (r8.2.1,r8.2.2,r0.1,r1.1,r2.1,r3.1,r4.1,r5.1,r6.1,r7.1,r8.1,9):=by
 obtain ⟨M,hM⟩:∃q,N=q+10:=⟨N-10,by omega⟩
 have e:aJ N kk N (S,b,x0,x1,x2,x3,x4,x5,x6,x7,x8,0)=aJ N kk (M+10) (S,b,x0,x1,x2,x3,x4,x5,x6,x7,x8,0):=congrFun (bZ (aJ N kk) hM) _;rw [e,aNa];refine bZ (dH _) (funext fun r0=>?_);rw [aNb];refine bZ (dH _) (funext fun r1=>?_);rw [aNc];refine bZ (dH _) (funext fun r2=>?_);rw [aNd];refine bZ (dH _) (funext fun r3=>?_);rw [aNe];refine bZ (dH _) (funext fun r4=>?_);rw [aNf];refine bZ (dH _) (funext fun r5=>?_);rw [aNg];refine bZ (dH _) (funext fun r6=>?_);rw [aNh];refine bZ (dH _) (funext fun r7=>?_);rw [aNi];refine bZ (dH _) (funext fun r8=>?_);rw [aNj]
theorem aLe {β γ:Type} {out:Option γ→Option β} {no:Option β} {N:Nat} (hno:out none=no) {k:M5→Option β} {g:FR→Option γ} (h:∀n,GD no (fun S b=>k (n,S,b)) (fun S=>out (g (n,S)))) (S:aR):dH (gR N S false) k=out ((Ty S).bind g):=(GT (N:=N) hno h).2 S
abbrev aNn:=Kk
def RJ:Option aNn:=(some (0,0,0,0,0,([]:List Int),([]:List aR),0,0,0,0,0,0,([]:List aN),0,0,0,0,0,0,0,0,0,0,0,0,([]:List aN),0,false))
def Cu (N:Nat):Option (aKl×aR)→Option aNn
 | none=>RJ
 | some ((W,H,D,K,R,Ls,St,ph,b0,b1,b2,b3,w,sp,g0,g1,g2,m0,m1,m2,m3,m4,m5,m6,m7,m8,cv,am),t)=>
  cond (!decide (t=([]:aR))) RJ (dH (mE N W H D K R Ls St ph b0 b1 b2 b3 w sp g0 g1 g2 m0 m1 m2 m3 m4 m5 m6 m7 m8 cv am) fun r=>cond (!decide (r.2.2.2=0)) RJ (some (W,H,D,K,R,Ls,St,ph,b0,b1,b2,b3,w,sp,g0,g1,g2,m0,m1,m2,m3,m4,m5,m6,m7,m8,cv,am,true)))
theorem VE (N:Nat) (hN:2147483655≤N) (s:aR):nF N s=Cu N (YH s):=by
 have no:Cu N none=RJ:=rfl;have h20:20≤N:=oQ
 unfold nF YH;refine aLe (out:=Cu N) no (fun m=>?_) s
 dsimp only
 by_cases hm:m=[100,97,114,107]
 rotate_left
 ·refine ⟨fun S=>?_,fun S=>?_⟩
  ·dsimp only
   rw [cT (by rw [dF hm];rfl)];rfl
  ·dsimp only
   rw [cT (by rw [dF hm];rfl),aF (show m≠Wo from hm)];rfl
 have hc:∀{δ:Type} (x y:δ),cond (!decide (m=[100,97,114,107])) x y=y:=fun x y=>cF (by rw [dT hm];rfl) x y
 simp only [hc,aE (show ¬m≠Wo from fun q=>q hm)];refine GN (out:=Cu N) no fun W=>?_
 dsimp only
 refine GN (out:=Cu N) no fun H=>?_
 dsimp only
 refine GN (out:=Cu N) no fun D=>?_
 dsimp only
 refine GN (out:=Cu N) no fun K=>?_
 dsimp only
 refine GN (out:=Cu N) no fun R=>?_
 dsimp only
 refine GL (out:=Cu N) hN no (lp:=gW N) (aBf N _) (aMX N _) fun Ls i=>?_
 dsimp only
 refine GL (out:=Cu N) hN no (lp:=gV N) (aBg N _) (aMY N _) fun St i=>?_
 dsimp only
 refine GN (out:=Cu N) no fun ph=>?_
 dsimp only
 simp only [aNk N h20];refine GN (out:=Cu N) no fun b0=>?_
 dsimp only
 refine GN (out:=Cu N) no fun b1=>?_
 dsimp only
 refine GN (out:=Cu N) no fun b2=>?_
 dsimp only
 refine GN (out:=Cu N) no fun b3=>?_
 dsimp only
 refine GN (out:=Cu N) no fun w=>?_
 dsimp only
 refine GL (out:=Cu N) hN no (lp:=gU N) (VC N _) (aMZ N _) fun sp i=>?_
 dsimp only
 simp only [aNl N h20];refine GN (out:=Cu N) no fun g0=>?_
 dsimp only
 refine GN (out:=Cu N) no fun g1=>?_
 dsimp only
 refine GN (out:=Cu N) no fun g2=>?_
 dsimp only
 simp only [aNm N h20];refine GN (out:=Cu N) no fun m0=>?_
 dsimp only
 refine GN (out:=Cu N) no fun m1=>?_
 dsimp only
 refine GN (out:=Cu N) no fun m2=>?_
 dsimp only
 refine GN (out:=Cu N) no fun m3=>?_
 dsimp only
 refine GN (out:=Cu N) no fun m4=>?_
 dsimp only
 refine GN (out:=Cu N) no fun m5=>?_
 dsimp only
 refine GN (out:=Cu N) no fun m6=>?_
 dsimp only
 refine GN (out:=Cu N) no fun m7=>?_
 dsimp only
 refine GN (out:=Cu N) no fun m8=>?_
 dsimp only
 refine GL (out:=Cu N) hN no (lp:=gT N) (VD N _) (aM0 N _) fun cv i=>?_
 dsimp only
 refine GN (out:=Cu N) no fun am=>?_
 dsimp only
 exact ⟨fun S=>rfl,fun S=>rfl⟩
theorem aHU (D:aR):(byB D).length=(D.length+7)/8:=by unfold byB;rw [xK];simp [gr]
theorem aFj {W D K rows:Int} {Ls:List Int} {s:aR} {l:List Int} (h:stripR W D K Ls rows s=some l):s.length≤16384:=by
 unfold stripR at h
 split at h
 ·split at h
  ·rename_i hh
   obtain ⟨d,n,_,_,h1,h2,h3,_⟩:=KU hh;have:=tM h2 h1.2
   omega
  ·cases h
 ·split at h
  ·rename_i hh
   have h1:=Xe s W rows K Ls hh.1;have h2:=RG s W rows K Ls
   generalize uU s W rows K Ls=r at h1 h2
   unfold Jn at h1
   split at h1
   ·injection h1 with _ q;cases q
   split at h1
   ·injection h1 with _ q;cases q
   split at h1
   ·rename_i q1 q2 q3;injection h1 with _ q;exact absurd q q3
   split at h1
   ·injection h1 with q _
    rw [←q,aHU];have:=Nr (nG Ls) (aA5 r.1.toNat r.2.2.1 K);rw [Zz] at this
    omega
   ·injection h1 with _ q;cases q
  ·cases h
theorem RK {W D K:Int} {Ls:List Int} {H R:Nat}:∀(t:List aR) (i:Nat) (acc P:List Int),BA W D K Ls H R i t acc=some P→∀s∈t,s.length≤16384
 | [],i,acc,P,h,s,hs=>by cases hs
 | s0::t,i,acc,P,h,s,hs=>by
  unfold BA at h
  split at h
  ·cases h
  ·rename_i l hl
   rcases List.mem_cons.1 hs with rfl|hs
   ·exact aFj hl
   ·exact RK t (i+1) _ P h s hs
section
variable (W H D K R:Int) (Ls:List Int) (St:List aR) (ph b0 b1 b2 b3 w:Int) (sp:List aN) (g0 g1 g2 m0 m1 m2 m3 m4 m5 m6 m7 m8:Int) (cv:List aN) (am:Int)
theorem Xk {f:Bool} (hc:f=true↔pU cv) (h:(BB W H D K R Ls St ph b0 b1 b2 b3 w sp g0 g1 g2 m0 m1 m2 m3 m4 m5 m6 m7 m8 am f).2.2.2=0) :
  aMd W H D K R Ls St ph b0 b1 b2 b3 w sp g0 g1 g2 m0 m1 m2 m3 m4 m5 m6 m7 m8 cv am∧Ls.length≤17∧St.length≤64∧(∀s∈St,s.length≤16384)∧sp.length≤64∧cv.length≤16:=by
 unfold BB at h
 by_cases h1:AL W H D K R Ls=0
 rotate_left
 ·rw [aF h1] at h;exact absurd h h1
 obtain ⟨q1,q2,q3,q4⟩:=Ns W H D K R Ls h1;rw [aE (fun q=>q h1)] at h
 by_cases h2:St.length=EH H.toNat R.toNat
 rotate_left
 ·rw [aF h2] at h;cases h
 rw [aE (fun q=>q h2)] at h
 by_cases h3:O0 W H ph b0 b1 b2 b3 w sp g0 g1 g2 m0 m1 m2 m3 m4 m5 m6 m7 m8 am f=0
 rotate_left
 ·rw [aF h3] at h;exact absurd h h3
 rw [aE (fun q=>q h3)] at h;obtain ⟨p1,p2,p3⟩:=aHQ W H ph b0 b1 b2 b3 w sp g0 g1 g2 m0 m1 m2 m3 m4 m5 m6 m7 m8 am h3
 rcases hp:BA W D K Ls H.toNat R.toNat 0 St [] with _|P
 ·rw [hp] at h;cases h
 have hall:=RK St 0 [] P hp;have hcv:=hc.1 p2;have hcl:=aCx hcv;unfold EG at q1;have hcn:=KV (H:=H.toNat) (R:=R.toNat) oQ oQ
 have hLs:∀x∈Ls,is32 x:=by
  intro x hx
  by_cases hK:0<K
  ·obtain ⟨ns,rfl,h15,_⟩:=DM (q4 hK);unfold uT at hx;obtain ⟨n,hn,rfl⟩:=List.mem_map.1 hx;have:=h15 n hn;unfold is32;omega
  ·unfold AL at h1;rw [aE (fun q=>q q1),aE (fun q=>q q2),aE hK] at h1
   split at h1
   ·cases h1
   ·rename_i q
    have:Ls=[]:=List.length_eq_zero_iff.1 oQ;subst this;cases hx
 unfold zP Dh qQq at p1;simp only [tK,List.all_nil,o9,decide_eq_true_eq,Bool.and_true,okM] at p1;obtain ⟨a1,a2,⟨a3,a4,a5,a6⟩,a7,a8,⟨c1,c2,c3⟩,⟨e0,e1,e2,e3,e4,e5,e6,e7,e8⟩,a9⟩:=p1
 have hsp:∀x∈sp,is32 x.1∧is32 x.2:=by
  intro x hx;have:=List.all_eq_true.1 a8 x hx;unfold gX at this;simp only [o9,decide_eq_true_eq] at this;unfold is32;omega
 have aPw:∀x∈cv,is32 x.1∧is32 x.2:=by
  intro x hx;obtain ⟨i,hi,rfl⟩:=List.getElem_of_mem hx;have:=hcv.bd hi;unfold cX cY at this;rw [qG,f9 hi] at this;simp only [Option.getD_some] at this;unfold is32;omega
 refine ⟨⟨⟨?_,?_,?_,?_,?_⟩,⟨by omega,hLs⟩,⟨by omega,fun s hs=>by have:=hall s hs;omega⟩,⟨?_,?_,?_,?_,?_,?_⟩,⟨by omega,hsp⟩,⟨?_,?_,?_⟩,⟨?_,?_,?_,?_,?_,?_,?_,?_,?_⟩,⟨by omega,aPw⟩,?_⟩,q3,by omega,hall,a7,hcl⟩
 all_goals (unfold is32;omega)
end
theorem ZD (s:aR):(zV 8589934592 s=Fj∧nF 8589934592 s=RJ)∨∃(W H D K R:Int) (Ls:List Int) (St:List aR) (ph b0 b1 b2 b3 w:Int) (sp:List aN) (g0 g1 g2 m0 m1 m2 m3 m4 m5 m6 m7 m8:Int) (cv:List aN) (am:Int) (f:Bool),
  s=aKm W H D K R Ls St ph b0 b1 b2 b3 w sp g0 g1 g2 m0 m1 m2 m3 m4 m5 m6 m7 m8 cv am∧jP 8589934592 cv=some f∧(f=true↔pU cv)∧(BB W H D K R Ls St ph b0 b1 b2 b3 w sp g0 g1 g2 m0 m1 m2 m3 m4 m5 m6 m7 m8 am f).2.2.2=0 ∧
  zV 8589934592 s=some (W,H,D,K,R,Ls,St,ph,b0,b1,b2,b3,w,sp,g0,g1,g2,m0,m1,m2,m3,m4,m5,m6,m7,m8,cv,am,0)∧nF 8589934592 s=some (W,H,D,K,R,Ls,St,ph,b0,b1,b2,b3,w,sp,g0,g1,g2,m0,m1,m2,m3,m4,m5,m6,m7,m8,cv,am,true):=by
 rw [SS 8589934592 aL,VE 8589934592 aL]
 rcases hp:YH s with _|⟨⟨W,H,D,K,R,Ls,St,ph,b0,b1,b2,b3,w,sp,g0,g1,g2,m0,m1,m2,m3,m4,m5,m6,m7,m8,cv,am⟩,t⟩
 ·exact .inl ⟨rfl,rfl⟩
 unfold Cs Cu
 dsimp only
 by_cases ht:t=[]
 rotate_left
 ·rw [cT (by rw [dF ht];rfl),cT (by rw [dF ht];rfl)];exact .inl ⟨rfl,rfl⟩
 obtain ⟨aPx,hfit⟩:=aGp W H D K R Ls St ph b0 b1 b2 b3 w sp g0 g1 g2 m0 m1 m2 m3 m4 m5 m6 m7 m8 cv am hp ht;have hs:∀y∈St,y.length≤9223372036854775807:=fun y hy=>by have:=hfit.2.2.1.2 y hy;omega
 obtain ⟨f,hb,hb',hc⟩:=Rj cv;rw [cF (by rw [dT ht];rfl),cF (by rw [dT ht];rfl),Xi W H D K R Ls St ph b0 b1 b2 b3 w sp g0 g1 g2 m0 m1 m2 m3 m4 m5 m6 m7 m8 cv am hb hc hs,aD,Uj W H D K R Ls St ph b0 b1 b2 b3 w sp g0 g1 g2 m0 m1 m2 m3 m4 m5 m6 m7 m8 cv am hb' hs,aD]
 by_cases h0:(BB W H D K R Ls St ph b0 b1 b2 b3 w sp g0 g1 g2 m0 m1 m2 m3 m4 m5 m6 m7 m8 am f).2.2.2=0
 rotate_left
 ·rw [cT (by rw [dF h0];rfl),cT (by rw [dF h0];rfl)];exact .inl ⟨rfl,rfl⟩
 rw [cF (by rw [dT h0];rfl),cF (by rw [dT h0];rfl)];exact .inr ⟨W,H,D,K,R,Ls,St,ph,b0,b1,b2,b3,w,sp,g0,g1,g2,m0,m1,m2,m3,m4,m5,m6,m7,m8,cv,am,f,aPx,hb,hc,h0,rfl,rfl⟩
def aFk (eH:Bool):aR:=if eH then [54,53,53,51,53] else [50,53,53]
def Nt (w h:Nat) (eH:Bool):aR:=[80,54,10]++(H3 20 w++(32::(H3 20 h++(10::(aFk eH++[10])))))
def chB (eH:Bool) (n:Int):aR:=nN ((n/256)%256).toNat::(if eH then [nN (n%256).toNat] else [])
def ZE (eH:Bool) (p:Px):aR:=chB eH p.1++(chB eH p.2.1++chB eH p.2.2)
def Xl (w h:Nat) (eH:Bool) (P:List Px):aR:=Nt w h eH++(P.map (ZE eH)).flatten
def ZF (eH:Bool):Nat:=if eH then 2 else 1
theorem LH (eH:Bool) (n:Int):(chB eH n).length=ZF eH:=by unfold chB ZF;cases eH <;> rfl
theorem VF (eH:Bool) (p:Px):(ZE eH p).length=3*ZF eH:=by unfold ZE;rw [kG,kG,LH,LH,LH];omega
theorem G2:∀(k u:Nat),(H3 k u).length≤k
 | 0,_=>pK _
 | k+1,u=>by
  unfold H3
  split
  ·simp
  ·have:=G2 k (u/10);rw [kG];simp;omega
theorem aCA (w h:Nat) (eH:Bool):(Nt w h eH).length≤100:=by
 have h1:=G2 20 w;have h2:=G2 20 h;unfold Nt aFk
 cases eH <;> simp <;> omega
theorem Jp {n:Nat} (h:n≤100000) (N:Nat):lX N (n:Int)=some (H3 20 n):=by
 unfold lX;rw [aF oQ];unfold aAq;rw [aE oQ,fM]
theorem VG {b:aR} {y:Int} (hb:b.length+1≤140737488355328) (hy:0≤y∧y<256):bwb b y=some (b++[nN y.toNat]):=by
 unfold bwb;rw [aF ⟨hb,hy.1,hy.2⟩]
theorem nS {a b:aR} (h:a.length+b.length≤140737488355328):Ai a b=some (a++b):=by
 unfold Ai;rw [aF oQ]
theorem aLf (N:Nat) (eH:Bool) (p:Px) (kk) (b:aR) (hb:b.length+6≤140737488355328) (aA:Nat):rO N eH p kk (aA+4) (b,0)=kk (b++ZE eH p,3):=by
 have st:∀(i:Int) (f:Nat) (b:aR) (e:Int),0≤i∧i<3→idx [p.1,p.2.1,p.2.2] i=some e→b.length+2≤140737488355328→rO N eH p kk (f+1) (b,i)=rO N eH p kk f (b++chB eH e,i+1):=by
  intro i f b e hi he hb
  conv=>lhs;unfold rO
  rw [cT (dT hi.2),he,aD,aMR,VG oQ oQ,aD,cM (x:=i+1) oQ];cases eH
  ·rw [cF rfl];rfl
  ·rw [cT rfl,u8w,VG uW oQ,aD];unfold chB;rw [pL];rfl
 have l:=fun e=>LH eH e
 have hz:ZF eH≤2:=by unfold ZF;split <;> omega
 rw [st 0 (aA+3) b p.1 aL rfl oQ,st _ (aA+2) _ p.2.1 aL rfl (by rw [kG,l];omega),st _ (aA+1) _ p.2.2 aL rfl (by rw [kG,kG,l,l];omega)];unfold rO;rw [cF rQ];unfold ZE;simp only [pL]
 rfl
theorem aLg (N:Nat) (eH:Bool) (p:Px) (kk) (b:aR) (hb:b.length+6≤140737488355328) (aA:Nat):rP N eH p kk (aA+4) (b,0)=kk (b++ZE eH p,3):=by
 have st:∀(i:Int) (f:Nat) (b:aR) (e:Int),0≤i∧i<3→idx [p.1,p.2.1,p.2.2] i=some e→b.length+2≤140737488355328→rP N eH p kk (f+1) (b,i)=rP N eH p kk f (b++chB eH e,i+1):=by
  intro i f b e hi he hb
  conv=>lhs;unfold rP
  rw [cT (dT hi.2),he,aD,aMR,VG oQ oQ,aD,cM (x:=i+1) oQ];cases eH
  ·rw [cF rfl];rfl
  ·rw [cT rfl,u8w,VG uW oQ,aD];unfold chB;rw [pL];rfl
 have l:=fun e=>LH eH e
 have hz:ZF eH≤2:=by unfold ZF;split <;> omega
 rw [st 0 (aA+3) b p.1 aL rfl oQ,st _ (aA+2) _ p.2.1 aL rfl (by rw [kG,l];omega),st _ (aA+1) _ p.2.2 aL rfl (by rw [kG,kG,l,l];omega)];unfold rP;rw [cF rQ];unfold ZE;simp only [pL]
 rfl
theorem aLh (N:Nat) (hN:10≤N) (eH:Bool) (P:List Px) (hP:P.length≤4096) (kk):∀(j k aA:Nat) (b:aR),k+j=P.length→j<aA→b.length+6*j≤100000→xF N P eH kk aA (b,(k:Int))=kk (b++((P.drop k).map (ZE eH)).flatten,(P.length:Int)):=by
 have hz:ZF eH≤2:=by unfold ZF;split <;> omega
 intro j
 induction j with
 | zero=>
  intro k aA b hk hf hb;obtain ⟨aA,rfl⟩:=kF aA oQ;obtain rfl:k=P.length:=oQ
  unfold xF;rw [nL,List.drop_length];simp
 | succ j ih=>
  intro k aA b hk hf hb;obtain ⟨aA,rfl⟩:=kF aA oQ;obtain ⟨M,hM⟩:∃q,N=q+4:=⟨N-4,by omega⟩
  have hlt:k<P.length:=oQ
  unfold xF;rw [p8,dC,f9 hlt,aD];have key:=fun kk=>aLf N eH P[k] kk b oQ M
  rw [←hM] at key;rw [key]
  dsimp only
  rw [cM (x:=(k:Int)+1) oQ];refine Eq.trans (ih (k+1) aA (b++ZE eH P[k]) oQ oQ (by rw [kG,VF];omega)) ?_;rw [zC hlt,pL];rfl
theorem aLi (N:Nat) (hN:10≤N) (eH:Bool) (P:List Px) (hP:P.length≤4096) (kk):∀(j k aA:Nat) (b:aR),k+j=P.length→j<aA→b.length+6*j≤100000→xG N P eH kk aA (b,(k:Int))=kk (b++((P.drop k).map (ZE eH)).flatten,(P.length:Int)):=by
 have hz:ZF eH≤2:=by unfold ZF;split <;> omega
 intro j
 induction j with
 | zero=>
  intro k aA b hk hf hb;obtain ⟨aA,rfl⟩:=kF aA oQ;obtain rfl:k=P.length:=oQ
  unfold xG;rw [nL,List.drop_length];simp
 | succ j ih=>
  intro k aA b hk hf hb;obtain ⟨aA,rfl⟩:=kF aA oQ;obtain ⟨M,hM⟩:∃q,N=q+4:=⟨N-4,by omega⟩
  have hlt:k<P.length:=oQ
  unfold xG;rw [p8,dC,f9 hlt,aD];have key:=fun kk=>aLg N eH P[k] kk b oQ M
  rw [←hM] at key;rw [key]
  dsimp only
  rw [cM (x:=(k:Int)+1) oQ];refine Eq.trans (ih (k+1) aA (b++ZE eH P[k]) oQ oQ (by rw [kG,VF];omega)) ?_;rw [zC hlt,pL];rfl
theorem ZG (N:Nat) (hN:5000≤N) (W H:Int) (P:List Px) (eH:Bool):jS N W H P eH=some (if p7 W H P=true then (Xl W.toNat H.toNat eH P,0) else ([],1)):=by
 obtain ⟨a,b,l,ht⟩:=AC N W H P hN;unfold jS;rw [ht,aD];cases hp:p7 W H P
 ·rw [cT rQ];rfl
 have hs:=mZ hp;obtain ⟨w',rfl⟩:=sC (show 0≤W by have:=hs.1;omega);obtain ⟨k',rfl⟩:=sC (show 0≤H by have:=hs.2.2.1;omega);have hw:w'≤64:=by have:=hs.2.1;omega
 have hk:k'≤64:=by have:=hs.2.2.2.1;omega
 have hP:=(An hs).1;rw [cF rQ,aF rfl,fM,fM];have d1:=G2 20 w';have d2:=G2 20 k';unfold Xl;cases eH
 ·rw [cF rfl,Jp oQ,aD,nS uW,aD,nS uW,aD,Jp oQ,aD,nS uW,aD,nS uW,aD,show lX N 255=some [50,53,53] from rfl,aD,nS uW,aD,nS uW,aD,show ∀x:aR,x.length≤1000→V5 [] x=some x from fun x hx=>by unfold V5;rw [aF uW];rfl,aD]
  ·have key:=aLi N oQ false P hP (fun (Qa,EV)=>some (Qa,(0:Int))) P.length 0 N ([80,54,10]++H3 20 w'++[32]++H3 20 k'++[10]++[50,53,53]++[10]) oQ oQ uW;rw [List.drop_zero] at key;refine Eq.trans key ?_;unfold Nt aFk;simp only [pL,List.cons_append,List.nil_append]
   rfl
  ·simp;omega
 ·rw [cT rfl,Jp oQ,aD,nS uW,aD,nS uW,aD,Jp oQ,aD,nS uW,aD,nS uW,aD,show lX N 65535=some [54,53,53,51,53] from rfl,aD,nS uW,aD,nS uW,aD,show ∀x:aR,x.length≤1000→V5 [] x=some x from fun x hx=>by unfold V5;rw [aF uW];rfl,aD]
  ·have key:=aLh N oQ true P hP (fun (l6,i5)=>some (l6,(0:Int))) P.length 0 N ([80,54,10]++H3 20 w'++[32]++H3 20 k'++[10]++[54,53,53,51,53]++[10]) oQ oQ uW;rw [List.drop_zero] at key;refine Eq.trans key ?_;unfold Nt aFk;simp only [pL,List.cons_append,List.nil_append]
   rfl
  ·simp;omega
theorem Xm (u:Nat):toB ([iH.wrap (aC.wrap (48+(mN (u:Int) 10)))]:List Int)=[nN (48+u%10)]:=by
 rw [show mN (u:Int) 10=((u%10:Nat):Int) from rfl,cM oQ,u8w];show [nN _]=_
 congr 2
 omega
theorem Nu (N:Nat) (hN:10≤N) {u:Nat} (hu:u<100):oG N (u:Int)=some (H3 20 u):=by
 obtain ⟨M,rfl⟩:∃q,N=q+2:=⟨N-2,by omega⟩
 unfold oG mK;rw [Xm]
 by_cases q:u<10
 ·rw [p8,show H3 20 u=[nN (48+u)] by unfold H3;rw [aF q],show u%10=u by omega]
 ·rw [nL,show gI (u:Int) 10=((u/10:Nat):Int) from rfl,cM oQ];unfold mK;rw [Xm,p8,aD]
  have e:H3 20 u=[nN (48+u/10)]++[nN (48+u%10)]:=by
   unfold H3;rw [aE q]
   congr 1
   unfold H3;rw [aF oQ]
  rw [show u/10%10=u/10 by omega,nS sQ,aD,e]
theorem aHV (N:Nat) (hN:10≤N) {w h:Nat} (hw:w<100) (hh:h<100) (eH:Bool):vD N (w:Int) (h:Int) eH=some (Nt w h eH):=by
 have d1:=G2 20 w;have d2:=G2 20 h;unfold vD Nt aFk;cases eH
 ·rw [cF rfl,Nu N hN hw,aD,nS uW,aD,nS uW,aD,Nu N hN hh,aD,nS uW,aD,nS uW,aD,nS uW,aD,nS uW,aD];simp only [pL,List.cons_append,List.nil_append]
  rfl
 ·rw [cT rfl,Nu N hN hw,aD,nS uW,aD,nS uW,aD,Nu N hN hh,aD,nS uW,aD,nS uW,aD,nS uW,aD,nS uW,aD];simp only [pL,List.cons_append,List.nil_append]
  rfl
theorem Xn (b:aR) {y:Int} (hy:0≤y∧y<256):rT b++[y]=rT (b++[nN y.toNat]):=by
 rw [Qh]
 congr 1
 show [y]=[(((nN y.toNat).toNat:Nat):Int)];rw [PJ hy]
theorem aLj (N:Nat) (eH:Bool) (p:Px) (hp:sW p=true) (kk) (b:aR) (hb:b.length+6≤140737488355328) (aA:Nat):fV N eH p kk (aA+4) (rT b,0)=kk (rT (b++ZE eH p),3):=by
 have ok:(0≤p.1∧p.1≤65535)∧(0≤p.2.1∧p.2.1≤65535)∧(0≤p.2.2∧p.2.2≤65535):=by simpa [sW,and_assoc] using hp
 have st:∀(i:Int) (f:Nat) (b:aR) (e:Int),0≤i∧i<3→idx [p.1,p.2.1,p.2.2] i=some e→0≤e∧e≤65535→b.length+2≤140737488355328→fV N eH p kk (f+1) (rT b,i)=fV N eH p kk f (rT (b++chB eH e),i+1):=by
  intro i f b e hi he hr hb;have hin:inr i 3=some ():=by unfold inr;rw [aF ⟨hi.1,hi.2⟩]
  have e1:iH.wrap (aC.wrap (gI e 256))=(e/256)%256:=by
   obtain ⟨m,rfl⟩:=sC hr.1;rw [show gI (m:Int) 256=((m/256:Nat):Int) from rfl,cM oQ,u8w];rfl
  conv=>lhs;unfold fV
  rw [cT (dT hi.2),hin,aD,he,aD,e1,iQ (by rw [yD];simp;omega),aD,Xn b oQ];cases eH
  ·rw [cF rfl,cM (x:=i+1) oQ,aD];rfl
  ·rw [cT rfl,aD,aD,u8w,iQ (by rw [yD];simp;omega),aD,Xn _ oQ,cM (x:=i+1) oQ,aD];unfold chB;rw [pL];rfl
 have l:=fun e=>LH eH e
 have hz:ZF eH≤2:=by unfold ZF;split <;> omega
 rw [st 0 (aA+3) b p.1 aL rfl ok.1 oQ,st _ (aA+2) _ p.2.1 aL rfl ok.2.1 (by rw [kG,l];omega),st _ (aA+1) _ p.2.2 aL rfl ok.2.2 (by rw [kG,kG,l,l];omega)];unfold fV;rw [cF rQ];unfold ZE;simp only [pL]
 rfl
theorem aLk (N:Nat) (hN:10≤N) (eH:Bool) (P:List Px) (hP:P.length≤4096) (hok:P.all sW=true) (kk):∀(j k aA:Nat) (b:aR),k+j=P.length→j<aA→b.length+6*j≤100000→lT N P eH kk aA (rT b,(k:Int))=kk (rT (b++((P.drop k).map (ZE eH)).flatten),(P.length:Int)):=by
 have hz:ZF eH≤2:=by unfold ZF;split <;> omega
 intro j
 induction j with
 | zero=>
  intro k aA b hk hf hb;obtain ⟨aA,rfl⟩:=kF aA oQ;obtain rfl:k=P.length:=oQ
  unfold lT;rw [nL,List.drop_length];simp
 | succ j ih=>
  intro k aA b hk hf hb;obtain ⟨aA,rfl⟩:=kF aA oQ;obtain ⟨M,hM⟩:∃q,N=q+4:=⟨N-4,by omega⟩
  have hlt:k<P.length:=oQ
  unfold lT j6;rw [p8,dC,f9 hlt,aD,aD];have key:=fun kk=>aLj N eH P[k] (List.all_eq_true.1 hok _ (List.getElem_mem hlt)) kk b oQ M
  rw [←hM] at key;refine (key _).trans ?_
  dsimp only
  rw [cM (x:=(k:Int)+1) oQ,aD];refine Eq.trans (ih (k+1) aA (b++ZE eH P[k]) oQ oQ (by rw [kG,VF];omega)) ?_;rw [zC hlt,pL];rfl
theorem ZH (N:Nat) (hN:5000≤N) {W H:Int} {P:List Px} (hp:p7 W H P=true) (eH:Bool):iP N W H P eH=some (Xl W.toNat H.toNat eH P):=by
 have hs:=mZ hp
 have hok:P.all sW=true:=by
  unfold p7 at hp;rw [o9] at hp;exact hp.2
 obtain ⟨w',rfl⟩:=sC (show 0≤W by have:=hs.1;omega);obtain ⟨k',rfl⟩:=sC (show 0≤H by have:=hs.2.2.1;omega);have hw:w'≤64:=by have:=hs.2.1;omega
 have hk:k'≤64:=by have:=hs.2.2.2.1;omega
 have hP:=(An hs).1;have hl:=aCA w' k' eH;unfold iP Xl;rw [aHV N oQ oQ oQ,aD,show szB (Nt w' k' eH)=some () by unfold szB;rw [aF oQ],aD];have key:=aLk N oQ eH P hP hok (fun (l12,i4)=>some (toB l12)) P.length 0 N (Nt w' k' eH) oQ oQ oQ;rw [List.drop_zero] at key;refine Eq.trans key ?_
 dsimp only
 rw [Vk,fM,fM]
theorem VH:uB 8589934592=some true:=aQ
abbrev Q4:=Int×Int×List Px×Int
def FT (W H:Int) (P:List Px) (o:Int):Q4:=
 if p7 W H P=false then (0,0,[],1) else if 1≤o∧o≤8 then (((cond (B3 o) H.toNat W.toNat:Nat):Int),((cond (B3 o) W.toNat H.toNat:Nat):Int),Id (cond (B3 o) H.toNat W.toNat) (cond (B3 o) W.toNat H.toNat) (tPx (B3 o) (miO o) (flO o) W.toNat H.toNat P),0) else (0,0,[],3)
theorem O3 (N:Nat) (hN:5000≤N) (W H:Int) (P:List Px) (o:Int):pD N W H P o=some (FT W H P o):=by
 obtain ⟨a,b,l,ht⟩:=AC N W H P hN;unfold FT;cases hp:p7 W H P
 ·rw [aF rfl];unfold pD;rw [ht,hp]
  rfl
 ·rw [aE sQ];rw [hp,aF rfl] at ht
  by_cases ho:1≤o∧o≤8
  ·rw [aF ho,aAQ N W H P o ho,ht];have hs:=mZ hp;obtain ⟨W',rfl⟩:∃n:Nat,W=n:=⟨W.toNat,by have:=hs.1;omega⟩
   obtain ⟨H',rfl⟩:∃n:Nat,H=n:=⟨H.toNat,by have:=hs.2.2.1;omega⟩
   exact WU _ _ _ N W' H' P hs hN
  ·rw [aE ho];unfold pD;rw [ht,aD,cF rQ]
   by_cases h1:o<1
   ·rw [cT (dT h1)]
   ·rw [cF (dF h1),p8]
def aFl (eH:Bool) (r:Q4):lC:=if r.2.2.2=0 then (if p7 r.1 r.2.1 r.2.2.1=true then (Xl r.1.toNat r.2.1.toNat eH r.2.2.1,0) else ([],1)) else ([],r.2.2.2)
theorem aFm (r:Q4) (eH:Bool):cond (!decide (r.2.2.2=0)) (some (([]:aR),r.2.2.2)) (dH (jS 8589934592 r.1 r.2.1 r.2.2.1 eH) fun r7=>some (r7.1,r7.2))=some (aFl eH r):=by
 unfold aFl
 by_cases h:r.2.2.2=0
 ·rw [cF (by rw [dT h];rfl),aF h,ZG 8589934592 oQ,aD]
 ·rw [cT (by rw [dF h];rfl),aE h]
def cutV (r:Q4) (x y cw ch:Int):Q4:=if x=0∧y=0∧cw=0∧ch=0 then r else if p7 r.1 r.2.1 r.2.2.1=false then (0,0,[],1) else if By r.1 r.2.1 x y cw ch then (cw,ch,rowsOf r.1 r.2.2.1 x y cw ch.toNat,0) else (0,0,[],3)
def ZI (eH:Bool) (o:Int) (r:Q4) (x y cw ch:Int):lC:=
 if r.2.2.2=0 then (if (cutV r x y cw ch).2.2.2=0 then aFl eH (FT (cutV r x y cw ch).1 (cutV r x y cw ch).2.1 (cutV r x y cw ch).2.2.1 o) else ([],(cutV r x y cw ch).2.2.2)) else ([],r.2.2.2)
theorem aFo (r4:Q4) (x y cw ch o:Int) (eH:Bool) :
  (cond (decide (r4.2.2.2=0)) (
   cond (!(decide (x=0)&&decide (y=0)&&decide (cw=0)&&decide (ch=0))) (
   dH (C9 8589934592 r4.1 r4.2.1 r4.2.2.1 x y cw ch) fun r5=>
   cond (decide (r5.2.2.2=0)) (
   dH (pD 8589934592 r5.1 r5.2.1 r5.2.2.1 o) fun r6=>
   cond (!decide (r6.2.2.2=0)) (
   some (([]:aR),r6.2.2.2)) (
   dH (jS 8589934592 r6.1 r6.2.1 r6.2.2.1 eH) fun r7=>
   some (r7.1,r7.2))) (
   cond (!decide (r5.2.2.2=0)) (
   some (([]:aR),r5.2.2.2)) (
   dH (jS 8589934592 r5.1 r5.2.1 r5.2.2.1 eH) fun r8=>
   some (r8.1,r8.2)))) (
   cond (decide (r4.2.2.2=0)) (
   dH (pD 8589934592 r4.1 r4.2.1 r4.2.2.1 o) fun r9=>
   cond (!decide (r9.2.2.2=0)) (
   some (([]:aR),r9.2.2.2)) (
   dH (jS 8589934592 r9.1 r9.2.1 r9.2.2.1 eH) fun Cd=>
   some (Cd.1,Cd.2))) (
   cond (!decide (r4.2.2.2=0)) (
   some (([]:aR),r4.2.2.2)) (
   dH (jS 8589934592 r4.1 r4.2.1 r4.2.2.1 eH) fun Al=>
   some (Al.1,Al.2))))) (
   cond (decide (r4.2.2.2=0)) (
   dH (pD 8589934592 r4.1 r4.2.1 r4.2.2.1 o) fun AE=>
   cond (!decide (AE.2.2.2=0)) (
   some (([]:aR),AE.2.2.2)) (
   dH (jS 8589934592 AE.1 AE.2.1 AE.2.2.1 eH) fun B1=>
   some (B1.1,B1.2))) (
   cond (!decide (r4.2.2.2=0)) (
   some (([]:aR),r4.2.2.2)) (
   dH (jS 8589934592 r4.1 r4.2.1 r4.2.2.1 eH) fun IX=>
   some (IX.1,IX.2)))))=some (ZI eH o r4 x y cw ch):=by
 have hN:5000≤8589934592:=oQ
 unfold ZI
 by_cases h4:r4.2.2.2=0
 rotate_left
 ·rw [cF (dF h4),cF (dF h4),cT (by rw [dF h4];rfl),aE h4]
 rw [cT (dT h4),aF h4]
 by_cases hz:x=0∧y=0∧cw=0∧ch=0
 ·have hc:cutV r4 x y cw ch=r4:=by unfold cutV;rw [aF hz]
  rw [cF (by obtain ⟨rfl,rfl,rfl,rfl⟩:=hz;rfl),cT (dT h4),hc,aF h4,O3 _ hN,aD];exact aFm _ eH
 ·have hc:C9 8589934592 r4.1 r4.2.1 r4.2.2.1 x y cw ch=some (cutV r4 x y cw ch):=by unfold cutV;rw [aE hz,aKS _ _ _ _ _ _ _ _ hN]
  rw [cT (by
   by_cases e1:x=0
   ·by_cases e2:y=0
    ·by_cases e3:cw=0
     ·have e4:¬ch=0:=fun e4=>hz ⟨e1,e2,e3,e4⟩
      rw [dF e4];simp
     ·rw [dF e3];simp
    ·rw [dF e2];simp
   ·rw [dF e1];rfl),hc,aD]
  by_cases h5:(cutV r4 x y cw ch).2.2.2=0
  ·rw [cT (dT h5),aF h5,O3 _ hN,aD];exact aFm _ eH
  ·rw [cF (dF h5),aE h5,cT (by rw [dF h5];rfl)]
theorem aLl {s:aR} (h:zV 8589934592 s=Fj) (rows x y cw ch o:Int) (eH:Bool):uK 8589934592 s rows x y cw ch o eH=some ([],1):=by
 unfold uK;rw [h]
 rfl
def VJ (e rows:Int) (q:Int×Int×List Px):Q4:=if e=0 then (if rows<1 then (0,0,[],3) else (q.1,q.2.1,q.2.2,0)) else (0,0,[],e)
theorem aHW {W H D K R:Int} {Ls:List Int} {St:List aR} {ph b0 b1 b2 b3 w:Int} {sp:List aN} {g0 g1 g2 m0 m1 m2 m3 m4 m5 m6 m7 m8:Int} {cv:List aN} {am:Int} {f:Bool} {s:aR}
  (hb:jP 8589934592 cv=some f) (hc:f=true↔pU cv) (h:(BB W H D K R Ls St ph b0 b1 b2 b3 w sp g0 g1 g2 m0 m1 m2 m3 m4 m5 m6 m7 m8 am f).2.2.2=0)
  (hr:zV 8589934592 s=some (W,H,D,K,R,Ls,St,ph,b0,b1,b2,b3,w,sp,g0,g1,g2,m0,m1,m2,m3,m4,m5,m6,m7,m8,cv,am,0)) {p:pW} (hp:p=BB W H D K R Ls St ph b0 b1 b2 b3 w sp g0 g1 g2 m0 m1 m2 m3 m4 m5 m6 m7 m8 am f) (rows x y cw ch o:Int) (eH:Bool) :
  uK 8589934592 s rows x y cw ch o eH=some (ZI eH o (VJ (OO ph b0 b1 b2 b3 w sp g0 g1 g2 m0 m1 m2 m3 m4 m5 m6 m7 m8 am f p.1 p.2.1 p.2.2.1) rows (p.1,p.2.1,SM ph b0 b1 b2 b3 w sp g0 g1 g2 m0 m1 m2 m3 m4 m5 m6 m7 m8 cv am p.1.toNat p.2.1.toNat p.2.2.1)) x y cw ch):=by
 obtain ⟨_,_,_,l3,_,_⟩:=Xk W H D K R Ls St ph b0 b1 b2 b3 w sp g0 g1 g2 m0 m1 m2 m3 m4 m5 m6 m7 m8 cv am hc h;have gK:=ZC W H D K R Ls St ph b0 b1 b2 b3 w sp g0 g1 g2 m0 m1 m2 m3 m4 m5 m6 m7 m8 am f;rw [←hp] at gK;unfold uK;rw [hr,aD]
 dsimp only
 rw [cF rQ,RH W H D K R Ls St ph b0 b1 b2 b3 w sp g0 g1 g2 m0 m1 m2 m3 m4 m5 m6 m7 m8 cv am hb hc (fun y hy=>by have:=l3 y hy;omega),aD,←hp,aB2 ph b0 b1 b2 b3 w sp g0 g1 g2 m0 m1 m2 m3 m4 m5 m6 m7 m8 cv am hb hc p.1 p.2.1 p.2.2.1 oQ rows,aD];exact aFo _ x y cw ch o eH
theorem aNo:sW FG=true:=by decide
theorem aBh {P:List Px} (h:P.all sW=true) (W x y:Nat):sW (GY P W x y)=true:=by
 unfold GY;rw [qG]
 rcases hq:P[y*W+x]? with _|p
 ·exact aNo
 ·exact List.all_eq_true.1 h p (List.mem_of_getElem? hq)
theorem aLm (fK:Int) (p s:Px):sW (shP fK p s)=true:=by
 unfold sW shP sh1
 apply decide_eq_true
 dsimp only
 omega
theorem Uk {W H:Int} {P:List Px} (h:p7 W H P=true):P.all sW=true:=by
 unfold p7 at h;rw [o9] at h;exact h.2
theorem aHX {W H:Int} {P:List Px} (h:oN W H P.length) (h2:P.all sW=true):p7 W H P=true:=by
 unfold p7;rw [o9];exact ⟨decide_eq_true h,h2⟩
theorem aLn (sw m fl:Bool) (W H:Nat) {P:List Px} (h:P.all sW=true) (x y:Nat):sW (tPx sw m fl W H P x y)=true:=by
 unfold tPx;cases sw
 ·exact aBh h _ _ _
 ·exact aBh h _ _ _
theorem Ul (W:Int) {P:List Px} (h:P.all sW=true) (x y w:Int):∀k,(rowsOf W P x y w k).all sW=true
 | 0=>rfl
 | k+1=>by
  unfold rowsOf;rw [List.all_append,Ul W h x y w k,tF];exact List.all_eq_true.2 fun p hp=>List.all_eq_true.1 h p (List.mem_of_mem_take (List.mem_of_mem_drop hp))
theorem aHY {W H:Int} {P:List Px} (hp:p7 W H P=true) {x y cw ch:Int} (hr:By W H x y cw ch):p7 cw ch (rowsOf W P x y cw ch.toNat)=true:=by
 have hs:=mZ hp;have h64:=hs.2.1;have aQq:=hs.2.2.2.1;have hl:=MD (P:=P) hs hr ch.toNat (by have:=hr.2.2.1;omega);refine aHX ?_ (Ul W (Uk hp) x y cw _);obtain ⟨r1,r2,r3,r4,_⟩:=hr;refine ⟨r1,by omega,r3,by omega,?_⟩;rw [hl,show ((ch.toNat:Nat):Int)=ch by omega];exact Int.mul_comm _ _
theorem aFp {W H:Int} {P:List Px} (hp:p7 W H P=true) {o:Int} (ho:1≤o∧o≤8):(FT W H P o).2.2.2=0∧p7 (FT W H P o).1 (FT W H P o).2.1 (FT W H P o).2.2.1=true∧fW 8589934592 W H P o=some ((FT W H P o).1,(FT W H P o).2.1,(FT W H P o).2.2.1):=by
 have h1:=aHh 8589934592 W H P o aL;rw [O3 8589934592 aL,aE (by rw [hp];simp),aF ho] at h1;have hs:=mZ hp;have s1:=hs.1;have s2:=hs.2.1;have s3:=hs.2.2.1;have s4:=hs.2.2.2.1;have e0:(FT W H P o).2.2.2=0:=by unfold FT;rw [aE (by rw [hp];simp),aF ho]
 refine ⟨e0,?_,?_⟩
 ·unfold FT;rw [aE (by rw [hp];simp),aF ho]
  dsimp only
  refine U4 ?_ fun x y _ _=>aLn _ _ _ _ _ (Uk hp) x y
  cases B3 o
  ·exact ⟨by show 1≤W.toNat;omega,by show W.toNat≤64;omega,by show 1≤H.toNat;omega,by show H.toNat≤64;omega⟩
  ·exact ⟨by show 1≤H.toNat;omega,by show H.toNat≤64;omega,by show 1≤W.toNat;omega,by show W.toNat≤64;omega⟩
 ·rcases ht:fW 8589934592 W H P o with _|⟨a,b,l⟩
  ·rw [ht] at h1;cases h1
  ·rw [ht,Option.map_some] at h1
   injection h1 with h1
   rw [h1]
theorem aFq {W D K rows:Int} {Ls:List Int} {s:aR} {l:List Int} (h:stripR W D K Ls rows s=some l):l.all (inD D.toNat)=true:=by
 unfold stripR at h
 split at h
 ·split at h
  ·injection h with h;rw [←h];exact Vl s
  ·cases h
 ·split at h
  ·rename_i hh
   injection h with h
   rw [←h];obtain ⟨_,_,_,_,_,q⟩:=O1 hh.1;refine List.all_eq_true.2 fun e he=>?_
   have h1:=(q e he).1;have h2:=bW (List.all_eq_true.1 hh.2 e he);exact decide_eq_true ⟨h1,h2⟩
  ·cases h
theorem Um {W D K:Int} {Ls:List Int} {H R:Nat}:∀(t:List aR) (i:Nat) (acc P:List Int),BA W D K Ls H R i t acc=some P→acc.all (inD D.toNat)=true→P.all (inD D.toNat)=true
 | [],i,acc,P,h,ha=>by
  injection h with h
  rw [←h];exact ha
 | s::t,i,acc,P,h,ha=>by
  unfold BA at h
  split at h
  ·cases h
  ·rename_i l hl
   exact Um t (i+1) _ P h (by rw [List.all_append,ha,aFq hl];rfl)
section
variable (W H D K R:Int) (Ls:List Int) (St:List aR) (ph b0 b1 b2 b3 w:Int) (sp:List aN) (g0 g1 g2 m0 m1 m2 m3 m4 m5 m6 m7 m8:Int) (cv:List aN) (am:Int)
theorem ZJ {f:Bool} (h:(BB W H D K R Ls St ph b0 b1 b2 b3 w sp g0 g1 g2 m0 m1 m2 m3 m4 m5 m6 m7 m8 am f).2.2.2=0) {p:pW} (hp:p=BB W H D K R Ls St ph b0 b1 b2 b3 w sp g0 g1 g2 m0 m1 m2 m3 m4 m5 m6 m7 m8 am f) :
  OO ph b0 b1 b2 b3 w sp g0 g1 g2 m0 m1 m2 m3 m4 m5 m6 m7 m8 am f p.1 p.2.1 p.2.2.1=0:=by
 unfold BB at h hp
 by_cases h1:AL W H D K R Ls=0
 rotate_left
 ·rw [aF h1] at h;exact absurd h h1
 obtain ⟨q1,q2,q3,q4⟩:=Ns W H D K R Ls h1;rw [aE (fun q=>q h1)] at h hp
 by_cases h2:St.length=EH H.toNat R.toNat
 rotate_left
 ·rw [aF h2] at h;cases h
 rw [aE (fun q=>q h2)] at h hp
 by_cases h3:O0 W H ph b0 b1 b2 b3 w sp g0 g1 g2 m0 m1 m2 m3 m4 m5 m6 m7 m8 am f=0
 rotate_left
 ·rw [aF h3] at h;exact absurd h h3
 rw [aE (fun q=>q h3)] at h hp
 rcases hS:BA W D K Ls H.toNat R.toNat 0 St [] with _|P
 ·rw [hS] at h;cases h
 rw [hS] at hp;dsimp only at hp;subst hp
 dsimp only
 unfold EG at q1;have gK:=MH oQ oQ oQ St 0 [] P hS oQ;rw [Nat.zero_mul,Nat.sub_zero,List.length_nil,Nat.zero_add] at gK;have hin:=Um St 0 [] P hS rfl
 have hf:dK W H P=true:=by
  refine sI.2 ⟨⟨by omega,by omega,by omega,by omega⟩,?_,?_⟩
  ·rw [gK,vA,show ((W.toNat:Nat):Int)=W by omega,show ((H.toNat:Nat):Int)=H by omega]
  ·refine List.all_eq_true.2 fun e he=>?_
   have h5:=bW (List.all_eq_true.1 hin e he);have h6:2^D.toNat≤2^16:=Nat.pow_le_pow_right aL oQ;unfold Ph;rw [o9];exact ⟨decide_eq_true oQ,decide_eq_true oQ⟩
 unfold O0 at h3;unfold OO;cases hB:zP ph b0 b1 b2 b3 w sp g0 g1 g2 m0 m1 m2 m3 m4 m5 m6 m7 m8 am
 ·rw [hB,aF rfl] at h3;cases h3
 rw [hB,aE sQ] at h3;cases f
 ·rw [aF rfl] at h3;cases h3
 rw [aE sQ] at h3;rw [aE sQ,aE sQ,hf,aE sQ];exact h3
theorem aHZ {f:Bool} (hc:f=true↔pU cv) {W H:Int} {P:List Int} (h:OO ph b0 b1 b2 b3 w sp g0 g1 g2 m0 m1 m2 m3 m4 m5 m6 m7 m8 am f W H P=0):p7 W H (SM ph b0 b1 b2 b3 w sp g0 g1 g2 m0 m1 m2 m3 m4 m5 m6 m7 m8 cv am W.toNat H.toNat P)=true:=by
 obtain ⟨_,_,hf,_⟩:=T8 ph b0 b1 b2 b3 w sp g0 g1 g2 m0 m1 m2 m3 m4 m5 m6 m7 m8 am h;obtain ⟨⟨w1,w2,w3,w4⟩,_,_⟩:=sI.1 hf;have:=U4 (W:=W.toNat) (H:=H.toNat) (f:=shF am W.toNat H.toNat (st6 ph b0 b1 b2 b3 w sp g0 g1 g2 m0 m1 m2 m3 m4 m5 m6 m7 m8 cv W.toNat H.toNat P)) oQ fun x y _ _=>aLm _ _ _
 rw [show ((W.toNat:Nat):Int)=W by omega,show ((H.toNat:Nat):Int)=H by omega] at this;exact this
end
theorem Xo {W H:Int} {P:List Px} (hp:p7 W H P=true) (o:Int) (eH:Bool) :
  (dH (aM 8589934592 o 1 8) fun r7=>
   cond (!(r7)) (
   some (([]:aR),3)) (
   dH (fW 8589934592 W H P o) fun r8=>
   dH (iP 8589934592 r8.1 r8.2.1 r8.2.2 eH) fun r9=>
   some (r9,(0:Int))))=some (aFl eH (FT W H P o)):=by
 rw [sU,aD]
 by_cases ho:1≤o∧o≤8
 ·obtain ⟨e0,e1,e2⟩:=aFp hp ho;rw [cF (by rw [dT ho];rfl),e2,aD]
  dsimp only
  rw [ZH 8589934592 oQ e1 eH,aD];unfold aFl;rw [aF e0,aF e1]
 ·have ht:FT W H P o=(0,0,[],3):=by unfold FT;rw [aE (by rw [hp];simp),aE ho]
  rw [cT (by rw [dF ho];rfl),ht]
  rfl
theorem aH0 {W H:Int} {P:List Px} (hp:p7 W H P=true) (x y cw ch o:Int) (eH:Bool) (hw:-9223372036854775808≤cw∧cw≤9223372036854775807) (hh:-9223372036854775808≤ch∧ch≤9223372036854775807) :
  (cond (!(decide (x=0)&&decide (y=0)&&decide (cw=0)&&decide (ch=0))) (
   dH (oY 8589934592 W H P x y cw ch) fun r5=>
   cond (!decide (r5=0)) (
   some (([]:aR),r5)) (
   dH (sB 8589934592 W H P x y cw ch) fun r6=>
   dH (aM 8589934592 o 1 8) fun r7=>
   cond (!(r7)) (
   some (([]:aR),3)) (
   dH (fW 8589934592 r6.1 r6.2.1 r6.2.2 o) fun r8=>
   dH (iP 8589934592 r8.1 r8.2.1 r8.2.2 eH) fun r9=>
   some (r9,0)))) (
   dH (aM 8589934592 o 1 8) fun Cd=>
   cond (!(Cd)) (
   some (([]:aR),3)) (
   dH (fW 8589934592 W H P o) fun Al=>
   dH (iP 8589934592 Al.1 Al.2.1 Al.2.2 eH) fun AE=>
   some (AE,0))))=some (ZI eH o (W,H,P,0) x y cw ch):=by
 unfold ZI;rw [aF rfl]
 by_cases hz:x=0∧y=0∧cw=0∧ch=0
 ·have hc:cutV (W,H,P,0) x y cw ch=(W,H,P,0):=by unfold cutV;rw [aF hz]
  rw [cF (by obtain ⟨rfl,rfl,rfl,rfl⟩:=hz;rfl),hc,aF rfl];exact Xo hp o eH
 ·rw [cT (by
   by_cases e1:x=0
   ·by_cases e2:y=0
    ·by_cases e3:cw=0
     ·have e4:¬ch=0:=fun e4=>hz ⟨e1,e2,e3,e4⟩
      rw [dF e4];simp
     ·rw [dF e3];simp
    ·rw [dF e2];simp
   ·rw [dF e1];rfl),WT _ _ _ _ _ _ _ _ oQ hw hh,aD,aE (by rw [hp];simp)]
  by_cases hr:By W H x y cw ch
  ·have hc:cutV (W,H,P,0) x y cw ch=(cw,ch,rowsOf W P x y cw ch.toNat,0):=by unfold cutV;rw [aE hz,aE (by rw [hp];simp),aF hr]
   rw [aF hr,cF rQ,aEG _ _ _ _ _ _ _ _ oQ hp hr,aD,hc,aF rfl];exact Xo (aHY hp hr) o eH
  ·have hc:cutV (W,H,P,0) x y cw ch=(0,0,[],3):=by unfold cutV;rw [aE hz,aE (by rw [hp];simp),aE hr]
   rw [aE hr,cT rQ,hc,aE aL]
theorem Nv (s:aR) (rows x y cw ch o:Int) (eH:Bool) (hw:-9223372036854775808≤cw∧cw≤9223372036854775807) (hh:-9223372036854775808≤ch∧ch≤9223372036854775807) (hs:s.length≤140737488355328):sE 8589934592 s rows x y cw ch o eH=some true:=by
 unfold sE;rw [VH]
 have fin:∀r:lC,(dH (some r) fun r2=>dH (some r) fun r3=>dH (some true) fun r4=>
   cond (r4) (cond (decide (r2.1=r3.1)) (some (decide (r2.2=r3.2))) (some false)) (some false))=some true:=fun r=>by
  rw [aD,aD,aD,cT rfl,cT (dT rfl),dT rfl]
 rcases ZD s with ⟨h,h'⟩|⟨W,H,D,K,R,Ls,St,ph,b0,b1,b2,b3,w,sp,g0,g1,g2,m0,m1,m2,m3,m4,m5,m6,m7,m8,cv,am,f,_,hb,hc,h0,hr,hr'⟩
 ·have:lQ 8589934592 s rows x y cw ch o eH=some ([],1):=by
   unfold lQ;rw [h'];rfl
  rw [aLl h,this];exact fin _
 ·obtain ⟨p,hp⟩:∃p,p=BB W H D K R Ls St ph b0 b1 b2 b3 w sp g0 g1 g2 m0 m1 m2 m3 m4 m5 m6 m7 m8 am f:=⟨_,rfl⟩
  have hE:=ZJ W H D K R Ls St ph b0 b1 b2 b3 w sp g0 g1 g2 m0 m1 m2 m3 m4 m5 m6 m7 m8 am h0 hp;have hP:=aHZ ph b0 b1 b2 b3 w sp g0 g1 g2 m0 m1 m2 m3 m4 m5 m6 m7 m8 cv am hc hE;obtain ⟨_,_,_,l3,_,_⟩:=Xk W H D K R Ls St ph b0 b1 b2 b3 w sp g0 g1 g2 m0 m1 m2 m3 m4 m5 m6 m7 m8 cv am hc h0;obtain ⟨f',hb1,hb2,hc'⟩:=Rj cv;obtain rfl:f=f':=by rw [hb] at hb1;injection hb1
  have:lQ 8589934592 s rows x y cw ch o eH=some (ZI eH o (VJ (OO ph b0 b1 b2 b3 w sp g0 g1 g2 m0 m1 m2 m3 m4 m5 m6 m7 m8 am f p.1 p.2.1 p.2.2.1) rows (p.1,p.2.1,SM ph b0 b1 b2 b3 w sp g0 g1 g2 m0 m1 m2 m3 m4 m5 m6 m7 m8 cv am p.1.toNat p.2.1.toNat p.2.2.1)) x y cw ch):=by
   unfold lQ;rw [hr',aD]
   dsimp only
   rw [cF rQ,hE]
   by_cases hrow:rows<1
   ·rw [cT (dT hrow)];unfold VJ ZI;rw [aF rfl,aF hrow,aE aL]
   ·rw [cF (dF hrow),Uj W H D K R Ls St ph b0 b1 b2 b3 w sp g0 g1 g2 m0 m1 m2 m3 m4 m5 m6 m7 m8 cv am hb2 (fun y hy=>by have:=l3 y hy;omega),aD,←hp,Zl ph b0 b1 b2 b3 w sp g0 g1 g2 m0 m1 m2 m3 m4 m5 m6 m7 m8 cv am hc hE,aD];unfold VJ;rw [aF rfl,aE hrow];exact aH0 hP x y cw ch o eH hw hh
  rw [aHW hb hc h0 hr hp rows,this];exact fin _
end
section
open Go.RowKit
section
variable {P:Program} {ops:Array Oper} {Q O:Exit→Act→World→Prop} {S:World→Prop} {vQ need:Nat→Bool} {R:Act→World→Prop}
def O4 (ops:Array Oper) (rem:List Nat) (i:Nat):Bool:=rem.all fun j=>!waits ops i j
def vE (P:Program) (O:Exit→Act→World→Prop) (ops:Array Oper) (S:World→Prop) (vQ need:Nat→Bool) (R:Act→World→Prop):Nat→List Nat→Act→World→Prop
 | 0,rem,a,w=>rem=[]∧R a w
 | n+1,rem,a,w=>
  (∃i∈rem,vQ i=true∧O4 ops rem i=true∧∃o,ops[i]? = some o∧∃v,AR P ops S o v a∧vE P O ops S vQ need R n (rem.erase i) (a.put o.dst v) w) ∨
  ((∀i∈rem,vQ i=true→O4 ops rem i=false)∧∀c∈rem,vQ c=false→O4 ops rem c=true→wpOp P ops O c (fun a' w'=>(need c=true→S w')∧vE P O ops S vQ need R n (rem.erase c) a' w') a w)
def MJ (ops:Array Oper) (vQ:Nat→Bool) (i j:Nat):Bool:=
 match ops[i]?,ops[j]? with
 | some oi,some oj=>waits ops i j||((!vQ i||oi.apart ops oj)&&(!vQ j||oj.apart ops oi))
 | _,_=>false
def VK (ops:Array Oper) (vQ need:Nat→Bool):Bool:=
 Region.noSelect ops&&aAh ops&&((gS ops.size).all fun i=>(gS i).all fun j=>MJ ops vQ i j) &&
 (gS ops.size).all fun i=>vQ i||need i || !Qv ops vQ i
def aCB (O:Exit→Act→World→Prop):Prop:=(∀e a d v w,O e (a.put d v) w→O e a w)∧¬LetsOut O
theorem aH1:aCB Gg:=⟨fun _ _ _ _ _ h=>h.elim,fun ⟨_,_,h⟩=>h.elim⟩
theorem Xp (hO:aCB O) {j:Nat} {oi oj:Oper} {v:Value} (hj:ops[j]? = some oj) (hap:oi.apart ops oj=true)
  (hsi:∀cs b,oi.op≠.select cs b) (hsj:∀cs b,oj.op≠.select cs b) {K:Act→World→Prop} {a:Act} {w:World}
  (hy:AR P ops S oi v a) (h:wpOp P ops O j K (a.put oi.dst v) w) :
  wpOp P ops O j (fun a' w'=>AR P ops S oi v a'∧K (a'.put oi.dst v) w') a w:=by
 obtain ⟨h1,h2,h3⟩:=Oper.apart_spec hap
 have keep:∀(a:Act),AR P ops S oi v a→∀u,AR P ops S oi v (a.put oj.dst u):=fun a hy u=>
  hy.same (execOp_put oi hsi a oj.dst u h3) (wanted_put oi a oj.dst u h3)
 have keepD:∀d,AR P ops S oi v { a with defers:=d::a.defers }:=fun d=>hy.same rfl rfl
 unfold wpOp at *;simp only [hj] at *;rw [wanted_put oj a oi.dst v h1] at h
 split
 ·rename_i hw
  simp only [hw,if_true] at h
  rcases h with h|⟨_,hl⟩
  case inr=>exact absurd hl hO.2
  refine .inl ?_;unfold Oper.wp at *;rw [execOp_put oj hsj a oi.dst v h1] at h
  generalize (execOp a.eval oj).run P w=r at *
  cases r with
  | ok n w'=>
   cases n <;> simp only [Oper.upon] at h ⊢
   case value u=>exact ⟨keep a hy u,by rw [←Act.put_comm a v u h2];exact h⟩
   case skip=>exact ⟨keep a hy _,by rw [←Act.put_comm a v undef h2];exact h⟩
   case defer d=>
    refine ⟨keep _ (keepD d) _,?_⟩;rw [←Act.put_comm _ v undef h2,←Act.put_defers];exact h
   case enter f args=>
    refine Calls.mono h fun e w'' he=>?_
    cases e with
    | returned u=>exact ⟨keep a hy u,by rw [←Act.put_comm a v u h2];exact he⟩
    | panicked c=>exact hO.1 _ _ _ _ _ he
    | outgrown=>exact absurd he hO.2
   case row row args=>exact Rows.mono h fun u w'' he=>⟨keep a hy u,by rw [←Act.put_comm a v u h2];exact he⟩
  | halt x w'=>cases x <;> simp only [Oper.upon] at h ⊢;exact hO.1 _ _ _ _ _ h
 ·rename_i hw
  simp only [hw] at h;exact ⟨keep a hy _,by rw [←Act.put_comm a v undef h2];exact h⟩
theorem aCC (hO:aCB O) (hQ:∀e a w,O e a w→Q e a w) {i:Nat} {K:Act→World→Prop} {a:Act} {w:World} (h:wpOp P ops O i K a w):wpOp P ops Q i K a w:=by
  unfold wpOp at *
  split
  · rename_i h0
    simp only [h0] at h
    exact h
  · rename_i o ho
    simp only [ho] at h
    split
    · rename_i hw
      rw [aF hw] at h
      rcases h with h|⟨_,hl⟩
      case inr=>exact absurd hl hO.2
      refine .inl ?_
      unfold Oper.wp at *
      generalize (execOp a.eval o).run P w=r at *
      cases r with
      | ok n w'=>
        cases n <;> simp only [Oper.upon] at h ⊢ <;> first
          | exact h
          | (refine Calls.mono h fun e w'' he=>?_
             cases e with
             | returned u=>exact he
             | panicked c=>exact hQ _ _ _ he
             | outgrown=>exact absurd he hO.2)
      | halt x w'=>cases x <;> simp only [Oper.upon] at h ⊢;exact hQ _ _ _ h
    · rename_i hw
      rw [aE hw] at h
      exact h
theorem Gd {rem:List Nat} {i k:Nat} (h:O4 ops rem i=true):O4 ops (rem.erase k) i=true:=by
 unfold O4 at *;rw [List.all_eq_true] at *;exact fun j hj=>h j (List.mem_of_mem_erase hj)
theorem Dn {rem:List Nat} {i j:Nat} (h:O4 ops rem i=true) (hj:j∈rem):waits ops i j=false:=by
 unfold O4 at h;rw [List.all_eq_true] at h
 simpa using h j hj
theorem aBi {i:Nat} {oi:Oper} (hi:ops[i]? = some oi) (hr:vQ i=true) (hsel:∀(j:Nat) (o:Oper) cs b,ops[j]? = some o→o.op≠.select cs b)
  (Dj:∀j k oj ok,j≠k→ops[j]? = some oj→ops[k]? = some ok→waits ops j k=false→waits ops k j=false→(vQ j=true→oj.apart ops ok=true)) :
  ∀(n:Nat) (rem:List Nat) (a:Act) (w:World),i∈rem→O4 ops rem i=true→vE P O ops S vQ need R (n+1) rem a w→∃v,AR P ops S oi v a∧vE P O ops S vQ need R n (rem.erase i) (a.put oi.dst v) w:=by
 intro n
 induction n with
 | zero=>
  intro rem a w him hrd h
  rcases h with ⟨i0,hi0,hr0,hd0,o0,ho0,u,hu,h⟩|⟨hno,_⟩
  ·obtain ⟨hnil,hR⟩:=h
   have:i0=i:=by
    by_cases e:i0=i
    ·exact e
    ·have:i∈rem.erase i0:=(List.mem_erase_of_ne (fun h=>e h.symm)).2 him;rw [hnil] at this;cases this
   subst this;obtain rfl:o0=oi:=Option.some.inj (ho0.symm.trans hi);exact ⟨u,hu,hnil,hR⟩
  ·rw [hno i him hr] at hrd;cases hrd
 | succ n ih=>
  intro rem a w him hrd h
  rcases h with ⟨i0,hi0,hr0,hd0,o0,ho0,u,hu,h⟩|⟨hno,_⟩
  ·by_cases e:i0=i
   ·subst e;obtain rfl:o0=oi:=Option.some.inj (ho0.symm.trans hi);exact ⟨u,hu,h⟩
   ·have aPy:i∈rem.erase i0:=(List.mem_erase_of_ne (fun h=>e h.symm)).2 him;obtain ⟨v,hv,h⟩:=ih _ _ _ aPy (Gd hrd) h;have w1:=Dn hrd hi0;have w2:=Dn hd0 him;have ap1:=Dj i i0 oi o0 (fun h=>e h.symm) hi ho0 w1 w2 hr;have ap2:=Dj i0 i o0 oi e ho0 hi w2 w1 hr0;obtain ⟨p1,p2,p3⟩:=Oper.apart_spec ap1;obtain ⟨q1,q2,q3⟩:=Oper.apart_spec ap2;have hv':AR P ops S oi v a:=hv.same (execOp_put oi (fun cs b=>hsel i oi cs b hi) a o0.dst u p3).symm (wanted_put oi a o0.dst u p3).symm;refine ⟨v,hv',.inl ⟨i0,(List.mem_erase_of_ne e).2 hi0,hr0,Gd hd0,o0,ho0,u,?_,?_⟩⟩
    ·exact hu.same (execOp_put o0 (fun cs b=>hsel i0 o0 cs b ho0) a oi.dst v q3) (wanted_put o0 a oi.dst v q3)
    ·rw [List.erase_comm,Act.put_comm a v u p2];exact h
  ·rw [hno i him hr] at hrd;cases hrd
theorem aH2 (hO:aCB O) {c:Nat} {oc:Oper} (hc:ops[c]? = some oc) (hrc:vQ c=false) (hsel:∀(j:Nat) (o:Oper) cs b,ops[j]? = some o→o.op≠.select cs b)
  (Dj:∀j k oj ok,j≠k→ops[j]? = some oj→ops[k]? = some ok→waits ops j k=false→waits ops k j=false→(vQ j=true→oj.apart ops ok=true)) :
  ∀(n:Nat) (rem:List Nat) (a:Act) (w:World),c∈rem→O4 ops rem c=true→vE P O ops S vQ need R (n+1) rem a w→wpOp P ops O c (fun a' w'=>(need c=true→S w')∧vE P O ops S vQ need R n (rem.erase c) a' w') a w:=by
 intro n
 induction n with
 | zero=>
  intro rem a w hcm hrd h
  rcases h with ⟨i0,hi0,hr0,hd0,o0,ho0,u,hu,h⟩|⟨_,h⟩
  ·obtain ⟨hnil,hR⟩:=h;have e:i0≠c:=fun e=>by subst e;rw [hrc] at hr0;cases hr0
   have:c∈rem.erase i0:=(List.mem_erase_of_ne (fun h=>e h.symm)).2 hcm;rw [hnil] at this;cases this
  ·exact h c hcm hrc hrd
 | succ n ih=>
  intro rem a w hcm hrd h
  rcases h with ⟨i0,hi0,hr0,hd0,o0,ho0,u,hu,h⟩|⟨_,h⟩
  ·have e:i0≠c:=fun e=>by subst e;rw [hrc] at hr0;cases hr0
   have hcm':c∈rem.erase i0:=(List.mem_erase_of_ne (fun h=>e h.symm)).2 hcm;have h2:=ih _ _ _ hcm' (Gd hrd) h;have w1:=Dn hrd hi0;have w2:=Dn hd0 hcm;have ap:=Dj i0 c o0 oc e ho0 hc w2 w1 hr0;have h3:=Xp hO hc ap (fun cs b=>hsel i0 o0 cs b ho0) (fun cs b=>hsel c oc cs b hc) hu h2;refine wpOp_mono ?_ h3;rintro a' w' ⟨hy,hn,hk⟩;refine ⟨hn,.inl ⟨i0,(List.mem_erase_of_ne e).2 hi0,hr0,Gd hd0,o0,ho0,u,hy,?_⟩⟩;rw [List.erase_comm];exact hk
  ·exact h c hcm hrc hrd
theorem JM {l:List Nat} (hl:l.Nodup) (i:Nat):l.filter (· != i)=l.erase i:=by
 rw [List.Nodup.erase_eq_filter hl]
theorem Xq (hO:aCB O) (hQ:∀e a w,O e a w→Q e a w) (hok:VK ops vQ need=true):∀(aA:Nat) (listed:Array Bool) (a:Act) (w:World),listed.size=ops.size→Closed ops listed→(mP ops listed).length=aA →
  (∀r∈mP ops listed,vQ r=true→S w)→vE P O ops S vQ need (Q .normal) aA (mP ops listed) a w→wpAny P .any ops Q aA listed a w:=by
 simp only [VK,o9] at hok;obtain ⟨⟨⟨We,hback⟩,ZK⟩,Wf⟩:=hok;have hsel:=Region.noSelect_spec We;have hp:∀i<ops.size,∀j<i,MJ ops vQ i j=true:=fun i hi j hj=>List.all_eq_true.1 (List.all_eq_true.1 ZK i (List.mem_range.2 hi)) j (List.mem_range.2 hj)
 have Dj:∀j k oj ok,j≠k→ops[j]? = some oj→ops[k]? = some ok→waits ops j k=false→waits ops k j=false→(vQ j=true→oj.apart ops ok=true):=by
  intro j k oj ok hjk hj hk w1 w2 hr;have hjl:=(Array.getElem?_eq_some_iff.1 hj).1;have hkl:=(Array.getElem?_eq_some_iff.1 hk).1
  rcases Nat.lt_or_gt_of_ne hjk with hlt|hlt
  ·have h:=hp k hkl j hlt;unfold MJ at h;simp only [hj,hk,w2,Bool.false_or,o9,Bool.or_eq_true,Bool.not_eq_true'] at h
   rcases h.2 with h0|h0
   ·rw [hr] at h0;cases h0
   ·exact h0
  ·have h:=hp j hjl k hlt;unfold MJ at h;simp only [hj,hk,w1,Bool.false_or,o9,Bool.or_eq_true,Bool.not_eq_true'] at h
   rcases h.1 with h0|h0
   ·rw [hr] at h0;cases h0
   ·exact h0
 have hbk:∀i o,ops[i]? = some o→∀e∈o.after,Region.binds .any e=true→e.on<i:=fun i o ho e he hb=>by
  have hi:i<ops.size:=(Array.getElem?_eq_some_iff.1 ho).1;have h:=List.all_eq_true.1 hback i (List.mem_range.2 hi);simp only [ho] at h;have h2:=Array.all_eq_true_iff_forall_mem.1 h e he
  simpa [hb] using h2
 have hnd:∀i<ops.size,vQ i=false→∀r<ops.size,vQ r=true→waits ops i r=false→need i=true:=fun i hi JH r hr hrr hw=>by
  have h:=List.all_eq_true.1 Wf i (List.mem_range.2 hi);simp only [JH,Bool.false_or,Bool.or_eq_true,Bool.not_eq_true'] at h;refine h.resolve_right fun h0=>?_
  have:Qv ops vQ i=true:=by
   refine List.any_eq_true.2 ⟨r,List.mem_range.2 hr,?_⟩;have:r≠i:=fun e=>by subst e;rw [JH] at hrr;cases hrr
   simp [hrr,hw,this]
  rw [this] at h0;cases h0
 intro aA
 induction aA with
 | zero=>
  intro listed a w hs hc gK _ h;have hnil:mP ops listed=[]:=List.eq_nil_of_length_eq_zero gK;obtain ⟨_,h⟩:=h;refine ⟨?_,h⟩;refine List.eq_nil_iff_forall_not_mem.2 fun i hi=>?_
  obtain ⟨h0,o,ho,_⟩:=mem_ready.1 hi;have:i∈mP ops listed:=rW.2 ⟨(Array.getElem?_eq_some_iff.1 ho).1,h0⟩;rw [hnil] at this;cases this
 | succ aA ih=>
  intro listed a w hs hc gK hS h;refine ⟨fun h0=>?_,fun i hi=>?_⟩
  ·exfalso
   match hr:mP ops listed,gK with
   | i0::rest,_=>
    have hm0:i0∈mP ops listed:=by rw [hr];exact List.mem_cons_self ..
    obtain ⟨hlt,hun⟩:=rW.1 hm0;have Hy:=BI (ops:=ops) listed;rw [hr,List.pairwise_cons] at Hy
    have:i0∈Region.ready .any ops listed:=by
     refine mem_ready.2 ⟨hun,ops[i0],Array.getElem?_eq_getElem hlt,fun e he hb=>?_⟩;have hlt2:=hbk i0 _ (Array.getElem?_eq_getElem hlt) e he hb;cases hl:listed.getD e.on false with
     | true=>rfl
     | false=>
      have hm:e.on∈mP ops listed:=rW.2 ⟨by omega,by rw [Ga oQ];exact hl⟩;rw [hr] at hm
      rcases List.mem_cons.1 hm with hm|hm
      ·omega
      ·have:=Hy.1 _ hm;omega
    rw [h0] at this;cases this
  ·obtain ⟨hun,oi,hoi,hall⟩:=mem_ready.1 hi;have hilt:i<ops.size:=(Array.getElem?_eq_some_iff.1 hoi).1;have him:i∈mP ops listed:=rW.2 ⟨hilt,hun⟩;have ZN:(mP ops listed).Nodup:=(BI (ops:=ops) listed).imp fun h=>Nat.ne_of_lt h
   have Hz:mP ops (listed.setIfInBounds i true)=(mP ops listed).erase i:=by rw [On hs hilt,JM ZN]
   have hlen':(mP ops (listed.setIfInBounds i true)).length=aA:=by
    rw [Hz,List.length_erase_of_mem him];omega
   have hs':(listed.setIfInBounds i true).size=ops.size:=by simpa using hs
   have hc':Closed ops (listed.setIfInBounds i true):=by
    intro k hk j hj
    by_cases hik:i=k
    ·subst hik;exact getD_set_true (AU hi hj)
    ·rw [getD_set_ne false hik] at hk;exact getD_set_true (hc k hk j hj)
   have hrd:O4 ops (mP ops listed) i=true:=by
    unfold O4;rw [List.all_eq_true];intro j hj;obtain ⟨h1,h2⟩:=rW.1 hj;cases hw:waits ops i j with
    | false=>rfl
    | true=>
     have:=AU hi hw;rw [←Ga oQ,h2] at this;cases this
   cases JH:vQ i with
   | true=>
    have hSw:S w:=hS i him JH;obtain ⟨v,hv,hrest⟩:=aBi hoi JH hsel Dj aA _ a w him hrd h;refine hv.run hoi hSw (ih _ _ _ hs' hc' hlen' (fun _ _ _=>hSw) (by rw [Hz];exact hrest))
   | false=>
    have h2:=aH2 hO hoi JH hsel Dj aA _ a w him hrd h;refine aCC hO hQ (wpOp_mono ?_ h2);rintro a' w' ⟨hn,hk⟩;refine ih _ _ _ hs' hc' hlen' ?_ (by rw [Hz];exact hk);intro r hr hrr;rw [Hz] at hr;have hrm:=List.mem_of_mem_erase hr;exact hn (hnd i hilt JH r (rW.1 hrm).1 hrr (Dn hrd hrm))
theorem VL (hO:aCB O) (hQ:∀e a w,O e a w→Q e a w) {id:Nat} {a:Act} {w:World} {l:List Oper} (S:World→Prop) (f:List Nat) (n:Nat) (rem:List Nat) (hm:P.follows .mixedOrders=true) (hok:VK l.toArray (jZ f) (dM f)=true)
  (hl:gS l.toArray.size=rem) (hn:rem.length=n) (hS:S w.drew) (h:vE P O l.toArray S (jZ f) (dM f) (Q .normal) n rem a w.drew):(Code.region id l.toArray true).wp P Q a w:=by
 refine wp_region_any hm ?_
 have Mj:mP l.toArray (Array.replicate l.toArray.size false)=gS l.toArray.size:=by
  unfold mP;refine List.filter_eq_self.2 fun i hi=>?_
  have:=List.mem_range.1 hi
  simp at this
  simp [this]
 refine Xq hO hQ hok l.toArray.size (Array.replicate l.toArray.size false) a _ sQ ?_ (by rw [Mj];simp) (fun _ _ _=>hS) ?_
 ·intro i hi;rw [BH] at hi;cases hi
 ·rw [Mj,hl];have:l.toArray.size=n:=by rw [←hn,←hl];simp
  rw [this];exact h
theorem Nw {id:Nat} {a:Act} {w:World} {l:List Oper} (S:World→Prop) (f:List Nat) (n:Nat) (rem:List Nat) (hm:P.follows .mixedOrders=true) (hok:VK l.toArray (jZ f) (dM f)=true)
  (hl:gS l.toArray.size=rem) (hn:rem.length=n) (hS:S w.drew) (h:vE P Gg l.toArray S (jZ f) (dM f) (Q .normal) n rem a w.drew):(Code.region id l.toArray true).wp P Q a w:=
 VL aH1 (fun _ _ _ h=>h.elim) S f n rem hm hok hl hn hS h
theorem put_defers (a:Act) (d:Option Nat) (v:Value):(a.put d v).defers=a.defers:=by cases d <;> rfl
variable {D:List Deferred} {a:Act} {w:World} {N:Nat} {l:List (Nat×Value)} {o:Oper} {v:Value} {post:Value→World→Prop} {d i c n:Nat} {rem AS:List Nat} {f:List Nat}
theorem LU (i:Nat) (AS:List Nat) (hc:(rem.elem i&&jZ f i&&O4 ops rem i&&rem.erase i==AS)=true) (ho:ops[i]? = some o) (K:Kd D a N l) (hw:Region.wanted o (yielded ops a.tmps)=true) (hd:o.dst=some d) (hN:Nat.blt d N=true) (hr:Rd P S a o v)
  (k:∀a',Kd D a' N ((d,v)::l)→vE P O ops S (jZ f) (dM f) R n AS a' w):vE P O ops S (jZ f) (dM f) R (n+1) rem a w:=by
 simp only [o9,beq_iff_eq,List.elem_iff] at hc;obtain ⟨⟨⟨h1,h2⟩,h3⟩,rfl⟩:=hc;refine .inl ⟨i,h1,h2,h3,o,ho,v,.inl ⟨hw,hr⟩,?_⟩;have:=K.put (d:=o.dst) (by rw [hd];exact hN) v;rw [hd] at this ⊢;exact k _ this
theorem aPz (i:Nat) (AS:List Nat) (hc:(rem.elem i&&jZ f i&&O4 ops rem i&&rem.erase i==AS)=true) (ho:ops[i]? = some o) (K:Kd D a N l) (hw:Region.wanted o (yielded ops a.tmps)=false) (hd:o.dst=some d) (hN:Nat.blt d N=true)
  (k:∀a',Kd D a' N ((d,undef)::l)→vE P O ops S (jZ f) (dM f) R n AS a' w):vE P O ops S (jZ f) (dM f) R (n+1) rem a w:=by
 simp only [o9,beq_iff_eq,List.elem_iff] at hc;obtain ⟨⟨⟨h1,h2⟩,h3⟩,rfl⟩:=hc;refine .inl ⟨i,h1,h2,h3,o,ho,undef,.inr ⟨hw,rfl⟩,?_⟩;have:=K.put (d:=o.dst) (by rw [hd];exact hN) undef;rw [hd] at this ⊢;exact k _ this
def aLo (p:Nat→Prop):List Nat→Prop
 | []=>True
 | c::cs=>p c∧aLo p cs
theorem Xr {p:Nat→Prop}:∀{cs:List Nat},aLo p cs→∀c∈cs,p c
 | [],_,c,h=>by cases h
 | d::cs,h,c,hc=>by
  rcases List.mem_cons.1 hc with rfl|hc
  ·exact h.1
  ·exact Xr h.2 c hc
theorem VM (cs:List Nat) (hc:((rem.all fun i=>!jZ f i || !O4 ops rem i)&&(rem.filter fun c=>!jZ f c&&O4 ops rem c)==cs)=true)
  (h:aLo (fun c=>wpOp P ops O c (fun a' w'=>(dM f c=true→S w')∧vE P O ops S (jZ f) (dM f) R n (rem.erase c) a' w') a w) cs):vE P O ops S (jZ f) (dM f) R (n+1) rem a w:=by
 simp only [o9,beq_iff_eq] at hc;obtain ⟨h1,rfl⟩:=hc;refine .inr ⟨fun i hi hr=>?_,fun c hcm hr hrd=>Xr h c (List.mem_filter.2 ⟨hcm,by simp [hr,hrd]⟩)⟩;have:=List.all_eq_true.1 h1 i hi
 simpa [hr] using this
theorem ST (AS:List Nat) (hc:(rem.erase c==AS)=true) (ho:ops[c]? = some o) (K:Kd D a N l) (hw:Region.wanted o (yielded ops a.tmps)=true) (hd:o.dst=some d) (hN:Nat.blt d N=true) (h:Ac P o a w post)
  (k:∀v a' w',post v w'→Kd D a' N ((d,v)::l)→(dM f c=true→S w')∧vE P O ops S (jZ f) (dM f) R n AS a' w'):wpOp P ops O c (fun a' w'=>(dM f c=true→S w')∧vE P O ops S (jZ f) (dM f) R n (rem.erase c) a' w') a w:=by
 obtain rfl:rem.erase c=AS:=by simpa using hc
 unfold wpOp;simp only [ho,hw,if_true];refine .inl (h _ _ fun v w' hp=>?_);have:=K.put (d:=o.dst) (by rw [hd];exact hN) v;rw [hd] at this ⊢;exact k v _ w' hp this
theorem aFr (AS:List Nat) (hc:(rem.erase c==AS)=true) (ho:ops[c]? = some o) (K:Kd D a N l) (hw:Region.wanted o (yielded ops a.tmps)=true) (hd:o.dst=none) (h:Ac P o a w post)
  (k:∀v a' w',post v w'→Kd D a' N l→(dM f c=true→S w')∧vE P O ops S (jZ f) (dM f) R n AS a' w'):wpOp P ops O c (fun a' w'=>(dM f c=true→S w')∧vE P O ops S (jZ f) (dM f) R n (rem.erase c) a' w') a w:=by
 obtain rfl:rem.erase c=AS:=by simpa using hc
 unfold wpOp;simp only [ho,hw,if_true];refine .inl (h _ _ fun v w' hp=>?_);rw [hd];exact k v _ w' hp K
theorem w8 {St Rt:Type} {Rel:St→Act→World→Prop} {kk:St→Option Rt} {jf:(St→Option Rt)→Option Rt} {r:Rt} {p:Code} (h:jf kk=some r) (hk:∀st a w,Rel st a w→kk st=some r→Q .normal a w)
  (hc:∀kk:St→Option Rt,(∀st a w,Rel st a w→kk st=some r→Q .normal a w)→jf kk=some r→p.wp P Q a w):p.wp P Q a w:=hc kk hk h
def Bo (P:Program) (o:Oper) (a:Act) (w:World) (Pn:List PanicEntry→World→Prop):Prop:=
 ∀(K:Act→World→Prop) (Q:Exit→Act→World→Prop),(∀ch w',Pn ch w'→Q (.panic ch) a w')→o.wp P a w K Q
theorem aH3 {Pn:List PanicEntry→World→Prop} {fi:FuncId} {x:Operand} {cap vs:List Value} {args:Array Operand} {ts:Array TypeId} (ho:o.op = .call { callee:=.value x,args:=args,argTypes:=ts }) (hf:Ej P fi=true) (K:Kd D a N l) (hx:jH l x=some (.func (.func fi) #[] cap.toArray)) (hargs:args.toList.map (jH l)=vs.map some)
  (h:Calls P fi (vs++cap).toArray w fun e w'=>∃ch,e = .panicked ch∧Pn ch w'):Bo P o a w Pn:=by
 have hE:args.map a.eval=vs.toArray:=by
  apply Array.ext'
  simp only [Array.toList_map]
  have:∀(xs:List Operand) (vs:List Value),xs.map (jH l)=vs.map some→xs.map a.eval=vs:=by
   intro xs
   induction xs with
   | nil=>intro vs h;cases vs <;> simp_all
   | cons x xs ih=>
    intro vs h;cases vs with
    | nil=>simp at h
    | cons v vs=>simp only [List.map_cons,List.cons.injEq] at h ⊢;exact ⟨K.ev h.1,ih vs h.2⟩
  exact this _ _ hargs
 have hrun:(execOp a.eval o).run P w = .ok (.enter fi (vs++cap).toArray) w:=by
  unfold Ej at hf
  split at hf
  ·rename_i fn hfn
   simp only [o9,bne_iff_ne,ne_eq] at hf;obtain ⟨b,hb⟩:=Option.isSome_iff_exists.1 hf.1;unfold execOp
   simp [ho,resolve,K.ev hx,hE,Deferred.ofValue,invoke,callFunc,hfn,hb,hf.2]
  ·cases hf
 intro K' Q hK;unfold Oper.wp;rw [hrun,Oper.upon_enter];refine h.mono ?_;rintro e w' ⟨ch,rfl,hp⟩;exact hK ch w' hp
theorem RL {Pn:List PanicEntry→World→Prop} {x:Operand} {T:TypeId} {u:Value} (ho:o.op = .panic x) (K:Kd D a N l) (hx:jH l x=some (.iface T u)) (h:Pn [{ v:=.iface T u,recovered:=false }] w):Bo P o a w Pn:=by
 intro K2 Q2 hQ;unfold Oper.wp
 have:(execOp a.eval o).run P w = .halt (.panic (.iface T u)) w:=by
  unfold execOp
  simp [ho,K.ev hx,run_panic_iface,Result.andThen]
 rw [this];exact hQ _ _ h
theorem ZO {rest:List Oper} {Pn:List PanicEntry→World→Prop} (K:Kd D a N l) (hw:Region.wanted o (yielded ops a.tmps)=true) (h:Bo P o a w Pn) (k:∀ch w',Pn ch w'→Q (.panic ch) a w'):wpList P ops Q (o::rest) a w:=by
 refine wpList_step fun Kc hK=>?_
 rw [aF hw];exact h _ _ k
theorem AF {K:Act→World→Prop} {ch:List PanicEntry} (h:Q (.panic ch) a w):Exit.then K Q (.panic ch) a w:=h
theorem ID {id:Nat} {ch:List PanicEntry} (h:Q (.panic ch) a w):Exit.inBlock id Q (.panic ch) a w:=h
theorem FU {fn:Func} {Rp:Ending→World→Prop} {ch:List PanicEntry} (hd:a.defers=[]) (h:Rp (.panicked ch) w):bodyPost P fn Rp (.panic ch) a w:=⟨hd,h⟩
theorem aBj (h:R a w):vE P O ops S (jZ f) (dM f) R 0 [] a w:=⟨rfl,h⟩
end
section
variable {P:Program} {S:World→Prop} {base:Nat} {W w:World} {L:List mM} {D:List Deferred} {a:Act} {N:Nat} {l:List (Nat×Value)} {o:Oper} {v v':Value} {x y ix:Operand} {k:IntKind} {m n:Int} {t e t':TypeId} {g off:Nat} {cs:List Value} {α:Type} {C:Ah α} {xs ys zs:List α} {A B:Option Addr} {c c':Nat}
theorem aNp:(⟨g,off,none⟩:Addr).add 0=⟨g,off,none⟩:=by unfold Addr.add;split <;> simp_all
theorem vR {len s:Nat} (ho:o.op = .slice t x none none none) (ht:P.underlying t=some (.array len e)) (hsz:(P.info? e).map (·.size)=some s) (K:Kd D a N l) (hx:jH l x=some (.pointer (some ⟨g,off,none⟩))) :
  Rd P S a o (.slice (some ⟨g,off,none⟩) len len):=fun w _=>by
 simp only [Option.map_eq_some_iff] at hsz;obtain ⟨i,vS,hs⟩:=hsz;unfold execOp
 simp [ho,K.ev hx,Instr.sliceAt,Instr.sliceBounds,Instr.sureAddr,run_underlying ht,sizeOf,typeInfo,vS,hs,aNp]
theorem O5 (hx:(cs.drop off).take (C.all xs).length=C.all xs) (h:kX w g t cs.toArray):SL w C (some ⟨g,off,none⟩) xs:=fun _=>⟨g,off,rfl,fun j u hu=>by
 rw [h.cell];have hj:j<(C.all xs).length:=(List.getElem?_eq_some_iff.1 hu).1;rw [←hx,List.getElem?_take,aF hj,List.getElem?_drop] at hu
 simpa using hu⟩
theorem aFs (ho:o.op = .makeInterface t x) (ht:P.concrete t=true) (K:Kd D a N l) (hx:jH l x=some v):Rd P S a o (.iface t v):=fun w _=>by
 unfold execOp
 simp [ho,K.ev hx,run_makeInterface w t v ht]
theorem MK {b s j len:Nat} (ho:o.op = .indexAddr t x ix) (ht:Ou P t e s b=true) (K:Kd D a N l) (hx:jH l x=some (.slice (some ⟨g,0,none⟩) len c)) (hi:jH l ix=some (.int k j)) (hj:Nat.blt j len=true):Rd P S a o (.pointer (some ⟨g,j*s,none⟩)):=fun w _=>by
  obtain ⟨hu,i,vS,hs,_⟩:=pA ht
  have h1:(j:Int)<len:=by have:j<len:=by simpa [Nat.blt_eq] using hj
                          omega
  have hadd:(⟨g,0,none⟩:Addr).add (j*s)=⟨g,j*s,none⟩:=by unfold Addr.add;split <;> simp_all
  unfold execOp
  simp [ho,K.ev hx,K.ev hi,Instr.indexAt,asIntOf,run_underlying hu,sizeOf,typeInfo,vS,hs,h1,hadd]
  intro hh;omega
theorem SL.Nx {C:Ah α} {A:Option Addr} {xs:List α} (h:SL w C A xs) (hA:A.isNone=true):xs=[]:=by
 rcases Nat.eq_zero_or_pos xs.length with h0|h0
 ·exact List.length_eq_zero_iff.1 h0
 ·obtain ⟨b,o',rfl,_⟩:=h h0;cases hA
theorem Do {n:Nat} (ho:o.op = .binOp .eql t x y t') (ht:∃e,P.underlying t=some (.slice e)) (K:Kd D a N l) (hx:jH l x=some (.slice A n c)) (hy:jH l y=some (.slice none 0 0)):Rd P S a o (.bool A.isNone):=fun w hS=>by
 obtain ⟨e,ht⟩:=ht;unfold execOp;simp only [ho,K.ev hx,K.ev hy,Sem.run_bind];have h1:=Lib.run_eql_slice_nil (P:=P) w t e A n c 0 0 ht
 cases A <;> simp [eqGuard,h1]
theorem EI {f:FuncId} {vs:List Value} {u:Value} {mn:String} {args:Array Operand} {ts:Array TypeId} (ho:o.op = .call { callee:=.invoke x mn,args:=args,argTypes:=ts }) (hf:Ej P f=true)
  (hm:∀v w,(method (P.types.size+Made.depth) t v mn).run P w = .ok (f,v) w) (K:Kd D a N l) (hx:jH l x=some (.iface t u)) (hargs:args.toList.map (jH l)=vs.map some) {post:Value→World→Prop}
  (h:Calls P f (u::vs).toArray w fun e w'=>∃v,e = .returned v∧post v w'):Ac P o a w post:=by
 have hE:args.map a.eval=vs.toArray:=by
  apply Array.ext'
  simp only [Array.toList_map]
  have:∀(xs:List Operand) (vs:List Value),xs.map (jH l)=vs.map some→xs.map a.eval=vs:=by
   intro xs
   induction xs with
   | nil=>intro vs h;cases vs <;> simp_all
   | cons x xs ih=>
    intro vs h;cases vs with
    | nil=>simp at h
    | cons v vs=>simp only [List.map_cons,List.cons.injEq] at h ⊢;exact ⟨K.ev h.1,ih vs h.2⟩
  exact this _ _ hargs
 have hrun:(execOp a.eval o).run P w = .ok (.enter f (u::vs).toArray) w:=by
  unfold Ej at hf
  split at hf
  ·rename_i fn hfn
   simp only [o9,bne_iff_ne,ne_eq] at hf;obtain ⟨b,hb⟩:=Option.isSome_iff_exists.1 hf.1;unfold execOp
   simp [ho,resolve,K.ev hx,hE,invoke,callMethod,hm,callFunc,hfn,hb,hf.2]
  ·cases hf
 intro K' Q hK;unfold Oper.wp;rw [hrun,Oper.upon_enter];refine h.mono ?_;rintro e w' ⟨v,rfl,hp⟩;exact hK v w' hp
theorem Jq {b s:Nat} (ho:o.op = .buildSlice t 0 #[]) (ht:Ou P t e s b=true) (hs:s=C.size) (K:Kd D a N l) (M:Mem base W w L) :
  Ac P o a w fun v w'=>∃g,v = .slice (some ⟨g,0,none⟩) ([]:List α).length 0∧Mem base W w' (.row e s (some ⟨g,0,none⟩) ([]:List α).length 0 (C.all ([]:List α))::L):=by
 refine AW (v:=.slice (some ⟨w.heap.size,0,none⟩) 0 0) (w':=w.alloc (.cells #[] e)) ?_ ⟨_,rfl,?_⟩
 ·obtain ⟨hu,i,vS,hsz,_⟩:=pA ht;unfold execOp
  simp [ho,Instr.buildSlice,Sem.run_bind,run_underlying hu,Result.andThen_ok,sizeOf,typeInfo,run_program,vS,hsz,Instr.fill,newRow,run_newObj_alloc]
  congr 2
  exact Array.eq_empty_of_size_eq_zero sQ
 ·exact (M.new e []).fX 0 rfl C [] rfl rfl hs
theorem aCD {n:Nat} {ds cs':List Value} (ho:o.op = .store t x y) (ht:I0 P t n=true) (K:Kd D a N l) (hx:jH l x=some (.pointer (some ⟨g,off,none⟩))) (hy:jH l y=some (.agg ds.toArray)) (h1:ds.all (·.oneCell')=true) (i:Nat) (M:Mem base W w L) (hi:L[i]? = some (.blk g t' cs)) (hn:ds.length=n) (hl:Nat.ble (off+ds.length) cs.length=true)
  (hc:cs.take off++(ds++cs.drop (off+ds.length))=cs'):Ac P o a w fun _ w'=>Mem base W w' (L.set i (.blk g t' cs')):=by
 subst hc;obtain ⟨d,_,_,hsz⟩:=Gb ht;simp only [Option.map_eq_some_iff] at hsz;obtain ⟨inf,vS,hsz⟩:=hsz;have hr:=run_storeCells_at P g off t' ds 0 cs.toArray w (M.gQ hi) (by simpa using Nat.le_of_ble_eq_true hl) (by simpa using h1);refine M8 (w':=w.setRow g (cs.take off++(ds++cs.drop (off+ds.length))).toArray) ?_ (M.setRow i hi _);unfold execOp;have hcell:(Value.agg ds.toArray).cells=ds.toArray:=rfl;simp only [Nat.add_zero,pL] at hr;subst hn
 simp [ho,K.ev hx,K.ev hy,Instr.storeAt,Instr.sureAddr,storeVar,sizeOf,typeInfo,vS,hsz,hcell,hr]
theorem G3 {p:Code} {Q:Exit→Act→World→Prop} {w:World} (n:Nat) (h:Code.rounds P p Q n a w):(Code.loop p).wp P Q a w:=wp_loop_rounds n h
theorem lA {p:Code} {Q:Exit→Act→World→Prop} {w:World} {n:Nat} (h:p.wp P (Exit.then (Code.rounds P p Q n) Q) a w):Code.rounds P p Q (n+1) a w:=h
end
abbrev I (n:Int):Value:=.int .i64 n
inductive Stp (P:Program) (ops:Array Oper) (S:World→Prop) (D:List Deferred) (N:Nat) (l:List (Nat×Value)) (o:Oper) (v:Value):Prop where
 | yes (hw:∀a,Kd D a N l→Region.wanted o (yielded ops a.tmps)=true) (hr:∀a,Kd D a N l→Rd P S a o v)
 | no (hw:∀a,Kd D a N l→Region.wanted o (yielded ops a.tmps)=false) (hv:undef=v)
section
variable {P:Program} {base:Nat} {W w:World} {L:List mM} {S:World→Prop} {D:List Deferred} {a:Act} {N:Nat} {l:List (Nat×Value)} {o:Oper} {v:Value} {post:Value→World→Prop}
  {ops:Array Oper} {Q:Exit→Act→World→Prop} {R:Act→World→Prop} {rest:List Oper} {d:Nat} {f:List Nat}
theorem SU (K:Kd D a N l) (M:Mem base W w L) (k:∀a',Kd D a' N ((d,v)::l)→wpList P ops Q rest a' w) (hd:o.dst=some d:=by exact rfl) (hN:Nat.blt d N=true:=by exact rfl)
    (hs:Stp P ops (fun w=>Mem base W w L) D N l o v:=by
      first
      | exact .no (fun a K=>K.no rfl rfl rfl rfl) rfl
      | exact .no (fun a K=>K.nou rfl rfl rfl) rfl
      | exact .yes (by first|exact fun a K=>cA rfl|exact fun a K=>K.yes rfl rfl rfl) (by
         first
         | exact fun a K=>tO rfl K rfl
         | exact fun a K=>yP rfl K rfl
         | exact fun a K=>Ko rfl K rfl rfl
         | exact fun a K=>Kp rfl K rfl rfl
         | exact fun a K=>QI rfl K rfl
         | exact fun a K=>Gh rfl K rfl rfl
         | exact fun a K=>rd_not rfl K rfl
         | exact fun a K=>nM rfl K rfl rfl
         | exact fun a K=>nA rfl K rfl rfl
         | exact fun a K=>I1 rfl K rfl rfl
         | exact fun a K=>I2 rfl K rfl rfl
         | exact fun a K=>QG rfl K rfl rfl
         | exact fun a K=>QH rfl K rfl rfl
         | exact fun a K=>QE rfl K rfl rfl
         | exact fun a K=>QD rfl K rfl rfl
         | exact fun a K=>QF rfl K rfl rfl
         | exact fun a K=>Ks rfl K rfl rfl
         | exact fun a K=>Kr rfl K rfl rfl
         | exact fun a K=>Kq rfl K rfl rfl)):wpList P ops Q (o::rest) a w:=by
  cases hs with
  | yes hw hr=>exact aDr K (hw a K) hd hN (hr a K) M k
  | no hw hv=>subst hv;exact aO3 K (hw a K) hd hN k
theorem ZP (M:Mem base W w L) (k:∀a',Kd D a' N ((d,v)::l)→wpList P ops Q rest a' w) (hd:o.dst=some d:=by exact rfl) (hN:Nat.blt d N=true:=by exact rfl)
    (hs:Stp P ops (fun w=>Mem base W w L) D N l o v:=by
      first
      | exact .no (fun a K=>K.no rfl rfl rfl rfl) rfl
      | exact .no (fun a K=>K.nou rfl rfl rfl) rfl
      | exact .yes (by first|exact fun a K=>cA rfl|exact fun a K=>K.yes rfl rfl rfl) (by
         first
         | exact fun a K=>tO rfl K rfl
         | exact fun a K=>yP rfl K rfl
         | exact fun a K=>Ko rfl K rfl rfl
         | exact fun a K=>Kp rfl K rfl rfl
         | exact fun a K=>QI rfl K rfl
         | exact fun a K=>Gh rfl K rfl rfl
         | exact fun a K=>rd_not rfl K rfl
         | exact fun a K=>nM rfl K rfl rfl
         | exact fun a K=>nA rfl K rfl rfl
         | exact fun a K=>I1 rfl K rfl rfl
         | exact fun a K=>I2 rfl K rfl rfl
         | exact fun a K=>QG rfl K rfl rfl
         | exact fun a K=>QH rfl K rfl rfl
         | exact fun a K=>QE rfl K rfl rfl
         | exact fun a K=>QD rfl K rfl rfl
         | exact fun a K=>QF rfl K rfl rfl
         | exact fun a K=>Ks rfl K rfl rfl
         | exact fun a K=>Kr rfl K rfl rfl
         | exact fun a K=>Kq rfl K rfl rfl)):∀a,Kd D a N l→wpList P ops Q (o::rest) a w:=fun a K=>SU K M k hd hN hs
theorem jO (hr:∀a,Kd D a N l→Rd P (fun w=>Mem base W w L) a o v) (M:Mem base W w L) (k:∀a',Kd D a' N ((d,v)::l)→wpList P ops Q rest a' w)
  (hw:∀a,Kd D a N l→Region.wanted o (yielded ops a.tmps)=true:=by first|exact fun a K=>cA rfl|exact fun a K=>K.yes rfl rfl rfl) (hd:o.dst=some d:=by exact rfl) (hN:Nat.blt d N=true:=by exact rfl) :
  ∀a,Kd D a N l→wpList P ops Q (o::rest) a w:=fun a K=>aDr K (hw a K) hd hN (hr a K) M k
theorem X_r (K:Kd D a N l) (hr:Rd P (fun w=>Mem base W w L) a o v) (M:Mem base W w L) (k:∀a',Kd D a' N ((d,v)::l)→wpList P ops Q rest a' w)
  (hw:∀a,Kd D a N l→Region.wanted o (yielded ops a.tmps)=true:=by first|exact fun a K=>cA rfl|exact fun a K=>K.yes rfl rfl rfl) (hd:o.dst=some d:=by exact rfl) (hN:Nat.blt d N=true:=by exact rfl) :
  wpList P ops Q (o::rest) a w:=aDr K (hw a K) hd hN hr M k
theorem X_a (K:Kd D a N l) (h:Ac P o a w post) (k:∀v a' w',post v w'→Kd D a' N ((d,v)::l)→wpList P ops Q rest a' w')
  (hw:∀a,Kd D a N l→Region.wanted o (yielded ops a.tmps)=true:=by first|exact fun a K=>cA rfl|exact fun a K=>K.yes rfl rfl rfl) (hd:o.dst=some d:=by exact rfl) (hN:Nat.blt d N=true:=by exact rfl) :
  wpList P ops Q (o::rest) a w:=aDs K (hw a K) hd hN h k
theorem Pq (K:Kd D a N l) (h:Ac P o a w post) (k:∀v a' w',post v w'→Kd D a' N l→wpList P ops Q rest a' w')
  (hw:∀a,Kd D a N l→Region.wanted o (yielded ops a.tmps)=true:=by first|exact fun a K=>cA rfl|exact fun a K=>K.yes rfl rfl rfl) (hd:o.dst=none:=by exact rfl) :
  wpList P ops Q (o::rest) a w:=aGh K (hw a K) hd h k
theorem T_o (K:Kd D a N l) (k:∀a',Kd D a' N ((d,v)::l)→pV P ops S R (marked f rest) a' w) (hd:o.dst=some d:=by exact rfl) (hN:Nat.blt d N=true:=by exact rfl)
    (hs:Stp P ops S D N l o v:=by
      first
      | exact .no (fun a K=>K.no rfl rfl rfl rfl) rfl
      | exact .no (fun a K=>K.nou rfl rfl rfl) rfl
      | exact .yes (by first|exact fun a K=>cA rfl|exact fun a K=>K.yes rfl rfl rfl) (by
         first
         | exact fun a K=>tO rfl K rfl
         | exact fun a K=>yP rfl K rfl
         | exact fun a K=>Ko rfl K rfl rfl
         | exact fun a K=>Kp rfl K rfl rfl
         | exact fun a K=>QI rfl K rfl
         | exact fun a K=>Gh rfl K rfl rfl
         | exact fun a K=>rd_not rfl K rfl
         | exact fun a K=>nM rfl K rfl rfl
         | exact fun a K=>nA rfl K rfl rfl
         | exact fun a K=>I1 rfl K rfl rfl
         | exact fun a K=>I2 rfl K rfl rfl
         | exact fun a K=>QG rfl K rfl rfl
         | exact fun a K=>QH rfl K rfl rfl
         | exact fun a K=>QE rfl K rfl rfl
         | exact fun a K=>QD rfl K rfl rfl
         | exact fun a K=>QF rfl K rfl rfl
         | exact fun a K=>Ks rfl K rfl rfl
         | exact fun a K=>Kr rfl K rfl rfl
         | exact fun a K=>Kq rfl K rfl rfl)):pV P ops S R (marked (0::f) (o::rest)) a w:=by
  cases hs with
  | yes hw hr=>exact aGi K (hw a K) hd hN (hr a K) k
  | no hw hv=>subst hv;exact aO4 K (hw a K) hd hN k
theorem U_o (k:∀a',Kd D a' N ((d,v)::l)→pV P ops S R (marked f rest) a' w) (hd:o.dst=some d:=by exact rfl) (hN:Nat.blt d N=true:=by exact rfl)
    (hs:Stp P ops S D N l o v:=by
      first
      | exact .no (fun a K=>K.no rfl rfl rfl rfl) rfl
      | exact .no (fun a K=>K.nou rfl rfl rfl) rfl
      | exact .yes (by first|exact fun a K=>cA rfl|exact fun a K=>K.yes rfl rfl rfl) (by
         first
         | exact fun a K=>tO rfl K rfl
         | exact fun a K=>yP rfl K rfl
         | exact fun a K=>Ko rfl K rfl rfl
         | exact fun a K=>Kp rfl K rfl rfl
         | exact fun a K=>QI rfl K rfl
         | exact fun a K=>Gh rfl K rfl rfl
         | exact fun a K=>rd_not rfl K rfl
         | exact fun a K=>nM rfl K rfl rfl
         | exact fun a K=>nA rfl K rfl rfl
         | exact fun a K=>I1 rfl K rfl rfl
         | exact fun a K=>I2 rfl K rfl rfl
         | exact fun a K=>QG rfl K rfl rfl
         | exact fun a K=>QH rfl K rfl rfl
         | exact fun a K=>QE rfl K rfl rfl
         | exact fun a K=>QD rfl K rfl rfl
         | exact fun a K=>QF rfl K rfl rfl
         | exact fun a K=>Ks rfl K rfl rfl
         | exact fun a K=>Kr rfl K rfl rfl
         | exact fun a K=>Kq rfl K rfl rfl)):∀a,Kd D a N l→pV P ops S R (marked (0::f) (o::rest)) a w:=fun a K=>T_o K k hd hN hs
theorem G4 (hr:∀a,Kd D a N l→Rd P S a o v) (k:∀a',Kd D a' N ((d,v)::l)→pV P ops S R (marked f rest) a' w)
  (hw:∀a,Kd D a N l→Region.wanted o (yielded ops a.tmps)=true:=by first|exact fun a K=>cA rfl|exact fun a K=>K.yes rfl rfl rfl) (hd:o.dst=some d:=by exact rfl) (hN:Nat.blt d N=true:=by exact rfl) :
  ∀a,Kd D a N l→pV P ops S R (marked (0::f) (o::rest)) a w:=fun a K=>aGi K (hw a K) hd hN (hr a K) k
theorem T_r (K:Kd D a N l) (hr:Rd P S a o v) (k:∀a',Kd D a' N ((d,v)::l)→pV P ops S R (marked f rest) a' w)
  (hw:∀a,Kd D a N l→Region.wanted o (yielded ops a.tmps)=true:=by first|exact fun a K=>cA rfl|exact fun a K=>K.yes rfl rfl rfl) (hd:o.dst=some d:=by exact rfl) (hN:Nat.blt d N=true:=by exact rfl) :
  pV P ops S R (marked (0::f) (o::rest)) a w:=aGi K (hw a K) hd hN hr k
theorem T_a (K:Kd D a N l) (h:Ac P o a w post) (k:∀v a' w',post v w'→Kd D a' N ((d,v)::l)→S w'∧pV P ops S R (marked f rest) a' w')
  (hw:∀a,Kd D a N l→Region.wanted o (yielded ops a.tmps)=true:=by first|exact fun a K=>cA rfl|exact fun a K=>K.yes rfl rfl rfl) (hd:o.dst=some d:=by exact rfl) (hN:Nat.blt d N=true:=by exact rfl) :
  pV P ops S R (marked (1::f) (o::rest)) a w:=aBB K (hw a K) hd hN h k
theorem T_b (K:Kd D a N l) (h:Ac P o a w post) (k:∀v a' w',post v w'→Kd D a' N l→pV P ops S R (marked f rest) a' w')
  (hw:∀a,Kd D a N l→Region.wanted o (yielded ops a.tmps)=true:=by first|exact fun a K=>cA rfl|exact fun a K=>K.yes rfl rfl rfl) (hd:o.dst=none:=by exact rfl) :
  pV P ops S R (marked (2::f) (o::rest)) a w:=aIO K (hw a K) hd h k
end
theorem yK (l:aR):(bs l).size=l.length:=by simp [bs,ByteArray.size]
theorem Un (l:aR):(bs l).toList=l:=ByteArray.toList_mk l
theorem aCE (l m:aR):bs l++bs m=bs (l++m):=by
 apply ByteArray.ext
 simp [bs,ByteArray.data_append]
section
variable {P:Program} {base:Nat} {W w:World} {L:List mM} {S:World→Prop} {D:List Deferred} {a:Act} {N:Nat} {l:List (Nat×Value)} {o:Oper} {x y ix:Operand} {t t' e:TypeId} {m n p q:Int} {k k':IntKind}
  {xs ys zs:aR} {A:Option Addr} {c:Nat} {ns:List Int}
theorem aBk (ho:o.op = .call { callee:=.builtin .len,args:=#[x],argTypes:=#[t] }) (h:P.underlying t=some .string) (K:Kd D a N l) (hx:jH l x=some (.string (bs xs))):Rd P S a o (.int .i64 xs.length):=by
 have:=aGd (P:=P) (S:=S) ho h K hx;rw [yK] at this;exact this
theorem aLp (ho:o.op = .index t x ix) (ht:P.underlying t=some .string) (K:Kd D a N l) (hx:jH l x=some (.string (bs xs))) (hi:jH l ix=some (.int k n)) {b:UInt8} (he:idx xs n=some b):Rd P S a o (.int .u8 (b.toNat:Int)):=
 aKc ho ht K hx hi he
theorem Ny (ho:o.op = .binOp .add t x y t') (K:Kd D a N l) (hx:jH l x=some (.string (bs xs))) (hy:jH l y=some (.string (bs ys))) (hz:Ai xs ys=some zs):Rd P S a o (.string (bs zs)):=by
 obtain ⟨rfl,h⟩:=aBD hz;refine v6 ho K hx hy fun w=>?_
 have h1:=yK xs;have h2:=yK ys
 simp [eqGuard,binOp_string_add,Op.stringOp,aCE]
 omega
theorem aH4 (ho:o.op = .binOp .eql t x y t') (K:Kd D a N l) (hx:jH l x=some (.string (bs xs))) (hy:jH l y=some (.string (bs ys))):Rd P S a o (.bool (decide (xs=ys))):=
 v6 ho K hx hy fun w=>by
  have e:(xs==ys)=decide (xs=ys):=by rw [Bool.eq_iff_iff];simp
  rw [Sem.run_bind];simp [eqGuard,binOp_string_eql,Un,e]
theorem aH5 (ho:o.op = .binOp .neq t x y t') (K:Kd D a N l) (hx:jH l x=some (.string (bs xs))) (hy:jH l y=some (.string (bs ys))):Rd P S a o (.bool (!decide (xs=ys))):=
 v6 ho K hx hy fun w=>by
  have e:(xs==ys)=decide (xs=ys):=by rw [Bool.eq_iff_iff];simp
  rw [Sem.run_bind];simp [eqGuard,binOp_string_neq,Un,e]
theorem zF {b:Nat} (ho:o.op = .convert t t' x) (ht:Ou P t e 1 b=true) (he:P.underlying e=some (.int .u8)) (hd:P.underlying t'=some .string) (K:Kd D a N l) (hx:jH l x=some (.slice A ns.length c)) (hb:∀w,S w→SL w (cI .u8) A ns):Rd P S a o (.string (bs (toB ns))):=fun w hS=>by
 obtain ⟨hu,_⟩:=pA ht;unfold execOp;simp only [ho,K.ev hx]
 have key:(convert t t' (.slice A ns.length c)).run P w = .ok (.string (bs (toB ns))) w:=by
  by_cases h0:0<ns.length
  ·obtain ⟨b,off,rfl,hc⟩:=hb w hS h0;refine run_convert_bytes_arg w t e hu he b off ns.length c ns rfl (fun i hi=>?_) t' hd;refine hc i _ ?_;have:=Ah.Dz (cI .u8) ns i 0 ns[i] (.int .u8 ns[i]) (f9 hi) rfl;rw [qG,f9 hi];have h1:(cI .u8).size=1:=rfl;rw [h1,Nat.mul_one,Nat.add_zero] at this;exact this
  ·have hn:ns=[]:=List.eq_nil_of_length_eq_zero oQ;subst hn;cases A with
   | none=>exact run_convert_bytes_nil w t e hu he _ _ t' hd
   | some ad=>
    rw [run_convert_bytes_string w t t' e (some ad) _ c hu he hd];exact run_bytesToString w ad 0 c [] (run_loadCells_list (P:=P) w ad [] (fun j v hj=>by simp at hj))
 simp [key]
theorem LI {b:Nat} (ho:o.op = .convert t t' x) (ht:Ou P t e 1 b=true) (he:P.underlying e=some (.int .u8)) (hd:P.underlying t'=some .string) (K:Kd D a N l) (hx:jH l x=some (.slice A ns.length c)) (M:Mem base W w L) (R:SL w (cI .u8) A ns) :
  Ac P o a w fun v w'=>v = .string (bs (toB ns))∧Mem base W w' L:=
 AW (zF (S:=fun w'=>w'=w) ho ht he hd K hx (fun w' hw=>hw▸R) w rfl) ⟨rfl,M⟩
theorem aCF {lo hi:Option Operand} (ho:o.op = .slice t x lo hi none) (ht:P.underlying t=some .string) (K:Kd D a N l) (hx:jH l x=some (.string (bs xs)))
  (hlo:(match lo with|some z=>jH l z=some (.int k p)|none=>p=0)) (hhi:(match hi with|some z=>jH l z=some (.int k' q)|none=>q=xs.length)) (hy:Fs xs p q=some ys):Rd P S a o (.string (bs ys)):=fun w _=>by
 obtain ⟨h0,h1,h2,rfl⟩:=M6 hy;have hs:((bs xs).size:Int)=xs.length:=by rw [yK]
 have hex:(bs xs).extract p.toNat q.toNat=bs ((xs.take q.toNat).drop p.toNat):=by
  rw [show bs xs=ByteArray.mk xs.toArray from rfl,ByteArray.extract_mk,List.drop_take];rfl
 have hS:∀a b c,(Instr.sliceAt t (.string (bs xs)) a b c).run P w=(Instr.slice t (.string (bs xs)) a b c).run P w:=fun a b c=>by rw [run_sliceAt_string w t _ a b c ht]
 unfold execOp;cases lo with
 | none=>
  simp only at hlo;subst hlo;cases hi with
  | none=>
   simp only at hhi;subst hhi;have:=run_slice_string_all (P:=P) w t (bs xs) ht;rw [yK] at this;rw [Int.toNat_zero,fM] at hex;rw [hex] at this;simp only [ho,K.ev hx,Sem.run_bind,Option.map,hS,this]
   simp
  | some z=>
   simp only at hhi;have:=run_slice_string_to_if (P:=P) w t (bs xs) k' q ht;rw [aF ⟨by omega,by omega⟩] at this;rw [Int.toNat_zero] at hex;rw [hex] at this;simp only [ho,K.ev hx,K.ev hhi,Sem.run_bind,Option.map,hS,this]
   simp
 | some z=>
  simp only at hlo;cases hi with
  | none=>
   simp only at hhi;subst hhi;have:=run_slice_string_from_if (P:=P) w t (bs xs) k p ht;rw [aF ⟨by omega,by omega⟩,yK] at this;rw [fM] at hex;rw [hex] at this;simp only [ho,K.ev hx,K.ev hlo,Sem.run_bind,Option.map,hS,this]
   simp
  | some z2=>
   simp only at hhi;have:=run_slice_string (P:=P) w t (bs xs) k k' p q ht h0 h1 oQ;rw [hex] at this;simp only [ho,K.ev hx,K.ev hlo,K.ev hhi,Sem.run_bind,Option.map,hS,this]
   simp
theorem LJ (s:aR):Lib.strCells (bs s)=(cI .u8).all (rT s):=by
 show s.map (fun b=>Value.int .u8 b.toNat)=_
 induction s with
 | nil=>rfl
 | cons x s ih=>
  show _=(cI .u8).enc (x.toNat:Int)++(cI .u8).all (rT s);rw [List.map_cons,ih];rfl
theorem BT (s:aR):(rT s).length=s.length:=by simp [rT]
theorem aCG {i:TypeInfo} {v v':Value} {n:Nat} {vs:List Value} {w':World} (s:ByteArray) (ht:P.underlying t=some (.slice e)) (hu:P.underlying t'=some .string) (hi:P.info? e=some i) (hz:i.zero=some (.int .u8 0)) (hsize:i.size=1) (hby:i.bytes=1)
  (hown:w.ownsRow 0 e 1 v n vs) (hb:n+s.size≤140737488355328) (ty:TypeId) (hr:(Builtin.append_ #[t,t'] ty #[v,.string s]).run P w = .ok v' w') (h0:v≠.slice none 0 0∨0<s.size):v'.ownBlock=v.ownBlock∨v'.ownBlock=some w.heap.size:=by
 have hxl:vs.length=n:=by simpa using hown.1
 rcases hown.2 with ⟨rfl,rfl⟩|⟨g,cap,cur,rfl,hbg,hg,hnc,hcm,hcs,htake⟩
 ·have hm:0<s.size:=by
   rcases h0 with h0|h0
   ·exact absurd rfl h0
   ·exact h0
  have:=run_append_nil_string (P:=P) w t t' ty e i (.int .u8 0) ht hu hi hz s oQ oQ (by rw [hby];omega);rw [hr] at this
  injection this with h1 _
  right;rw [h1];rfl
 ·by_cases hroom:n+s.size≤cap
  ·have:=Lib.run_append_room_string (P:=P) w t t' ty e i ht hu hi hsize g n cap cur hg s hroom oQ;rw [hr] at this
   injection this with h1 _
   left;rw [h1];rfl
  ·have holds:∀j u,vs[j]? = some u→w.cell? ((⟨g,0,none⟩:Addr).add j)=some u:=hown.cells (g:=g) rfl;have:=Lib.run_append_grow_string (P:=P) w t t' ty e i (.int .u8 0) ht hu hi hz ⟨g,0,none⟩ n cap vs (by rw [hsize];simpa using hxl) holds s oQ oQ (by rw [hby];exact growslice_fits oQ oQ);rw [hr] at this
   injection this with h1 _
   right;rw [h1];rfl
theorem Nz {zs:List Int} (ho:o.op = .call { callee:=.builtin .append,args:=#[x,y],argTypes:=#[t,t'] }) (ht:Ou P t e 1 1=true) (hu:P.underlying t'=some .string) (hz:(P.info? e).bind (·.zero)=some (.int .u8 0)) (K:Kd D a N l)
  (hx:jH l x=some (.slice A ns.length c)) (hy:jH l y=some (.string (bs ys))) (i:Nat) (M:Mem base W w L) (hi:L[i]? = some (.row e 1 A ns.length c ((cI .u8).all ns))) (gK:app 1 ns (rT ys)=some zs) :
  Ac P o a w fun v w'=>∃A' c'',v = .slice A' zs.length c''∧Mem base W w' (L.set i (.row e 1 A' zs.length c'' ((cI .u8).all zs))):=by
 obtain ⟨rfl,hbytes⟩:=QA gK;rw [BT] at hbytes;obtain ⟨hsl,inf,vS,hsz,hby⟩:=pA ht;have hzz:inf.zero=some (.int .u8 0):=by rw [vS] at hz;exact hz
 have hown:=M.has i _ hi;have hsize:(bs ys).size=ys.length:=yK ys;have hb2:ns.length+(bs ys).size≤140737488355328:=by rw [hsize];omega
 obtain ⟨v',w',hr,h2,h3,h4⟩:=Lib.run_append_own_string (P:=P) w 0 t t' o.type e inf hsl hu vS hzz hsz hby (.slice A ns.length c) ns.length ((cI .u8).all ns) hown (bs ys) (by simp only [maxLen];omega) hb2 (Nat.zero_le _);rw [LJ,hsize,←Ah.all_append] at h2
 by_cases h0:(Value.slice A ns.length c) = .slice none 0 0∧ys=[]
 ·obtain ⟨h00,rfl⟩:=h0
  injection h00 with e1 e2 e3
  subst e1 e3;have hns:ns=[]:=List.eq_nil_of_length_eq_zero e2;subst hns
  have hr2:(Builtin.append_ #[t,t'] o.type #[.slice none ([]:List Int).length 0,.string (bs [])]).run P w = .ok (.slice none 0 0) w:=by
   have hf:=Lib.run_firstCells_string (P:=P) w 1 (bs []);have hm:(bs []).size=0:=rfl;rw [hm] at hf
   simp [Builtin.append_,run_underlying hsl,run_underlying hu,sizeOf,typeInfo,vS,hsz,Builtin.lenOf,hm,hf]
  refine AW (v:=.slice none 0 0) (w':=w) ?_ ⟨none,0,rfl,?_⟩
  ·unfold execOp;simp only [ho,resolve,invoke,builtin,Sem.run_bind,Sem.run_pure,Result.andThen_ok,List.map_toArray,List.map_cons,List.map_nil,K.ev hx,K.ev hy];rw [hr2];rfl
  ·have:L.set i (.row e 1 none (([]:List Int)++rT []).length 0 ((cI .u8).all ([]++rT [])))=L:=by
    obtain ⟨hlt,he⟩:=List.getElem?_eq_some_iff.1 hi;exact he▸List.set_getElem_self hlt
   rw [this];exact M
 have hne:(Value.slice A ns.length c)≠.slice none 0 0∨0<(bs ys).size:=by
  by_cases hy0:ys=[]
  ·left;exact fun e=>h0 ⟨e,hy0⟩
  ·right;rw [hsize];exact List.length_pos_iff.2 hy0
 have hpl:=aCG (bs ys) hsl hu vS hzz hsz hby hown hb2 o.type hr hne
 have hv':v'≠.slice none 0 0:=fun e=>by
  obtain ⟨q1,q2⟩:=h4.1 e;rw [hsize] at q2;exact h0 ⟨q1,List.eq_nil_of_length_eq_zero q2⟩
 rcases h2.2 with ⟨e1,_⟩|⟨g,cap,cur,rfl,_⟩
 ·exact absurd e1 hv'
 refine AW (v:=.slice (some ⟨g,0,none⟩) (ns.length+ys.length) cap) (w':=w') ?_ ⟨some ⟨g,0,none⟩,cap,by rw [kG,BT],?_⟩
 ·unfold execOp;simp only [ho,resolve,invoke,builtin,Sem.run_bind,Sem.run_pure,Result.andThen_ok,List.map_toArray,List.map_cons,List.map_nil,K.ev hx,K.ev hy];rw [hr];rfl
 ·have h3':w.grownBy w' (A.map (·.block)):=by
   cases A with
   | none=>exact h3
   | some ad=>exact h3
  rw [kG,BT];refine M.grown i hi h3' h2 ?_
  rcases hpl with hpl|hpl
  ·left
   cases A with
   | none=>simp [Value.ownBlock] at hpl
   | some ad=>simpa [Value.ownBlock] using hpl.symm
  ·right
   simp [Value.ownBlock] at hpl
   omega
end
end
section
open Go.RowKit Go.WideMaps
section
variable {P:Program} {base:Nat} {W w:World} {L:List mM} {S:World→Prop} {D:List Deferred} {a:Act} {N:Nat} {l:List (Nat×Value)} {o:Oper} {x y z:Operand} {t k e T:TypeId} {g n c:Nat} {A:Option Addr}
  {m m':List lC} {s:aR} {r:Int×Bool} {v:Int}
theorem Mem.swap {e e':mM} (M:Mem base W w L) (i:Nat) (hi:L[i]? = some e) (h:mM.holds w e') (hf:e'.foot=e.foot):Mem base W w (L.set i e'):=
 M.aDn i hi (Below.refl _ _) h (fun _ _ _=>rfl) (fun g hg=>.inl (hf▸hg)) M.UH
theorem Mem.aFt (e:TypeId) (M:Mem base W w (.blk g T [.pointer none,.slice none 0 0]::L)):Mem base W w (.row e 1 none ([]:aR).length 0 ((cI .u8).all (rT ([]:aR))) :: .H0 g T none ([]:aR).length 0::L):=
 Mem.cC e 1 (cI .u8) (M.swap 0 rfl (show mM.holds w (.H0 g T none 0 0) from ⟨none,.inl rfl,M.has 0 _ rfl⟩) rfl)
theorem Mem.aI8 (M:Mem base W w L) (i:Nat) (hi:L[i]? = some (.blk g T [.pointer (some ⟨g,0,none⟩),.slice A n c])):Mem base W w (L.set i (.H0 g T A n c)):=
 M.swap i hi (show mM.holds w (.H0 g T A n c) from ⟨_,.inr rfl,M.has i _ hi⟩) rfl
theorem Mem.builder {b:aR} (M:Mem base W w (.H0 g T A b.length c :: .row e 1 A b.length c ((cI .u8).all (rT b))::L)):Lib.IsBuilder T e base g (Lib.byteCells b) w:=by
 obtain ⟨p,hp,hb⟩:=M.has 0 _ rfl;have hrow:w.ownsRow 0 e 1 (.slice A b.length c) b.length ((cI .u8).all (rT b)):=M.has 1 _ rfl;rw [←LJ] at hrow;have hup:=M.up 0 _ g rfl rfl
 have hat:Lib.BuilderAt T e base g (.pointer p) (Lib.byteCells b) w:=by
  refine ⟨hup,.slice A b.length c,hb,?_,?_⟩
  ·rw [Lib.byteCells_length];obtain ⟨h1,h2⟩:=hrow;refine ⟨h1,?_⟩
   rcases h2 with h2|⟨g',cap,cur,q1,q2,q3⟩
   ·exact .inl h2
   ·refine .inr ⟨g',cap,cur,q1,?_,q3⟩
    injection q1 with q1 _ _
    exact M.up 1 _ g' rfl (by simp [mM.foot,q1])
  ·intro h;cases A with
   | none=>simp [Value.ownBlock] at h
   | some ad=>
    have h':ad.block=g:=by simpa [Value.ownBlock] using h
    have:=M.one 0 1 _ _ g rfl rfl rfl (by simp [mM.foot,h'])
    omega
 rcases hp with rfl|rfl
 ·exact .inl hat
 ·exact .inr hat
theorem KW {α:Type} {C:Ah α} {xs:List α} {el:α} {b s':Nat} {i:Int} {kk:IntKind} {w':World} (ho:o.op = .indexAddr t x y) (ht:Ou P t e s' b=true) (K:Kd D a N l) (hx:jH l x=some (.slice A xs.length c)) (hi:jH l y=some (.int kk i)) (hb:SL w' C A xs) (he:idx xs i=some el):Rd P S a o (.pointer (some ((adr A).add (i.toNat*s')))):=fun w hS=>by
 obtain ⟨hu,inf,vS,hs,_⟩:=pA ht;obtain ⟨h0,hlt,hel⟩:=Cg he;obtain ⟨b',o',hA,hc⟩:=hb oQ;have h1:i<xs.length:=oQ
 unfold execOp;subst hA
 simp [ho,K.ev hx,K.ev hi,Instr.indexAt,asIntOf,run_underlying hu,sizeOf,typeInfo,vS,hs,h0,h1,adr]
theorem aNq {O:Exit→Act→World→Prop} {ops:Array Oper} {f:List Nat} {d cc n':Nat} {u:Value} {R:Act→World→Prop} {rem:List Nat} (AS:List Nat) (hc:(rem.erase cc==AS)=true) (ho:ops[cc]? = some o) (K:Kd D a N l) (hw:Region.wanted o (yielded ops a.tmps)=true) (hd:o.dst=some d) (hN:Nat.blt d N=true)
  (hr:Rd P (fun w=>Mem base W w L) a o u) (M:Mem base W w L) (k:∀a',Kd D a' N ((d,u)::l)→(dM f cc=true→S w)∧vE P O ops S (jZ f) (dM f) R n' AS a' w) :
  wpOp P ops O cc (fun a' w'=>(dM f cc=true→S w')∧vE P O ops S (jZ f) (dM f) R n' (rem.erase cc) a' w') a w:=
 ST AS hc ho K hw hd hN (post:=fun v' w'=>v'=u∧w'=w) (AW (hr w M) ⟨rfl,rfl⟩) fun v' a' w' hp K'=>by obtain ⟨rfl,rfl⟩:=hp;exact k a' K'
theorem aNr {Q:Exit→Act→World→Prop} {St Rt:Type} {Rel:St→Act→World→Prop} {kk:St→Option Rt} {lf:(St→Option Rt)→Nat→St→Option Rt} {r:Rt} {p:Code} {n:Nat} {st:St}
  (h:lf kk n st=some r) (hz:∀kk st,lf kk 0 st=none) (h0:Rel st a w) (hk:∀st a w,Rel st a w→kk st=some r→Q .ret a w)
  (round:∀(kk:St→Option Rt) n st a w,(∀st a w,Rel st a w→kk st=some r→Q .ret a w)→Rel st a w→lf kk (n+1) st=some r→p.wp P (Exit.then (fun a w=>∃st,Rel st a w∧lf kk n st=some r) Q) a w):(Code.loop p).wp P Q a w:=by
 refine aDt (I:=fun n a w=>∃st,Rel st a w∧lf kk n st=some r) n ⟨st,h0,h⟩ (fun a w ⟨st,_,h⟩=>by rw [hz] at h;cases h) ?_;rintro n a w ⟨st,hr,h⟩;exact round kk n st a w hk hr h
theorem inS (i:Nat) (h:L[i]? = some (.Oq P k e g m)):∀w,Mem base W w L→SMap P k e w g m:=fun _ M=>M.has i _ h
theorem SMap.new (w:World):SMap P k e (w.alloc (.map #[] 0)) w.heap.size []:=⟨.map [],World.ownsMap_made w P k _,fun s=>⟨rfl,fun z=>rfl⟩⟩
theorem ZQ (ho:o.op = .makeMap t none) (k e:TypeId) (M:Mem base W w L):Ac P o a w fun v w'=>∃g,v = .map (some g)∧Mem base W w' (.Oq P k e g []::L):=by
 refine AW (v:=.map (some w.heap.size)) (w':=w.alloc (.map #[] 0)) ?_ ⟨_,rfl,?_⟩
 ·unfold execOp
  simp [ho,run_makeMap_plain]
 ·refine (M.below ((Below.refl _ _).alloc (pK _) _)).cons (show mM.holds _ (.Oq P k e w.heap.size []) from SMap.new w) fun g hg=>?_
  simp [mM.foot] at hg
  subst hg;exact ⟨M.sz,fun i e' h he=>by have:=M.Mp i e' _ h he;omega⟩
theorem aBl (ho:o.op = .lookup t x y true) (ht:P.underlying t=some (.map k e)) (hk:P.underlying k=some .string) (he:P.underlying e=some (.int .i64)) (hz:(P.info? e).bind (·.zero)=some (.int .i64 0)) (K:Kd D a N l)
  (hx:jH l x=some (.map (some g))) (hy:jH l y=some (.string (bs s))) (hM:∀w,S w→SMap P k e w g m) (hl:QB m s=some r):Rd P S a o (.tuple #[.int .i64 r.1,.bool r.2]):=fun w hS=>by
 obtain ⟨rfl,hs⟩:=YB hl;obtain ⟨D,hown,hD⟩:=hM w hS
 have hz:∀w,(zeroValue e).run P w = .ok (.int .i64 0) w:=fun w=>by
  simp only [Option.bind_eq_some_iff] at hz;obtain ⟨inf,vS,hz0⟩:=hz
  simp [zeroValue,typeInfo,vS,hz0]
 have hkey:keyOf P k (.string (bs s))=some (.string s):=keyOf_string_mk hk (by rw [yK];unfold maxLen;omega);obtain ⟨v,ps,hrun,hv⟩:=hown.look_ok (Maps.string_keyed hk) ht (hz w) (plainElem_int he aL) hkey;obtain ⟨c,rfl,hc,_⟩:=plainElem_int_inv he hv;obtain ⟨h1,h2⟩:=hD s;simp only [Prod.mk.injEq] at hc
 have hcc:c=(xT m s).getD 0:=by
  have h3:=h2 (.lit (.int .i64 0));rw [hc.1] at h3;cases hm:xT m s with
  | none=>rw [hm] at h3;simp at h3;simp [h3]
  | some q=>rw [hm] at h3;simp at h3;simp [h3]
 subst hcc;rw [h1] at hrun;unfold execOp
 simp [ho,K.ev hx,K.ev hy,hrun]
theorem Uo (ho:o.op = .mapUpdate t x y z) (ht:P.underlying t=some (.map k e)) (hk:P.underlying k=some .string) (he:P.underlying e=some (.int .i64)) (K:Kd D a N l)
  (hx:jH l x=some (.map (some g))) (hy:jH l y=some (.string (bs s))) (hv:jH l z=some (.int .i64 v)) (i:Nat) (M:Mem W.heap.size W w L) (hi:L[i]? = some (.Oq P k e g m)) (hp:YA m s v=some m') :
  Ac P o a w fun _ w'=>Mem W.heap.size W w' (L.set i (.Oq P k e g m')):=by
 obtain ⟨rfl,h1,h2,h3,h4⟩:=aBA hp;obtain ⟨D,hown,hD⟩:=M.has i _ hi;have hkey:keyOf P k (.string (bs s))=some (.string s):=keyOf_string_mk hk (by rw [yK];unfold maxLen;omega);obtain ⟨w',hrun,hown',hg⟩:=hown.update (Maps.string_keyed hk) ht (by unfold maxLen;omega) hkey (plainElem_int he (WalkArith.wf_i64 ⟨h3,h4⟩));refine M8 (w':=w') ?_ (M.aL7 rfl i hi ((Below.refl _ w).grown hg M.sz fun k hk=>M.up i _ k hi (by cases hk;rfl)) (show mM.holds w' (.Oq P k e g ((s,v)::m)) from ⟨_,hown',fun s'=>?_⟩) (fun j hj hne=>hg.block j hj fun h=>hne (by cases h;rfl)) (fun g' hg'=>.inl hg'))
 ·unfold execOp
  simp [ho,K.ev hx,K.ev hy,K.ev hv,hrun]
 ·have hkl:WideAt.IsKeyLit (.string s):=trivial
  by_cases hs:s=s'
  ·subst hs;refine ⟨?_,fun z=>?_⟩
   ·rw [Maps.has_put_same hown.isMap hkl];simp [xT]
   ·rw [Maps.atKey_put_same hown.isMap hkl];simp [xT]
  ·have hne:(Lit.string s':Lit)≠.string s:=fun h=>hs (by injection h with h;exact h.symm)
   obtain ⟨q1,q2⟩:=hD s';refine ⟨?_,fun z=>?_⟩
   ·rw [Maps.has_put_other hne,q1];simp [xT,hs]
   ·rw [Maps.atKey_put_other hne,q2];simp [xT,hs]
end
end
end Go.Proofs.YtpmnfhifmmfgladGreatDoor
