/- Texts of the claim ShotAlike, joined and made small by a program. -/
import Derived.ChangeKeysEq
import Derived.KernelRfl
import Derived.Laws.BytesArg
import Derived.Laws.CopyRow
import Derived.Laws.IdiomCopy
import Derived.Laws.IdiomStrings
import Derived.Laws.Strings2
import Derived.Laws.Strings3
import Derived.Lib.AppendStr
import Derived.Lib.AtoiAllCases
import Derived.Lib.SliceRun
import Derived.LoopN
import Derived.Maps.OwnSet
import Derived.Recover
import Derived.WalkSpells
import Derived.WideMake
import Derived.Test.YtpmnfhifmmfglabGreatDoorShotAlikeK4
import Derived.Test.YtpmnfhifmmfglabGreatDoorShotAlikeK5
import Derived.Test.YtpmnfhifmmfglabGreatDoorShotAlikeK6
import Derived.Test.YtpmnfhifmmfglabGreatDoorShotAlikeK7
set_option linter.unusedVariables false
set_option linter.unusedSimpArgs false
set_option linter.unusedSectionVars false
set_option maxRecDepth 100000
set_option maxHeartbeats 8000000
namespace Go.Proofs.YtpmnfhifmmfglabGreatDoor
section
open Go
abbrev NE:=Int × Int × Int × Int × Int × List Int × List (List UInt8) × Int × Int × Int × Int × Int × Int × List (Int × Int) × Int × Int × Int × Int × Int × Int × Int × Int × Int × Int × Int × Int × List (Int × Int) × Int × Int
theorem orC {β:Type} {a b:Prop} [Decidable a] [Decidable b] (kk:Bool→Option β):cond (decide a) (kk (decide a)) (kk (decide b))=kk (decide (a∨b)):=by
 by_cases h:a
 ·rw [decide_eq_true h,decide_eq_true (show a∨b from Or.inl h)];rfl
 ·rw [decide_eq_false h]
  by_cases h2:b
  ·rw [decide_eq_true h2,decide_eq_true (show a∨b from Or.inr h2)];rfl
  ·rw [decide_eq_false h2,decide_eq_false (show ¬(a∨b) from fun q=>q.elim h h2)];rfl
section
variable (W H D K R:Int) (Ls:List Int) (St:List (List UInt8)) (ph b0 b1 b2 b3 w:Int) (sp:List (Int × Int)) (g0 g1 g2 m0 m1 m2 m3 m4 m5 m6 m7 m8:Int) (cv:List (Int × Int)) (am:Int)
theorem ZO (N:Nat) (kk):AH N H R kk=kk (decide (R<1∨H<R)):=by unfold AH;exact orC kk
theorem ZP (N:Nat) (kk):AI N H D R kk=kk (decide (16<D∨R<1∨H<R)):=by unfold AI;rw [ZO];exact orC kk
theorem ZQ (N:Nat) (kk):AJ N H D R kk=kk (decide (D<1∨16<D∨R<1∨H<R)):=by unfold AJ;rw [ZP];exact orC kk
theorem ZR (N:Nat) (kk):AK N H D R kk=kk (decide (64<H∨D<1∨16<D∨R<1∨H<R)):=by unfold AK;rw [ZQ];exact orC kk
theorem ZS (N:Nat) (kk):AL N H D R kk=kk (decide (H<1∨64<H∨D<1∨16<D∨R<1∨H<R)):=by unfold AL;rw [ZR];exact orC kk
theorem ZT (N:Nat) (kk):AM N W H D R kk=kk (decide (64<W∨H<1∨64<H∨D<1∨16<D∨R<1∨H<R)):=by unfold AM;rw [ZS];exact orC kk
theorem ZU (N:Nat) (kk):AO N W H D R kk=kk (decide (W<1∨64<W∨H<1∨64<H∨D<1∨16<D∨R<1∨H<R)):=by unfold AO;rw [ZT];exact orC kk
theorem ZV (N:Nat) (kk):AN N K kk=kk (decide (K<0∨7<K)):=by unfold AN;exact orC kk
def De:Prop:=(1≤W∧W≤64)∧(1≤H∧H≤64)∧(1≤D∧D≤16)∧1≤R∧R≤H
instance:Decidable (De W H D R):=by unfold De;exact inferInstance
def AU:Int:=if ¬De W H D R then 3 else if ¬(0≤K∧K≤7) then 6 else if 0<K then lQ Ls else if 0<Ls.length then 1 else 0
theorem Un (N:Nat) (hN:100≤N):Am N W H D K R Ls St ph b0 b1 b2 b3 w sp g0 g1 g2 m0 m1 m2 m3 m4 m5 m6 m7 m8 cv am=some (AU W H D K R Ls):=by
 unfold Am AU;rw [ZU]
 by_cases h1:De W H D R
 rotate_left
 ·rw [cT (decide_eq_true (by unfold De at h1;omega)),if_pos h1]
 rw [cF (decide_eq_false (by unfold De at h1;omega)),if_neg (fun q=>q h1),ZV]
 by_cases h2:0≤K∧K≤7
 rotate_left
 ·rw [cT (decide_eq_true (by omega)),if_pos h2]
 rw [cF (decide_eq_false (by omega)),if_neg (fun q=>q h2)]
 by_cases h3:0<K
 ·rw [cT (dT h3),Ex N hN,aC,if_pos h3]
 rw [cF (dF h3),if_neg h3]
 by_cases h4:0<Ls.length
 ·rw [cT (dT (by omega)),if_pos h4]
 ·rw [cF (dF (by omega)),if_neg h4]
def O4 (f:Bool):Int:=if wR ph b0 b1 b2 b3 w sp g0 g1 g2 m0 m1 m2 m3 m4 m5 m6 m7 m8 am=false then 3 else if f=false then 1 else if sp.all (gZ W H)=false then 3 else 0
theorem aCz (s:List (Int × Int)) (hl:s.length≤4096):∀(d k fuel:Nat),k+d=s.length→d<fuel →
  ∃r,bA 8589934592 s W H D K R Ls St ph b0 b1 b2 b3 w sp g0 g1 g2 m0 m1 m2 m3 m4 m5 m6 m7 m8 cv am (fun _=>some (-1)) fuel (k:Int)=some r∧decide (0≤r) = !((s.drop k).all fun q=>decide (q.1<W∧q.2<H)):=by
 intro d
 induction d with
 | zero=>
  intro k fuel hk hf;obtain ⟨fuel,rfl⟩:=oK fuel (by omega);obtain rfl:k=s.length:=by omega
  unfold bA;rw [cF (dF (by omega))];exact ⟨_,rfl,by simp⟩
 | succ d ih=>
  intro k fuel hk hf;obtain ⟨fuel,rfl⟩:=oK fuel (by omega);have hlt:k<s.length:=by omega
  unfold bA Ca;rw [cT (dT (by omega)),eC,List.getElem?_eq_getElem hlt,aC,List.drop_eq_getElem_cons hlt,List.all_cons]
  by_cases h1:W≤s[k].1
  ·rw [cT (dT h1),aC,cT rfl];refine ⟨_,rfl,?_⟩;rw [dT (by omega),decide_eq_false (show ¬(s[k].1<W∧s[k].2<H) by omega)];rfl
  rw [cF (dF h1),aC]
  by_cases h2:H≤s[k].2
  ·rw [cT (dT h2)];refine ⟨_,rfl,?_⟩;rw [dT (by omega),decide_eq_false (show ¬(s[k].1<W∧s[k].2<H) by omega)];rfl
  ·rw [cF (dF h2),gF (by omega),decide_eq_true (show (s[k].1<W∧s[k].2<H) by omega),Bool.true_and];exact ih (k+1) fuel (by omega) (by omega)
theorem O5 (s:List (Int × Int)) (hl:s.length≤4096):dK 8589934592 s W H D K R Ls St ph b0 b1 b2 b3 w sp g0 g1 g2 m0 m1 m2 m3 m4 m5 m6 m7 m8 cv am=some (!(s.all fun q=>decide (q.1<W∧q.2<H))):=by
 obtain ⟨r,hr,hd⟩:=aCz W H D K R Ls St ph b0 b1 b2 b3 w sp g0 g1 g2 m0 m1 m2 m3 m4 m5 m6 m7 m8 cv am s hl s.length 0 8589934592 (by omega) (by omega);have hr':bA 8589934592 s W H D K R Ls St ph b0 b1 b2 b3 w sp g0 g1 g2 m0 m1 m2 m3 m4 m5 m6 m7 m8 cv am (fun _=>some (-1)) 8589934592 0=some r:=hr;unfold dK fC;rw [hr',aC,hd,List.drop_zero]
theorem Ri {s:List (Int × Int)} (h:s.all (gZ 64 64)=true):(s.all fun q=>decide (q.1<W∧q.2<H))=s.all (gZ W H):=by
 induction s with
 | nil=>rfl
 | cons q s ih=>
  rw [List.all_cons,Bool.and_eq_true] at h;rw [List.all_cons,List.all_cons,ih h.2]
  congr 1
  have h1:=h.1;unfold gZ at h1 ⊢;simp only [Bool.and_eq_true,decide_eq_true_eq] at h1;rw [dT h1.1.1.1,dT h1.1.2,Bool.true_and,Bool.and_true]
  by_cases a:q.1<W <;> by_cases b:q.2<H <;> simp [a,b]
theorem WL (h:wR ph b0 b1 b2 b3 w sp g0 g1 g2 m0 m1 m2 m3 m4 m5 m6 m7 m8 am=true):sp.length≤64∧sp.all (gZ 64 64)=true:=by
 unfold wR at h;simp only [Bool.and_eq_true,decide_eq_true_eq] at h;exact ⟨h.2.2.2.1,h.2.2.2.2.1⟩
theorem Uo {f:Bool} (hb:gW 8589934592 cv=some f) (hc:f=true↔nE cv):An 8589934592 W H D K R Ls St ph b0 b1 b2 b3 w sp g0 g1 g2 m0 m1 m2 m3 m4 m5 m6 m7 m8 cv am=some (O4 W H ph b0 b1 b2 b3 w sp g0 g1 g2 m0 m1 m2 m3 m4 m5 m6 m7 m8 am f):=by
 unfold An O4;rw [Hm ph b0 b1 b2 b3 w sp g0 g1 g2 m0 m1 m2 m3 m4 m5 m6 m7 m8 cv am hb hc,aC]
 by_cases h1:wR ph b0 b1 b2 b3 w sp g0 g1 g2 m0 m1 m2 m3 m4 m5 m6 m7 m8 am=false
 ·rw [if_pos h1,cT (by rfl),if_pos h1]
 rw [if_neg h1,if_neg h1];have h1':=(Bool.not_eq_false _).mp h1
 by_cases h2:f=false
 ·rw [if_pos h2,cT (by rfl),if_pos h2]
 rw [if_neg h2,cF (by rfl),if_neg h2];obtain ⟨p1,p2⟩:=WL ph b0 b1 b2 b3 w sp g0 g1 g2 m0 m1 m2 m3 m4 m5 m6 m7 m8 am h1';rw [O5 W H D K R Ls St ph b0 b1 b2 b3 w sp g0 g1 g2 m0 m1 m2 m3 m4 m5 m6 m7 m8 cv am sp (by omega),aC,Ri W H p2]
 by_cases h3:sp.all (gZ W H)=false
 ·rw [h3,if_pos rfl,cT (by rfl)]
 ·rw [(Bool.not_eq_false _).mp h3,cF (by rfl),if_neg (by decide)]
end
theorem aCA (N:Nat) {l:List Int} (hl:l.length≤4096):∀(j k fuel:Nat) (m:Int),k+j=l.length→j<fuel→∃M,jQ N l (fun (m4,i4)=>some m4) fuel (m,(k:Int))=some M∧∀b,M≤b↔m≤b∧∀e∈l.drop k,e≤b:=by
 intro j
 induction j with
 | zero=>
  intro k fuel m hk hf;obtain ⟨fuel,rfl⟩:=oK fuel (by omega);unfold jQ;rw [cF (dF (by omega))];refine ⟨m,rfl,fun b=>⟨fun h=>⟨h,fun e he=>?_⟩,fun h=>h.1⟩⟩;rw [List.drop_of_length_le (by omega)] at he;cases he
 | succ j ih=>
  intro k fuel m hk hf;obtain ⟨fuel,rfl⟩:=oK fuel (by omega);have hlt:k<l.length:=by omega
  obtain ⟨M,h1,h2⟩:=ih (k+1) fuel (max m l[k]) (by omega) (by omega);refine ⟨M,?_,fun b=>?_⟩
  ·unfold jQ;rw [cT (dT (by omega)),eC,List.getElem?_eq_getElem hlt,aC,aC,gF (x:=(k:Int)+1) (by omega),aC];exact h1
  ·rw [h2 b,List.drop_eq_getElem_cons hlt]
   constructor
   ·rintro ⟨q1,q2⟩;refine ⟨by omega,fun e he=>?_⟩
    rcases List.mem_cons.1 he with rfl | he
    ·omega
    ·exact q2 e he
   ·rintro ⟨q1,q2⟩;have:=q2 l[k] (List.mem_cons_self ..);exact ⟨by omega,fun e he=>q2 e (List.mem_cons_of_mem _ he)⟩
theorem max_eq (N:Nat) {l:List Int} (h0:1≤l.length) (hl:l.length≤4096) (hN:5000≤N):∃M,k9 N l=some M∧∀b,M≤b↔∀e∈l,e≤b:=by
 obtain ⟨x,l,rfl⟩:∃x t,l=x::t:=by
  cases l with
  | nil=>simp at h0
  | cons x t=>exact ⟨x,t,rfl⟩
 obtain ⟨M,h1,h2⟩:=aCA N hl ((x::l).length-1) 1 N x (by omega) (by omega);refine ⟨M,?_,fun b=>?_⟩
 ·unfold k9;rw [cF (dF (by omega)),show idx (x::l) 0=some x from rfl,aC];exact h1
 ·rw [h2 b,List.drop_one,List.tail_cons]
  constructor
  ·rintro ⟨q1,q2⟩ e he
   rcases List.mem_cons.1 he with rfl | he
   ·exact q1
   ·exact q2 e he
  ·intro q;exact ⟨q x (List.mem_cons_self ..),fun e he=>q e (List.mem_cons_of_mem _ he)⟩
def DQ (H R:Nat):Nat:=(H+R-1)/R
def EO (H R i:Nat):Nat:=min R (H-i*R)
theorem cnt_lt {H R i:Nat} (hR:1≤R):i<DQ H R↔i*R<H:=by
 unfold DQ;rw [Nat.lt_div_iff_mul_lt (by omega)]
 omega
theorem KJ {H R:Nat} (hR:1≤R) (hH:1≤H):DQ H R≤H∧1≤DQ H R:=by
 refine ⟨?_,?_⟩
 ·unfold DQ;refine Nat.div_le_of_le_mul ?_;have:R*H=(R-1)*H+H:=by rw [Nat.sub_mul];have:=Nat.le_mul_of_pos_left H hR;omega
  have h2:R-1≤(R-1)*H:=Nat.le_mul_of_pos_right _ hH
  omega
 ·have:=(cnt_lt (H:=H) (i:=0) hR).2 (by omega)
  omega
theorem Rj (N:Nat) {H R:Nat} (hR:1≤R∧R≤H) (hH:H≤64) (kk):∀(j k fuel:Nat),k+j=DQ H R→j<fuel →
  qG N (H:Int) (R:Int) kk fuel ((List.range k).map fun i=>(((i*R:Nat):Int),((EO H R i:Nat):Int)),((k*R:Nat):Int))=kk ((List.range (DQ H R)).map fun i=>(((i*R:Nat):Int),((EO H R i:Nat):Int)),((DQ H R*R:Nat):Int)):=by
 have hcl:=KJ (H:=H) (R:=R) hR.1 (by omega);intro j
 induction j with
 | zero=>
  intro k fuel hk hf;obtain ⟨fuel,rfl⟩:=oK fuel (by omega);obtain rfl:k=DQ H R:=by omega
  have:=mt (cnt_lt (H:=H) (R:=R) (i:=DQ H R) hR.1).2 (by omega);unfold qG;rw [cF (dF (by omega))]
 | succ j ih=>
  intro k fuel hk hf;obtain ⟨fuel,rfl⟩:=oK fuel (by omega);have hlt:=(cnt_lt (H:=H) (R:=R) (i:=k) hR.1).1 (by omega)
  have e1:min (R:Int) (IntKind.i64.wrap ((H:Int)-((k*R:Nat):Int)))=((EO H R k:Nat):Int):=by
   rw [gF (by omega)];unfold EO;omega
  have e2:IntKind.i64.wrap (((k*R:Nat):Int)+(R:Int))=(((k+1)*R:Nat):Int):=by
   rw [Nat.add_mul,gF (by omega)];omega
  unfold qG;rw [cT (dT (by omega)),e1,oS (by simp;omega),aC,e2,aC];have:=ih (k+1) fuel (by omega) (by omega);rw [List.range_succ,List.map_append,List.map_singleton] at this;exact this
section
variable (W H D K R:Int) (Ls:List Int) (St:List (List UInt8)) (ph b0 b1 b2 b3 w:Int) (sp:List (Int × Int)) (g0 g1 g2 m0 m1 m2 m3 m4 m5 m6 m7 m8:Int) (cv:List (Int × Int)) (am:Int)
theorem NF (h:AU W H D K R Ls=0):De W H D R∧(0≤K∧K≤7)∧(Ls.length≤17)∧(0<K→lQ Ls=0):=by
 unfold AU at h
 by_cases h1:De W H D R
 rotate_left
 ·rw [if_pos h1] at h;cases h
 rw [if_neg (fun q=>q h1)] at h
 by_cases h2:0≤K∧K≤7
 rotate_left
 ·rw [if_pos h2] at h;cases h
 rw [if_neg (fun q=>q h2)] at h;refine ⟨h1,h2,?_⟩
 by_cases h3:0<K
 ·rw [if_pos h3] at h;refine ⟨?_,fun _=>h⟩;obtain ⟨ns,rfl,_,_,Uh,_⟩:=Db h;rw [kX];exact Uh
 ·rw [if_neg h3] at h;refine ⟨?_,fun q=>absurd q h3⟩
  by_cases h4:0<Ls.length
  ·rw [if_pos h4] at h;cases h
  ·omega
theorem Up {cv:List (Int × Int)} (h:nE cv):cv.length≤16:=by
 have:=h.len
 omega
end
section
variable (W H D K R:Int) (Ls:List Int) (St:List (List UInt8)) (ph b0 b1 b2 b3 w:Int) (sp:List (Int × Int)) (g0 g1 g2 m0 m1 m2 m3 m4 m5 m6 m7 m8:Int) (cv:List (Int × Int)) (am:Int)
theorem ZW {f:Bool} (h:O4 W H ph b0 b1 b2 b3 w sp g0 g1 g2 m0 m1 m2 m3 m4 m5 m6 m7 m8 am f=0):wR ph b0 b1 b2 b3 w sp g0 g1 g2 m0 m1 m2 m3 m4 m5 m6 m7 m8 am=true∧f=true∧sp.all (gZ W H)=true:=by
 unfold O4 at h
 by_cases h1:wR ph b0 b1 b2 b3 w sp g0 g1 g2 m0 m1 m2 m3 m4 m5 m6 m7 m8 am=false
 ·rw [if_pos h1] at h;cases h
 rw [if_neg h1] at h
 by_cases h2:f=false
 ·rw [if_pos h2] at h;cases h
 rw [if_neg h2] at h
 by_cases h3:sp.all (gZ W H)=false
 ·rw [if_pos h3] at h;cases h
 exact ⟨(Bool.not_eq_false _).mp h1,(Bool.not_eq_false _).mp h2,(Bool.not_eq_false _).mp h3⟩
end
def stripR (W D K:Int) (Ls:List Int) (rows:Int) (s:List UInt8):Option (List Int):=
 if K=0 then (if kS s D (W*rows)=0 then some (sP (JW s D.toNat (W*rows).toNat)) else none)
 else if (qE s W rows K Ls).2.2.2=0∧(qE s W rows K Ls).2.2.1.all (fun e=>decide (e<((2^D.toNat:Nat):Int)))=true then some (qE s W rows K Ls).2.2.1 else none
theorem Mv {s:List UInt8} {W H kind:Int} {c:List Int} (h:(qE s W H kind c).2.2.2=0):(1≤W∧W≤64)∧(1≤H∧H≤64)∧(qE s W H kind c).1=W∧(qE s W H kind c).2.1=H∧(qE s W H kind c).2.2.1.length=W.toNat*H.toNat∧∀e∈(qE s W H kind c).2.2.1,0≤e∧e≤65535:=by
 unfold qE at h ⊢
 by_cases h1:1≤W∧W≤64
 rotate_left
 ·rw [if_pos h1] at h;cases h
 rw [if_neg (by omega)] at h ⊢
 by_cases h2:1≤H∧H≤64
 rotate_left
 ·rw [if_pos h2] at h;cases h
 rw [if_neg (by omega)] at h ⊢
 by_cases h3:1≤kind∧kind≤7
 rotate_left
 ·rw [if_pos h3] at h;cases h
 rw [if_neg (by omega)] at h ⊢
 by_cases h7:lQ c=0
 rotate_left
 ·rw [if_pos h7] at h;exact absurd h h7
 rw [if_neg (by omega)] at h ⊢
 have hWl:(wordsOf c).length≤17:=by
  rw [yE h7];obtain ⟨ns,rfl,_,_,Uh,_⟩:=Db h7;rw [kX];exact Uh
 rcases hr:Qg (wordsOf c) W.toNat kind (W.toNat*H.toNat) [] (o9 s) with _ | ⟨P2,R2⟩
 ·rw [hr] at h;cases h
 rw [hr] at h;dsimp only at h ⊢
 by_cases hz:R2.length≤7∧R2=List.replicate R2.length 48
 rotate_left
 ·rw [if_neg hz] at h;cases h
 rw [if_pos hz];obtain ⟨q1,q2,q3,q4,q5⟩:=Nz (o8 c) hWl (by omega) _ _ _ [] _ _ (Dd s) (by simp) rfl hr;rw [List.length_nil,Nat.zero_add] at q1;exact ⟨h1,h2,rfl,rfl,q1,q2⟩
section
variable (W H D K R:Int) (Ls:List Int) (St:List (List UInt8)) (ph b0 b1 b2 b3 w:Int) (sp:List (Int × Int)) (g0 g1 g2 m0 m1 m2 m3 m4 m5 m6 m7 m8:Int) (cv:List (Int × Int)) (am:Int)
theorem ZX {s:List UInt8} {o p:Int} (h:kS s o p=0):(sP (JW s o.toNat p.toNat)).length=p.toNat:=by
 obtain ⟨d,n,rfl,rfl,h1,h2,h3,h4⟩:=FC h;rw [kX,Int.toNat_natCast,Int.toNat_natCast];unfold JW;exact rU _ _ _
theorem Mw {W D K rows:Int} {Ls:List Int} {s:List UInt8} {l:List Int} (hW:1≤W∧W≤64) (hr:1≤rows∧rows≤64) (h:stripR W D K Ls rows s=some l):l.length=W.toNat*rows.toNat:=by
 unfold stripR at h
 split at h
 ·split at h
  ·rename_i hh
   injection h with h
   subst h;rw [ZX hh];obtain ⟨w',rfl⟩:=Int.eq_ofNat_of_zero_le (show 0≤W by omega);obtain ⟨r',rfl⟩:=Int.eq_ofNat_of_zero_le (show 0≤rows by omega)
   rfl
  ·cases h
 ·split at h
  ·rename_i hh
   injection h with h
   subst h;exact (Mv hh.1).2.2.2.2.1
  ·cases h
theorem NG (N:Nat) (hN:200000≤N) {W D rows:Int} (hW:1≤W∧W≤64) (hD:1≤D∧D≤16) (hr:1≤rows∧rows≤64) {s:List UInt8} (hs:s.length≤9223372036854775807) :
  ∃l e,wL N W H D K R Ls St ph b0 b1 b2 b3 w sp g0 g1 g2 m0 m1 m2 m3 m4 m5 m6 m7 m8 cv am s rows=some (l,e)∧((e=0∧stripR W D K Ls rows s=some l)∨(e≠0∧stripR W D K Ls rows s=none)):=by
 obtain ⟨w',rfl⟩:=Int.eq_ofNat_of_zero_le (show 0≤W by omega);obtain ⟨r',rfl⟩:=Int.eq_ofNat_of_zero_le (show 0≤rows by omega);obtain ⟨d,rfl⟩:=Int.eq_ofNat_of_zero_le (show 0≤D by omega);have hm:=Nat.mul_le_mul (show w'≤64 by omega) (show r'≤64 by omega);have hwr:IntKind.i64.wrap ((w':Int)*(r':Int))=(w':Int)*(r':Int):=by rw [show (w':Int)*(r':Int)=((w'*r':Nat):Int) by simp,gF (by omega)]
 unfold wL stripR
 by_cases hK:K=0
 ·rw [cT (dT hK),if_pos hK,hwr,T6 N (by omega) s hs,aC]
  by_cases he:kS s (d:Int) ((w':Int)*(r':Int))=0
  ·rw [if_pos he,if_pos he];exact ⟨_,_,rfl,.inl ⟨rfl,rfl⟩⟩
  ·rw [if_neg he,if_neg he];exact ⟨_,_,rfl,.inr ⟨he,rfl⟩⟩
 rw [cF (dF hK),if_neg hK,Lz N hN,aC]
 by_cases he:(qE s (w':Int) (r':Int) K Ls).2.2.2=0
 rotate_left
 ·rw [cF (dF he),if_neg (fun q=>he q.1)];exact ⟨_,_,rfl,.inr ⟨he,rfl⟩⟩
 obtain ⟨_,_,_,_,hl,hP⟩:=Mv he;rw [Int.toNat_natCast,Int.toNat_natCast] at hl;have hpos:1≤w'*r':=Nat.mul_pos (by omega) (by omega);obtain ⟨M,e1,e2⟩:=max_eq N (l:=(qE s (w':Int) (r':Int) K Ls).2.2.1) (by omega) (by omega) (by omega)
 generalize (qE s (w':Int) (r':Int) K Ls).2.2.1=P at *
 rw [cT (dT he),e1,aC,Ew,aC,Int.toNat_natCast];obtain ⟨x0,hx0⟩:∃x,x∈P:=⟨P[0],List.getElem_mem (by omega)⟩
 have hM0:0≤M:=by
  have:=(e2 M).1 (Int.le_refl _) x0 hx0;have:=(hP x0 hx0).1
  omega
 obtain ⟨m,rfl⟩:=Int.eq_ofNat_of_zero_le hM0;have hp2:=Nat.two_pow_pos d
 have hsh:(0<((m/2^d:Nat):Int))↔P.all (fun e=>decide (e<((2^d:Nat):Int)))=false:=by
  have h6:=e2 (((2^d:Nat):Int)-1);have h7:(0<m/2^d)↔2^d≤m:=Nat.div_pos_iff.trans ⟨fun q=>q.2,fun q=>⟨hp2,q⟩⟩
  constructor
  ·intro q;rw [Bool.eq_false_iff];intro q2;rw [List.all_eq_true] at q2;have:=h6.2 fun e he=>by have:=of_decide_eq_true (q2 e he);omega
   have:=h7.1 (by omega)
   omega
  ·intro q
   have:¬m<2^d:=fun q2=>by
    have:=h6.1 (by omega);rw [Bool.eq_false_iff] at q;exact q (List.all_eq_true.2 fun e he=>decide_eq_true (by have:=this e he;omega))
   have:=h7.2 (by omega)
   omega
 rw [JV (by omega)]
 by_cases h6:P.all (fun e=>decide (e<((2^d:Nat):Int)))=false
 ·rw [cT (decide_eq_true (hsh.2 h6)),if_neg (fun q=>by rw [h6] at q;exact absurd q.2 (by decide))];exact ⟨_,_,rfl,.inr ⟨by decide,rfl⟩⟩
 ·rw [cF (decide_eq_false (fun q=>h6 (hsh.1 q))),if_pos ⟨he,(Bool.not_eq_false _).mp h6⟩];exact ⟨_,_,rfl,.inl ⟨he,rfl⟩⟩
def Df (W D K:Int) (Ls:List Int) (H R:Nat):Nat→List (List UInt8)→List Int→Option (List Int)
 | _,[],acc=>some acc
 | i,s::t,acc=>match stripR W D K Ls ((EO H R i:Nat):Int) s with
  | none=>none
  | some l=>Df W D K Ls H R (i+1) t (acc++l)
theorem SV {H R i:Nat} (hR:1≤R∧R≤H) (hH:H≤64) (hi:i<DQ H R):1≤((EO H R i:Nat):Int)∧((EO H R i:Nat):Int)≤64:=by
 have:=(cnt_lt (H:=H) (i:=i) hR.1).1 hi;unfold EO
 omega
theorem LA (N:Nat) (hN:200000≤N) {w' h r d:Nat} (hW:1≤w'∧w'≤64) (hH:1≤h∧h≤64) (hR:1≤r∧r≤h) (hd:1≤d∧d≤16) (hs:∀y∈St,y.length≤9223372036854775807) (hl:St.length=DQ h r) (kk) :
  ∀(j k fuel:Nat) (acc:List Int),k+j=St.length→j<fuel→acc.length≤4096*k →
  sB N (w':Int) (h:Int) (d:Int) K (r:Int) Ls St ph b0 b1 b2 b3 w sp g0 g1 g2 m0 m1 m2 m3 m4 m5 m6 m7 m8 cv am ((List.range (DQ h r)).map fun i=>(((i*r:Nat):Int),((EO h r i:Nat):Int))) kk fuel (acc,(k:Int))=match Df (w':Int) (d:Int) K Ls h r k (St.drop k) acc with
   | none=>some (0,0,[],1)
   | some P=>kk (P,(St.length:Int)):=by
 have hcl:=KJ (H:=h) (R:=r) hR.1 hH.1;intro j
 induction j with
 | zero=>
  intro k fuel acc hk hf ha;obtain ⟨fuel,rfl⟩:=oK fuel (by omega);unfold sB;rw [cF (dF (by omega)),List.drop_of_length_le (by omega),show k=St.length by omega]
  rfl
 | succ j ih=>
  intro k fuel acc hk hf ha;obtain ⟨fuel,rfl⟩:=oK fuel (by omega);have hlt:k<St.length:=by omega
  have Ff:=SV (i:=k) hR hH.2 (by omega);have hnx:IntKind.i64.wrap ((k:Int)+1)=((k+1:Nat):Int):=by rw [gF (by omega)];rfl
  have hm:=Nat.mul_le_mul hW.2 (show EO h r k≤64 by omega);unfold sB;rw [cT (dT (by omega)),eC,List.getElem?_eq_getElem hlt,aC,eC,List.getElem?_map,List.getElem?_range (by omega)];show Option.bind (some _) _=_;rw [aC]
  dsimp only
  obtain ⟨l,e,q1,q2⟩:=NG (h:Int) K (r:Int) Ls St ph b0 b1 b2 b3 w sp g0 g1 g2 m0 m1 m2 m3 m4 m5 m6 m7 m8 cv am N hN (W:=(w':Int)) (D:=(d:Int)) (by omega) (by omega) Ff (hs St[k] (List.getElem_mem hlt));rw [q1,aC,List.drop_eq_getElem_cons hlt];unfold Df
  rcases q2 with ⟨rfl,q2⟩ | ⟨q3,q2⟩
  ·have hll:=Mw (by omega) Ff q2;rw [Int.toNat_natCast,Int.toNat_natCast] at hll;rw [q2,cF (by rfl)]
   dsimp only
   rw [oS (by omega),aC,hnx];exact ih (k+1) fuel _ (by omega) (by omega) (by rw [List.length_append];omega)
  ·rw [q2,cT (by rw [dF q3];rfl)]
def BH (f:Bool):Int × Int × List Int × Int:=
 if AU W H D K R Ls≠0 then (0,0,[],AU W H D K R Ls) else if St.length≠DQ H.toNat R.toNat then (0,0,[],2) else
 if O4 W H ph b0 b1 b2 b3 w sp g0 g1 g2 m0 m1 m2 m3 m4 m5 m6 m7 m8 am f≠0 then (0,0,[],O4 W H ph b0 b1 b2 b3 w sp g0 g1 g2 m0 m1 m2 m3 m4 m5 m6 m7 m8 am f) else
 match Df W D K Ls H.toNat R.toNat 0 St [] with
 | none=>(0,0,[],1)
 | some P=>(W,H,P,0)
theorem O6 (N:Nat) (hN:5000≤N) {k' r:Nat} (hr:1≤r∧r≤k') (hk:1≤k'∧k'≤64):yV N W (k':Int) D K (r:Int) Ls St ph b0 b1 b2 b3 w sp g0 g1 g2 m0 m1 m2 m3 m4 m5 m6 m7 m8 cv am=some ((List.range (DQ k' r)).map fun i=>(((i*r:Nat):Int),((EO k' r i:Nat):Int))):=by
 have hcn:=KJ (H:=k') (R:=r) hr.1 hk.1;have:=Rj N hr hk.2 (fun (l6,y5)=>some l6) (DQ k' r) 0 N (by omega) (by omega);rw [Nat.zero_mul] at this;exact this
theorem KK {f:Bool} (hb:gW 8589934592 cv=some f) (hc:f=true↔nE cv) (hs:∀y∈St,y.length≤9223372036854775807):yC 8589934592 W H D K R Ls St ph b0 b1 b2 b3 w sp g0 g1 g2 m0 m1 m2 m3 m4 m5 m6 m7 m8 cv am=some (BH W H D K R Ls St ph b0 b1 b2 b3 w sp g0 g1 g2 m0 m1 m2 m3 m4 m5 m6 m7 m8 am f):=by
 unfold yC BH;rw [Un W H D K R Ls St ph b0 b1 b2 b3 w sp g0 g1 g2 m0 m1 m2 m3 m4 m5 m6 m7 m8 cv am 8589934592 (by decide),aC]
 by_cases h1:AU W H D K R Ls=0
 rotate_left
 ·rw [cT (by rw [decide_eq_false h1];rfl),if_pos h1]
 obtain ⟨q1,q2,q3,q4⟩:=NF W H D K R Ls h1;rw [cF (by rw [decide_eq_true h1];rfl),if_neg (fun q=>q h1)];unfold De at q1;obtain ⟨w',rfl⟩:=Int.eq_ofNat_of_zero_le (show 0≤W by omega);obtain ⟨k',rfl⟩:=Int.eq_ofNat_of_zero_le (show 0≤H by omega);obtain ⟨d,rfl⟩:=Int.eq_ofNat_of_zero_le (show 0≤D by omega);obtain ⟨r,rfl⟩:=Int.eq_ofNat_of_zero_le (show 0≤R by omega);rw [O6 _ _ K Ls St ph b0 b1 b2 b3 w sp g0 g1 g2 m0 m1 m2 m3 m4 m5 m6 m7 m8 cv am 8589934592 (by decide) (by omega) (by omega),aC,List.length_map,List.length_range,Int.toNat_natCast,Int.toNat_natCast]
 by_cases h2:St.length=DQ k' r
 rotate_left
 ·rw [cT (by rw [dF (by omega)];rfl),if_pos h2]
 rw [cF (by rw [dT (by omega)];rfl),if_neg (fun q=>q h2),Uo _ _ _ K _ Ls St ph b0 b1 b2 b3 w sp g0 g1 g2 m0 m1 m2 m3 m4 m5 m6 m7 m8 cv am hb hc,aC]
 by_cases h3:O4 (w':Int) (k':Int) ph b0 b1 b2 b3 w sp g0 g1 g2 m0 m1 m2 m3 m4 m5 m6 m7 m8 am f=0
 rotate_left
 ·rw [cT (by rw [decide_eq_false h3];rfl),if_pos h3]
 rw [cF (by rw [decide_eq_true h3];rfl),if_neg (fun q=>q h3)];have hcn:=KJ (H:=k') (R:=r) (by omega) (by omega);have key:=LA K Ls St ph b0 b1 b2 b3 w sp g0 g1 g2 m0 m1 m2 m3 m4 m5 m6 m7 m8 cv am 8589934592 (by decide) (w':=w') (h:=k') (r:=r) (d:=d) (by omega) (by omega) (by omega) (by omega) hs h2 (fun (DM,i2)=>some ((w':Int),(k':Int),DM,(0:Int))) St.length 0 8589934592 [] (by omega) (by omega) (by simp);rw [List.drop_zero] at key;refine Eq.trans key ?_
 cases Df (w':Int) (d:Int) K Ls k' r 0 St [] <;> rfl
theorem KL {W D K:Int} {Ls:List Int} {H R:Nat} (hW:1≤W∧W≤64) (hR:1≤R∧R≤H) (hH:H≤64):∀(t:List (List UInt8)) (i:Nat) (acc P:List Int),Df W D K Ls H R i t acc=some P→i+t.length=DQ H R→P.length=acc.length+W.toNat*(H-i*R)
 | [],i,acc,P,h,hi=>by
  injection h with h
  subst h;have:=mt (cnt_lt (H:=H) (i:=i) hR.1).2 (by simp only [List.length_nil] at hi;omega);rw [show H-i*R=0 by omega];simp
 | s::t,i,acc,P,h,hi=>by
  have hlt:i<DQ H R:=by rw [List.length_cons] at hi;omega
  have h1:=(cnt_lt (H:=H) (i:=i) hR.1).1 hlt;unfold Df at h
  split at h
  ·cases h
  ·rename_i l hl
   have hll:=Mw hW (SV hR hH hlt) hl;rw [Int.toNat_natCast] at hll;have ih:=KL hW hR hH t (i+1) _ P h (by rw [List.length_cons] at hi;omega);rw [ih,List.length_append,hll,Nat.add_assoc,←Nat.mul_add]
   congr 2
   rw [Nat.add_mul];unfold EO
   omega
theorem Rk (f:Bool):(BH W H D K R Ls St ph b0 b1 b2 b3 w sp g0 g1 g2 m0 m1 m2 m3 m4 m5 m6 m7 m8 am f).2.2.1.length≤4096:=by
 unfold BH
 by_cases h1:AU W H D K R Ls=0
 rotate_left
 ·rw [if_pos h1];simp
 obtain ⟨q1,q2,q3,q4⟩:=NF W H D K R Ls h1;rw [if_neg (fun q=>q h1)]
 by_cases h2:St.length=DQ H.toNat R.toNat
 rotate_left
 ·rw [if_pos h2];simp
 rw [if_neg (fun q=>q h2)]
 split
 ·simp
 unfold De at q1
 rcases hp:Df W D K Ls H.toNat R.toNat 0 St [] with _ | P
 ·simp
 ·have:=KL (by omega) (by omega) (by omega) St 0 [] P hp (by omega);have hm:=Nat.mul_le_mul (show W.toNat≤64 by omega) (show H.toNat≤64 by omega);rw [Nat.zero_mul,Nat.sub_zero,List.length_nil,Nat.zero_add] at this;show P.length≤4096
  omega
theorem O7 {f:Bool} (hb:gW 8589934592 cv=some f) (hc:f=true↔nE cv) (hs:∀y∈St,y.length≤9223372036854775807):uW 8589934592 W H D K R Ls St ph b0 b1 b2 b3 w sp g0 g1 g2 m0 m1 m2 m3 m4 m5 m6 m7 m8 cv am=some (BH W H D K R Ls St ph b0 b1 b2 b3 w sp g0 g1 g2 m0 m1 m2 m3 m4 m5 m6 m7 m8 am f).2.2.2:=by
 unfold uW;rw [KK W H D K R Ls St ph b0 b1 b2 b3 w sp g0 g1 g2 m0 m1 m2 m3 m4 m5 m6 m7 m8 cv am hb hc hs,aC]
end
theorem u8w (x:Int):IntKind.u8.wrap x=x%256:=by
 simp [IntKind.wrap,IntKind.bits,IntKind.signed]
theorem aCB (e:Int) {k:Nat} (hk:k≤64):iB .i64 e (k:Int)=e/((2^k:Nat):Int):=by
 unfold iB;rw [Int.toNat_natCast,show min k (IntKind.i64.bits)=k by show min k 64=k;omega];rw [Int.fdiv_eq_ediv_of_nonneg _ (by exact Int.le_of_lt (Int.pow_pos (by decide)))]
 norm_cast
theorem aDM (e:Int):IntKind.u8.wrap (iB .i64 e 8)=(e/256)%256:=by rw [u8w,show (8:Int)=((8:Nat):Int) from rfl,aCB e (by decide)];rfl
theorem aFJ {n:Int} (h:0≤n∧n<4294967296):IntKind.i32.wrap n=if n<2147483648 then n else n-4294967296:=by
 have e:IntKind.i32.wrap n=if n%4294967296≥2147483648 then n%4294967296-4294967296 else n%4294967296:=by
  simp [IntKind.wrap,IntKind.bits,IntKind.signed]
 rw [e,show n%4294967296=n by omega]
 split <;> split <;> omega
theorem SX {x y:Nat} (hx:x<16777216) (hy:y<256):Fc .i64 (mN .i64 (x:Int) 8) (IntKind.i64.wrap (y:Int))=((x*256+y:Nat):Int):=by
 rw [show (8:Int)=((8:Nat):Int) from rfl,Hs (by decide) (by omega),gF (by omega)];exact Wr (h:=x) (d:=8) (e:=y) (by omega) (by omega)
theorem ZY (a b c d:UInt8):IntKind.i64.wrap (IntKind.i32.wrap ((((a.toNat*256+b.toNat)*256+c.toNat)*256+d.toNat:Nat):Int))=v32 a b c d:=by
 have ha:=a.toNat_lt;have hb:=b.toNat_lt;have hc:=c.toNat_lt;have hd:=d.toNat_lt;rw [aFJ (by omega)];unfold v32
 by_cases q:(a.toNat:Int)<128
 ·rw [if_pos q,if_pos (by omega),gF (by omega)];omega
 ·rw [if_neg q,if_neg (by omega),gF (by omega)];omega
theorem aCC (N:Nat) (l:List UInt8 × List UInt8) (kk) (hl:l.1.length≤4):∀(j k fuel x:Nat),k+j=l.1.length→j<fuel→x<256^k→iS N l kk fuel ((x:Int),(k:Int))=kk (((((l.1.drop k).foldl (fun x b=>x*256+b.toNat) x:Nat)):Int),(l.1.length:Int)):=by
 intro j
 induction j with
 | zero=>
  intro k fuel x hk hf hx;obtain ⟨fuel,rfl⟩:=oK fuel (by omega);unfold iS;rw [cF (dF (by rw [Ky];omega)),List.drop_of_length_le (by omega),show k=l.1.length by omega];rfl
 | succ j ih=>
  intro k fuel x hk hf hx;obtain ⟨fuel,rfl⟩:=oK fuel (by omega);have hlt:k<l.1.length:=by omega
  have hb:=(l.1[k]).toNat_lt
  have hx2:x<16777216:=by
   have:256^k≤256^3:=Nat.pow_le_pow_right (by decide) (by omega);have e:(256:Nat)^3=16777216:=by decide
   omega
  unfold iS;rw [cT (dT (by rw [Ky];omega)),eC];have e1:(oV l.1)[k]? = some ((l.1[k].toNat:Nat):Int):=by unfold oV;rw [List.getElem?_map,List.getElem?_eq_getElem hlt];rfl
  rw [e1,aC,SX hx2 hb,aC,gF (x:=(k:Int)+1) (by omega)];refine Eq.trans (ih (k+1) fuel (x*256+l.1[k].toNat) (by omega) (by omega) (by rw [Nat.pow_succ];omega)) ?_;rw [List.drop_eq_getElem_cons hlt,List.foldl_cons]
theorem GM (N:Nat) (S:List UInt8) (n:Int):iC N S n=some (if 0≤n∧n≤S.length then some (S.take n.toNat,S.drop n.toNat) else none):=by
 unfold iC
 by_cases h1:n<0
 ·rw [cT (dT h1),if_neg (by omega)]
 rw [cF (dF h1)]
 by_cases h2:(S.length:Int)<n
 ·rw [cT (dT h2),if_neg (by omega)]
 rw [cF (dF h2),BG (by omega),aC,BG (by omega),aC,if_pos (by omega),show ((0:Int)).toNat=0 from rfl,List.drop_zero,Int.toNat_natCast,List.take_length]
theorem zG (N:Nat) (hN:6≤N) (S:List UInt8):aH N S=some (Dr S):=by
 unfold aH;rw [GM,aC]
 rcases S with _ | ⟨a,_ | ⟨b,_ | ⟨c,_ | ⟨d,t⟩⟩⟩⟩
 ·rfl
 ·rfl
 ·rfl
 ·rfl
 rw [if_pos (by simp;omega)];show iS N ([a,b,c,d],t) _ N (0,0)=_;have key:=aCC N ([a,b,c,d],t) (fun (n4,i2)=>some (some (IntKind.i64.wrap (IntKind.i32.wrap n4),t))) (by simp) 4 0 N 0 rfl (by omega) (by decide);refine Eq.trans key ?_;show some (some (IntKind.i64.wrap (IntKind.i32.wrap ((((0*256+a.toNat)*256+b.toNat)*256+c.toNat)*256+d.toNat:Nat)),t))=some (some (v32 a b c d,t));rw [←ZY,Nat.zero_mul,Nat.zero_add]
def UU {α β:Type} (no:Option β) (kk:List α × List UInt8 × Int→Option β) (l:List α) (i:Int):Option (List α × List UInt8)→Option β
 | none=>no
 | some (m,u)=>kk (l++m,u,i)
section
variable {γ:Type} {out:Option γ→Option NE} {no:Option NE}
theorem uG {N:Nat} (hN:6≤N) (hno:out none=no) (S:List UInt8) {k:Int × List UInt8→Option NE} {g:Int × List UInt8→Option γ} (h:∀n t,k (n,t)=out (g (n,t))):(Option.bind (aH N S) fun q=>Cq q no k)=out ((Dr S).bind g):=by
 rw [zG N hN,aC]
 rcases Dr S with _ | ⟨n,t⟩
 ·exact hno.symm
 ·exact h n t
theorem aDN {N:Nat} (hN:6≤N) (hno:out none=no) (S:List UInt8) {k:List UInt8 × List UInt8→Option NE} {g:List UInt8 × List UInt8→Option γ} (h:∀n t,k (n,t)=out (g (n,t))):(Option.bind (aH N S) fun q=>Cq q no fun r2=>Option.bind (iC N r2.2 r2.1) fun q2=>Cq q2 no k)=out ((Vj S).bind g):=by
 rw [zG N hN,aC];unfold Vj rdC
 rcases Dr S with _ | ⟨n,t⟩
 ·exact hno.symm
 show (Option.bind (iC N t n) fun q2=>Cq q2 no k)=out ((((if _ then _ else _:Option (Nat × List UInt8))).bind _).bind g);rw [GM,aC]
 dsimp only
 by_cases q:0≤n∧n≤t.length
 ·rw [if_pos q,if_pos q];exact h _ _
 ·rw [if_neg q,if_neg q];exact hno.symm
theorem SY {N:Nat} (hN:2147483655≤N) (hno:out none=no) (S:List UInt8) {α:Type} {f:List UInt8→Option (α × List UInt8)} {lp:Int × List UInt8→(List α × List UInt8 × Int→Option NE)→Nat→List α × List UInt8 × Int→Option NE} {kk:List α × List UInt8 × Int→Option NE} {g:List α × List UInt8→Option γ}
  (hl:∀(n:Int) (s0:List UInt8),n<2147483648→∀(j fuel:Nat) (l:List α) (t:List UInt8),l.length+j=n.toNat→j<fuel→lp (n,s0) kk fuel (l,t,(l.length:Int))=UU no kk l (((l.length+j:Nat)):Int) (Kj f j t))
  (h:∀l t i,kk (l,t,i)=out (g (l,t))):(Option.bind (aH N S) fun q=>Cq q no fun r9=>cond (decide (r9.1<0)) no (cond (decide ((r9.2.length:Int)<r9.1)) no (lp r9 kk N ([],r9.2,0))))=out ((Oo f S).bind g):=by
 rw [zG N (by omega),aC];unfold Oo rdC
 rcases hr:Dr S with _ | ⟨n,t⟩
 ·exact hno.symm
 obtain ⟨_,hi⟩:=d5 hr;unfold is32 at hi;show cond (decide (n<0)) no (cond (decide ((t.length:Int)<n)) no (lp (n,t) kk N ([],t,0)))=out ((((if _ then _ else _:Option (Nat × List UInt8))).bind _).bind g)
 by_cases q1:n<0
 ·rw [cT (dT q1),if_neg (fun q=>by have:=q.1;omega)];exact hno.symm
 rw [cF (dF q1)]
 by_cases q2:(t.length:Int)<n
 ·rw [cT (dT q2),if_neg (fun q=>by have:n≤(t.length:Int):=q.2;omega)];exact hno.symm
 rw [cF (dF q2),if_pos ⟨by omega,by show n≤(t.length:Int);omega⟩];have:=hl n t (by omega) n.toNat N [] t (by simp) (by omega);refine Eq.trans this ?_
 dsimp only
 show _=out ((Kj f n.toNat t).bind g)
 rcases Kj f n.toNat t with _ | ⟨m,u⟩
 ·exact hno.symm
 ·show kk ([]++m,u,_)=_;rw [List.nil_append];exact h _ _ _
end
def Bf:Option NE:=some (0,0,0,0,0,[],[],0,0,0,0,0,0,[],0,0,0,0,0,0,0,0,0,0,0,0,[],0,1)
theorem aDO (N:Nat) (hN:6≤N) (kk) (n:Int) (s0:List UInt8) (hn:n<2147483648):∀(j fuel:Nat) (l:List Int) (t:List UInt8),l.length+j=n.toNat→j<fuel→rH N (n,s0) kk fuel (l,t,(l.length:Int))=UU Bf kk l (((l.length+j:Nat)):Int) (Kj Dr j t):=by
 intro j
 induction j with
 | zero=>
  intro fuel l t hl hf;obtain ⟨fuel,rfl⟩:=oK fuel (by omega);unfold rH;rw [cF (dF (by show ¬(l.length:Int)<n;omega))];show kk _=kk _;rw [List.append_nil];rfl
 | succ j ih=>
  intro fuel l t hl hf;obtain ⟨fuel,rfl⟩:=oK fuel (by omega);unfold rH Kj;rw [cT (dT (by show (l.length:Int)<n;omega)),zG N hN,aC]
  rcases Dr t with _ | ⟨x,u⟩
  ·rfl
  show (Option.bind (app 8 l [x]) _)=_;rw [oS (by simp;omega),aC,gF (x:=(l.length:Int)+1) (by omega)];have:=ih fuel (l++[x]) u (by simp;omega) (by omega);rw [List.length_append] at this;refine Eq.trans this ?_;show _=UU Bf kk l (((l.length+(j+1):Nat)):Int) ((Kj Dr j u).bind fun q=>some (x::q.1,q.2))
  rcases Kj Dr j u with _ | ⟨m,v⟩
  ·rfl
  ·show kk _=kk _;rw [List.append_assoc]
   congr 3
   simp;omega
theorem aDP (N:Nat) (hN:6≤N) (kk) (n:Int) (s0:List UInt8) (hn:n<2147483648):∀(j fuel:Nat) (l:List (List UInt8)) (t:List UInt8),l.length+j=n.toNat→j<fuel→rG N (n,s0) kk fuel (l,t,(l.length:Int))=UU Bf kk l (((l.length+j:Nat)):Int) (Kj Vj j t):=by
 intro j
 induction j with
 | zero=>
  intro fuel l t hl hf;obtain ⟨fuel,rfl⟩:=oK fuel (by omega);unfold rG;rw [cF (dF (by show ¬(l.length:Int)<n;omega))];show kk _=kk _;rw [List.append_nil];rfl
 | succ j ih=>
  intro fuel l t hl hf;obtain ⟨fuel,rfl⟩:=oK fuel (by omega);unfold rG Kj;rw [cT (dT (by show (l.length:Int)<n;omega)),zG N hN,aC];unfold Vj rdC
  rcases Dr t with _ | ⟨x,u⟩
  ·rfl
  show (Option.bind (iC N u x) fun q15=>Cq q15 _ _)=_;rw [GM,aC];show _=UU Bf kk l (((l.length+(j+1):Nat)):Int) ((((if _ then _ else _:Option (Nat × List UInt8))).bind fun p=>some (p.2.take p.1,p.2.drop p.1)).bind _)
  by_cases q:0≤x∧x≤(u.length:Int)
  rotate_left
  ·rw [if_neg q,if_neg (fun q'=>q q')];rfl
  rw [if_pos q,if_pos (show 0≤(x,u).1∧(x,u).1≤((x,u).2.length:Int) from q)];show (Option.bind (app 16 l [u.take x.toNat]) _)=_;rw [oS (by simp;omega),aC,gF (x:=(l.length:Int)+1) (by omega)];have:=ih fuel (l++[u.take x.toNat]) (u.drop x.toNat) (by simp;omega) (by omega);rw [List.length_append] at this;refine Eq.trans this ?_;show _=UU Bf kk l (((l.length+(j+1):Nat)):Int) ((Kj Vj j (u.drop x.toNat)).bind fun q=>some (u.take x.toNat::q.1,q.2))
  rcases Kj Vj j (u.drop x.toNat) with _ | ⟨m,v⟩
  ·rfl
  ·show kk _=kk _;rw [List.append_assoc]
   congr 3
   simp;omega
theorem aDQ (N:Nat) (hN:6≤N) (kk) (n:Int) (s0:List UInt8) (hn:n<2147483648):∀(j fuel:Nat) (l:List (Int × Int)) (t:List UInt8),l.length+j=n.toNat→j<fuel→rF N (n,s0) kk fuel (l,t,(l.length:Int))=UU Bf kk l (((l.length+j:Nat)):Int) (Kj Tx j t):=by
 intro j
 induction j with
 | zero=>
  intro fuel l t hl hf;obtain ⟨fuel,rfl⟩:=oK fuel (by omega);unfold rF;rw [cF (dF (by show ¬(l.length:Int)<n;omega))];show kk _=kk _;rw [List.append_nil];rfl
 | succ j ih=>
  intro fuel l t hl hf;obtain ⟨fuel,rfl⟩:=oK fuel (by omega);unfold rF Kj;rw [cT (dT (by show (l.length:Int)<n;omega)),zG N hN,aC];unfold Tx
  rcases Dr t with _ | ⟨x,u⟩
  ·rfl
  show (Option.bind (aH N u) fun q27=>Cq q27 _ _)=UU Bf kk l (((l.length+(j+1):Nat)):Int) ((((Dr u).bind _)).bind _);rw [zG N hN,aC]
  rcases Dr u with _ | ⟨y,v⟩
  ·rfl
  show (Option.bind (app 16 l [(x,y)]) _)=_;rw [oS (by simp;omega),aC,gF (x:=(l.length:Int)+1) (by omega)];have:=ih fuel (l++[(x,y)]) v (by simp;omega) (by omega);rw [List.length_append] at this;refine Eq.trans this ?_;show _=UU Bf kk l (((l.length+(j+1):Nat)):Int) ((Kj Tx j v).bind fun q=>some ((x,y)::q.1,q.2))
  rcases Kj Tx j v with _ | ⟨m,z⟩
  ·rfl
  ·show kk _=kk _;rw [List.append_assoc]
   congr 3
   simp;omega
theorem aDR (N:Nat) (hN:6≤N) (kk) (n:Int) (s0:List UInt8) (hn:n<2147483648):∀(j fuel:Nat) (l:List (Int × Int)) (t:List UInt8),l.length+j=n.toNat→j<fuel→rE N (n,s0) kk fuel (l,t,(l.length:Int))=UU Bf kk l (((l.length+j:Nat)):Int) (Kj Tx j t):=by
 intro j
 induction j with
 | zero=>
  intro fuel l t hl hf;obtain ⟨fuel,rfl⟩:=oK fuel (by omega);unfold rE;rw [cF (dF (by show ¬(l.length:Int)<n;omega))];show kk _=kk _;rw [List.append_nil];rfl
 | succ j ih=>
  intro fuel l t hl hf;obtain ⟨fuel,rfl⟩:=oK fuel (by omega);unfold rE Kj;rw [cT (dT (by show (l.length:Int)<n;omega)),zG N hN,aC];unfold Tx
  rcases Dr t with _ | ⟨x,u⟩
  ·rfl
  show (Option.bind (aH N u) fun q27=>Cq q27 _ _)=UU Bf kk l (((l.length+(j+1):Nat)):Int) ((((Dr u).bind _)).bind _);rw [zG N hN,aC]
  rcases Dr u with _ | ⟨y,v⟩
  ·rfl
  show (Option.bind (app 16 l [(x,y)]) _)=_;rw [oS (by simp;omega),aC,gF (x:=(l.length:Int)+1) (by omega)];have:=ih fuel (l++[(x,y)]) v (by simp;omega) (by omega);rw [List.length_append] at this;refine Eq.trans this ?_;show _=UU Bf kk l (((l.length+(j+1):Nat)):Int) ((Kj Tx j v).bind fun q=>some ((x,y)::q.1,q.2))
  rcases Kj Tx j v with _ | ⟨m,z⟩
  ·rfl
  ·show kk _=kk _;rw [List.append_assoc]
   congr 3
   simp;omega
def wT (N:Nat):Option (aDl × List UInt8)→Option NE
 | none=>Bf
 | some ((W,H,D,K,R,Ls,St,ph,b0,b1,b2,b3,w,sp,g0,g1,g2,m0,m1,m2,m3,m4,m5,m6,m7,m8,cv,am),t)=>
  cond (!decide (t=([]:List UInt8))) Bf (Option.bind (uW N W H D K R Ls St ph b0 b1 b2 b3 w sp g0 g1 g2 m0 m1 m2 m3 m4 m5 m6 m7 m8 cv am) fun e=>cond (!decide (e=0)) Bf (some (W,H,D,K,R,Ls,St,ph,b0,b1,b2,b3,w,sp,g0,g1,g2,m0,m1,m2,m3,m4,m5,m6,m7,m8,cv,am,0)))
theorem LB (N:Nat) (hN:2147483655≤N) (s:List UInt8):sT N s=wT N (Vl s):=by
 have h6:6≤N:=by omega
 have no:wT N none=Bf:=rfl;unfold sT Vl;refine aDN (out:=wT N) h6 no s fun m s=>?_
 dsimp only
 by_cases hm:m=[100,97,114,107]
 rotate_left
 ·rw [cT (by rw [dF hm];rfl),if_pos (show m≠Vk from hm)];rfl
 rw [cF (by rw [dT hm];rfl),if_neg (fun q=>q hm)];refine uG (out:=wT N) h6 no s fun W s=>?_;dsimp only
 refine uG (out:=wT N) h6 no s fun H s=>?_;dsimp only
 refine uG (out:=wT N) h6 no s fun D s=>?_;dsimp only
 refine uG (out:=wT N) h6 no s fun K s=>?_;dsimp only
 refine uG (out:=wT N) h6 no s fun R s=>?_;dsimp only
 refine SY (out:=wT N) hN no s (lp:=rH N) (fun n s0 hn=>aDO N h6 _ n s0 hn) fun Ls s i=>?_;dsimp only
 refine SY (out:=wT N) hN no s (lp:=rG N) (fun n s0 hn=>aDP N h6 _ n s0 hn) fun St s i=>?_;dsimp only
 refine uG (out:=wT N) h6 no s fun ph s=>?_;dsimp only
 refine uG (out:=wT N) h6 no s fun b0 s=>?_;dsimp only
 refine uG (out:=wT N) h6 no s fun b1 s=>?_;dsimp only
 refine uG (out:=wT N) h6 no s fun b2 s=>?_;dsimp only
 refine uG (out:=wT N) h6 no s fun b3 s=>?_;dsimp only
 refine uG (out:=wT N) h6 no s fun w s=>?_;dsimp only
 refine SY (out:=wT N) hN no s (lp:=rF N) (fun n s0 hn=>aDQ N h6 _ n s0 hn) fun sp s i=>?_;dsimp only
 refine uG (out:=wT N) h6 no s fun g0 s=>?_;dsimp only
 refine uG (out:=wT N) h6 no s fun g1 s=>?_;dsimp only
 refine uG (out:=wT N) h6 no s fun g2 s=>?_;dsimp only
 refine uG (out:=wT N) h6 no s fun m0 s=>?_;dsimp only
 refine uG (out:=wT N) h6 no s fun m1 s=>?_;dsimp only
 refine uG (out:=wT N) h6 no s fun m2 s=>?_;dsimp only
 refine uG (out:=wT N) h6 no s fun m3 s=>?_;dsimp only
 refine uG (out:=wT N) h6 no s fun m4 s=>?_;dsimp only
 refine uG (out:=wT N) h6 no s fun m5 s=>?_;dsimp only
 refine uG (out:=wT N) h6 no s fun m6 s=>?_;dsimp only
 refine uG (out:=wT N) h6 no s fun m7 s=>?_;dsimp only
 refine uG (out:=wT N) h6 no s fun m8 s=>?_;dsimp only
 refine SY (out:=wT N) hN no s (lp:=rE N) (fun n s0 hn=>aDR N h6 _ n s0 hn) fun cv s i=>?_;dsimp only
 refine uG (out:=wT N) h6 no s fun am s=>?_;dsimp only
 rfl
theorem ZZ (D:List UInt8):(byB D).length=(D.length+7)/8:=by unfold byB;rw [List.length_map];simp [gr]
theorem WM {W D K rows:Int} {Ls:List Int} {s:List UInt8} {l:List Int} (h:stripR W D K Ls rows s=some l):s.length≤16384:=by
 unfold stripR at h
 split at h
 ·split at h
  ·rename_i hh
   obtain ⟨d,n,_,_,h1,h2,h3,_⟩:=FC hh;have:=Nat.mul_le_mul h2 h1.2
   omega
  ·cases h
 ·split at h
  ·rename_i hh
   have h1:=O3 s W rows K Ls hh.1;have h2:=Rh s W rows K Ls
   generalize qE s W rows K Ls=r at h1 h2
   unfold J3 at h1
   split at h1
   ·injection h1 with _ q;cases q
   split at h1
   ·injection h1 with _ q;cases q
   split at h1
   ·rename_i q1 q2 q3;injection h1 with _ q;exact absurd q q3
   split at h1
   ·injection h1 with q _
    rw [←q,ZZ];have:=O1 (o8 Ls) (aDI r.1.toNat r.2.2.1 K);rw [aCx] at this
    omega
   ·injection h1 with _ q;cases q
  ·cases h
theorem KN {W D K:Int} {Ls:List Int} {H R:Nat}:∀(t:List (List UInt8)) (i:Nat) (acc P:List Int),Df W D K Ls H R i t acc=some P→∀s∈t,s.length≤16384
 | [],i,acc,P,h,s,hs=>by cases hs
 | s0::t,i,acc,P,h,s,hs=>by
  unfold Df at h
  split at h
  ·cases h
  ·rename_i l hl
   rcases List.mem_cons.1 hs with rfl | hs
   ·exact WM hl
   ·exact KN t (i+1) _ P h s hs
section
variable (W H D K R:Int) (Ls:List Int) (St:List (List UInt8)) (ph b0 b1 b2 b3 w:Int) (sp:List (Int × Int)) (g0 g1 g2 m0 m1 m2 m3 m4 m5 m6 m7 m8:Int) (cv:List (Int × Int)) (am:Int)
theorem WN {f:Bool} (hc:f=true↔nE cv) (h:(BH W H D K R Ls St ph b0 b1 b2 b3 w sp g0 g1 g2 m0 m1 m2 m3 m4 m5 m6 m7 m8 am f).2.2.2=0) :
  aDn W H D K R Ls St ph b0 b1 b2 b3 w sp g0 g1 g2 m0 m1 m2 m3 m4 m5 m6 m7 m8 cv am∧Ls.length≤17∧St.length≤64∧(∀s∈St,s.length≤16384)∧sp.length≤64∧cv.length≤16:=by
 unfold BH at h
 by_cases h1:AU W H D K R Ls=0
 rotate_left
 ·rw [if_pos h1] at h;exact absurd h h1
 obtain ⟨q1,q2,q3,q4⟩:=NF W H D K R Ls h1;rw [if_neg (fun q=>q h1)] at h
 by_cases h2:St.length=DQ H.toNat R.toNat
 rotate_left
 ·rw [if_pos h2] at h;cases h
 rw [if_neg (fun q=>q h2)] at h
 by_cases h3:O4 W H ph b0 b1 b2 b3 w sp g0 g1 g2 m0 m1 m2 m3 m4 m5 m6 m7 m8 am f=0
 rotate_left
 ·rw [if_pos h3] at h;exact absurd h h3
 rw [if_neg (fun q=>q h3)] at h;obtain ⟨p1,p2,p3⟩:=ZW W H ph b0 b1 b2 b3 w sp g0 g1 g2 m0 m1 m2 m3 m4 m5 m6 m7 m8 am h3
 rcases hp:Df W D K Ls H.toNat R.toNat 0 St [] with _ | P
 ·rw [hp] at h;cases h
 have hall:=KN St 0 [] P hp;have hcv:=hc.1 p2;have hcl:=Up hcv;unfold De at q1;have hcn:=KJ (H:=H.toNat) (R:=R.toNat) (by omega) (by omega)
 have hLs:∀x∈Ls,is32 x:=by
  intro x hx
  by_cases hK:0<K
  ·obtain ⟨ns,rfl,h15,_⟩:=Db (q4 hK);unfold sP at hx;obtain ⟨n,hn,rfl⟩:=List.mem_map.1 hx;have:=h15 n hn;unfold is32;omega
  ·unfold AU at h1;rw [if_neg (fun q=>q q1),if_neg (fun q=>q q2),if_neg hK] at h1
   split at h1
   ·cases h1
   ·rename_i q
    have:Ls=[]:=List.length_eq_zero_iff.1 (by omega);subst this;cases hx
 unfold wR Fv IR at p1;simp only [List.all_cons,List.all_nil,Bool.and_eq_true,decide_eq_true_eq,Bool.and_true,okM] at p1;obtain ⟨a1,a2,⟨a3,a4,a5,a6⟩,a7,a8,⟨c1,c2,c3⟩,⟨e0,e1,e2,e3,e4,e5,e6,e7,e8⟩,a9⟩:=p1
 have hsp:∀x∈sp,is32 x.1∧is32 x.2:=by
  intro x hx;have:=List.all_eq_true.1 a8 x hx;unfold gZ at this;simp only [Bool.and_eq_true,decide_eq_true_eq] at this;unfold is32;omega
 have aFK:∀x∈cv,is32 x.1∧is32 x.2:=by
  intro x hx;obtain ⟨i,hi,rfl⟩:=List.getElem_of_mem hx;have:=hcv.bd hi;unfold cX cY at this;rw [List.getD_eq_getElem?_getD,List.getElem?_eq_getElem hi] at this;simp only [Option.getD_some] at this;unfold is32;omega
 refine ⟨⟨⟨?_,?_,?_,?_,?_⟩,⟨by omega,hLs⟩,⟨by omega,fun s hs=>by have:=hall s hs;omega⟩,⟨?_,?_,?_,?_,?_,?_⟩,⟨by omega,hsp⟩,⟨?_,?_,?_⟩,⟨?_,?_,?_,?_,?_,?_,?_,?_,?_⟩,⟨by omega,aFK⟩,?_⟩,q3,by omega,hall,a7,hcl⟩
 all_goals (unfold is32;omega)
end
theorem O8 (s:List UInt8):sT 8589934592 s=Bf∨∃(W H D K R:Int) (Ls:List Int) (St:List (List UInt8)) (ph b0 b1 b2 b3 w:Int) (sp:List (Int × Int)) (g0 g1 g2 m0 m1 m2 m3 m4 m5 m6 m7 m8:Int) (cv:List (Int × Int)) (am:Int) (f:Bool),
  gW 8589934592 cv=some f∧(f=true↔nE cv)∧(BH W H D K R Ls St ph b0 b1 b2 b3 w sp g0 g1 g2 m0 m1 m2 m3 m4 m5 m6 m7 m8 am f).2.2.2=0 ∧
  sT 8589934592 s=some (W,H,D,K,R,Ls,St,ph,b0,b1,b2,b3,w,sp,g0,g1,g2,m0,m1,m2,m3,m4,m5,m6,m7,m8,cv,am,0):=by
 rw [LB 8589934592 (by decide)]
 rcases hp:Vl s with _ | ⟨⟨W,H,D,K,R,Ls,St,ph,b0,b1,b2,b3,w,sp,g0,g1,g2,m0,m1,m2,m3,m4,m5,m6,m7,m8,cv,am⟩,t⟩
 ·exact .inl rfl
 unfold wT
 dsimp only
 by_cases ht:t=[]
 rotate_left
 ·rw [cT (by rw [dF ht];rfl)];exact .inl rfl
 obtain ⟨aGu,hfit⟩:=YC W H D K R Ls St ph b0 b1 b2 b3 w sp g0 g1 g2 m0 m1 m2 m3 m4 m5 m6 m7 m8 cv am hp ht;have hs:∀y∈St,y.length≤9223372036854775807:=fun y hy=>by have:=hfit.2.2.1.2 y hy;omega
 obtain ⟨f,hb,hc⟩:=right_eq 8589934592 cv (by omega);rw [cF (by rw [dT ht];rfl),O7 W H D K R Ls St ph b0 b1 b2 b3 w sp g0 g1 g2 m0 m1 m2 m3 m4 m5 m6 m7 m8 cv am hb hc hs,aC]
 by_cases h0:(BH W H D K R Ls St ph b0 b1 b2 b3 w sp g0 g1 g2 m0 m1 m2 m3 m4 m5 m6 m7 m8 am f).2.2.2=0
 rotate_left
 ·rw [cT (by rw [dF h0];rfl)];exact .inl rfl
 rw [cF (by rw [dT h0];rfl)];exact .inr ⟨W,H,D,K,R,Ls,St,ph,b0,b1,b2,b3,w,sp,g0,g1,g2,m0,m1,m2,m3,m4,m5,m6,m7,m8,cv,am,f,hb,hc,h0,rfl⟩
def LC (deep:Bool):List UInt8:=if deep then [54,53,53,51,53] else [50,53,53]
def Mx (w h:Nat) (deep:Bool):List UInt8:=[80,54,10]++(Bb 20 w++(32::(Bb 20 h++(10::(LC deep++[10])))))
def Z0 (deep:Bool) (n:Int):List UInt8:=UInt8.ofNat ((n/256)%256).toNat::(if deep then [UInt8.ofNat (n%256).toNat] else [])
def Uq (deep:Bool) (p:Px):List UInt8:=Z0 deep p.1++(Z0 deep p.2.1++Z0 deep p.2.2)
def SZ (w h:Nat) (deep:Bool) (P:List Px):List UInt8:=Mx w h deep++(P.map (Uq deep)).flatten
def Ch (deep:Bool):Nat:=if deep then 2 else 1
theorem Hv (deep:Bool) (n:Int):(Z0 deep n).length=Ch deep:=by unfold Z0 Ch;cases deep <;> rfl
theorem NH (deep:Bool) (p:Px):(Uq deep p).length=3*Ch deep:=by unfold Uq;rw [List.length_append,List.length_append,Hv,Hv,Hv];omega
theorem D9:∀(k u:Nat),(Bb k u).length≤k
 | 0,_=>Nat.le_refl _
 | k+1,u=>by
  unfold Bb
  split
  ·simp
  ·have:=D9 k (u/10);rw [List.length_append];simp;omega
theorem O9:∀(k u:Nat),∀b∈Bb k u,48≤b.toNat∧b.toNat≤57
 | 0,_,b,h=>by cases h
 | k+1,u,b,h=>by
  unfold Bb at h
  split at h
  ·rename_i q
   obtain rfl:=List.mem_singleton.1 h;rw [UInt8.toNat_ofNat'];omega
  ·rcases List.mem_append.1 h with h | h
   ·exact O9 k _ b h
   ·obtain rfl:=List.mem_singleton.1 h;rw [UInt8.toNat_ofNat'];omega
theorem Dg {n:Nat} (h:n≤100000) (N:Nat):iV N (n:Int)=some (Bb 20 n):=by
 unfold iV;rw [if_pos (by omega)];unfold Sb;rw [if_neg (by omega),Int.toNat_natCast]
theorem NI {b:List UInt8} {y:Int} (hb:b.length+1≤140737488355328) (hy:0≤y∧y<256):YE b y=some (b++[UInt8.ofNat y.toNat]):=by
 unfold YE;rw [if_pos ⟨hb,hy.1,hy.2⟩]
theorem tH {a b:List UInt8} (h:a.length+b.length≤140737488355328):Ds a b=some (a++b):=by
 unfold Ds;rw [if_pos (by omega)]
theorem aCD (N:Nat) (deep:Bool) (p:Px) (kk) (b:List UInt8) (hb:b.length+6≤140737488355328) (fuel:Nat):lL N deep p kk (fuel+4) (b,0)=kk (b++Uq deep p,3):=by
 have st:∀(i:Int) (f:Nat) (b:List UInt8) (e:Int),0≤i∧i<3→idx [p.1,p.2.1,p.2.2] i=some e→b.length+2≤140737488355328→lL N deep p kk (f+1) (b,i)=lL N deep p kk f (b++Z0 deep e,i+1):=by
  intro i f b e hi he hb
  conv=>lhs;unfold lL
  rw [cT (dT hi.2),he,aC,aDM,NI (by omega) (by omega),aC,gF (x:=i+1) (by omega)];cases deep
  ·rw [cF rfl];rfl
  ·rw [cT rfl,u8w,NI (by simp;omega) (by omega),aC];unfold Z0;rw [List.append_assoc];rfl
 have l:=fun e=>Hv deep e
 have hz:Ch deep≤2:=by unfold Ch;split <;> omega
 rw [st 0 (fuel+3) b p.1 (by decide) rfl (by omega),st _ (fuel+2) _ p.2.1 (by decide) rfl (by rw [List.length_append,l];omega),st _ (fuel+1) _ p.2.2 (by decide) rfl (by rw [List.length_append,List.length_append,l,l];omega)];unfold lL;rw [cF (by rfl)];unfold Uq;simp only [List.append_assoc]
 rfl
theorem aCE (N:Nat) (deep:Bool) (p:Px) (kk) (b:List UInt8) (hb:b.length+6≤140737488355328) (fuel:Nat):lM N deep p kk (fuel+4) (b,0)=kk (b++Uq deep p,3):=by
 have st:∀(i:Int) (f:Nat) (b:List UInt8) (e:Int),0≤i∧i<3→idx [p.1,p.2.1,p.2.2] i=some e→b.length+2≤140737488355328→lM N deep p kk (f+1) (b,i)=lM N deep p kk f (b++Z0 deep e,i+1):=by
  intro i f b e hi he hb
  conv=>lhs;unfold lM
  rw [cT (dT hi.2),he,aC,aDM,NI (by omega) (by omega),aC,gF (x:=i+1) (by omega)];cases deep
  ·rw [cF rfl];rfl
  ·rw [cT rfl,u8w,NI (by simp;omega) (by omega),aC];unfold Z0;rw [List.append_assoc];rfl
 have l:=fun e=>Hv deep e
 have hz:Ch deep≤2:=by unfold Ch;split <;> omega
 rw [st 0 (fuel+3) b p.1 (by decide) rfl (by omega),st _ (fuel+2) _ p.2.1 (by decide) rfl (by rw [List.length_append,l];omega),st _ (fuel+1) _ p.2.2 (by decide) rfl (by rw [List.length_append,List.length_append,l,l];omega)];unfold lM;rw [cF (by rfl)];unfold Uq;simp only [List.append_assoc]
 rfl
theorem aCF (N:Nat) (hN:10≤N) (deep:Bool) (P:List Px) (hP:P.length≤4096) (kk):∀(j k fuel:Nat) (b:List UInt8),k+j=P.length→j<fuel→b.length+6*j≤100000→qN N P deep kk fuel (b,(k:Int))=kk (b++((P.drop k).map (Uq deep)).flatten,(P.length:Int)):=by
 have hz:Ch deep≤2:=by unfold Ch;split <;> omega
 intro j
 induction j with
 | zero=>
  intro k fuel b hk hf hb;obtain ⟨fuel,rfl⟩:=oK fuel (by omega);obtain rfl:k=P.length:=by omega
  unfold qN;rw [cF (dF (by omega)),List.drop_length];simp
 | succ j ih=>
  intro k fuel b hk hf hb;obtain ⟨fuel,rfl⟩:=oK fuel (by omega);obtain ⟨M,hM⟩:∃q,N=q+4:=⟨N-4,by omega⟩
  have hlt:k<P.length:=by omega
  unfold qN;rw [cT (dT (by omega)),eC,List.getElem?_eq_getElem hlt,aC];have key:=fun kk=>aCD N deep P[k] kk b (by omega) M
  rw [←hM] at key;rw [key]
  dsimp only
  rw [gF (x:=(k:Int)+1) (by omega)];refine Eq.trans (ih (k+1) fuel (b++Uq deep P[k]) (by omega) (by omega) (by rw [List.length_append,NH];omega)) ?_;rw [List.drop_eq_getElem_cons hlt,List.append_assoc];rfl
theorem aCG (N:Nat) (hN:10≤N) (deep:Bool) (P:List Px) (hP:P.length≤4096) (kk):∀(j k fuel:Nat) (b:List UInt8),k+j=P.length→j<fuel→b.length+6*j≤100000→qO N P deep kk fuel (b,(k:Int))=kk (b++((P.drop k).map (Uq deep)).flatten,(P.length:Int)):=by
 have hz:Ch deep≤2:=by unfold Ch;split <;> omega
 intro j
 induction j with
 | zero=>
  intro k fuel b hk hf hb;obtain ⟨fuel,rfl⟩:=oK fuel (by omega);obtain rfl:k=P.length:=by omega
  unfold qO;rw [cF (dF (by omega)),List.drop_length];simp
 | succ j ih=>
  intro k fuel b hk hf hb;obtain ⟨fuel,rfl⟩:=oK fuel (by omega);obtain ⟨M,hM⟩:∃q,N=q+4:=⟨N-4,by omega⟩
  have hlt:k<P.length:=by omega
  unfold qO;rw [cT (dT (by omega)),eC,List.getElem?_eq_getElem hlt,aC];have key:=fun kk=>aCE N deep P[k] kk b (by omega) M
  rw [←hM] at key;rw [key]
  dsimp only
  rw [gF (x:=(k:Int)+1) (by omega)];refine Eq.trans (ih (k+1) fuel (b++Uq deep P[k]) (by omega) (by omega) (by rw [List.length_append,NH];omega)) ?_;rw [List.drop_eq_getElem_cons hlt,List.append_assoc];rfl
theorem Rl (N:Nat) (hN:5000≤N) (W H:Int) (P:List Px) (deep:Bool):gM N W H P deep=some (if rN W H P=true then (SZ W.toNat H.toNat deep P,0) else ([],1)):=by
 obtain ⟨a,b,l,ht⟩:=vQ N W H P hN;unfold gM;rw [ht,aC];cases hp:rN W H P
 ·rw [cT (by rfl)];rfl
 have hs:=pM hp;obtain ⟨w',rfl⟩:=Int.eq_ofNat_of_zero_le (show 0≤W by have:=hs.1;omega);obtain ⟨k',rfl⟩:=Int.eq_ofNat_of_zero_le (show 0≤H by have:=hs.2.2.1;omega);have hw:w'≤64:=by have:=hs.2.1;omega
 have hk:k'≤64:=by have:=hs.2.2.2.1;omega
 have hP:=(D7 hs).1;rw [cF (by rfl),if_pos rfl,Int.toNat_natCast,Int.toNat_natCast];have d1:=D9 20 w';have d2:=D9 20 k';unfold SZ;cases deep
 ·rw [cF rfl,Dg (by omega),aC,tH (by simp;omega),aC,tH (by simp;omega),aC,Dg (by omega),aC,tH (by simp;omega),aC,tH (by simp;omega),aC,show iV N 255=some [50,53,53] from rfl,aC,tH (by simp;omega),aC,tH (by simp;omega),aC,show ∀x:List UInt8,x.length≤1000→Ob [] x=some x from fun x hx=>by unfold Ob;rw [if_pos (by simp;omega)];rfl,aC]
  ·have key:=aCG N (by omega) false P hP (fun (Sd,Fp)=>some (Sd,(0:Int))) P.length 0 N ([80,54,10]++Bb 20 w'++[32]++Bb 20 k'++[10]++[50,53,53]++[10]) (by omega) (by omega) (by simp;omega);rw [List.drop_zero] at key;refine Eq.trans key ?_;unfold Mx LC;simp only [List.append_assoc,List.cons_append,List.nil_append]
   rfl
  ·simp;omega
 ·rw [cT rfl,Dg (by omega),aC,tH (by simp;omega),aC,tH (by simp;omega),aC,Dg (by omega),aC,tH (by simp;omega),aC,tH (by simp;omega),aC,show iV N 65535=some [54,53,53,51,53] from rfl,aC,tH (by simp;omega),aC,tH (by simp;omega),aC,show ∀x:List UInt8,x.length≤1000→Ob [] x=some x from fun x hx=>by unfold Ob;rw [if_pos (by simp;omega)];rfl,aC]
  ·have key:=aCF N (by omega) true P hP (fun (l6,i5)=>some (l6,(0:Int))) P.length 0 N ([80,54,10]++Bb 20 w'++[32]++Bb 20 k'++[10]++[54,53,53,51,53]++[10]) (by omega) (by omega) (by simp;omega);rw [List.drop_zero] at key;refine Eq.trans key ?_;unfold Mx LC;simp only [List.append_assoc,List.cons_append,List.nil_append]
   rfl
  ·simp;omega
theorem Pa:∀(t:List UInt8) (c:UInt8) (r:List UInt8),(∀b∈t,b≠c)→Go.Lib.indexByte (t++c::r) c=(t.length:Int)
 | [],c,r,_=>by
  show (if (c==c)=true then (0:Int) else _)=_;rw [if_pos (by simp)];rfl
 | x::t,c,r,h=>by
  have ih:=Pa t c r fun b hb=>h b (List.mem_cons_of_mem _ hb)
  show (if (x==c)=true then (0:Int) else if (Go.Lib.indexByte (t++c::r) c == -1)=true then -1 else Go.Lib.indexByte (t++c::r) c+1)=_
  rw [if_neg (by simpa using h x (List.mem_cons_self ..)),ih,if_neg (by simp <;> omega),List.length_cons];try omega
theorem Z1 (N:Nat) {t r:List UInt8} {c:UInt8} (h:Go.Lib.indexByte (t++c::r) c=(t.length:Int)) (hl:(t++c::r).length≤1000000000000000):wP N (t++c::r) [c]=some (t,r,true):=by
 rw [List.length_append,List.length_cons] at hl;unfold wP mE;rw [show lH N (t++c::r) [c]=some (t.length:Int) from congrArg some h,aC,cT (dT (by omega)),BG (by rw [List.length_append];omega),aC];rw [show (([c]:List UInt8).length:Int)=1 from rfl,gF (by omega),BG (by rw [List.length_append,List.length_cons];omega),aC,aC]
 congr 2
 ·rw [Int.toNat_natCast,show ((0:Int)).toNat=0 from rfl,List.drop_zero,List.take_left]
 ·congr 1
  have e:∀n m:Nat,n=t.length+1→m=(t++c::r).length→((t++c::r).take m).drop n=r:=by
   intro n m h1 h2;rw [h2,List.take_length,h1,←List.drop_drop];rw [List.drop_left];rfl
  exact e _ _ (by omega) (by omega)
theorem S1 (N:Nat) {n:Nat} {c:UInt8} {r:List UInt8} (hn:n≤100000) (hc:c.toNat<48) (hA:Go.Lib.atoiAll (Bb 20 n) = .ok (n:Int)) (hl:(Bb 20 n++c::r).length≤140737488355328):rM N (Bb 20 n++c::r) [c]=some ((n:Int),r,true):=by
 have hd:=D9 20 n;unfold rM;rw [Z1 N (Pa _ c r fun b hb=>fun q=>by have:=O9 20 n b hb;rw [q] at this;omega) (by omega),aC];unfold Sc
 dsimp only
 rw [if_pos (by omega),hA]
 dsimp only
 rw [cT rfl,Dg hn,aC]
 congr 3
 exact dT rfl
theorem Z2:∀n:Fin 65,Go.Lib.atoiAll (Bb 20 n.val) = .ok ((n.val:Nat):Int):=by decide +kernel
theorem Pb (deep:Bool):Go.Lib.atoiAll (LC deep) = .ok (if deep then 65535 else 255)∧LC deep=Bb 20 (if deep then 65535 else 255):=by cases deep <;> decide +kernel
def vR (deep:Bool) (b:List UInt8):Int:=256*((b.getD 0 0).toNat:Int)+((b.getD (Ch deep-1) 0).toNat:Int)
def pxR (deep:Bool) (b:List UInt8):Px:=(vR deep b,vR deep (b.drop (Ch deep)),vR deep ((b.drop (Ch deep)).drop (Ch deep)))
def Z3 (deep:Bool):Nat→List UInt8→List Px
 | 0,_=>[]
 | n+1,b=>pxR deep b::Z3 deep n (((b.drop (Ch deep)).drop (Ch deep)).drop (Ch deep))
theorem WO (deep:Bool):1≤Ch deep∧Ch deep≤2:=by unfold Ch;cases deep <;> decide
theorem Ea {b:List UInt8} {i:Nat} (h:i<b.length):idx b (i:Int)=some (b.getD i 0):=by
 rw [eC,List.getD_eq_getElem?_getD,List.getElem?_eq_getElem h];rfl
theorem FX {b:List UInt8} {z:Nat} (h:z≤b.length):DZ b (z:Int) (b.length:Int)=some (b.drop z):=by
 rw [BG (by omega),Int.toNat_natCast,Int.toNat_natCast,List.take_length]
theorem Rm (a b:UInt8):Fc .i64 (mN .i64 (IntKind.i64.wrap (a.toNat:Int)) 8) (IntKind.i64.wrap (b.toNat:Int))=256*(a.toNat:Int)+(b.toNat:Int):=by
 have ha:=a.toNat_lt;have hb:=b.toNat_lt;rw [gF (x:=(a.toNat:Int)) (by omega),SX (by omega) (by omega)]
 omega
theorem aCH (N:Nat) (deep:Bool) (W H:Int) {n:Nat} (hn:W*H=(n:Int)) (hn2:n≤4096) (kk):∀(j k fuel:Nat) (acc:List Px) (b:List UInt8),k+j=n→j<fuel→b.length=3*Ch deep*j→acc.length=k →
  sH N W H (Ch deep:Int) kk fuel (acc,b,(k:Int))=kk (acc++Z3 deep j b,[],(n:Int)):=by
 have hz:=WO deep;have hw:IntKind.i64.wrap (W*H)=(n:Int):=by rw [hn,gF (by omega)]
 have hz1:IntKind.i64.wrap ((Ch deep:Int)-1)=((Ch deep-1:Nat):Int):=by rw [gF (by omega)];omega
 intro j
 induction j with
 | zero=>
  intro k fuel acc b hk hf hb ha;obtain ⟨fuel,rfl⟩:=oK fuel (by omega);obtain rfl:k=n:=by omega
  obtain rfl:b=[]:=List.eq_nil_of_length_eq_zero (by omega);unfold sH;rw [hw,cF (dF (by omega))];unfold Z3;rw [List.append_nil]
 | succ j ih=>
  intro k fuel acc b hk hf hb ha;obtain ⟨fuel,rfl⟩:=oK fuel (by omega);have hb3:3*Ch deep≤b.length:=by rw [hb,Nat.mul_succ];omega
  have l1:(b.drop (Ch deep)).length=b.length-Ch deep:=List.length_drop ..;have l2:((b.drop (Ch deep)).drop (Ch deep)).length=b.length-Ch deep-Ch deep:=by rw [List.length_drop,l1]
  unfold sH;rw [hw,cT (dT (by omega)),hz1,show (0:Int)=((0:Nat):Int) from rfl,Ea (by omega),aC,Ea (by omega),aC,FX (by omega),aC,Ea (by omega),aC,Ea (by omega),aC,FX (by omega),aC,Ea (by omega),aC,Ea (by omega),aC,FX (by omega),aC,oS (by rw [ha];simp;omega),aC,Rm,Rm,Rm,gF (x:=(k:Int)+1) (by omega)];have:=ih (k+1) fuel (acc++[pxR deep b]) (((b.drop (Ch deep)).drop (Ch deep)).drop (Ch deep)) (by omega) (by omega) (by rw [List.length_drop,l2,hb,Nat.mul_succ];omega) (by rw [List.length_append,ha];rfl);refine Eq.trans this ?_;rw [List.append_assoc];rfl
theorem Rn (N:Nat) (p t:List UInt8):oW N (p++t) p=some (t,true):=by
 unfold oW jY jX
 have e:DZ (p++t) 0 (p.length:Int)=some p:=by
  rw [BG (by rw [List.length_append];omega),Int.toNat_natCast,show ((0:Int)).toNat=0 from rfl,List.drop_zero,List.take_left]
 rw [cT (dT (by rw [List.length_append];omega)),e,aC,aC,cF (by simp),FX (by rw [List.length_append];omega),aC,aC,List.drop_left]
def Ur (deep:Bool):Nat:=if deep then 65535 else 255
theorem My (N:Nat) {n:Nat} (hn:n≤64) {c:UInt8} (hc:c.toNat<48) {r:List UInt8} (hl:(Bb 20 n++c::r).length≤140737488355328):rM N (Bb 20 n++c::r) [c]=some ((n:Int),r,true):=
 S1 N (by omega) hc (Z2 ⟨n,by omega⟩) hl
theorem Z4 (N:Nat) (deep:Bool) {r:List UInt8} (hl:(LC deep++10::r).length≤140737488355328):rM N (LC deep++10::r) [10]=some ((Ur deep:Int),r,true):=by
 have e:=(Pb deep).2;have h:=(Pb deep).1;rw [e] at hl h ⊢;have q:(if deep then 65535 else 255:Nat)=Ur deep:=rfl;rw [q] at hl h ⊢;refine S1 N (by unfold Ur;split <;> omega) (by decide) (h.trans ?_) hl
 cases deep <;> rfl
theorem aDS (N:Nat) {w h:Nat} (hw:1≤w∧w≤64) (hh:1≤h∧h≤64) (deep:Bool) (kk):zC N (w:Int) (h:Int) (Ur deep:Int) true kk=kk false:=by
 unfold zC;rw [cF (b:=!true) rfl,cF (dF (by omega)),cF (dF (by omega)),cF (dF (by omega)),cF (dF (by omega))]
 cases deep <;> rfl
theorem Z5 (N:Nat) (hN:5000≤N) {w h:Nat} (hw:1≤w∧w≤64) (hh:1≤h∧h≤64) (deep:Bool) (b:List UInt8) (hb:b.length=3*Ch deep*(w*h)) :
  oG N (Mx w h deep++b)=some ((w:Int),(h:Int),Z3 deep (w*h) b,deep,0):=by
 have hz:=WO deep;have hwh:w*h≤64*64:=Nat.mul_le_mul hw.2 hh.2;have hm:Ch deep*(w*h)≤2*(w*h):=Nat.mul_le_mul_right _ hz.2;have hbl:b.length≤24576:=by rw [hb,Nat.mul_assoc];omega
 have d1:=D9 20 w;have d2:=D9 20 h
 have d3:(LC deep).length≤5:=by unfold LC;split <;> decide
 have es:Mx w h deep++b=[80,54,10]++(Bb 20 w++(32::(Bb 20 h++(10::(LC deep++(10::b)))))):=by
  unfold Mx;simp only [List.append_assoc,List.cons_append,List.nil_append]
 obtain ⟨F,hF⟩:∃q,N=q+4:=⟨N-4,by omega⟩
 unfold oG;rw [es,Rn,aC]
 conv=>lhs;arg 3;rw [hF]
 unfold mF;rw [cT (by rfl),show idx [([32]:List UInt8),([10]:List UInt8),([10]:List UInt8)] 0=some [32] from rfl,aC,My N hw.2 (by decide) (by simp;omega),aC,cT (by rfl)];unfold C0;rw [cT rfl]
 dsimp only
 rw [cF (b:=!true) rfl];unfold mF;rw [show IntKind.i64.wrap (0+1)=(1:Int) from rfl,cT (by rfl),show idx [([32]:List UInt8),([10]:List UInt8),([10]:List UInt8)] 1=some [10] from rfl,aC,My N hh.2 (by decide) (by simp;omega),aC,cF (by rfl),cT (by rfl)];unfold C1;rw [cT rfl]
 dsimp only
 rw [cF (b:=!true) rfl];unfold mF;rw [show IntKind.i64.wrap (1+1)=(2:Int) from rfl,cT (by rfl),show idx [([32]:List UInt8),([10]:List UInt8),([10]:List UInt8)] 2=some [10] from rfl,aC,Z4 N deep (by simp;omega),aC,cF (by rfl),cF (by rfl),cT (by rfl)];unfold C2;rw [cT rfl]
 dsimp only
 rw [cF (b:=!true) rfl];unfold mF;rw [cF (by rfl)]
 dsimp only
 rw [aDS N hw hh deep,cF rfl]
 have e5:∀kk,zB N (Ur deep:Int) kk=kk (Ch deep:Int):=by intro kk;unfold zB;cases deep <;> rfl
 rw [e5];have i1:((w*h:Nat):Int)=(w:Int)*(h:Int):=Int.natCast_mul w h;have zc:Ch deep=1∨Ch deep=2:=by omega
 have i2:(3*(Ch deep:Int))*(w:Int)≤6*64:=by rcases zc with z | z <;> rw [z] <;> omega
 have i3:0≤(3*(Ch deep:Int))*(w:Int):=by rcases zc with z | z <;> rw [z] <;> omega
 have i4:(3*(Ch deep:Int))*(w:Int)*(h:Int)=((3*Ch deep*(w*h):Nat):Int):=by
  rw [←Nat.mul_assoc,Int.natCast_mul,Int.natCast_mul,Int.natCast_mul];rfl
 have ew:IntKind.i64.wrap (IntKind.i64.wrap (IntKind.i64.wrap (3*(Ch deep:Int))*(w:Int))*(h:Int))=((3*Ch deep*(w*h):Nat):Int):=by
  rw [gF (x:=3*(Ch deep:Int)) (by omega),gF (x:=3*(Ch deep:Int)*(w:Int)) (by omega),i4,gF (by rw [←hb];omega)]
 rw [ew,cF (by rw [dT (by rw [hb])];rfl)];have key:=aCH N deep (w:Int) (h:Int) (n:=w*h) i1.symm (by omega) (fun (DM,x8,i20)=>some ((w:Int),(h:Int),DM,decide ((Ur deep:Int)=65535),(0:Int))) (w*h) 0 N [] b (by omega) (by omega) hb rfl;refine Eq.trans key ?_
 dsimp only
 rw [List.nil_append]
 cases deep <;> rfl
theorem Hw:jR 8589934592=some true:=by kernel_rfl
abbrev Q4:=Int × Int × List Px × Int
def WP (W H:Int) (P:List Px) (o:Int):Q4:=
 if rN W H P=false then (0,0,[],1) else if 1≤o∧o≤8 then (((cond (swO o) H.toNat W.toNat:Nat):Int),((cond (swO o) W.toNat H.toNat:Nat):Int),E8 (cond (swO o) H.toNat W.toNat) (cond (swO o) W.toNat H.toNat) (tPx (swO o) (miO o) (flO o) W.toNat H.toNat P),0) else (0,0,[],3)
theorem Mz (N:Nat) (hN:5000≤N) (W H:Int) (P:List Px) (o:Int):mK N W H P o=some (WP W H P o):=by
 obtain ⟨a,b,l,ht⟩:=vQ N W H P hN;unfold WP;cases hp:rN W H P
 ·rw [if_pos rfl];unfold mK;rw [ht,hp]
  rfl
 ·rw [if_neg (by simp)];rw [hp,if_pos rfl] at ht
  by_cases ho:1≤o∧o≤8
  ·rw [if_pos ho,Zr N W H P o ho,ht];have hs:=pM hp;obtain ⟨W',rfl⟩:∃n:Nat,W=n:=⟨W.toNat,by have:=hs.1;omega⟩
   obtain ⟨H',rfl⟩:∃n:Nat,H=n:=⟨H.toNat,by have:=hs.2.2.1;omega⟩
   exact Wq _ _ _ N W' H' P hs hN
  ·rw [if_neg ho];unfold mK;rw [ht,aC,cF (by rfl)]
   by_cases h1:o<1
   ·rw [cT (dT h1)]
   ·rw [cF (dF h1),cT (dT (by omega))]
def Us (deep:Bool) (r:Q4):List UInt8 × Int:=if r.2.2.2=0 then (if rN r.1 r.2.1 r.2.2.1=true then (SZ r.1.toNat r.2.1.toNat deep r.2.2.1,0) else ([],1)) else ([],r.2.2.2)
theorem WQ (r:Q4) (deep:Bool):cond (!decide (r.2.2.2=0)) (some (([]:List UInt8),r.2.2.2)) (Option.bind (gM 8589934592 r.1 r.2.1 r.2.2.1 deep) fun r7=>some (r7.1,r7.2))=some (Us deep r):=by
 unfold Us
 by_cases h:r.2.2.2=0
 ·rw [cF (by rw [dT h];rfl),if_pos h,Rl 8589934592 (by omega),aC]
 ·rw [cT (by rw [dF h];rfl),if_neg h]
def cutV (r:Q4) (x y cw ch:Int):Q4:=if x=0∧y=0∧cw=0∧ch=0 then r else if rN r.1 r.2.1 r.2.2.1=false then (0,0,[],1) else if DP r.1 r.2.1 x y cw ch then (cw,ch,rowsOf r.1 r.2.2.1 x y cw ch.toNat,0) else (0,0,[],3)
def Ut (deep:Bool) (o:Int) (r:Q4) (x y cw ch:Int):List UInt8 × Int:=
 if r.2.2.2=0 then (if (cutV r x y cw ch).2.2.2=0 then Us deep (WP (cutV r x y cw ch).1 (cutV r x y cw ch).2.1 (cutV r x y cw ch).2.2.1 o) else ([],(cutV r x y cw ch).2.2.2)) else ([],r.2.2.2)
theorem WR (r4:Q4) (x y cw ch o:Int) (deep:Bool) :
  (cond (decide (r4.2.2.2=0)) (
   cond (!(decide (x=0)&&decide (y=0)&&decide (cw=0)&&decide (ch=0))) (
   Option.bind (xL 8589934592 r4.1 r4.2.1 r4.2.2.1 x y cw ch) fun r5=>
   cond (decide (r5.2.2.2=0)) (
   Option.bind (mK 8589934592 r5.1 r5.2.1 r5.2.2.1 o) fun r6=>
   cond (!decide (r6.2.2.2=0)) (
   some (([]:List UInt8),r6.2.2.2)) (
   Option.bind (gM 8589934592 r6.1 r6.2.1 r6.2.2.1 deep) fun r7=>
   some (r7.1,r7.2))) (
   cond (!decide (r5.2.2.2=0)) (
   some (([]:List UInt8),r5.2.2.2)) (
   Option.bind (gM 8589934592 r5.1 r5.2.1 r5.2.2.1 deep) fun r8=>
   some (r8.1,r8.2)))) (
   cond (decide (r4.2.2.2=0)) (
   Option.bind (mK 8589934592 r4.1 r4.2.1 r4.2.2.1 o) fun r9=>
   cond (!decide (r9.2.2.2=0)) (
   some (([]:List UInt8),r9.2.2.2)) (
   Option.bind (gM 8589934592 r9.1 r9.2.1 r9.2.2.1 deep) fun IC=>
   some (IC.1,IC.2))) (
   cond (!decide (r4.2.2.2=0)) (
   some (([]:List UInt8),r4.2.2.2)) (
   Option.bind (gM 8589934592 r4.1 r4.2.1 r4.2.2.1 deep) fun Gd=>
   some (Gd.1,Gd.2))))) (
   cond (decide (r4.2.2.2=0)) (
   Option.bind (mK 8589934592 r4.1 r4.2.1 r4.2.2.1 o) fun wM=>
   cond (!decide (wM.2.2.2=0)) (
   some (([]:List UInt8),wM.2.2.2)) (
   Option.bind (gM 8589934592 wM.1 wM.2.1 wM.2.2.1 deep) fun Dt=>
   some (Dt.1,Dt.2))) (
   cond (!decide (r4.2.2.2=0)) (
   some (([]:List UInt8),r4.2.2.2)) (
   Option.bind (gM 8589934592 r4.1 r4.2.1 r4.2.2.1 deep) fun Nb=>
   some (Nb.1,Nb.2)))))=some (Ut deep o r4 x y cw ch):=by
 have hN:5000≤8589934592:=by omega
 unfold Ut
 by_cases h4:r4.2.2.2=0
 rotate_left
 ·rw [cF (dF h4),cF (dF h4),cT (by rw [dF h4];rfl),if_neg h4]
 rw [cT (dT h4),if_pos h4]
 by_cases hz:x=0∧y=0∧cw=0∧ch=0
 ·have hc:cutV r4 x y cw ch=r4:=by unfold cutV;rw [if_pos hz]
  rw [cF (by obtain ⟨rfl,rfl,rfl,rfl⟩:=hz;rfl),cT (dT h4),hc,if_pos h4,Mz _ hN,aC];exact WQ _ deep
 ·have hc:xL 8589934592 r4.1 r4.2.1 r4.2.2.1 x y cw ch=some (cutV r4 x y cw ch):=by unfold cutV;rw [if_neg hz,aCm _ _ _ _ _ _ _ _ hN]
  rw [cT (by
   by_cases e1:x=0
   ·by_cases e2:y=0
    ·by_cases e3:cw=0
     ·have e4:¬ch=0:=fun e4=>hz ⟨e1,e2,e3,e4⟩
      rw [dF e4];simp
     ·rw [dF e3];simp
    ·rw [dF e2];simp
   ·rw [dF e1];rfl),hc,aC]
  by_cases h5:(cutV r4 x y cw ch).2.2.2=0
  ·rw [cT (dT h5),if_pos h5,Mz _ hN,aC];exact WQ _ deep
  ·rw [cF (dF h5),if_neg h5,cT (by rw [dF h5];rfl)]
theorem WS {s:List UInt8} (h:sT 8589934592 s=Bf) (rows x y cw ch o:Int) (deep:Bool):mD 8589934592 s rows x y cw ch o deep=some ([],1):=by
 unfold mD;rw [h]
 rfl
def IX (e rows:Int) (q:Int × Int × List Px):Q4:=if e=0 then (if rows<1 then (0,0,[],3) else (q.1,q.2.1,q.2.2,0)) else (0,0,[],e)
theorem S2 {W H D K R:Int} {Ls:List Int} {St:List (List UInt8)} {ph b0 b1 b2 b3 w:Int} {sp:List (Int × Int)} {g0 g1 g2 m0 m1 m2 m3 m4 m5 m6 m7 m8:Int} {cv:List (Int × Int)} {am:Int} {f:Bool} {s:List UInt8}
  (hb:gW 8589934592 cv=some f) (hc:f=true↔nE cv) (h:(BH W H D K R Ls St ph b0 b1 b2 b3 w sp g0 g1 g2 m0 m1 m2 m3 m4 m5 m6 m7 m8 am f).2.2.2=0)
  (hr:sT 8589934592 s=some (W,H,D,K,R,Ls,St,ph,b0,b1,b2,b3,w,sp,g0,g1,g2,m0,m1,m2,m3,m4,m5,m6,m7,m8,cv,am,0)) {p:Int × Int × List Int × Int} (hp:p=BH W H D K R Ls St ph b0 b1 b2 b3 w sp g0 g1 g2 m0 m1 m2 m3 m4 m5 m6 m7 m8 am f) (rows x y cw ch o:Int) (deep:Bool) :
  mD 8589934592 s rows x y cw ch o deep=some (Ut deep o (IX (QY ph b0 b1 b2 b3 w sp g0 g1 g2 m0 m1 m2 m3 m4 m5 m6 m7 m8 am f p.1 p.2.1 p.2.2.1) rows (p.1,p.2.1,OL ph b0 b1 b2 b3 w sp g0 g1 g2 m0 m1 m2 m3 m4 m5 m6 m7 m8 cv am p.1.toNat p.2.1.toNat p.2.2.1)) x y cw ch):=by
 obtain ⟨_,_,_,l3,_,_⟩:=WN W H D K R Ls St ph b0 b1 b2 b3 w sp g0 g1 g2 m0 m1 m2 m3 m4 m5 m6 m7 m8 cv am hc h;have hlen:=Rk W H D K R Ls St ph b0 b1 b2 b3 w sp g0 g1 g2 m0 m1 m2 m3 m4 m5 m6 m7 m8 am f;rw [←hp] at hlen;unfold mD;rw [hr,aC]
 dsimp only
 rw [cF (by rfl),KK W H D K R Ls St ph b0 b1 b2 b3 w sp g0 g1 g2 m0 m1 m2 m3 m4 m5 m6 m7 m8 cv am hb hc (fun y hy=>by have:=l3 y hy;omega),aC,←hp,TX ph b0 b1 b2 b3 w sp g0 g1 g2 m0 m1 m2 m3 m4 m5 m6 m7 m8 cv am hb hc p.1 p.2.1 p.2.2.1 (by omega) rows,aC];exact WR _ x y cw ch o deep
theorem Pc (N:Nat) (hN:5000≤N) {W H:Int} {P:List Px} (hp:rN W H P=true) (deep:Bool):∃Q,oG N (SZ W.toNat H.toNat deep P)=some (((W.toNat:Nat):Int),((H.toNat:Nat):Int),Q,deep,0):=by
 have hs:=pM hp
 have hl:P.length=W.toNat*H.toNat:=by
  have e:(P.length:Int)=W*H:=hs.2.2.2.2;obtain ⟨w',rfl⟩:=Int.eq_ofNat_of_zero_le (show 0≤W by have:=hs.1;omega);obtain ⟨k',rfl⟩:=Int.eq_ofNat_of_zero_le (show 0≤H by have:=hs.2.2.1;omega);rw [Int.toNat_natCast,Int.toNat_natCast];have:=Int.natCast_mul w' k'
  omega
 have hb:((P.map (Uq deep)).flatten).length=3*Ch deep*P.length:=by
  clear hp hs hl
  induction P with
  | nil=>rfl
  | cons p P ih=>
   rw [List.map_cons,List.flatten_cons,List.length_append,NH,ih,List.length_cons,Nat.mul_succ];omega
 have h1:=hs.1;have h2:=hs.2.1;have h3:=hs.2.2.1;have h4:=hs.2.2.2.1;exact ⟨_,Z5 N hN (w:=W.toNat) (h:=H.toNat) ⟨by omega,by omega⟩ ⟨by omega,by omega⟩ deep ((P.map (Uq deep)).flatten) (by rw [hb,hl])⟩
theorem WT (deep:Bool) (r:Q4) (h:(Us deep r).2=0):∃a b Q,oG 8589934592 (Us deep r).1=some (a,b,Q,deep,0):=by
 unfold Us at h ⊢
 by_cases h1:r.2.2.2=0
 ·rw [if_pos h1] at h ⊢
  by_cases hp:rN r.1 r.2.1 r.2.2.1=true
  ·rw [if_pos hp];obtain ⟨Q,hQ⟩:=Pc 8589934592 (by omega) hp deep;exact ⟨_,_,Q,hQ⟩
  ·rw [if_neg hp] at h;cases h
 ·rw [if_neg h1] at h;exact absurd h h1
theorem KO (deep:Bool) (o:Int) (r:Q4) (x y cw ch:Int) (h:(Ut deep o r x y cw ch).2=0):r.2.2.2=0∧∃a b Q,oG 8589934592 (Ut deep o r x y cw ch).1=some (a,b,Q,deep,0):=by
 unfold Ut at h ⊢
 by_cases h1:r.2.2.2=0
 rotate_left
 ·rw [if_neg h1] at h;exact absurd h h1
 rw [if_pos h1] at h ⊢
 by_cases h2:(cutV r x y cw ch).2.2.2=0
 rotate_left
 ·rw [if_neg h2] at h;exact absurd h h2
 rw [if_pos h2] at h ⊢;exact ⟨h1,WT deep _ h⟩
theorem Je {e rows:Int} {q:Int × Int × List Px} (h:(IX e rows q).2.2.2=0):e=0∧¬rows<1:=by
 unfold IX at h
 by_cases he:e=0
 ·rw [if_pos he] at h
  by_cases hr:rows<1
  ·rw [if_pos hr] at h;cases h
  ·exact ⟨he,hr⟩
 ·rw [if_neg he] at h;exact absurd h he
theorem MA (N2:Option Bool) (hN2:N2=some true) {r2 r3:List UInt8 × Int} (rows p2:Int) (deep:Bool)
  (h1:r2.2=0→∃a b Q,oG 8589934592 r2.1=some (a,b,Q,deep,0)) (h2:r2=r3∨(rows<1∨p2<1)∧(r2.2≠0∨r3.2≠0)) :
  (cond (!decide (r2.2=0)) (
   Option.bind N2 fun r4=>
   cond (r4) (
   cond (decide (r2.2=r3.2)) (
   some true) (
   cond (decide (rows<1)) (
   some true) (
   some (decide (p2<1))))) (
   some false)) (
   cond (!decide (r3.2=0)) (
   Option.bind N2 fun r5=>
   cond (r5) (
   cond (decide (r2.2=r3.2)) (
   some true) (
   cond (decide (rows<1)) (
   some true) (
   some (decide (p2<1))))) (
   some false)) (
   Option.bind (oG 8589934592 r2.1) fun r6=>
   Option.bind N2 fun r7=>
   cond (r7) (
   cond (decide (r2.1=r3.1)) (
   cond (decide (r6.2.2.2.2=0)) (
   some (decide (r6.2.2.2.1=deep))) (
   some false)) (
   some false)) (
   some false))))=some true:=by
 subst hN2
 have key:cond (decide (r2.2=r3.2)) (some true) (cond (decide (rows<1)) (some true) (some (decide (p2<1))))=some true:=by
  rcases h2 with rfl | ⟨h2,_⟩
  ·rw [cT (dT rfl)]
  ·by_cases e:r2.2=r3.2
   ·rw [cT (dT e)]
   ·rw [cF (dF e)]
    rcases h2 with h2 | h2
    ·rw [cT (dT h2)]
    ·by_cases e2:rows<1
     ·rw [cT (dT e2)]
     ·rw [cF (dF e2),dT h2]
 by_cases e2:r2.2=0
 rotate_left
 ·rw [cT (by rw [dF e2];rfl),aC,cT rfl];exact key
 rw [cF (by rw [dT e2];rfl)]
 by_cases e3:r3.2=0
 rotate_left
 ·rw [cT (by rw [dF e3];rfl),aC,cT rfl];exact key
 rw [cF (by rw [dT e3];rfl)];obtain ⟨a,b,Q,hQ⟩:=h1 e2
 have heq:r2=r3:=by
  rcases h2 with h2 | ⟨_,h2 | h2⟩
  ·exact h2
  ·exact absurd e2 h2
  ·exact absurd e3 h2
 subst heq;rw [hQ,aC,aC,cT rfl]
 dsimp only
 rw [cT (dT rfl),cT (dT rfl),dT rfl]
theorem KQ (s:List UInt8) (rows x y cw ch o:Int) (deep:Bool) (p2:Int):oA 8589934592 s rows x y cw ch o deep p2=some true:=by
 unfold oA
 rcases O8 s with h | ⟨W,H,D,K,R,Ls,St,ph,b0,b1,b2,b3,w,sp,g0,g1,g2,m0,m1,m2,m3,m4,m5,m6,m7,m8,cv,am,f,hb,hc,h0,hr⟩
 ·rw [WS h,WS h,aC,aC];exact MA _ Hw rows p2 deep (fun q=>by cases q) (.inl rfl)
 ·obtain ⟨p,hp⟩:∃p,p=BH W H D K R Ls St ph b0 b1 b2 b3 w sp g0 g1 g2 m0 m1 m2 m3 m4 m5 m6 m7 m8 am f:=⟨_,rfl⟩
  rw [S2 hb hc h0 hr hp rows,S2 hb hc h0 hr hp p2,aC,aC];refine MA _ Hw rows p2 deep (fun q=>(KO deep o _ x y cw ch q).2) ?_
  by_cases e:rows<1∨p2<1
  ·refine .inr ⟨e,?_⟩
   rcases e with e | e
   ·exact .inl fun q=>(Je (KO deep o _ x y cw ch q).1).2 e
   ·exact .inr fun q=>(Je (KO deep o _ x y cw ch q).1).2 e
  ·left
   have:∀E q,IX E rows q=IX E p2 q:=fun E q=>by
    unfold IX;rw [if_neg (fun q=>e (.inl q)),if_neg (fun q=>e (.inr q))]
   rw [this]
end
section
open Go.RowKit
section
variable {P:Program} {ops:Array Oper} {Q O:Exit→Act→World→Prop} {S:World→Prop} {pC need:Nat→Bool} {R:Act→World→Prop}
def MB (ops:Array Oper) (rem:List Nat) (i:Nat):Bool:=rem.all fun j=>!waits ops i j
def wU (P:Program) (O:Exit→Act→World→Prop) (ops:Array Oper) (S:World→Prop) (pC need:Nat→Bool) (R:Act→World→Prop):Nat→List Nat→Act→World→Prop
 | 0,rem,a,w=>rem=[]∧R a w
 | n+1,rem,a,w=>
  (∃i∈rem,pC i=true∧MB ops rem i=true∧∃o,ops[i]? = some o∧∃v,uI P ops S o v a∧wU P O ops S pC need R n (rem.erase i) (a.put o.dst v) w) ∨
  ((∀i∈rem,pC i=true→MB ops rem i=false)∧∀c∈rem,pC c=false→MB ops rem c=true→wpOp P ops O c (fun a' w'=>(need c=true→S w')∧wU P O ops S pC need R n (rem.erase c) a' w') a w)
def GN (ops:Array Oper) (pC:Nat→Bool) (i j:Nat):Bool:=
 match ops[i]?,ops[j]? with
 | some oi,some oj=>waits ops i j||((!pC i||oi.apart ops oj)&&(!pC j||oj.apart ops oi))
 | _,_=>false
def Pd (ops:Array Oper) (pC need:Nat→Bool):Bool:=
 Region.noSelect ops&&R4 ops&&((List.range ops.size).all fun i=>(List.range i).all fun j=>GN ops pC i j) &&
 (List.range ops.size).all fun i=>pC i||need i || !J9 ops pC i
def Uu (O:Exit→Act→World→Prop):Prop:=(∀e a d v w,O e (a.put d v) w→O e a w)∧¬LetsOut O
theorem Z6:Uu Dv:=⟨fun _ _ _ _ _ h=>h.elim,fun ⟨_,_,h⟩=>h.elim⟩
theorem Pe (hO:Uu O) {j:Nat} {oi oj:Oper} {v:Value} (hj:ops[j]? = some oj) (hap:oi.apart ops oj=true)
  (hsi:∀cs b,oi.op≠.select cs b) (hsj:∀cs b,oj.op≠.select cs b) {K:Act→World→Prop} {a:Act} {w:World}
  (hy:uI P ops S oi v a) (h:wpOp P ops O j K (a.put oi.dst v) w) :
  wpOp P ops O j (fun a' w'=>uI P ops S oi v a'∧K (a'.put oi.dst v) w') a w:=by
 obtain ⟨h1,h2,h3⟩:=Oper.apart_spec hap
 have keep:∀(a:Act),uI P ops S oi v a→∀u,uI P ops S oi v (a.put oj.dst u):=fun a hy u=>
  hy.same (execOp_put oi hsi a oj.dst u h3) (wanted_put oi a oj.dst u h3)
 have keepD:∀d,uI P ops S oi v { a with defers:=d::a.defers }:=fun d=>hy.same rfl rfl
 unfold wpOp at *;simp only [hj] at *;rw [wanted_put oj a oi.dst v h1] at h
 split
 ·rename_i hw
  simp only [hw,if_true] at h
  rcases h with h | ⟨_,hl⟩
  case inr=>exact absurd hl hO.2
  refine .inl ?_;unfold Oper.wp at *;rw [execOp_put oj hsj a oi.dst v h1] at h
  generalize (execOp a.eval oj).run P w=r at *
  cases r with
  | ok n w'=>
   cases n <;> simp only [Oper.upon] at h ⊢
   case value u=>exact ⟨keep a hy u,by rw [←Act.put_comm a v u h2];exact h⟩
   case skip=>exact ⟨keep a hy _,by rw [←Act.put_comm a v undef h2];exact h⟩
   case defer d=>
    refine ⟨keep _ (keepD d) _,?_⟩;rw [←Act.put_comm _ v undef h2,←Act.put_defers];exact h
   case enter f args=>
    refine Calls.mono h fun e w'' he=>?_
    cases e with
    | returned u=>exact ⟨keep a hy u,by rw [←Act.put_comm a v u h2];exact he⟩
    | panicked c=>exact hO.1 _ _ _ _ _ he
    | outgrown=>exact absurd he hO.2
   case row row args=>exact Rows.mono h fun u w'' he=>⟨keep a hy u,by rw [←Act.put_comm a v u h2];exact he⟩
  | halt x w'=>cases x <;> simp only [Oper.upon] at h ⊢;exact hO.1 _ _ _ _ _ h
 ·rename_i hw
  simp only [hw] at h;exact ⟨keep a hy _,by rw [←Act.put_comm a v undef h2];exact h⟩
theorem Uv (hO:Uu O) (hQ:∀e a w,O e a w→Q e a w) {i:Nat} {K:Act→World→Prop} {a:Act} {w:World} (h:wpOp P ops O i K a w):wpOp P ops Q i K a w:=by
  unfold wpOp at *
  split
  · rename_i h0
    simp only [h0] at h
    exact h
  · rename_i o ho
    simp only [ho] at h
    split
    · rename_i hw
      rw [if_pos hw] at h
      rcases h with h | ⟨_,hl⟩
      case inr=>exact absurd hl hO.2
      refine .inl ?_
      unfold Oper.wp at *
      generalize (execOp a.eval o).run P w=r at *
      cases r with
      | ok n w'=>
        cases n <;> simp only [Oper.upon] at h ⊢ <;> first
          | exact h
          | (refine Calls.mono h fun e w'' he=>?_
             cases e with
             | returned u=>exact he
             | panicked c=>exact hQ _ _ _ he
             | outgrown=>exact absurd he hO.2)
      | halt x w'=>cases x <;> simp only [Oper.upon] at h ⊢;exact hQ _ _ _ h
    · rename_i hw
      rw [if_neg hw] at h
      exact h
theorem Cs {rem:List Nat} {i k:Nat} (h:MB ops rem i=true):MB ops (rem.erase k) i=true:=by
 unfold MB at *;rw [List.all_eq_true] at *;exact fun j hj=>h j (List.mem_of_mem_erase hj)
theorem yF {rem:List Nat} {i j:Nat} (h:MB ops rem i=true) (hj:j∈rem):waits ops i j=false:=by
 unfold MB at h;rw [List.all_eq_true] at h
 simpa using h j hj
theorem S3 {i:Nat} {oi:Oper} (hi:ops[i]? = some oi) (hr:pC i=true) (hsel:∀(j:Nat) (o:Oper) cs b,ops[j]? = some o→o.op≠.select cs b)
  (xZ:∀j k oj ok,j≠k→ops[j]? = some oj→ops[k]? = some ok→waits ops j k=false→waits ops k j=false→(pC j=true→oj.apart ops ok=true)) :
  ∀(n:Nat) (rem:List Nat) (a:Act) (w:World),i∈rem→MB ops rem i=true→wU P O ops S pC need R (n+1) rem a w→∃v,uI P ops S oi v a∧wU P O ops S pC need R n (rem.erase i) (a.put oi.dst v) w:=by
 intro n
 induction n with
 | zero=>
  intro rem a w him hrd h
  rcases h with ⟨i0,hi0,hr0,hd0,o0,ho0,u,hu,h⟩ | ⟨hno,_⟩
  ·obtain ⟨hnil,hR⟩:=h
   have:i0=i:=by
    by_cases e:i0=i
    ·exact e
    ·have:i∈rem.erase i0:=(List.mem_erase_of_ne (fun h=>e h.symm)).2 him;rw [hnil] at this;cases this
   subst this;obtain rfl:o0=oi:=Option.some.inj (ho0.symm.trans hi);exact ⟨u,hu,hnil,hR⟩
  ·rw [hno i him hr] at hrd;cases hrd
 | succ n ih=>
  intro rem a w him hrd h
  rcases h with ⟨i0,hi0,hr0,hd0,o0,ho0,u,hu,h⟩ | ⟨hno,_⟩
  ·by_cases e:i0=i
   ·subst e;obtain rfl:o0=oi:=Option.some.inj (ho0.symm.trans hi);exact ⟨u,hu,h⟩
   ·have aFL:i∈rem.erase i0:=(List.mem_erase_of_ne (fun h=>e h.symm)).2 him;obtain ⟨v,hv,h⟩:=ih _ _ _ aFL (Cs hrd) h;have w1:=yF hrd hi0;have w2:=yF hd0 him;have ap1:=xZ i i0 oi o0 (fun h=>e h.symm) hi ho0 w1 w2 hr;have ap2:=xZ i0 i o0 oi e ho0 hi w2 w1 hr0;obtain ⟨p1,p2,p3⟩:=Oper.apart_spec ap1;obtain ⟨q1,q2,q3⟩:=Oper.apart_spec ap2;have hv':uI P ops S oi v a:=hv.same (execOp_put oi (fun cs b=>hsel i oi cs b hi) a o0.dst u p3).symm (wanted_put oi a o0.dst u p3).symm;refine ⟨v,hv',.inl ⟨i0,(List.mem_erase_of_ne e).2 hi0,hr0,Cs hd0,o0,ho0,u,?_,?_⟩⟩
    ·exact hu.same (execOp_put o0 (fun cs b=>hsel i0 o0 cs b ho0) a oi.dst v q3) (wanted_put o0 a oi.dst v q3)
    ·rw [List.erase_comm,Act.put_comm a v u p2];exact h
  ·rw [hno i him hr] at hrd;cases hrd
theorem Z7 (hO:Uu O) {c:Nat} {oc:Oper} (hc:ops[c]? = some oc) (hrc:pC c=false) (hsel:∀(j:Nat) (o:Oper) cs b,ops[j]? = some o→o.op≠.select cs b)
  (xZ:∀j k oj ok,j≠k→ops[j]? = some oj→ops[k]? = some ok→waits ops j k=false→waits ops k j=false→(pC j=true→oj.apart ops ok=true)) :
  ∀(n:Nat) (rem:List Nat) (a:Act) (w:World),c∈rem→MB ops rem c=true→wU P O ops S pC need R (n+1) rem a w→wpOp P ops O c (fun a' w'=>(need c=true→S w')∧wU P O ops S pC need R n (rem.erase c) a' w') a w:=by
 intro n
 induction n with
 | zero=>
  intro rem a w hcm hrd h
  rcases h with ⟨i0,hi0,hr0,hd0,o0,ho0,u,hu,h⟩ | ⟨_,h⟩
  ·obtain ⟨hnil,hR⟩:=h;have e:i0≠c:=fun e=>by subst e;rw [hrc] at hr0;cases hr0
   have:c∈rem.erase i0:=(List.mem_erase_of_ne (fun h=>e h.symm)).2 hcm;rw [hnil] at this;cases this
  ·exact h c hcm hrc hrd
 | succ n ih=>
  intro rem a w hcm hrd h
  rcases h with ⟨i0,hi0,hr0,hd0,o0,ho0,u,hu,h⟩ | ⟨_,h⟩
  ·have e:i0≠c:=fun e=>by subst e;rw [hrc] at hr0;cases hr0
   have hcm':c∈rem.erase i0:=(List.mem_erase_of_ne (fun h=>e h.symm)).2 hcm;have h2:=ih _ _ _ hcm' (Cs hrd) h;have w1:=yF hrd hi0;have w2:=yF hd0 hcm;have ap:=xZ i0 c o0 oc e ho0 hc w2 w1 hr0;have h3:=Pe hO hc ap (fun cs b=>hsel i0 o0 cs b ho0) (fun cs b=>hsel c oc cs b hc) hu h2;refine wpOp_mono ?_ h3;rintro a' w' ⟨hy,hn,hk⟩;refine ⟨hn,.inl ⟨i0,(List.mem_erase_of_ne e).2 hi0,hr0,Cs hd0,o0,ho0,u,hy,?_⟩⟩;rw [List.erase_comm];exact hk
  ·exact h c hcm hrc hrd
theorem EP {l:List Nat} (hl:l.Nodup) (i:Nat):l.filter (· != i)=l.erase i:=by
 rw [List.Nodup.erase_eq_filter hl]
theorem Pf (hO:Uu O) (hQ:∀e a w,O e a w→Q e a w) (hok:Pd ops pC need=true):∀(fuel:Nat) (listed:Array Bool) (a:Act) (w:World),listed.size=ops.size→Closed ops listed→(jF ops listed).length=fuel →
  (∀r∈jF ops listed,pC r=true→S w)→wU P O ops S pC need (Q .normal) fuel (jF ops listed) a w→wpAny P .any ops Q fuel listed a w:=by
 simp only [Pd,Bool.and_eq_true] at hok;obtain ⟨⟨⟨Oh,hback⟩,Ro⟩,Oi⟩:=hok;have hsel:=Region.noSelect_spec Oh;have hp:∀i<ops.size,∀j<i,GN ops pC i j=true:=fun i hi j hj=>List.all_eq_true.1 (List.all_eq_true.1 Ro i (List.mem_range.2 hi)) j (List.mem_range.2 hj)
 have xZ:∀j k oj ok,j≠k→ops[j]? = some oj→ops[k]? = some ok→waits ops j k=false→waits ops k j=false→(pC j=true→oj.apart ops ok=true):=by
  intro j k oj ok hjk hj hk w1 w2 hr;have hjl:=(Array.getElem?_eq_some_iff.1 hj).1;have hkl:=(Array.getElem?_eq_some_iff.1 hk).1
  rcases Nat.lt_or_gt_of_ne hjk with hlt | hlt
  ·have h:=hp k hkl j hlt;unfold GN at h;simp only [hj,hk,w2,Bool.false_or,Bool.and_eq_true,Bool.or_eq_true,Bool.not_eq_true'] at h
   rcases h.2 with h0 | h0
   ·rw [hr] at h0;cases h0
   ·exact h0
  ·have h:=hp j hjl k hlt;unfold GN at h;simp only [hj,hk,w1,Bool.false_or,Bool.and_eq_true,Bool.or_eq_true,Bool.not_eq_true'] at h
   rcases h.1 with h0 | h0
   ·rw [hr] at h0;cases h0
   ·exact h0
 have hbk:∀i o,ops[i]? = some o→∀e∈o.after,Region.binds .any e=true→e.on<i:=fun i o ho e he hb=>by
  have hi:i<ops.size:=(Array.getElem?_eq_some_iff.1 ho).1;have h:=List.all_eq_true.1 hback i (List.mem_range.2 hi);simp only [ho] at h;have h2:=Array.all_eq_true_iff_forall_mem.1 h e he
  simpa [hb] using h2
 have hnd:∀i<ops.size,pC i=false→∀r<ops.size,pC r=true→waits ops i r=false→need i=true:=fun i hi Ff r hr hrr hw=>by
  have h:=List.all_eq_true.1 Oi i (List.mem_range.2 hi);simp only [Ff,Bool.false_or,Bool.or_eq_true,Bool.not_eq_true'] at h;refine h.resolve_right fun h0=>?_
  have:J9 ops pC i=true:=by
   refine List.any_eq_true.2 ⟨r,List.mem_range.2 hr,?_⟩;have:r≠i:=fun e=>by subst e;rw [Ff] at hrr;cases hrr
   simp [hrr,hw,this]
  rw [this] at h0;cases h0
 intro fuel
 induction fuel with
 | zero=>
  intro listed a w hs hc hlen _ h;have hnil:jF ops listed=[]:=List.eq_nil_of_length_eq_zero hlen;obtain ⟨_,h⟩:=h;refine ⟨?_,h⟩;refine List.eq_nil_iff_forall_not_mem.2 fun i hi=>?_
  obtain ⟨h0,o,ho,_⟩:=mem_ready.1 hi;have:i∈jF ops listed:=lS.2 ⟨(Array.getElem?_eq_some_iff.1 ho).1,h0⟩;rw [hnil] at this;cases this
 | succ fuel ih=>
  intro listed a w hs hc hlen hS h;refine ⟨fun h0=>?_,fun i hi=>?_⟩
  ·exfalso
   match hr:jF ops listed,hlen with
   | i0::rest,_=>
    have hm0:i0∈jF ops listed:=by rw [hr];exact List.mem_cons_self ..
    obtain ⟨hlt,hun⟩:=lS.1 hm0;have Dw:=vI (ops:=ops) listed;rw [hr,List.pairwise_cons] at Dw
    have:i0∈Region.ready .any ops listed:=by
     refine mem_ready.2 ⟨hun,ops[i0],Array.getElem?_eq_getElem hlt,fun e he hb=>?_⟩;have hlt2:=hbk i0 _ (Array.getElem?_eq_getElem hlt) e he hb;cases hl:listed.getD e.on false with
     | true=>rfl
     | false=>
      have hm:e.on∈jF ops listed:=lS.2 ⟨by omega,by rw [Co (by omega)];exact hl⟩;rw [hr] at hm
      rcases List.mem_cons.1 hm with hm | hm
      ·omega
      ·have:=Dw.1 _ hm;omega
    rw [h0] at this;cases this
  ·obtain ⟨hun,oi,hoi,hall⟩:=mem_ready.1 hi;have hilt:i<ops.size:=(Array.getElem?_eq_some_iff.1 hoi).1;have him:i∈jF ops listed:=lS.2 ⟨hilt,hun⟩;have Rq:(jF ops listed).Nodup:=(vI (ops:=ops) listed).imp fun h=>Nat.ne_of_lt h
   have Dx:jF ops (listed.setIfInBounds i true)=(jF ops listed).erase i:=by rw [IF hs hilt,EP Rq]
   have hlen':(jF ops (listed.setIfInBounds i true)).length=fuel:=by
    rw [Dx,List.length_erase_of_mem him];omega
   have hs':(listed.setIfInBounds i true).size=ops.size:=by simpa using hs
   have hc':Closed ops (listed.setIfInBounds i true):=by
    intro k hk j hj
    by_cases hik:i=k
    ·subst hik;exact getD_set_true (uM hi hj)
    ·rw [getD_set_ne false hik] at hk;exact getD_set_true (hc k hk j hj)
   have hrd:MB ops (jF ops listed) i=true:=by
    unfold MB;rw [List.all_eq_true];intro j hj;obtain ⟨h1,h2⟩:=lS.1 hj;cases hw:waits ops i j with
    | false=>rfl
    | true=>
     have:=uM hi hw;rw [←Co (by omega),h2] at this;cases this
   cases Ff:pC i with
   | true=>
    have hSw:S w:=hS i him Ff;obtain ⟨v,hv,hrest⟩:=S3 hoi Ff hsel xZ fuel _ a w him hrd h;refine hv.run hoi hSw (ih _ _ _ hs' hc' hlen' (fun _ _ _=>hSw) (by rw [Dx];exact hrest))
   | false=>
    have h2:=Z7 hO hoi Ff hsel xZ fuel _ a w him hrd h;refine Uv hO hQ (wpOp_mono ?_ h2);rintro a' w' ⟨hn,hk⟩;refine ih _ _ _ hs' hc' hlen' ?_ (by rw [Dx];exact hk);intro r hr hrr;rw [Dx] at hr;have hrm:=List.mem_of_mem_erase hr;exact hn (hnd i hilt Ff r (lS.1 hrm).1 hrr (yF hrd hrm))
theorem NJ (hO:Uu O) (hQ:∀e a w,O e a w→Q e a w) {id:Nat} {a:Act} {w:World} {l:List Oper} (S:World→Prop) (f:List Nat) (n:Nat) (rem:List Nat) (hm:P.follows .mixedOrders=true) (hok:Pd l.toArray (lZ f) (iL f)=true)
  (hl:List.range l.toArray.size=rem) (hn:rem.length=n) (hS:S w.drew) (h:wU P O l.toArray S (lZ f) (iL f) (Q .normal) n rem a w.drew):(Code.region id l.toArray true).wp P Q a w:=by
 refine wp_region_any hm ?_
 have Gw:jF l.toArray (Array.replicate l.toArray.size false)=List.range l.toArray.size:=by
  unfold jF;refine List.filter_eq_self.2 fun i hi=>?_
  have:=List.mem_range.1 hi
  simp at this
  simp [this]
 refine Pf hO hQ hok l.toArray.size (Array.replicate l.toArray.size false) a _ (by simp) ?_ (by rw [Gw];simp) (fun _ _ _=>hS) ?_
 ·intro i hi;rw [vH] at hi;cases hi
 ·rw [Gw,hl];have:l.toArray.size=n:=by rw [←hn,←hl];simp
  rw [this];exact h
theorem jZ {id:Nat} {a:Act} {w:World} {l:List Oper} (S:World→Prop) (f:List Nat) (n:Nat) (rem:List Nat) (hm:P.follows .mixedOrders=true) (hok:Pd l.toArray (lZ f) (iL f)=true)
  (hl:List.range l.toArray.size=rem) (hn:rem.length=n) (hS:S w.drew) (h:wU P Dv l.toArray S (lZ f) (iL f) (Q .normal) n rem a w.drew):(Code.region id l.toArray true).wp P Q a w:=
 NJ Z6 (fun _ _ _ h=>h.elim) S f n rem hm hok hl hn hS h
theorem put_defers (a:Act) (d:Option Nat) (v:Value):(a.put d v).defers=a.defers:=by cases d <;> rfl
variable {D:List Deferred} {a:Act} {w:World} {N:Nat} {l:List (Nat × Value)} {o:Oper} {v:Value} {post:Value→World→Prop} {d i c n:Nat} {rem Du:List Nat} {f:List Nat}
theorem fB (i:Nat) (Du:List Nat) (hc:(rem.elem i&&lZ f i&&MB ops rem i&&rem.erase i==Du)=true) (ho:ops[i]? = some o) (K:Kd D a N l) (hw:Region.wanted o (yielded ops a.tmps)=true) (hd:o.dst=some d) (hN:Nat.blt d N=true) (hr:Rd P S a o v)
  (k:∀a',Kd D a' N ((d,v)::l)→wU P O ops S (lZ f) (iL f) R n Du a' w):wU P O ops S (lZ f) (iL f) R (n+1) rem a w:=by
 simp only [Bool.and_eq_true,beq_iff_eq,List.elem_iff] at hc;obtain ⟨⟨⟨h1,h2⟩,h3⟩,rfl⟩:=hc;refine .inl ⟨i,h1,h2,h3,o,ho,v,.inl ⟨hw,hr⟩,?_⟩;have:=K.put (d:=o.dst) (by rw [hd];exact hN) v;rw [hd] at this ⊢;exact k _ this
theorem aFM (i:Nat) (Du:List Nat) (hc:(rem.elem i&&lZ f i&&MB ops rem i&&rem.erase i==Du)=true) (ho:ops[i]? = some o) (K:Kd D a N l) (hw:Region.wanted o (yielded ops a.tmps)=false) (hd:o.dst=some d) (hN:Nat.blt d N=true)
  (k:∀a',Kd D a' N ((d,undef)::l)→wU P O ops S (lZ f) (iL f) R n Du a' w):wU P O ops S (lZ f) (iL f) R (n+1) rem a w:=by
 simp only [Bool.and_eq_true,beq_iff_eq,List.elem_iff] at hc;obtain ⟨⟨⟨h1,h2⟩,h3⟩,rfl⟩:=hc;refine .inl ⟨i,h1,h2,h3,o,ho,undef,.inr ⟨hw,rfl⟩,?_⟩;have:=K.put (d:=o.dst) (by rw [hd];exact hN) undef;rw [hd] at this ⊢;exact k _ this
def aCI (p:Nat→Prop):List Nat→Prop
 | []=>True
 | c::cs=>p c∧aCI p cs
theorem Pg {p:Nat→Prop}:∀{cs:List Nat},aCI p cs→∀c∈cs,p c
 | [],_,c,h=>by cases h
 | d::cs,h,c,hc=>by
  rcases List.mem_cons.1 hc with rfl | hc
  ·exact h.1
  ·exact Pg h.2 c hc
theorem eI (cs:List Nat) (hc:((rem.all fun i=>!lZ f i || !MB ops rem i)&&(rem.filter fun c=>!lZ f c&&MB ops rem c)==cs)=true)
  (h:aCI (fun c=>wpOp P ops O c (fun a' w'=>(iL f c=true→S w')∧wU P O ops S (lZ f) (iL f) R n (rem.erase c) a' w') a w) cs):wU P O ops S (lZ f) (iL f) R (n+1) rem a w:=by
 simp only [Bool.and_eq_true,beq_iff_eq] at hc;obtain ⟨h1,rfl⟩:=hc;refine .inr ⟨fun i hi hr=>?_,fun c hcm hr hrd=>Pg h c (List.mem_filter.2 ⟨hcm,by simp [hr,hrd]⟩)⟩;have:=List.all_eq_true.1 h1 i hi
 simpa [hr] using this
theorem iR (Du:List Nat) (hc:(rem.erase c==Du)=true) (ho:ops[c]? = some o) (K:Kd D a N l) (hw:Region.wanted o (yielded ops a.tmps)=true) (hd:o.dst=some d) (hN:Nat.blt d N=true) (h:Ac P o a w post)
  (k:∀v a' w',post v w'→Kd D a' N ((d,v)::l)→(iL f c=true→S w')∧wU P O ops S (lZ f) (iL f) R n Du a' w'):wpOp P ops O c (fun a' w'=>(iL f c=true→S w')∧wU P O ops S (lZ f) (iL f) R n (rem.erase c) a' w') a w:=by
 obtain rfl:rem.erase c=Du:=by simpa using hc
 unfold wpOp;simp only [ho,hw,if_true];refine .inl (h _ _ fun v w' hp=>?_);have:=K.put (d:=o.dst) (by rw [hd];exact hN) v;rw [hd] at this ⊢;exact k v _ w' hp this
theorem qW (Du:List Nat) (hc:(rem.erase c==Du)=true) (ho:ops[c]? = some o) (K:Kd D a N l) (hw:Region.wanted o (yielded ops a.tmps)=true) (hd:o.dst=none) (h:Ac P o a w post)
  (k:∀v a' w',post v w'→Kd D a' N l→(iL f c=true→S w')∧wU P O ops S (lZ f) (iL f) R n Du a' w'):wpOp P ops O c (fun a' w'=>(iL f c=true→S w')∧wU P O ops S (lZ f) (iL f) R n (rem.erase c) a' w') a w:=by
 obtain rfl:rem.erase c=Du:=by simpa using hc
 unfold wpOp;simp only [ho,hw,if_true];refine .inl (h _ _ fun v w' hp=>?_);rw [hd];exact k v _ w' hp K
theorem Aw {St Rt:Type} {Rel:St→Act→World→Prop} {kk:St→Option Rt} {jf:(St→Option Rt)→Option Rt} {r:Rt} {p:Code} (h:jf kk=some r) (hk:∀st a w,Rel st a w→kk st=some r→Q .normal a w)
  (hc:∀kk:St→Option Rt,(∀st a w,Rel st a w→kk st=some r→Q .normal a w)→jf kk=some r→p.wp P Q a w):p.wp P Q a w:=hc kk hk h
def Bo (P:Program) (o:Oper) (a:Act) (w:World) (Pn:List PanicEntry→World→Prop):Prop:=
 ∀(K:Act→World→Prop) (Q:Exit→Act→World→Prop),(∀ch w',Pn ch w'→Q (.panic ch) a w')→o.wp P a w K Q
theorem Z8 {Pn:List PanicEntry→World→Prop} {fi:FuncId} {x:Operand} {cap vs:List Value} {args:Array Operand} {ts:Array TypeId} (ho:o.op = .call { callee:=.value x,args:=args,argTypes:=ts }) (hf:iD P fi=true) (K:Kd D a N l) (hx:g7 l x=some (.func (.func fi) #[] cap.toArray)) (hargs:args.toList.map (g7 l)=vs.map some)
  (h:Calls P fi (vs++cap).toArray w fun e w'=>∃ch,e = .panicked ch∧Pn ch w'):Bo P o a w Pn:=by
 have hE:args.map a.eval=vs.toArray:=by
  apply Array.ext'
  simp only [Array.toList_map]
  have:∀(xs:List Operand) (vs:List Value),xs.map (g7 l)=vs.map some→xs.map a.eval=vs:=by
   intro xs
   induction xs with
   | nil=>intro vs h;cases vs <;> simp_all
   | cons x xs ih=>
    intro vs h;cases vs with
    | nil=>simp at h
    | cons v vs=>simp only [List.map_cons,List.cons.injEq] at h ⊢;exact ⟨K.ev h.1,ih vs h.2⟩
  exact this _ _ hargs
 have hrun:(execOp a.eval o).run P w = .ok (.enter fi (vs++cap).toArray) w:=by
  unfold iD at hf
  split at hf
  ·rename_i fn hfn
   simp only [Bool.and_eq_true,bne_iff_ne,ne_eq] at hf;obtain ⟨b,hb⟩:=Option.isSome_iff_exists.1 hf.1;unfold execOp
   simp [ho,resolve,K.ev hx,hE,Deferred.ofValue,invoke,callFunc,hfn,hb,hf.2]
  ·cases hf
 intro K' Q hK;unfold Oper.wp;rw [hrun,Oper.upon_enter];refine h.mono ?_;rintro e w' ⟨ch,rfl,hp⟩;exact hK ch w' hp
theorem sJ {Pn:List PanicEntry→World→Prop} {x:Operand} {T:TypeId} {u:Value} (ho:o.op = .panic x) (K:Kd D a N l) (hx:g7 l x=some (.iface T u)) (h:Pn [{ v:=.iface T u,recovered:=false }] w):Bo P o a w Pn:=by
 intro K2 Q2 hQ;unfold Oper.wp
 have:(execOp a.eval o).run P w = .halt (.panic (.iface T u)) w:=by
  unfold execOp
  simp [ho,K.ev hx,run_panic_iface,Result.andThen]
 rw [this];exact hQ _ _ h
theorem sK {rest:List Oper} {Pn:List PanicEntry→World→Prop} (K:Kd D a N l) (hw:Region.wanted o (yielded ops a.tmps)=true) (h:Bo P o a w Pn) (k:∀ch w',Pn ch w'→Q (.panic ch) a w'):wpList P ops Q (o::rest) a w:=by
 refine wpList_step fun Kc hK=>?_
 rw [if_pos hw];exact h _ _ k
theorem dL {K:Act→World→Prop} {ch:List PanicEntry} (h:Q (.panic ch) a w):Exit.then K Q (.panic ch) a w:=h
theorem jB {id:Nat} {ch:List PanicEntry} (h:Q (.panic ch) a w):Exit.inBlock id Q (.panic ch) a w:=h
theorem j6 {fn:Func} {Rp:Ending→World→Prop} {ch:List PanicEntry} (hd:a.defers=[]) (h:Rp (.panicked ch) w):bodyPost P fn Rp (.panic ch) a w:=⟨hd,h⟩
theorem Bg (h:R a w):wU P O ops S (lZ f) (iL f) R 0 [] a w:=⟨rfl,h⟩
end
section
variable {P:Program} {S:World→Prop} {base:Nat} {W w:World} {L:List kH} {D:List Deferred} {a:Act} {N:Nat} {l:List (Nat × Value)} {o:Oper} {v v':Value} {x y ix:Operand} {k:IntKind} {m n:Int} {t e t':TypeId} {g off:Nat} {cs:List Value} {α:Type} {C:uK α} {xs ys zs:List α} {A B:Option Addr} {c c':Nat}
theorem aDT:(⟨g,off,none⟩:Addr).add 0=⟨g,off,none⟩:=by unfold Addr.add;split <;> simp_all
theorem pE {len s:Nat} (ho:o.op = .slice t x none none none) (ht:P.underlying t=some (.array len e)) (hsz:(P.info? e).map (·.size)=some s) (K:Kd D a N l) (hx:g7 l x=some (.pointer (some ⟨g,off,none⟩))) :
  Rd P S a o (.slice (some ⟨g,off,none⟩) len len):=fun w _=>by
 simp only [Option.map_eq_some_iff] at hsz;obtain ⟨i,qQ,hs⟩:=hsz;unfold execOp
 simp [ho,K.ev hx,Instr.sliceAt,Instr.sliceBounds,Instr.sureAddr,run_underlying ht,sizeOf,typeInfo,qQ,hs,aDT]
theorem IY (hx:(cs.drop off).take (C.all xs).length=C.all xs) (h:g9 w g t cs.toArray):SL w C (some ⟨g,off,none⟩) xs:=fun _=>⟨g,off,rfl,fun j u hu=>by
 rw [h.cell];have hj:j<(C.all xs).length:=(List.getElem?_eq_some_iff.1 hu).1;rw [←hx,List.getElem?_take,if_pos hj,List.getElem?_drop] at hu
 simpa using hu⟩
theorem kC (ho:o.op = .makeInterface t x) (ht:P.concrete t=true) (K:Kd D a N l) (hx:g7 l x=some v):Rd P S a o (.iface t v):=fun w _=>by
 unfold execOp
 simp [ho,K.ev hx,run_makeInterface w t v ht]
theorem GO {b s j len:Nat} (ho:o.op = .indexAddr t x ix) (ht:JS P t e s b=true) (K:Kd D a N l) (hx:g7 l x=some (.slice (some ⟨g,0,none⟩) len c)) (hi:g7 l ix=some (.int k j)) (hj:Nat.blt j len=true):Rd P S a o (.pointer (some ⟨g,j*s,none⟩)):=fun w _=>by
  obtain ⟨hu,i,qQ,hs,_⟩:=lA ht
  have h1:(j:Int)<len:=by have:j<len:=by simpa [Nat.blt_eq] using hj
                          omega
  have hadd:(⟨g,0,none⟩:Addr).add (j*s)=⟨g,j*s,none⟩:=by unfold Addr.add;split <;> simp_all
  unfold execOp
  simp [ho,K.ev hx,K.ev hi,Instr.indexAt,asIntOf,run_underlying hu,sizeOf,typeInfo,qQ,hs,h1,hadd]
  intro hh;omega
theorem SL.Hx {C:uK α} {A:Option Addr} {xs:List α} (h:SL w C A xs) (hA:A.isNone=true):xs=[]:=by
 rcases Nat.eq_zero_or_pos xs.length with h0 | h0
 ·exact List.length_eq_zero_iff.1 h0
 ·obtain ⟨b,o',rfl,_⟩:=h h0;cases hA
theorem yG {n:Nat} (ho:o.op = .binOp .eql t x y t') (ht:∃e,P.underlying t=some (.slice e)) (K:Kd D a N l) (hx:g7 l x=some (.slice A n c)) (hy:g7 l y=some (.slice none 0 0)):Rd P S a o (.bool A.isNone):=fun w hS=>by
 obtain ⟨e,ht⟩:=ht;unfold execOp;simp only [ho,K.ev hx,K.ev hy,Sem.run_bind];have h1:=Lib.run_eql_slice_nil (P:=P) w t e A n c 0 0 ht
 cases A <;> simp [eqGuard,h1]
theorem Ax {f:FuncId} {vs:List Value} {u:Value} {mn:String} {args:Array Operand} {ts:Array TypeId} (ho:o.op = .call { callee:=.invoke x mn,args:=args,argTypes:=ts }) (hf:iD P f=true)
  (hm:∀v w,(method (P.types.size+Made.depth) t v mn).run P w = .ok (f,v) w) (K:Kd D a N l) (hx:g7 l x=some (.iface t u)) (hargs:args.toList.map (g7 l)=vs.map some) {post:Value→World→Prop}
  (h:Calls P f (u::vs).toArray w fun e w'=>∃v,e = .returned v∧post v w'):Ac P o a w post:=by
 have hE:args.map a.eval=vs.toArray:=by
  apply Array.ext'
  simp only [Array.toList_map]
  have:∀(xs:List Operand) (vs:List Value),xs.map (g7 l)=vs.map some→xs.map a.eval=vs:=by
   intro xs
   induction xs with
   | nil=>intro vs h;cases vs <;> simp_all
   | cons x xs ih=>
    intro vs h;cases vs with
    | nil=>simp at h
    | cons v vs=>simp only [List.map_cons,List.cons.injEq] at h ⊢;exact ⟨K.ev h.1,ih vs h.2⟩
  exact this _ _ hargs
 have hrun:(execOp a.eval o).run P w = .ok (.enter f (u::vs).toArray) w:=by
  unfold iD at hf
  split at hf
  ·rename_i fn hfn
   simp only [Bool.and_eq_true,bne_iff_ne,ne_eq] at hf;obtain ⟨b,hb⟩:=Option.isSome_iff_exists.1 hf.1;unfold execOp
   simp [ho,resolve,K.ev hx,hE,invoke,callMethod,hm,callFunc,hfn,hb,hf.2]
  ·cases hf
 intro K' Q hK;unfold Oper.wp;rw [hrun,Oper.upon_enter];refine h.mono ?_;rintro e w' ⟨v,rfl,hp⟩;exact hK v w' hp
theorem Ey {b s:Nat} (ho:o.op = .buildSlice t 0 #[]) (ht:JS P t e s b=true) (hs:s=C.size) (K:Kd D a N l) (M:Mem base W w L) :
  Ac P o a w fun v w'=>∃g,v = .slice (some ⟨g,0,none⟩) ([]:List α).length 0∧Mem base W w' (.row e s (some ⟨g,0,none⟩) ([]:List α).length 0 (C.all ([]:List α))::L):=by
 refine Al (v:=.slice (some ⟨w.heap.size,0,none⟩) 0 0) (w':=w.alloc (.cells #[] e)) ?_ ⟨_,rfl,?_⟩
 ·obtain ⟨hu,i,qQ,hsz,_⟩:=lA ht;unfold execOp
  simp [ho,Instr.buildSlice,Sem.run_bind,run_underlying hu,Result.andThen_ok,sizeOf,typeInfo,run_program,qQ,hsz,Instr.fill,newRow,run_newObj_alloc]
  congr 2
  exact Array.eq_empty_of_size_eq_zero (by simp)
 ·exact (M.new e []).jM 0 rfl C [] rfl rfl hs
theorem Uw {n:Nat} {ds cs':List Value} (ho:o.op = .store t x y) (ht:DH P t n=true) (K:Kd D a N l) (hx:g7 l x=some (.pointer (some ⟨g,off,none⟩))) (hy:g7 l y=some (.agg ds.toArray)) (h1:ds.all (·.oneCell')=true) (i:Nat) (M:Mem base W w L) (hi:L[i]? = some (.blk g t' cs)) (hn:ds.length=n) (hl:Nat.ble (off+ds.length) cs.length=true)
  (hc:cs.take off++(ds++cs.drop (off+ds.length))=cs'):Ac P o a w fun _ w'=>Mem base W w' (L.set i (.blk g t' cs')):=by
 subst hc;obtain ⟨d,_,_,hsz⟩:=Cp ht;simp only [Option.map_eq_some_iff] at hsz;obtain ⟨inf,qQ,hsz⟩:=hsz;have hr:=run_storeCells_at P g off t' ds 0 cs.toArray w (M.aL hi) (by simpa using Nat.le_of_ble_eq_true hl) (by simpa using h1);refine Hc (w':=w.setRow g (cs.take off++(ds++cs.drop (off+ds.length))).toArray) ?_ (M.setRow i hi _);unfold execOp;have hcell:(Value.agg ds.toArray).cells=ds.toArray:=rfl;simp only [Nat.add_zero,List.append_assoc] at hr;subst hn
 simp [ho,K.ev hx,K.ev hy,Instr.storeAt,Instr.sureAddr,storeVar,sizeOf,typeInfo,qQ,hsz,hcell,hr]
theorem Dh {p:Code} {Q:Exit→Act→World→Prop} {w:World} (n:Nat) (h:Code.rounds P p Q n a w):(Code.loop p).wp P Q a w:=wp_loop_rounds n h
theorem iG {p:Code} {Q:Exit→Act→World→Prop} {w:World} {n:Nat} (h:p.wp P (Exit.then (Code.rounds P p Q n) Q) a w):Code.rounds P p Q (n+1) a w:=h
end
abbrev I (n:Int):Value:=.int .i64 n
inductive Stp (P:Program) (ops:Array Oper) (S:World→Prop) (D:List Deferred) (N:Nat) (l:List (Nat × Value)) (o:Oper) (v:Value):Prop where
 | yes (hw:∀a,Kd D a N l→Region.wanted o (yielded ops a.tmps)=true) (hr:∀a,Kd D a N l→Rd P S a o v)
 | no (hw:∀a,Kd D a N l→Region.wanted o (yielded ops a.tmps)=false) (hv:undef=v)
section
variable {P:Program} {base:Nat} {W w:World} {L:List kH} {S:World→Prop} {D:List Deferred} {a:Act} {N:Nat} {l:List (Nat × Value)} {o:Oper} {v:Value} {post:Value→World→Prop}
  {ops:Array Oper} {Q:Exit→Act→World→Prop} {R:Act→World→Prop} {rest:List Oper} {d:Nat} {f:List Nat}
theorem gD (K:Kd D a N l) (M:Mem base W w L) (k:∀a',Kd D a' N ((d,v)::l)→wpList P ops Q rest a' w) (hd:o.dst=some d:=by exact rfl) (hN:Nat.blt d N=true:=by exact rfl)
    (hs:Stp P ops (fun w=>Mem base W w L) D N l o v:=by
      first
      | exact .no (fun a K=>K.no rfl rfl rfl rfl) rfl
      | exact .no (fun a K=>K.nou rfl rfl rfl) rfl
      | exact .yes (by first | exact fun a K=>aA rfl | exact fun a K=>K.yes rfl rfl rfl) (by
         first
         | exact fun a K=>gC rfl K rfl
         | exact fun a K=>yA rfl K rfl
         | exact fun a K=>jG rfl K rfl rfl
         | exact fun a K=>uN rfl K rfl rfl
         | exact fun a K=>qB rfl K rfl
         | exact fun a K=>Cv rfl K rfl rfl
         | exact fun a K=>rd_not rfl K rfl
         | exact fun a K=>j3 rfl K rfl rfl
         | exact fun a K=>jL rfl K rfl rfl
         | exact fun a K=>Fh rfl K rfl rfl
         | exact fun a K=>En rfl K rfl rfl
         | exact fun a K=>Kg rfl K rfl rfl
         | exact fun a K=>Kh rfl K rfl rfl
         | exact fun a K=>II rfl K rfl rfl
         | exact fun a K=>Ke rfl K rfl rfl
         | exact fun a K=>Kf rfl K rfl rfl
         | exact fun a K=>Fk rfl K rfl rfl
         | exact fun a K=>Fj rfl K rfl rfl
         | exact fun a K=>Fi rfl K rfl rfl)):wpList P ops Q (o::rest) a w:=by
  cases hs with
  | yes hw hr=>exact Yw K (hw a K) hd hN (hr a K) M k
  | no hw hv=>subst hv;exact aFp K (hw a K) hd hN k
theorem fL (M:Mem base W w L) (k:∀a',Kd D a' N ((d,v)::l)→wpList P ops Q rest a' w) (hd:o.dst=some d:=by exact rfl) (hN:Nat.blt d N=true:=by exact rfl)
    (hs:Stp P ops (fun w=>Mem base W w L) D N l o v:=by
      first
      | exact .no (fun a K=>K.no rfl rfl rfl rfl) rfl
      | exact .no (fun a K=>K.nou rfl rfl rfl) rfl
      | exact .yes (by first | exact fun a K=>aA rfl | exact fun a K=>K.yes rfl rfl rfl) (by
         first
         | exact fun a K=>gC rfl K rfl
         | exact fun a K=>yA rfl K rfl
         | exact fun a K=>jG rfl K rfl rfl
         | exact fun a K=>uN rfl K rfl rfl
         | exact fun a K=>qB rfl K rfl
         | exact fun a K=>Cv rfl K rfl rfl
         | exact fun a K=>rd_not rfl K rfl
         | exact fun a K=>j3 rfl K rfl rfl
         | exact fun a K=>jL rfl K rfl rfl
         | exact fun a K=>Fh rfl K rfl rfl
         | exact fun a K=>En rfl K rfl rfl
         | exact fun a K=>Kg rfl K rfl rfl
         | exact fun a K=>Kh rfl K rfl rfl
         | exact fun a K=>II rfl K rfl rfl
         | exact fun a K=>Ke rfl K rfl rfl
         | exact fun a K=>Kf rfl K rfl rfl
         | exact fun a K=>Fk rfl K rfl rfl
         | exact fun a K=>Fj rfl K rfl rfl
         | exact fun a K=>Fi rfl K rfl rfl)):∀a,Kd D a N l→wpList P ops Q (o::rest) a w:=fun a K=>gD K M k hd hN hs
theorem aR (hr:∀a,Kd D a N l→Rd P (fun w=>Mem base W w L) a o v) (M:Mem base W w L) (k:∀a',Kd D a' N ((d,v)::l)→wpList P ops Q rest a' w)
  (hw:∀a,Kd D a N l→Region.wanted o (yielded ops a.tmps)=true:=by first | exact fun a K=>aA rfl | exact fun a K=>K.yes rfl rfl rfl) (hd:o.dst=some d:=by exact rfl) (hN:Nat.blt d N=true:=by exact rfl) :
  ∀a,Kd D a N l→wpList P ops Q (o::rest) a w:=fun a K=>Yw K (hw a K) hd hN (hr a K) M k
theorem nR (K:Kd D a N l) (hr:Rd P (fun w=>Mem base W w L) a o v) (M:Mem base W w L) (k:∀a',Kd D a' N ((d,v)::l)→wpList P ops Q rest a' w)
  (hw:∀a,Kd D a N l→Region.wanted o (yielded ops a.tmps)=true:=by first | exact fun a K=>aA rfl | exact fun a K=>K.yes rfl rfl rfl) (hd:o.dst=some d:=by exact rfl) (hN:Nat.blt d N=true:=by exact rfl) :
  wpList P ops Q (o::rest) a w:=Yw K (hw a K) hd hN hr M k
theorem jE (K:Kd D a N l) (h:Ac P o a w post) (k:∀v a' w',post v w'→Kd D a' N ((d,v)::l)→wpList P ops Q rest a' w')
  (hw:∀a,Kd D a N l→Region.wanted o (yielded ops a.tmps)=true:=by first | exact fun a K=>aA rfl | exact fun a K=>K.yes rfl rfl rfl) (hd:o.dst=some d:=by exact rfl) (hN:Nat.blt d N=true:=by exact rfl) :
  wpList P ops Q (o::rest) a w:=aBM K (hw a K) hd hN h k
theorem sO (K:Kd D a N l) (h:Ac P o a w post) (k:∀v a' w',post v w'→Kd D a' N l→wpList P ops Q rest a' w')
  (hw:∀a,Kd D a N l→Region.wanted o (yielded ops a.tmps)=true:=by first | exact fun a K=>aA rfl | exact fun a K=>K.yes rfl rfl rfl) (hd:o.dst=none:=by exact rfl) :
  wpList P ops Q (o::rest) a w:=aBN K (hw a K) hd h k
theorem T_o (K:Kd D a N l) (k:∀a',Kd D a' N ((d,v)::l)→nU P ops S R (marked f rest) a' w) (hd:o.dst=some d:=by exact rfl) (hN:Nat.blt d N=true:=by exact rfl)
    (hs:Stp P ops S D N l o v:=by
      first
      | exact .no (fun a K=>K.no rfl rfl rfl rfl) rfl
      | exact .no (fun a K=>K.nou rfl rfl rfl) rfl
      | exact .yes (by first | exact fun a K=>aA rfl | exact fun a K=>K.yes rfl rfl rfl) (by
         first
         | exact fun a K=>gC rfl K rfl
         | exact fun a K=>yA rfl K rfl
         | exact fun a K=>jG rfl K rfl rfl
         | exact fun a K=>uN rfl K rfl rfl
         | exact fun a K=>qB rfl K rfl
         | exact fun a K=>Cv rfl K rfl rfl
         | exact fun a K=>rd_not rfl K rfl
         | exact fun a K=>j3 rfl K rfl rfl
         | exact fun a K=>jL rfl K rfl rfl
         | exact fun a K=>Fh rfl K rfl rfl
         | exact fun a K=>En rfl K rfl rfl
         | exact fun a K=>Kg rfl K rfl rfl
         | exact fun a K=>Kh rfl K rfl rfl
         | exact fun a K=>II rfl K rfl rfl
         | exact fun a K=>Ke rfl K rfl rfl
         | exact fun a K=>Kf rfl K rfl rfl
         | exact fun a K=>Fk rfl K rfl rfl
         | exact fun a K=>Fj rfl K rfl rfl
         | exact fun a K=>Fi rfl K rfl rfl)):nU P ops S R (marked (0::f) (o::rest)) a w:=by
  cases hs with
  | yes hw hr=>exact aBO K (hw a K) hd hN (hr a K) k
  | no hw hv=>subst hv;exact aFq K (hw a K) hd hN k
theorem MC (k:∀a',Kd D a' N ((d,v)::l)→nU P ops S R (marked f rest) a' w) (hd:o.dst=some d:=by exact rfl) (hN:Nat.blt d N=true:=by exact rfl)
    (hs:Stp P ops S D N l o v:=by
      first
      | exact .no (fun a K=>K.no rfl rfl rfl rfl) rfl
      | exact .no (fun a K=>K.nou rfl rfl rfl) rfl
      | exact .yes (by first | exact fun a K=>aA rfl | exact fun a K=>K.yes rfl rfl rfl) (by
         first
         | exact fun a K=>gC rfl K rfl
         | exact fun a K=>yA rfl K rfl
         | exact fun a K=>jG rfl K rfl rfl
         | exact fun a K=>uN rfl K rfl rfl
         | exact fun a K=>qB rfl K rfl
         | exact fun a K=>Cv rfl K rfl rfl
         | exact fun a K=>rd_not rfl K rfl
         | exact fun a K=>j3 rfl K rfl rfl
         | exact fun a K=>jL rfl K rfl rfl
         | exact fun a K=>Fh rfl K rfl rfl
         | exact fun a K=>En rfl K rfl rfl
         | exact fun a K=>Kg rfl K rfl rfl
         | exact fun a K=>Kh rfl K rfl rfl
         | exact fun a K=>II rfl K rfl rfl
         | exact fun a K=>Ke rfl K rfl rfl
         | exact fun a K=>Kf rfl K rfl rfl
         | exact fun a K=>Fk rfl K rfl rfl
         | exact fun a K=>Fj rfl K rfl rfl
         | exact fun a K=>Fi rfl K rfl rfl)):∀a,Kd D a N l→nU P ops S R (marked (0::f) (o::rest)) a w:=fun a K=>T_o K k hd hN hs
theorem gI (hr:∀a,Kd D a N l→Rd P S a o v) (k:∀a',Kd D a' N ((d,v)::l)→nU P ops S R (marked f rest) a' w)
  (hw:∀a,Kd D a N l→Region.wanted o (yielded ops a.tmps)=true:=by first | exact fun a K=>aA rfl | exact fun a K=>K.yes rfl rfl rfl) (hd:o.dst=some d:=by exact rfl) (hN:Nat.blt d N=true:=by exact rfl) :
  ∀a,Kd D a N l→nU P ops S R (marked (0::f) (o::rest)) a w:=fun a K=>aBO K (hw a K) hd hN (hr a K) k
theorem T_r (K:Kd D a N l) (hr:Rd P S a o v) (k:∀a',Kd D a' N ((d,v)::l)→nU P ops S R (marked f rest) a' w)
  (hw:∀a,Kd D a N l→Region.wanted o (yielded ops a.tmps)=true:=by first | exact fun a K=>aA rfl | exact fun a K=>K.yes rfl rfl rfl) (hd:o.dst=some d:=by exact rfl) (hN:Nat.blt d N=true:=by exact rfl) :
  nU P ops S R (marked (0::f) (o::rest)) a w:=aBO K (hw a K) hd hN hr k
theorem uJ (K:Kd D a N l) (h:Ac P o a w post) (k:∀v a' w',post v w'→Kd D a' N ((d,v)::l)→S w'∧nU P ops S R (marked f rest) a' w')
  (hw:∀a,Kd D a N l→Region.wanted o (yielded ops a.tmps)=true:=by first | exact fun a K=>aA rfl | exact fun a K=>K.yes rfl rfl rfl) (hd:o.dst=some d:=by exact rfl) (hN:Nat.blt d N=true:=by exact rfl) :
  nU P ops S R (marked (1::f) (o::rest)) a w:=aBP K (hw a K) hd hN h k
theorem Ez (K:Kd D a N l) (h:Ac P o a w post) (k:∀v a' w',post v w'→Kd D a' N l→nU P ops S R (marked f rest) a' w')
  (hw:∀a,Kd D a N l→Region.wanted o (yielded ops a.tmps)=true:=by first | exact fun a K=>aA rfl | exact fun a K=>K.yes rfl rfl rfl) (hd:o.dst=none:=by exact rfl) :
  nU P ops S R (marked (2::f) (o::rest)) a w:=aDi K (hw a K) hd h k
end
theorem sY (l:List UInt8):(bs l).size=l.length:=by simp [bs,ByteArray.size]
theorem MD (l:List UInt8):(bs l).toList=l:=ByteArray.toList_mk l
theorem Ux (l m:List UInt8):bs l++bs m=bs (l++m):=by
 apply ByteArray.ext
 simp [bs,ByteArray.data_append]
section
variable {P:Program} {base:Nat} {W w:World} {L:List kH} {S:World→Prop} {D:List Deferred} {a:Act} {N:Nat} {l:List (Nat × Value)} {o:Oper} {x y ix:Operand} {t t' e:TypeId} {m n p q:Int} {k k':IntKind}
  {xs ys zs:List UInt8} {A:Option Addr} {c:Nat} {ns:List Int}
theorem j0 (ho:o.op = .call { callee:=.builtin .len,args:=#[x],argTypes:=#[t] }) (h:P.underlying t=some .string) (K:Kd D a N l) (hx:g7 l x=some (.string (bs xs))):Rd P S a o (.int .i64 xs.length):=by
 have:=Yr (P:=P) (S:=S) ho h K hx;rw [sY] at this;exact this
theorem sL (ho:o.op = .index t x ix) (ht:P.underlying t=some .string) (K:Kd D a N l) (hx:g7 l x=some (.string (bs xs))) (hi:g7 l ix=some (.int k n)) {b:UInt8} (he:idx xs n=some b):Rd P S a o (.int .u8 (b.toNat:Int)):=
 aBL ho ht K hx hi he
theorem sZ (ho:o.op = .binOp .add t x y t') (K:Kd D a N l) (hx:g7 l x=some (.string (bs xs))) (hy:g7 l y=some (.string (bs ys))) (hz:Ds xs ys=some zs):Rd P S a o (.string (bs zs)):=by
 obtain ⟨rfl,h⟩:=TA hz;refine pR ho K hx hy fun w=>?_
 have h1:=sY xs;have h2:=sY ys
 simp [eqGuard,binOp_string_add,Op.stringOp,Ux]
 omega
theorem DB (ho:o.op = .binOp .eql t x y t') (K:Kd D a N l) (hx:g7 l x=some (.string (bs xs))) (hy:g7 l y=some (.string (bs ys))):Rd P S a o (.bool (decide (xs=ys))):=
 pR ho K hx hy fun w=>by
  have e:(xs==ys)=decide (xs=ys):=by rw [Bool.eq_iff_iff];simp
  rw [Sem.run_bind];simp [eqGuard,binOp_string_eql,MD,e]
theorem FY (ho:o.op = .binOp .neq t x y t') (K:Kd D a N l) (hx:g7 l x=some (.string (bs xs))) (hy:g7 l y=some (.string (bs ys))):Rd P S a o (.bool (!decide (xs=ys))):=
 pR ho K hx hy fun w=>by
  have e:(xs==ys)=decide (xs=ys):=by rw [Bool.eq_iff_iff];simp
  rw [Sem.run_bind];simp [eqGuard,binOp_string_neq,MD,e]
theorem Eb {b:Nat} (ho:o.op = .convert t t' x) (ht:JS P t e 1 b=true) (he:P.underlying e=some (.int .u8)) (hd:P.underlying t'=some .string) (K:Kd D a N l) (hx:g7 l x=some (.slice A ns.length c)) (hb:∀w,S w→SL w (cI .u8) A ns):Rd P S a o (.string (bs (toB ns))):=fun w hS=>by
 obtain ⟨hu,_⟩:=lA ht;unfold execOp;simp only [ho,K.ev hx]
 have key:(convert t t' (.slice A ns.length c)).run P w = .ok (.string (bs (toB ns))) w:=by
  by_cases h0:0<ns.length
  ·obtain ⟨b,off,rfl,hc⟩:=hb w hS h0;refine run_convert_bytes_arg w t e hu he b off ns.length c ns rfl (fun i hi=>?_) t' hd;refine hc i _ ?_;have:=uK.yR (cI .u8) ns i 0 ns[i] (.int .u8 ns[i]) (List.getElem?_eq_getElem hi) rfl;rw [List.getD_eq_getElem?_getD,List.getElem?_eq_getElem hi];have h1:(cI .u8).size=1:=rfl;rw [h1,Nat.mul_one,Nat.add_zero] at this;exact this
  ·have hn:ns=[]:=List.eq_nil_of_length_eq_zero (by omega);subst hn;cases A with
   | none=>exact run_convert_bytes_nil w t e hu he _ _ t' hd
   | some ad=>
    rw [run_convert_bytes_string w t t' e (some ad) _ c hu he hd];exact run_bytesToString w ad 0 c [] (run_loadCells_list (P:=P) w ad [] (fun j v hj=>by simp at hj))
 simp [key]
theorem iY {lo hi:Option Operand} (ho:o.op = .slice t x lo hi none) (ht:P.underlying t=some .string) (K:Kd D a N l) (hx:g7 l x=some (.string (bs xs)))
  (hlo:(match lo with | some z=>g7 l z=some (.int k p) | none=>p=0)) (hhi:(match hi with | some z=>g7 l z=some (.int k' q) | none=>q=xs.length)) (hy:DZ xs p q=some ys):Rd P S a o (.string (bs ys)):=fun w _=>by
 obtain ⟨h0,h1,h2,rfl⟩:=G7 hy;have hs:((bs xs).size:Int)=xs.length:=by rw [sY]
 have hex:(bs xs).extract p.toNat q.toNat=bs ((xs.take q.toNat).drop p.toNat):=by
  rw [show bs xs=ByteArray.mk xs.toArray from rfl,ByteArray.extract_mk,List.drop_take];rfl
 have hS:∀a b c,(Instr.sliceAt t (.string (bs xs)) a b c).run P w=(Instr.slice t (.string (bs xs)) a b c).run P w:=fun a b c=>by rw [run_sliceAt_string w t _ a b c ht]
 unfold execOp;cases lo with
 | none=>
  simp only at hlo;subst hlo;cases hi with
  | none=>
   simp only at hhi;subst hhi;have:=run_slice_string_all (P:=P) w t (bs xs) ht;rw [sY] at this;rw [Int.toNat_zero,Int.toNat_natCast] at hex;rw [hex] at this;simp only [ho,K.ev hx,Sem.run_bind,Option.map,hS,this]
   simp
  | some z=>
   simp only at hhi;have:=run_slice_string_to_if (P:=P) w t (bs xs) k' q ht;rw [if_pos ⟨by omega,by omega⟩] at this;rw [Int.toNat_zero] at hex;rw [hex] at this;simp only [ho,K.ev hx,K.ev hhi,Sem.run_bind,Option.map,hS,this]
   simp
 | some z=>
  simp only at hlo;cases hi with
  | none=>
   simp only at hhi;subst hhi;have:=run_slice_string_from_if (P:=P) w t (bs xs) k p ht;rw [if_pos ⟨by omega,by omega⟩,sY] at this;rw [Int.toNat_natCast] at hex;rw [hex] at this;simp only [ho,K.ev hx,K.ev hlo,Sem.run_bind,Option.map,hS,this]
   simp
  | some z2=>
   simp only at hhi;have:=run_slice_string (P:=P) w t (bs xs) k k' p q ht h0 h1 (by omega);rw [hex] at this;simp only [ho,K.ev hx,K.ev hlo,K.ev hhi,Sem.run_bind,Option.map,hS,this]
   simp
theorem IZ (s:List UInt8):Lib.strCells (bs s)=(cI .u8).all (oV s):=by
 show s.map (fun b=>Value.int .u8 b.toNat)=_
 induction s with
 | nil=>rfl
 | cons x s ih=>
  show _=(cI .u8).enc (x.toNat:Int)++(cI .u8).all (oV s);rw [List.map_cons,ih];rfl
theorem zH (s:List UInt8):(oV s).length=s.length:=by simp [oV]
theorem Uy {i:TypeInfo} {v v':Value} {n:Nat} {vs:List Value} {w':World} (s:ByteArray) (ht:P.underlying t=some (.slice e)) (hu:P.underlying t'=some .string) (hi:P.info? e=some i) (hz:i.zero=some (.int .u8 0)) (hsize:i.size=1) (hby:i.bytes=1)
  (hown:w.ownsRow 0 e 1 v n vs) (hb:n+s.size≤140737488355328) (ty:TypeId) (hr:(Builtin.append_ #[t,t'] ty #[v,.string s]).run P w = .ok v' w') (h0:v≠.slice none 0 0∨0<s.size):v'.ownBlock=v.ownBlock∨v'.ownBlock=some w.heap.size:=by
 have hxl:vs.length=n:=by simpa using hown.1
 rcases hown.2 with ⟨rfl,rfl⟩ | ⟨g,cap,cur,rfl,hbg,hg,hnc,hcm,hcs,htake⟩
 ·have hm:0<s.size:=by
   rcases h0 with h0 | h0
   ·exact absurd rfl h0
   ·exact h0
  have:=run_append_nil_string (P:=P) w t t' ty e i (.int .u8 0) ht hu hi hz s (by omega) (by omega) (by rw [hby];omega);rw [hr] at this
  injection this with h1 _
  right;rw [h1];rfl
 ·by_cases hroom:n+s.size≤cap
  ·have:=Lib.run_append_room_string (P:=P) w t t' ty e i ht hu hi hsize g n cap cur hg s hroom (by omega);rw [hr] at this
   injection this with h1 _
   left;rw [h1];rfl
  ·have holds:∀j u,vs[j]? = some u→w.cell? ((⟨g,0,none⟩:Addr).add j)=some u:=hown.cells (g:=g) rfl;have:=Lib.run_append_grow_string (P:=P) w t t' ty e i (.int .u8 0) ht hu hi hz ⟨g,0,none⟩ n cap vs (by rw [hsize];simpa using hxl) holds s (by omega) (by omega) (by rw [hby];exact growslice_fits (by omega) (by omega));rw [hr] at this
   injection this with h1 _
   right;rw [h1];rfl
theorem S4 {zs:List Int} (ho:o.op = .call { callee:=.builtin .append,args:=#[x,y],argTypes:=#[t,t'] }) (ht:JS P t e 1 1=true) (hu:P.underlying t'=some .string) (hz:(P.info? e).bind (·.zero)=some (.int .u8 0)) (K:Kd D a N l)
  (hx:g7 l x=some (.slice A ns.length c)) (hy:g7 l y=some (.string (bs ys))) (i:Nat) (M:Mem base W w L) (hi:L[i]? = some (.row e 1 A ns.length c ((cI .u8).all ns))) (hlen:app 1 ns (oV ys)=some zs) :
  Ac P o a w fun v w'=>∃A' c'',v = .slice A' zs.length c''∧Mem base W w' (L.set i (.row e 1 A' zs.length c'' ((cI .u8).all zs))):=by
 obtain ⟨rfl,hbytes⟩:=Oj hlen;rw [zH] at hbytes;obtain ⟨hsl,inf,qQ,hsz,hby⟩:=lA ht;have hzz:inf.zero=some (.int .u8 0):=by rw [qQ] at hz;exact hz
 have hown:=M.has i _ hi;have hsize:(bs ys).size=ys.length:=sY ys;have hb2:ns.length+(bs ys).size≤140737488355328:=by rw [hsize];omega
 obtain ⟨v',w',hr,h2,h3,h4⟩:=Lib.run_append_own_string (P:=P) w 0 t t' o.type e inf hsl hu qQ hzz hsz hby (.slice A ns.length c) ns.length ((cI .u8).all ns) hown (bs ys) (by simp only [maxLen];omega) hb2 (Nat.zero_le _);rw [IZ,hsize,←uK.all_append] at h2
 by_cases h0:(Value.slice A ns.length c) = .slice none 0 0∧ys=[]
 ·obtain ⟨h00,rfl⟩:=h0
  injection h00 with e1 e2 e3
  subst e1 e3;have hns:ns=[]:=List.eq_nil_of_length_eq_zero e2;subst hns
  have hr2:(Builtin.append_ #[t,t'] o.type #[.slice none ([]:List Int).length 0,.string (bs [])]).run P w = .ok (.slice none 0 0) w:=by
   have hf:=Lib.run_firstCells_string (P:=P) w 1 (bs []);have hm:(bs []).size=0:=rfl;rw [hm] at hf
   simp [Builtin.append_,run_underlying hsl,run_underlying hu,sizeOf,typeInfo,qQ,hsz,Builtin.lenOf,hm,hf]
  refine Al (v:=.slice none 0 0) (w':=w) ?_ ⟨none,0,rfl,?_⟩
  ·unfold execOp;simp only [ho,resolve,invoke,builtin,Sem.run_bind,Sem.run_pure,Result.andThen_ok,List.map_toArray,List.map_cons,List.map_nil,K.ev hx,K.ev hy];rw [hr2];rfl
  ·have:L.set i (.row e 1 none (([]:List Int)++oV []).length 0 ((cI .u8).all ([]++oV [])))=L:=by
    obtain ⟨hlt,he⟩:=List.getElem?_eq_some_iff.1 hi;exact he ▸ List.set_getElem_self hlt
   rw [this];exact M
 have hne:(Value.slice A ns.length c)≠.slice none 0 0∨0<(bs ys).size:=by
  by_cases hy0:ys=[]
  ·left;exact fun e=>h0 ⟨e,hy0⟩
  ·right;rw [hsize];exact List.length_pos_iff.2 hy0
 have hpl:=Uy (bs ys) hsl hu qQ hzz hsz hby hown hb2 o.type hr hne
 have hv':v'≠.slice none 0 0:=fun e=>by
  obtain ⟨q1,q2⟩:=h4.1 e;rw [hsize] at q2;exact h0 ⟨q1,List.eq_nil_of_length_eq_zero q2⟩
 rcases h2.2 with ⟨e1,_⟩ | ⟨g,cap,cur,rfl,_⟩
 ·exact absurd e1 hv'
 refine Al (v:=.slice (some ⟨g,0,none⟩) (ns.length+ys.length) cap) (w':=w') ?_ ⟨some ⟨g,0,none⟩,cap,by rw [List.length_append,zH],?_⟩
 ·unfold execOp;simp only [ho,resolve,invoke,builtin,Sem.run_bind,Sem.run_pure,Result.andThen_ok,List.map_toArray,List.map_cons,List.map_nil,K.ev hx,K.ev hy];rw [hr];rfl
 ·have h3':w.grownBy w' (A.map (·.block)):=by
   cases A with
   | none=>exact h3
   | some ad=>exact h3
  rw [List.length_append,zH];refine M.grown i hi h3' h2 ?_
  rcases hpl with hpl | hpl
  ·left
   cases A with
   | none=>simp [Value.ownBlock] at hpl
   | some ad=>simpa [Value.ownBlock] using hpl.symm
  ·right
   simp [Value.ownBlock] at hpl
   omega
end
end
section
open Go.RowKit Go.WideMaps
section
variable {P:Program} {base:Nat} {W w:World} {L:List kH} {S:World→Prop} {D:List Deferred} {a:Act} {N:Nat} {l:List (Nat × Value)} {o:Oper} {x y z:Operand} {t k e T:TypeId} {g n c:Nat} {A:Option Addr}
  {m m':List (List UInt8 × Int)} {s:List UInt8} {r:Int × Bool} {v:Int}
theorem Mem.swap {e e':kH} (M:Mem base W w L) (i:Nat) (hi:L[i]? = some e) (h:kH.holds w e') (hf:e'.foot=e.foot):Mem base W w (L.set i e'):=
 M.Vc i hi (Below.refl _ _) h (fun _ _ _=>rfl) (fun g hg=>.inl (hf ▸ hg)) M.P5
theorem Mem.WU (e:TypeId) (M:Mem base W w (.blk g T [.pointer none,.slice none 0 0]::L)):Mem base W w (.row e 1 none ([]:List UInt8).length 0 ((cI .u8).all (oV ([]:List UInt8))) :: .DG g T none ([]:List UInt8).length 0::L):=
 Mem.aF e 1 (cI .u8) (M.swap 0 rfl (show kH.holds w (.DG g T none 0 0) from ⟨none,.inl rfl,M.has 0 _ rfl⟩) rfl)
theorem Mem.aAD (M:Mem base W w L) (i:Nat) (hi:L[i]? = some (.blk g T [.pointer (some ⟨g,0,none⟩),.slice A n c])):Mem base W w (L.set i (.DG g T A n c)):=
 M.swap i hi (show kH.holds w (.DG g T A n c) from ⟨_,.inr rfl,M.has i _ hi⟩) rfl
theorem Mem.builder {b:List UInt8} (M:Mem base W w (.DG g T A b.length c :: .row e 1 A b.length c ((cI .u8).all (oV b))::L)):Lib.IsBuilder T e base g (Lib.byteCells b) w:=by
 obtain ⟨p,hp,hb⟩:=M.has 0 _ rfl;have hrow:w.ownsRow 0 e 1 (.slice A b.length c) b.length ((cI .u8).all (oV b)):=M.has 1 _ rfl;rw [←IZ] at hrow;have hup:=M.up 0 _ g rfl rfl
 have hat:Lib.BuilderAt T e base g (.pointer p) (Lib.byteCells b) w:=by
  refine ⟨hup,.slice A b.length c,hb,?_,?_⟩
  ·rw [Lib.byteCells_length];obtain ⟨h1,h2⟩:=hrow;refine ⟨h1,?_⟩
   rcases h2 with h2 | ⟨g',cap,cur,q1,q2,q3⟩
   ·exact .inl h2
   ·refine .inr ⟨g',cap,cur,q1,?_,q3⟩
    injection q1 with q1 _ _
    exact M.up 1 _ g' rfl (by simp [kH.foot,q1])
  ·intro h;cases A with
   | none=>simp [Value.ownBlock] at h
   | some ad=>
    have h':ad.block=g:=by simpa [Value.ownBlock] using h
    have:=M.one 0 1 _ _ g rfl rfl rfl (by simp [kH.foot,h'])
    omega
 rcases hp with rfl | rfl
 ·exact .inl hat
 ·exact .inr hat
theorem fO {α:Type} {C:uK α} {xs:List α} {el:α} {b s':Nat} {i:Int} {kk:IntKind} {w':World} (ho:o.op = .indexAddr t x y) (ht:JS P t e s' b=true) (K:Kd D a N l) (hx:g7 l x=some (.slice A xs.length c)) (hi:g7 l y=some (.int kk i)) (hb:SL w' C A xs) (he:idx xs i=some el):Rd P S a o (.pointer (some ((UM A).add (i.toNat*s')))):=fun w hS=>by
 obtain ⟨hu,inf,qQ,hs,_⟩:=lA ht;obtain ⟨h0,hlt,hel⟩:=wF he;obtain ⟨b',o',hA,hc⟩:=hb (by omega);have h1:i<xs.length:=by omega
 unfold execOp;subst hA
 simp [ho,K.ev hx,K.ev hi,Instr.indexAt,asIntOf,run_underlying hu,sizeOf,typeInfo,qQ,hs,h0,h1,UM]
theorem EQ {O:Exit→Act→World→Prop} {ops:Array Oper} {f:List Nat} {d cc n':Nat} {u:Value} {R:Act→World→Prop} {rem:List Nat} (Du:List Nat) (hc:(rem.erase cc==Du)=true) (ho:ops[cc]? = some o) (K:Kd D a N l) (hw:Region.wanted o (yielded ops a.tmps)=true) (hd:o.dst=some d) (hN:Nat.blt d N=true)
  (hr:Rd P (fun w=>Mem base W w L) a o u) (M:Mem base W w L) (k:∀a',Kd D a' N ((d,u)::l)→(iL f cc=true→S w)∧wU P O ops S (lZ f) (iL f) R n' Du a' w) :
  wpOp P ops O cc (fun a' w'=>(iL f cc=true→S w')∧wU P O ops S (lZ f) (iL f) R n' (rem.erase cc) a' w') a w:=
 iR Du hc ho K hw hd hN (post:=fun v' w'=>v'=u∧w'=w) (Al (hr w M) ⟨rfl,rfl⟩) fun v' a' w' hp K'=>by obtain ⟨rfl,rfl⟩:=hp;exact k a' K'
theorem aDU {Q:Exit→Act→World→Prop} {St Rt:Type} {Rel:St→Act→World→Prop} {kk:St→Option Rt} {lf:(St→Option Rt)→Nat→St→Option Rt} {r:Rt} {p:Code} {n:Nat} {st:St}
  (h:lf kk n st=some r) (hz:∀kk st,lf kk 0 st=none) (h0:Rel st a w) (hk:∀st a w,Rel st a w→kk st=some r→Q .ret a w)
  (round:∀(kk:St→Option Rt) n st a w,(∀st a w,Rel st a w→kk st=some r→Q .ret a w)→Rel st a w→lf kk (n+1) st=some r→p.wp P (Exit.then (fun a w=>∃st,Rel st a w∧lf kk n st=some r) Q) a w):(Code.loop p).wp P Q a w:=by
 refine Vg (I:=fun n a w=>∃st,Rel st a w∧lf kk n st=some r) n ⟨st,h0,h⟩ (fun a w ⟨st,_,h⟩=>by rw [hz] at h;cases h) ?_;rintro n a w ⟨st,hr,h⟩;exact round kk n st a w hk hr h
theorem inS (i:Nat) (h:L[i]? = some (.Ol P k e g m)):∀w,Mem base W w L→SMap P k e w g m:=fun _ M=>M.has i _ h
theorem SMap.new (w:World):SMap P k e (w.alloc (.map #[] 0)) w.heap.size []:=⟨.map [],World.ownsMap_made w P k _,fun s=>⟨rfl,fun z=>rfl⟩⟩
theorem Rr (ho:o.op = .makeMap t none) (k e:TypeId) (M:Mem base W w L):Ac P o a w fun v w'=>∃g,v = .map (some g)∧Mem base W w' (.Ol P k e g []::L):=by
 refine Al (v:=.map (some w.heap.size)) (w':=w.alloc (.map #[] 0)) ?_ ⟨_,rfl,?_⟩
 ·unfold execOp
  simp [ho,run_makeMap_plain]
 ·refine (M.below ((Below.refl _ _).alloc (Nat.le_refl _) _)).cons (show kH.holds _ (.Ol P k e w.heap.size []) from SMap.new w) fun g hg=>?_
  simp [kH.foot] at hg
  subst hg;exact ⟨M.sz,fun i e' h he=>by have:=M.G9 i e' _ h he;omega⟩
theorem S5 (ho:o.op = .lookup t x y true) (ht:P.underlying t=some (.map k e)) (hk:P.underlying k=some .string) (he:P.underlying e=some (.int .i64)) (hz:(P.info? e).bind (·.zero)=some (.int .i64 0)) (K:Kd D a N l)
  (hx:g7 l x=some (.map (some g))) (hy:g7 l y=some (.string (bs s))) (hM:∀w,S w→SMap P k e w g m) (hl:Ka m s=some r):Rd P S a o (.tuple #[.int .i64 r.1,.bool r.2]):=fun w hS=>by
 obtain ⟨rfl,hs⟩:=Qn hl;obtain ⟨D,hown,hD⟩:=hM w hS
 have hz:∀w,(zeroValue e).run P w = .ok (.int .i64 0) w:=fun w=>by
  simp only [Option.bind_eq_some_iff] at hz;obtain ⟨inf,qQ,hz0⟩:=hz
  simp [zeroValue,typeInfo,qQ,hz0]
 have hkey:keyOf P k (.string (bs s))=some (.string s):=keyOf_string_mk hk (by rw [sY];unfold maxLen;omega);obtain ⟨v,ps,hrun,hv⟩:=hown.look_ok (Maps.string_keyed hk) ht (hz w) (plainElem_int he (by decide)) hkey;obtain ⟨c,rfl,hc,_⟩:=plainElem_int_inv he hv;obtain ⟨h1,h2⟩:=hD s;simp only [Prod.mk.injEq] at hc
 have hcc:c=(rC m s).getD 0:=by
  have h3:=h2 (.lit (.int .i64 0));rw [hc.1] at h3;cases hm:rC m s with
  | none=>rw [hm] at h3;simp at h3;simp [h3]
  | some q=>rw [hm] at h3;simp at h3;simp [h3]
 subst hcc;rw [h1] at hrun;unfold execOp
 simp [ho,K.ev hx,K.ev hy,hrun]
theorem ME (ho:o.op = .mapUpdate t x y z) (ht:P.underlying t=some (.map k e)) (hk:P.underlying k=some .string) (he:P.underlying e=some (.int .i64)) (K:Kd D a N l)
  (hx:g7 l x=some (.map (some g))) (hy:g7 l y=some (.string (bs s))) (hv:g7 l z=some (.int .i64 v)) (i:Nat) (M:Mem W.heap.size W w L) (hi:L[i]? = some (.Ol P k e g m)) (hp:Qm m s v=some m') :
  Ac P o a w fun _ w'=>Mem W.heap.size W w' (L.set i (.Ol P k e g m')):=by
 obtain ⟨rfl,h1,h2,h3,h4⟩:=Tv hp;obtain ⟨D,hown,hD⟩:=M.has i _ hi;have hkey:keyOf P k (.string (bs s))=some (.string s):=keyOf_string_mk hk (by rw [sY];unfold maxLen;omega);obtain ⟨w',hrun,hown',hg⟩:=hown.update (Maps.string_keyed hk) ht (by unfold maxLen;omega) hkey (plainElem_int he (WalkArith.wf_i64 ⟨h3,h4⟩));refine Hc (w':=w') ?_ (M.aDg rfl i hi ((Below.refl _ w).grown hg M.sz fun k hk=>M.up i _ k hi (by cases hk;rfl)) (show kH.holds w' (.Ol P k e g ((s,v)::m)) from ⟨_,hown',fun s'=>?_⟩) (fun j hj hne=>hg.block j hj fun h=>hne (by cases h;rfl)) (fun g' hg'=>.inl hg'))
 ·unfold execOp
  simp [ho,K.ev hx,K.ev hy,K.ev hv,hrun]
 ·have hkl:WideAt.IsKeyLit (.string s):=trivial
  by_cases hs:s=s'
  ·subst hs;refine ⟨?_,fun z=>?_⟩
   ·rw [Maps.has_put_same hown.isMap hkl];simp [rC]
   ·rw [Maps.atKey_put_same hown.isMap hkl];simp [rC]
  ·have hne:(Lit.string s':Lit)≠.string s:=fun h=>hs (by injection h with h;exact h.symm)
   obtain ⟨q1,q2⟩:=hD s';refine ⟨?_,fun z=>?_⟩
   ·rw [Maps.has_put_other hne,q1];simp [rC,hs]
   ·rw [Maps.atKey_put_other hne,q2];simp [rC,hs]
end
end
section
open Go.RowKit
section
variable {P:Program} {base:Nat} {W w:World} {L H T:List kH} {e:kH}
theorem Mem.tl (M:Mem base W w (e::L)):Mem base W w L:=
 ⟨M.low,M.P5,M.bs,fun i e' h=>M.has (i+1) e' h,fun i e' g h hf=>M.up (i+1) e' g h hf,fun i j e1 e2 g h1 h2 f1 f2=>by
  have:=M.one (i+1) (j+1) e1 e2 g h1 h2 f1 f2
  omega⟩
theorem Mem.p9 (n:Nat) (hn:H.length=n) (M:Mem base W w (H++T)) (is:List Nat) (h:is.Nodup) (hl:∀i∈is,i<n):Mem base W w (Kb H is++T):=by
 have h2:(is++(List.range T.length).map (n + ·)).Nodup:=by
  rw [List.nodup_append];refine ⟨h,?_,?_⟩
  ·exact List.Pairwise.map _ (fun a b (hab:a≠b)=>show n+a≠n+b by omega) List.nodup_range
  ·intro a ha b hb;obtain ⟨j,_,rfl⟩:=List.mem_map.1 hb;have:=hl a ha
   omega
 have:=M.pick _ h2
 have e:Kb (H++T) (is++(List.range T.length).map (n + ·))=Kb H is++T:=by
  unfold Kb;rw [List.map_append]
  congr 1
  ·refine List.map_congr_left fun i hi=>?_
   have:=hl i hi;rw [List.getD_eq_getElem?_getD,List.getD_eq_getElem?_getD,List.getElem?_append_left (by omega)]
  ·rw [List.map_map];refine List.ext_getElem? fun i=>?_
   rw [List.getElem?_map]
   by_cases hi:i<T.length
   ·rw [List.getElem?_range hi]
    simp [←hn,List.getElem?_append_right,List.getElem?_eq_getElem hi]
   ·rw [List.getElem?_eq_none (by simp;omega),List.getElem?_eq_none (by omega)];rfl
 rwa [e] at this
theorem inF {α:Type} {C:uK α} {xs:List α} {g:Nat} (i:Nat) (h:L[i]? = some (.P4 g (C.all xs))):∀w,Mem base W w L→SL w C (some ⟨g,0,none⟩) xs:=fun w M _=>by
 obtain ⟨arr,t,q,hh,hp⟩:=M.has i _ h;refine ⟨g,0,rfl,fun j u hu=>?_⟩;rw [Nat.zero_add,cell_of_row w g j arr t q hh];exact hp j u hu
variable {S:World→Prop} {D:List Deferred} {a:Act} {N:Nat} {l:List (Nat × Value)} {o:Oper} {x y z:Operand} {t t' et:TypeId} {s:List UInt8}
theorem MF {b:Nat} (ho:o.op = .convert t t' x) (hs:P.underlying t=some .string) (ht:JS P t' et 1 b=true) (he:P.underlying et=some (.int .u8)) (K:Kd D a N l) (hx:g7 l x=some (.string (bs s))) (M:Mem base W w L) :
  Ac P o a w fun v w'=>∃g c,v = .slice (some ⟨g,0,none⟩) (oV s).length c∧(oV s).length≤c∧Mem base W w' (.P4 g ((cI .u8).all (oV s))::L):=by
 obtain ⟨hu,_⟩:=lA ht;have hr:=run_bytes_of_string (P:=P) w t t' et (bs s) hs hu he;have hsz:(bs s).size=(oV s).length:=by rw [zH];exact sY s
 have hcap:(oV s).length≤grownCap w (bs s).size 0 et:=by
  rw [←hsz];exact grownCap_ge _ _ _ _
 have hrun:(execOp a.eval o).run P w = .ok (.value (.slice (some ⟨w.heap.size,0,none⟩) (oV s).length (grownCap w (bs s).size 0 et))) (w.drew.alloc (.cells (bytesRow (bs s) (grownCap w (bs s).size 0 et)) et ((bytesRow (bs s) (grownCap w (bs s).size 0 et)).size,(bytesRow (bs s) (grownCap w (bs s).size 0 et)).size+1))):=by
  unfold execOp;simp only [ho,K.ev hx,Sem.run_bind,hr,←hsz];rfl
 refine Al hrun ⟨w.heap.size,grownCap w (bs s).size 0 et,rfl,hcap,?_⟩
 ·refine ((M.drew).below ((Below.refl _ _).alloc (Nat.le_refl _) _)).cons ?_ fun g hg=>?_
  ·refine ⟨_,_,_,heap_alloc_new w.drew _,fun j u hu=>?_⟩;rw [←IZ] at hu;have hl:(Lib.strCells (bs s)).length=(bs s).size:=by unfold Lib.strCells;simp [bs,ByteArray.size]
   unfold bytesRow;have hj:=(List.getElem?_eq_some_iff.1 hu).1;rw [hl] at hj;rw [Array.getElem?_append_left (by rw [Array.size_map];exact hj)]
   have:Lib.strCells (bs s)=((bs s).data.map (fun b=>Value.int .u8 b.toNat)).toList:=by
    show s.map _=_
    simp [bs]
   rw [this] at hu
   simpa using hu
  ·simp [kH.foot] at hg
   subst hg;exact ⟨M.sz,fun i e' h he=>by have:=M.G9 i e' _ h he;omega⟩
end
end
end Go.Proofs.YtpmnfhifmmfglabGreatDoor
