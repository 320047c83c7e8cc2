/- Texts of the claim RestPictures, joined and made small by a program. -/
import Derived.ChangeKeysEq
import Derived.Laws.BytesArg
import Derived.Laws.CopyRow
import Derived.Laws.IdiomCopy
import Derived.Laws.IdiomStrings
import Derived.Laws.Strings2
import Derived.Laws.Strings3
import Derived.Lib.AppendStr
import Derived.Lib.SliceRun
import Derived.LoopN
import Derived.Maps.OwnSet
import Derived.Recover
import Derived.Scope
import Derived.Stop.IfaceNil
import Derived.WalkSpells
import Derived.WideMake
import Derived.Test.YtpmnfhifmmfglacGreatDoorRestPicturesK4
import Derived.Test.YtpmnfhifmmfglacGreatDoorRestPicturesK5
import Derived.Test.YtpmnfhifmmfglacGreatDoorRestPicturesK6
import Derived.Test.YtpmnfhifmmfglacGreatDoorRestPicturesK7
set_option linter.unusedVariables false
set_option linter.unusedSimpArgs false
set_option linter.unusedSectionVars false
set_option maxRecDepth 100000
set_option maxHeartbeats 8000000
namespace Go.Proofs.YtpmnfhifmmfglacGreatDoor
section
open Go
theorem LF (k s:List UInt8) (v:Int) (m:List (List UInt8 × Int)):Jt ((k,v)::m) s=if k=s then some v else Jt m s:=rfl
structure BK (V:List (List UInt8)) (m:List (List UInt8 × Int)):Prop where
 wd:∀(i:Nat) (s:List UInt8),V[i]? = some s→s≠[]→Jt m s=some (i:Int)
 pr:∀(s w:List UInt8),w∈V→s <+: w→s≠w→Jt m s=some (-1)
 no:∀(s:List UInt8),(∀w∈V,w≠[]→¬s <+: w)→Jt m s=none
theorem PF.sub {V:List (List UInt8)} {w:List UInt8} (h:PF (V++[w])):PF V:=fun i j u v hij hu hv h0=>
 h i j u v hij (by rw [List.getElem?_append_left (List.getElem?_eq_some_iff.1 hu).1];exact hu) (by rw [List.getElem?_append_left (List.getElem?_eq_some_iff.1 hv).1];exact hv) h0
theorem PF.last {V:List (List UInt8)} {w u:List UInt8} (h:PF (V++[w])) (hu:u∈V):(u≠[]→¬u <+: w)∧(w≠[]→¬w <+: u):=by
 obtain ⟨i,hi⟩:=List.mem_iff_getElem?.1 hu;have hlt:=(List.getElem?_eq_some_iff.1 hi).1;have h1:(V++[w])[i]? = some u:=by rw [List.getElem?_append_left hlt];exact hi
 have h2:(V++[w])[V.length]? = some w:=by simp
 exact ⟨h i V.length u w (by omega) h1 h2,h V.length i w u (by omega) h2 h1⟩
theorem BK.step {V:List (List UInt8)} {w:List UInt8} {m m2:List (List UInt8 × Int)} (B:BK V m) (hp:PF (V++[w])) (hw:w≠[])
  (h1:∀s,s <+: w→s≠w→Jt m s=none→Jt m2 s=some (-1)) (h2:∀s,¬(s <+: w∧s≠w∧Jt m s=none)→Jt m2 s=Jt m s):BK (V++[w]) ((w,(V.length:Int))::m2):=by
 have pre:∀s,s <+: w→s≠w→Jt m2 s=some (-1):=fun s h3 h4=>by
  rcases hm:Jt m s with _ | x
  ·exact h1 s h3 h4 hm
  ·rw [h2 s (fun h=>by rw [h.2.2] at hm;cases hm),hm]
   by_cases hex:∃u∈V,u≠[]∧s <+: u
   ·obtain ⟨u,hu,hu0,hsu⟩:=hex
    by_cases e:s=u
    ·subst e;exact absurd h3 ((hp.last hu).1 hu0)
    ·rw [←hm];exact B.pr s u hu hsu e
   ·rw [B.no s fun u hu hu0 hsu=>hex ⟨u,hu,hu0,hsu⟩] at hm;cases hm
 refine ⟨fun i s hi h0=>?_,fun s u hu h3 h4=>?_,fun s h=>?_⟩
 ·rw [LF]
  by_cases hlt:i<V.length
  ·rw [List.getElem?_append_left hlt] at hi;have hmem:=List.mem_of_getElem? hi;rw [if_neg (fun e=>by subst e;exact (hp.last hmem).1 h0 (List.prefix_refl _)),h2 s (fun h=>(hp.last hmem).1 h0 h.1)];exact B.wd i s hi h0
  ·have hl:=(List.getElem?_eq_some_iff.1 hi).1
   simp at hl
   obtain rfl:i=V.length:=by omega
   simp at hi
   rw [if_pos hi]
 ·rw [LF]
  rcases List.mem_append.1 hu with hu | hu
  ·rw [if_neg (fun e=>by subst e;exact (hp.last hu).2 hw h3)];have:=B.pr s u hu h3 h4;rw [h2 s (fun h=>by rw [h.2.2] at this;cases this)];exact this
  ·obtain rfl:u=w:=by simpa using hu
   rw [if_neg (fun e=>h4 e.symm)];exact pre s h3 h4
 ·rw [LF];have hsw:=h w (by simp) hw;rw [if_neg (fun e=>hsw (by subst e;exact List.prefix_refl _)),h2 s (fun h=>hsw h.1)];exact B.no s fun u hu hu0=>h u (by simp [hu]) hu0
theorem BK.nil {V:List (List UInt8)} {m:List (List UInt8 × Int)} (B:BK V m):BK (V++[[]]) m:=by
 refine ⟨fun i s hi h0=>?_,fun s u hu h3 h4=>?_,fun s h=>?_⟩
 ·by_cases hlt:i<V.length
  ·rw [List.getElem?_append_left hlt] at hi;exact B.wd i s hi h0
  ·have hl:=(List.getElem?_eq_some_iff.1 hi).1
   simp at hl
   obtain rfl:i=V.length:=by omega
   simp at hi
   exact absurd hi h0
 ·rcases List.mem_append.1 hu with hu | hu
  ·exact B.pr s u hu h3 h4
  ·obtain rfl:u=[]:=by simpa using hu
   exact absurd (List.prefix_nil.1 h3) h4
 ·exact B.no s fun u hu hu0=>h u (by simp [hu]) hu0
theorem VE (a b:List UInt8):MX (a++b)=(MX a&&MX b):=by unfold MX;rw [List.all_append]
theorem aET (N:Nat) (l:List Int) (hl:l.length<N) (h2:l.length≤1000000):jI N l l=some true:=by
 unfold jI;rw [cF (by simp)];exact Sd N l _ (by omega) l.length 0 N (by omega) hl
def okE (e:Int):Bool:=decide (0≤e∧e≤65535)
def T8 (W H:Int) (P:List Int):Bool:=decide (qI W H P.length)&&P.all okE
theorem ZD (N:Nat) {P:List Int} (hP:P.length≤4096) (kk):∀(j k fuel:Nat),k+j=P.length→j<fuel→wE N P kk fuel (k:Int)=if (P.drop k).all okE=true then kk (P.length:Int) else some false:=by
 intro j
 induction j with
 | zero=>
  intro k fuel hk hf;obtain ⟨fuel,rfl⟩:=mK fuel (by omega);obtain rfl:k=P.length:=by omega
  unfold wE;rw [cF (dF (by omega)),List.drop_length,if_pos (by rfl)]
 | succ j ih=>
  intro k fuel hk hf;obtain ⟨fuel,rfl⟩:=mK fuel (by omega);have hlt:k<P.length:=by omega
  have hnx:IntKind.i64.wrap ((k:Int)+1)=((k+1:Nat):Int):=by rw [dC (by omega)];rfl
  unfold wE;rw [cT (dT (by omega)),dH,List.getElem?_eq_getElem hlt,aC,List.drop_eq_getElem_cons hlt,List.all_cons]
  by_cases h1:P[k]<0
  ·rw [cT (dT h1),if_neg];rw [show okE P[k]=false from dF (by omega)];simp
  rw [cF (dF h1)]
  by_cases h2:65535<P[k]
  ·rw [cT (dT h2),if_neg];rw [show okE P[k]=false from dF (by omega)];simp
  rw [cF (dF h2),hnx,ih (k+1) fuel (by omega) (by omega),show okE P[k]=true from dT (by omega),Bool.true_and]
theorem ZE (N:Nat) {P:List Int} (hP:P.length≤4096) (kk):∀(j k fuel:Nat),k+j=P.length→j<fuel→eU N P kk fuel (k:Int)=if (P.drop k).all okE=true then kk (P.length:Int) else some false:=by
 intro j
 induction j with
 | zero=>
  intro k fuel hk hf;obtain ⟨fuel,rfl⟩:=mK fuel (by omega);obtain rfl:k=P.length:=by omega
  unfold eU;rw [cF (dF (by omega)),List.drop_length,if_pos (by rfl)]
 | succ j ih=>
  intro k fuel hk hf;obtain ⟨fuel,rfl⟩:=mK fuel (by omega);have hlt:k<P.length:=by omega
  have hnx:IntKind.i64.wrap ((k:Int)+1)=((k+1:Nat):Int):=by rw [dC (by omega)];rfl
  unfold eU;rw [cT (dT (by omega)),dH,List.getElem?_eq_getElem hlt,aC,B3,aC,List.drop_eq_getElem_cons hlt,List.all_cons]
  by_cases h1:0≤P[k]∧P[k]≤65535
  ·rw [cF (by rw [dT h1];rfl),hnx,aC,ih (k+1) fuel (by omega) (by omega),show okE P[k]=true from dT h1,Bool.true_and]
  ·rw [cT (by rw [dF h1];rfl),if_neg];rw [show okE P[k]=false from dF h1];simp
theorem In {W H:Int} {P:List Int} (h:¬qI W H P.length):T8 W H P=false:=by unfold T8;rw [dF h];rfl
theorem ZF (N:Nat) (hN:5000≤N) (W H:Int) (P:List Int):Dk N W H P=some (T8 W H P):=by
 unfold Dk
 by_cases h1:W<1
 ·rw [cT (dT h1),In (fun h=>by unfold qI at h;omega)]
 rw [cF (dF h1)]
 by_cases h2:64<W
 ·rw [cT (dT h2),In (fun h=>by unfold qI at h;omega)]
 rw [cF (dF h2)]
 by_cases h3:H<1
 ·rw [cT (dT h3),In (fun h=>by unfold qI at h;omega)]
 rw [cF (dF h3)]
 by_cases h4:64<H
 ·rw [cT (dT h4),In (fun h=>by unfold qI at h;omega)]
 have hb:=Lt (W:=W) (H:=H) (by omega);rw [cF (dF h4),dC (by omega)]
 by_cases h5:(P.length:Int)=W*H
 rotate_left
 ·rw [cT (by rw [dF h5];rfl),In (fun h=>by unfold qI at h;exact h5 h.2.2.2.2)]
 have hs:qI W H P.length:=⟨by omega,by omega,by omega,by omega,h5⟩
 rw [cF (by rw [dT h5];rfl)];have key:=ZD N (P:=P) (by omega) (fun _=>some true) P.length 0 N (by omega) (by omega);refine Eq.trans key ?_;unfold T8;rw [dT hs,Bool.true_and,List.drop_zero]
 split
 ·rename_i h;rw [h]
 ·rename_i h;rw [(Bool.not_eq_true _).mp h]
theorem NQ (N:Nat) (hN:5000≤N) (W H:Int) (P:List Int):dE N W H P=some (T8 W H P):=by
 unfold dE;rw [B3,aC]
 by_cases h1:1≤W∧W≤64
 rotate_left
 ·rw [cT (by rw [dF h1];rfl),In (fun h=>by unfold qI at h;omega)]
 rw [cF (by rw [dT h1];rfl),B3,aC]
 by_cases h3:1≤H∧H≤64
 rotate_left
 ·rw [cT (by rw [dF h3];rfl),In (fun h=>by unfold qI at h;omega)]
 have hb:=Lt (W:=W) (H:=H) (by omega);rw [cF (by rw [dT h3];rfl),dC (by omega)]
 by_cases h5:(P.length:Int)=W*H
 rotate_left
 ·rw [cT (by rw [dF h5];rfl),In (fun h=>by unfold qI at h;exact h5 h.2.2.2.2)]
 have hs:qI W H P.length:=⟨by omega,by omega,by omega,by omega,h5⟩
 rw [cF (by rw [dT h5];rfl)];have key:=ZE N (P:=P) (by omega) (fun _=>some true) P.length 0 N (by omega) (by omega);refine Eq.trans key ?_;unfold T8;rw [dT hs,Bool.true_and,List.drop_zero]
 split
 ·rename_i h;rw [h]
 ·rename_i h;rw [(Bool.not_eq_true _).mp h]
def gsv (kind a b c:Int):Int:=if kind=1 then a else if kind=2 then b else if kind=3 then c else if kind=4 then a+b-c else if kind=5 then a+(b-c)/2 else if kind=6 then b+(a-c)/2 else (a+b)/2
def gs (W:Nat) (P:List Int) (kind:Int) (i:Nat):Int:=if i=0 then 32768 else if i/W=0 then P.getD (i-1) 0 else if i%W=0 then P.getD (i-W) 0 else gsv kind (P.getD (i-1) 0) (P.getD (i-W) 0) (P.getD (i-W-1) 0)
theorem aEU {kind a b c:Int} (ha:0≤a∧a≤65535) (hb:0≤b∧b≤65535) (hc:0≤c∧c≤65535):-65535≤gsv kind a b c∧gsv kind a b c≤131070:=by
 unfold gsv
 repeat' split
 all_goals omega
section
variable {P:List Int} (hP:∀e∈P,0≤e∧e≤65535)
include hP in
theorem I2 {j:Nat} (h:j<P.length):idx P (j:Int)=some (P.getD j 0)∧0≤P.getD j 0∧P.getD j 0≤65535:=by
 have e:P.getD j 0=P[j]:=by rw [List.getD_eq_getElem?_getD,List.getElem?_eq_getElem h];rfl
 rw [e,dH,List.getElem?_eq_getElem h];exact ⟨rfl,hP _ (List.getElem_mem h)⟩
include hP in
theorem aDd {W:Nat} {kind:Int} {i:Nat} (hW:1≤W) (hi:i<P.length):-65535≤gs W P kind i∧gs W P kind i≤131070:=by
 unfold gs
 split
 ·omega
 ·split
  ·have:=(I2 hP (j:=i-1) (by omega)).2;omega
  ·split
   ·have:=(I2 hP (j:=i-W) (by omega)).2;omega
   ·exact aEU (I2 hP (by omega)).2 (I2 hP (by omega)).2 (I2 hP (by omega)).2
theorem Sp {i W:Nat} (h:i/W≠0):W≤i∧0<W:=by
 rcases Nat.eq_zero_or_pos W with h0 | h0
 ·subst h0;simp at h
 ·refine ⟨?_,h0⟩
  rcases Nat.lt_or_ge i W with h1 | h1
  ·exact absurd (Nat.div_eq_of_lt h1) h
  ·exact h1
include hP in
theorem T9 (N:Nat) {W:Nat} (hW:1≤W∧W≤64) {kind:Int} (hk:1≤kind∧kind≤7) (H:Int) {i:Nat} (hi:i<P.length) (hl:P.length≤4096):BS N (W:Int) H P kind (i:Int)=some (gs W P kind i):=by
 unfold BS gs;obtain ⟨t1,t2⟩:=tdm (W:=W) i (by omega);rw [AF (by omega),aC,aC,t2,t1]
 by_cases h0:i=0
 ·rw [cT (dT (by omega)),if_pos h0]
 have hdl:i/W≤i:=Nat.div_le_self _ _;rw [cF (dF (by omega)),if_neg h0,dC (x:=((i/W:Nat):Int)) ⟨Int.le_trans (by decide) (Int.natCast_nonneg _),Int.le_trans (Int.ofNat_le.2 hdl) (by omega)⟩];have e1:IntKind.i64.wrap ((i:Int)-1)=((i-1:Nat):Int):=by rw [dC (by omega)];omega
 by_cases h1:i/W=0
 ·rw [cT (dT (by rw [h1];rfl)),if_pos h1,e1,(I2 hP (j:=i-1) (by omega)).1];rfl
 obtain ⟨hWi,hW0⟩:=Sp h1;have e2:IntKind.i64.wrap ((i:Int)-(W:Int))=((i-W:Nat):Int):=by rw [dC (by omega)];omega
 rw [cF (dF (fun h=>h1 (by exact_mod_cast h))),if_neg h1,e2]
 by_cases h2:i%W=0
 ·rw [cT (dT (by rw [h2];rfl)),if_pos h2,(I2 hP (j:=i-W) (by omega)).1];rfl
 have hlt:W<i:=by
  rcases Nat.lt_or_ge W i with h | h
  ·exact h
  ·obtain rfl:i=W:=by omega
   simp at h2
 have e3:IntKind.i64.wrap (((i-W:Nat):Int)-1)=((i-W-1:Nat):Int):=by rw [dC (by omega)];omega
 obtain ⟨a1,a2⟩:=I2 hP (j:=i-1) (by omega);obtain ⟨b1,b2⟩:=I2 hP (j:=i-W) (by omega);obtain ⟨c1,c2⟩:=I2 hP (j:=i-W-1) (by omega);rw [cF (dF (fun h=>h2 (by exact_mod_cast h))),if_neg h2,e1,a1,aC,b1,aC,e3,c1,aC]
 generalize P.getD (i-1) 0=a at *
 generalize P.getD (i-W) 0=b at *
 generalize P.getD (i-W-1) 0=c at *
 have s1:∀m:Int,rL .i64 m 1=m/2:=fun m=>Ny m 1 (by decide)
 rw [s1,s1,s1,dC (x:=a+b) (by omega),dC (x:=a+b-c) (by omega),dC (x:=b-c) (by omega),dC (x:=a-c) (by omega),dC (x:=a+(b-c)/2) (by omega),dC (x:=b+(a-c)/2) (by omega)];unfold gsv
 rcases (show kind=1∨kind=2∨kind=3∨kind=4∨kind=5∨kind=6∨kind=7 by omega) with rfl | rfl | rfl | rfl | rfl | rfl | rfl <;> rfl
include hP in
theorem LG (N:Nat) {W x y:Nat} (H:Int) (hW:W≤64) (hx:x≤64) (hy:y≤64) (h:y*W+x<P.length):bL N (W:Int) H P (x:Int) (y:Int)=some (P.getD (y*W+x) 0):=by
 have hyw:y*W≤64*64:=Nat.mul_le_mul hy hW;have e:(y:Int)*(W:Int)=((y*W:Nat):Int):=by simp
 have e2:IntKind.i64.wrap (IntKind.i64.wrap ((y:Int)*(W:Int))+(x:Int))=((y*W+x:Nat):Int):=by
  rw [e,dC (x:=((y*W:Nat):Int)) (by omega),dC (by omega)];omega
 unfold bL;rw [e2,(I2 hP h).1];rfl
include hP in
theorem Ua (N:Nat) {W:Nat} (hW:1≤W∧W≤64) {kind:Int} (hk:1≤kind∧kind≤7) (H:Int) {x y:Nat} (hx:x<W) (hy:y<64) (hi:y*W+x<P.length) (hl:P.length≤4096):qC N (W:Int) H P kind (x:Int) (y:Int)=some (gs W P kind (y*W+x)):=by
 obtain ⟨d1,d2⟩:=dm (W:=W) y hx
 have fin:∀(a b c:Int),0≤a∧a≤65535→0≤b∧b≤65535→0≤c∧c≤65535→(cond (decide (kind=1)) (
   some a) (
   cond (decide (kind=2)) (
   some b) (
   cond (decide (kind=3)) (
   some c) (
   cond (decide (kind=4)) (
   some (IntKind.i64.wrap ((IntKind.i64.wrap (a+b))-c))) (
   cond (decide (kind=5)) (
   Option.bind (bD N (IntKind.i64.wrap (b-c)) 2) fun GZ=>
   some (IntKind.i64.wrap (a+GZ))) (
   cond (decide (kind=6)) (
   Option.bind (bD N (IntKind.i64.wrap (a-c)) 2) fun r16=>
   some (IntKind.i64.wrap (b+r16))) (
   Option.bind (bD N (IntKind.i64.wrap (a+b)) 2) fun Qb=>
   some Qb)))))):Option Int)=some (gsv kind a b c):=by
  intro a b c ha hb hc;rw [dC (x:=a+b) (by omega),dC (x:=a+b-c) (by omega),dC (x:=b-c) (by omega),dC (x:=a-c) (by omega),IJ N (by omega) (by omega),IJ N (by omega) (by omega),IJ N (by omega) (by omega),aC,aC,aC,dC (x:=a+(b-c)/2) (by omega),dC (x:=b+(a-c)/2) (by omega)];unfold gsv
  rcases (show kind=1∨kind=2∨kind=3∨kind=4∨kind=5∨kind=6∨kind=7 by omega) with rfl | rfl | rfl | rfl | rfl | rfl | rfl <;> rfl
 unfold qC gs;rw [d2,d1]
 by_cases h0:x=0
 ·subst h0;rw [cT (dT (by rfl))]
  by_cases h1:y=0
  ·subst h1;rw [cT (dT (by rfl)),if_pos (by simp)]
  ·have hyw:1≤y*W:=Nat.mul_pos (by omega) (by omega);have e:IntKind.i64.wrap ((y:Int)-1)=((y-1:Nat):Int):=by rw [dC (by omega)];omega
   have e2:(y-1)*W+0=y*W+0-W:=by rw [Nat.sub_mul];omega
   have hle:(y-1)*W≤y*W:=Nat.mul_le_mul_right _ (by omega);rw [cF (dF (by omega)),cF (dF (by omega)),cT (dT (by rfl)),e];have:=LG hP N (W:=W) (x:=0) (y:=y-1) H (by omega) (by omega) (by omega) (by omega);rw [show ((0:Nat):Int)=0 from rfl] at this;rw [this,aC,if_neg (by omega),if_neg (by omega),if_pos rfl,e2]
 ·rw [cF (dF (by omega))];have ex:IntKind.i64.wrap ((x:Int)-1)=((x-1:Nat):Int):=by rw [dC (by omega)];omega
  by_cases h1:y=0
  ·subst h1;have:=LG hP N (W:=W) (x:=x-1) (y:=0) H (by omega) (by omega) (by omega) (by omega);rw [show ((0:Nat):Int)=0 from rfl] at this;rw [cT (dT (by rfl)),ex,this,aC,if_neg (by omega),if_pos rfl]
   congr 2
   omega
  ·have e:IntKind.i64.wrap ((y:Int)-1)=((y-1:Nat):Int):=by rw [dC (by omega)];omega
   have hsub:(y-1)*W=y*W-W:=by rw [Nat.sub_mul];omega
   have hyw:W≤y*W:=Nat.le_mul_of_pos_left W (by omega);rw [cF (dF (by omega)),cF (dF (by omega)),ex,e,LG hP N (W:=W) (x:=x-1) (y:=y) H (by omega) (by omega) (by omega) (by omega),aC,LG hP N (W:=W) (x:=x) (y:=y-1) H (by omega) (by omega) (by omega) (by omega),aC,LG hP N (W:=W) (x:=x-1) (y:=y-1) H (by omega) (by omega) (by omega) (by omega),aC,if_neg (by omega),if_neg (by omega),if_neg (by omega)];rw [show y*W+(x-1)=y*W+x-1 by omega,show (y-1)*W+x=y*W+x-W by omega,show (y-1)*W+(x-1)=y*W+x-W-1 by omega];exact fin _ _ _ (I2 hP (by omega)).2 (I2 hP (by omega)).2 (I2 hP (by omega)).2
end
theorem M7 {W H:Int} {P:List Int} (h:T8 W H P=true):∃w k:Nat,W=w∧H=k∧1≤w∧w≤64∧1≤k∧k≤64∧P.length=w*k∧w*k≤4096∧∀e∈P,0≤e∧e≤65535:=by
 unfold T8 at h;rw [Bool.and_eq_true] at h;obtain ⟨h1,h2⟩:=h;obtain ⟨a,b,c,d,e⟩:=of_decide_eq_true h1;obtain ⟨w,rfl⟩:=Int.eq_ofNat_of_zero_le (show 0≤W by omega);obtain ⟨k,rfl⟩:=Int.eq_ofNat_of_zero_le (show 0≤H by omega);have hm:=Nat.mul_le_mul (show w≤64 by omega) (show k≤64 by omega);exact ⟨w,k,rfl,rfl,by omega,by omega,by omega,by omega,by exact_mod_cast e,by omega,fun e he=>of_decide_eq_true (List.all_eq_true.1 h2 e he)⟩
def bl (n:Nat):Nat:=if n=0 then 0 else Nat.log2 n+1
theorem C9 {n:Nat} (h:0<n):bl n=bl (n/2)+1:=by
 unfold bl;rw [if_neg (by omega)]
 by_cases h2:2≤n
 ·rw [if_neg (by omega),Nat.log2_def,if_pos h2]
 ·obtain rfl:n=1:=by omega
  rfl
theorem LH:∀(k n:Nat),bl n≤k↔n<2^k
 | 0,n=>by
  unfold bl
  split
  ·subst n;simp
  ·rw [Nat.pow_zero];omega
 | k+1,n=>by
  rcases Nat.eq_zero_or_pos n with rfl | h
  ·have:=Nat.two_pow_pos (k+1);simp [bl,this]
  ·have ih:=LH k (n/2);rw [C9 h,Nat.pow_succ]
   constructor
   ·intro q;have:=ih.1 (by omega)
    omega
   ·intro q;have:=ih.2 (by omega)
    omega
theorem aGF {n:Nat} (h:256≤n):bl n=bl (n/256)+8:=by
 rw [C9 (n:=n) (by omega),C9 (n:=n/2) (by omega),C9 (n:=n/2/2) (by omega),C9 (n:=n/2/2/2) (by omega),C9 (n:=n/2/2/2/2) (by omega),C9 (n:=n/2/2/2/2/2) (by omega),C9 (n:=n/2/2/2/2/2/2) (by omega),C9 (n:=n/2/2/2/2/2/2/2) (by omega)];have:n/2/2/2/2/2/2/2/2=n/256:=by omega
 rw [this]
theorem ZG:∀n:Fin 256,OP[n.val]? = some (UInt8.ofNat (bl n.val))∧bl n.val≤8:=by decide +kernel
theorem VF {n:Nat} (h:n<256):idx OP (IntKind.u8.wrap (n:Int))=some (UInt8.ofNat (bl n))∧IntKind.i64.wrap ((UInt8.ofNat (bl n)).toNat:Int)=((bl n:Nat):Int):=by
 obtain ⟨h1,h2⟩:=ZG ⟨n,h⟩;rw [G5,Nat.mod_eq_of_lt h,dH];refine ⟨h1,?_⟩
 have:(UInt8.ofNat (bl n)).toNat=bl n:=by
  rw [UInt8.toNat_ofNat',Nat.mod_eq_of_lt];have:bl n≤8:=h2
  omega
 rw [this,dC (by have:bl n≤8:=h2;omega)]
theorem aI5 {h k:Nat} (hk:k≤64):rL .u64 (h:Int) (k:Int)=((h/2^k:Nat):Int):=by
 unfold rL
 have:min ((k:Int)).toNat IntKind.u64.bits=k:=by
  rw [Int.toNat_natCast];exact Nat.min_eq_left hk
 rw [this];rw [show (2:Int)^k=((2^k:Nat):Int) by simp,Int.fdiv_eq_ediv_of_nonneg _ (Int.natCast_nonneg _),Int.natCast_ediv]
theorem len_eq (N:Nat) {n:Nat} (h:n≤65535):sW N (n:Int)=some ((bl n:Nat):Int):=by
 have h16:bl n≤16:=(LH 16 n).2 (by omega);unfold sW yG;rw [cF (dF (by omega)),cF (dF (by omega))]
 by_cases h1:256≤n
 ·have hd:n/2^8<256:=by omega
  obtain ⟨e1,e2⟩:=VF hd;rw [cT (dT (by omega)),show ((8:Int))=((8:Nat):Int) from rfl,aI5 (by omega),aC,show IntKind.i64.wrap (0+((8:Nat):Int))=8 by decide,aC,e1,aC,e2,show n/2^8=n/256 from rfl,aGF h1];rw [aGF h1] at h16;rw [dC (by omega),aC,aC]
  congr 1
  omega
 ·obtain ⟨e1,e2⟩:=VF (show n<256 by omega);rw [cF (dF (by omega)),e1,aC,e2,dC (by omega),aC,aC]
  congr 1
  omega
def Fz (d:Int):Nat:=bl (max d (-d)).toNat
theorem Ub (N:Nat):∀(j:Nat) (k n fuel:Nat),bl k=j→j<fuel→n+j≤1000→k≤1000000→lF N (fun (n4,k5)=>some n4) fuel ((n:Int),(k:Int))=some ((n+j:Nat):Int):=by
 intro j
 induction j with
 | zero=>
  intro k n fuel hb hf hn hk;obtain ⟨fuel,rfl⟩:=mK fuel (by omega);have:=(LH 0 k).1 (by omega);unfold lF;rw [cF (dF (by omega))];rfl
 | succ j ih=>
  intro k n fuel hb hf hn hk;obtain ⟨fuel,rfl⟩:=mK fuel (by omega)
  have hk0:0<k:=by
   rcases Nat.eq_zero_or_pos k with rfl | h
   ·simp [bl] at hb
   ·exact h
  have hb2:=C9 hk0;unfold lF;rw [cT (dT (by omega)),dC (x:=(n:Int)+1) (by omega),aC,show Int.tdiv (k:Int) 2=((k/2:Nat):Int) from rfl,dC (x:=((k/2:Nat):Int)) (by omega),aC,show (n:Int)+1=((n+1:Nat):Int) by rfl,ih (k/2) (n+1) fuel (by omega) (by omega) (by omega) (by omega)]
  congr 2
  omega
theorem Sq {d:Int} (h:-32768<d∧d≤32768):Fz d≤16:=(LH 16 _).2 (by omega)
theorem NR (N:Nat) (hN:100≤N) {d:Int} (h:-32768<d∧d≤32768):oF N d=some ((Fz d:Nat):Int):=by
 have hc:=Sq h;unfold oF;rw [dC (x:=0-d) (by omega),aC,show max d (0-d)=(((max d (-d)).toNat:Nat):Int) by omega];have:=Ub N (Fz d) (max d (-d)).toNat 0 N rfl (by omega) (by omega) (by omega);rw [Nat.zero_add] at this;exact this
def Tp (d:Int):List UInt8:=if Fz d=0∨Fz d=16 then [] else H3 (zC 2 (Fz d) (if 0<d then d else d+((2^Fz d:Nat):Int)-1).toNat)
theorem Uc {d:Int}:-((2^Fz d:Nat):Int)<d∧d<((2^Fz d:Nat):Int):=by
 have h:=(LH (Fz d) (max d (-d)).toNat).1 (Nat.le_refl _);have h2:(((max d (-d)).toNat:Nat):Int)<((2^Fz d:Nat):Int):=Int.ofNat_lt.2 h
 omega
theorem VG {d:Int}:Fz d=0↔d=0:=by
 have:=LH 0 (max d (-d)).toNat;unfold Fz
 constructor
 ·intro h;have:=this.1 (by omega);omega
 ·intro h;have:=this.2 (by omega);omega
theorem aGG {d:Int} (h:Fz d≠0) (h2:Fz d≠16) (hd:-32768<d∧d≤32768):zD (if 0<d then d else d+((2^Fz d:Nat):Int)-1) ((Fz d:Nat):Int)=0:=by
 have hc:=Sq hd;have hl:=Uc (d:=d);have h0:d≠0:=fun e=>h (VG.2 e)
 unfold zD;rw [if_pos (by omega),Int.toNat_natCast,if_pos]
 split
 ·omega
 ·omega
theorem aCm (N:Nat) (hN:100≤N) {d:Int} (h:-32768<d∧d≤32768):sZ N d=some (Tp d):=by
 have hc:=Sq h;unfold sZ Tp;rw [NR N hN h,aC]
 by_cases h0:Fz d=0
 ·rw [cT (dT (by omega)),if_pos (.inl h0)]
 rw [cF (dF (by omega))]
 by_cases h1:Fz d=16
 ·rw [cT (dT (by omega)),if_pos (.inr h1)]
 have hv:=aGG h0 h1 h;have hp:=Dl (d:=Fz d) hc;have hl:=Uc (d:=d);rw [cF (dF (by omega)),if_neg (by omega)]
 by_cases h2:0<d
 ·rw [if_pos h2] at hv;rw [cT (dT h2),NO N hN hv,aC,Int.toNat_natCast,if_pos h2]
 ·rw [if_neg h2] at hv;rw [cF (dF h2),Bq,aC,IL hc,dC (x:=d+_) (by omega),dC (x:=d+_-1) (by omega),NO N hN hv,aC,Int.toNat_natCast,if_neg h2]
def dfn (n g:Int):Int:=if 32768<(n-g)%65536 then (n-g)%65536-65536 else (n-g)%65536
theorem ZH (n g:Int):-32768<dfn n g∧dfn n g≤32768:=by unfold dfn;split <;> omega
theorem Ud (N:Nat) {d:Int} (h:-200000≤d∧d≤32768) {fuel:Nat} (hf:5≤fuel):eP N (fun d9=>some d9) fuel d=some (dfn d 0):=by
 obtain ⟨fuel,rfl⟩:∃q,fuel=q+5:=⟨fuel-5,by omega⟩
 have key:∀(e:Int) (m:Nat),-32768<e→e≤32768→e%65536=d%65536→eP N (fun d9=>some d9) (m+1) e=some (dfn d 0):=by
  intro e m h1 h2 h3;unfold eP;rw [cF (dF (by omega))]
  congr 1
  unfold dfn
  split <;> omega
 by_cases h1:-32768<d
 ·exact key d _ h1 h.2 rfl
 unfold eP;rw [cT (dT (by omega)),dC (x:=d+65536) (by omega),aC]
 by_cases h2:-32768<d+65536
 ·exact key (d+65536) _ h2 (by omega) (by omega)
 unfold eP;rw [cT (dT (by omega)),dC (x:=d+65536+65536) (by omega),aC]
 by_cases h3:-32768<d+65536+65536
 ·exact key (d+65536+65536) _ h3 (by omega) (by omega)
 unfold eP;rw [cT (dT (by omega)),dC (x:=d+65536+65536+65536) (by omega),aC];exact key (d+65536+65536+65536) _ (by omega) (by omega) (by omega)
theorem VH {a b:Int} (h:a%65536=b%65536):dfn a 0=dfn b 0:=by unfold dfn;rw [Int.sub_zero,Int.sub_zero,h]
theorem difference_eq (N:Nat) (hN:100≤N) {n g:Int} (hn:0≤n∧n≤65535) (hg:-65535≤g∧g≤131070):oJ N n g=some (dfn n g):=by
 have e0:dfn n g=dfn (n-g) 0:=by unfold dfn;rw [Int.sub_zero]
 unfold oJ;rw [dC (x:=n-g) (by omega),aC,e0];obtain ⟨M,rfl⟩:∃q,N=q+5:=⟨N-5,by omega⟩
 generalize hd:n-g=d
 by_cases h1:32768<d
 ·unfold fY;rw [cT (dT h1),dC (x:=d-65536) (by omega),aC]
  by_cases h2:32768<d-65536
  ·unfold fY;rw [cT (dT h2),dC (x:=d-65536-65536) (by omega),aC];unfold fY;rw [cF (dF (by omega)),Ud _ (by omega) (by omega)];exact congrArg some (VH (by omega))
  ·unfold fY;rw [cF (dF h2),Ud _ (by omega) (by omega)];exact congrArg some (VH (by omega))
 ·unfold fY;rw [cF (dF h1),Ud _ (by omega) (by omega)]
def ds (W:Nat) (P:List Int) (kind:Int):List Int:=(List.range P.length).map fun i=>dfn (P.getD i 0) (gs W P kind i)
section
variable {W H:Nat} {P:List Int} (hP:∀e∈P,0≤e∧e≤65535) (hW:1≤W∧W≤64) (hH:1≤H∧H≤64) (hl:P.length=W*H) (hl2:W*H≤4096) {kind:Int} (hk:1≤kind∧kind≤7)
include hP hW hH hl hl2 hk
theorem aCn (N:Nat) (hN:100≤N) {y:Nat} (hy:y<H) (kk):∀(j x fuel:Nat),x+j=W→j<fuel →
  jH N (W:Int) (H:Int) P kind (y:Int) kk fuel ((List.range (y*W+x)).map (fun i=>dfn (P.getD i 0) (gs W P kind i)),(x:Int))=kk ((List.range ((y+1)*W)).map (fun i=>dfn (P.getD i 0) (gs W P kind i)),(W:Int)):=by
 intro j
 induction j with
 | zero=>
  intro x fuel hx hf;obtain ⟨fuel,rfl⟩:=mK fuel (by omega);obtain rfl:x=W:=by omega
  unfold jH;rw [cF (dF (by omega)),Nat.add_mul,Nat.one_mul]
 | succ j ih=>
  intro x fuel hx hf;obtain ⟨fuel,rfl⟩:=mK fuel (by omega);have hpl:=s7 (W:=W) (H:=H) (x:=x) (y:=y) (by omega) hy;have hg:=aDd hP (W:=W) (kind:=kind) (i:=y*W+x) hW.1 (by omega)
  have hs:(List.range (y*W+x)).map (fun i=>dfn (P.getD i 0) (gs W P kind i))++[dfn (P.getD (y*W+x) 0) (gs W P kind (y*W+x))]=(List.range (y*W+(x+1))).map (fun i=>dfn (P.getD i 0) (gs W P kind i)):=by
   rw [show y*W+(x+1)=y*W+x+1 by omega,List.range_succ,List.map_append,List.map_singleton]
  unfold jH;rw [cT (dT (by omega)),LG hP N (W:=W) (x:=x) (y:=y) _ (by omega) (by omega) (by omega) (by omega),aC,Ua hP N hW hk _ (by omega) (by omega) (by omega) (by omega),aC,difference_eq N hN (I2 hP (by omega)).2 hg,aC,lI (by simp;omega),aC,hs,dC (x:=(x:Int)+1) (by omega),aC];exact ih (x+1) fuel (by omega) (by omega)
theorem aCo (N:Nat) (hN:100≤N):qD N (W:Int) (H:Int) P kind=some (ds W P kind):=by
 have main:∀(j y fuel:Nat),y+j=H→j<fuel→gT N (W:Int) (H:Int) P kind (fun (l12,y5)=>some l12) fuel ((List.range (y*W)).map (fun i=>dfn (P.getD i 0) (gs W P kind i)),(y:Int))=some (ds W P kind):=by
  intro j
  induction j with
  | zero=>
   intro y fuel hx hf;obtain ⟨fuel,rfl⟩:=mK fuel (by omega);obtain rfl:y=H:=by omega
   unfold gT;rw [cF (dF (by omega))];unfold ds;rw [hl,Nat.mul_comm]
  | succ j ih=>
   intro y fuel hx hf;obtain ⟨fuel,rfl⟩:=mK fuel (by omega);have key:=aCn hP hW hH hl hl2 hk N hN (y:=y) (by omega) (fun (Xw,x10)=>Option.bind (some (IntKind.i64.wrap ((y:Int)+1))) fun y4=>gT N (W:Int) (H:Int) P kind (fun (l12,y5)=>some l12) fuel (Xw,y4)) W 0 N (by omega) (by omega);unfold gT;rw [cT (dT (by omega))];refine Eq.trans key ?_
   dsimp only
   rw [dC (x:=(y:Int)+1) (by omega),aC];exact ih (y+1) fuel (by omega) (by omega)
 have:=main H 0 N (by omega) (by omega);rw [Nat.zero_mul] at this;exact this
end
def QJ (W:List (List UInt8)) (d:Int):Bool:=decide (Fz d<W.length) && !(W.getD (Fz d) []).isEmpty
def Jb (W:List (List UInt8)) (d:Int):List UInt8:=W.getD (Fz d) []++Tp d
def NS (W:List (List UInt8)) (l:List Int):List UInt8:=l.flatMap (Jb W)
theorem IM (W:List (List UInt8)) (d:Int) (l:List Int):NS W (d::l)=Jb W d++NS W l:=rfl
theorem QK {d:Int} (h:-32768<d∧d≤32768):(Tp d).length≤16:=by
 unfold Tp
 split
 ·simp
 ·rw [AO,uS];exact Sq h
theorem IN {W:List (List UInt8)} (hb:So W) (i:Nat):(W.getD i []).length≤15∧MX (W.getD i [])=true:=by
 rw [List.getD_eq_getElem?_getD]
 by_cases h:i<W.length
 ·rw [List.getElem?_eq_getElem h];exact ⟨(hb _ (List.getElem_mem h)).2,(hb _ (List.getElem_mem h)).1⟩
 ·rw [List.getElem?_eq_none (by omega)];exact ⟨by simp,rfl⟩
theorem PG {W:List (List UInt8)} (hb:So W) {d:Int} (h:-32768<d∧d≤32768):(Jb W d).length≤31:=by
 unfold Jb;rw [List.length_append];have:=QK h;have:=(IN hb (Fz d)).1
 omega
theorem ZI {W:List (List UInt8)} {d:Int} (h:QJ W d=true):∃u,W[Fz d]? = some u∧u≠[]∧W.getD (Fz d) []=u∧Fz d<W.length:=by
 unfold QJ at h;rw [Bool.and_eq_true] at h;have hq:=of_decide_eq_true h.1;refine ⟨W[Fz d],List.getElem?_eq_getElem hq,?_,?_,hq⟩
 ·have h2:=h.2;rw [List.getD_eq_getElem?_getD,List.getElem?_eq_getElem hq] at h2;intro e;rw [Option.getD_some,e] at h2;cases h2
 ·rw [List.getD_eq_getElem?_getD,List.getElem?_eq_getElem hq];rfl
theorem ZJ {W:List (List UInt8)} {d:Int} (h:¬QJ W d=true) (h2:Fz d<W.length):W[Fz d]? = some []:=by
 rw [List.getElem?_eq_getElem h2];unfold QJ at h;rw [dT h2,Bool.true_and,List.getD_eq_getElem?_getD,List.getElem?_eq_getElem h2,Option.getD_some] at h;cases hc:W[Fz d]
 ·rfl
 ·rw [hc] at h;simp at h
theorem aCp (N:Nat) (hN:100≤N) {W:List (List UInt8)} (hb:So W) {l:List Int} (hd:∀d∈l,-32768<d∧d≤32768) (hl:l.length≤4096) (kk):∀(j k fuel:Nat) (acc:List UInt8),k+j=l.length→j<fuel→acc.length≤31*k →
  j6 N W l kk fuel (Cc acc,(k:Int))=if (l.drop k).all (QJ W)=true then kk (Cc (acc++NS W (l.drop k)),(l.length:Int)) else some ([],4):=by
 intro j
 induction j with
 | zero=>
  intro k fuel acc hk hf ha;obtain ⟨fuel,rfl⟩:=mK fuel (by omega);obtain rfl:k=l.length:=by omega
  unfold j6;rw [cF (dF (by omega)),List.drop_length,if_pos (by rfl)]
  simp [NS]
 | succ j ih=>
  intro k fuel acc hk hf ha;obtain ⟨fuel,rfl⟩:=mK fuel (by omega);have hlt:k<l.length:=by omega
  have hnx:IntKind.i64.wrap ((k:Int)+1)=((k+1:Nat):Int):=by rw [dC (by omega)];rfl
  have hdk:=hd _ (List.getElem_mem hlt);unfold j6;rw [cT (dT (by omega)),dH,List.getElem?_eq_getElem hlt,aC,NR N hN hdk,aC,List.drop_eq_getElem_cons hlt,List.all_cons,IM]
  generalize l[k]=d at hdk ⊢
  by_cases h1:W.length≤Fz d
  ·rw [cT (dT (by omega)),if_neg];rw [show QJ W d=false by unfold QJ;rw [dF (by omega)];rfl];simp
  rw [cF (dF (by omega)),dH]
  by_cases h2:QJ W d=true
  ·obtain ⟨u,hu,hu0,hg,_⟩:=ZI h2;have h15:=(IN hb (Fz d)).1;have hm:=QK hdk;rw [hg] at h15;rw [hu,aC,cF (dF hu0),aC,lI (by rw [CL,CL];omega),aC,aC,aCm N hN hdk,aC,←QE,lI (by rw [CL,CL,List.length_append];omega),aC,←QE,hnx,aC,ih (k+1) fuel _ (by omega) (by omega) (by rw [List.length_append,List.length_append];omega),h2,Bool.true_and];unfold Jb;rw [hg,List.append_assoc,List.append_assoc,List.append_assoc]
  ·rw [ZJ h2 (by omega),aC,cT (dT rfl),if_neg];rw [(Bool.not_eq_true _).mp h2];simp
theorem ZK (W:Nat) (P:List Int) (kind:Int):∀d∈ds W P kind,-32768<d∧d≤32768:=fun d hd=>by
 obtain ⟨i,_,rfl⟩:=List.mem_map.1 hd;exact ZH _ _
theorem Ue (W:Nat) (P:List Int) (kind:Int):(ds W P kind).length=P.length:=by simp [ds]
theorem aGH (W:Nat) (P:List Int) (kind:Int) {i:Nat} (h:i<P.length):(ds W P kind)[i]? = some (dfn (P.getD i 0) (gs W P kind i)):=by
 unfold ds;rw [List.getElem?_map,List.getElem?_range h];rfl
def byB (b:List UInt8):List UInt8:=(gr ((b.length+7)/8) (Gs b)).map UInt8.ofNat
def El (W H:Int) (P:List Int) (kind:Int) (c:List Int):List UInt8 × Int:=
 if T8 W H P=false then ([],1) else if ¬(1≤kind∧kind≤7) then ([],6) else if wY c≠0 then ([],wY c) else
 if (ds W.toNat P kind).all (QJ (wordsOf c))=true then (byB (NS (wordsOf c) (ds W.toNat P kind)),0) else ([],4)
theorem ZL (d:Int):MX (Tp d)=true:=by
 unfold Tp
 split
 ·rfl
 ·exact VD (QC (by decide) _ _)
theorem LI {W:List (List UInt8)} (hb:So W):∀l:List Int,MX (NS W l)=true
 | []=>rfl
 | d::l=>by
  rw [IM,VE,LI hb l,Bool.and_true];unfold Jb;rw [VE,(IN hb (Fz d)).2,ZL];rfl
theorem NT {W:List (List UInt8)} (hb:So W):∀{l:List Int},(∀d∈l,-32768<d∧d≤32768)→(NS W l).length≤31*l.length
 | [],_=>by simp [NS]
 | d::l,h=>by
  have h1:=NT hb (l:=l) fun d hd=>h d (by simp [hd])
  have h2:=PG hb (h d (by simp));rw [IM,List.length_append,List.length_cons];omega
theorem OW (N:Nat) (hN:200000≤N) (W H:Int) (P:List Int) (kind:Int) (c:List Int):oZ N W H P kind c=some (El W H P kind c):=by
 unfold oZ El;rw [NQ N (by omega),aC]
 by_cases hp:T8 W H P=true
 rotate_left
 ·rw [(Bool.not_eq_true _).mp hp,Bool.not_false,cT rfl,if_pos rfl]
 rw [hp,Bool.not_true,cF rfl,if_neg (by decide),B3,aC]
 by_cases h1:1≤kind∧kind≤7
 rotate_left
 ·rw [dF h1,Bool.not_false,cT rfl,if_pos h1]
 rw [dT h1,Bool.not_true,cF rfl,if_neg (by omega),PD N (by omega),aC]
 by_cases h2:wY c=0
 rotate_left
 ·rw [cT (by rw [dF h2];rfl),if_pos h2]
 obtain ⟨w,k,rfl,rfl,a1,a2,a3,a4,a5,a6,hP⟩:=M7 hp;rw [cF (by rw [dT h2];rfl),if_neg (by omega),Sn N (by omega) h2,aC,aCo hP ⟨a1,a2⟩ ⟨a3,a4⟩ a5 a6 h1 N (by omega),aC,Int.toNat_natCast];have hdl:=Ue w P kind;have key:=aCp N (by omega) (zY c) (l:=ds w P kind) (ZK w P kind) (by omega) (fun (l9,i2)=>Option.bind (jT N (toB l9)) fun DX=>some (DX,(0:Int))) (ds w P kind).length 0 N [] (by omega) (by omega) (by simp);refine Eq.trans key ?_;rw [List.drop_zero]
 by_cases h3:(ds w P kind).all (QJ (wordsOf c))=true
 ·rw [if_pos h3,if_pos h3]
  dsimp only
  have hcl:=NT (zY c) (ZK w P kind);rw [List.nil_append,Vr,WU N (LI (zY c) _) (by omega) ⟨by omega,by omega⟩]
  rfl
 ·rw [if_neg h3,if_neg h3]
theorem Uf {a b:List UInt8} (h:a.length+b.length≤140737488355328):U0 a b=some (a++b):=by unfold U0;rw [if_pos h]
theorem aDe (N:Nat) (hN:100≤N) {W:List (List UInt8) × Int} (hb:So W.1) {d:Int} (hd:-32768<d∧d≤32768) {acc:List UInt8} (ha:acc.length≤1000000) (K:List UInt8→Option (List UInt8 × Int)) :
  (Option.bind (sW N (IntKind.u64.wrap (max d (IntKind.i64.wrap (0-d))))) fun Ae=>
  cond (decide ((W.1.length:Int)≤Ae)) (
  some (([]:List UInt8),(4:Int))) (
  Option.bind (idx W.1 Ae) fun e7=>
  cond (decide (e7=([]:List UInt8))) (
  some (([]:List UInt8),(4:Int))) (
  Option.bind (idx W.1 Ae) fun e8=>
  Option.bind (U0 acc e8) fun b7=>
  cond (decide (0<Ae)) (
  cond (decide (Ae<16)) (
  cond (decide (d<0)) (
  Option.bind (nn Ae) fun _=>
  Option.bind (some (IntKind.i64.wrap (d+(IntKind.i64.wrap ((wN .i64 1 Ae)-1))))) fun x8=>
  Option.bind (oU N x8 Ae) fun DX=>
  Option.bind (U0 b7 DX.1) fun b8=>K b8) (
  Option.bind (oU N d Ae) fun Ll=>
  Option.bind (U0 b7 Ll.1) fun b9=>K b9)) (K b7)) (K b7))))=if QJ W.1 d=true then K (acc++Jb W.1 d) else some ([],4):=by
 have hc:=Sq hd
 have hmx:IntKind.u64.wrap (max d (IntKind.i64.wrap (0-d)))=(((max d (-d)).toNat:Nat):Int):=by
  rw [dC (x:=0-d) (by omega),IntWalk.u64_in _ (by omega)];omega
 rw [hmx,len_eq N (by omega),aC,show bl (max d (-d)).toNat=Fz d from rfl]
 by_cases h1:W.1.length≤Fz d
 ·rw [cT (dT (by omega)),if_neg];rw [show QJ W.1 d=false by unfold QJ;rw [dF (by omega)];rfl];simp
 rw [cF (dF (by omega)),dH]
 by_cases h2:QJ W.1 d=true
 rotate_left
 ·rw [ZJ h2 (by omega),aC,cT (dT rfl),if_neg h2]
 obtain ⟨u,hu,hu0,hg,_⟩:=ZI h2;have h15:=(IN hb (Fz d)).1;rw [hg] at h15;have hm:=QK hd;have hl:=Uc (d:=d);have hp:=Dl (d:=Fz d) hc;rw [hu,aC,cF (dF hu0),aC,Uf (by omega),aC,if_pos h2];have e0:acc++Jb W.1 d=acc++u++Tp d:=by unfold Jb;rw [hg,List.append_assoc]
 rw [e0]
 by_cases h3:Fz d=0
 ·rw [cF (dF (by omega)),show Tp d=[] by unfold Tp;rw [if_pos (.inl h3)],List.append_nil]
 rw [cT (dT (by omega))]
 by_cases h4:Fz d=16
 ·rw [cF (dF (by omega)),show Tp d=[] by unfold Tp;rw [if_pos (.inr h4)],List.append_nil]
 have hv:=aGG h3 h4 hd;have h0:d≠0:=fun e=>h3 (VG.2 e)
 have hmo:Tp d=H3 (zC 2 (Fz d) (if 0<d then d else d+((2^Fz d:Nat):Int)-1).toNat):=by unfold Tp;rw [if_neg (by omega)]
 rw [cT (dT (by omega))]
 by_cases h5:d<0
 ·rw [if_neg (by omega)] at hv hmo;rw [cT (dT h5),Bq,aC,IL hc,dC (x:=_-1) (by omega),show d+(((2^Fz d:Nat):Int)-1)=d+((2^Fz d:Nat):Int)-1 by omega,dC (by omega),aC,Im N hN,hv,if_pos rfl,aC,Int.toNat_natCast,←hmo,Uf (by rw [List.length_append];show acc.length+u.length+(Tp d).length≤_;omega),aC]
 ·rw [if_pos (by omega)] at hv hmo;rw [cF (dF h5),Im N hN,hv,if_pos rfl,aC,Int.toNat_natCast,←hmo,Uf (by rw [List.length_append];show acc.length+u.length+(Tp d).length≤_;omega),aC]
theorem ZM (N:Nat) (hN:100≤N) {W:List (List UInt8) × Int} (hb:So W.1) {w:Nat} (hw:1≤w∧w≤64) {kind:Int} (hk:1≤kind∧kind≤7) (H:Int) {P:List Int} (hP:∀e∈P,0≤e∧e≤65535) (hl:P.length≤4096) (kk):∀(j k fuel:Nat) (acc:List UInt8),k+j=P.length→j<fuel→acc.length≤31*k →
  gN N (w:Int) H P kind W kk fuel (acc,(k:Int))=if ((ds w P kind).drop k).all (QJ W.1)=true then kk (acc++NS W.1 ((ds w P kind).drop k),(P.length:Int)) else some ([],4):=by
 intro j;have hdl:=Ue w P kind
 induction j with
 | zero=>
  intro k fuel acc hkj hf ha;obtain ⟨fuel,rfl⟩:=mK fuel (by omega);obtain rfl:k=P.length:=by omega
  unfold gN;rw [cF (dF (by omega)),←hdl,List.drop_length,if_pos (by rfl)]
  simp [NS]
 | succ j ih=>
  intro k fuel acc hkj hf ha;obtain ⟨fuel,rfl⟩:=mK fuel (by omega);have hlt:k<P.length:=by omega
  have hnx:IntKind.i64.wrap ((k:Int)+1)=((k+1:Nat):Int):=by rw [dC (by omega)];rfl
  obtain ⟨p1,p2⟩:=I2 hP hlt;have hg:=aDd hP (kind:=kind) hw.1 hlt
  have hdr:(ds w P kind).drop k=dfn (P.getD k 0) (gs w P kind k)::(ds w P kind).drop (k+1):=by
   rw [List.drop_eq_getElem_cons (by omega)]
   congr 1
   have:=aGH w P kind hlt;rw [List.getElem?_eq_getElem (by omega)] at this;exact Option.some.inj this
  have hd:=ZH (P.getD k 0) (gs w P kind k)
  have fin:(if QJ W.1 (dfn (P.getD k 0) (gs w P kind k))=true then gN N (w:Int) H P kind W kk fuel (acc++Jb W.1 (dfn (P.getD k 0) (gs w P kind k)),((k+1:Nat):Int)) else some ([],4))=if ((ds w P kind).drop k).all (QJ W.1)=true then kk (acc++NS W.1 ((ds w P kind).drop k),(P.length:Int)) else some ([],4):=by
   rw [hdr,List.all_cons,IM]
   by_cases h:QJ W.1 (dfn (P.getD k 0) (gs w P kind k))=true
   ·have:=PG hb hd;rw [if_pos h,ih (k+1) fuel _ (by omega) (by omega) (by rw [List.length_append];omega),h,Bool.true_and,List.append_assoc]
   ·rw [if_neg h,(Bool.not_eq_true _).mp h,Bool.false_and,if_neg (by decide)]
  unfold gN
  have hx:IntKind.i64.wrap (IntKind.u16.wrap (IntKind.i64.wrap (P.getD k 0-gs w P kind k)))=(P.getD k 0-gs w P kind k)%65536:=by
   rw [dC (x:=P.getD k 0-_) (by omega),show IntKind.u16.wrap (P.getD k 0-gs w P kind k)=(P.getD k 0-gs w P kind k)%65536 by simp [IntKind.wrap,IntKind.bits,IntKind.signed],dC (by omega)]
  rw [cT (dT (by omega)),p1,aC,T9 hP N hw hk H hlt hl,aC,hx,aC,hnx];refine Eq.trans ?_ fin
  by_cases h:32768<(P.getD k 0-gs w P kind k)%65536
  ·have e:dfn (P.getD k 0) (gs w P kind k)=(P.getD k 0-gs w P kind k)%65536-65536:=by unfold dfn;rw [if_pos h]
   rw [cT (dT h),dC (x:=_-65536) (by omega),aC,←e];exact aDe N hN hb hd (by omega) fun b=>gN N (w:Int) H P kind W kk fuel (b,((k+1:Nat):Int))
  ·have e:dfn (P.getD k 0) (gs w P kind k)=(P.getD k 0-gs w P kind k)%65536:=by unfold dfn;rw [if_neg h]
   rw [cF (dF h),←e];exact aDe N hN hb hd (by omega) fun b=>gN N (w:Int) H P kind W kk fuel (b,((k+1:Nat):Int))
theorem NU (N:Nat) (hN:200000≤N) (W H:Int) (P:List Int) (kind:Int) (c:List Int):BT N W H P kind c=some (El W H P kind c):=by
 unfold BT El;rw [ZF N (by omega),aC]
 by_cases hp:T8 W H P=true
 rotate_left
 ·rw [(Bool.not_eq_true _).mp hp,Bool.not_false,cT rfl,if_pos rfl]
 rw [hp,Bool.not_true,cF rfl,if_neg (by decide)]
 by_cases h1:kind<1
 ·rw [cT (dT h1),if_pos (by omega)]
 rw [cF (dF h1)]
 by_cases h2:7<kind
 ·rw [cT (dT h2),if_pos (by omega)]
 rw [cF (dF h2),if_neg (by omega),T7 N (by omega),aC]
 by_cases h3:wY c=0
 rotate_left
 ·rw [cT (by rw [dF h3];rfl),if_pos h3]
 obtain ⟨w,k,rfl,rfl,a1,a2,a3,a4,a5,a6,hP⟩:=M7 hp;rw [cF (by rw [dT h3];rfl),if_neg (by omega),Int.toNat_natCast];have hdl:=Ue w P kind;have key:=ZM N (by omega) (W:=(wordsOf c,wY c)) (zY c) ⟨a1,a2⟩ (kind:=kind) (by omega) (k:Int) hP (by omega) (fun (l3,i2)=>Option.bind (zV N l3) fun TE=>some (TE.1,(0:Int))) P.length 0 N [] (by omega) (by omega) (by simp);refine Eq.trans key ?_;rw [List.drop_zero]
 dsimp only
 by_cases h4:(ds w P kind).all (QJ (wordsOf c))=true
 ·rw [if_pos h4,if_pos h4];have hcl:=NT (zY c) (ZK w P kind);rw [List.nil_append,T5 N (by omega) (by omega),aC,if_pos (LI (zY c) _)]
  rfl
 ·rw [if_neg h4,if_neg h4]
abbrev Ug:=Int × Int × Int × Int × Int × List Int × List (List UInt8) × Int × Int × Int × Int × Int × Int × List (Int × Int) × Int × Int × Int × Int × Int × Int × Int × Int × Int × Int × Int × Int × List (Int × Int) × Int × Int
def MC (e:Int):Ug:=(0,0,0,0,0,[],[],0,0,0,0,0,0,[],0,0,0,0,0,0,0,0,0,0,0,0,[],0,e)
theorem orC {β:Type} {a b:Prop} [Decidable a] [Decidable b] (kk:Bool→Option β):cond (decide a) (kk (decide a)) (kk (decide b))=kk (decide (a∨b)):=by
 by_cases h:a
 ·rw [decide_eq_true h,decide_eq_true (show a∨b from Or.inl h)];rfl
 ·rw [decide_eq_false h]
  by_cases h2:b
  ·rw [decide_eq_true h2,decide_eq_true (show a∨b from Or.inr h2)];rfl
  ·rw [decide_eq_false h2,decide_eq_false (show ¬(a∨b) from fun q=>q.elim h h2)];rfl
section
variable (W H D K R:Int) (Ls:List Int) (St:List (List UInt8)) (ph b0 b1 b2 b3 w:Int) (sp:List (Int × Int)) (g0 g1 g2 m0 m1 m2 m3 m4 m5 m6 m7 m8:Int) (cv:List (Int × Int)) (am:Int)
theorem aCq (N:Nat) (kk):CY N H R kk=kk (decide (R<1∨H<R)):=by unfold CY;exact orC kk
theorem aCr (N:Nat) (kk):CZ N H D R kk=kk (decide (16<D∨R<1∨H<R)):=by unfold CZ;rw [aCq];exact orC kk
theorem aCs (N:Nat) (kk):C0 N H D R kk=kk (decide (D<1∨16<D∨R<1∨H<R)):=by unfold C0;rw [aCr];exact orC kk
theorem aCt (N:Nat) (kk):C1 N H D R kk=kk (decide (64<H∨D<1∨16<D∨R<1∨H<R)):=by unfold C1;rw [aCs];exact orC kk
theorem aCu (N:Nat) (kk):C2 N H D R kk=kk (decide (H<1∨64<H∨D<1∨16<D∨R<1∨H<R)):=by unfold C2;rw [aCt];exact orC kk
theorem aCv (N:Nat) (kk):C3 N W H D R kk=kk (decide (64<W∨H<1∨64<H∨D<1∨16<D∨R<1∨H<R)):=by unfold C3;rw [aCu];exact orC kk
theorem aCw (N:Nat) (kk):C6 N W H D R kk=kk (decide (W<1∨64<W∨H<1∨64<H∨D<1∨16<D∨R<1∨H<R)):=by unfold C6;rw [aCv];exact orC kk
theorem aCx (N:Nat) (kk):C5 N K kk=kk (decide (K<0∨7<K)):=by unfold C5;exact orC kk
def vE:Prop:=(1≤W∧W≤64)∧(1≤H∧H≤64)∧(1≤D∧D≤16)∧1≤R∧R≤H
instance:Decidable (vE W H D R):=by unfold vE;exact inferInstance
def B4:Int:=if ¬vE W H D R then 3 else if ¬(0≤K∧K≤7) then 6 else if 0<K then wY Ls else if 0<Ls.length then 1 else 0
theorem W2 (N:Nat) (hN:100≤N):EK N W H D K R Ls St ph b0 b1 b2 b3 w sp g0 g1 g2 m0 m1 m2 m3 m4 m5 m6 m7 m8 cv am=some (B4 W H D K R Ls):=by
 unfold EK B4;rw [aCw]
 by_cases h1:vE W H D R
 rotate_left
 ·rw [cT (decide_eq_true (by unfold vE at h1;omega)),if_pos h1]
 rw [cF (decide_eq_false (by unfold vE at h1;omega)),if_neg (fun q=>q h1),aCx]
 by_cases h2:0≤K∧K≤7
 rotate_left
 ·rw [cT (decide_eq_true (by omega)),if_pos h2]
 rw [cF (decide_eq_false (by omega)),if_neg (fun q=>q h2)]
 by_cases h3:0<K
 ·rw [cT (dT h3),JK N hN,aC,if_pos h3]
 rw [cF (dF h3),if_neg h3]
 by_cases h4:0<Ls.length
 ·rw [cT (dT (by omega)),if_pos h4]
 ·rw [cF (dF (by omega)),if_neg h4]
theorem ZN (N:Nat) (hN:100≤N):oV N W H D K R Ls St ph b0 b1 b2 b3 w sp g0 g1 g2 m0 m1 m2 m3 m4 m5 m6 m7 m8 cv am=some (B4 W H D K R Ls):=by
 unfold oV B4;rw [B3,aC]
 by_cases h1:1≤W∧W≤64
 rotate_left
 ·rw [cT (by rw [dF h1];rfl),if_pos (fun q=>h1 q.1)]
 rw [cF (by rw [dT h1];rfl),B3,aC]
 by_cases h2:1≤H∧H≤64
 rotate_left
 ·rw [cT (by rw [dF h2];rfl),if_pos (fun q=>h2 q.2.1)]
 rw [cF (by rw [dT h2];rfl),B3,aC]
 by_cases h3:1≤D∧D≤16
 rotate_left
 ·rw [cT (by rw [dF h3];rfl),if_pos (fun q=>h3 q.2.2.1)]
 rw [cF (by rw [dT h3];rfl),B3,aC]
 by_cases h4:1≤R∧R≤H
 rotate_left
 ·rw [cT (by rw [dF h4];rfl),if_pos (fun q=>h4 q.2.2.2)]
 rw [cF (by rw [dT h4];rfl),B3,aC,if_neg (fun q=>q ⟨h1,h2,h3,h4⟩)]
 by_cases h5:0≤K∧K≤7
 rotate_left
 ·rw [cT (by rw [dF h5];rfl),if_pos h5]
 rw [cF (by rw [dT h5];rfl),if_neg (fun q=>q h5)]
 by_cases h6:K=0
 ·rw [cT (dT h6),if_neg (by omega)]
  by_cases h7:0<Ls.length
  ·rw [cT (dT (by omega)),if_pos h7]
  ·rw [cF (dF (by omega)),cF (dF (by omega)),if_neg h7]
 ·rw [cF (dF h6),cT (dT (by omega)),PD N hN,aC,if_pos (by omega)]
def NV (f:Bool):Int:=if yH ph b0 b1 b2 b3 w sp g0 g1 g2 m0 m1 m2 m3 m4 m5 m6 m7 m8 am=false then 3 else if f=false then 1 else if sp.all (gC W H)=false then 3 else 0
theorem aEV (s:List (Int × Int)) (hl:s.length≤4096):∀(d k fuel:Nat),k+d=s.length→d<fuel →
  ∃r,bR 1125899906842624 s W H D K R Ls St ph b0 b1 b2 b3 w sp g0 g1 g2 m0 m1 m2 m3 m4 m5 m6 m7 m8 cv am (fun _=>some (-1)) fuel (k:Int)=some r∧decide (0≤r) = !((s.drop k).all fun q=>decide (q.1<W∧q.2<H)):=by
 intro d
 induction d with
 | zero=>
  intro k fuel hk hf;obtain ⟨fuel,rfl⟩:=mK fuel (by omega);obtain rfl:k=s.length:=by omega
  unfold bR;rw [cF (dF (by omega))];exact ⟨_,rfl,by simp⟩
 | succ d ih=>
  intro k fuel hk hf;obtain ⟨fuel,rfl⟩:=mK fuel (by omega);have hlt:k<s.length:=by omega
  unfold bR Ei;rw [cT (dT (by omega)),dH,List.getElem?_eq_getElem hlt,aC,List.drop_eq_getElem_cons hlt,List.all_cons]
  by_cases h1:W≤s[k].1
  ·rw [cT (dT h1),aC,cT rfl];refine ⟨_,rfl,?_⟩;rw [dT (by omega),decide_eq_false (show ¬(s[k].1<W∧s[k].2<H) by omega)];rfl
  rw [cF (dF h1),aC]
  by_cases h2:H≤s[k].2
  ·rw [cT (dT h2)];refine ⟨_,rfl,?_⟩;rw [dT (by omega),decide_eq_false (show ¬(s[k].1<W∧s[k].2<H) by omega)];rfl
  ·rw [cF (dF h2),dC (by omega),decide_eq_true (show (s[k].1<W∧s[k].2<H) by omega),Bool.true_and];exact ih (k+1) fuel (by omega) (by omega)
theorem Sr (s:List (Int × Int)) (hl:s.length≤4096):dV 1125899906842624 s W H D K R Ls St ph b0 b1 b2 b3 w sp g0 g1 g2 m0 m1 m2 m3 m4 m5 m6 m7 m8 cv am=some (!(s.all fun q=>decide (q.1<W∧q.2<H))):=by
 obtain ⟨r,hr,hd⟩:=aEV W H D K R Ls St ph b0 b1 b2 b3 w sp g0 g1 g2 m0 m1 m2 m3 m4 m5 m6 m7 m8 cv am s hl s.length 0 1125899906842624 (by omega) (by omega);have hr':bR 1125899906842624 s W H D K R Ls St ph b0 b1 b2 b3 w sp g0 g1 g2 m0 m1 m2 m3 m4 m5 m6 m7 m8 cv am (fun _=>some (-1)) 1125899906842624 0=some r:=hr;unfold dV fO;rw [hr',aC,hd,List.drop_zero]
theorem Uh {s:List (Int × Int)} (h:s.all (gC 64 64)=true):(s.all fun q=>decide (q.1<W∧q.2<H))=s.all (gC W H):=by
 induction s with
 | nil=>rfl
 | cons q s ih=>
  rw [List.all_cons,Bool.and_eq_true] at h;rw [List.all_cons,List.all_cons,ih h.2]
  congr 1
  have h1:=h.1;unfold gC at h1 ⊢;simp only [Bool.and_eq_true,decide_eq_true_eq] at h1;rw [dT h1.1.1.1,dT h1.1.2,Bool.true_and,Bool.and_true]
  by_cases a:q.1<W <;> by_cases b:q.2<H <;> simp [a,b]
theorem Io (h:yH ph b0 b1 b2 b3 w sp g0 g1 g2 m0 m1 m2 m3 m4 m5 m6 m7 m8 am=true):sp.length≤64∧sp.all (gC 64 64)=true:=by
 unfold yH at h;simp only [Bool.and_eq_true,decide_eq_true_eq] at h;exact ⟨h.2.2.2.1,h.2.2.2.2.1⟩
theorem W4 {f:Bool} (hb:kE 1125899906842624 cv=some f) (hc:f=true↔pJ cv):ET 1125899906842624 W H D K R Ls St ph b0 b1 b2 b3 w sp g0 g1 g2 m0 m1 m2 m3 m4 m5 m6 m7 m8 cv am=some (NV W H ph b0 b1 b2 b3 w sp g0 g1 g2 m0 m1 m2 m3 m4 m5 m6 m7 m8 am f):=by
 unfold ET NV;rw [Kk ph b0 b1 b2 b3 w sp g0 g1 g2 m0 m1 m2 m3 m4 m5 m6 m7 m8 cv am hb hc,aC]
 by_cases h1:yH ph b0 b1 b2 b3 w sp g0 g1 g2 m0 m1 m2 m3 m4 m5 m6 m7 m8 am=false
 ·rw [if_pos h1,cT (by rfl),if_pos h1]
 rw [if_neg h1,if_neg h1];have h1':=(Bool.not_eq_false _).mp h1
 by_cases h2:f=false
 ·rw [if_pos h2,cT (by rfl),if_pos h2]
 rw [if_neg h2,cF (by rfl),if_neg h2];obtain ⟨p1,p2⟩:=Io ph b0 b1 b2 b3 w sp g0 g1 g2 m0 m1 m2 m3 m4 m5 m6 m7 m8 am h1';rw [Sr W H D K R Ls St ph b0 b1 b2 b3 w sp g0 g1 g2 m0 m1 m2 m3 m4 m5 m6 m7 m8 cv am sp (by omega),aC,Uh W H p2]
 by_cases h3:sp.all (gC W H)=false
 ·rw [h3,if_pos rfl,cT (by rfl)]
 ·rw [(Bool.not_eq_false _).mp h3,cF (by rfl),if_neg (by decide)]
theorem ZO {f:Bool} (hb:gP 1125899906842624 cv=some f) (hW:1≤W∧W≤64) (hH:1≤H∧H≤64):oY 1125899906842624 W H D K R Ls St ph b0 b1 b2 b3 w sp g0 g1 g2 m0 m1 m2 m3 m4 m5 m6 m7 m8 cv am=some (NV W H ph b0 b1 b2 b3 w sp g0 g1 g2 m0 m1 m2 m3 m4 m5 m6 m7 m8 am f):=by
 unfold oY NV;rw [Qx ph b0 b1 b2 b3 w sp g0 g1 g2 m0 m1 m2 m3 m4 m5 m6 m7 m8 cv am hb,aC]
 by_cases h1:yH ph b0 b1 b2 b3 w sp g0 g1 g2 m0 m1 m2 m3 m4 m5 m6 m7 m8 am=false
 ·rw [if_pos h1,cT (by rfl),if_pos h1]
 rw [if_neg h1,if_neg h1];have h1':=(Bool.not_eq_false _).mp h1
 by_cases h2:f=false
 ·rw [if_pos h2,cT (by rfl),if_pos h2]
 rw [if_neg h2,cF (by rfl),if_neg h2];obtain ⟨p1,p2⟩:=Io ph b0 b1 b2 b3 w sp g0 g1 g2 m0 m1 m2 m3 m4 m5 m6 m7 m8 am h1';rw [NK sp (by omega) (by omega) (by omega),aC]
 by_cases h3:sp.all (gC W H)=false
 ·rw [h3,if_pos rfl,cT (by rfl)]
 ·rw [(Bool.not_eq_false _).mp h3,cF (by rfl),if_neg (by decide)]
end
theorem aEW (N:Nat) {l:List Int} (hl:l.length≤4096):∀(j k fuel:Nat) (m:Int),k+j=l.length→j<fuel→∃M,lX N l (fun (m4,i4)=>some m4) fuel (m,(k:Int))=some M∧∀b,M≤b↔m≤b∧∀e∈l.drop k,e≤b:=by
 intro j
 induction j with
 | zero=>
  intro k fuel m hk hf;obtain ⟨fuel,rfl⟩:=mK fuel (by omega);unfold lX;rw [cF (dF (by omega))];refine ⟨m,rfl,fun b=>⟨fun h=>⟨h,fun e he=>?_⟩,fun h=>h.1⟩⟩;rw [List.drop_of_length_le (by omega)] at he;cases he
 | succ j ih=>
  intro k fuel m hk hf;obtain ⟨fuel,rfl⟩:=mK fuel (by omega);have hlt:k<l.length:=by omega
  obtain ⟨M,h1,h2⟩:=ih (k+1) fuel (max m l[k]) (by omega) (by omega);refine ⟨M,?_,fun b=>?_⟩
  ·unfold lX;rw [cT (dT (by omega)),dH,List.getElem?_eq_getElem hlt,aC,aC,dC (x:=(k:Int)+1) (by omega),aC];exact h1
  ·rw [h2 b,List.drop_eq_getElem_cons hlt]
   constructor
   ·rintro ⟨q1,q2⟩;refine ⟨by omega,fun e he=>?_⟩
    rcases List.mem_cons.1 he with rfl | he
    ·omega
    ·exact q2 e he
   ·rintro ⟨q1,q2⟩;have:=q2 l[k] (List.mem_cons_self ..);exact ⟨by omega,fun e he=>q2 e (List.mem_cons_of_mem _ he)⟩
theorem max_eq (N:Nat) {l:List Int} (h0:1≤l.length) (hl:l.length≤4096) (hN:5000≤N):∃M,rA N l=some M∧∀b,M≤b↔∀e∈l,e≤b:=by
 obtain ⟨x,l,rfl⟩:∃x t,l=x::t:=by
  cases l with
  | nil=>simp at h0
  | cons x t=>exact ⟨x,t,rfl⟩
 obtain ⟨M,h1,h2⟩:=aEW N hl ((x::l).length-1) 1 N x (by omega) (by omega);refine ⟨M,?_,fun b=>?_⟩
 ·unfold rA;rw [cF (dF (by omega)),show idx (x::l) 0=some x from rfl,aC];exact h1
 ·rw [h2 b,List.drop_one,List.tail_cons]
  constructor
  ·rintro ⟨q1,q2⟩ e he
   rcases List.mem_cons.1 he with rfl | he
   ·exact q1
   ·exact q2 e he
  ·intro q;exact ⟨q x (List.mem_cons_self ..),fun e he=>q e (List.mem_cons_of_mem _ he)⟩
theorem aCy (N:Nat) {l:List Int} (hl:l.length≤4096) {d:Nat} (hd:1≤d∧d≤16) (kk):∀(j k fuel:Nat),k+j=l.length→j<fuel→lD N l (d:Int) kk fuel (k:Int)=if (l.drop k).all (fun e=>decide (e<((2^d:Nat):Int)))=true then kk (l.length:Int) else some false:=by
 intro j
 induction j with
 | zero=>
  intro k fuel hk hf;obtain ⟨fuel,rfl⟩:=mK fuel (by omega);obtain rfl:k=l.length:=by omega
  unfold lD;rw [cF (dF (by omega)),List.drop_length,if_pos (by rfl)]
 | succ j ih=>
  intro k fuel hk hf;obtain ⟨fuel,rfl⟩:=mK fuel (by omega);have hlt:k<l.length:=by omega
  have hnx:IntKind.i64.wrap ((k:Int)+1)=((k+1:Nat):Int):=by rw [dC (by omega)];rfl
  have hp:=Dl (d:=d) hd.2;have hp0:=Nat.two_pow_pos d;unfold lD;rw [cT (dT (by omega)),dH,List.getElem?_eq_getElem hlt,aC,Bq,aC,IL hd.2,dC (x:=((2^d:Nat):Int)-1) (by omega),List.drop_eq_getElem_cons hlt,List.all_cons]
  by_cases h:l[k]<((2^d:Nat):Int)
  ·rw [cF (dF (by omega)),hnx,aC,ih (k+1) fuel (by omega) (by omega),decide_eq_true h,Bool.true_and]
  ·rw [cT (dT (by omega)),if_neg];rw [decide_eq_false h];simp
theorem aCz (N:Nat) (hN:5000≤N) {l:List Int} (hl:l.length≤4096) {d:Nat} (hd:1≤d∧d≤16):qB N l (d:Int)=some (l.all (fun e=>decide (e<((2^d:Nat):Int)))):=by
 unfold qB;have:=aCy N hl hd (fun _=>some true) l.length 0 N (by omega) (by omega);refine Eq.trans this ?_;rw [List.drop_zero]
 split
 ·rename_i h;rw [h]
 ·rename_i h;rw [(Bool.not_eq_true _).mp h]
def CM (H R:Nat):Nat:=(H+R-1)/R
def uT (H R i:Nat):Nat:=min R (H-i*R)
theorem cnt_lt {H R i:Nat} (hR:1≤R):i<CM H R↔i*R<H:=by
 unfold CM;rw [Nat.lt_div_iff_mul_lt (by omega)]
 omega
theorem JM {H R:Nat} (hR:1≤R) (hH:1≤H):CM H R≤H∧1≤CM H R:=by
 refine ⟨?_,?_⟩
 ·unfold CM;refine Nat.div_le_of_le_mul ?_;have:R*H=(R-1)*H+H:=by rw [Nat.sub_mul];have:=Nat.le_mul_of_pos_left H hR;omega
  have h2:R-1≤(R-1)*H:=Nat.le_mul_of_pos_right _ hH
  omega
 ·have:=(cnt_lt (H:=H) (i:=0) hR).2 (by omega)
  omega
theorem Ui (N:Nat) {H R:Nat} (hR:1≤R∧R≤H) (hH:H≤64) (kk):∀(j k fuel:Nat),k+j=CM H R→j<fuel →
  uN N (H:Int) (R:Int) kk fuel ((List.range k).map fun i=>(((i*R:Nat):Int),((uT H R i:Nat):Int)),((k*R:Nat):Int))=kk ((List.range (CM H R)).map fun i=>(((i*R:Nat):Int),((uT H R i:Nat):Int)),((CM H R*R:Nat):Int)):=by
 have hcl:=JM (H:=H) (R:=R) hR.1 (by omega);intro j
 induction j with
 | zero=>
  intro k fuel hk hf;obtain ⟨fuel,rfl⟩:=mK fuel (by omega);obtain rfl:k=CM H R:=by omega
  have:=mt (cnt_lt (H:=H) (R:=R) (i:=CM H R) hR.1).2 (by omega);unfold uN;rw [cF (dF (by omega))]
 | succ j ih=>
  intro k fuel hk hf;obtain ⟨fuel,rfl⟩:=mK fuel (by omega);have hlt:=(cnt_lt (H:=H) (R:=R) (i:=k) hR.1).1 (by omega)
  have e1:min (R:Int) (IntKind.i64.wrap ((H:Int)-((k*R:Nat):Int)))=((uT H R k:Nat):Int):=by
   rw [dC (by omega)];unfold uT;omega
  have e2:IntKind.i64.wrap (((k*R:Nat):Int)+(R:Int))=(((k+1)*R:Nat):Int):=by
   rw [Nat.add_mul,dC (by omega)];omega
  unfold uN;rw [cT (dT (by omega)),e1,lI (by simp;omega),aC,e2,aC];have:=ih (k+1) fuel (by omega) (by omega);rw [List.range_succ,List.map_append,List.map_singleton] at this;exact this
def partOf (W H R:Nat) (P:List Int) (i:Nat):List Int:=(P.take ((i*R+uT H R i)*W)).drop (i*R*W)
def Cy (D:Nat) (K:Int) (Ls:List Int) (W H R:Nat) (P:List Int):Nat→Nat→List (List UInt8)→List (List UInt8) × Int
 | 0,_,acc=>(acc,0)
 | n+1,i,acc=>if 0<K then (if (El (W:Int) ((uT H R i:Nat):Int) (partOf W H R P i) K Ls).2=0 then Cy D K Ls W H R P n (i+1) (acc++[(El (W:Int) ((uT H R i:Nat):Int) (partOf W H R P i) K Ls).1]) else ([],(El (W:Int) ((uT H R i:Nat):Int) (partOf W H R P i) K Ls).2))
  else Cy D K Ls W H R P n (i+1) (acc++[(Sc D (partOf W H R P i)).map UInt8.ofNat])
theorem VJ {W H R i:Nat} {P:List Int} (hl:P.length=W*H) (hR:1≤R) (hi:i<CM H R):(i*R+uT H R i)*W≤P.length∧i*R*W≤(i*R+uT H R i)*W∧i*R+uT H R i≤H:=by
 have h1:=(cnt_lt (H:=H) (R:=R) (i:=i) hR).1 hi;have h2:i*R+uT H R i≤H:=by unfold uT;omega
 refine ⟨?_,Nat.mul_le_mul_right _ (by omega),h2⟩;rw [hl,Nat.mul_comm W H];exact Nat.mul_le_mul_right _ h2
section
variable (W H D K R:Int) (Ls:List Int) (St:List (List UInt8)) (ph b0 b1 b2 b3 w:Int) (sp:List (Int × Int)) (g0 g1 g2 m0 m1 m2 m3 m4 m5 m6 m7 m8:Int) (cv:List (Int × Int)) (am:Int)
theorem QL (N:Nat) (hN:200000≤N) {W H R d:Nat} (hW:1≤W∧W≤64) (hH:1≤H∧H≤64) (hR:1≤R∧R≤H) (hd:1≤d∧d≤16) {P:List Int} (hl:P.length=W*H) (hP:P.all (Vp d)=true) (kk:List (List UInt8) × Int→Option Ug):∀(j k fuel:Nat) (acc:List (List UInt8)),k+j=CM H R→j<fuel→acc.length=k →
  vD N (d:Int) K Ls (W:Int) P ((List.range (CM H R)).map fun i=>(((i*R:Nat):Int),((uT H R i:Nat):Int))) kk fuel (acc,(k:Int))=if (Cy d K Ls W H R P j k acc).2=0 then kk ((Cy d K Ls W H R P j k acc).1,((CM H R:Nat):Int)) else some (MC (Cy d K Ls W H R P j k acc).2):=by
 have hcl:=JM (H:=H) (R:=R) hR.1 hH.1;have hm:=Nat.mul_le_mul hW.2 hH.2;intro j
 induction j with
 | zero=>
  intro k fuel acc hk hf ha;obtain ⟨fuel,rfl⟩:=mK fuel (by omega);unfold vD Cy;rw [cF (dF (by simp;omega)),if_pos rfl]
  congr 2
  omega
 | succ j ih=>
  intro k fuel acc hk hf ha;obtain ⟨fuel,rfl⟩:=mK fuel (by omega);obtain ⟨q1,q2,q3⟩:=VJ hl hR.1 (i:=k) (by omega);have hnx:IntKind.i64.wrap ((k:Int)+1)=((k+1:Nat):Int):=by rw [dC (by omega)];rfl
  have e1:IntKind.i64.wrap (((k*R:Nat):Int)*(W:Int))=((k*R*W:Nat):Int):=by rw [show ((k*R:Nat):Int)*(W:Int)=((k*R*W:Nat):Int) by simp,dC (by omega)]
  have e2:IntKind.i64.wrap (IntKind.i64.wrap (((k*R:Nat):Int)+((uT H R k:Nat):Int))*(W:Int))=(((k*R+uT H R k)*W:Nat):Int):=by
   rw [dC (x:=((k*R:Nat):Int)+_) (by omega),show (((k*R:Nat):Int)+((uT H R k:Nat):Int))*(W:Int)=(((k*R+uT H R k)*W:Nat):Int) by simp,dC (by omega)]
  have hs:Tz P ((k*R*W:Nat):Int) (((k*R+uT H R k)*W:Nat):Int)=some (partOf W H R P k):=by
   rw [Nv (by omega),Int.toNat_natCast,Int.toNat_natCast];rfl
  have hpa:(partOf W H R P k).all (Vp d)=true:=by
   rw [List.all_eq_true] at hP ⊢;exact fun x hx=>hP x (List.mem_of_mem_take (List.mem_of_mem_drop hx))
  have hpl:(partOf W H R P k).length≤4096:=by unfold partOf;rw [List.length_drop,List.length_take];omega
  have hpe:C8 (partOf W H R P k) (d:Int)=0:=by unfold C8;rw [if_neg (by omega),if_neg (by omega),Int.toNat_natCast,if_pos hpa]
  unfold vD Cy;rw [cT (dT (by simp;omega)),dH,List.getElem?_map,List.getElem?_range (by omega)];show Option.bind (some _) _=_;rw [aC]
  dsimp only
  rw [e1,e2,hs,aC,aCf N (by omega),aC,if_pos hpe]
  by_cases hK:0<K
  ·rw [cT (dT hK),NU N hN,aC,if_pos hK]
   by_cases h0:(El (W:Int) ((uT H R k:Nat):Int) (partOf W H R P k) K Ls).2=0
   ·rw [cF (by rw [dT h0];rfl),lI (by simp;omega),aC,hnx,if_pos h0];exact ih (k+1) fuel _ (by omega) (by omega) (by simp;omega)
   ·rw [cT (by rw [dF h0];rfl),if_neg h0,if_neg h0];rfl
  ·rw [cF (dF hK),if_neg hK,cF (by rfl),lI (by simp;omega),aC,hnx,Int.toNat_natCast];exact ih (k+1) fuel _ (by omega) (by omega) (by simp;omega)
theorem Ss (N:Nat) (hN:200000≤N) {W H R d:Nat} (hW:1≤W∧W≤64) (hH:1≤H∧H≤64) (hR:1≤R∧R≤H) (hd:1≤d∧d≤16) {P:List Int} (hl:P.length=W*H) (hP:P.all (Vp d)=true) (kk:List (List UInt8) × Int→Option Ug):∀(j k fuel:Nat) (acc:List (List UInt8)),k+j=CM H R→j<fuel→acc.length=k →
  jQ N (W:Int) (H:Int) (d:Int) K (R:Int) Ls St ph b0 b1 b2 b3 w sp g0 g1 g2 m0 m1 m2 m3 m4 m5 m6 m7 m8 cv am P kk fuel (acc,(k:Int))=if (Cy d K Ls W H R P j k acc).2=0 then kk ((Cy d K Ls W H R P j k acc).1,((CM H R:Nat):Int)) else some (MC (Cy d K Ls W H R P j k acc).2):=by
 have hcl:=JM (H:=H) (R:=R) hR.1 hH.1;have hm:=Nat.mul_le_mul hW.2 hH.2
 have hcnt:IntKind.i64.wrap (Int.tdiv (IntKind.i64.wrap (IntKind.i64.wrap ((H:Int)+(R:Int))-1)) (R:Int))=((CM H R:Nat):Int):=by
  rw [dC (x:=(H:Int)+R) (by omega),dC (x:=(H:Int)+R-1) (by omega),show (H:Int)+R-1=((H+R-1:Nat):Int) by omega,show Int.tdiv ((H+R-1:Nat):Int) (R:Int)=(((H+R-1)/R:Nat):Int) from rfl];exact dC (x:=((CM H R:Nat):Int)) (by omega)
 intro j
 induction j with
 | zero=>
  intro k fuel acc hk hf ha;obtain ⟨fuel,rfl⟩:=mK fuel (by omega);unfold jQ Cy sH;rw [AF (by omega),aC,hcnt,aC,cF (dF (by omega)),if_pos rfl]
  congr 2
  omega
 | succ j ih=>
  intro k fuel acc hk hf ha;obtain ⟨fuel,rfl⟩:=mK fuel (by omega);obtain ⟨q1,q2,q3⟩:=VJ hl hR.1 (i:=k) (by omega);have hkR:=(cnt_lt (H:=H) (R:=R) (i:=k) hR.1).1 (by omega);have hnx:IntKind.i64.wrap ((k:Int)+1)=((k+1:Nat):Int):=by rw [dC (by omega)];rfl
  have e0:IntKind.i64.wrap ((k:Int)*(R:Int))=((k*R:Nat):Int):=by rw [show (k:Int)*(R:Int)=((k*R:Nat):Int) by simp,dC (by omega)]
  have er:min (R:Int) (IntKind.i64.wrap ((H:Int)-((k*R:Nat):Int)))=((uT H R k:Nat):Int):=by
   rw [dC (by omega)];unfold uT;omega
  have e1:IntKind.i64.wrap (((k*R:Nat):Int)*(W:Int))=((k*R*W:Nat):Int):=by rw [show ((k*R:Nat):Int)*(W:Int)=((k*R*W:Nat):Int) by simp,dC (by omega)]
  have e2:IntKind.i64.wrap (IntKind.i64.wrap (((k*R:Nat):Int)+((uT H R k:Nat):Int))*(W:Int))=(((k*R+uT H R k)*W:Nat):Int):=by
   rw [dC (x:=((k*R:Nat):Int)+_) (by omega),show (((k*R:Nat):Int)+((uT H R k:Nat):Int))*(W:Int)=(((k*R+uT H R k)*W:Nat):Int) by simp,dC (by omega)]
  have hs:Tz P ((k*R*W:Nat):Int) (((k*R+uT H R k)*W:Nat):Int)=some (partOf W H R P k):=by
   rw [Nv (by omega),Int.toNat_natCast,Int.toNat_natCast];rfl
  have hpa:(partOf W H R P k).all (Vp d)=true:=by
   rw [List.all_eq_true] at hP ⊢;exact fun x hx=>hP x (List.mem_of_mem_take (List.mem_of_mem_drop hx))
  have hpl:(partOf W H R P k).length≤4096:=by unfold partOf;rw [List.length_drop,List.length_take];omega
  unfold jQ Cy sH rD;rw [AF (by omega),aC,hcnt,aC,cT (dT (by omega)),e0,er,aC,aC,e1,e2,hs,aC,WP N (by omega) hd hpl hpa,aC]
  by_cases hK:0<K
  ·rw [cT (dT hK),OW N hN,aC,if_pos hK]
   by_cases h0:(El (W:Int) ((uT H R k:Nat):Int) (partOf W H R P k) K Ls).2=0
   ·rw [cF (by rw [dT h0];rfl),lI (by simp;omega),aC,hnx,aC,if_pos h0];exact ih (k+1) fuel _ (by omega) (by omega) (by simp;omega)
   ·rw [cT (by rw [dF h0];rfl),if_neg h0,if_neg h0];rfl
  ·rw [cF (dF hK),if_neg hK,lI (by simp;omega),aC,hnx,aC];exact ih (k+1) fuel _ (by omega) (by omega) (by simp;omega)
def Ko (f:Bool) (oW oH:Int) (P:List Int):Ug:=
 if B4 W H D K R Ls≠0 then MC (B4 W H D K R Ls) else if NV W H ph b0 b1 b2 b3 w sp g0 g1 g2 m0 m1 m2 m3 m4 m5 m6 m7 m8 am f≠0 then MC (NV W H ph b0 b1 b2 b3 w sp g0 g1 g2 m0 m1 m2 m3 m4 m5 m6 m7 m8 am f) else
 if T8 oW oH P=false∨oW≠W∨oH≠H∨P.all (fun e=>decide (e<((2^D.toNat:Nat):Int)))=false then MC 1 else
 if (Cy D.toNat K Ls W.toNat H.toNat R.toNat P (CM H.toNat R.toNat) 0 []).2=0 then (W,H,D,K,R,Ls,(Cy D.toNat K Ls W.toNat H.toNat R.toNat P (CM H.toNat R.toNat) 0 []).1,ph,b0,b1,b2,b3,w,sp,g0,g1,g2,m0,m1,m2,m3,m4,m5,m6,m7,m8,cv,am,0) else MC (Cy D.toNat K Ls W.toNat H.toNat R.toNat P (CM H.toNat R.toNat) 0 []).2
theorem QM (h:B4 W H D K R Ls=0):vE W H D R∧(0≤K∧K≤7)∧(Ls.length≤17)∧(0<K→wY Ls=0):=by
 unfold B4 at h
 by_cases h1:vE W H D R
 rotate_left
 ·rw [if_pos h1] at h;cases h
 rw [if_neg (fun q=>q h1)] at h
 by_cases h2:0≤K∧K≤7
 rotate_left
 ·rw [if_pos h2] at h;cases h
 rw [if_neg (fun q=>q h2)] at h;refine ⟨h1,h2,?_⟩
 by_cases h3:0<K
 ·rw [if_pos h3] at h;refine ⟨?_,fun _=>h⟩;obtain ⟨ns,rfl,_,_,h17,_⟩:=QI h;rw [pV];exact h17
 ·rw [if_neg h3] at h;refine ⟨?_,fun q=>absurd q h3⟩
  by_cases h4:0<Ls.length
  ·rw [if_pos h4] at h;cases h
  ·omega
theorem aEX (N:Nat) (hN:5000≤N) (W H:Int) (P:List Int):bW W H P=T8 W H P:=Option.some.inj ((Kf N W H P hN).symm.trans (NQ N hN W H P))
theorem LJ {cv:List (Int × Int)} (h:pJ cv):cv.length≤16:=by
 have:=h.len
 omega
end
theorem QN:j5 1125899906842624=some true:=by kernel_rfl
section
variable (W H D K R:Int) (Ls:List Int) (St:List (List UInt8)) (ph b0 b1 b2 b3 w:Int) (sp:List (Int × Int)) (g0 g1 g2 m0 m1 m2 m3 m4 m5 m6 m7 m8:Int) (cv:List (Int × Int)) (am:Int)
theorem QO {f:Bool} (h:NV W H ph b0 b1 b2 b3 w sp g0 g1 g2 m0 m1 m2 m3 m4 m5 m6 m7 m8 am f=0):yH ph b0 b1 b2 b3 w sp g0 g1 g2 m0 m1 m2 m3 m4 m5 m6 m7 m8 am=true∧f=true∧sp.all (gC W H)=true:=by
 unfold NV at h
 by_cases h1:yH ph b0 b1 b2 b3 w sp g0 g1 g2 m0 m1 m2 m3 m4 m5 m6 m7 m8 am=false
 ·rw [if_pos h1] at h;cases h
 rw [if_neg h1] at h
 by_cases h2:f=false
 ·rw [if_pos h2] at h;cases h
 rw [if_neg h2] at h
 by_cases h3:sp.all (gC W H)=false
 ·rw [if_pos h3] at h;cases h
 exact ⟨(Bool.not_eq_false _).mp h1,(Bool.not_eq_false _).mp h2,(Bool.not_eq_false _).mp h3⟩
theorem Su {P:List Int} (hP:∀e∈P,0≤e∧e≤65535) (d:Nat):P.all (fun e=>decide (e<((2^d:Nat):Int)))=P.all (Vp d):=by
 rw [Bool.eq_iff_iff,List.all_eq_true,List.all_eq_true]
 constructor
 ·intro h e he;have:=of_decide_eq_true (h e he);exact decide_eq_true ⟨(hP e he).1,this⟩
 ·intro h e he;exact decide_eq_true (of_decide_eq_true (h e he)).2
theorem W5 {f:Bool} (hb:kE 1125899906842624 cv=some f) (hc:f=true↔pJ cv) (oW oH:Int) (P:List Int) (hl:P.length≤9223372036854775807):CJ 1125899906842624 W H D K R Ls St ph b0 b1 b2 b3 w sp g0 g1 g2 m0 m1 m2 m3 m4 m5 m6 m7 m8 cv am oW oH P=some (Ko W H D K R Ls ph b0 b1 b2 b3 w sp g0 g1 g2 m0 m1 m2 m3 m4 m5 m6 m7 m8 cv am f oW oH P):=by
 unfold CJ Ko;rw [W2 W H D K R Ls St ph b0 b1 b2 b3 w sp g0 g1 g2 m0 m1 m2 m3 m4 m5 m6 m7 m8 cv am 1125899906842624 (by decide),aC]
 by_cases h1:B4 W H D K R Ls=0
 rotate_left
 ·rw [cT (by rw [decide_eq_false h1];rfl),if_pos h1];rfl
 rw [cF (by rw [decide_eq_true h1];rfl),if_neg (fun q=>q h1),W4 W H D K R Ls St ph b0 b1 b2 b3 w sp g0 g1 g2 m0 m1 m2 m3 m4 m5 m6 m7 m8 cv am hb hc,aC]
 by_cases h2:NV W H ph b0 b1 b2 b3 w sp g0 g1 g2 m0 m1 m2 m3 m4 m5 m6 m7 m8 am f=0
 rotate_left
 ·rw [cT (by rw [decide_eq_false h2];rfl),if_pos h2];rfl
 rw [cF (by rw [decide_eq_true h2];rfl),if_neg (fun q=>q h2),ND 1125899906842624 oW oH P hl,aC,aEX 1125899906842624 (by decide)];obtain ⟨q1,q2,q3,q4⟩:=QM W H D K R Ls h1;obtain ⟨p1,p2,p3⟩:=QO W H ph b0 b1 b2 b3 w sp g0 g1 g2 m0 m1 m2 m3 m4 m5 m6 m7 m8 am h2
 by_cases h3:T8 oW oH P=true
 rotate_left
 ·have h3':=(Bool.not_eq_true _).mp h3;rw [h3',if_pos rfl,cT (by rfl),if_pos (.inl rfl)];rfl
 rw [h3,if_neg (by decide),cF (by rfl)]
 by_cases h4:oW=W
 rotate_left
 ·rw [cT (by rw [decide_eq_false h4];rfl),if_pos (.inr (.inl h4))];rfl
 by_cases h5:oH=H
 rotate_left
 ·rw [cF (by rw [decide_eq_true h4];rfl),cT (by rw [decide_eq_false h5];rfl),if_pos (.inr (.inr (.inl h5)))];rfl
 rw [cF (by rw [decide_eq_true h4];rfl),cF (by rw [decide_eq_true h5];rfl)];subst h4 h5;obtain ⟨w',k',rfl,rfl,a1,a2,a3,a4,a5,a6,hP⟩:=M7 h3;obtain ⟨d,rfl⟩:=Int.eq_ofNat_of_zero_le (show 0≤D by unfold vE at q1;omega);obtain ⟨r,rfl⟩:=Int.eq_ofNat_of_zero_le (show 0≤R by unfold vE at q1;omega);have hd:1≤d∧d≤16:=by unfold vE at q1;omega
 have hr:1≤r∧r≤k':=by unfold vE at q1;omega
 have hpos:1≤P.length:=by rw [a5];exact Nat.mul_pos (by omega) (by omega)
 obtain ⟨M,e1,e2⟩:=max_eq 1125899906842624 hpos (by omega) (by decide);obtain ⟨x0,hx0⟩:∃x,x∈P:=⟨P[0],List.getElem_mem (by omega)⟩
 have hM0:0≤M:=by
  have:=(e2 M).1 (Int.le_refl _) x0 hx0;have:=(hP x0 hx0).1
  omega
 obtain ⟨m,rfl⟩:=Int.eq_ofNat_of_zero_le hM0;have hp2:=Nat.two_pow_pos d
 have hsh:(0<((m/2^d:Nat):Int))↔P.all (fun e=>decide (e<((2^d:Nat):Int)))=false:=by
  have h6:=e2 (((2^d:Nat):Int)-1);have h7:(0<m/2^d)↔2^d≤m:=Nat.div_pos_iff.trans ⟨fun q=>q.2,fun q=>⟨hp2,q⟩⟩
  constructor
  ·intro q;rw [Bool.eq_false_iff];intro q2;rw [List.all_eq_true] at q2;have:=h6.2 fun e he=>by have:=of_decide_eq_true (q2 e he);omega
   have:=h7.1 (by omega)
   omega
  ·intro q
   have:¬m<2^d:=fun q2=>by
    have:=h6.1 (by omega);rw [Bool.eq_false_iff] at q;exact q (List.all_eq_true.2 fun e he=>decide_eq_true (by have:=this e he;omega))
   have:=h7.2 (by omega)
   omega
 rw [e1,aC,Bq,aC,MW (by omega),Int.toNat_natCast,Int.toNat_natCast,Int.toNat_natCast,Int.toNat_natCast]
 by_cases h6:P.all (fun e=>decide (e<((2^d:Nat):Int)))=false
 ·rw [cT (decide_eq_true (hsh.2 h6)),if_pos (.inr (.inr (.inr h6)))];rfl
 rw [cF (decide_eq_false (fun q=>h6 (hsh.1 q))),if_neg (by rintro (q | q | q | q) <;> first | exact absurd q (by decide) | exact q rfl | exact h6 q)];have h6':=(Bool.not_eq_false _).mp h6;rw [Su hP] at h6';have hcl:=LJ (hc.1 p2);obtain ⟨s1,s2⟩:=Io ph b0 b1 b2 b3 w sp g0 g1 g2 m0 m1 m2 m3 m4 m5 m6 m7 m8 am p1;have hc1:pM 1125899906842624 Ls=some Ls:=by unfold pM;rw [lI (by simp;omega)];rfl
 have hc2:jN 1125899906842624 sp=some sp:=by unfold jN;rw [lI (by simp;omega)];rfl
 have hc3:iO 1125899906842624 cv=some cv:=by unfold iO;rw [lI (by simp;omega)];rfl
 have hst:Ej 1125899906842624 (w':Int) (k':Int) (d:Int) K (r:Int) Ls St ph b0 b1 b2 b3 w sp g0 g1 g2 m0 m1 m2 m3 m4 m5 m6 m7 m8 cv am=some ((List.range (CM k' r)).map fun i=>(((i*r:Nat):Int),((uT k' r i:Nat):Int))):=by
  have hcn:=JM (H:=k') (R:=r) hr.1 a3;have:=Ui 1125899906842624 hr a4 (fun (l6,y5)=>some l6) (CM k' r) 0 1125899906842624 (by omega) (by omega);rw [Nat.zero_mul] at this;exact this
 rw [hc1,aC,hc2,aC,hc3,aC,hst,aC];have hcn:=JM (H:=k') (R:=r) hr.1 a3;have key:=QL K Ls 1125899906842624 (by decide) ⟨a1,a2⟩ ⟨a3,a4⟩ hr hd a5 h6' (fun (IG,i2)=>some ((w':Int),(k':Int),(d:Int),K,(r:Int),Ls,IG,ph,b0,b1,b2,b3,w,sp,g0,g1,g2,m0,m1,m2,m3,m4,m5,m6,m7,m8,cv,am,(0:Int))) (CM k' r) 0 1125899906842624 [] (by omega) (by omega) rfl;refine Eq.trans key ?_
 split <;> rfl
theorem ZP {f:Bool} (hb:gP 1125899906842624 cv=some f) (hc:f=true↔pJ cv) (oW oH:Int) (P:List Int) (hS:St.length*16≤140737488355328):qE 1125899906842624 W H D K R Ls St ph b0 b1 b2 b3 w sp g0 g1 g2 m0 m1 m2 m3 m4 m5 m6 m7 m8 cv am oW oH P=some (Ko W H D K R Ls ph b0 b1 b2 b3 w sp g0 g1 g2 m0 m1 m2 m3 m4 m5 m6 m7 m8 cv am f oW oH P):=by
 unfold qE Ko;rw [ZN W H D K R Ls St ph b0 b1 b2 b3 w sp g0 g1 g2 m0 m1 m2 m3 m4 m5 m6 m7 m8 cv am 1125899906842624 (by decide),aC]
 by_cases h1:B4 W H D K R Ls=0
 rotate_left
 ·rw [cT (by rw [decide_eq_false h1];rfl),if_pos h1];rfl
 obtain ⟨q1,q2,q3,q4⟩:=QM W H D K R Ls h1;rw [cF (by rw [decide_eq_true h1];rfl),if_neg (fun q=>q h1),ZO W H D K R Ls St ph b0 b1 b2 b3 w sp g0 g1 g2 m0 m1 m2 m3 m4 m5 m6 m7 m8 cv am hb q1.1 q1.2.1,aC]
 by_cases h2:NV W H ph b0 b1 b2 b3 w sp g0 g1 g2 m0 m1 m2 m3 m4 m5 m6 m7 m8 am f=0
 rotate_left
 ·rw [cT (by rw [decide_eq_false h2];rfl),if_pos h2];rfl
 rw [cF (by rw [decide_eq_true h2];rfl),if_neg (fun q=>q h2),NQ 1125899906842624 (by decide),aC];obtain ⟨p1,p2,p3⟩:=QO W H ph b0 b1 b2 b3 w sp g0 g1 g2 m0 m1 m2 m3 m4 m5 m6 m7 m8 am h2
 by_cases h3:T8 oW oH P=true
 rotate_left
 ·have h3':=(Bool.not_eq_true _).mp h3;rw [h3',cT (by rfl),if_pos (.inl rfl)];rfl
 rw [h3,cF (by rfl)]
 by_cases h4:oW=W
 rotate_left
 ·rw [cT (by rw [decide_eq_false h4];rfl),if_pos (.inr (.inl h4))];rfl
 by_cases h5:oH=H
 rotate_left
 ·rw [cF (by rw [decide_eq_true h4];rfl),cT (by rw [decide_eq_false h5];rfl),if_pos (.inr (.inr (.inl h5)))];rfl
 rw [cF (by rw [decide_eq_true h4];rfl),cF (by rw [decide_eq_true h5];rfl)];subst h4 h5;obtain ⟨w',k',rfl,rfl,a1,a2,a3,a4,a5,a6,hP⟩:=M7 h3;obtain ⟨d,rfl⟩:=Int.eq_ofNat_of_zero_le (show 0≤D by unfold vE at q1;omega);obtain ⟨r,rfl⟩:=Int.eq_ofNat_of_zero_le (show 0≤R by unfold vE at q1;omega);have hd:1≤d∧d≤16:=by unfold vE at q1;omega
 have hr:1≤r∧r≤k':=by unfold vE at q1;omega
 rw [aCz 1125899906842624 (by decide) (by omega) hd,aC,Int.toNat_natCast,Int.toNat_natCast,Int.toNat_natCast,Int.toNat_natCast]
 by_cases h6:P.all (fun e=>decide (e<((2^d:Nat):Int)))=false
 ·rw [h6,cT (by rfl),if_pos (.inr (.inr (.inr rfl)))];rfl
 have h6':=(Bool.not_eq_false _).mp h6;rw [h6',cF (by rfl),if_neg (by rintro (q | q | q | q) <;> first | exact absurd q (by decide) | exact q rfl)];rw [Su hP] at h6';have hcl:=LJ (hc.1 p2);obtain ⟨s1,s2⟩:=Io ph b0 b1 b2 b3 w sp g0 g1 g2 m0 m1 m2 m3 m4 m5 m6 m7 m8 am p1
 have hown:rB 1125899906842624 (w':Int) (k':Int) (d:Int) K (r:Int) Ls St ph b0 b1 b2 b3 w sp g0 g1 g2 m0 m1 m2 m3 m4 m5 m6 m7 m8 cv am=some ((w':Int),(k':Int),(d:Int),K,(r:Int),Ls,St,ph,b0,b1,b2,b3,w,sp,g0,g1,g2,m0,m1,m2,m3,m4,m5,m6,m7,m8,cv,am):=by
  unfold rB;rw [lI (by simp;omega),aC,lI (by simp;omega),aC,lI (by simp;omega),aC,lI (by simp;omega),aC];rfl
 rw [hown,aC];have hcn:=JM (H:=k') (R:=r) hr.1 a3;have key:=Ss K Ls St ph b0 b1 b2 b3 w sp g0 g1 g2 m0 m1 m2 m3 m4 m5 m6 m7 m8 cv am 1125899906842624 (by decide) ⟨a1,a2⟩ ⟨a3,a4⟩ hr hd a5 h6' (fun (G0,i2)=>some ((w':Int),(k':Int),(d:Int),K,(r:Int),Ls,G0,ph,b0,b1,b2,b3,w,sp,g0,g1,g2,m0,m1,m2,m3,m4,m5,m6,m7,m8,cv,am,(0:Int))) (CM k' r) 0 1125899906842624 [] (by omega) (by omega) rfl;refine Eq.trans key ?_
 split <;> rfl
end
theorem W6 (N:Nat) (l:List (Int × Int)) (hl:l.length≤4096) (kk):∀(j k fuel:Nat),k+j=l.length→j<fuel→kC N l l kk fuel (k:Int)=kk (l.length:Int):=by
 intro j
 induction j with
 | zero=>
  intro k fuel hk hf;obtain ⟨fuel,rfl⟩:=mK fuel (by omega);unfold kC;rw [cF (dF (by omega)),show k=l.length by omega]
 | succ j ih=>
  intro k fuel hk hf;obtain ⟨fuel,rfl⟩:=mK fuel (by omega);have hlt:k<l.length:=by omega
  unfold kC;rw [cT (dT (by omega)),dH,List.getElem?_eq_getElem hlt,aC,aC,cF (by simp),dC (x:=(k:Int)+1) (by omega),aC];exact ih (k+1) fuel (by omega) (by omega)
theorem W7 (N:Nat) (l:List (Int × Int)) (hl:l.length≤4096) (kk):∀(j k fuel:Nat),k+j=l.length→j<fuel→kA N l l kk fuel (k:Int)=kk (l.length:Int):=by
 intro j
 induction j with
 | zero=>
  intro k fuel hk hf;obtain ⟨fuel,rfl⟩:=mK fuel (by omega);unfold kA;rw [cF (dF (by omega)),show k=l.length by omega]
 | succ j ih=>
  intro k fuel hk hf;obtain ⟨fuel,rfl⟩:=mK fuel (by omega);have hlt:k<l.length:=by omega
  unfold kA;rw [cT (dT (by omega)),dH,List.getElem?_eq_getElem hlt,aC,aC,cF (by simp),dC (x:=(k:Int)+1) (by omega),aC];exact ih (k+1) fuel (by omega) (by omega)
theorem W8 (N:Nat) (l:List (List UInt8)) (hl:l.length≤4096) (kk):∀(j k fuel:Nat),k+j=l.length→j<fuel→kN N l l kk fuel (k:Int)=kk (l.length:Int):=by
 intro j
 induction j with
 | zero=>
  intro k fuel hk hf;obtain ⟨fuel,rfl⟩:=mK fuel (by omega);unfold kN;rw [cF (dF (by omega)),show k=l.length by omega]
 | succ j ih=>
  intro k fuel hk hf;obtain ⟨fuel,rfl⟩:=mK fuel (by omega);have hlt:k<l.length:=by omega
  unfold kN;rw [cT (dT (by omega)),dH,List.getElem?_eq_getElem hlt,aC,aC,cF (by simp),dC (x:=(k:Int)+1) (by omega),aC];exact ih (k+1) fuel (by omega) (by omega)
section
variable (W H D K R:Int) (Ls:List Int) (St:List (List UInt8)) (ph b0 b1 b2 b3 w:Int) (sp:List (Int × Int)) (g0 g1 g2 m0 m1 m2 m3 m4 m5 m6 m7 m8:Int) (cv:List (Int × Int)) (am:Int)
theorem QP (N:Nat) (hN:5000≤N) (hs:sp.length≤4096) (hv:cv.length≤4096):o9 N ph b0 b1 b2 b3 w sp g0 g1 g2 m0 m1 m2 m3 m4 m5 m6 m7 m8 cv am ph b0 b1 b2 b3 w sp g0 g1 g2 m0 m1 m2 m3 m4 m5 m6 m7 m8 cv am=some true:=by
 unfold o9;rw [cF (by simp),cF (by simp),cF (by simp),cF (by simp),cF (by simp),cF (by simp),cF (by simp),cF (by simp)];refine (W6 N sp hs _ sp.length 0 N (by omega) (by omega)).trans ?_;exact W7 N cv hv _ cv.length 0 N (by omega) (by omega)
theorem L8 (N:Nat) (hN:5000≤N) (hL:Ls.length≤4096) (hS:St.length≤4096) (hs:sp.length≤4096) (hv:cv.length≤4096):mT N W H D K R Ls St ph b0 b1 b2 b3 w sp g0 g1 g2 m0 m1 m2 m3 m4 m5 m6 m7 m8 cv am W H D K R Ls St ph b0 b1 b2 b3 w sp g0 g1 g2 m0 m1 m2 m3 m4 m5 m6 m7 m8 cv am=some true:=by
 unfold mT;rw [cF (by simp),cF (by simp),cF (by simp),cF (by simp),cF (by simp),aET N Ls (by omega) (by omega),aC,cF (by rfl),cF (by simp),QP ph b0 b1 b2 b3 w sp g0 g1 g2 m0 m1 m2 m3 m4 m5 m6 m7 m8 cv am N hN hs hv,aC,cF (by rfl)];exact W8 N St hS _ St.length 0 N (by omega) (by omega)
theorem LK (d:Nat):∀(n i:Nat) (acc:List (List UInt8)) (W H R:Nat) (P:List Int),(Cy d K Ls W H R P n i acc).1.length≤acc.length+n
 | 0,i,acc,_,_,_,_=>Nat.le_refl _
 | n+1,i,acc,W,H,R,P=>by
  unfold Cy
  split
  ·split
   ·refine Nat.le_trans (LK d n _ _ _ _ _ _) ?_
    simp;omega
   ·simp
  ·refine Nat.le_trans (LK d n _ _ _ _ _ _) ?_
   simp;omega
def VK (N:Nat) (r:Ug):Option Bool:=mT N r.1 r.2.1 r.2.2.1 r.2.2.2.1 r.2.2.2.2.1 r.2.2.2.2.2.1 r.2.2.2.2.2.2.1 r.2.2.2.2.2.2.2.1 r.2.2.2.2.2.2.2.2.1 r.2.2.2.2.2.2.2.2.2.1 r.2.2.2.2.2.2.2.2.2.2.1 r.2.2.2.2.2.2.2.2.2.2.2.1 r.2.2.2.2.2.2.2.2.2.2.2.2.1 r.2.2.2.2.2.2.2.2.2.2.2.2.2.1 r.2.2.2.2.2.2.2.2.2.2.2.2.2.2.1 r.2.2.2.2.2.2.2.2.2.2.2.2.2.2.2.1 r.2.2.2.2.2.2.2.2.2.2.2.2.2.2.2.2.1 r.2.2.2.2.2.2.2.2.2.2.2.2.2.2.2.2.2.1 r.2.2.2.2.2.2.2.2.2.2.2.2.2.2.2.2.2.2.1 r.2.2.2.2.2.2.2.2.2.2.2.2.2.2.2.2.2.2.2.1 r.2.2.2.2.2.2.2.2.2.2.2.2.2.2.2.2.2.2.2.2.1 r.2.2.2.2.2.2.2.2.2.2.2.2.2.2.2.2.2.2.2.2.2.1 r.2.2.2.2.2.2.2.2.2.2.2.2.2.2.2.2.2.2.2.2.2.2.1 r.2.2.2.2.2.2.2.2.2.2.2.2.2.2.2.2.2.2.2.2.2.2.2.1 r.2.2.2.2.2.2.2.2.2.2.2.2.2.2.2.2.2.2.2.2.2.2.2.2.1 r.2.2.2.2.2.2.2.2.2.2.2.2.2.2.2.2.2.2.2.2.2.2.2.2.2.1 r.2.2.2.2.2.2.2.2.2.2.2.2.2.2.2.2.2.2.2.2.2.2.2.2.2.2.1 r.2.2.2.2.2.2.2.2.2.2.2.2.2.2.2.2.2.2.2.2.2.2.2.2.2.2.2.1
 r.1 r.2.1 r.2.2.1 r.2.2.2.1 r.2.2.2.2.1 r.2.2.2.2.2.1 r.2.2.2.2.2.2.1 r.2.2.2.2.2.2.2.1 r.2.2.2.2.2.2.2.2.1 r.2.2.2.2.2.2.2.2.2.1 r.2.2.2.2.2.2.2.2.2.2.1 r.2.2.2.2.2.2.2.2.2.2.2.1 r.2.2.2.2.2.2.2.2.2.2.2.2.1 r.2.2.2.2.2.2.2.2.2.2.2.2.2.1 r.2.2.2.2.2.2.2.2.2.2.2.2.2.2.1 r.2.2.2.2.2.2.2.2.2.2.2.2.2.2.2.1 r.2.2.2.2.2.2.2.2.2.2.2.2.2.2.2.2.1 r.2.2.2.2.2.2.2.2.2.2.2.2.2.2.2.2.2.1 r.2.2.2.2.2.2.2.2.2.2.2.2.2.2.2.2.2.2.1 r.2.2.2.2.2.2.2.2.2.2.2.2.2.2.2.2.2.2.2.1 r.2.2.2.2.2.2.2.2.2.2.2.2.2.2.2.2.2.2.2.2.1 r.2.2.2.2.2.2.2.2.2.2.2.2.2.2.2.2.2.2.2.2.2.1 r.2.2.2.2.2.2.2.2.2.2.2.2.2.2.2.2.2.2.2.2.2.2.1 r.2.2.2.2.2.2.2.2.2.2.2.2.2.2.2.2.2.2.2.2.2.2.2.1 r.2.2.2.2.2.2.2.2.2.2.2.2.2.2.2.2.2.2.2.2.2.2.2.2.1 r.2.2.2.2.2.2.2.2.2.2.2.2.2.2.2.2.2.2.2.2.2.2.2.2.2.1 r.2.2.2.2.2.2.2.2.2.2.2.2.2.2.2.2.2.2.2.2.2.2.2.2.2.2.1 r.2.2.2.2.2.2.2.2.2.2.2.2.2.2.2.2.2.2.2.2.2.2.2.2.2.2.2.1
theorem aCA (N:Nat) (hN:5000≤N) (e:Int):VK N (MC e)=some true:=L8 0 0 0 0 0 [] [] 0 0 0 0 0 0 [] 0 0 0 0 0 0 0 0 0 0 0 0 [] 0 N hN (by decide) (by decide) (by decide) (by decide)
def Uj (r:Ug):List Int:=r.2.2.2.2.2.1
def QQ (r:Ug):List (Int × Int):=r.2.2.2.2.2.2.2.2.2.2.2.2.2.2.2.2.2.2.2.2.2.2.2.2.2.2.1
theorem Uk {f:Bool} (hc:f=true↔pJ cv) (oW oH:Int) (P:List Int):VK 1125899906842624 (Ko W H D K R Ls ph b0 b1 b2 b3 w sp g0 g1 g2 m0 m1 m2 m3 m4 m5 m6 m7 m8 cv am f oW oH P)=some true∧(Uj (Ko W H D K R Ls ph b0 b1 b2 b3 w sp g0 g1 g2 m0 m1 m2 m3 m4 m5 m6 m7 m8 cv am f oW oH P)).length≤4096∧(QQ (Ko W H D K R Ls ph b0 b1 b2 b3 w sp g0 g1 g2 m0 m1 m2 m3 m4 m5 m6 m7 m8 cv am f oW oH P)).length≤4096:=by
 have z:∀e,VK 1125899906842624 (MC e)=some true∧(Uj (MC e)).length≤4096∧(QQ (MC e)).length≤4096:=fun e=>⟨aCA 1125899906842624 (by decide) e,by simp [Uj,MC],by simp [QQ,MC]⟩
 unfold Ko
 by_cases h1:B4 W H D K R Ls=0
 rotate_left
 ·rw [if_pos h1];exact z _
 obtain ⟨q1,q2,q3,q4⟩:=QM W H D K R Ls h1;rw [if_neg (fun q=>q h1)]
 by_cases h2:NV W H ph b0 b1 b2 b3 w sp g0 g1 g2 m0 m1 m2 m3 m4 m5 m6 m7 m8 am f=0
 rotate_left
 ·rw [if_pos h2];exact z _
 obtain ⟨p1,p2,p3⟩:=QO W H ph b0 b1 b2 b3 w sp g0 g1 g2 m0 m1 m2 m3 m4 m5 m6 m7 m8 am h2;rw [if_neg (fun q=>q h2)]
 split
 ·exact z _
 split
 rotate_left
 ·exact z _
 have hcl:=LJ (hc.1 p2);obtain ⟨s1,s2⟩:=Io ph b0 b1 b2 b3 w sp g0 g1 g2 m0 m1 m2 m3 m4 m5 m6 m7 m8 am p1;obtain ⟨r,rfl⟩:=Int.eq_ofNat_of_zero_le (show 0≤R by unfold vE at q1;omega);obtain ⟨hh,rfl⟩:=Int.eq_ofNat_of_zero_le (show 0≤H by unfold vE at q1;omega);have hcn:=JM (H:=hh) (R:=r) (by unfold vE at q1;omega) (by unfold vE at q1;omega);have hfl:=LK K Ls D.toNat (CM hh r) 0 [] W.toNat hh r P;rw [Int.toNat_natCast,Int.toNat_natCast];refine ⟨L8 _ _ _ _ _ _ _ _ _ _ _ _ _ _ _ _ _ _ _ _ _ _ _ _ _ _ _ _ 1125899906842624 (by decide) (show Ls.length≤_ by omega) ?_ (show sp.length≤_ by omega) (show cv.length≤_ by omega),?_,?_⟩
 ·show (Cy D.toNat K Ls W.toNat hh r P (CM hh r) 0 []).1.length≤_;unfold vE at q1;simp at hfl;omega
 ·show Ls.length≤_;omega
 ·show cv.length≤_;omega
end
theorem rl1 (N:Nat) (kk:List Px × Int→Option Bool) (r) (hk:∀x,kk x=r):∀(j k fuel:Nat) (P:List Px),k+j=P.length→j<fuel→P.length≤4096→iY N kk fuel (P,(k:Int))=r:=by
 intro j
 induction j with
 | zero=>
  intro k fuel P hk2 hf hl;obtain ⟨fuel,rfl⟩:=mK fuel (by omega);unfold iY;rw [cF (dF (by omega))];exact hk _
 | succ j ih=>
  intro k fuel P hk2 hf hl;obtain ⟨fuel,rfl⟩:=mK fuel (by omega);have hlt:k<P.length:=by omega
  unfold iY;rw [cT (dT (by omega)),dH,List.getElem?_eq_getElem hlt,aC,BY (by omega),aC,dC (x:=(k:Int)+1) (by omega),aC];exact ih (k+1) fuel _ (by rw [List.length_set];omega) (by omega) (by rw [List.length_set];omega)
theorem rl2 (N:Nat) (kk:List Px × Int→Option Bool) (r) (hk:∀x,kk x=r):∀(j k fuel:Nat) (P:List Px),k+j=P.length→j<fuel→P.length≤4096→iX N kk fuel (P,(k:Int))=r:=by
 intro j
 induction j with
 | zero=>
  intro k fuel P hk2 hf hl;obtain ⟨fuel,rfl⟩:=mK fuel (by omega);unfold iX;rw [cF (dF (by omega))];exact hk _
 | succ j ih=>
  intro k fuel P hk2 hf hl;obtain ⟨fuel,rfl⟩:=mK fuel (by omega);have hlt:k<P.length:=by omega
  unfold iX;rw [cT (dT (by omega)),dH,List.getElem?_eq_getElem hlt,aC,BY (by omega),aC,dC (x:=(k:Int)+1) (by omega),aC];exact ih (k+1) fuel _ (by rw [List.length_set];omega) (by omega) (by rw [List.length_set];omega)
theorem rl3 (N:Nat) (kk:List Int × Int→Option Bool) (r) (hk:∀x,kk x=r):∀(j k fuel:Nat) (P:List Int),k+j=P.length→j<fuel→P.length≤4096→iW N kk fuel (P,(k:Int))=r:=by
 intro j
 induction j with
 | zero=>
  intro k fuel P hk2 hf hl;obtain ⟨fuel,rfl⟩:=mK fuel (by omega);unfold iW;rw [cF (dF (by omega))];exact hk _
 | succ j ih=>
  intro k fuel P hk2 hf hl;obtain ⟨fuel,rfl⟩:=mK fuel (by omega);have hlt:k<P.length:=by omega
  unfold iW;rw [cT (dT (by omega)),dH,List.getElem?_eq_getElem hlt,aC,BY (by omega),aC,dC (x:=(k:Int)+1) (by omega),aC];exact ih (k+1) fuel _ (by rw [List.length_set];omega) (by omega) (by rw [List.length_set];omega)
theorem rl4 (N:Nat) (kk:List (Int × Int) × Int→Option Bool) (r) (hk:∀x,kk x=r):∀(j k fuel:Nat) (P:List (Int × Int)),k+j=P.length→j<fuel→P.length≤4096→iV N kk fuel (P,(k:Int))=r:=by
 intro j
 induction j with
 | zero=>
  intro k fuel P hk2 hf hl;obtain ⟨fuel,rfl⟩:=mK fuel (by omega);unfold iV;rw [cF (dF (by omega))];exact hk _
 | succ j ih=>
  intro k fuel P hk2 hf hl;obtain ⟨fuel,rfl⟩:=mK fuel (by omega);have hlt:k<P.length:=by omega
  unfold iV;rw [cT (dT (by omega)),dH,List.getElem?_eq_getElem hlt,aC,BY (by omega),aC,dC (x:=(k:Int)+1) (by omega),aC];exact ih (k+1) fuel _ (by rw [List.length_set];omega) (by omega) (by rw [List.length_set];omega)
theorem rl5 (N:Nat) (kk:List Px × Int→Option Bool) (r) (hk:∀x,kk x=r):∀(j k fuel:Nat) (P:List Px),k+j=P.length→j<fuel→P.length≤4096→iU N kk fuel (P,(k:Int))=r:=by
 intro j
 induction j with
 | zero=>
  intro k fuel P hk2 hf hl;obtain ⟨fuel,rfl⟩:=mK fuel (by omega);unfold iU;rw [cF (dF (by omega))];exact hk _
 | succ j ih=>
  intro k fuel P hk2 hf hl;obtain ⟨fuel,rfl⟩:=mK fuel (by omega);have hlt:k<P.length:=by omega
  unfold iU;rw [cT (dT (by omega)),dH,List.getElem?_eq_getElem hlt,aC,BY (by omega),aC,dC (x:=(k:Int)+1) (by omega),aC];exact ih (k+1) fuel _ (by rw [List.length_set];omega) (by omega) (by rw [List.length_set];omega)
theorem ZQ (W H:Int) (P:List Px):Bv 1125899906842624 W H P 1=some (if uB W H P=true then (W,H,P,0) else (0,0,[],1)):=by
 obtain ⟨a,b,l,ht⟩:=CK 1125899906842624 W H P (by decide);rw [aCc 1125899906842624 W H P 1 (by decide),ht,aC];cases hp:uB W H P
 ·rw [cT (by rfl)];rfl
 have hs:=rO hp;obtain ⟨w',rfl⟩:=Int.eq_ofNat_of_zero_le (show 0≤W by have:=hs.1;omega);obtain ⟨k',rfl⟩:=Int.eq_ofNat_of_zero_le (show 0≤H by have:=hs.2.2.1;omega);rw [cF (by rfl),if_pos rfl];unfold aDa;rw [show swO 1=false by decide,show miO 1=false by decide,show flO 1=false by decide];show Option.bind (bZ 1125899906842624 (w':Int) (k':Int) P (w':Int) (k':Int) P) _=_;rw [copy_eq 1125899906842624 w' k' P hs (by decide),aC]
theorem aEY (N:Nat) (l:List Int) (hl:l.length<N) (h2:l.length≤4611686018427387904):jI N l l=some true:=by
 unfold jI;rw [cF (by simp)];exact Sd N l _ h2 l.length 0 N (by omega) hl
theorem W9 (ph b0 b1 b2 b3 w:Int) (sp:List (Int × Int)) (g0 g1 g2 m0 m1 m2 m3 m4 m5 m6 m7 m8:Int) (cv:List (Int × Int)) (am oW oH:Int) (oP:List Int) (rows qW qH:Int) (Q:List Px)
  (W H D K R:Int) (Ls:List Int) (St:List (List UInt8)) (OM b0' b1' b2' b3' w':Int) (sp':List (Int × Int)) (g0' g1' g2' m0' m1' m2' m3' m4' m5' m6' m7' m8':Int) (cv':List (Int × Int)) (am':Int) (hoP:oP.length*8≤140737488355328) (hQ:Q.length*24≤140737488355328) (hSt:St.length*16≤140737488355328) :
  pU 1125899906842624 ph b0 b1 b2 b3 w sp g0 g1 g2 m0 m1 m2 m3 m4 m5 m6 m7 m8 cv am oW oH oP rows qW qH Q W H D K R Ls St OM b0' b1' b2' b3' w' sp' g0' g1' g2' m0' m1' m2' m3' m4' m5' m6' m7' m8' cv' am'=some true:=by
 obtain ⟨f,hb,hb',hc⟩:=NI cv;obtain ⟨f2,hb2,hb2',hc2⟩:=NI cv';have e1:=WK ph b0 b1 b2 b3 w sp g0 g1 g2 m0 m1 m2 m3 m4 m5 m6 m7 m8 cv am hb hc oW oH oP (by omega) rows;have e2:=ZQ qW qH Q;have e3:=W5 W H D K R Ls St OM b0' b1' b2' b3' w' sp' g0' g1' g2' m0' m1' m2' m3' m4' m5' m6' m7' m8' cv' am' hb2 hc2 oW oH oP (by omega);have e4:=ZP W H D K R Ls St OM b0' b1' b2' b3' w' sp' g0' g1' g2' m0' m1' m2' m3' m4' m5' m6' m7' m8' cv' am' hb2' hc2 oW oH oP hSt;have e5:=fill_eq oW oH oP 0 (by omega);obtain ⟨s1,s2,s3⟩:=Uk W H D K R Ls OM b0' b1' b2' b3' w' sp' g0' g1' g2' m0' m1' m2' m3' m4' m5' m6' m7' m8' cv' am' hc2 oW oH oP;have e6:NL ph b0 b1 b2 b3 w sp g0 g1 g2 m0 m1 m2 m3 m4 m5 m6 m7 m8 am f oW oH oP=0→lH 1125899906842624 ph b0 b1 b2 b3 w sp g0 g1 g2 m0 m1 m2 m3 m4 m5 m6 m7 m8 cv am oW oH oP=some (oW,oH,OU ph b0 b1 b2 b3 w sp g0 g1 g2 m0 m1 m2 m3 m4 m5 m6 m7 m8 cv am oW.toNat oH.toNat oP):=fun he=>T3 ph b0 b1 b2 b3 w sp g0 g1 g2 m0 m1 m2 m3 m4 m5 m6 m7 m8 cv am hc he
 have hst:NL ph b0 b1 b2 b3 w sp g0 g1 g2 m0 m1 m2 m3 m4 m5 m6 m7 m8 am f oW oH oP=0→(OU ph b0 b1 b2 b3 w sp g0 g1 g2 m0 m1 m2 m3 m4 m5 m6 m7 m8 cv am oW.toNat oH.toNat oP).length≤4096:=fun he=>by
  obtain ⟨hB,_,hf,hsp⟩:=PC ph b0 b1 b2 b3 w sp g0 g1 g2 m0 m1 m2 m3 m4 m5 m6 m7 m8 am he;obtain ⟨w',h',rfl,rfl,w1,w2,w3,w4,hlen,hm,hall⟩:=zX hf;rw [Int.toNat_natCast,Int.toNat_natCast,Vg];exact hm
 generalize hz:OU ph b0 b1 b2 b3 w sp g0 g1 g2 m0 m1 m2 m3 m4 m5 m6 m7 m8 cv am oW.toNat oH.toNat oP=Z at e1 e6 hst
 generalize NL ph b0 b1 b2 b3 w sp g0 g1 g2 m0 m1 m2 m3 m4 m5 m6 m7 m8 am f oW oH oP=E at e1 e6 hst
 generalize Ko W H D K R Ls OM b0' b1' b2' b3' w' sp' g0' g1' g2' m0' m1' m2' m3' m4' m5' m6' m7' m8' cv' am' f2 oW oH oP=F at e3 e4 s1 s2 s3
 unfold pU;rw [lI (by simp;omega),aC,lI (by simp;omega),aC,e1,aC,List.nil_append,List.nil_append]
 have hr2:(if E=0 then (if rows<1 then (0,0,[],3) else (oW,oH,Z,0)) else (0,0,[],E):Int × Int × List Px × Int).2.2.1.length≤4096:=by
  split
  ·split
   ·simp
   ·rename_i h _;exact hst h
  ·simp
 refine rl1 1125899906842624 _ _ (fun x=>?_) (List.length _) 0 1125899906842624 _ (Nat.zero_add _) (Nat.lt_of_le_of_lt hr2 (by decide)) hr2;try dsimp only
 rw [e2,aC]
 have hr3:(if uB qW qH Q=true then (qW,qH,Q,0) else (0,0,[],1):Int × Int × List Px × Int).2.2.1.length≤4096:=by
  split
  ·rename_i h;have:=BZ (rO h);exact this.1
  ·simp
 refine rl2 1125899906842624 _ _ (fun x=>?_) (List.length _) 0 1125899906842624 _ (Nat.zero_add _) (Nat.lt_of_le_of_lt hr3 (by decide)) hr3;try dsimp only
 rw [e3,aC];refine rl3 1125899906842624 _ _ (fun x=>?_) (List.length _) 0 1125899906842624 _ (Nat.zero_add _) (Nat.lt_of_le_of_lt s2 (by decide)) s2;try dsimp only
 refine rl4 1125899906842624 _ _ (fun x=>?_) (List.length _) 0 1125899906842624 _ (Nat.zero_add _) (Nat.lt_of_le_of_lt s3 (by decide)) s3;try dsimp only
 rw [e5,aC]
 have hr5:(if bW oW oH oP=false then (0,0,[],1) else if (0:Int)≤0∧(0:Int)≤3 then (oW,oH,Lu oW.toNat oH.toNat (pF oW.toNat oH.toNat oP 0),0) else (0,0,[],3):Int × Int × List Px × Int).2.2.1.length≤4096:=by
  split
  ·simp
  ·rename_i h
   rw [if_pos (by decide)];obtain ⟨w',h',rfl,rfl,w1,w2,w3,w4,hlen,hm,hall⟩:=zX ((Bool.not_eq_false _).mp h);show (Lu _ _ _).length≤_;rw [B1,Int.toNat_natCast,Int.toNat_natCast];exact hm
 refine rl5 1125899906842624 _ _ (fun x=>?_) (List.length _) 0 1125899906842624 _ (Nat.zero_add _) (Nat.lt_of_le_of_lt hr5 (by decide)) hr5;try dsimp only
 rw [aC,aC,aC,e4,aC,cF (by simp),cF (by simp),cF (by simp),cF (by simp),aEY 1125899906842624 oP (by omega) (by omega),aC,cF (by rfl),same_eq 1125899906842624 0 0 Q (by omega) (by omega),aC,cF (by rfl)];have s1':=s1;unfold VK at s1';rw [s1',aC,cF (by rfl),QN];have hpf:=Kf 1125899906842624 oW oH oP (by decide)
 have last:(some (decide (decide ((if bW oW oH oP=false then (0,0,[],1) else if (0:Int)≤0∧(0:Int)≤3 then (oW,oH,Lu oW.toNat oH.toNat (pF oW.toNat oH.toNat oP 0),0) else (0,0,[],3):Int × Int × List Px × Int).2.2.2=0)=bW oW oH oP)):Option Bool)=some true:=by
  cases h:bW oW oH oP
  ·rfl
  ·rfl
 have fin2:(cond (decide ((if uB qW qH Q=true then (qW,qH,Q,0) else (0,0,[],1):Int × Int × List Px × Int).2.2.2=0)) (
   Option.bind (eF 1125899906842624 (if uB qW qH Q=true then (qW,qH,Q,0) else (0,0,[],1):Int × Int × List Px × Int).1 (if uB qW qH Q=true then (qW,qH,Q,0) else (0,0,[],1):Int × Int × List Px × Int).2.1 (if uB qW qH Q=true then (qW,qH,Q,0) else (0,0,[],1):Int × Int × List Px × Int).2.2.1 qW qH Q) fun GZ=>
   cond (!(GZ)) (some false) (
   Option.bind (some true) fun r16=>
   cond (r16) (
   Option.bind (dE 1125899906842624 oW oH oP) fun Qb=>
   some (decide ((decide ((if bW oW oH oP=false then (0,0,[],1) else if (0:Int)≤0∧(0:Int)≤3 then (oW,oH,Lu oW.toNat oH.toNat (pF oW.toNat oH.toNat oP 0),0) else (0,0,[],3):Int × Int × List Px × Int).2.2.2=0))=Qb))) (
   some false))) (
   Option.bind (some true) fun TE=>
   cond (TE) (
   Option.bind (dE 1125899906842624 oW oH oP) fun Yg=>
   some (decide ((decide ((if bW oW oH oP=false then (0,0,[],1) else if (0:Int)≤0∧(0:Int)≤3 then (oW,oH,Lu oW.toNat oH.toNat (pF oW.toNat oH.toNat oP 0),0) else (0,0,[],3):Int × Int × List Px × Int).2.2.2=0))=Yg))) (
   some false)):Option Bool)=some true:=by
  rw [aC,cT rfl,hpf,aC,last];cases hp:uB qW qH Q
  ·rfl
  ·rw [if_pos rfl,cT (by rfl)]
   dsimp only
   rw [same_eq 1125899906842624 qW qH Q (by omega) (by omega),aC,cF (by rfl)]
 by_cases hE:E=0
 ·rw [if_pos hE]
  by_cases hr:rows<1
  ·rw [if_pos hr,cF (by rfl)];exact fin2
  ·rw [if_neg hr,cT (by rfl),e6 hE,aC]
   dsimp only
   rw [same_eq 1125899906842624 oW oH Z (by have:=hst hE;omega) (by have:=hst hE;omega),aC,cF (by rfl)];exact fin2
 ·rw [if_neg hE,cF (decide_eq_false hE)];exact fin2
end
section
open Go.RowKit
section
variable {P:Program} {ops:Array Oper} {Q O:Exit→Act→World→Prop} {S:World→Prop} {vM need:Nat→Bool} {R:Act→World→Prop}
def Sv (ops:Array Oper) (rem:List Nat) (i:Nat):Bool:=rem.all fun j=>!waits ops i j
def DI (P:Program) (O:Exit→Act→World→Prop) (ops:Array Oper) (S:World→Prop) (vM need:Nat→Bool) (R:Act→World→Prop):Nat→List Nat→Act→World→Prop
 | 0,rem,a,w=>rem=[]∧R a w
 | n+1,rem,a,w=>
  (∃i∈rem,vM i=true∧Sv ops rem i=true∧∃o,ops[i]? = some o∧∃v,AS P ops S o v a∧DI P O ops S vM need R n (rem.erase i) (a.put o.dst v) w) ∨
  ((∀i∈rem,vM i=true→Sv ops rem i=false)∧∀c∈rem,vM c=false→Sv ops rem c=true→wpOp P ops O c (fun a' w'=>(need c=true→S w')∧DI P O ops S vM need R n (rem.erase c) a' w') a w)
def QR (ops:Array Oper) (vM:Nat→Bool) (i j:Nat):Bool:=
 match ops[i]?,ops[j]? with
 | some oi,some oj=>waits ops i j||((!vM i||oi.apart ops oj)&&(!vM j||oj.apart ops oi))
 | _,_=>false
def aCB (ops:Array Oper) (vM need:Nat→Bool):Bool:=
 Region.noSelect ops&&UV ops&&((List.range ops.size).all fun i=>(List.range i).all fun j=>QR ops vM i j) &&
 (List.range ops.size).all fun i=>vM i||need i || !P0 ops vM i
def Xa (O:Exit→Act→World→Prop):Prop:=(∀e a d v w,O e (a.put d v) w→O e a w)∧¬LetsOut O
theorem aCC:Xa Fj:=⟨fun _ _ _ _ _ h=>h.elim,fun ⟨_,_,h⟩=>h.elim⟩
theorem Sw (hO:Xa O) {j:Nat} {oi oj:Oper} {v:Value} (hj:ops[j]? = some oj) (hap:oi.apart ops oj=true)
  (hsi:∀cs b,oi.op≠.select cs b) (hsj:∀cs b,oj.op≠.select cs b) {K:Act→World→Prop} {a:Act} {w:World}
  (hy:AS P ops S oi v a) (h:wpOp P ops O j K (a.put oi.dst v) w) :
  wpOp P ops O j (fun a' w'=>AS P ops S oi v a'∧K (a'.put oi.dst v) w') a w:=by
 obtain ⟨h1,h2,h3⟩:=Oper.apart_spec hap
 have keep:∀(a:Act),AS P ops S oi v a→∀u,AS P ops S oi v (a.put oj.dst u):=fun a hy u=>
  hy.same (execOp_put oi hsi a oj.dst u h3) (wanted_put oi a oj.dst u h3)
 have keepD:∀d,AS P ops S oi v { a with defers:=d::a.defers }:=fun d=>hy.same rfl rfl
 unfold wpOp at *;simp only [hj] at *;rw [wanted_put oj a oi.dst v h1] at h
 split
 ·rename_i hw
  simp only [hw,if_true] at h
  rcases h with h | ⟨_,hl⟩
  case inr=>exact absurd hl hO.2
  refine .inl ?_;unfold Oper.wp at *;rw [execOp_put oj hsj a oi.dst v h1] at h
  generalize (execOp a.eval oj).run P w=r at *
  cases r with
  | ok n w'=>
   cases n <;> simp only [Oper.upon] at h ⊢
   case value u=>exact ⟨keep a hy u,by rw [←Act.put_comm a v u h2];exact h⟩
   case skip=>exact ⟨keep a hy _,by rw [←Act.put_comm a v undef h2];exact h⟩
   case defer d=>
    refine ⟨keep _ (keepD d) _,?_⟩;rw [←Act.put_comm _ v undef h2,←Act.put_defers];exact h
   case enter f args=>
    refine Calls.mono h fun e w'' he=>?_
    cases e with
    | returned u=>exact ⟨keep a hy u,by rw [←Act.put_comm a v u h2];exact he⟩
    | panicked c=>exact hO.1 _ _ _ _ _ he
    | outgrown=>exact absurd he hO.2
   case row row args=>exact Rows.mono h fun u w'' he=>⟨keep a hy u,by rw [←Act.put_comm a v u h2];exact he⟩
  | halt x w'=>cases x <;> simp only [Oper.upon] at h ⊢;exact hO.1 _ _ _ _ _ h
 ·rename_i hw
  simp only [hw] at h;exact ⟨keep a hy _,by rw [←Act.put_comm a v undef h2];exact h⟩
theorem Xb (hO:Xa O) (hQ:∀e a w,O e a w→Q e a w) {i:Nat} {K:Act→World→Prop} {a:Act} {w:World} (h:wpOp P ops O i K a w):wpOp P ops Q i K a w:=by
  unfold wpOp at *
  split
  · rename_i h0
    simp only [h0] at h
    exact h
  · rename_i o ho
    simp only [ho] at h
    split
    · rename_i hw
      rw [if_pos hw] at h
      rcases h with h | ⟨_,hl⟩
      case inr=>exact absurd hl hO.2
      refine .inl ?_
      unfold Oper.wp at *
      generalize (execOp a.eval o).run P w=r at *
      cases r with
      | ok n w'=>
        cases n <;> simp only [Oper.upon] at h ⊢ <;> first
          | exact h
          | (refine Calls.mono h fun e w'' he=>?_
             cases e with
             | returned u=>exact he
             | panicked c=>exact hQ _ _ _ he
             | outgrown=>exact absurd he hO.2)
      | halt x w'=>cases x <;> simp only [Oper.upon] at h ⊢;exact hQ _ _ _ h
    · rename_i hw
      rw [if_neg hw] at h
      exact h
theorem IP {rem:List Nat} {i k:Nat} (h:Sv ops rem i=true):Sv ops (rem.erase k) i=true:=by
 unfold Sv at *;rw [List.all_eq_true] at *;exact fun j hj=>h j (List.mem_of_mem_erase hj)
theorem Gu {rem:List Nat} {i j:Nat} (h:Sv ops rem i=true) (hj:j∈rem):waits ops i j=false:=by
 unfold Sv at h;rw [List.all_eq_true] at h
 simpa using h j hj
theorem aCD {i:Nat} {oi:Oper} (hi:ops[i]? = some oi) (hr:vM i=true) (hsel:∀(j:Nat) (o:Oper) cs b,ops[j]? = some o→o.op≠.select cs b)
  (J1:∀j k oj ok,j≠k→ops[j]? = some oj→ops[k]? = some ok→waits ops j k=false→waits ops k j=false→(vM j=true→oj.apart ops ok=true)) :
  ∀(n:Nat) (rem:List Nat) (a:Act) (w:World),i∈rem→Sv ops rem i=true→DI P O ops S vM need R (n+1) rem a w→∃v,AS P ops S oi v a∧DI P O ops S vM need R n (rem.erase i) (a.put oi.dst v) w:=by
 intro n
 induction n with
 | zero=>
  intro rem a w him hrd h
  rcases h with ⟨i0,hi0,hr0,hd0,o0,ho0,u,hu,h⟩ | ⟨hno,_⟩
  ·obtain ⟨hnil,hR⟩:=h
   have:i0=i:=by
    by_cases e:i0=i
    ·exact e
    ·have:i∈rem.erase i0:=(List.mem_erase_of_ne (fun h=>e h.symm)).2 him;rw [hnil] at this;cases this
   subst this;obtain rfl:o0=oi:=Option.some.inj (ho0.symm.trans hi);exact ⟨u,hu,hnil,hR⟩
  ·rw [hno i him hr] at hrd;cases hrd
 | succ n ih=>
  intro rem a w him hrd h
  rcases h with ⟨i0,hi0,hr0,hd0,o0,ho0,u,hu,h⟩ | ⟨hno,_⟩
  ·by_cases e:i0=i
   ·subst e;obtain rfl:o0=oi:=Option.some.inj (ho0.symm.trans hi);exact ⟨u,hu,h⟩
   ·have aI6:i∈rem.erase i0:=(List.mem_erase_of_ne (fun h=>e h.symm)).2 him;obtain ⟨v,hv,h⟩:=ih _ _ _ aI6 (IP hrd) h;have w1:=Gu hrd hi0;have w2:=Gu hd0 him;have ap1:=J1 i i0 oi o0 (fun h=>e h.symm) hi ho0 w1 w2 hr;have ap2:=J1 i0 i o0 oi e ho0 hi w2 w1 hr0;obtain ⟨p1,p2,p3⟩:=Oper.apart_spec ap1;obtain ⟨q1,q2,q3⟩:=Oper.apart_spec ap2;have hv':AS P ops S oi v a:=hv.same (execOp_put oi (fun cs b=>hsel i oi cs b hi) a o0.dst u p3).symm (wanted_put oi a o0.dst u p3).symm;refine ⟨v,hv',.inl ⟨i0,(List.mem_erase_of_ne e).2 hi0,hr0,IP hd0,o0,ho0,u,?_,?_⟩⟩
    ·exact hu.same (execOp_put o0 (fun cs b=>hsel i0 o0 cs b ho0) a oi.dst v q3) (wanted_put o0 a oi.dst v q3)
    ·rw [List.erase_comm,Act.put_comm a v u p2];exact h
  ·rw [hno i him hr] at hrd;cases hrd
theorem aCE (hO:Xa O) {c:Nat} {oc:Oper} (hc:ops[c]? = some oc) (hrc:vM c=false) (hsel:∀(j:Nat) (o:Oper) cs b,ops[j]? = some o→o.op≠.select cs b)
  (J1:∀j k oj ok,j≠k→ops[j]? = some oj→ops[k]? = some ok→waits ops j k=false→waits ops k j=false→(vM j=true→oj.apart ops ok=true)) :
  ∀(n:Nat) (rem:List Nat) (a:Act) (w:World),c∈rem→Sv ops rem c=true→DI P O ops S vM need R (n+1) rem a w→wpOp P ops O c (fun a' w'=>(need c=true→S w')∧DI P O ops S vM need R n (rem.erase c) a' w') a w:=by
 intro n
 induction n with
 | zero=>
  intro rem a w hcm hrd h
  rcases h with ⟨i0,hi0,hr0,hd0,o0,ho0,u,hu,h⟩ | ⟨_,h⟩
  ·obtain ⟨hnil,hR⟩:=h;have e:i0≠c:=fun e=>by subst e;rw [hrc] at hr0;cases hr0
   have:c∈rem.erase i0:=(List.mem_erase_of_ne (fun h=>e h.symm)).2 hcm;rw [hnil] at this;cases this
  ·exact h c hcm hrc hrd
 | succ n ih=>
  intro rem a w hcm hrd h
  rcases h with ⟨i0,hi0,hr0,hd0,o0,ho0,u,hu,h⟩ | ⟨_,h⟩
  ·have e:i0≠c:=fun e=>by subst e;rw [hrc] at hr0;cases hr0
   have hcm':c∈rem.erase i0:=(List.mem_erase_of_ne (fun h=>e h.symm)).2 hcm;have h2:=ih _ _ _ hcm' (IP hrd) h;have w1:=Gu hrd hi0;have w2:=Gu hd0 hcm;have ap:=J1 i0 c o0 oc e ho0 hc w2 w1 hr0;have h3:=Sw hO hc ap (fun cs b=>hsel i0 o0 cs b ho0) (fun cs b=>hsel c oc cs b hc) hu h2;refine wpOp_mono ?_ h3;rintro a' w' ⟨hy,hn,hk⟩;refine ⟨hn,.inl ⟨i0,(List.mem_erase_of_ne e).2 hi0,hr0,IP hd0,o0,ho0,u,hy,?_⟩⟩;rw [List.erase_comm];exact hk
  ·exact h c hcm hrc hrd
theorem MD {l:List Nat} (hl:l.Nodup) (i:Nat):l.filter (· != i)=l.erase i:=by
 rw [List.Nodup.erase_eq_filter hl]
theorem Sx (hO:Xa O) (hQ:∀e a w,O e a w→Q e a w) (hok:aCB ops vM need=true):∀(fuel:Nat) (listed:Array Bool) (a:Act) (w:World),listed.size=ops.size→Closed ops listed→(q9 ops listed).length=fuel →
  (∀r∈q9 ops listed,vM r=true→S w)→DI P O ops S vM need (Q .normal) fuel (q9 ops listed) a w→wpAny P .any ops Q fuel listed a w:=by
 simp only [aCB,Bool.and_eq_true] at hok;obtain ⟨⟨⟨XN,hback⟩,aEZ⟩,XO⟩:=hok;have hsel:=Region.noSelect_spec XN;have hp:∀i<ops.size,∀j<i,QR ops vM i j=true:=fun i hi j hj=>List.all_eq_true.1 (List.all_eq_true.1 aEZ i (List.mem_range.2 hi)) j (List.mem_range.2 hj)
 have J1:∀j k oj ok,j≠k→ops[j]? = some oj→ops[k]? = some ok→waits ops j k=false→waits ops k j=false→(vM j=true→oj.apart ops ok=true):=by
  intro j k oj ok hjk hj hk w1 w2 hr;have hjl:=(Array.getElem?_eq_some_iff.1 hj).1;have hkl:=(Array.getElem?_eq_some_iff.1 hk).1
  rcases Nat.lt_or_gt_of_ne hjk with hlt | hlt
  ·have h:=hp k hkl j hlt;unfold QR at h;simp only [hj,hk,w2,Bool.false_or,Bool.and_eq_true,Bool.or_eq_true,Bool.not_eq_true'] at h
   rcases h.2 with h0 | h0
   ·rw [hr] at h0;cases h0
   ·exact h0
  ·have h:=hp j hjl k hlt;unfold QR at h;simp only [hj,hk,w1,Bool.false_or,Bool.and_eq_true,Bool.or_eq_true,Bool.not_eq_true'] at h
   rcases h.1 with h0 | h0
   ·rw [hr] at h0;cases h0
   ·exact h0
 have hbk:∀i o,ops[i]? = some o→∀e∈o.after,Region.binds .any e=true→e.on<i:=fun i o ho e he hb=>by
  have hi:i<ops.size:=(Array.getElem?_eq_some_iff.1 ho).1;have h:=List.all_eq_true.1 hback i (List.mem_range.2 hi);simp only [ho] at h;have h2:=Array.all_eq_true_iff_forall_mem.1 h e he
  simpa [hb] using h2
 have hnd:∀i<ops.size,vM i=false→∀r<ops.size,vM r=true→waits ops i r=false→need i=true:=fun i hi MK r hr hrr hw=>by
  have h:=List.all_eq_true.1 XO i (List.mem_range.2 hi);simp only [MK,Bool.false_or,Bool.or_eq_true,Bool.not_eq_true'] at h;refine h.resolve_right fun h0=>?_
  have:P0 ops vM i=true:=by
   refine List.any_eq_true.2 ⟨r,List.mem_range.2 hr,?_⟩;have:r≠i:=fun e=>by subst e;rw [MK] at hrr;cases hrr
   simp [hrr,hw,this]
  rw [this] at h0;cases h0
 intro fuel
 induction fuel with
 | zero=>
  intro listed a w hs hc hlen _ h;have hnil:q9 ops listed=[]:=List.eq_nil_of_length_eq_zero hlen;obtain ⟨_,h⟩:=h;refine ⟨?_,h⟩;refine List.eq_nil_iff_forall_not_mem.2 fun i hi=>?_
  obtain ⟨h0,o,ho,_⟩:=mem_ready.1 hi;have:i∈q9 ops listed:=vS.2 ⟨(Array.getElem?_eq_some_iff.1 ho).1,h0⟩;rw [hnil] at this;cases this
 | succ fuel ih=>
  intro listed a w hs hc hlen hS h;refine ⟨fun h0=>?_,fun i hi=>?_⟩
  ·exfalso
   match hr:q9 ops listed,hlen with
   | i0::rest,_=>
    have hm0:i0∈q9 ops listed:=by rw [hr];exact List.mem_cons_self ..
    obtain ⟨hlt,hun⟩:=vS.1 hm0;have J2:=Ef (ops:=ops) listed;rw [hr,List.pairwise_cons] at J2
    have:i0∈Region.ready .any ops listed:=by
     refine mem_ready.2 ⟨hun,ops[i0],Array.getElem?_eq_getElem hlt,fun e he hb=>?_⟩;have hlt2:=hbk i0 _ (Array.getElem?_eq_getElem hlt) e he hb;cases hl:listed.getD e.on false with
     | true=>rfl
     | false=>
      have hm:e.on∈q9 ops listed:=vS.2 ⟨by omega,by rw [IE (by omega)];exact hl⟩;rw [hr] at hm
      rcases List.mem_cons.1 hm with hm | hm
      ·omega
      ·have:=J2.1 _ hm;omega
    rw [h0] at this;cases this
  ·obtain ⟨hun,oi,hoi,hall⟩:=mem_ready.1 hi;have hilt:i<ops.size:=(Array.getElem?_eq_some_iff.1 hoi).1;have him:i∈q9 ops listed:=vS.2 ⟨hilt,hun⟩;have aE0:(q9 ops listed).Nodup:=(Ef (ops:=ops) listed).imp fun h=>Nat.ne_of_lt h
   have J3:q9 ops (listed.setIfInBounds i true)=(q9 ops listed).erase i:=by rw [O8 hs hilt,MD aE0]
   have hlen':(q9 ops (listed.setIfInBounds i true)).length=fuel:=by
    rw [J3,List.length_erase_of_mem him];omega
   have hs':(listed.setIfInBounds i true).size=ops.size:=by simpa using hs
   have hc':Closed ops (listed.setIfInBounds i true):=by
    intro k hk j hj
    by_cases hik:i=k
    ·subst hik;exact getD_set_true (Df hi hj)
    ·rw [getD_set_ne false hik] at hk;exact getD_set_true (hc k hk j hj)
   have hrd:Sv ops (q9 ops listed) i=true:=by
    unfold Sv;rw [List.all_eq_true];intro j hj;obtain ⟨h1,h2⟩:=vS.1 hj;cases hw:waits ops i j with
    | false=>rfl
    | true=>
     have:=Df hi hw;rw [←IE (by omega),h2] at this;cases this
   cases MK:vM i with
   | true=>
    have hSw:S w:=hS i him MK;obtain ⟨v,hv,hrest⟩:=aCD hoi MK hsel J1 fuel _ a w him hrd h;refine hv.run hoi hSw (ih _ _ _ hs' hc' hlen' (fun _ _ _=>hSw) (by rw [J3];exact hrest))
   | false=>
    have h2:=aCE hO hoi MK hsel J1 fuel _ a w him hrd h;refine Xb hO hQ (wpOp_mono ?_ h2);rintro a' w' ⟨hn,hk⟩;refine ih _ _ _ hs' hc' hlen' ?_ (by rw [J3];exact hk);intro r hr hrr;rw [J3] at hr;have hrm:=List.mem_of_mem_erase hr;exact hn (hnd i hilt MK r (vS.1 hrm).1 hrr (Gu hrd hrm))
theorem QS (hO:Xa O) (hQ:∀e a w,O e a w→Q e a w) {id:Nat} {a:Act} {w:World} {l:List Oper} (S:World→Prop) (f:List Nat) (n:Nat) (rem:List Nat) (hm:P.follows .mixedOrders=true) (hok:aCB l.toArray (sY f) (nA f)=true)
  (hl:List.range l.toArray.size=rem) (hn:rem.length=n) (hS:S w.drew) (h:DI P O l.toArray S (sY f) (nA f) (Q .normal) n rem a w.drew):(Code.region id l.toArray true).wp P Q a w:=by
 refine wp_region_any hm ?_
 have Mu:q9 l.toArray (Array.replicate l.toArray.size false)=List.range l.toArray.size:=by
  unfold q9;refine List.filter_eq_self.2 fun i hi=>?_
  have:=List.mem_range.1 hi
  simp at this
  simp [this]
 refine Sx hO hQ hok l.toArray.size (Array.replicate l.toArray.size false) a _ (by simp) ?_ (by rw [Mu];simp) (fun _ _ _=>hS) ?_
 ·intro i hi;rw [CA] at hi;cases hi
 ·rw [Mu,hl];have:l.toArray.size=n:=by rw [←hn,←hl];simp
  rw [this];exact h
theorem jU {id:Nat} {a:Act} {w:World} {l:List Oper} (S:World→Prop) (f:List Nat) (n:Nat) (rem:List Nat) (hm:P.follows .mixedOrders=true) (hok:aCB l.toArray (sY f) (nA f)=true)
  (hl:List.range l.toArray.size=rem) (hn:rem.length=n) (hS:S w.drew) (h:DI P Fj l.toArray S (sY f) (nA f) (Q .normal) n rem a w.drew):(Code.region id l.toArray true).wp P Q a w:=
 QS aCC (fun _ _ _ h=>h.elim) S f n rem hm hok hl hn hS h
theorem put_defers (a:Act) (d:Option Nat) (v:Value):(a.put d v).defers=a.defers:=by cases d <;> rfl
variable {D:List Deferred} {a:Act} {w:World} {N:Nat} {l:List (Nat × Value)} {o:Oper} {v:Value} {post:Value→World→Prop} {d i c n:Nat} {rem H0:List Nat} {f:List Nat}
theorem jR (i:Nat) (H0:List Nat) (hc:(rem.elem i&&sY f i&&Sv ops rem i&&rem.erase i==H0)=true) (ho:ops[i]? = some o) (K:Kd D a N l) (hw:Region.wanted o (yielded ops a.tmps)=true) (hd:o.dst=some d) (hN:Nat.blt d N=true) (hr:Rd P S a o v)
  (k:∀a',Kd D a' N ((d,v)::l)→DI P O ops S (sY f) (nA f) R n H0 a' w):DI P O ops S (sY f) (nA f) R (n+1) rem a w:=by
 simp only [Bool.and_eq_true,beq_iff_eq,List.elem_iff] at hc;obtain ⟨⟨⟨h1,h2⟩,h3⟩,rfl⟩:=hc;refine .inl ⟨i,h1,h2,h3,o,ho,v,.inl ⟨hw,hr⟩,?_⟩;have:=K.put (d:=o.dst) (by rw [hd];exact hN) v;rw [hd] at this ⊢;exact k _ this
theorem aI7 (i:Nat) (H0:List Nat) (hc:(rem.elem i&&sY f i&&Sv ops rem i&&rem.erase i==H0)=true) (ho:ops[i]? = some o) (K:Kd D a N l) (hw:Region.wanted o (yielded ops a.tmps)=false) (hd:o.dst=some d) (hN:Nat.blt d N=true)
  (k:∀a',Kd D a' N ((d,undef)::l)→DI P O ops S (sY f) (nA f) R n H0 a' w):DI P O ops S (sY f) (nA f) R (n+1) rem a w:=by
 simp only [Bool.and_eq_true,beq_iff_eq,List.elem_iff] at hc;obtain ⟨⟨⟨h1,h2⟩,h3⟩,rfl⟩:=hc;refine .inl ⟨i,h1,h2,h3,o,ho,undef,.inr ⟨hw,rfl⟩,?_⟩;have:=K.put (d:=o.dst) (by rw [hd];exact hN) undef;rw [hd] at this ⊢;exact k _ this
def aE1 (p:Nat→Prop):List Nat→Prop
 | []=>True
 | c::cs=>p c∧aE1 p cs
theorem Sy {p:Nat→Prop}:∀{cs:List Nat},aE1 p cs→∀c∈cs,p c
 | [],_,c,h=>by cases h
 | d::cs,h,c,hc=>by
  rcases List.mem_cons.1 hc with rfl | hc
  ·exact h.1
  ·exact Sy h.2 c hc
theorem gS (cs:List Nat) (hc:((rem.all fun i=>!sY f i || !Sv ops rem i)&&(rem.filter fun c=>!sY f c&&Sv ops rem c)==cs)=true)
  (h:aE1 (fun c=>wpOp P ops O c (fun a' w'=>(nA f c=true→S w')∧DI P O ops S (sY f) (nA f) R n (rem.erase c) a' w') a w) cs):DI P O ops S (sY f) (nA f) R (n+1) rem a w:=by
 simp only [Bool.and_eq_true,beq_iff_eq] at hc;obtain ⟨h1,rfl⟩:=hc;refine .inr ⟨fun i hi hr=>?_,fun c hcm hr hrd=>Sy h c (List.mem_filter.2 ⟨hcm,by simp [hr,hrd]⟩)⟩;have:=List.all_eq_true.1 h1 i hi
 simpa [hr] using this
theorem kD (H0:List Nat) (hc:(rem.erase c==H0)=true) (ho:ops[c]? = some o) (K:Kd D a N l) (hw:Region.wanted o (yielded ops a.tmps)=true) (hd:o.dst=some d) (hN:Nat.blt d N=true) (h:Ac P o a w post)
  (k:∀v a' w',post v w'→Kd D a' N ((d,v)::l)→(nA f c=true→S w')∧DI P O ops S (sY f) (nA f) R n H0 a' w'):wpOp P ops O c (fun a' w'=>(nA f c=true→S w')∧DI P O ops S (sY f) (nA f) R n (rem.erase c) a' w') a w:=by
 obtain rfl:rem.erase c=H0:=by simpa using hc
 unfold wpOp;simp only [ho,hw,if_true];refine .inl (h _ _ fun v w' hp=>?_);have:=K.put (d:=o.dst) (by rw [hd];exact hN) v;rw [hd] at this ⊢;exact k v _ w' hp this
theorem vL (H0:List Nat) (hc:(rem.erase c==H0)=true) (ho:ops[c]? = some o) (K:Kd D a N l) (hw:Region.wanted o (yielded ops a.tmps)=true) (hd:o.dst=none) (h:Ac P o a w post)
  (k:∀v a' w',post v w'→Kd D a' N l→(nA f c=true→S w')∧DI P O ops S (sY f) (nA f) R n H0 a' w'):wpOp P ops O c (fun a' w'=>(nA f c=true→S w')∧DI P O ops S (sY f) (nA f) R n (rem.erase c) a' w') a w:=by
 obtain rfl:rem.erase c=H0:=by simpa using hc
 unfold wpOp;simp only [ho,hw,if_true];refine .inl (h _ _ fun v w' hp=>?_);rw [hd];exact k v _ w' hp K
theorem E0 {St Rt:Type} {Rel:St→Act→World→Prop} {kk:St→Option Rt} {jf:(St→Option Rt)→Option Rt} {r:Rt} {p:Code} (h:jf kk=some r) (hk:∀st a w,Rel st a w→kk st=some r→Q .normal a w)
  (hc:∀kk:St→Option Rt,(∀st a w,Rel st a w→kk st=some r→Q .normal a w)→jf kk=some r→p.wp P Q a w):p.wp P Q a w:=hc kk hk h
theorem VL (h:R a w):DI P O ops S (sY f) (nA f) R 0 [] a w:=⟨rfl,h⟩
end
section
variable {P:Program} {S:World→Prop} {base:Nat} {W w:World} {L:List pY} {D:List Deferred} {a:Act} {N:Nat} {l:List (Nat × Value)} {o:Oper} {v v':Value} {x y ix:Operand} {k:IntKind} {m n:Int} {t e t':TypeId} {g off:Nat} {cs:List Value} {α:Type} {C:yB α} {xs ys zs:List α} {A B:Option Addr} {c c':Nat}
theorem aGI:(⟨g,off,none⟩:Addr).add 0=⟨g,off,none⟩:=by unfold Addr.add;split <;> simp_all
theorem Ip {len s:Nat} (ho:o.op = .slice t x none none none) (ht:P.underlying t=some (.array len e)) (hsz:(P.info? e).map (·.size)=some s) (K:Kd D a N l) (hx:kX l x=some (.pointer (some ⟨g,off,none⟩))) :
  Rd P S a o (.slice (some ⟨g,off,none⟩) len len):=fun w _=>by
 simp only [Option.map_eq_some_iff] at hsz;obtain ⟨i,wJ,hs⟩:=hsz;unfold execOp
 simp [ho,K.ev hx,Instr.sliceAt,Instr.sliceBounds,Instr.sureAddr,run_underlying ht,sizeOf,typeInfo,wJ,hs,aGI]
theorem Ul (hx:(cs.drop off).take (C.all xs).length=C.all xs) (h:jM w g t cs.toArray):SL w C (some ⟨g,off,none⟩) xs:=fun _=>⟨g,off,rfl,fun j u hu=>by
 rw [h.cell];have hj:j<(C.all xs).length:=(List.getElem?_eq_some_iff.1 hu).1;rw [←hx,List.getElem?_take,if_pos hj,List.getElem?_drop] at hu
 simpa using hu⟩
theorem Dm (ho:o.op = .makeInterface t x) (ht:P.concrete t=true) (K:Kd D a N l) (hx:kX l x=some v):Rd P S a o (.iface t v):=fun w _=>by
 unfold execOp
 simp [ho,K.ev hx,run_makeInterface w t v ht]
theorem JN {b s j len:Nat} (ho:o.op = .indexAddr t x ix) (ht:Ni P t e s b=true) (K:Kd D a N l) (hx:kX l x=some (.slice (some ⟨g,0,none⟩) len c)) (hi:kX l ix=some (.int k j)) (hj:Nat.blt j len=true):Rd P S a o (.pointer (some ⟨g,j*s,none⟩)):=fun w _=>by
  obtain ⟨hu,i,wJ,hs,_⟩:=p8 ht
  have h1:(j:Int)<len:=by have:j<len:=by simpa [Nat.blt_eq] using hj
                          omega
  have hadd:(⟨g,0,none⟩:Addr).add (j*s)=⟨g,j*s,none⟩:=by unfold Addr.add;split <;> simp_all
  unfold execOp
  simp [ho,K.ev hx,K.ev hi,Instr.indexAt,asIntOf,run_underlying hu,sizeOf,typeInfo,wJ,hs,h1,hadd]
  intro hh;omega
def fdT (P:Program) (t:TypeId) (f:Nat):Option (TypeId × Nat):=match P.underlying t with
 | some (.struct fs)=>(fs[f]?).map fun fl=>(fl.type,fl.offset)
 | _=>none
theorem Xc {f:Nat} (ho:o.op = .field t x f) (hf:fdT P t f=some (e,off)) (ht:OL P e=true) (K:Kd D a N l) (hx:kX l x=some (.agg cs.toArray)) (hv:cs[off]? = some v):Rd P S a o v:=fun w _=>by
 unfold fdT at hf
 split at hf
 ·rename_i fs hu
  obtain ⟨fl,hfl,he⟩:=Option.map_eq_some_iff.1 hf;cases he;unfold execOp
  simp [ho,K.ev hx,Instr.field,run_underlying hu,hfl,part,asAgg,(BL ht w).1,hv]
 ·cases hf
theorem SL.Kp {C:yB α} {A:Option Addr} {xs:List α} (h:SL w C A xs) (hA:A.isNone=true):xs=[]:=by
 rcases Nat.eq_zero_or_pos xs.length with h0 | h0
 ·exact List.length_eq_zero_iff.1 h0
 ·obtain ⟨b,o',rfl,_⟩:=h h0;cases hA
theorem Bw {n:Nat} (ho:o.op = .binOp .eql t x y t') (ht:∃e,P.underlying t=some (.slice e)) (K:Kd D a N l) (hx:kX l x=some (.slice A n c)) (hy:kX l y=some (.slice none 0 0)):Rd P S a o (.bool A.isNone):=fun w hS=>by
 obtain ⟨e,ht⟩:=ht;unfold execOp;simp only [ho,K.ev hx,K.ev hy,Sem.run_bind];have h1:=Lib.run_eql_slice_nil (P:=P) w t e A n c 0 0 ht
 cases A <;> simp [eqGuard,h1]
theorem CN {f:FuncId} {vs:List Value} {u:Value} {mn:String} {args:Array Operand} {ts:Array TypeId} (ho:o.op = .call { callee:=.invoke x mn,args:=args,argTypes:=ts }) (hf:kY P f=true)
  (hm:∀v w,(method (P.types.size+Made.depth) t v mn).run P w = .ok (f,v) w) (K:Kd D a N l) (hx:kX l x=some (.iface t u)) (hargs:args.toList.map (kX l)=vs.map some) {post:Value→World→Prop}
  (h:Calls P f (u::vs).toArray w fun e w'=>∃v,e = .returned v∧post v w'):Ac P o a w post:=by
 have hE:args.map a.eval=vs.toArray:=by
  apply Array.ext'
  simp only [Array.toList_map]
  have:∀(xs:List Operand) (vs:List Value),xs.map (kX l)=vs.map some→xs.map a.eval=vs:=by
   intro xs
   induction xs with
   | nil=>intro vs h;cases vs <;> simp_all
   | cons x xs ih=>
    intro vs h;cases vs with
    | nil=>simp at h
    | cons v vs=>simp only [List.map_cons,List.cons.injEq] at h ⊢;exact ⟨K.ev h.1,ih vs h.2⟩
  exact this _ _ hargs
 have hrun:(execOp a.eval o).run P w = .ok (.enter f (u::vs).toArray) w:=by
  unfold kY at hf
  split at hf
  ·rename_i fn hfn
   simp only [Bool.and_eq_true,bne_iff_ne,ne_eq] at hf;obtain ⟨b,hb⟩:=Option.isSome_iff_exists.1 hf.1;unfold execOp
   simp [ho,resolve,K.ev hx,hE,invoke,callMethod,hm,callFunc,hfn,hb,hf.2]
  ·cases hf
 intro K' Q hK;unfold Oper.wp;rw [hrun,Oper.upon_enter];refine h.mono ?_;rintro e w' ⟨v,rfl,hp⟩;exact hK v w' hp
theorem vF {b s:Nat} (ho:o.op = .buildSlice t 0 #[]) (ht:Ni P t e s b=true) (hs:s=C.size) (K:Kd D a N l) (M:Mem base W w L) :
  Ac P o a w fun v w'=>∃g,v = .slice (some ⟨g,0,none⟩) ([]:List α).length 0∧Mem base W w' (.row e s (some ⟨g,0,none⟩) ([]:List α).length 0 (C.all ([]:List α))::L):=by
 refine Dv (v:=.slice (some ⟨w.heap.size,0,none⟩) 0 0) (w':=w.alloc (.cells #[] e)) ?_ ⟨_,rfl,?_⟩
 ·obtain ⟨hu,i,wJ,hsz,_⟩:=p8 ht;unfold execOp
  simp [ho,Instr.buildSlice,Sem.run_bind,run_underlying hu,Result.andThen_ok,sizeOf,typeInfo,run_program,wJ,hsz,Instr.fill,newRow,run_newObj_alloc]
  congr 2
  exact Array.eq_empty_of_size_eq_zero (by simp)
 ·exact (M.new e []).oI 0 rfl C [] rfl rfl hs
theorem Xd {n:Nat} {ds cs':List Value} (ho:o.op = .store t x y) (ht:Fg P t n=true) (K:Kd D a N l) (hx:kX l x=some (.pointer (some ⟨g,off,none⟩))) (hy:kX l y=some (.agg ds.toArray)) (h1:ds.all (·.oneCell')=true) (i:Nat) (M:Mem base W w L) (hi:L[i]? = some (.blk g t' cs)) (hn:ds.length=n) (hl:Nat.ble (off+ds.length) cs.length=true)
  (hc:cs.take off++(ds++cs.drop (off+ds.length))=cs'):Ac P o a w fun _ w'=>Mem base W w' (L.set i (.blk g t' cs')):=by
 subst hc;obtain ⟨d,_,_,hsz⟩:=Ep ht;simp only [Option.map_eq_some_iff] at hsz;obtain ⟨inf,wJ,hsz⟩:=hsz;have hr:=run_storeCells_at P g off t' ds 0 cs.toArray w (M.bN hi) (by simpa using Nat.le_of_ble_eq_true hl) (by simpa using h1);refine MO (w':=w.setRow g (cs.take off++(ds++cs.drop (off+ds.length))).toArray) ?_ (M.setRow i hi _);unfold execOp;have hcell:(Value.agg ds.toArray).cells=ds.toArray:=rfl;simp only [Nat.add_zero,List.append_assoc] at hr;subst hn
 simp [ho,K.ev hx,K.ev hy,Instr.storeAt,Instr.sureAddr,storeVar,sizeOf,typeInfo,wJ,hsz,hcell,hr]
theorem NW {p:Code} {Q:Exit→Act→World→Prop} {w:World} (n:Nat) (h:Code.rounds P p Q n a w):(Code.loop p).wp P Q a w:=wp_loop_rounds n h
theorem Da {p:Code} {Q:Exit→Act→World→Prop} {w:World} {n:Nat} (h:p.wp P (Exit.then (Code.rounds P p Q n) Q) a w):Code.rounds P p Q (n+1) a w:=h
end
abbrev I (n:Int):Value:=.int .i64 n
inductive Stp (P:Program) (ops:Array Oper) (S:World→Prop) (D:List Deferred) (N:Nat) (l:List (Nat × Value)) (o:Oper) (v:Value):Prop where
 | yes (hw:∀a,Kd D a N l→Region.wanted o (yielded ops a.tmps)=true) (hr:∀a,Kd D a N l→Rd P S a o v)
 | no (hw:∀a,Kd D a N l→Region.wanted o (yielded ops a.tmps)=false) (hv:undef=v)
section
variable {P:Program} {base:Nat} {W w:World} {L:List pY} {S:World→Prop} {D:List Deferred} {a:Act} {N:Nat} {l:List (Nat × Value)} {o:Oper} {v:Value} {post:Value→World→Prop}
  {ops:Array Oper} {Q:Exit→Act→World→Prop} {R:Act→World→Prop} {rest:List Oper} {d:Nat} {f:List Nat}
theorem p7 (K:Kd D a N l) (M:Mem base W w L) (k:∀a',Kd D a' N ((d,v)::l)→wpList P ops Q rest a' w) (hd:o.dst=some d:=by exact rfl) (hN:Nat.blt d N=true:=by exact rfl)
    (hs:Stp P ops (fun w=>Mem base W w L) D N l o v:=by
      first
      | exact .no (fun a K=>K.no rfl rfl rfl rfl) rfl
      | exact .no (fun a K=>K.nou rfl rfl rfl) rfl
      | exact .yes (by first | exact fun a K=>aB rfl | exact fun a K=>K.yes rfl rfl rfl) (by
         first
         | exact fun a K=>bX rfl K rfl
         | exact fun a K=>vU rfl K rfl
         | exact fun a K=>iM rfl K rfl rfl
         | exact fun a K=>kG rfl K rfl rfl
         | exact fun a K=>H6 rfl K rfl
         | exact fun a K=>Et rfl K rfl rfl
         | exact fun a K=>rd_not rfl K rfl
         | exact fun a K=>Ad rfl K rfl rfl
         | exact fun a K=>CB rfl K rfl rfl
         | exact fun a K=>GS rfl K rfl rfl
         | exact fun a K=>Es rfl K rfl rfl
         | exact fun a K=>CC rfl K rfl rfl
         | exact fun a K=>Nl rfl K rfl rfl
         | exact fun a K=>Lj rfl K rfl rfl
         | exact fun a K=>Nj rfl K rfl rfl
         | exact fun a K=>Nk rfl K rfl rfl
         | exact fun a K=>H8 rfl K rfl rfl
         | exact fun a K=>H7 rfl K rfl rfl
         | exact fun a K=>H5 rfl K rfl rfl)):wpList P ops Q (o::rest) a w:=by
  cases hs with
  | yes hw hr=>exact aD0 K (hw a K) hd hN (hr a K) M k
  | no hw hv=>subst hv;exact aHK K (hw a K) hd hN k
theorem oS (M:Mem base W w L) (k:∀a',Kd D a' N ((d,v)::l)→wpList P ops Q rest a' w) (hd:o.dst=some d:=by exact rfl) (hN:Nat.blt d N=true:=by exact rfl)
    (hs:Stp P ops (fun w=>Mem base W w L) D N l o v:=by
      first
      | exact .no (fun a K=>K.no rfl rfl rfl rfl) rfl
      | exact .no (fun a K=>K.nou rfl rfl rfl) rfl
      | exact .yes (by first | exact fun a K=>aB rfl | exact fun a K=>K.yes rfl rfl rfl) (by
         first
         | exact fun a K=>bX rfl K rfl
         | exact fun a K=>vU rfl K rfl
         | exact fun a K=>iM rfl K rfl rfl
         | exact fun a K=>kG rfl K rfl rfl
         | exact fun a K=>H6 rfl K rfl
         | exact fun a K=>Et rfl K rfl rfl
         | exact fun a K=>rd_not rfl K rfl
         | exact fun a K=>Ad rfl K rfl rfl
         | exact fun a K=>CB rfl K rfl rfl
         | exact fun a K=>GS rfl K rfl rfl
         | exact fun a K=>Es rfl K rfl rfl
         | exact fun a K=>CC rfl K rfl rfl
         | exact fun a K=>Nl rfl K rfl rfl
         | exact fun a K=>Lj rfl K rfl rfl
         | exact fun a K=>Nj rfl K rfl rfl
         | exact fun a K=>Nk rfl K rfl rfl
         | exact fun a K=>H8 rfl K rfl rfl
         | exact fun a K=>H7 rfl K rfl rfl
         | exact fun a K=>H5 rfl K rfl rfl)):∀a,Kd D a N l→wpList P ops Q (o::rest) a w:=fun a K=>p7 K M k hd hN hs
theorem bQ (hr:∀a,Kd D a N l→Rd P (fun w=>Mem base W w L) a o v) (M:Mem base W w L) (k:∀a',Kd D a' N ((d,v)::l)→wpList P ops Q rest a' w)
  (hw:∀a,Kd D a N l→Region.wanted o (yielded ops a.tmps)=true:=by first | exact fun a K=>aB rfl | exact fun a K=>K.yes rfl rfl rfl) (hd:o.dst=some d:=by exact rfl) (hN:Nat.blt d N=true:=by exact rfl) :
  ∀a,Kd D a N l→wpList P ops Q (o::rest) a w:=fun a K=>aD0 K (hw a K) hd hN (hr a K) M k
theorem Tq (K:Kd D a N l) (hr:Rd P (fun w=>Mem base W w L) a o v) (M:Mem base W w L) (k:∀a',Kd D a' N ((d,v)::l)→wpList P ops Q rest a' w)
  (hw:∀a,Kd D a N l→Region.wanted o (yielded ops a.tmps)=true:=by first | exact fun a K=>aB rfl | exact fun a K=>K.yes rfl rfl rfl) (hd:o.dst=some d:=by exact rfl) (hN:Nat.blt d N=true:=by exact rfl) :
  wpList P ops Q (o::rest) a w:=aD0 K (hw a K) hd hN hr M k
theorem sN (K:Kd D a N l) (h:Ac P o a w post) (k:∀v a' w',post v w'→Kd D a' N ((d,v)::l)→wpList P ops Q rest a' w')
  (hw:∀a,Kd D a N l→Region.wanted o (yielded ops a.tmps)=true:=by first | exact fun a K=>aB rfl | exact fun a K=>K.yes rfl rfl rfl) (hd:o.dst=some d:=by exact rfl) (hN:Nat.blt d N=true:=by exact rfl) :
  wpList P ops Q (o::rest) a w:=aD1 K (hw a K) hd hN h k
theorem CO (K:Kd D a N l) (h:Ac P o a w post) (k:∀v a' w',post v w'→Kd D a' N l→wpList P ops Q rest a' w')
  (hw:∀a,Kd D a N l→Region.wanted o (yielded ops a.tmps)=true:=by first | exact fun a K=>aB rfl | exact fun a K=>K.yes rfl rfl rfl) (hd:o.dst=none:=by exact rfl) :
  wpList P ops Q (o::rest) a w:=aHL K (hw a K) hd h k
theorem T_o (K:Kd D a N l) (k:∀a',Kd D a' N ((d,v)::l)→rT P ops S R (marked f rest) a' w) (hd:o.dst=some d:=by exact rfl) (hN:Nat.blt d N=true:=by exact rfl)
    (hs:Stp P ops S D N l o v:=by
      first
      | exact .no (fun a K=>K.no rfl rfl rfl rfl) rfl
      | exact .no (fun a K=>K.nou rfl rfl rfl) rfl
      | exact .yes (by first | exact fun a K=>aB rfl | exact fun a K=>K.yes rfl rfl rfl) (by
         first
         | exact fun a K=>bX rfl K rfl
         | exact fun a K=>vU rfl K rfl
         | exact fun a K=>iM rfl K rfl rfl
         | exact fun a K=>kG rfl K rfl rfl
         | exact fun a K=>H6 rfl K rfl
         | exact fun a K=>Et rfl K rfl rfl
         | exact fun a K=>rd_not rfl K rfl
         | exact fun a K=>Ad rfl K rfl rfl
         | exact fun a K=>CB rfl K rfl rfl
         | exact fun a K=>GS rfl K rfl rfl
         | exact fun a K=>Es rfl K rfl rfl
         | exact fun a K=>CC rfl K rfl rfl
         | exact fun a K=>Nl rfl K rfl rfl
         | exact fun a K=>Lj rfl K rfl rfl
         | exact fun a K=>Nj rfl K rfl rfl
         | exact fun a K=>Nk rfl K rfl rfl
         | exact fun a K=>H8 rfl K rfl rfl
         | exact fun a K=>H7 rfl K rfl rfl
         | exact fun a K=>H5 rfl K rfl rfl)):rT P ops S R (marked (0::f) (o::rest)) a w:=by
  cases hs with
  | yes hw hr=>exact aD2 K (hw a K) hd hN (hr a K) k
  | no hw hv=>subst hv;exact aHM K (hw a K) hd hN k
theorem PH (k:∀a',Kd D a' N ((d,v)::l)→rT P ops S R (marked f rest) a' w) (hd:o.dst=some d:=by exact rfl) (hN:Nat.blt d N=true:=by exact rfl)
    (hs:Stp P ops S D N l o v:=by
      first
      | exact .no (fun a K=>K.no rfl rfl rfl rfl) rfl
      | exact .no (fun a K=>K.nou rfl rfl rfl) rfl
      | exact .yes (by first | exact fun a K=>aB rfl | exact fun a K=>K.yes rfl rfl rfl) (by
         first
         | exact fun a K=>bX rfl K rfl
         | exact fun a K=>vU rfl K rfl
         | exact fun a K=>iM rfl K rfl rfl
         | exact fun a K=>kG rfl K rfl rfl
         | exact fun a K=>H6 rfl K rfl
         | exact fun a K=>Et rfl K rfl rfl
         | exact fun a K=>rd_not rfl K rfl
         | exact fun a K=>Ad rfl K rfl rfl
         | exact fun a K=>CB rfl K rfl rfl
         | exact fun a K=>GS rfl K rfl rfl
         | exact fun a K=>Es rfl K rfl rfl
         | exact fun a K=>CC rfl K rfl rfl
         | exact fun a K=>Nl rfl K rfl rfl
         | exact fun a K=>Lj rfl K rfl rfl
         | exact fun a K=>Nj rfl K rfl rfl
         | exact fun a K=>Nk rfl K rfl rfl
         | exact fun a K=>H8 rfl K rfl rfl
         | exact fun a K=>H7 rfl K rfl rfl
         | exact fun a K=>H5 rfl K rfl rfl)):∀a,Kd D a N l→rT P ops S R (marked (0::f) (o::rest)) a w:=fun a K=>T_o K k hd hN hs
theorem eC (hr:∀a,Kd D a N l→Rd P S a o v) (k:∀a',Kd D a' N ((d,v)::l)→rT P ops S R (marked f rest) a' w)
  (hw:∀a,Kd D a N l→Region.wanted o (yielded ops a.tmps)=true:=by first | exact fun a K=>aB rfl | exact fun a K=>K.yes rfl rfl rfl) (hd:o.dst=some d:=by exact rfl) (hN:Nat.blt d N=true:=by exact rfl) :
  ∀a,Kd D a N l→rT P ops S R (marked (0::f) (o::rest)) a w:=fun a K=>aD2 K (hw a K) hd hN (hr a K) k
theorem T_r (K:Kd D a N l) (hr:Rd P S a o v) (k:∀a',Kd D a' N ((d,v)::l)→rT P ops S R (marked f rest) a' w)
  (hw:∀a,Kd D a N l→Region.wanted o (yielded ops a.tmps)=true:=by first | exact fun a K=>aB rfl | exact fun a K=>K.yes rfl rfl rfl) (hd:o.dst=some d:=by exact rfl) (hN:Nat.blt d N=true:=by exact rfl) :
  rT P ops S R (marked (0::f) (o::rest)) a w:=aD2 K (hw a K) hd hN hr k
theorem nY (K:Kd D a N l) (h:Ac P o a w post) (k:∀v a' w',post v w'→Kd D a' N ((d,v)::l)→S w'∧rT P ops S R (marked f rest) a' w')
  (hw:∀a,Kd D a N l→Region.wanted o (yielded ops a.tmps)=true:=by first | exact fun a K=>aB rfl | exact fun a K=>K.yes rfl rfl rfl) (hd:o.dst=some d:=by exact rfl) (hN:Nat.blt d N=true:=by exact rfl) :
  rT P ops S R (marked (1::f) (o::rest)) a w:=aD3 K (hw a K) hd hN h k
theorem AP (K:Kd D a N l) (h:Ac P o a w post) (k:∀v a' w',post v w'→Kd D a' N l→rT P ops S R (marked f rest) a' w')
  (hw:∀a,Kd D a N l→Region.wanted o (yielded ops a.tmps)=true:=by first | exact fun a K=>aB rfl | exact fun a K=>K.yes rfl rfl rfl) (hd:o.dst=none:=by exact rfl) :
  rT P ops S R (marked (2::f) (o::rest)) a w:=aFR K (hw a K) hd h k
end
theorem IQ (l:List UInt8):(bs l).size=l.length:=by simp [bs,ByteArray.size]
theorem PI (l:List UInt8):(bs l).toList=l:=ByteArray.toList_mk l
theorem Xe (l m:List UInt8):bs l++bs m=bs (l++m):=by
 apply ByteArray.ext
 simp [bs,ByteArray.data_append]
section
variable {P:Program} {base:Nat} {W w:World} {L:List pY} {S:World→Prop} {D:List Deferred} {a:Act} {N:Nat} {l:List (Nat × Value)} {o:Oper} {x y ix:Operand} {t t' e:TypeId} {m n p q:Int} {k k':IntKind}
  {xs ys zs:List UInt8} {A:Option Addr} {c:Nat} {ns:List Int}
theorem G6 (ho:o.op = .call { callee:=.builtin .len,args:=#[x],argTypes:=#[t] }) (h:P.underlying t=some .string) (K:Kd D a N l) (hx:kX l x=some (.string (bs xs))):Rd P S a o (.int .i64 xs.length):=by
 have:=aA9 (P:=P) (S:=S) ho h K hx;rw [IQ] at this;exact this
theorem E1 (ho:o.op = .index t x ix) (ht:P.underlying t=some .string) (K:Kd D a N l) (hx:kX l x=some (.string (bs xs))) (hi:kX l ix=some (.int k n)) {b:UInt8} (he:idx xs n=some b):Rd P S a o (.int .u8 (b.toNat:Int)):=
 aDZ ho ht K hx hi he
theorem QT (ho:o.op = .binOp .add t x y t') (K:Kd D a N l) (hx:kX l x=some (.string (bs xs))) (hy:kX l y=some (.string (bs ys))) (hz:Wj xs ys=some zs):Rd P S a o (.string (bs zs)):=by
 obtain ⟨rfl,h⟩:=Wk hz;refine uG ho K hx hy fun w=>?_
 have h1:=IQ xs;have h2:=IQ ys
 simp [eqGuard,binOp_string_add,Op.stringOp,Xe]
 omega
theorem M8 (ho:o.op = .binOp .eql t x y t') (K:Kd D a N l) (hx:kX l x=some (.string (bs xs))) (hy:kX l y=some (.string (bs ys))):Rd P S a o (.bool (decide (xs=ys))):=
 uG ho K hx hy fun w=>by
  have e:(xs==ys)=decide (xs=ys):=by rw [Bool.eq_iff_iff];simp
  rw [Sem.run_bind];simp [eqGuard,binOp_string_eql,PI,e]
theorem aCF (ho:o.op = .binOp .neq t x y t') (K:Kd D a N l) (hx:kX l x=some (.string (bs xs))) (hy:kX l y=some (.string (bs ys))):Rd P S a o (.bool (!decide (xs=ys))):=
 uG ho K hx hy fun w=>by
  have e:(xs==ys)=decide (xs=ys):=by rw [Bool.eq_iff_iff];simp
  rw [Sem.run_bind];simp [eqGuard,binOp_string_neq,PI,e]
theorem By {b:Nat} (ho:o.op = .convert t t' x) (ht:Ni P t e 1 b=true) (he:P.underlying e=some (.int .u8)) (hd:P.underlying t'=some .string) (K:Kd D a N l) (hx:kX l x=some (.slice A ns.length c)) (hb:∀w,S w→SL w (cI .u8) A ns):Rd P S a o (.string (bs (toB ns))):=fun w hS=>by
 obtain ⟨hu,_⟩:=p8 ht;unfold execOp;simp only [ho,K.ev hx]
 have key:(convert t t' (.slice A ns.length c)).run P w = .ok (.string (bs (toB ns))) w:=by
  by_cases h0:0<ns.length
  ·obtain ⟨b,off,rfl,hc⟩:=hb w hS h0;refine run_convert_bytes_arg w t e hu he b off ns.length c ns rfl (fun i hi=>?_) t' hd;refine hc i _ ?_;have:=yB.BM (cI .u8) ns i 0 ns[i] (.int .u8 ns[i]) (List.getElem?_eq_getElem hi) rfl;rw [List.getD_eq_getElem?_getD,List.getElem?_eq_getElem hi];have h1:(cI .u8).size=1:=rfl;rw [h1,Nat.mul_one,Nat.add_zero] at this;exact this
  ·have hn:ns=[]:=List.eq_nil_of_length_eq_zero (by omega);subst hn;cases A with
   | none=>exact run_convert_bytes_nil w t e hu he _ _ t' hd
   | some ad=>
    rw [run_convert_bytes_string w t t' e (some ad) _ c hu he hd];exact run_bytesToString w ad 0 c [] (run_loadCells_list (P:=P) w ad [] (fun j v hj=>by simp at hj))
 simp [key]
theorem LL {b:Nat} (ho:o.op = .convert t t' x) (ht:Ni P t e 1 b=true) (he:P.underlying e=some (.int .u8)) (hd:P.underlying t'=some .string) (K:Kd D a N l) (hx:kX l x=some (.slice A ns.length c)) (M:Mem base W w L) (R:SL w (cI .u8) A ns) :
  Ac P o a w fun v w'=>v = .string (bs (toB ns))∧Mem base W w' L:=
 Dv (By (S:=fun w'=>w'=w) ho ht he hd K hx (fun w' hw=>hw ▸ R) w rfl) ⟨rfl,M⟩
theorem PJ (s:List UInt8):Lib.strCells (bs s)=(cI .u8).all (Cc s):=by
 show s.map (fun b=>Value.int .u8 b.toNat)=_
 induction s with
 | nil=>rfl
 | cons x s ih=>
  show _=(cI .u8).enc (x.toNat:Int)++(cI .u8).all (Cc s);rw [List.map_cons,ih];rfl
theorem G7 (s:List UInt8):(Cc s).length=s.length:=by simp [Cc]
theorem Xf {i:TypeInfo} {v v':Value} {n:Nat} {vs:List Value} {w':World} (s:ByteArray) (ht:P.underlying t=some (.slice e)) (hu:P.underlying t'=some .string) (hi:P.info? e=some i) (hz:i.zero=some (.int .u8 0)) (hsize:i.size=1) (hby:i.bytes=1)
  (hown:w.ownsRow 0 e 1 v n vs) (hb:n+s.size≤140737488355328) (ty:TypeId) (hr:(Builtin.append_ #[t,t'] ty #[v,.string s]).run P w = .ok v' w') (h0:v≠.slice none 0 0∨0<s.size):v'.ownBlock=v.ownBlock∨v'.ownBlock=some w.heap.size:=by
 have hxl:vs.length=n:=by simpa using hown.1
 rcases hown.2 with ⟨rfl,rfl⟩ | ⟨g,cap,cur,rfl,hbg,hg,hnc,hcm,hcs,htake⟩
 ·have hm:0<s.size:=by
   rcases h0 with h0 | h0
   ·exact absurd rfl h0
   ·exact h0
  have:=run_append_nil_string (P:=P) w t t' ty e i (.int .u8 0) ht hu hi hz s (by omega) (by omega) (by rw [hby];omega);rw [hr] at this
  injection this with h1 _
  right;rw [h1];rfl
 ·by_cases hroom:n+s.size≤cap
  ·have:=Lib.run_append_room_string (P:=P) w t t' ty e i ht hu hi hsize g n cap cur hg s hroom (by omega);rw [hr] at this
   injection this with h1 _
   left;rw [h1];rfl
  ·have holds:∀j u,vs[j]? = some u→w.cell? ((⟨g,0,none⟩:Addr).add j)=some u:=hown.cells (g:=g) rfl;have:=Lib.run_append_grow_string (P:=P) w t t' ty e i (.int .u8 0) ht hu hi hz ⟨g,0,none⟩ n cap vs (by rw [hsize];simpa using hxl) holds s (by omega) (by omega) (by rw [hby];exact growslice_fits (by omega) (by omega));rw [hr] at this
   injection this with h1 _
   right;rw [h1];rfl
theorem M9 {zs:List Int} (ho:o.op = .call { callee:=.builtin .append,args:=#[x,y],argTypes:=#[t,t'] }) (ht:Ni P t e 1 1=true) (hu:P.underlying t'=some .string) (hz:(P.info? e).bind (·.zero)=some (.int .u8 0)) (K:Kd D a N l)
  (hx:kX l x=some (.slice A ns.length c)) (hy:kX l y=some (.string (bs ys))) (i:Nat) (M:Mem base W w L) (hi:L[i]? = some (.row e 1 A ns.length c ((cI .u8).all ns))) (hlen:app 1 ns (Cc ys)=some zs) :
  Ac P o a w fun v w'=>∃A' c'',v = .slice A' zs.length c''∧Mem base W w' (L.set i (.row e 1 A' zs.length c'' ((cI .u8).all zs))):=by
 obtain ⟨rfl,hbytes⟩:=RE hlen;rw [G7] at hbytes;obtain ⟨hsl,inf,wJ,hsz,hby⟩:=p8 ht;have hzz:inf.zero=some (.int .u8 0):=by rw [wJ] at hz;exact hz
 have hown:=M.has i _ hi;have hsize:(bs ys).size=ys.length:=IQ ys;have hb2:ns.length+(bs ys).size≤140737488355328:=by rw [hsize];omega
 obtain ⟨v',w',hr,h2,h3,h4⟩:=Lib.run_append_own_string (P:=P) w 0 t t' o.type e inf hsl hu wJ hzz hsz hby (.slice A ns.length c) ns.length ((cI .u8).all ns) hown (bs ys) (by simp only [maxLen];omega) hb2 (Nat.zero_le _);rw [PJ,hsize,←yB.all_append] at h2
 by_cases h0:(Value.slice A ns.length c) = .slice none 0 0∧ys=[]
 ·obtain ⟨h00,rfl⟩:=h0
  injection h00 with e1 e2 e3
  subst e1 e3;have hns:ns=[]:=List.eq_nil_of_length_eq_zero e2;subst hns
  have hr2:(Builtin.append_ #[t,t'] o.type #[.slice none ([]:List Int).length 0,.string (bs [])]).run P w = .ok (.slice none 0 0) w:=by
   have hf:=Lib.run_firstCells_string (P:=P) w 1 (bs []);have hm:(bs []).size=0:=rfl;rw [hm] at hf
   simp [Builtin.append_,run_underlying hsl,run_underlying hu,sizeOf,typeInfo,wJ,hsz,Builtin.lenOf,hm,hf]
  refine Dv (v:=.slice none 0 0) (w':=w) ?_ ⟨none,0,rfl,?_⟩
  ·unfold execOp;simp only [ho,resolve,invoke,builtin,Sem.run_bind,Sem.run_pure,Result.andThen_ok,List.map_toArray,List.map_cons,List.map_nil,K.ev hx,K.ev hy];rw [hr2];rfl
  ·have:L.set i (.row e 1 none (([]:List Int)++Cc []).length 0 ((cI .u8).all ([]++Cc [])))=L:=by
    obtain ⟨hlt,he⟩:=List.getElem?_eq_some_iff.1 hi;exact he ▸ List.set_getElem_self hlt
   rw [this];exact M
 have hne:(Value.slice A ns.length c)≠.slice none 0 0∨0<(bs ys).size:=by
  by_cases hy0:ys=[]
  ·left;exact fun e=>h0 ⟨e,hy0⟩
  ·right;rw [hsize];exact List.length_pos_iff.2 hy0
 have hpl:=Xf (bs ys) hsl hu wJ hzz hsz hby hown hb2 o.type hr hne
 have hv':v'≠.slice none 0 0:=fun e=>by
  obtain ⟨q1,q2⟩:=h4.1 e;rw [hsize] at q2;exact h0 ⟨q1,List.eq_nil_of_length_eq_zero q2⟩
 rcases h2.2 with ⟨e1,_⟩ | ⟨g,cap,cur,rfl,_⟩
 ·exact absurd e1 hv'
 refine Dv (v:=.slice (some ⟨g,0,none⟩) (ns.length+ys.length) cap) (w':=w') ?_ ⟨some ⟨g,0,none⟩,cap,by rw [List.length_append,G7],?_⟩
 ·unfold execOp;simp only [ho,resolve,invoke,builtin,Sem.run_bind,Sem.run_pure,Result.andThen_ok,List.map_toArray,List.map_cons,List.map_nil,K.ev hx,K.ev hy];rw [hr];rfl
 ·have h3':w.grownBy w' (A.map (·.block)):=by
   cases A with
   | none=>exact h3
   | some ad=>exact h3
  rw [List.length_append,G7];refine M.grown i hi h3' h2 ?_
  rcases hpl with hpl | hpl
  ·left
   cases A with
   | none=>simp [Value.ownBlock] at hpl
   | some ad=>simpa [Value.ownBlock] using hpl.symm
  ·right
   simp [Value.ownBlock] at hpl
   omega
end
end
section
open Go.RowKit Go.WideMaps
section
variable {P:Program} {base:Nat} {W w:World} {L:List pY} {S:World→Prop} {D:List Deferred} {a:Act} {N:Nat} {l:List (Nat × Value)} {o:Oper} {x y z:Operand} {t k e T:TypeId} {g n c:Nat} {A:Option Addr}
  {m m':List (List UInt8 × Int)} {s:List UInt8} {r:Int × Bool} {v:Int}
theorem Mem.swap {e e':pY} (M:Mem base W w L) (i:Nat) (hi:L[i]? = some e) (h:pY.holds w e') (hf:e'.foot=e.foot):Mem base W w (L.set i e'):=
 M.aCX i hi (Below.refl _ _) h (fun _ _ _=>rfl) (fun g hg=>.inl (hf ▸ hg)) M.UX
theorem Mem.aGJ (e:TypeId) (M:Mem base W w (.blk g T [.pointer none,.slice none 0 0]::L)):Mem base W w (.row e 1 none ([]:List UInt8).length 0 ((cI .u8).all (Cc ([]:List UInt8))) :: .ML g T none ([]:List UInt8).length 0::L):=
 Mem.aK e 1 (cI .u8) (M.swap 0 rfl (show pY.holds w (.ML g T none 0 0) from ⟨none,.inl rfl,M.has 0 _ rfl⟩) rfl)
theorem Mem.aGK (M:Mem base W w L) (i:Nat) (hi:L[i]? = some (.blk g T [.pointer (some ⟨g,0,none⟩),.slice A n c])):Mem base W w (L.set i (.ML g T A n c)):=
 M.swap i hi (show pY.holds w (.ML g T A n c) from ⟨_,.inr rfl,M.has i _ hi⟩) rfl
theorem Mem.builder {b:List UInt8} (M:Mem base W w (.ML g T A b.length c :: .row e 1 A b.length c ((cI .u8).all (Cc b))::L)):Lib.IsBuilder T e base g (Lib.byteCells b) w:=by
 obtain ⟨p,hp,hb⟩:=M.has 0 _ rfl;have hrow:w.ownsRow 0 e 1 (.slice A b.length c) b.length ((cI .u8).all (Cc b)):=M.has 1 _ rfl;rw [←PJ] at hrow;have hup:=M.up 0 _ g rfl rfl
 have hat:Lib.BuilderAt T e base g (.pointer p) (Lib.byteCells b) w:=by
  refine ⟨hup,.slice A b.length c,hb,?_,?_⟩
  ·rw [Lib.byteCells_length];obtain ⟨h1,h2⟩:=hrow;refine ⟨h1,?_⟩
   rcases h2 with h2 | ⟨g',cap,cur,q1,q2,q3⟩
   ·exact .inl h2
   ·refine .inr ⟨g',cap,cur,q1,?_,q3⟩
    injection q1 with q1 _ _
    exact M.up 1 _ g' rfl (by simp [pY.foot,q1])
  ·intro h;cases A with
   | none=>simp [Value.ownBlock] at h
   | some ad=>
    have h':ad.block=g:=by simpa [Value.ownBlock] using h
    have:=M.one 0 1 _ _ g rfl rfl rfl (by simp [pY.foot,h'])
    omega
 rcases hp with rfl | rfl
 ·exact .inl hat
 ·exact .inr hat
theorem eB {α:Type} {C:yB α} {xs:List α} {el:α} {b s':Nat} {i:Int} {kk:IntKind} {w':World} (ho:o.op = .indexAddr t x y) (ht:Ni P t e s' b=true) (K:Kd D a N l) (hx:kX l x=some (.slice A xs.length c)) (hi:kX l y=some (.int kk i)) (hb:SL w' C A xs) (he:idx xs i=some el):Rd P S a o (.pointer (some ((Xs A).add (i.toNat*s')))):=fun w hS=>by
 obtain ⟨hu,inf,wJ,hs,_⟩:=p8 ht;obtain ⟨h0,hlt,hel⟩:=Ao he;obtain ⟨b',o',hA,hc⟩:=hb (by omega);have h1:i<xs.length:=by omega
 unfold execOp;subst hA
 simp [ho,K.ev hx,K.ev hi,Instr.indexAt,asIntOf,run_underlying hu,sizeOf,typeInfo,wJ,hs,h0,h1,Xs]
theorem VM {O:Exit→Act→World→Prop} {ops:Array Oper} {f:List Nat} {d cc n':Nat} {u:Value} {R:Act→World→Prop} {rem:List Nat} (H0:List Nat) (hc:(rem.erase cc==H0)=true) (ho:ops[cc]? = some o) (K:Kd D a N l) (hw:Region.wanted o (yielded ops a.tmps)=true) (hd:o.dst=some d) (hN:Nat.blt d N=true)
  (hr:Rd P (fun w=>Mem base W w L) a o u) (M:Mem base W w L) (k:∀a',Kd D a' N ((d,u)::l)→(nA f cc=true→S w)∧DI P O ops S (sY f) (nA f) R n' H0 a' w) :
  wpOp P ops O cc (fun a' w'=>(nA f cc=true→S w')∧DI P O ops S (sY f) (nA f) R n' (rem.erase cc) a' w') a w:=
 kD H0 hc ho K hw hd hN (post:=fun v' w'=>v'=u∧w'=w) (Dv (hr w M) ⟨rfl,rfl⟩) fun v' a' w' hp K'=>by obtain ⟨rfl,rfl⟩:=hp;exact k a' K'
theorem SMap.new (w:World):SMap P k e (w.alloc (.map #[] 0)) w.heap.size []:=⟨.map [],World.ownsMap_made w P k _,fun s=>⟨rfl,fun z=>rfl⟩⟩
end
end
section
open Go.RowKit
section
variable {P:Program} {base:Nat} {W w:World} {L H T:List pY} {e:pY}
variable {S:World→Prop} {D:List Deferred} {a:Act} {N:Nat} {l:List (Nat × Value)} {o:Oper} {x y z:Operand} {t t' et:TypeId} {s:List UInt8}
theorem Sz {e:TypeId} {k:IntKind} (he:P.underlying e=some (.int k)) (hc:P.cellsOf e=1) (d:Nat) (w:World):∀(m i:Nat) (xs ys:List Int),xs.length=i+m→ys.length=i+m →
  (Op.eqItems (d+1) e (P.cellsOf e) (xs.map (Value.int k)).toArray (ys.map (Value.int k)).toArray (List.range' i m)).run P w = .ok (decide (xs.drop i=ys.drop i)) w:=by
 have hp:P.plainKey e=true:=by unfold Program.plainKey;rw [he]
 intro m
 induction m with
 | zero=>
  intro i xs ys hx hy;rw [List.range'_zero,List.drop_of_length_le (by omega),List.drop_of_length_le (by omega)]
  simp [Op.eqItems]
 | succ m ih=>
  intro i xs ys hx hy;have hxi:i<xs.length:=by omega
  have hyi:i<ys.length:=by omega
  have p1:(part e (xs.map (Value.int k)).toArray i).run P w = .ok (.int k xs[i]) w:=run_part_plain w hp (by simp [hxi]);have p2:(part e (ys.map (Value.int k)).toArray i).run P w = .ok (.int k ys[i]) w:=run_part_plain w hp (by simp [hyi])
  have p3:(Op.equalIn (d+1) e (.int k xs[i]) (.int k ys[i])).run P w = .ok (decide (xs[i]=ys[i])) w:=by
   simp [Op.equalIn,run_underlying he]
   rw [Bool.eq_iff_iff];simp
  have hih:=ih (i+1) xs ys (by omega) (by omega);rw [hc] at hih;rw [List.range'_succ,hc];have ex:=List.drop_eq_getElem_cons hxi;have ey:=List.drop_eq_getElem_cons hyi;unfold Op.eqItems;simp only [Nat.mul_one,Sem.run_bind,p1,p2,p3,Result.andThen_ok]
  by_cases h:xs[i]=ys[i]
  ·rw [decide_eq_true h];simp only [Bool.not_true,Bool.false_eq_true,if_false];rw [hih,ex,ey,h]
   congr 1
   rw [decide_eq_decide];exact ⟨fun q=>by rw [q],fun q=>(List.cons.inj q).2⟩
  ·rw [decide_eq_false h,ex,ey,decide_eq_false fun q=>h (List.cons.inj q).1]
   rfl
theorem ZR {t e:TypeId} {k:IntKind} {n:Nat} (hu:P.underlying t=some (.array n e)) (he:P.underlying e=some (.int k)) (hsz:(P.info? e).map (·.size)=some 1) (xs ys:List Int) (hx:xs.length=n) (hy:ys.length=n) (w:World) :
  (Op.equalIn 10000 t (.agg (xs.map (Value.int k)).toArray) (.agg (ys.map (Value.int k)).toArray)).run P w = .ok (decide (xs=ys)) w:=by
 obtain ⟨i,hi,hs⟩:=Option.map_eq_some_iff.1 hsz;have hc:P.cellsOf e=1:=by unfold Program.cellsOf;rw [hi];exact hs
 have h1:=run_equalIn_array (P:=P) (w:=w) 9999 (t:=t) (xs.map (Value.int k)).toArray (ys.map (Value.int k)).toArray hu hi;rw [h1,List.range_eq_range'];have:=Sz he hc 9998 w n 0 xs ys (by omega) (by omega)
 simpa using this
end
end
end Go.Proofs.YtpmnfhifmmfglacGreatDoor
