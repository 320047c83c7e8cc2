/- Parts of the proof. -/
import Derived.ChangeKeysEq
import Derived.Laws.IdiomStrings
import Derived.Recover
import Derived.Scope
import Derived.Shelf.Strconv.ErrVarAll
import Derived.Shelf.Strconv.Itoa3
import Derived.Shelf.Strings.Builder1
import Derived.Shelf.Strings.Count
import Derived.Shelf.Strings.Search2
import Derived.Shelf.Strings.Search3
import Derived.Shelf.Strings.SlTrimAscii
import Derived.Stop.IfaceNil
import Derived.Test.YtpmnfhifmmfgladGreatDoorChecked
import Derived.Test.YtpmnfhifmmfgladGreatDoorProg
import Derived.Test.YtpmnfhifmmfgladGreatDoorShotDevelopsK4
import Derived.Test.YtpmnfhifmmfgladGreatDoorShotDevelopsK5
import Derived.Test.YtpmnfhifmmfgladGreatDoorShotDevelopsK9
set_option linter.unusedVariables false
set_option linter.unusedSimpArgs false
set_option linter.unusedSectionVars false
set_option maxRecDepth 100000
set_option maxHeartbeats 8000000
open Bool renaming and_eq_true→o9
open Go.IntKind renaming i64→aC,u8→iH
open Int renaming tmod→mN
open List renaming getElem?_eq_getElem→f9,range→gS,getD_eq_getElem?_getD→qG,length_append→kG,append_assoc→pL,append_nil→v4,getElem?_eq_none→wW,length_take→yQ
open Nat renaming le_refl→pK
open UInt8 renaming ofNat→nN
namespace Go.Proofs.YtpmnfhifmmfgladGreatDoor
section
open Go.RowKit
section
variable {P:Program} {base:Nat} {W w:World} {L H T:List mM} {e:mM}
theorem Mem.tl (M:Mem base W w (e::L)):Mem base W w L:=
 ⟨M.low,M.UH,M.bs,fun i e' h=>M.has (i+1) e' h,fun i e' g h hf=>M.up (i+1) e' g h hf,fun i j e1 e2 g h1 h2 f1 f2=>by
  have:=M.one (i+1) (j+1) e1 e2 g h1 h2 f1 f2
  omega⟩
theorem Mem.uZ (n:Nat) (hn:H.length=n) (M:Mem base W w (H++T)) (is:List Nat) (h:is.Nodup) (hl:∀i∈is,i<n):Mem base W w (M7 H is++T):=by
 have h2:(is++(gS T.length).map (n + ·)).Nodup:=by
  rw [List.nodup_append];refine ⟨h,?_,?_⟩
  ·exact List.Pairwise.map _ (fun a b (hab:a≠b)=>show n+a≠n+b by omega) List.nodup_range
  ·intro a ha b hb;obtain ⟨j,_,rfl⟩:=List.mem_map.1 hb;have:=hl a ha
   omega
 have:=M.pick _ h2
 have e:M7 (H++T) (is++(gS T.length).map (n + ·))=M7 H is++T:=by
  unfold M7;rw [List.map_append]
  congr 1
  ·refine List.map_congr_left fun i hi=>?_
   have:=hl i hi;rw [qG,qG,List.getElem?_append_left oQ]
  ·rw [List.map_map];refine List.ext_getElem? fun i=>?_
   rw [List.getElem?_map]
   by_cases hi:i<T.length
   ·rw [List.getElem?_range hi]
    simp [←hn,List.getElem?_append_right,f9 hi]
   ·rw [wW uW,wW oQ];rfl
 rwa [e] at this
theorem inF {α:Type} {C:Ah α} {xs:List α} {g:Nat} (i:Nat) (h:L[i]? = some (.frz g (C.all xs))):∀w,Mem base W w L→SL w C (some ⟨g,0,none⟩) xs:=fun w M _=>by
 obtain ⟨arr,t,q,hh,hp⟩:=M.has i _ h;refine ⟨g,0,rfl,fun j u hu=>?_⟩;rw [Nat.zero_add,cell_of_row w g j arr t q hh];exact hp j u hu
variable {S:World→Prop} {D:List Deferred} {a:Act} {N:Nat} {l:List (Nat×Value)} {o:Oper} {x y z:Operand} {t t' et:TypeId} {s:aR}
theorem Up {b:Nat} (ho:o.op = .convert t t' x) (hs:P.underlying t=some .string) (ht:Ou P t' et 1 b=true) (he:P.underlying et=some (.int .u8)) (K:Kd D a N l) (hx:jH l x=some (.string (bs s))) (M:Mem base W w L) :
  Ac P o a w fun v w'=>∃g c,v = .slice (some ⟨g,0,none⟩) (rT s).length c∧(rT s).length≤c∧Mem base W w' (.frz g ((cI .u8).all (rT s))::L):=by
 obtain ⟨hu,_⟩:=pA ht;have hr:=run_bytes_of_string (P:=P) w t t' et (bs s) hs hu he;have hsz:(bs s).size=(rT s).length:=by rw [BT];exact yK s
 have hcap:(rT s).length≤grownCap w (bs s).size 0 et:=by
  rw [←hsz];exact grownCap_ge _ _ _ _
 have hrun:(execOp a.eval o).run P w = .ok (.value (.slice (some ⟨w.heap.size,0,none⟩) (rT s).length (grownCap w (bs s).size 0 et))) (w.drew.alloc (.cells (bytesRow (bs s) (grownCap w (bs s).size 0 et)) et ((bytesRow (bs s) (grownCap w (bs s).size 0 et)).size,(bytesRow (bs s) (grownCap w (bs s).size 0 et)).size+1))):=by
  unfold execOp;simp only [ho,K.ev hx,Sem.run_bind,hr,←hsz];rfl
 refine AW hrun ⟨w.heap.size,grownCap w (bs s).size 0 et,rfl,hcap,?_⟩
 ·refine ((M.drew).below ((Below.refl _ _).alloc (pK _) _)).cons ?_ fun g hg=>?_
  ·refine ⟨_,_,_,heap_alloc_new w.drew _,fun j u hu=>?_⟩;rw [←LJ] at hu;have hl:(Lib.strCells (bs s)).length=(bs s).size:=by unfold Lib.strCells;simp [bs,ByteArray.size]
   unfold bytesRow;have hj:=(List.getElem?_eq_some_iff.1 hu).1;rw [hl] at hj;rw [Array.getElem?_append_left (by rw [Array.size_map];exact hj)]
   have:Lib.strCells (bs s)=((bs s).data.map (fun b=>Value.int .u8 b.toNat)).toList:=by
    show s.map _=_
    simp [bs]
   rw [this] at hu
   simpa using hu
  ·simp [mM.foot] at hg
   subst hg;exact ⟨M.sz,fun i e' h he=>by have:=M.Mp i e' _ h he;omega⟩
end
section
variable {P:Program} {ops:Array Oper} {Q O:Exit→Act→World→Prop} {S:World→Prop} {vQ need:Nat→Bool} {R:Act→World→Prop}
theorem Xs (hL:¬LetsOut O) {j:Nat} {oi oj:Oper} {v:Value} (hj:ops[j]? = some oj) (hap:oi.apart ops oj=true) (hO:∀e a v w,O e (a.put oi.dst v) w→O e a w)
  (hsi:∀cs b,oi.op≠.select cs b) (hsj:∀cs b,oj.op≠.select cs b) {K:Act→World→Prop} {a:Act} {w:World}
  (hy:AR P ops S oi v a) (h:wpOp P ops O j K (a.put oi.dst v) w) :
  wpOp P ops O j (fun a' w'=>AR P ops S oi v a'∧K (a'.put oi.dst v) w') a w:=by
 obtain ⟨h1,h2,h3⟩:=Oper.apart_spec hap
 have keep:∀(a:Act),AR P ops S oi v a→∀u,AR P ops S oi v (a.put oj.dst u):=fun a hy u=>
  hy.same (execOp_put oi hsi a oj.dst u h3) (wanted_put oi a oj.dst u h3)
 have keepD:∀d,AR P ops S oi v { a with defers:=d::a.defers }:=fun d=>hy.same rfl rfl
 unfold wpOp at *;simp only [hj] at *;rw [wanted_put oj a oi.dst v h1] at h
 split
 ·rename_i hw
  simp only [hw,if_true] at h
  rcases h with h|⟨_,hl⟩
  case inr=>exact absurd hl hL
  refine .inl ?_;unfold Oper.wp at *;rw [execOp_put oj hsj a oi.dst v h1] at h
  generalize (execOp a.eval oj).run P w=r at *
  cases r with
  | ok n w'=>
   cases n <;> simp only [Oper.upon] at h ⊢
   case value u=>exact ⟨keep a hy u,by rw [←Act.put_comm a v u h2];exact h⟩
   case skip=>exact ⟨keep a hy _,by rw [←Act.put_comm a v undef h2];exact h⟩
   case defer d=>
    refine ⟨keep _ (keepD d) _,?_⟩;rw [←Act.put_comm _ v undef h2,←Act.put_defers];exact h
   case enter f args=>
    refine Calls.mono h fun e w'' he=>?_
    cases e with
    | returned u=>exact ⟨keep a hy u,by rw [←Act.put_comm a v u h2];exact he⟩
    | panicked c=>exact hO _ _ _ _ he
    | outgrown=>exact absurd he hL
   case row row args=>exact Rows.mono h fun u w'' he=>⟨keep a hy u,by rw [←Act.put_comm a v u h2];exact he⟩
  | halt x w'=>cases x <;> simp only [Oper.upon] at h ⊢;exact hO _ _ _ _ h
 ·rename_i hw
  simp only [hw] at h;exact ⟨keep a hy _,by rw [←Act.put_comm a v undef h2];exact h⟩
theorem aCH (hL:¬LetsOut O) (hQ:∀e a w,O e a w→Q e a w) {i:Nat} {K:Act→World→Prop} {a:Act} {w:World} (h:wpOp P ops O i K a w):wpOp P ops Q i K a w:=by
  unfold wpOp at *
  split
  · rename_i h0
    simp only [h0] at h
    exact h
  · rename_i o ho
    simp only [ho] at h
    split
    · rename_i hw
      rw [aF hw] at h
      rcases h with h|⟨_,hl⟩
      case inr=>exact absurd hl hL
      refine .inl ?_
      unfold Oper.wp at *
      generalize (execOp a.eval o).run P w=r at *
      cases r with
      | ok n w'=>
        cases n <;> simp only [Oper.upon] at h ⊢ <;> first
          | exact h
          | (refine Calls.mono h fun e w'' he=>?_
             cases e with
             | returned u=>exact he
             | panicked c=>exact hQ _ _ _ he
             | outgrown=>exact absurd he hL)
      | halt x w'=>cases x <;> simp only [Oper.upon] at h ⊢;exact hQ _ _ _ h
    · rename_i hw
      rw [aE hw] at h
      exact h
theorem aFu (hL:¬LetsOut O) (hO:∀(i:Nat) (o:Oper),ops[i]? = some o→∀e a v w,O e (a.put o.dst v) w→O e a w) {c:Nat} {oc:Oper} (hc:ops[c]? = some oc) (hrc:vQ c=false) (hsel:∀(j:Nat) (o:Oper) cs b,ops[j]? = some o→o.op≠.select cs b)
  (Dj:∀j k oj ok,j≠k→ops[j]? = some oj→ops[k]? = some ok→waits ops j k=false→waits ops k j=false→(vQ j=true→oj.apart ops ok=true)) :
  ∀(n:Nat) (rem:List Nat) (a:Act) (w:World),c∈rem→O4 ops rem c=true→vE P O ops S vQ need R (n+1) rem a w→wpOp P ops O c (fun a' w'=>(need c=true→S w')∧vE P O ops S vQ need R n (rem.erase c) a' w') a w:=by
 intro n
 induction n with
 | zero=>
  intro rem a w hcm hrd h
  rcases h with ⟨i0,hi0,hr0,hd0,o0,ho0,u,hu,h⟩|⟨_,h⟩
  ·obtain ⟨hnil,hR⟩:=h;have e:i0≠c:=fun e=>by subst e;rw [hrc] at hr0;cases hr0
   have:c∈rem.erase i0:=(List.mem_erase_of_ne (fun h=>e h.symm)).2 hcm;rw [hnil] at this;cases this
  ·exact h c hcm hrc hrd
 | succ n ih=>
  intro rem a w hcm hrd h
  rcases h with ⟨i0,hi0,hr0,hd0,o0,ho0,u,hu,h⟩|⟨_,h⟩
  ·have e:i0≠c:=fun e=>by subst e;rw [hrc] at hr0;cases hr0
   have hcm':c∈rem.erase i0:=(List.mem_erase_of_ne (fun h=>e h.symm)).2 hcm;have h2:=ih _ _ _ hcm' (Gd hrd) h;have w1:=Dn hrd hi0;have w2:=Dn hd0 hcm;have ap:=Dj i0 c o0 oc e ho0 hc w2 w1 hr0;have h3:=Xs hL hc ap (hO i0 o0 ho0) (fun cs b=>hsel i0 o0 cs b ho0) (fun cs b=>hsel c oc cs b hc) hu h2;refine wpOp_mono ?_ h3;rintro a' w' ⟨hy,hn,hk⟩;refine ⟨hn,.inl ⟨i0,(List.mem_erase_of_ne e).2 hi0,hr0,Gd hd0,o0,ho0,u,hy,?_⟩⟩;rw [List.erase_comm];exact hk
  ·exact h c hcm hrc hrd
theorem VO (hL:¬LetsOut O) (hO:∀(i:Nat) (o:Oper),ops[i]? = some o→∀e a v w,O e (a.put o.dst v) w→O e a w) (hQ:∀e a w,O e a w→Q e a w) (hok:VK ops vQ need=true):∀(aA:Nat) (listed:Array Bool) (a:Act) (w:World),listed.size=ops.size→Closed ops listed→(mP ops listed).length=aA →
  (∀r∈mP ops listed,vQ r=true→S w)→vE P O ops S vQ need (Q .normal) aA (mP ops listed) a w→wpAny P .any ops Q aA listed a w:=by
 simp only [VK,o9] at hok;obtain ⟨⟨⟨We,hback⟩,ZK⟩,Wf⟩:=hok;have hsel:=Region.noSelect_spec We;have hp:∀i<ops.size,∀j<i,MJ ops vQ i j=true:=fun i hi j hj=>List.all_eq_true.1 (List.all_eq_true.1 ZK i (List.mem_range.2 hi)) j (List.mem_range.2 hj)
 have Dj:∀j k oj ok,j≠k→ops[j]? = some oj→ops[k]? = some ok→waits ops j k=false→waits ops k j=false→(vQ j=true→oj.apart ops ok=true):=by
  intro j k oj ok hjk hj hk w1 w2 hr;have hjl:=(Array.getElem?_eq_some_iff.1 hj).1;have hkl:=(Array.getElem?_eq_some_iff.1 hk).1
  rcases Nat.lt_or_gt_of_ne hjk with hlt|hlt
  ·have h:=hp k hkl j hlt;unfold MJ at h;simp only [hj,hk,w2,Bool.false_or,o9,Bool.or_eq_true,Bool.not_eq_true'] at h
   rcases h.2 with h0|h0
   ·rw [hr] at h0;cases h0
   ·exact h0
  ·have h:=hp j hjl k hlt;unfold MJ at h;simp only [hj,hk,w1,Bool.false_or,o9,Bool.or_eq_true,Bool.not_eq_true'] at h
   rcases h.1 with h0|h0
   ·rw [hr] at h0;cases h0
   ·exact h0
 have hbk:∀i o,ops[i]? = some o→∀e∈o.after,Region.binds .any e=true→e.on<i:=fun i o ho e he hb=>by
  have hi:i<ops.size:=(Array.getElem?_eq_some_iff.1 ho).1;have h:=List.all_eq_true.1 hback i (List.mem_range.2 hi);simp only [ho] at h;have h2:=Array.all_eq_true_iff_forall_mem.1 h e he
  simpa [hb] using h2
 have hnd:∀i<ops.size,vQ i=false→∀r<ops.size,vQ r=true→waits ops i r=false→need i=true:=fun i hi JH r hr hrr hw=>by
  have h:=List.all_eq_true.1 Wf i (List.mem_range.2 hi);simp only [JH,Bool.false_or,Bool.or_eq_true,Bool.not_eq_true'] at h;refine h.resolve_right fun h0=>?_
  have:Qv ops vQ i=true:=by
   refine List.any_eq_true.2 ⟨r,List.mem_range.2 hr,?_⟩;have:r≠i:=fun e=>by subst e;rw [JH] at hrr;cases hrr
   simp [hrr,hw,this]
  rw [this] at h0;cases h0
 intro aA
 induction aA with
 | zero=>
  intro listed a w hs hc gK _ h;have hnil:mP ops listed=[]:=List.eq_nil_of_length_eq_zero gK;obtain ⟨_,h⟩:=h;refine ⟨?_,h⟩;refine List.eq_nil_iff_forall_not_mem.2 fun i hi=>?_
  obtain ⟨h0,o,ho,_⟩:=mem_ready.1 hi;have:i∈mP ops listed:=rW.2 ⟨(Array.getElem?_eq_some_iff.1 ho).1,h0⟩;rw [hnil] at this;cases this
 | succ aA ih=>
  intro listed a w hs hc gK hS h;refine ⟨fun h0=>?_,fun i hi=>?_⟩
  ·exfalso
   match hr:mP ops listed,gK with
   | i0::rest,_=>
    have hm0:i0∈mP ops listed:=by rw [hr];exact List.mem_cons_self ..
    obtain ⟨hlt,hun⟩:=rW.1 hm0;have Hy:=BI (ops:=ops) listed;rw [hr,List.pairwise_cons] at Hy
    have:i0∈Region.ready .any ops listed:=by
     refine mem_ready.2 ⟨hun,ops[i0],Array.getElem?_eq_getElem hlt,fun e he hb=>?_⟩;have hlt2:=hbk i0 _ (Array.getElem?_eq_getElem hlt) e he hb;cases hl:listed.getD e.on false with
     | true=>rfl
     | false=>
      have hm:e.on∈mP ops listed:=rW.2 ⟨by omega,by rw [Ga oQ];exact hl⟩;rw [hr] at hm
      rcases List.mem_cons.1 hm with hm|hm
      ·omega
      ·have:=Hy.1 _ hm;omega
    rw [h0] at this;cases this
  ·obtain ⟨hun,oi,hoi,hall⟩:=mem_ready.1 hi;have hilt:i<ops.size:=(Array.getElem?_eq_some_iff.1 hoi).1;have him:i∈mP ops listed:=rW.2 ⟨hilt,hun⟩;have ZN:(mP ops listed).Nodup:=(BI (ops:=ops) listed).imp fun h=>Nat.ne_of_lt h
   have Hz:mP ops (listed.setIfInBounds i true)=(mP ops listed).erase i:=by rw [On hs hilt,JM ZN]
   have hlen':(mP ops (listed.setIfInBounds i true)).length=aA:=by
    rw [Hz,List.length_erase_of_mem him];omega
   have hs':(listed.setIfInBounds i true).size=ops.size:=by simpa using hs
   have hc':Closed ops (listed.setIfInBounds i true):=by
    intro k hk j hj
    by_cases hik:i=k
    ·subst hik;exact getD_set_true (AU hi hj)
    ·rw [getD_set_ne false hik] at hk;exact getD_set_true (hc k hk j hj)
   have hrd:O4 ops (mP ops listed) i=true:=by
    unfold O4;rw [List.all_eq_true];intro j hj;obtain ⟨h1,h2⟩:=rW.1 hj;cases hw:waits ops i j with
    | false=>rfl
    | true=>
     have:=AU hi hw;rw [←Ga oQ,h2] at this;cases this
   cases JH:vQ i with
   | true=>
    have hSw:S w:=hS i him JH;obtain ⟨v,hv,hrest⟩:=aBi hoi JH hsel Dj aA _ a w him hrd h;refine hv.run hoi hSw (ih _ _ _ hs' hc' hlen' (fun _ _ _=>hSw) (by rw [Hz];exact hrest))
   | false=>
    have h2:=aFu hL hO hoi JH hsel Dj aA _ a w him hrd h;refine aCH hL hQ (wpOp_mono ?_ h2);rintro a' w' ⟨hn,hk⟩;refine ih _ _ _ hs' hc' hlen' ?_ (by rw [Hz];exact hk);intro r hr hrr;rw [Hz] at hr;have hrm:=List.mem_of_mem_erase hr;exact hn (hnd i hilt JH r (rW.1 hrm).1 hrr (Dn hrd hrm))
theorem VP (hL:¬LetsOut O) (hQ:∀e a w,O e a w→Q e a w) {id:Nat} {a:Act} {w:World} {l:List Oper} (hO:∀(i:Nat) (o:Oper),l.toArray[i]? = some o→∀e a v w,O e (a.put o.dst v) w→O e a w) (S:World→Prop) (f:List Nat) (n:Nat) (rem:List Nat) (hm:P.follows .mixedOrders=true) (hok:VK l.toArray (jZ f) (dM f)=true)
  (hl:gS l.toArray.size=rem) (hn:rem.length=n) (hS:S w.drew) (h:vE P O l.toArray S (jZ f) (dM f) (Q .normal) n rem a w.drew):(Code.region id l.toArray true).wp P Q a w:=by
 refine wp_region_any hm ?_
 have Mj:mP l.toArray (Array.replicate l.toArray.size false)=gS l.toArray.size:=by
  unfold mP;refine List.filter_eq_self.2 fun i hi=>?_
  have:=List.mem_range.1 hi
  simp at this
  simp [this]
 refine VO hL hO hQ hok l.toArray.size (Array.replicate l.toArray.size false) a _ sQ ?_ (by rw [Mj];simp) (fun _ _ _=>hS) ?_
 ·intro i hi;rw [BH] at hi;cases hi
 ·rw [Mj,hl];have:l.toArray.size=n:=by rw [←hn,←hl];simp
  rw [this];exact h
def Bk (D:List Deferred) (N:Nat) (l0:List (Nat×Value)) (Pn:List PanicEntry→World→Prop):Exit→Act→World→Prop:=fun e a w=>∃ch,e = .panic ch∧Pn ch w∧Kd D a N l0
def aBm (ops:List Oper) (l0:List (Nat×Value)):Bool:=ops.all fun o=>match o.dst with
 | some d=>(CU l0 d).isNone
 | none=>true
theorem Kd.aNs {D:List Deferred} {a:Act} {N:Nat} {l0:List (Nat×Value)} {d:Option Nat} {v:Value} (h:∀s,d=some s→CU l0 s=none) (K:Kd D (a.put d v) N l0):Kd D a N l0:=by
 cases d with
 | none=>exact K
 | some d=>
  refine ⟨K.defs,by have:=K.size;simpa [Act.put] using this,fun s u hs=>?_⟩;have h2:=K.get s u hs;have hne:d≠s:=fun e=>by subst e;rw [h d rfl] at hs;cases hs
  simp only [Act.put] at h2;rw [←h2]
  simp [Array.getD_eq_getD_getElem?,Array.getElem?_setIfInBounds,hne]
theorem rR {id:Nat} {a:Act} {w:World} {l:List Oper} {D:List Deferred} {N:Nat} (l0:List (Nat×Value)) (Pn:List PanicEntry→World→Prop) (hcl:aBm l l0=true) (hQ:∀ch a w,Pn ch w→Kd D a N l0→Q (.panic ch) a w) (S:World→Prop) (f:List Nat) (n:Nat) (rem:List Nat) (hm:P.follows .mixedOrders=true) (hok:VK l.toArray (jZ f) (dM f)=true)
  (hl:gS l.toArray.size=rem) (hn:rem.length=n) (hS:S w.drew) (h:vE P (Bk D N l0 Pn) l.toArray S (jZ f) (dM f) (Q .normal) n rem a w.drew):(Code.region id l.toArray true).wp P Q a w:=
 VP (O:=Bk D N l0 Pn) (fun ⟨_,_,_,h,_⟩=>by cases h) (fun e a w ⟨ch,h1,h2,h3⟩=>by subst h1;exact hQ ch a w h2 h3)
  (fun i o ho e a v w ⟨ch,h1,h2,h3⟩=>⟨ch,h1,h2,Kd.aNs (fun s hs=>by
   unfold aBm at hcl;rw [List.all_eq_true] at hcl;have hm:=hcl o (by simpa using Array.mem_of_getElem? ho);rw [hs] at hm
   simpa using hm) h3⟩) S f n rem hm hok hl hn hS h
variable {D:List Deferred} {a:Act} {w:World} {N:Nat} {l l0:List (Nat×Value)} {o:Oper} {v:Value} {d c n:Nat} {rem:List Nat} {f:List Nat} {Pn:List PanicEntry→World→Prop} {x:Operand}
theorem aPA {kk:Act→World→Prop} (ho:ops[c]? = some o) (K0:Kd D a N l0) (hw:Region.wanted o (yielded ops a.tmps)=true) (h:Bo P o a w Pn):wpOp P ops (Bk D N l0 Pn) c kk a w:=by
 unfold wpOp;simp only [ho,hw,if_true];exact .inl (h _ _ fun ch w' hp=>⟨ch,rfl,hp,K0⟩)
theorem aFv {fid:FuncId} {cap vs:List Value} {args:Array Operand} {ts:Array TypeId} (K:Kd D a N l) (ho:o.op = .call { callee:=.value x,args:=args,argTypes:=ts }) (hf:Ej P fid=true) (hx:jH l x=some (.func (.func fid) #[] cap.toArray)) (hargs:args.toList.map (jH l)=vs.map some)
  {K2:Act→World→Prop} {Q2:Exit→Act→World→Prop} (h:Calls P fid (vs++cap).toArray w fun e w'=>(∃v,e = .returned v∧K2 (a.put o.dst v) w')∨∃ch,e = .panicked ch∧Q2 (.panic ch) a w'):o.wp P a w K2 Q2:=by
 have hE:args.map a.eval=vs.toArray:=by
  apply Array.ext'
  simp only [Array.toList_map]
  have:∀(xs:List Operand) (vs:List Value),xs.map (jH l)=vs.map some→xs.map a.eval=vs:=by
   intro xs
   induction xs with
   | nil=>intro vs h;cases vs <;> simp_all
   | cons x xs ih=>
    intro vs h;cases vs with
    | nil=>simp at h
    | cons v vs=>simp only [List.map_cons,List.cons.injEq] at h ⊢;exact ⟨K.ev h.1,ih vs h.2⟩
  exact this _ _ hargs
 have hrun:(execOp a.eval o).run P w = .ok (.enter fid (vs++cap).toArray) w:=by
  unfold Ej at hf
  split at hf
  ·rename_i fn hfn
   simp only [o9,bne_iff_ne,ne_eq] at hf;obtain ⟨b,hb⟩:=Option.isSome_iff_exists.1 hf.1;unfold execOp
   simp [ho,resolve,K.ev hx,hE,Deferred.ofValue,invoke,callFunc,hfn,hb,hf.2]
  ·cases hf
 unfold Oper.wp;rw [hrun,Oper.upon_enter];refine h.mono ?_;rintro e w' (⟨v,rfl,hp⟩|⟨ch,rfl,hp⟩)
 ·exact hp
 ·exact hp
theorem KY {rest:List Oper} {fid:FuncId} {cap vs:List Value} {args:Array Operand} {ts:Array TypeId} (K:Kd D a N l) (hw:Region.wanted o (yielded ops a.tmps)=true) (hd:o.dst=some d) (hN:Nat.blt d N=true)
  (ho:o.op = .call { callee:=.value x,args:=args,argTypes:=ts }) (hf:Ej P fid=true) (hx:jH l x=some (.func (.func fid) #[] cap.toArray)) (hargs:args.toList.map (jH l)=vs.map some)
  (h:Calls P fid (vs++cap).toArray w fun e w'=>(∃v,e = .returned v∧∀a',Kd D a' N ((d,v)::l)→wpList P ops Q rest a' w')∨∃ch,e = .panicked ch∧Q (.panic ch) a w'):wpList P ops Q (o::rest) a w:=by
 refine wpList_step fun Kc hK=>?_
 rw [aF hw];refine aFv K ho hf hx hargs (h.mono ?_);rintro e w' (⟨v,he,hp⟩|hp)
 ·refine .inl ⟨v,he,hK _ _ ?_⟩;have:=K.put (d:=o.dst) (by rw [hd];exact hN) v;rw [hd] at this ⊢;exact hp _ this
 ·exact .inr hp
theorem VQ {fid:FuncId} {cap vs:List Value} {args:Array Operand} {ts:Array TypeId} (AS:List Nat) (hc:(rem.erase c==AS)=true) (hop:ops[c]? = some o) (K:Kd D a N l) (hw:Region.wanted o (yielded ops a.tmps)=true) (hd:o.dst=some d) (hN:Nat.blt d N=true) (K0:Kd D a N l0)
  (ho:o.op = .call { callee:=.value x,args:=args,argTypes:=ts }) (hf:Ej P fid=true) (hx:jH l x=some (.func (.func fid) #[] cap.toArray)) (hargs:args.toList.map (jH l)=vs.map some)
  (h:Calls P fid (vs++cap).toArray w fun e w'=>(∃v,e = .returned v∧∀a',Kd D a' N ((d,v)::l)→(dM f c=true→S w')∧vE P (Bk D N l0 Pn) ops S (jZ f) (dM f) R n AS a' w')∨∃ch,e = .panicked ch∧Pn ch w'):wpOp P ops (Bk D N l0 Pn) c (fun a' w'=>(dM f c=true→S w')∧vE P (Bk D N l0 Pn) ops S (jZ f) (dM f) R n (rem.erase c) a' w') a w:=by
 obtain rfl:rem.erase c=AS:=by simpa using hc
 unfold wpOp;simp only [hop,hw,if_true];refine .inl (aFv K ho hf hx hargs (h.mono ?_));rintro e w' (⟨v,he,hp⟩|⟨ch,he,hp⟩)
 ·refine .inl ⟨v,he,?_⟩;have:=K.put (d:=o.dst) (by rw [hd];exact hN) v;rw [hd] at this ⊢;exact hp _ this
 ·exact .inr ⟨ch,he,ch,rfl,hp,K0⟩
theorem aFw {fn:Func} {code:Code} {fid:FuncId} {args:Array Value} {Rp:Ending→World→Prop} (hf:P.funcs[fid]? = some fn) (hb:fn.body=some code) (hN:fn.ntmps=N) (hs:Nat.ble args.size N=true)
  (h:∀a,Kn a N (L3 0 args.toList)→code.wp P (bodyPostD P fn Rp) a w):Calls P fid args w Rp:=by
 refine calls_of_wp_defers hf hb ?_;rw [hN];exact h _ (Kd.start args N hs)
theorem aPB {rest:List Oper} {fid:FuncId} {cap:List Value} (K:Kd D a N l) (hw:Region.wanted o (yielded ops a.tmps)=true) (hd:o.dst=none) (ho:o.op = .defer { callee:=.value x,args:=#[],argTypes:=#[] }) (hx:jH l x=some (.func (.func fid) #[] cap.toArray))
  (k:∀a',Kd ({ target:=.fn (.func fid) cap.toArray,args:=#[] } :: D) a' N l→wpList P ops Q rest a' w):wpList P ops Q (o::rest) a w:=by
 refine wpList_step fun Kc hK=>?_
 rw [aF hw];unfold Oper.wp
 have hrun:(execOp a.eval o).run P w = .ok (.defer { target:=.fn (.func fid) cap.toArray,args:=#[] }) w:=by
  unfold execOp
  simp [ho,resolve,K.ev hx,Deferred.ofValue]
 rw [hrun,Oper.upon_defer];refine hK _ _ ?_;rw [hd];exact k _ ⟨by show _::a.defers=_;rw [K.defs],K.size,K.get⟩
theorem aNt {fn:Func} {Rp:Ending→World→Prop} {r1 r2:ResultVar} {v1 v2:Value} {fid:FuncId} {cap:Array Value} (K:Kd [{ target:=.fn (.func fid) cap,args:=#[] }] a N l) (hr:fn.results = #[r1,r2]) (h1:Ch P a w r1 v1) (h2:Ch P a w r2 v2)
  (hi:(invoke (.fn (.func fid) cap) #[]).run P w = .ok (.enter fid cap) w) (hc:CallsD P fid cap .returning w fun e u' w'=>e = .returned (.tuple #[])∧u' = .returning∧w'=w) (h:Rp (.returned (.tuple #[v1,v2])) w):bodyPostD P fn Rp .ret a w:=by
 show Leaves P fn a.tmps Rp a.defers .returning w;rw [K.defs];refine leaves_cons (by intro h;cases h) hi (hc.mono ?_);rintro e u' w' ⟨rfl,rfl,rfl⟩;refine ⟨.tuple #[v1,v2],?_,h⟩;unfold Ch at h1 h2;rw [AX,hr];simp [h1,h2]
theorem RM {fn:Func} {Rp:Ending→World→Prop} {r1 r2:ResultVar} {v1 v2:Value} {fid:FuncId} {cap:Array Value} {pe:PanicEntry} {post:World→Prop} (K:Kd [{ target:=.fn (.func fid) cap,args:=#[] }] a N l) (hr:fn.results = #[r1,r2])
  (hi:(invoke (.fn (.func fid) cap) #[]).run P w = .ok (.enter fid cap) w) (hc:CallsD P fid cap (.panicking [pe]) w fun e u' w'=>e = .returned (.tuple #[])∧u' = .panicking [{ pe with recovered:=true }]∧post w') (hres:∀w',post w'→Ch P a w' r1 v1∧Ch P a w' r2 v2∧Rp (.returned (.tuple #[v1,v2])) w'):bodyPostD P fn Rp (.panic [pe]) a w:=by
 show Leaves P fn a.tmps Rp a.defers (.panicking [pe]) w;rw [K.defs];refine leaves_cons (by intro h;cases h) hi (hc.mono ?_);rintro e u' w' ⟨rfl,rfl,hp⟩;obtain ⟨h1,h2,h⟩:=hres w' hp;refine ⟨.tuple #[v1,v2],?_,h⟩;unfold Ch at h1 h2;rw [AX,hr];simp [h1,h2]
end
section
variable {Q:Exit→Act→World→Prop} {a:Act} {w:World}
theorem aLq (h:Q .ret a w):Exit.noGoto Q .ret a w:=h
end
theorem Ge {P:Program} {f:FuncId} {cap:Array Value} {w:World} (hf:Ej P f=true):(invoke (.fn (.func f) cap) #[]).run P w = .ok (.enter f cap) w:=by
 unfold Ej at hf
 split at hf
 ·rename_i fn hfn
  simp only [o9,bne_iff_ne,ne_eq] at hf;obtain ⟨b,hb⟩:=Option.isSome_iff_exists.1 hf.1
  simp [invoke,callFunc,hfn,hb,hf.2]
 ·cases hf
theorem aCI {P:Program} {S:World→Prop} {D:List Deferred} {a:Act} {N:Nat} {l:List (Nat×Value)} {o:Oper} {x:Operand} {t t' u:TypeId} {v:Value} (hi:P.isIface t=true) (ho:o.op = .binOp .eql t x (.const .nilIface) t') (K:Kd D a N l) (hx:jH l x=some (.iface u v)):Rd P S a o (.bool false):=
 v6 ho K hx (show jH l (.const .nilIface)=some .nilIface from rfl) fun w=>by rw [Sem.run_bind];simp [eqGuard,run_eql_iface_nil w t hi u v]
theorem aCJ {P:Program} {S:World→Prop} {D:List Deferred} {a:Act} {N:Nat} {l:List (Nat×Value)} {o:Oper} {x:Operand} {t t':TypeId} (hi:P.isIface t=true) (ho:o.op = .binOp .eql t x (.const .nilIface) t') (K:Kd D a N l) (hx:jH l x=some .nilIface):Rd P S a o (.bool true):=
 v6 ho K hx (show jH l (.const .nilIface)=some .nilIface from rfl) fun w=>by rw [Sem.run_bind];simp [eqGuard,run_eql_nil_nil_at w t hi]
theorem aLr {P:Program} {S:World→Prop} {D:List Deferred} {a:Act} {N:Nat} {l:List (Nat×Value)} {o:Oper} {x ix:Operand} {t e:TypeId} {g off c:Nat} {k:IntKind} {b s j len:Nat} (ho:o.op = .indexAddr t x ix) (ht:Ou P t e s b=true) (K:Kd D a N l) (hx:jH l x=some (.slice (some ⟨g,off,none⟩) len c)) (hi:jH l ix=some (.int k j)) (hj:Nat.blt j len=true):Rd P S a o (.pointer (some ⟨g,off+j*s,none⟩)):=fun w _=>by
  obtain ⟨hu,i,vS,hs,_⟩:=pA ht
  have h1:(j:Int)<len:=by have:j<len:=by simpa [Nat.blt_eq] using hj
                          omega
  have hadd:(⟨g,off,none⟩:Addr).add (j*s)=⟨g,off+j*s,none⟩:=by unfold Addr.add;split <;> simp_all
  unfold execOp
  simp [ho,K.ev hx,K.ev hi,Instr.indexAt,asIntOf,run_underlying hu,sizeOf,typeInfo,vS,hs,h1,hadd]
  intro hh;omega
theorem G5 (P:Program) (g o:Nat) (t:TypeId) (fz:Nat×Nat):∀(vs:List Value) (i:Nat) (cur:Array Value) (w:World),w.heap[g]? = some (.cells cur t fz)→(fz.2≤fz.1∨o+i+vs.length≤fz.1)→o+i+vs.length≤cur.size→(∀v∈vs,v.oneCell'=true) →
  (storeCells ⟨g,o,none⟩ vs i).run P w = .ok () (w.setRow g (cur.toList.take (o+i)++vs++cur.toList.drop (o+i+vs.length)).toArray)
 | [],i,cur,w,hg,_,_,_=>by
  simp only [storeCells,v4,List.length_nil,Nat.add_zero,List.take_append_drop,Array.toArray_toList];rw [setRow_self w g cur t fz hg]
  rfl
 | v::rest,i,cur,w,hg,hfz,hl,h1=>by
  have hi:o+i<cur.size:=by simp at hl;omega
  have hadd:(⟨g,o,none⟩:Addr).add i=⟨g,o+i,none⟩:=by unfold Addr.add;split <;> simp_all
  have hcell:w.cell? ⟨g,o+i,none⟩=some cur[o+i]:=by simp [World.cell?,hg,hi]
  have hfro:w.frozen? ⟨g,o+i,none⟩=false:=by
   obtain ⟨lo,hi'⟩:=fz;simp only [World.frozen?,hg,Bool.and_eq_false_iff,decide_eq_false_iff_not];simp only [List.length_cons] at hfz
   omega
  have hst:(store ((⟨g,o,none⟩:Addr).add i) v).run P w = .ok () (w.setRow g (cur.setIfInBounds (o+i) v)):=by
   rw [hadd,run_store P w _ v _ (h1 v sQ),hcell]
   simp [hfro,setCell_eq_setRow w g (o+i) cur t fz v hg]
  have ih:=G5 P g o t fz rest (i+1) (cur.setIfInBounds (o+i) v) (w.setRow g (cur.setIfInBounds (o+i) v)) (setRow_heap w g cur _ t _ hg) (by simp only [List.length_cons] at hfz;omega) (by simp at hl ⊢;omega) (fun x hx=>h1 x (by simp [hx]));simp only [storeCells,Sem.run_bind,hst,Result.andThen_ok,ih,setRow_setRow]
  congr 3
  have e:=list_seg_step cur.toList (o+i) v rest (by simp at hl ⊢;omega)
  simpa [Array.toList_setIfInBounds,Nat.add_assoc] using e
section
variable {P:Program} {base:Nat} {W w:World} {L:List mM} {S:World→Prop} {D:List Deferred} {a:Act} {N:Nat} {l:List (Nat×Value)} {o:Oper} {x y:Operand} {t t' et:TypeId} {s:aR} {A:Option Addr} {c:Nat} {xs ys zs:List Int}
theorem aPC (i:Nat) {n:Nat} (h:L[i]? = some (.rwm et A n c ((cI .u8).all xs))):∀w,Mem base W w L→SL w (cI .u8) A xs:=fun w M _=>by
 obtain ⟨g,cur,fz,rfl,hg,hfz,hn,hnc,hcm,hcs,htk⟩:=M.has i _ h;refine ⟨g,0,rfl,fun j u hu=>?_⟩;rw [Nat.zero_add,cell_of_row w g j cur _ _ hg];rw [←htk,List.getElem?_take] at hu
 split at hu
 ·simpa using hu
 ·cases hu
theorem ZR {b:Nat} (ho:o.op = .convert t t' x) (hs:P.underlying t=some .string) (ht:Ou P t' et 1 b=true) (he:P.underlying et=some (.int .u8)) (gK:s.length≤140737488355328) (K:Kd D a N l) (hx:jH l x=some (.string (bs s))) (M:Mem base W w L) :
  Ac P o a w fun v w'=>∃A c,v = .slice A (rT s).length c∧Mem base W w' (.rwm et A (rT s).length c ((cI .u8).all (rT s))::L):=by
 obtain ⟨hu,_⟩:=pA ht;have hr:=run_bytes_of_string (P:=P) w t t' et (bs s) hs hu he;have hsz:(bs s).size=(rT s).length:=by rw [BT];exact yK s
 have hl:(rT s).length=s.length:=BT s
 have hcap:(rT s).length≤grownCap w (bs s).size 0 et:=by
  rw [←hsz];exact grownCap_ge _ _ _ _
 have aIN:grownCap w (bs s).size 0 et≤maxLen:=grownCap_le_maxLen _ _ _ _ (by rw [hsz];simp only [maxLen];omega)
 have hrun:(execOp a.eval o).run P w = .ok (.value (.slice (some ⟨w.heap.size,0,none⟩) (rT s).length (grownCap w (bs s).size 0 et))) (w.drew.alloc (.cells (bytesRow (bs s) (grownCap w (bs s).size 0 et)) et ((bytesRow (bs s) (grownCap w (bs s).size 0 et)).size,(bytesRow (bs s) (grownCap w (bs s).size 0 et)).size+1))):=by
  unfold execOp;simp only [ho,K.ev hx,Sem.run_bind,hr,←hsz];rfl
 refine AW hrun ⟨some ⟨w.heap.size,0,none⟩,grownCap w (bs s).size 0 et,rfl,?_⟩
 ·refine ((M.drew).below ((Below.refl _ _).alloc (pK _) _)).cons ?_ fun g hg=>?_
  ·have hbz:(bytesRow (bs s) (grownCap w (bs s).size 0 et)).size=grownCap w (bs s).size 0 et:=by
    unfold bytesRow;rw [Array.size_append,Array.size_map,Array.size_replicate];have:(bs s).data.size=(bs s).size:=rfl;rw [this];omega
   refine ⟨w.heap.size,_,_,rfl,heap_alloc_new w.drew _,.inr (pK _),by rw [Ah.AG];simp [cI],hcap,aIN,hbz,?_⟩;rw [←LJ,←hsz];unfold bytesRow
   have e1:Lib.strCells (bs s)=((bs s).data.map (fun b=>Value.int .u8 b.toNat)).toList:=by
    show s.map _=_
    simp [bs]
   rw [e1,Array.toList_append,List.take_append_of_le_length (by rw [Array.length_toList,Array.size_map];exact pK _)];exact List.take_of_length_le (by rw [Array.length_toList,Array.size_map];exact pK _)
  ·simp [mM.foot] at hg
   subst hg;exact ⟨M.sz,fun i e' h he=>by have:=M.Mp i e' _ h he;omega⟩
theorem aBn (ho:o.op = .call { callee:=.builtin .append,args:=#[x,y],argTypes:=#[t,t] }) (ht:Ou P t et 1 1=true) (hz:(P.info? et).bind (·.zero)=some (.int .u8 0)) (K:Kd D a N l)
  (hx:jH l x=some (.slice A xs.length c)) {B:Option Addr} {c':Nat} (hy:jH l y=some (.slice B ys.length c')) (i:Nat) (M:Mem base W w L) (hi:L[i]? = some (.rwm et A xs.length c ((cI .u8).all xs))) (R:SL w (cI .u8) B ys) (hm:0<ys.length) (gK:app 1 xs ys=some zs) :
  Ac P o a w fun v w'=>∃A' c'',v = .slice A' zs.length c''∧Mem base W w' (L.set i (.rwm et A' zs.length c'' ((cI .u8).all zs))):=by
 obtain ⟨rfl,hbytes⟩:=QA gK;obtain ⟨hsl,inf,vS,hsz,hby⟩:=pA ht;have hzz:inf.zero=some (.int .u8 0):=by rw [vS] at hz;exact hz
 obtain ⟨g,cur,fz,rfl,hg,hfz,hn,hnc,hcm,hcs,htk⟩:=M.has i _ hi;obtain ⟨bb,oo,rfl,hc⟩:=R hm;have hall:∀l:List Int,((cI .u8).all l).length=l.length:=fun l=>by rw [Ah.AG];simp [cI]
 have hnews:∀j u,((cI .u8).all ys)[j]? = some u→w.cell? ((⟨bb,oo,none⟩:Addr).add j)=some u:=fun j u hu=>by
  have hadd:(⟨bb,oo,none⟩:Addr).add j=⟨bb,oo+j,none⟩:=by unfold Addr.add;split <;> simp_all
  rw [hadd];exact hc j u hu
 have hone:∀u∈(cI .u8).all ys,u.oneCell'=true:=(cI .u8).aAl ys;have hup:=M.up i _ g hi rfl;have hlt:i<L.length:=(List.getElem?_eq_some_iff.1 hi).1
 have aFx:∀{v:Value} {w':World},(Builtin.append_ #[t,t] o.type #[.slice (some ⟨g,0,none⟩) xs.length c,.slice (some ⟨bb,oo,none⟩) ys.length c']).run P w = .ok v w'→(execOp a.eval o).run P w = .ok (.value v) w':=fun {v w'} hr=>by
  unfold execOp;simp only [ho,resolve,invoke,builtin,Sem.run_bind,Sem.run_pure,Result.andThen_ok,List.map_toArray,List.map_cons,List.map_nil,K.ev hx,K.ev hy];rw [hr];rfl
 by_cases hroom:xs.length+ys.length≤c
 ·have hf:=run_firstCells_some (P:=P) w inf.size ys.length ⟨bb,oo,none⟩ ys.length c' ((cI .u8).all ys) (by rw [hall,hsz];omega) hnews;have hst:=G5 P g (xs.length*inf.size) et fz ((cI .u8).all ys) 0 cur w hg (by rw [hall,hsz];omega) (by rw [hall,hsz];omega) hone;simp only [Nat.add_zero] at hst
  have hr:(Builtin.append_ #[t,t] o.type #[.slice (some ⟨g,0,none⟩) xs.length c,.slice (some ⟨bb,oo,none⟩) ys.length c']).run P w = .ok (.slice (some ⟨g,0,none⟩) (xs.length+ys.length) c) (w.setRow g (cur.toList.take (xs.length*inf.size)++(cI .u8).all ys++cur.toList.drop (xs.length*inf.size+((cI .u8).all ys).length)).toArray):=by
   simp [Builtin.append_,run_underlying hsl,sizeOf,typeInfo,vS,Builtin.lenOf,hroom,hf,Addr.add_lit,hst]
  refine AW (aFx hr) ⟨some ⟨g,0,none⟩,c,by rw [kG],?_⟩;refine M.turn i hi ⟨rfl,rfl,rfl,by simp,fun k hk=>setRow_other w g k _ oQ⟩ ?_ (fun j _ hj=>setRow_other w g j _ fun e=>hj (by simp [mM.foot,e])) (fun g' hg'=>.inl hg');rw [hsz,Nat.mul_one,hall];refine ⟨g,_,fz,rfl,setRow_heap w g cur _ et _ hg,?_,by rw [hall,kG],by rw [kG];exact hroom,hcm,?_,?_⟩
  ·simp only [List.size_toArray,kG,yQ,List.length_drop,Array.length_toList,hall]
   omega
  ·simp only [List.size_toArray,kG,yQ,List.length_drop,Array.length_toList,hall]
   omega
  ·rw [htk,Ah.all_append,kG];have h2:(((cI .u8).all xs)++((cI .u8).all ys)).length=xs.length+ys.length:=by rw [kG,hall,hall]
   show List.take (xs.length+ys.length) ((cI .u8).all xs++(cI .u8).all ys++_)=_;rw [←h2];exact List.take_left
 ·have holds:∀j u,((cI .u8).all xs)[j]? = some u→w.cell? ((⟨g,0,none⟩:Addr).add j)=some u:=fun j u hu=>by
   have hadd:(⟨g,0,none⟩:Addr).add j=⟨g,0+j,none⟩:=by unfold Addr.add;split <;> simp_all
   rw [hadd,Nat.zero_add,cell_of_row w g j cur _ _ hg];rw [←htk,List.getElem?_take] at hu
   split at hu
   ·simpa using hu
   ·cases hu
  have hb1:inf.bytes=1:=hby;have hr:=run_append_grow (P:=P) w t o.type et inf (.int .u8 0) hsl vS hzz ⟨g,0,none⟩ xs.length c ((cI .u8).all xs) (by rw [hall,hsz];omega) holds ⟨bb,oo,none⟩ ys.length c' ((cI .u8).all ys) (by rw [hall,hsz];omega) hnews oQ oQ (growslice_fits oQ (by rw [hb1];omega));refine AW (aFx hr) ⟨some ⟨w.heap.size,0,none⟩,_,by rw [kG],?_⟩;have hge:=grownCap_ge w (xs.length+ys.length) c et;have hcm2:grownCap w (xs.length+ys.length) c et≤maxLen:=grownCap_le_maxLen w (xs.length+ys.length) c et (by simp only [maxLen];omega);refine (M.drew).turn i hi ((Below.refl _ _).alloc M.drew.sz _) ?_ (fun k hk _=>heap_alloc_old w.drew _ hk) (fun g' hg'=>.inr ?_)
  ·refine ⟨w.heap.size,_,_,rfl,heap_alloc_new w.drew _,.inl (pK _),by rw [hall,kG],by rw [kG];exact hge,hcm2,?_,?_⟩
   ·simp only [Array.size_append,List.size_toArray,hall,Builtin.zeroCells]
    simp [Value.cells]
    omega
   ·simp only [Array.toList_append,pL];rw [Ah.all_append,kG];have h2:(((cI .u8).all xs)++((cI .u8).all ys)).length=xs.length+ys.length:=by rw [kG,hall,hall]
    rw [←pL,←h2];exact List.take_left
  ·simp [mM.foot] at hg'
   subst hg';exact pK _
end
theorem z1:mR Tryz.prog 1=some [.nilFunc]:=aQ
theorem z2:mR Tryz.prog 2=some [.int .i64 0]:=aQ
theorem Hc:SC Tryz.prog 3=true:=aQ
theorem z3:mR Tryz.prog 3=some [.int .i64 0]:=aQ
theorem zi3:(Tryz.prog.info? 3).bind (·.zero)=some (.int .i64 0):=aQ
theorem ik3:Tryz.prog.underlying 3=some (.int .i64):=aQ
theorem Pr:(Tryz.prog.info? 3).map (·.size)=some 1:=aQ
theorem z4:mR Tryz.prog 4=some [.bool false]:=aQ
theorem sc5:SC Tryz.prog 5=true:=aQ
theorem z5:mR Tryz.prog 5=some [.int .u8 0]:=aQ
theorem SV:Tryz.prog.underlying 5=some (.int .u8):=aQ
theorem zu5:(Tryz.prog.info? 5).bind (·.zero)=some (.int .u8 0):=aQ
theorem sz5:(Tryz.prog.info? 5).map (·.size)=some 1:=aQ
theorem sc9:SC Tryz.prog 9=true:=aQ
theorem z9:mR Tryz.prog 9=some [.string (bs ([]:aR))]:=aQ
theorem Ok:Tryz.prog.underlying 9=some .string:=aQ
theorem sz9:(Tryz.prog.info? 9).map (·.size)=some 1:=aQ
theorem z20:mR Tryz.prog 20=some [.nilIface]:=aQ
theorem z21:mR Tryz.prog 21=some [.int .i32 0]:=aQ
theorem aNu:(Tryz.prog).eqGuardType (Tryz.prog).depth 23=false:=aQ
theorem aI9 (x0 y0 x1 y1 x2 y2 x3 y3:Int) (w:World):(Op.equalIn 10000 23 (.agg #[.int .i64 x0,.int .i64 x1,.int .i64 x2,.int .i64 x3]) (.agg #[.int .i64 y0,.int .i64 y1,.int .i64 y2,.int .i64 y3])).run Tryz.prog w = .ok (decide (x0=y0)&&decide (x1=y1)&&decide (x2=y2)&&decide (x3=y3)) w:=by
 have hp:Tryz.prog.stoodInHeld 23=false:=aQ
 have ht:Tryz.prog.underlying 23=some (.struct (Tryz.prog.fieldsOf 23)):=aQ
 rw [run_equalIn_agg (d:=9999) _ _ _ _ ht hp]
 by_cases h0:x0=y0 <;> by_cases h1:x1=y1 <;> by_cases h2:x2=y2 <;> by_cases h3:x3=y3 <;> simp [Program.fieldsOf,Tryz.underlying23,go_sem,Op.eqFields,h0,h1,h2,h3]
theorem Xt:SC Tryz.prog 26=true:=aQ
theorem pI:Ou Tryz.prog 31 3 1 8=true:=aQ
theorem RN:∃e,Tryz.prog.underlying 31=some (.slice e):=⟨_,(pA pI).1⟩
theorem PP:Ou Tryz.prog 32 9 1 16=true:=aQ
theorem aPD:∃e,Tryz.prog.underlying 32=some (.slice e):=⟨_,(pA PP).1⟩
theorem aNv:I0 Tryz.prog 33 4=true:=aQ
theorem aFy:Tryz.prog.underlying 33=some (.array 4 3):=aQ
theorem VR:SC Tryz.prog 34=true:=aQ
theorem Hv:Ou Tryz.prog 34 83 2 16=true:=aQ
theorem aLs:∃e,Tryz.prog.underlying 34=some (.slice e):=⟨_,(pA Hv).1⟩
theorem aNw:I0 Tryz.prog 35 3=true:=aQ
theorem ZS:Tryz.prog.underlying 35=some (.array 3 3):=aQ
theorem aFz:Tryz.prog.underlying 36=some (.array 9 3):=aQ
theorem Xu:SC Tryz.prog 37=true:=aQ
theorem z37:mR Tryz.prog 37=some [.slice none 0 0]:=aQ
theorem IE:Ou Tryz.prog 37 84 2 16=true:=aQ
theorem aLt:∃e,Tryz.prog.underlying 37=some (.slice e):=⟨_,(pA IE).1⟩
theorem aNx:I0 Tryz.prog 39 21=true:=aQ
theorem aBo:SD Tryz.prog 39 0=some 0:=aQ
theorem aBp:SD Tryz.prog 39 3=some 6:=aQ
theorem aBq:SD Tryz.prog 39 4=some 7:=aQ
theorem Xv:I0 Tryz.prog 41 28=true:=aQ
theorem aLu:I0 Tryz.prog 45 3=true:=aQ
theorem wU:Ou Tryz.prog 48 65 3 24=true:=aQ
theorem SX:∃e,Tryz.prog.underlying 48=some (.slice e):=⟨_,(pA wU).1⟩
theorem aFA:I0 Tryz.prog 50 3=true:=aQ
theorem z53:mR Tryz.prog 53=some [.nilFunc]:=aQ
theorem aNy:I0 Tryz.prog 65 3=true:=aQ
theorem z65:mR Tryz.prog 65=some [.int .i64 0,.int .i64 0,.int .i64 0]:=aQ
theorem aPE:(Tryz.prog).eqGuardType (Tryz.prog).depth 65=false:=aQ
theorem aNz (x0 y0 x1 y1 x2 y2:Int) (w:World):(Op.equalIn 10000 65 (.agg #[.int .i64 x0,.int .i64 x1,.int .i64 x2]) (.agg #[.int .i64 y0,.int .i64 y1,.int .i64 y2])).run Tryz.prog w = .ok (decide (x0=y0)&&decide (x1=y1)&&decide (x2=y2)) w:=by
 have hp:Tryz.prog.stoodInHeld 65=false:=aQ
 have ht:Tryz.prog.underlying 65=some (.struct (Tryz.prog.fieldsOf 65)):=aQ
 rw [run_equalIn_agg (d:=9999) _ _ _ _ ht hp]
 by_cases h0:x0=y0 <;> by_cases h1:x1=y1 <;> by_cases h2:x2=y2 <;> simp [Program.fieldsOf,Tryz.underlying65,go_sem,Op.eqFields,h0,h1,h2]
theorem ML:(Tryz.prog.info? 65).map (·.size)=some 3:=aQ
theorem z70:mR Tryz.prog 70=some [.nilFunc]:=aQ
theorem aLv:SC Tryz.prog 71=true:=aQ
theorem z72:mR Tryz.prog 72=some [.string (bs ([]:aR))]:=aQ
theorem z75:mR Tryz.prog 75=some [.nilFunc]:=aQ
theorem z76:mR Tryz.prog 76=some []:=aQ
theorem aNA:Tryz.prog.underlying 78=some (.array 5 3):=aQ
theorem z80:mR Tryz.prog 80=some [.nilFunc]:=aQ
theorem z83:mR Tryz.prog 83=some [.int .i64 0,.int .i64 0]:=aQ
theorem z84:mR Tryz.prog 84=some [.int .i64 0,.int .i64 0]:=aQ
theorem z85:mR Tryz.prog 85=some [.nilFunc]:=aQ
theorem aH6:Ou Tryz.prog 86 90 2 16=true:=aQ
theorem aPF:∃e,Tryz.prog.underlying 86=some (.slice e):=⟨_,(pA aH6).1⟩
theorem z90:mR Tryz.prog 90=some [.int .i64 0,.int .i64 0]:=aQ
theorem aNB:I0 Tryz.prog 96 3=true:=aQ
theorem aNC:Tryz.prog.underlying 97=some (.array 9 96):=aQ
theorem RO:SC Tryz.prog 103=true:=aQ
theorem nI:Ou Tryz.prog 103 5 1 1=true:=aQ
theorem aND:∃e,Tryz.prog.underlying 103=some (.slice e):=⟨_,(pA nI).1⟩
theorem z116:mR Tryz.prog 116=some [.nilFunc]:=aQ
theorem z119:mR Tryz.prog 119=some [.nilFunc]:=aQ
theorem z124:mR Tryz.prog 124=some [.nilFunc]:=aQ
theorem z127:mR Tryz.prog 127=some [.nilFunc]:=aQ
theorem aJa:Tryz.prog.underlying 130=some (.array 3 9):=aQ
theorem z138:mR Tryz.prog 138=some [.nilFunc]:=aQ
theorem z139:mR Tryz.prog 139=some [.nilFunc]:=aQ
theorem z143:mR Tryz.prog 143=some [.nilFunc]:=aQ
theorem z145:mR Tryz.prog 145=some [.nilFunc]:=aQ
theorem z146:mR Tryz.prog 146=some [.nilFunc]:=aQ
theorem z164:mR Tryz.prog 164=some [.pointer none]:=aQ
theorem z167:mR Tryz.prog 167=some [.nilFunc]:=aQ
theorem z168:mR Tryz.prog 168=some [.nilFunc]:=aQ
theorem z173:mR Tryz.prog 173=some [.nilFunc]:=aQ
theorem z175:mR Tryz.prog 175=some [.nilFunc]:=aQ
theorem L8:Ou Tryz.prog 197 199 1 16=true:=aQ
theorem aJb:∃e,Tryz.prog.underlying 197=some (.slice e):=⟨_,(pA L8).1⟩
theorem aNE:mR Tryz.prog 199=some [.nilIface]:=aQ
theorem z210:mR Tryz.prog 210=some [.nilFunc]:=aQ
theorem z213:mR Tryz.prog 213=some [.nilFunc]:=aQ
theorem aJc:Tryz.prog.underlying 221=some (.array 8 3):=aQ
theorem z232:mR Tryz.prog 232=some [.int .i64 0]:=aQ
theorem aBr:Tryz.prog.underlying 241=some (.map 9 3):=aQ
theorem aJd:Ej Tryz.prog 97=true:=aQ
theorem aNF:∀v w,(method (Tryz.prog.types.size+Made.depth) 190 v "darkslide/line.work").run Tryz.prog w = .ok (247,v) w:=by
 intro v w
 kernel_rfl
theorem aNG:∀v w,(method (Tryz.prog.types.size+Made.depth) 191 v "darkslide/line.work").run Tryz.prog w = .ok (250,v) w:=by
 intro v w
 kernel_rfl
theorem aNH:∀v w,(method (Tryz.prog.types.size+Made.depth) 192 v "darkslide/line.work").run Tryz.prog w = .ok (251,v) w:=by
 intro v w
 kernel_rfl
theorem aNI:∀v w,(method (Tryz.prog.types.size+Made.depth) 193 v "darkslide/line.work").run Tryz.prog w = .ok (254,v) w:=by
 intro v w
 kernel_rfl
theorem aNJ:∀v w,(method (Tryz.prog.types.size+Made.depth) 194 v "darkslide/line.work").run Tryz.prog w = .ok (259,v) w:=by
 intro v w
 kernel_rfl
theorem aNK:∀v w,(method (Tryz.prog.types.size+Made.depth) 195 v "darkslide/line.work").run Tryz.prog w = .ok (265,v) w:=by
 intro v w
 kernel_rfl
theorem aNL:∀v w,(method (Tryz.prog.types.size+Made.depth) 196 v "darkslide/line.work").run Tryz.prog w = .ok (268,v) w:=by
 intro v w
 kernel_rfl
abbrev wnQ:=@wpList_nil
theorem bfQ (b:Bool):b=true∨b=false:=Bool.eq_false_or_eq_true b
theorem acQ {P:Program} {D:List Deferred} {a:Act} {w:World} {N:Nat} {l:List (Nat×Value)} {o:Oper} {x:Operand} {post:Value→World→Prop} {f:FuncId} {vs:List Value} {args:Array Operand} {ts:Array TypeId} (hf:Ej P f=true) (K:Kd D a N l) (h:Calls P f vs.toArray w fun e w'=>∃v,e = .returned v∧post v w') (ho:o.op = .call { callee:=.value x,args:=args,argTypes:=ts }:=by exact rfl) (hx:jH l x=some (.func (.func f) #[] #[]):=by exact rfl) (hargs:args.toList.map (jH l)=vs.map some:=by exact rfl):Ac P o a w post:=oI (cap:=[]) ho hf K hx hargs (by rw [v4];exact h)
theorem boQ {P:Program} {D:List Deferred} {a:Act} {w:World} {N:Nat} {l:List (Nat×Value)} {o:Oper} {x:Operand} {Pn:List PanicEntry→World→Prop} {f:FuncId} {vs:List Value} {args:Array Operand} {ts:Array TypeId} (hf:Ej P f=true) (K:Kd D a N l) (h:Calls P f vs.toArray w fun e w'=>∃ch,e = .panicked ch∧Pn ch w') (ho:o.op = .call { callee:=.value x,args:=args,argTypes:=ts }:=by exact rfl) (hx:jH l x=some (.func (.func f) #[] #[]):=by exact rfl) (hargs:args.toList.map (jH l)=vs.map some:=by exact rfl):Bo P o a w Pn:=aH3 (cap:=[]) ho hf K hx hargs (by rw [v4];exact h)

structure Ct (n:Nat) (p:Prop):Prop where
 out:p
structure Hq (p:Prop):Prop where
 out:p
inductive KS (l:List (Nat×Value)):List (Nat×Value)→Prop where
 | nil:KS l []
 | cons {s:Nat} {v:Value} {t:List (Nat×Value)} (h:CU l s=some v) (k:KS l t):KS l ((s,v)::t)
inductive Seg:List Value→Nat→Nat→List Value→Prop where
 | nil {l:List Value}:Seg l 0 0 []
 | cons {v:Value} {l r:List Value} {n:Nat} (h:Seg l 0 n r):Seg (v::l) 0 (n+1) (v::r)
 | skip {v:Value} {l r:List Value} {o n:Nat} (h:Seg l o n r):Seg (v::l) (o+1) n r
theorem Seg.eq:∀{l:List Value} {o n:Nat} {r:List Value},Seg l o n r→(l.drop o).take n=r∧r.length=n
 | _,_,_,_,.nil=>⟨rfl,rfl⟩
 | _,_,_,_,.cons h=>by have:=h.eq;simp at this;simp [this]
 | _,_,_,_,.skip h=>by have:=h.eq;simpa using this
inductive KP (l:List (Nat×Value)):List Nat→List (Nat×Value)→Prop where
 | nil:KP l [] []
 | cons {s:Nat} {v:Value} {ss:List Nat} {r:List (Nat×Value)} (h:CU l s=some v) (k:KP l ss r):KP l (s::ss) ((s,v)::r)
inductive EP (l:List mM):List Nat→List mM→Prop where
 | nil:EP l [] []
 | cons {i:Nat} {e:mM} {is:List Nat} {r:List mM} (h:l[i]? = some e) (k:EP l is r):EP l (i::is) (e::r)
inductive VN:List Value→List Value→Prop where
 | nil:VN [] []
 | cons {v:Value} {l r:List Value} (h:VN l r):VN (v::l) (v::r)
theorem VN.eq:∀{l r:List Value},VN l r→l=r
 | _,_,.nil=>rfl
 | _,_,.cons h=>by rw [h.eq]
inductive NP:List mM→List mM→Prop where
 | nil:NP [] []
 | blk {g t:Nat} {cs ds:List Value} {l r:List mM} (h:VN cs ds) (k:NP l r):NP (.blk g t cs::l) (.blk g t ds::r)
 | UH {e:mM} {l r:List mM} (k:NP l r):NP (e::l) (e::r)
theorem NP.eq:∀{l r:List mM},NP l r→l=r
 | _,_,.nil=>rfl
 | _,_,.blk h k=>by rw [h.eq,k.eq]
 | _,_,.UH k=>by rw [k.eq]
theorem Mem.NA {base:Nat} {W w:World} {L L':List mM} (M:Mem base W w L) (h:NP L L':=by repeat (first|exact NP.nil|apply NP.blk|apply NP.UH|exact VN.nil|apply VN.cons)):Mem base W w L':=h.eq▸M
theorem EP.eq {l:List mM}:∀{is:List Nat} {r:List mM},EP l is r→M7 l is=r
 | _,_,.nil=>rfl
 | _,_,.cons h k=>by
  have q:=k.eq
  simp only [M7,List.map_cons,qG,h,Option.getD_some] at q ⊢
  rw [q]
theorem Mem.toS {base:Nat} {W w:World} {L L':List mM} {is:List Nat} (M:Mem base W w L) (h:EP L is L':=by repeat (first|exact EP.nil|apply EP.cons (i:=0) rfl|apply EP.cons (i:=1) rfl|apply EP.cons (i:=2) rfl|apply EP.cons (i:=3) rfl|apply EP.cons (i:=4) rfl|apply EP.cons (i:=5) rfl|apply EP.cons (i:=6) rfl|apply EP.cons (i:=7) rfl|apply EP.cons (i:=8) rfl|apply EP.cons (i:=9) rfl|apply EP.cons (i:=10) rfl|apply EP.cons (i:=11) rfl|apply EP.cons (i:=12) rfl|apply EP.cons (i:=13) rfl)) (hn:is.Nodup:=by decide):Mem base W w L':=h.eq▸M.pick is hn
theorem KS.get {l:List (Nat×Value)}:∀{t:List (Nat×Value)},KS l t→∀s v,CU t s=some v→CU l s=some v
 | _,.nil,s,v,h=>by cases h
 | (s0,v0)::t,.cons h0 k,s,v,h=>by
  simp only [CU] at h
  by_cases e:s0=s
  · subst e;simp at h;rw [h0,h]
  · rw [aDm e] at h;exact k.get s v h
theorem Kd.to {D:List Deferred} {a:Act} {N:Nat} {l l':List (Nat×Value)} (K:Kd D a N l) (h:KS l l':=by repeat (first|exact KS.nil|refine KS.cons rfl ?_)):Kd D a N l':=K.sub h.get

class Fr (t f:Nat) (off:outParam Nat):Prop where
 out:SD Tryz.prog t f=some off
class L9 (t:Nat):Prop where
 out:SC Tryz.prog t=true
class MW (t:Nat) (n:outParam Nat):Prop where
 out:I0 Tryz.prog t n=true
class UnI (t:Nat):Prop where
 out:∃e,Tryz.prog.underlying t=some (.slice e)
class Fk (t:Nat) (cs:outParam (List Value)):Prop where
 out:mR Tryz.prog t=some cs
abbrev fkL:List Nat:=[2,3,4,5,6,7,8,9,10,11,12,13,14,15,16,17,18,19,20,21,22,23,24,25,26,27,28,29,30,31,32,33,34,35,36,37,38,39,40,41,42,43,44,45,46,47,48,49,50,51,52,53,54,55,56,57,58,59,60,61,62,63,64,65,66,67,68,69,70,71,72,73,74,75,76,77,78,79,80,81,82,83,84,85,86,87,88,89,90,91,92,93,94,95,96,97,98,99,100,101,102,103,104,105,106,107,108,109,110,111,112,113,114,115,116,117,118,119,120,121,122,123,124,125,126,127,128,129,130,131,132,133,134,135,136,138,139,140,141,142,143,144,145,146,147,148,149,150,151,152,153,154,155,156,157,158,159,160,161,162,163,164,165,166,167,168,169,170,171,172,173,174,175,176,177,178,179,180,181,182,183,184,185,186,187,188,189,190,191,192,193,194,196,197,198,199,200,201,202,203,204,205,206,207,208,209,210,212,213,215,216,217,218,219,220,221,222,223,224,225,226,227,228,229,230,247,248,249,250,251,252,253,254,255,256,257,258,259,260,261,262,263,264,265,266,267,268,269,270,271,285]
theorem fkA:(fkL.all fun f=>Ej Tryz.prog f)=true:=aQ
theorem B8 (f:Nat) (h:fkL.elem f=true):Ej Tryz.prog f=true:=List.all_eq_true.1 fkA f (List.elem_iff.1 h)
class SlI (t:Nat) (e s b:outParam Nat):Prop where
 out:Ou Tryz.prog t e s b=true
class IkI (t:Nat) (k:outParam IntKind):Prop where
 out:Tryz.prog.underlying t=some (.int k)
class StI (t:Nat):Prop where
 out:Tryz.prog.underlying t=some .string
class ArI (t:Nat) (n e:outParam Nat):Prop where
 out:Tryz.prog.underlying t=some (.array n e)
class SzI (t:Nat) (n:outParam Nat):Prop where
 out:(Tryz.prog.info? t).map (·.size)=some n
class CcI (t:Nat):Prop where
 out:Tryz.prog.concrete t=true
class BoI (t:Nat):Prop where
 out:Tryz.prog.underlying t=some .bool
theorem slQ {p:Prop} (h:p:=by first|exact Cc (by assumption)|exact p9 0 rfl rfl|exact p9 1 rfl rfl|exact p9 2 rfl rfl|exact p9 3 rfl rfl|exact p9 4 rfl rfl|exact p9 5 rfl rfl|exact p9 6 rfl rfl|exact p9 7 rfl rfl|exact p9 8 rfl rfl|exact p9 9 rfl rfl|exact p9 10 rfl rfl|exact p9 11 rfl rfl):p:=h
theorem spQ {base:Nat} {W w:World} {L:List mM} {α:Type} {C:Ah α} {A:Option Addr} {xs:List α} (M:Mem base W w L) (h:∀w,Mem base W w L→SL w C A xs:=by first|exact Cc (by assumption)|exact p9 0 rfl rfl|exact p9 1 rfl rfl|exact p9 2 rfl rfl|exact p9 3 rfl rfl|exact p9 4 rfl rfl|exact p9 5 rfl rfl|exact p9 6 rfl rfl|exact p9 7 rfl rfl|exact p9 8 rfl rfl|exact p9 9 rfl rfl|exact p9 10 rfl rfl|exact p9 11 rfl rfl):SL w C A xs:=h w M
theorem asQ {p:Prop} (h:p:=by first|assumption|decide):p:=h
section
variable {base:Nat} {W w:World} {L:List mM} {D:List Deferred} {a:Act} {N:Nat} {l:List (Nat×Value)} {ops:Array Oper} {Q:Exit→Act→World→Prop} {rest:List Oper} {o:Oper} {x y ix:Operand} {t t' e:TypeId} {g off n:Nat} {cs ds:List Value} {v:Value} {α:Type} {C:Ah α} {A:Option Addr} {c:Nat} {xs:List α} {el:α} {q:Nat}
theorem lcQ (ho:o.op = .load t x:=by exact rfl) (ht:SC Tryz.prog t=true:=by exact L9.out) (hx:jH l x=some (.pointer (some ⟨g,off,none⟩)):=by exact rfl) (hb:∀w,Mem base W w L→kX w g t' cs.toArray:=by first|exact Aw 0 rfl|exact Aw 1 rfl|exact Aw 2 rfl|exact Aw 3 rfl|exact Aw 4 rfl|exact Aw 5 rfl|exact Aw 6 rfl|exact Aw 7 rfl|exact Aw 8 rfl|exact Aw 9 rfl|exact Aw 10 rfl|exact Aw 11 rfl|exact inO (by assumption)) (hv:cs[off]? = some v:=by exact rfl):∀a,Kd D a N l→Rd Tryz.prog (fun w=>Mem base W w L) a o v:=fun a K=>vI ho ht K hx hb hv
theorem laQ (ho:o.op = .load t x:=by exact rfl) (ht:I0 Tryz.prog t n=true:=by exact MW.out) (hx:jH l x=some (.pointer (some ⟨g,off,none⟩)):=by exact rfl) (hb:∀w,Mem base W w L→kX w g t' cs.toArray:=by first|exact Aw 0 rfl|exact Aw 1 rfl|exact Aw 2 rfl|exact Aw 3 rfl|exact Aw 4 rfl|exact Aw 5 rfl|exact Aw 6 rfl|exact Aw 7 rfl|exact Aw 8 rfl|exact Aw 9 rfl|exact Aw 10 rfl|exact Aw 11 rfl|exact inO (by assumption)) (hs:Seg cs off n ds:=by repeat (first|exact Seg.nil|apply Seg.cons|apply Seg.skip)):∀a,Kd D a N l→Rd Tryz.prog (fun w=>Mem base W w L) a o (.agg ds.toArray):=fun a K=>YD ho ht K hx hb hs.eq.1 hs.eq.2
class SY (t:Nat) (cs:outParam (List Value)):Prop where
 out:Tryz.prog.built t []=some cs.toArray
inductive Xw (l:List (Nat×Value)):List Operand→List Value→Prop where
 | nil:Xw l [] []
 | cons {x:Operand} {v:Value} {xs:List Operand} {vs:List Value} (h:jH l x=some v) (k:Xw l xs vs):Xw l (x::xs) (v::vs)
theorem Xw.eq {l:List (Nat×Value)}:∀{xs:List Operand} {vs:List Value},Xw l xs vs→xs.map (jH l)=vs.map some
 | _,_,.nil=>rfl
 | _,_,.cons h k=>by simp [h,k.eq]
theorem rfQ {fn:Fn} {cap:Array Operand} {vs:List Value} (ho:o.op = .makeFunc fn #[] cap:=by exact rfl) (h:Xw l cap.toList vs:=by repeat (first|exact Xw.nil|apply Xw.cons|exact rfl)):∀a,Kd D a N l→Rd Tryz.prog (fun w=>Mem base W w L) a o (.func fn #[] vs.toArray):=fun a K=>aGc ho K h.eq
theorem rxQ {i:Nat} {vs:List Value} (K:Kd D a N l) (ho:o.op = .extract x i:=by exact rfl) (hx:jH l x=some (.tuple vs.toArray):=by exact rfl) (hi:vs[i]? = some v:=by exact rfl):Rd Tryz.prog (fun w=>Mem base W w L) a o v:=Gh ho K hx (by simpa using hi)
theorem aQr {k:IntKind} {m n:Int} (h:∀a,Kd D a N l→Rd Tryz.prog (fun w=>Mem base W w L) a o (.int k m)) (he:m=n:=by assumption):∀a,Kd D a N l→Rd Tryz.prog (fun w=>Mem base W w L) a o (.int k n):=fun a K=>V4 he (h a K)
def SxQ (base:Nat) (W:World) (L:List mM) (D:List Deferred) (N:Nat) (ops:Array Oper) (l:List (Nat×Value)) (o:Oper) (d:Nat) (v:Value):Prop:=o.dst=some d∧Nat.blt d N=true∧Stp Tryz.prog ops (fun w=>Mem base W w L) D N l o v
theorem rdQ (h:∀a,Kd D a N l→Rd Tryz.prog (fun w=>Mem base W w L) a o v:=by
   first
   | exact fun a K=>tO rfl K rfl
   | exact fun a K=>E9 rfl Fr.out K rfl
   | exact lcQ
   | exact fun a K=>yP rfl K rfl
   | exact fun a K=>QI rfl K rfl
   | exact fun a K=>AV rfl UnI.out K rfl
   | exact fun a K=>rxQ K
   | exact fun a K=>nM rfl K rfl rfl
   | exact fun a K=>I1 rfl K rfl rfl
   | exact fun a K=>I2 rfl K rfl rfl
   | exact fun a K=>nA rfl K rfl rfl
   | exact fun a K=>QG rfl K rfl rfl
   | exact fun a K=>QH rfl K rfl rfl
   | exact fun a K=>QE rfl K rfl rfl
   | exact fun a K=>QD rfl K rfl rfl
   | exact fun a K=>QF rfl K rfl rfl
   | exact fun a K=>rd_not rfl K rfl
   | exact fun a K=>Ko rfl K rfl rfl
   | exact fun a K=>Kp rfl K rfl rfl
   | exact fun a K=>Ks rfl K rfl rfl
   | exact fun a K=>Kr rfl K rfl rfl
   | exact fun a K=>Kq rfl K rfl rfl
   | exact laQ
   | exact fun a K=>bQ rfl K (vs:=[]) rfl SY.out
   | exact rfQ
   | exact fun a K=>aAm rfl SlI.out K rfl rfl slQ (by assumption)
   | exact fun a K=>KW rfl SlI.out K rfl rfl (spQ M) (by assumption)
   | exact fun a K=>DA rfl L9.out K rfl rfl slQ (by assumption) rfl
   | exact fun a K=>aKb rfl L9.out K rfl rfl slQ (by assumption) rfl
   | exact fun a K=>aKa rfl MW.out K rfl rfl rfl slQ (by assumption)
   | exact fun a K=>aBk rfl StI.out K rfl
   | exact fun a K=>aLp rfl StI.out K rfl rfl (by assumption)
   | exact fun a K=>QC rfl K rfl rfl asQ
   | exact fun a K=>YC rfl K rfl rfl asQ
   | exact fun a K=>aDo rfl K rfl rfl asQ
   | exact fun a K=>aJ7 rfl K rfl rfl asQ
   | exact fun a K=>aCF (k:=.i64) (k':=.i64) rfl StI.out K rfl rfl rfl (by assumption)
   | exact fun a K=>aFs rfl CcI.out K rfl
   | exact fun a K=>aH4 rfl K rfl rfl
   | exact fun a K=>aH5 rfl K rfl rfl
   | exact fun a K=>Ny rfl K rfl rfl (by assumption)
   | exact fun a K=>aLr rfl SlI.out K rfl rfl rfl
   | exact fun a K=>aIM rfl K rfl rfl
   | exact fun a K=>aJ8 rfl K rfl
   | exact fun a K=>aGl BoI.out rfl K rfl rfl
   | exact fun a K=>YE rfl ArI.out SzI.out K rfl rfl (And.left asQ) (And.right asQ)
   | exact fun a K=>YE rfl ArI.out SzI.out K rfl rfl aL aL
   | exact fun a K=>I3 rfl rfl IkI.out K rfl):∀a,Kd D a N l→Rd Tryz.prog (fun w=>Mem base W w L) a o v:=h
theorem stQ {d:Nat} (hd:o.dst=some d:=by exact rfl) (hN:Nat.blt d N=true:=by exact rfl) (h:Stp Tryz.prog ops (fun w=>Mem base W w L) D N l o v:=by
 first
 | exact .yes (fun a K=>cA rfl) rdQ
 | exact .no (fun a K=>K.no rfl rfl rfl rfl) rfl
 | exact .yes (fun a K=>K.yes rfl rfl rfl) rdQ
 | exact .no (fun a K=>K.nou rfl rfl rfl) rfl):SxQ base W L D N ops l o d v:=⟨hd,hN,h⟩
variable {d:Nat} {p p':Code} {id id':Nat} {K':Act→World→Prop} {f:List Nat} {R:Act→World→Prop} {b:Bool}
theorem aNM (M:Mem base W w L) (k:Ct n (∀a,Kd D a N ((d,v)::l)→wpList Tryz.prog ops Q rest a w)) (h:SxQ base W L D N ops l o d v:=by exact stQ):Ct (n+1) (∀a,Kd D a N l→wpList Tryz.prog ops Q (o::rest) a w):=⟨ZP M k.out h.1 h.2.1 h.2.2⟩
theorem aNN (k:Ct n (∀a,Kd D a N ((d,v)::l)→pV Tryz.prog ops (fun w=>Mem base W w L) R (marked f rest) a w)) (h:SxQ base W L D N ops l o d v:=by exact stQ):Ct (n+1) (∀a,Kd D a N l→pV Tryz.prog ops (fun w=>Mem base W w L) R (marked (0::f) (o::rest)) a w):=⟨U_o k.out h.1 h.2.1 h.2.2⟩
theorem aNO (k:Ct n (∀a,Kd D a N ((d,v)::l)→pV Tryz.prog ops (fun w=>Mem base W w L) R (marked [] rest) a w)) (h:SxQ base W L D N ops l o d v:=by exact stQ):Ct (n+1) (∀a,Kd D a N l→pV Tryz.prog ops (fun w=>Mem base W w L) R (marked [] (o::rest)) a w):=⟨U_o (f:=[]) k.out h.1 h.2.1 h.2.2⟩
theorem aNP {S:World→Prop} (M:Mem base W w L) (k:Ct n (∀a,Kd D a N ((d,v)::l)→pV Tryz.prog ops S R (marked f rest) a w)) (h:SxQ base W L D N ops l o d v:=by exact stQ) (hS:S w:=by exact M.toS):Ct (n+1) (∀a,Kd D a N l→pV Tryz.prog ops S R (marked (1::f) (o::rest)) a w):=⟨fun a K=>by
 cases h.2.2 with
 | yes hw hr=>exact Wm K (hw a K) h.1 h.2.1 (hr a K) M hS k.1
 | no hw hv=>subst hv;exact tL K (hw a K) h.1 h.2.1 hS k.1⟩
theorem aNQ (k:Ct n (∀a,Kd D a N l→R a w)) {S:World→Prop}:Ct (n+1) (∀a,Kd D a N l→pV Tryz.prog ops S R (marked f []) a w):=⟨k.1⟩
theorem aLw (k:Ct n (∀a,Kd D a N l→Q .normal a w)):Ct (n+1) (∀a,Kd D a N l→wpList Tryz.prog ops Q [] a w):=⟨k.1⟩
theorem aNR (k:Ct n (∀a,Kd D a N l→K' a w)):Ct (n+1) (∀a,Kd D a N l→Exit.then K' Q .normal a w):=⟨k.1⟩
theorem aNS (k:Ct n (∀a,Kd D a N l→Q .ret a w)):Ct (n+1) (∀a,Kd D a N l→Exit.then K' Q .ret a w):=⟨k.1⟩
theorem aNT (k:Ct n (∀a,Kd D a N l→Q (.exit id) a w)):Ct (n+1) (∀a,Kd D a N l→Exit.then K' Q (.exit id) a w):=⟨k.1⟩
theorem aNU (k:Ct n (∀a,Kd D a N l→Q .normal a w)):Ct (n+1) (∀a,Kd D a N l→Exit.inBlock id Q .normal a w):=⟨k.1⟩
theorem aNV (k:Ct n (∀a,Kd D a N l→Q .ret a w)):Ct (n+1) (∀a,Kd D a N l→Exit.inBlock id Q .ret a w):=⟨k.1⟩
theorem aNW (k:Ct n (∀a,Kd D a N l→Q .normal a w)):Ct (n+1) (∀a,Kd D a N l→Exit.inBlock id Q (.exit id) a w):=⟨fun a K=>aL9 (k.1 a K)⟩
theorem aNX (hne:id'≠id) (k:Ct n (∀a,Kd D a N l→Q (.exit id') a w)):Ct (n+1) (∀a,Kd D a N l→Exit.inBlock id Q (.exit id') a w):=⟨fun a K=>aMa hne (k.1 a K)⟩
theorem aLx (k:Ct n (∀a,Kd D a N l→p.wp Tryz.prog (Exit.then (p'.wp Tryz.prog Q) Q) a w)):Ct (n+1) (∀a,Kd D a N l→(Code.seq p p').wp Tryz.prog Q a w):=⟨fun a K=>wp_seq (k.1 a K)⟩
theorem aLy {ol:List Oper} (k:Ct n (∀a,Kd D a N l→wpList Tryz.prog ol.toArray Q ol a w)):Ct (n+1) (∀a,Kd D a N l→(Code.region id ol.toArray false).wp Tryz.prog Q a w):=⟨fun a K=>Ea (k.1 a K)⟩
theorem aH7 (k:Ct n (∀a,Kd D a N l→Q .normal a w)):Ct (n+1) (∀a,Kd D a N l→Code.skip.wp Tryz.prog Q a w):=⟨fun a K=>wp_skip (k.1 a K)⟩
theorem aLz (k:Ct n (∀a,Kd D a N l→Q .normal a w)):Ct (n+1) (∀a,Kd D a N l→(Code.label id).wp Tryz.prog Q a w):=⟨fun a K=>wp_label (k.1 a K)⟩
theorem aLA (k:Ct n (∀a,Kd D a N l→Q .ret a w)):Ct (n+1) (∀a,Kd D a N l→Code.ret.wp Tryz.prog Q a w):=⟨fun a K=>wp_ret (k.1 a K)⟩
theorem aH8 (k:Ct n (∀a,Kd D a N l→Q (.exit id) a w)):Ct (n+1) (∀a,Kd D a N l→(Code.exit id).wp Tryz.prog Q a w):=⟨fun a K=>wp_exit (k.1 a K)⟩
theorem aLB (k:Ct n (∀a,Kd D a N l→p.wp Tryz.prog (Exit.inBlock id Q) a w)):Ct (n+1) (∀a,Kd D a N l→(Code.block id p).wp Tryz.prog Q a w):=⟨fun a K=>wp_block (k.1 a K)⟩
theorem aNY (hc:jH l x=some (.bool true)) (k:Ct n (∀a,Kd D a N l→p.wp Tryz.prog Q a w)):Ct (n+1) (∀a,Kd D a N l→(Code.cond x p p').wp Tryz.prog Q a w):=⟨fun a K=>aGj K hc (k.1 a K)⟩
theorem aNZ (hc:jH l x=some (.bool false)) (k:Ct n (∀a,Kd D a N l→p'.wp Tryz.prog Q a w)):Ct (n+1) (∀a,Kd D a N l→(Code.cond x p p').wp Tryz.prog Q a w):=⟨fun a K=>aGk K hc (k.1 a K)⟩
theorem aN0 {O:Exit→Act→World→Prop} {i:Nat} {rem:List Nat} {m:Nat} (k:Ct n (∀a,Kd D a N ((d,v)::l)→vE Tryz.prog O ops (fun w=>Mem base W w L) (jZ f) (dM f) R m rem a w)) (ho:ops[i]? = some o:=by exact rfl) (h:SxQ base W L D N ops l o d v:=by exact stQ) (hc:((i::rem).elem i&&jZ f i&&O4 ops (i::rem) i&&(i::rem).erase i==rem)=true:=by kernel_rfl):Ct (n+1) (∀a,Kd D a N l→vE Tryz.prog O ops (fun w=>Mem base W w L) (jZ f) (dM f) R (m+1) (i::rem) a w):=⟨fun a K=>by
 cases h.2.2 with
 | yes hw hr=>exact LU i rem hc ho K (hw a K) h.1 h.2.1 (hr a K) k.1
 | no hw hv=>subst hv;exact aPz i rem hc ho K (hw a K) h.1 h.2.1 k.1⟩
theorem aN1 {O:Exit→Act→World→Prop} {S:World→Prop} (k:Ct n (∀a,Kd D a N l→R a w)):Ct (n+1) (∀a,Kd D a N l→vE Tryz.prog O ops S (jZ f) (dM f) R 0 [] a w):=⟨fun a K=>aBj (k.1 a K)⟩
theorem gcE (hc:jH l x=some (.bool b)) (k1:b=true→∀a,Kd D a N l→p.wp Tryz.prog Q a w) (k2:b=false→∀a,Kd D a N l→p'.wp Tryz.prog Q a w):Ct 0 (∀a,Kd D a N l→(Code.cond x p p').wp Tryz.prog Q a w):=⟨fun a K=>YF K hc (fun hb=>k1 hb a K) (fun hb=>k2 hb a K)⟩
theorem gkE {G:Act→Prop} (s:Nat) (hs:CU l s=some (.bool b)) (k1:b=true→∀a,Kd D a N ((s,.bool true)::l)→G a) (k2:b=false→∀a,Kd D a N ((s,.bool false)::l)→G a):Ct 0 (∀a,Kd D a N l→G a):=⟨fun a K=>by
 rcases Bool.eq_false_or_eq_true b with hb|hb
 · exact k1 hb a (K.reb hs hb)
 · exact k2 hb a (K.reb hs hb)⟩
theorem gE {fn:Func} {code:Code} {fid:FuncId} {args:Array Value} {Rp:Ending→World→Prop} (hf:Tryz.prog.funcs[fid]? = some fn) (hN:fn.ntmps=N) (k:Mem w.heap.size w w []→∀a,Kn a N (L3 0 args.toList)→code.wp Tryz.prog (bodyPost Tryz.prog fn Rp) a w) (hb:fn.body=some code:=by exact rfl) (hs:Nat.ble args.size N=true:=by exact rfl):Calls Tryz.prog fid args w Rp:=qC hf hb hN hs (k (Mem.start w))
theorem oO (M:Mem base W w L) (K:Kd D a N l) (i:Nat) (ho:o.op = .store t x y:=by exact rfl) (ht:I0 Tryz.prog t n=true:=by exact MW.out) (hx:jH l x=some (.pointer (some ⟨g,0,none⟩)):=by exact rfl) (hi:L[i]? = some (.blk g t' cs):=by exact rfl) (hy:jH l y=some (.agg ds.toArray):=by exact rfl) (h1:ds.all (·.oneCell')=true:=by exact rfl) (hn:ds.length=n:=by exact rfl) (hl:cs.length=n:=by exact rfl):Ac Tryz.prog o a w fun _ w'=>Mem base W w' (L.set i (.blk g t' ds)):=Tw ho ht K hx hy h1 i M hi hn hl
theorem jX (M:Mem base W w L) (K:Kd D a N l) (i:Nat) (ho:o.op = .store t x y:=by exact rfl) (ht:SC Tryz.prog t=true:=by exact L9.out) (hx:jH l x=some (.pointer (some ⟨g,off,none⟩)):=by exact rfl) (hi:L[i]? = some (.blk g t' cs):=by exact rfl) (hy:jH l y=some v:=by exact rfl) (h1:v.oneCell'=true:=by exact rfl) (hl:Nat.blt off cs.length=true:=by exact rfl):Ac Tryz.prog o a w fun _ w'=>Mem base W w' (L.set i (.blk g t' (cs.set off v))):=Lv ho ht K hx hy h1 i M hi hl
theorem Mem.nQ (M:Mem base W w L):Mem base W w []:=M.pick [] aL
theorem Mem.oQ {e:mM} (M:Mem base W w (e::L)):Mem base W w [e]:=M.pick [0] aL
theorem gtE {S:World→Prop} {post:Value→World→Prop} {fi:FuncId} {vs:List Value} {args:Array Operand} {ts:Array TypeId} (X:Calls Tryz.prog fi vs.toArray w fun e w'=>∃v,e = .returned v∧post v w') (k:∀v w',post v w'→S w'∧∀a,Kd D a N ((d,v)::l)→pV Tryz.prog ops S R (marked f rest) a w') (hf:Ej Tryz.prog fi=true:=by exact B8 _ aQ) (hd:o.dst=some d:=by exact rfl) (hN:Nat.blt d N=true:=by exact rfl) (ho:o.op = .call { callee:=.value x,args:=args,argTypes:=ts }:=by exact rfl) (hx:jH l x=some (.func (.func fi) #[] #[]):=by exact rfl) (hargs:args.toList.map (jH l)=vs.map some:=by exact rfl) (hw:∀a,Kd D a N l→Region.wanted o (yielded ops a.tmps)=true:=by first|exact fun a K=>cA rfl|exact fun a K=>K.yes rfl rfl rfl):∀a,Kd D a N l→pV Tryz.prog ops S R (marked (1::f) (o::rest)) a w:=fun a K=>aBB K (hw a K) hd hN (acQ hf K X ho hx hargs) fun v a w' hp K=>⟨(k v w' hp).1,(k v w' hp).2 a K⟩
theorem gtC {S:World→Prop} {post:Value→World→Prop} {fi:FuncId} {vs cap:List Value} {av:Array Value} {args:Array Operand} {ts:Array TypeId} (X:Calls Tryz.prog fi av w fun e w'=>∃v,e = .returned v∧post v w') (k:∀v w',post v w'→S w'∧∀a,Kd D a N ((d,v)::l)→pV Tryz.prog ops S R (marked f rest) a w') (hf:Ej Tryz.prog fi=true:=by exact B8 _ aQ) (hd:o.dst=some d:=by exact rfl) (hN:Nat.blt d N=true:=by exact rfl) (ho:o.op = .call { callee:=.value x,args:=args,argTypes:=ts }:=by exact rfl) (hx:jH l x=some (.func (.func fi) #[] cap.toArray):=by exact rfl) (hargs:Xw l args.toList vs:=by repeat (first|exact Xw.nil|apply Xw.cons|exact rfl)) (he:av=(vs++cap).toArray:=by exact rfl) (hw:∀a,Kd D a N l→Region.wanted o (yielded ops a.tmps)=true:=by first|exact fun a K=>cA rfl|exact fun a K=>K.yes rfl rfl rfl):∀a,Kd D a N l→pV Tryz.prog ops S R (marked (1::f) (o::rest)) a w:=fun a K=>aBB K (hw a K) hd hN (oI (cap:=cap) ho hf K hx hargs.eq (he▸X)) fun v a w' hp K=>⟨(k v w' hp).1,(k v w' hp).2 a K⟩
theorem aPG (M:Mem base W w L) (K:Kd D a N l) (ho:o.op = .box t x:=by exact rfl) (hx:jH l x=some (.agg ds.toArray):=by exact rfl) (hc:(Value.agg ds.toArray).cells=ds.toArray:=by exact rfl):Ac Tryz.prog o a w fun v w'=>∃g,v = .pointer (some ⟨g,0,none⟩)∧Mem base W w' (.blk g t ds::L):=aDq ho K hx hc M
theorem aPH (M:Mem base W w L) (K:Kd D a N l) (ho:o.op = .box t x:=by exact rfl) (hx:jH l x=some v:=by exact rfl) (hc:v.cells=[v].toArray:=by exact rfl):Ac Tryz.prog o a w fun v' w'=>∃g,v' = .pointer (some ⟨g,0,none⟩)∧Mem base W w' (.blk g t [v]::L):=aDq ho K hx hc M
theorem gfE {post:Value→World→Prop} {fi:FuncId} {vs:List Value} {args:Array Operand} {ts:Array TypeId} (X:Calls Tryz.prog fi vs.toArray w fun e w'=>∃v,e = .returned v∧post v w') (k:∀v w',post v w'→∀a,Kd D a N ((d,v)::l)→wpList Tryz.prog ops Q rest a w') (hf:Ej Tryz.prog fi=true:=by exact B8 _ aQ) (hd:o.dst=some d:=by exact rfl) (hN:Nat.blt d N=true:=by exact rfl) (ho:o.op = .call { callee:=.value x,args:=args,argTypes:=ts }:=by exact rfl) (hx:jH l x=some (.func (.func fi) #[] #[]):=by exact rfl) (hargs:args.toList.map (jH l)=vs.map some:=by exact rfl) (hw:∀a,Kd D a N l→Region.wanted o (yielded ops a.tmps)=true:=by first|exact fun a K=>cA rfl|exact fun a K=>K.yes rfl rfl rfl):∀a,Kd D a N l→wpList Tryz.prog ops Q (o::rest) a w:=fun a K=>aDs K (hw a K) hd hN (acQ hf K X ho hx hargs) fun v a w' hp K=>k v w' hp a K
theorem gfC {post:Value→World→Prop} {fi:FuncId} {vs cap:List Value} {av:Array Value} {args:Array Operand} {ts:Array TypeId} (X:Calls Tryz.prog fi av w fun e w'=>∃v,e = .returned v∧post v w') (k:∀v w',post v w'→∀a,Kd D a N ((d,v)::l)→wpList Tryz.prog ops Q rest a w') (hf:Ej Tryz.prog fi=true:=by exact B8 _ aQ) (hd:o.dst=some d:=by exact rfl) (hN:Nat.blt d N=true:=by exact rfl) (ho:o.op = .call { callee:=.value x,args:=args,argTypes:=ts }:=by exact rfl) (hx:jH l x=some (.func (.func fi) #[] cap.toArray):=by exact rfl) (hargs:Xw l args.toList vs:=by repeat (first|exact Xw.nil|apply Xw.cons|exact rfl)) (he:av=(vs++cap).toArray:=by exact rfl) (hw:∀a,Kd D a N l→Region.wanted o (yielded ops a.tmps)=true:=by first|exact fun a K=>cA rfl|exact fun a K=>K.yes rfl rfl rfl):∀a,Kd D a N l→wpList Tryz.prog ops Q (o::rest) a w:=fun a K=>aDs K (hw a K) hd hN (oI (cap:=cap) ho hf K hx hargs.eq (he▸X)) fun v a w' hp K=>k v w' hp a K
end
theorem Wa {q p:Prop} (k:q) (h:Hq q→p:=by
 intro k
 (repeat (first
 | with_reducible (first|refine aLw ?_|refine aNR ?_|refine aNS ?_|refine aNT ?_|refine aLx ?_|refine aLy ?_|refine aH7 ?_|refine aLB ?_|refine aLA ?_|refine aNU ?_|refine aNV ?_|refine aNW ?_|refine aH8 ?_|refine aLz ?_|refine aNQ ?_)
 | refine aNX aL ?_
 | refine aNM M ?_
 | refine aNO ?_
 | refine aNN ?_
 | refine aNP M ?_
 | refine aN0 ?_
 | refine aN1 ?_
 | refine aNY rfl ?_
 | refine aNZ rfl ?_))
 exact k.out):p:=h ⟨k⟩
theorem aH (n:Nat) {q p:Prop} (k:q) (H:Hq q→Ct n p:=by
 intro k
 refine Wa ?_
 exact (⟨k.out⟩:Ct 0 _)):p:=(H ⟨k⟩).out
theorem gnE {base:Nat} {W w:World} {L:List mM} {D:List Deferred} {N:Nat} {l:List (Nat×Value)} {ops:Array Oper} {Q:Exit→Act→World→Prop} {rest:List Oper} {o:Oper} {d:Nat} {k:IntKind} {m n:Int} (hx:m=n) (M:Mem base W w L) (kk:∀a,Kd D a N ((d,.int k n)::l)→wpList Tryz.prog ops Q rest a w) (hr:∀a,Kd D a N l→Rd Tryz.prog (fun w=>Mem base W w L) a o (.int k m):=by intro a K;exact (by first|exact yP rfl K rfl|exact nM rfl K rfl rfl|exact I1 rfl K rfl rfl|exact I2 rfl K rfl rfl|exact I3 rfl rfl IkI.out K rfl|exact Kq rfl K rfl rfl|exact tO rfl K rfl|exact rxQ K|exact Ks rfl K rfl rfl|exact Kr rfl K rfl rfl)) (hw:∀a,Kd D a N l→Region.wanted o (yielded ops a.tmps)=true:=by first|exact fun a K=>cA rfl|exact fun a K=>K.yes rfl rfl rfl) (hd:o.dst=some d:=by exact rfl) (hN:Nat.blt d N=true:=by exact rfl):∀a,Kd D a N l→wpList Tryz.prog ops Q (o::rest) a w:=jO (fun a K=>V4 hx (hr a K)) M kk hw hd hN
theorem kN (n:Nat) {e x:Int} (hx:e=x) {q p:Prop} (k:q) (H:e=x→Hq q→Ct n p:=by
 intro hx k
 refine Wa ?_
 refine (⟨?_⟩:Ct 0 _)
 exact gnE hx M k.out):p:=(H hx ⟨k⟩).out
theorem aPI {base:Nat} {W w:World} {L:List mM} {D:List Deferred} {N:Nat} {l:List (Nat×Value)} {ops:Array Oper} {rest:List Oper} {R:Act→World→Prop} {o:Oper} {d:Nat} {k:IntKind} {m n:Int} (hx:m=n) (kk:∀a,Kd D a N ((d,.int k n)::l)→pV Tryz.prog ops (fun w=>Mem base W w L) R (marked [] rest) a w) (hr:∀a,Kd D a N l→Rd Tryz.prog (fun w=>Mem base W w L) a o (.int k m):=by intro a K;exact (by first|exact yP rfl K rfl|exact nM rfl K rfl rfl|exact I1 rfl K rfl rfl|exact I2 rfl K rfl rfl|exact I3 rfl rfl IkI.out K rfl|exact Kq rfl K rfl rfl|exact tO rfl K rfl|exact rxQ K|exact Ks rfl K rfl rfl|exact Kr rfl K rfl rfl)) (hw:∀a,Kd D a N l→Region.wanted o (yielded ops a.tmps)=true:=by first|exact fun a K=>cA rfl|exact fun a K=>K.yes rfl rfl rfl) (hd:o.dst=some d:=by exact rfl) (hN:Nat.blt d N=true:=by exact rfl):∀a,Kd D a N l→pV Tryz.prog ops (fun w=>Mem base W w L) R (marked [] (o::rest)) a w:=G4 (f:=[]) (fun a K=>V4 hx (hr a K)) kk hw hd hN
theorem aPJ {base:Nat} {W w:World} {L:List mM} {D:List Deferred} {N:Nat} {l:List (Nat×Value)} {ops:Array Oper} {rest:List Oper} {f:List Nat} {R:Act→World→Prop} {o:Oper} {d:Nat} {k:IntKind} {m n:Int} (hx:m=n) (kk:∀a,Kd D a N ((d,.int k n)::l)→pV Tryz.prog ops (fun w=>Mem base W w L) R (marked f rest) a w) (hr:∀a,Kd D a N l→Rd Tryz.prog (fun w=>Mem base W w L) a o (.int k m):=by intro a K;exact (by first|exact yP rfl K rfl|exact nM rfl K rfl rfl|exact I1 rfl K rfl rfl|exact I2 rfl K rfl rfl|exact I3 rfl rfl IkI.out K rfl|exact Kq rfl K rfl rfl|exact tO rfl K rfl|exact rxQ K|exact Ks rfl K rfl rfl|exact Kr rfl K rfl rfl)) (hw:∀a,Kd D a N l→Region.wanted o (yielded ops a.tmps)=true:=by first|exact fun a K=>cA rfl|exact fun a K=>K.yes rfl rfl rfl) (hd:o.dst=some d:=by exact rfl) (hN:Nat.blt d N=true:=by exact rfl):∀a,Kd D a N l→pV Tryz.prog ops (fun w=>Mem base W w L) R (marked (0::f) (o::rest)) a w:=G4 (f:=f) (fun a K=>V4 hx (hr a K)) kk hw hd hN
theorem gmQ (n:Nat) {e x:Int} (hx:e=x) {q p:Prop} (k:q) (H:e=x→Hq q→Ct n p:=by
 intro hx k
 refine Wa ?_
 refine (⟨?_⟩:Ct 0 _)
 first|exact aPI hx k.out|exact aPJ hx k.out):p:=(H hx ⟨k⟩).out
theorem Xx (n:Nat) {q p:Prop} (k:q) (H:Hq q→Ct n p:=by
 intro k
 refine Wa ?_
 refine (⟨?_⟩:Ct 0 _)
 intro a K
 refine aK (fun w=>Mem _ _ w _) [] aQ aQ M.drew ?_
 revert a;exact k.out):p:=(H ⟨k⟩).out
theorem cB (n:Nat) {b:Bool} {β:Type} {s t r:β} (h:cond b s t=r) {q1 q2 p:Prop} (k1:b=true→s=r→q1) (k2:b=false→t=r→q2) (H:Hq (b=true→q1)→Hq (b=false→q2)→Ct n p:=by
 intro k1 k2
 refine Wa ?_
 exact gcE rfl k1.out k2.out):p:=(H ⟨fun hb=>k1 hb (Wj hb h)⟩ ⟨fun hb=>k2 hb (Qy hb h)⟩).out
structure Bx {α:Type} (x:α):Prop
theorem gkS {s:Nat} {D:List Deferred} {N:Nat} {l:List (Nat×Value)} {b:Bool} {G:Act→Prop} (_:Bx s) (k1:b=true→∀a,Kd D a N ((s,.bool true)::l)→G a) (k2:b=false→∀a,Kd D a N ((s,.bool false)::l)→G a) (hs:CU l s=some (.bool b)):Ct 0 (∀a,Kd D a N l→G a):=gkE s hs k1 k2
theorem kJ (n s:Nat) {b:Bool} {β:Type} {x t r:β} (h:cond b x t=r) {q1 q2 p:Prop} (k1:b=true→x=r→q1) (k2:b=false→t=r→q2) (H:Bx s→Hq (b=true→q1)→Hq (b=false→q2)→Ct n p:=by
 intro S0 k1 k2
 refine Wa ?_
 exact gkS S0 k1.out k2.out rfl):p:=(H ⟨⟩ ⟨fun hb=>k1 hb (Wj hb h)⟩ ⟨fun hb=>k2 hb (Qy hb h)⟩).out
theorem pvQ {p:Prop} (h:p:=by first|exact spQ M|exact inO (by assumption) _ M|exact M.gQ (i:=0) rfl|exact M.gQ (i:=1) rfl|exact M.gQ (i:=2) rfl|exact M.gQ (i:=3) rfl|exact M.gQ (i:=4) rfl|exact M.gQ (i:=5) rfl|exact M.gQ (i:=6) rfl|exact M.gQ (i:=7) rfl|exact M.gQ (i:=8) rfl|exact M.gQ (i:=9) rfl|exact M.gQ (i:=10) rfl|exact M.gQ (i:=11) rfl|exact M|exact HG.low M.low|assumption|exact M.cap 0 rfl|exact M.cap 1 rfl|exact M.cap 2 rfl|exact M.cap 3 rfl|exact M.cap 4 rfl|exact M.cap 5 rfl|exact M.cap 6 rfl|exact M.cap 7 rfl|exact M.cap 8 rfl|exact M.cap 9 rfl|exact M.cap 10 rfl|exact M.cap 11 rfl|exact pK _):p:=h
theorem fP (n:Nat) {Y q p:Prop} (X:Y) (k:q) (H:Y→Hq q→Ct n p:=by
 intro X k
 repeat (replace X:=X pvQ)
 refine Wa ?_
 refine (⟨?_⟩:Ct 0 _)
 first|refine gfE X ?_|refine gfC X ?_
 first|(rintro _ w ⟨rfl,Z⟩;have M:=M.call Z;clear Z;revert w;exact k.out)|(rintro _ w ⟨A,c,rfl,Z⟩;have M:=M.call Z;clear Z;revert w;revert A c;exact k.out)|(rintro _ w ⟨A,c,A2,c2,rfl,Z⟩;have M:=M.call Z;clear Z;revert w;revert A c A2 c2;exact k.out)|(rintro _ w ⟨A,c,A2,c2,A3,c3,rfl,Z⟩;have M:=M.call Z;clear Z;revert w;revert A c A2 c2 A3 c3;exact k.out)|(rintro _ w ⟨A,c,A2,c2,A3,c3,A4,c4,rfl,Z⟩;have M:=M.call Z;clear Z;revert w;revert A c A2 c2 A3 c3 A4 c4;exact k.out)):p:=(H X ⟨k⟩).out
theorem rU (n:Nat) {Y q p:Prop} (X:Y) (k:q) (H:Y→Hq q→Ct n p:=by
 intro X k
 repeat (replace X:=X pvQ)
 refine Wa ?_
 refine (⟨?_⟩:Ct 0 _)
 first|refine gtE X ?_|refine gtC X ?_
 first|(rintro _ w ⟨rfl,Z⟩;have M:=M.call Z;clear Z;refine ⟨M.toS,?_⟩;revert w;exact k.out)|(rintro _ w ⟨A,c,rfl,Z⟩;have M:=M.call Z;clear Z;refine ⟨M.toS,?_⟩;revert w;revert A c;exact k.out)|(rintro _ w ⟨A,c,A2,c2,rfl,Z⟩;have M:=M.call Z;clear Z;refine ⟨M.toS,?_⟩;revert w;revert A c A2 c2;exact k.out)|(rintro _ w ⟨A,c,A2,c2,A3,c3,rfl,Z⟩;have M:=M.call Z;clear Z;refine ⟨M.toS,?_⟩;revert w;revert A c A2 c2 A3 c3;exact k.out)|(rintro _ w ⟨A,c,A2,c2,A3,c3,A4,c4,rfl,Z⟩;have M:=M.call Z;clear Z;refine ⟨M.toS,?_⟩;revert w;revert A c A2 c2 A3 c3 A4 c4;exact k.out)):p:=(H X ⟨k⟩).out
theorem eE (n:Nat) {q p:Prop} (k:q) (H:Hq q→Ct n p:=by
 intro k
 refine Wa ?_
 refine (⟨?_⟩:Ct 0 _)
 intro a K
 first|(refine X_a K (aPH M K) ?_;rintro _ a w ⟨g,rfl,M⟩ K;revert a;revert w;revert g;exact k.out)|(refine X_a K (aPG M K) ?_;rintro _ a w ⟨g,rfl,M⟩ K;revert a;revert w;revert g;exact k.out)|(refine X_a K (Kt rfl Fk.out M) ?_;rintro _ a w ⟨g,rfl,M⟩ K;revert a;revert w;revert g;exact k.out)):p:=(H ⟨k⟩).out
theorem cV (n:Nat) {q p:Prop} (k:q) (H:Hq q→Ct n p:=by
 intro k
 refine Wa ?_
 refine (⟨?_⟩:Ct 0 _)
 intro a K
 first|refine Pq K (oO M K 0) ?_|refine Pq K (jX M K 0) ?_|refine Pq K (oO M K 1) ?_|refine Pq K (jX M K 1) ?_|refine Pq K (oO M K 2) ?_|refine Pq K (jX M K 2) ?_|refine Pq K (oO M K 3) ?_|refine Pq K (jX M K 3) ?_|refine Pq K (oO M K 4) ?_|refine Pq K (jX M K 4) ?_|refine Pq K (oO M K 5) ?_|refine Pq K (jX M K 5) ?_|refine Pq K (oO M K 6) ?_|refine Pq K (jX M K 6) ?_|refine Pq K (oO M K 7) ?_|refine Pq K (jX M K 7) ?_|refine Pq K (oO M K 8) ?_|refine Pq K (jX M K 8) ?_|refine Pq K (oO M K 9) ?_|refine Pq K (jX M K 9) ?_|refine Pq K (oO M K 10) ?_|refine Pq K (jX M K 10) ?_|refine Pq K (oO M K 11) ?_|refine Pq K (jX M K 11) ?_
 rintro _ a w M K;revert a;revert w;exact k.out):p:=(H ⟨k⟩).out
theorem FV {p:Prop} (h:p:=by first|exact jD K rfl|exact lF K rfl MW.out (M.gQ (i:=0) rfl) rfl|exact qH K rfl L9.out (M.gQ (i:=0) rfl) rfl|exact lF K rfl MW.out (M.gQ (i:=1) rfl) rfl|exact qH K rfl L9.out (M.gQ (i:=1) rfl) rfl|exact lF K rfl MW.out (M.gQ (i:=2) rfl) rfl|exact qH K rfl L9.out (M.gQ (i:=2) rfl) rfl|exact lF K rfl MW.out (M.gQ (i:=3) rfl) rfl|exact qH K rfl L9.out (M.gQ (i:=3) rfl) rfl|exact lF K rfl MW.out (M.gQ (i:=4) rfl) rfl|exact qH K rfl L9.out (M.gQ (i:=4) rfl) rfl|exact lF K rfl MW.out (M.gQ (i:=5) rfl) rfl|exact qH K rfl L9.out (M.gQ (i:=5) rfl) rfl|exact lF K rfl MW.out (M.gQ (i:=6) rfl) rfl|exact qH K rfl L9.out (M.gQ (i:=6) rfl) rfl|exact lF K rfl MW.out (M.gQ (i:=7) rfl) rfl|exact qH K rfl L9.out (M.gQ (i:=7) rfl) rfl|exact lF K rfl MW.out (M.gQ (i:=8) rfl) rfl|exact qH K rfl L9.out (M.gQ (i:=8) rfl) rfl|exact lF K rfl MW.out (M.gQ (i:=9) rfl) rfl|exact qH K rfl L9.out (M.gQ (i:=9) rfl) rfl|exact lF K rfl MW.out (M.gQ (i:=10) rfl) rfl|exact qH K rfl L9.out (M.gQ (i:=10) rfl) rfl|exact lF K rfl MW.out (M.gQ (i:=11) rfl) rfl|exact qH K rfl L9.out (M.gQ (i:=11) rfl) rfl):p:=h
theorem bP (n:Nat) {Y p:Prop} (X:Y) (H:Y→Ct n p:=by
 intro X
 refine Wa ?_
 refine (⟨?_⟩:Ct 0 _)
 intro a K
 cases h
 first|exact D4 K rfl FV  ⟨_,rfl,rfl,X⟩|exact D4 K rfl FV  ⟨_,rfl,_,_,rfl,X⟩|exact D4 K rfl FV  ⟨_,rfl,_,_,_,_,rfl,X⟩|exact D4 K rfl FV  ⟨_,rfl,_,_,_,_,_,_,rfl,X⟩|exact D4 K rfl FV  ⟨_,rfl,_,_,_,_,_,_,_,_,rfl,X⟩):p:=(H X).out
theorem eB (n:Nat) {Y p:Prop} (X:Y) (H:Y→Ct n p:=by
 intro X
 refine Wa ?_
 refine (⟨?_⟩:Ct 0 _)
 intro a K
 cases h
 first|exact QK K rfl FV FV  ⟨_,rfl,rfl,X⟩|exact QK K rfl FV FV  ⟨_,rfl,_,_,rfl,X⟩|exact QK K rfl FV FV  ⟨_,rfl,_,_,_,_,rfl,X⟩|exact QK K rfl FV FV  ⟨_,rfl,_,_,_,_,_,_,rfl,X⟩|exact QK K rfl FV FV  ⟨_,rfl,_,_,_,_,_,_,_,_,rfl,X⟩):p:=(H X).out
theorem NB (n:Nat) {Y p:Prop} (X:Y) (H:Y→Ct n p:=by
 intro X
 refine Wa ?_
 refine (⟨?_⟩:Ct 0 _)
 intro a K
 cases h
 first|exact UK K rfl FV FV FV  ⟨_,rfl,rfl,X⟩|exact UK K rfl FV FV FV  ⟨_,rfl,_,_,rfl,X⟩|exact UK K rfl FV FV FV  ⟨_,rfl,_,_,_,_,rfl,X⟩|exact UK K rfl FV FV FV  ⟨_,rfl,_,_,_,_,_,_,rfl,X⟩|exact UK K rfl FV FV FV  ⟨_,rfl,_,_,_,_,_,_,_,_,rfl,X⟩):p:=(H X).out
theorem aQs (n:Nat) {Y p:Prop} (X:Y) (H:Y→Ct n p:=by
 intro X
 refine Wa ?_
 refine (⟨?_⟩:Ct 0 _)
 intro a K
 cases h
 first|exact aH9 K rfl FV FV FV FV  ⟨_,rfl,rfl,X⟩|exact aH9 K rfl FV FV FV FV  ⟨_,rfl,_,_,rfl,X⟩|exact aH9 K rfl FV FV FV FV  ⟨_,rfl,_,_,_,_,rfl,X⟩|exact aH9 K rfl FV FV FV FV  ⟨_,rfl,_,_,_,_,_,_,rfl,X⟩|exact aH9 K rfl FV FV FV FV  ⟨_,rfl,_,_,_,_,_,_,_,_,rfl,X⟩):p:=(H X).out
theorem iG (n:Nat) {S:Type} (st:S) {Y p:Prop} (X:Y) (H:(∀{p q:S→Prop},p st→q st→∃s,p s∧q s)→Y→Ct n p:=by
 intro wt X
 refine Wa ?_
 refine (⟨?_⟩:Ct 0 _)
 intro a K
 first|exact wt ⟨K.to,X⟩ h|exact wt ⟨_,_,K.to,X⟩ h|exact wt ⟨_,_,_,_,K.to,X⟩ h|exact wt ⟨_,_,_,_,_,_,K.to,X⟩ h|exact wt ⟨_,_,_,_,_,_,_,_,K.to,X⟩ h|exact wt ⟨_,_,_,_,_,_,_,_,_,_,K.to,X⟩ h):p:=(H (fun hp hq=>⟨st,hp,hq⟩) X).out
theorem jY (n:Nat) {F Y p:Prop} (f:F) (X:Y) (H:F→Y→Ct n p:=by
 intro f X
 refine Wa ?_
 refine (⟨?_⟩:Ct 0 _)
 intro a K
 first|exact f _ _ ⟨K.to,X⟩ h|exact f _ _ ⟨_,_,K.to,X⟩ h|exact f _ _ ⟨_,_,_,_,K.to,X⟩ h|exact f _ _ ⟨_,_,_,_,_,_,K.to,X⟩ h|exact f _ _ ⟨_,_,_,_,_,_,_,_,K.to,X⟩ h|exact f _ _ ⟨_,_,_,_,_,_,_,_,_,_,K.to,X⟩ h):p:=(H f X).out
def LpT {St:Type} (Rel:St→Act→World→Prop) (id:Nat):Prop:=∀{Rt:Type} {P:Program} {Q:Exit→Act→World→Prop} {a:Act} {w:World} {kk:St→Option Rt} {lf:(St→Option Rt)→Nat→St→Option Rt} {r:Rt} {p:Code} {n:Nat} {st:St}
 (_:lf kk n st=some r) (_:∀kk st,lf kk 0 st=none) (_:Rel st a w) (_:∀st a w,Rel st a w→kk st=some r→Q (.exit id) a w)
 (_:∀(kk:St→Option Rt) n st a w,(∀st a w,Rel st a w→kk st=some r→Q (.exit id) a w)→Rel st a w→lf kk (n+1) st=some r→p.wp P (Exit.then (fun a w=>∃st,Rel st a w∧lf kk n st=some r) Q) a w),(Code.loop p).wp P Q a w
theorem gLQ (n id:Nat) {S:Type} (Rel:S→Act→World→Prop) {Y q1 q2 p:Prop} (X:Y) (k1:q1) (k2:q2) (H:LpT Rel id→Y→Hq q1→Hq q2→Ct n p:=by
 intro lp X k1 k2
 refine Wa ?_
 refine (⟨?_⟩:Ct 0 _)
 intro a K
 refine lp h (fun _ _=>rfl) ?_ k1.out k2.out
 first|exact ⟨K.to,X⟩|exact ⟨_,_,K.to,X⟩|exact ⟨_,_,_,_,K.to,X⟩|exact ⟨_,_,_,_,_,_,K.to,X⟩|exact ⟨_,_,_,_,_,_,_,_,K.to,X⟩|exact ⟨_,_,_,_,_,_,_,_,_,_,K.to,X⟩):p:=(H (fun h hz h0 hk rd=>aMb h hz h0 hk rd) X ⟨k1⟩ ⟨k2⟩).out
theorem pM (n id:Nat) (ss is:List Nat) {S:Type} (Rel:List (Nat×Value)→List mM→S→Act→World→Prop) {Y q1 q2 p:Prop} (X:Y) (k1:q1) (k2:q2) (H:(∀{D:List Deferred} {a:Act} {N:Nat} {l lk:List (Nat×Value)} {base:Nat} {W w:World} {L Lk:List mM},Kd D a N l→Mem base W w L→KP l ss lk→EP L is Lk→LpT (Rel lk Lk) id)→Y→Hq q1→Hq q2→Ct n p:=by
 intro lp X k1 k2
 refine Wa ?_
 refine (⟨?_⟩:Ct 0 _)
 intro a K
 refine lp K M (by repeat (first|exact KP.nil|apply KP.cons|exact rfl)) (by repeat (first|exact EP.nil|apply EP.cons|exact rfl)) h (fun _ _=>rfl) ?_ k1.out k2.out
 first|exact ⟨K.to,X⟩|exact ⟨_,_,K.to,X⟩|exact ⟨_,_,_,_,K.to,X⟩|exact ⟨_,_,_,_,_,_,K.to,X⟩|exact ⟨_,_,_,_,_,_,_,_,K.to,X⟩|exact ⟨_,_,_,_,_,_,_,_,_,_,K.to,X⟩):p:=(H (fun _ _ _ _=>fun h hz h0 hk rd=>aMb h hz h0 hk rd) X ⟨k1⟩ ⟨k2⟩).out
inductive ER:List Nat→Nat→List Nat→Prop where
 | hit {c:Nat} {l:List Nat}:ER (c::l) c l
 | miss {a c:Nat} {l r:List Nat} (h:(a==c)=false) (k:ER l c r):ER (a::l) c (a::r)
theorem ER.eq:∀{l:List Nat} {c:Nat} {r:List Nat},ER l c r→(l.erase c==r)=true
 | _,_,_,.hit=>by simp
 | _,_,_,.miss h k=>by
  have:=k.eq
  simp only [beq_iff_eq] at this ⊢
  rw [List.erase_cons_tail (by simpa using h),this]
section
variable {base:Nat} {W w:World} {L:List mM} {D:List Deferred} {a:Act} {N:Nat} {l:List (Nat×Value)} {ops:Array Oper} {Q:Exit→Act→World→Prop} {rest:List Oper} {o:Oper} {d:Nat} {v:Value} {post:Value→World→Prop} {f:List Nat} {R:Act→World→Prop} {S:World→Prop} {O:Exit→Act→World→Prop} {c n i:Nat} {rem AS:List Nat}
theorem Za (act:∀a,Kd D a N l→Ac Tryz.prog o a w post) (k:∀v w',post v w'→∀a,Kd D a N ((d,v)::l)→wpList Tryz.prog ops Q rest a w') (hd:o.dst=some d:=by exact rfl) (hN:Nat.blt d N=true:=by exact rfl) (hw:∀a,Kd D a N l→Region.wanted o (yielded ops a.tmps)=true:=by first|exact fun a K=>cA rfl|exact fun a K=>K.yes rfl rfl rfl):∀a,Kd D a N l→wpList Tryz.prog ops Q (o::rest) a w:=fun a K=>aDs K (hw a K) hd hN (act a K) fun v a w' hp K=>k v w' hp a K
theorem Zb (act:∀a,Kd D a N l→Ac Tryz.prog o a w post) (k:∀v w',post v w'→∀a,Kd D a N l→wpList Tryz.prog ops Q rest a w') (hd:o.dst=none:=by exact rfl) (hw:∀a,Kd D a N l→Region.wanted o (yielded ops a.tmps)=true:=by first|exact fun a K=>cA rfl|exact fun a K=>K.yes rfl rfl rfl):∀a,Kd D a N l→wpList Tryz.prog ops Q (o::rest) a w:=fun a K=>aGh K (hw a K) hd (act a K) fun v a w' hp K=>k v w' hp a K
theorem Gf (act:∀a,Kd D a N l→Ac Tryz.prog o a w post) (k:∀v w',post v w'→S w'∧∀a,Kd D a N ((d,v)::l)→pV Tryz.prog ops S R (marked f rest) a w') (hd:o.dst=some d:=by exact rfl) (hN:Nat.blt d N=true:=by exact rfl) (hw:∀a,Kd D a N l→Region.wanted o (yielded ops a.tmps)=true:=by first|exact fun a K=>cA rfl|exact fun a K=>K.yes rfl rfl rfl):∀a,Kd D a N l→pV Tryz.prog ops S R (marked (1::f) (o::rest)) a w:=fun a K=>aBB K (hw a K) hd hN (act a K) fun v a w' hp K=>⟨(k v w' hp).1,(k v w' hp).2 a K⟩
theorem J8 (act:∀a,Kd D a N l→Ac Tryz.prog o a w post) (k:∀v w',post v w'→S w'∧∀a,Kd D a N l→pV Tryz.prog ops S R (marked f rest) a w') (hd:o.dst=none:=by exact rfl) (hw:∀a,Kd D a N l→Region.wanted o (yielded ops a.tmps)=true:=by first|exact fun a K=>cA rfl|exact fun a K=>K.yes rfl rfl rfl):∀a,Kd D a N l→pV Tryz.prog ops S R (marked (1::f) (o::rest)) a w:=fun a K=>aO5 K (hw a K) hd (act a K) fun v a w' hp K=>⟨(k v w' hp).1,(k v w' hp).2 a K⟩
theorem z7 (act:∀a,Kd D a N l→Ac Tryz.prog o a w post) (k:∀v w',post v w'→∀a,Kd D a N l→pV Tryz.prog ops S R (marked f rest) a w') (hd:o.dst=none:=by exact rfl) (hw:∀a,Kd D a N l→Region.wanted o (yielded ops a.tmps)=true:=by first|exact fun a K=>cA rfl|exact fun a K=>K.yes rfl rfl rfl):∀a,Kd D a N l→pV Tryz.prog ops S R (marked (2::f) (o::rest)) a w:=fun a K=>aIO K (hw a K) hd (act a K) fun v a w' hp K=>k v w' hp a K
theorem rD (ho:ops[c]? = some o) (act:∀a,Kd D a N l→Ac Tryz.prog o a w post) (k:∀v w',post v w'→(dM f c=true→S w')∧∀a,Kd D a N ((d,v)::l)→vE Tryz.prog O ops S (jZ f) (dM f) R n AS a w') (hd:o.dst=some d:=by exact rfl) (hN:Nat.blt d N=true:=by exact rfl) (hw:∀a,Kd D a N l→Region.wanted o (yielded ops a.tmps)=true:=by first|exact fun a K=>cA rfl|exact fun a K=>K.yes rfl rfl rfl) (hc:ER rem c AS:=by repeat (first|exact ER.hit|apply ER.miss rfl)):∀a,Kd D a N l→wpOp Tryz.prog ops O c (fun a' w'=>(dM f c=true→S w')∧vE Tryz.prog O ops S (jZ f) (dM f) R n (rem.erase c) a' w') a w:=fun a K=>ST AS hc.eq ho K (hw a K) hd hN (act a K) fun v a w' hp K=>⟨(k v w' hp).1,(k v w' hp).2 a K⟩
theorem D3 (ho:ops[c]? = some o) (act:∀a,Kd D a N l→Ac Tryz.prog o a w post) (k:∀v w',post v w'→(dM f c=true→S w')∧∀a,Kd D a N l→vE Tryz.prog O ops S (jZ f) (dM f) R n AS a w') (hd:o.dst=none:=by exact rfl) (hw:∀a,Kd D a N l→Region.wanted o (yielded ops a.tmps)=true:=by first|exact fun a K=>cA rfl|exact fun a K=>K.yes rfl rfl rfl) (hc:ER rem c AS:=by repeat (first|exact ER.hit|apply ER.miss rfl)):∀a,Kd D a N l→wpOp Tryz.prog ops O c (fun a' w'=>(dM f c=true→S w')∧vE Tryz.prog O ops S (jZ f) (dM f) R n (rem.erase c) a' w') a w:=fun a K=>aFr AS hc.eq ho K (hw a K) hd (act a K) fun v a w' hp K=>⟨(k v w' hp).1,(k v w' hp).2 a K⟩
theorem Uq (ho:ops[c]? = some o) (M:Mem base W w L) (hr:∀a,Kd D a N l→Rd Tryz.prog (fun w=>Mem base W w L) a o v) (k:(dM f c=true→S w)∧∀a,Kd D a N ((d,v)::l)→vE Tryz.prog O ops S (jZ f) (dM f) R n AS a w) (hd:o.dst=some d:=by exact rfl) (hN:Nat.blt d N=true:=by exact rfl) (hw:∀a,Kd D a N l→Region.wanted o (yielded ops a.tmps)=true:=by first|exact fun a K=>cA rfl|exact fun a K=>K.yes rfl rfl rfl) (hc:ER rem c AS:=by repeat (first|exact ER.hit|apply ER.miss rfl)):∀a,Kd D a N l→wpOp Tryz.prog ops O c (fun a' w'=>(dM f c=true→S w')∧vE Tryz.prog O ops S (jZ f) (dM f) R n (rem.erase c) a' w') a w:=fun a K=>aNq AS hc.eq ho K (hw a K) hd hN (hr a K) M fun a K=>⟨k.1,k.2 a K⟩
theorem Ce (i:Nat) (ho:ops[i]? = some o) (hr:∀a,Kd D a N l→Rd Tryz.prog S a o v) (k:∀a,Kd D a N ((d,v)::l)→vE Tryz.prog O ops S (jZ f) (dM f) R n AS a w) (hd:o.dst=some d:=by exact rfl) (hN:Nat.blt d N=true:=by exact rfl) (hw:∀a,Kd D a N l→Region.wanted o (yielded ops a.tmps)=true:=by first|exact fun a K=>cA rfl|exact fun a K=>K.yes rfl rfl rfl) (he:ER rem i AS:=by repeat (first|exact ER.hit|apply ER.miss rfl)) (hc:(rem.elem i&&jZ f i&&O4 ops rem i&&rem.erase i==AS)=true:=by kernel_rfl):∀a,Kd D a N l→vE Tryz.prog O ops S (jZ f) (dM f) R (n+1) rem a w:=fun a K=>LU i AS hc ho K (hw a K) hd hN (hr a K) k
theorem nK (c:Nat) (k:∀a,Kd D a N l→wpOp Tryz.prog ops O c (fun a' w'=>(dM f c=true→S w')∧vE Tryz.prog O ops S (jZ f) (dM f) R n (rem.erase c) a' w') a w) (hc:((rem.all fun i=>!jZ f i || !O4 ops rem i)&&(rem.filter fun c=>!jZ f c&&O4 ops rem c)==[c])=true:=by kernel_rfl):∀a,Kd D a N l→vE Tryz.prog O ops S (jZ f) (dM f) R (n+1) rem a w:=fun a K=>VM [c] hc ⟨k a K,trivial⟩
theorem MX (c e:Nat) (k:∀a,Kd D a N l→wpOp Tryz.prog ops O c (fun a' w'=>(dM f c=true→S w')∧vE Tryz.prog O ops S (jZ f) (dM f) R n (rem.erase c) a' w') a w) (k2:∀a,Kd D a N l→wpOp Tryz.prog ops O e (fun a' w'=>(dM f e=true→S w')∧vE Tryz.prog O ops S (jZ f) (dM f) R n (rem.erase e) a' w') a w) (hc:((rem.all fun i=>!jZ f i || !O4 ops rem i)&&(rem.filter fun c=>!jZ f c&&O4 ops rem c)==[c,e])=true:=by kernel_rfl):∀a,Kd D a N l→vE Tryz.prog O ops S (jZ f) (dM f) R (n+1) rem a w:=fun a K=>VM [c,e] hc ⟨k a K,k2 a K,trivial⟩
theorem Zb3 (c e g:Nat) (k:∀a,Kd D a N l→wpOp Tryz.prog ops O c (fun a' w'=>(dM f c=true→S w')∧vE Tryz.prog O ops S (jZ f) (dM f) R n (rem.erase c) a' w') a w) (k2:∀a,Kd D a N l→wpOp Tryz.prog ops O e (fun a' w'=>(dM f e=true→S w')∧vE Tryz.prog O ops S (jZ f) (dM f) R n (rem.erase e) a' w') a w) (k3:∀a,Kd D a N l→wpOp Tryz.prog ops O g (fun a' w'=>(dM f g=true→S w')∧vE Tryz.prog O ops S (jZ f) (dM f) R n (rem.erase g) a' w') a w) (hc:((rem.all fun i=>!jZ f i || !O4 ops rem i)&&(rem.filter fun c=>!jZ f c&&O4 ops rem c)==[c,e,g])=true:=by kernel_rfl):∀a,Kd D a N l→vE Tryz.prog O ops S (jZ f) (dM f) R (n+1) rem a w:=fun a K=>VM [c,e,g] hc ⟨k a K,k2 a K,k3 a K,trivial⟩
theorem Jr {id:Nat} {ol:List Oper} (f:List Nat) (n:Nat) (rem:List Nat) (M:Mem base W w L) (k:∀a,Kd D a N l→vE Tryz.prog Gg ol.toArray (fun w=>Mem base W w L) (jZ f) (dM f) (Q .normal) n rem a w.drew) (hm:Tryz.prog.follows .mixedOrders=true:=by kernel_rfl) (hok:VK ol.toArray (jZ f) (dM f)=true:=by kernel_rfl) (hl:gS ol.toArray.size=rem:=by kernel_rfl) (hn:rem.length=n:=by exact rfl):∀a,Kd D a N l→(Code.region id ol.toArray true).wp Tryz.prog Q a w:=fun a K=>Nw (fun w=>Mem base W w L) f n rem hm hok hl hn M.drew (k a K)
theorem Zin (fid:Nat) {x:Operand} {fn:Func} {code:Code} {vs:List Value} {args:Array Operand} {ts:Array TypeId} {N':Nat} (hf:Tryz.prog.funcs[fid]? = some fn) (hN':fn.ntmps=N') (k:∀a',Kn a' N' (L3 0 vs)→code.wp Tryz.prog (bodyPost Tryz.prog fn fun e w'=>∃v,e = .returned v∧∀a,Kd D a N ((d,v)::l)→wpList Tryz.prog ops Q rest a w') a' w) (hd:o.dst=some d:=by exact rfl) (hN:Nat.blt d N=true:=by exact rfl) (ho:o.op = .call { callee:=.value x,args:=args,argTypes:=ts }:=by exact rfl) (hx:jH l x=some (.func (.func fid) #[] #[]):=by exact rfl) (hargs:Xw l args.toList vs:=by repeat (first|exact Xw.nil|apply Xw.cons|exact rfl)) (hw:∀a,Kd D a N l→Region.wanted o (yielded ops a.tmps)=true:=by first|exact fun a K=>cA rfl|exact fun a K=>K.yes rfl rfl rfl) (hb:fn.body=some code:=by exact rfl) (hs:Nat.ble vs.length N'=true:=by exact rfl) (hfk:Ej Tryz.prog fid=true:=by exact B8 _ aQ):∀a,Kd D a N l→wpList Tryz.prog ops Q (o::rest) a w:=fun a K=>Tx (cap:=[]) K (hw a K) hd hN ho hfk hx hargs.eq (by rw [v4];exact qC hf hb hN' (by simpa using hs) (by simpa using k))
theorem J9 {i c:Int} {β:Type} {s t r:β} (h:cond (decide (i=c)) s t=r) {q:Prop} (k1:i=c→s=r→q) (k2:t=r→q):q:=by
 by_cases hb:i=c
 · exact k1 hb (Wj (decide_eq_true hb) h)
 · exact k2 (Qy (decide_eq_false hb) h)
theorem ixj {j cc:Int} {t:Nat} {x ix:Operand} {len e s:Nat} {ad:Addr} {kk:IntKind} (hj:j=cc) (off:Nat) (K:Kd D a N l) (ho:o.op = .indexAddr t x ix) (ht:Tryz.prog.underlying t=some (.array len e)) (hsz:(Tryz.prog.info? e).map (·.size)=some s) (hx:jH l x=some (.pointer (some ad))) (hi:jH l ix=some (.int kk j)) (h0:(decide (0≤cc)&&decide (cc<len))=true) (he:ad.add (cc.toNat*s)=⟨ad.block,off,none⟩):Rd Tryz.prog S a o (.pointer (some ⟨ad.block,off,none⟩)):=by
 subst hj
 simp only [o9,decide_eq_true_eq] at h0
 exact he▸YE ho ht hsz K hx hi h0.1 h0.2
theorem F4 {j cc:Int} {t:Nat} {x ix:Operand} {len e s:Nat} {ad:Addr} {kk:IntKind} (hj:j=cc) (off:Nat) (k:∀a,Kd D a N ((d,.pointer (some ⟨ad.block,off,none⟩))::l)→pV Tryz.prog ops S R (marked f rest) a w) (ho:o.op = .indexAddr t x ix:=by exact rfl) (ht:Tryz.prog.underlying t=some (.array len e):=by exact ArI.out) (hsz:(Tryz.prog.info? e).map (·.size)=some s:=by exact SzI.out) (hx:jH l x=some (.pointer (some ad)):=by exact rfl) (hi:jH l ix=some (.int kk j):=by exact rfl) (h0:(decide (0≤cc)&&decide (cc<len))=true:=by exact rfl) (he:ad.add (cc.toNat*s)=⟨ad.block,off,none⟩:=by exact rfl) (hd:o.dst=some d:=by exact rfl) (hN:Nat.blt d N=true:=by exact rfl) (hw:∀a,Kd D a N l→Region.wanted o (yielded ops a.tmps)=true:=by first|exact fun a K=>cA rfl|exact fun a K=>K.yes rfl rfl rfl):∀a,Kd D a N l→pV Tryz.prog ops S R (marked (0::f) (o::rest)) a w:=fun a K=>aGi K (hw a K) hd hN (ixj hj off K ho ht hsz hx hi h0 he) k
theorem yjQ {j cc:Int} {t:Nat} {x ix:Operand} {len e s:Nat} {ad:Addr} {kk:IntKind} (hj:j=cc) (off:Nat) (M:Mem base W w L) (k:∀a,Kd D a N ((d,.pointer (some ⟨ad.block,off,none⟩))::l)→wpList Tryz.prog ops Q rest a w) (ho:o.op = .indexAddr t x ix:=by exact rfl) (ht:Tryz.prog.underlying t=some (.array len e):=by exact ArI.out) (hsz:(Tryz.prog.info? e).map (·.size)=some s:=by exact SzI.out) (hx:jH l x=some (.pointer (some ad)):=by exact rfl) (hi:jH l ix=some (.int kk j):=by exact rfl) (h0:(decide (0≤cc)&&decide (cc<len))=true:=by exact rfl) (he:ad.add (cc.toNat*s)=⟨ad.block,off,none⟩:=by exact rfl) (hd:o.dst=some d:=by exact rfl) (hN:Nat.blt d N=true:=by exact rfl) (hw:∀a,Kd D a N l→Region.wanted o (yielded ops a.tmps)=true:=by first|exact fun a K=>cA rfl|exact fun a K=>K.yes rfl rfl rfl):∀a,Kd D a N l→wpList Tryz.prog ops Q (o::rest) a w:=fun a K=>aDr K (hw a K) hd hN (ixj hj off K ho ht hsz hx hi h0 he) M k
theorem Ps {fn:Func} {r1:ResultVar} {v1:Value} {G:Value→World→Prop} (k:G v1 w) (hr:fn.results = #[r1]:=by exact rfl) (h1:∀a,Kn a N l→Ch Tryz.prog a w r1 v1:=by exact fun a K=>jD K rfl):∀a,Kn a N l→bodyPost Tryz.prog fn (fun e w'=>∃v,e = .returned v∧G v w') .ret a w:=fun a K=>D4 K hr (h1 a K) ⟨_,rfl,k⟩
theorem Ka {t:Nat} {cs:List Value} {a:Act} (M:Mem base W w L) (ho:o.op = .alloc t:=by exact rfl) (hz:mR Tryz.prog t=some cs:=by exact Fk.out):Ac Tryz.prog o a w fun v w'=>∃g,v = .pointer (some ⟨g,0,none⟩)∧Mem base W w' (.blk g t cs::L):=Kt ho hz M
theorem u0 {a:Act} {fi:FuncId} {x:Operand} {vs:List Value} {args:Array Operand} {ts:Array TypeId} (K:Kd D a N l) (h:Calls Tryz.prog fi vs.toArray w fun e w'=>∃v,e = .returned v∧post v w') (hf:Ej Tryz.prog fi=true:=by exact B8 _ aQ) (ho:o.op = .call { callee:=.value x,args:=args,argTypes:=ts }:=by exact rfl) (hx:jH l x=some (.func (.func fi) #[] #[]):=by exact rfl) (hargs:args.toList.map (jH l)=vs.map some:=by exact rfl):Ac Tryz.prog o a w post:=acQ hf K h ho hx hargs
end
instance:Fr 23 0 0:=⟨aQ⟩
instance:Fr 23 1 1:=⟨aQ⟩
instance:Fr 23 2 2:=⟨aQ⟩
instance:Fr 23 3 3:=⟨aQ⟩
instance:Fr 25 0 0:=⟨aQ⟩
instance:Fr 25 1 1:=⟨aQ⟩
instance:Fr 25 2 5:=⟨aQ⟩
instance:Fr 25 3 6:=⟨aQ⟩
instance:Fr 39 0 0:=⟨aBo⟩
instance:Fr 39 1 1:=⟨aQ⟩
instance:Fr 39 2 5:=⟨aQ⟩
instance:Fr 39 3 6:=⟨aBp⟩
instance:Fr 39 4 7:=⟨aBq⟩
instance:Fr 39 5 10:=⟨aQ⟩
instance:Fr 39 6 19:=⟨aQ⟩
instance:Fr 39 7 20:=⟨aQ⟩
instance:Fr 41 0 0:=⟨aQ⟩
instance:Fr 41 1 1:=⟨aQ⟩
instance:Fr 41 2 2:=⟨aQ⟩
instance:Fr 41 3 3:=⟨aQ⟩
instance:Fr 41 4 4:=⟨aQ⟩
instance:Fr 41 5 5:=⟨aQ⟩
instance:Fr 41 6 6:=⟨aQ⟩
instance:Fr 41 7 7:=⟨aQ⟩
instance:Fr 45 0 0:=⟨aQ⟩
instance:Fr 45 1 1:=⟨aQ⟩
instance:Fr 45 2 2:=⟨aQ⟩
instance:Fr 50 0 0:=⟨aQ⟩
instance:Fr 50 1 1:=⟨aQ⟩
instance:Fr 50 2 2:=⟨aQ⟩
instance:Fr 65 0 0:=⟨aQ⟩
instance:Fr 65 1 1:=⟨aQ⟩
instance:Fr 65 2 2:=⟨aQ⟩
instance:Fr 73 0 0:=⟨aQ⟩
instance:Fr 83 0 0:=⟨aQ⟩
instance:Fr 83 1 1:=⟨aQ⟩
instance:Fr 84 0 0:=⟨aQ⟩
instance:Fr 84 1 1:=⟨aQ⟩
instance:Fr 96 0 0:=⟨aQ⟩
instance:Fr 96 1 1:=⟨aQ⟩
instance:Fr 96 2 2:=⟨aQ⟩
instance:Fr 115 0 0:=⟨aQ⟩
instance:Fr 115 1 1:=⟨aQ⟩
instance:Fr 135 0 0:=⟨aQ⟩
instance:Fr 190 0 0:=⟨aQ⟩
instance:Fr 191 0 0:=⟨aQ⟩
instance:Fr 192 0 0:=⟨aQ⟩
instance:Fr 193 0 0:=⟨aQ⟩
instance:Fr 194 0 0:=⟨aQ⟩
instance:Fr 195 0 0:=⟨aQ⟩
instance:Fr 196 0 0:=⟨aQ⟩
instance:UnI 31:=⟨RN⟩
instance:UnI 32:=⟨aPD⟩
instance:UnI 34:=⟨aLs⟩
instance:UnI 37:=⟨aLt⟩
instance:UnI 48:=⟨SX⟩
instance:UnI 86:=⟨aPF⟩
instance:UnI 103:=⟨aND⟩
instance:UnI 197:=⟨aJb⟩
instance:L9 3:=⟨Hc⟩
instance:L9 4:=⟨aQ⟩
instance:L9 5:=⟨sc5⟩
instance:L9 9:=⟨sc9⟩
instance:L9 26:=⟨Xt⟩
instance:L9 31:=⟨aQ⟩
instance:L9 32:=⟨aQ⟩
instance:L9 34:=⟨VR⟩
instance:L9 37:=⟨Xu⟩
instance:L9 48:=⟨aQ⟩
instance:L9 71:=⟨aLv⟩
instance:L9 81:=⟨aQ⟩
instance:L9 101:=⟨aQ⟩
instance:L9 103:=⟨RO⟩
instance:L9 199:=⟨aQ⟩
instance:L9 302:=⟨aQ⟩
instance:MW 23 4:=⟨aQ⟩
instance:MW 25 7:=⟨aQ⟩
instance:MW 33 4:=⟨aNv⟩
instance:MW 35 3:=⟨aNw⟩
instance:MW 36 9:=⟨aQ⟩
instance:MW 39 21:=⟨aNx⟩
instance:MW 41 28:=⟨Xv⟩
instance:MW 45 3:=⟨aLu⟩
instance:MW 50 3:=⟨aFA⟩
instance:MW 65 3:=⟨aNy⟩
instance:MW 83 2:=⟨aQ⟩
instance:MW 84 2:=⟨aQ⟩
instance:MW 90 2:=⟨aQ⟩
instance:MW 96 3:=⟨aNB⟩
instance:MW 97 27:=⟨aQ⟩
instance:Fk 1 [.nilFunc]:=⟨z1⟩
instance:Fk 2 [I 0]:=⟨z2⟩
instance:Fk 3 [I 0]:=⟨z3⟩
instance:Fk 4 [.bool false]:=⟨z4⟩
instance:Fk 5 [.int .u8 0]:=⟨z5⟩
instance:Fk 9 [.string (bs ([]:aR))]:=⟨z9⟩
instance:Fk 20 [.nilIface]:=⟨z20⟩
instance:Fk 21 [.int .i32 0]:=⟨z21⟩
instance:Fk 26 [I 0]:=⟨aQ⟩
instance:Fk 35 [I 0,I 0,I 0]:=⟨aQ⟩
instance:Fk 37 [.slice none 0 0]:=⟨z37⟩
instance:Fk 39 [I 0,I 0,I 0,I 0,I 0,I 0,.slice none 0 0,I 0,I 0,I 0,I 0,I 0,I 0,I 0,I 0,I 0,I 0,I 0,I 0,.slice none 0 0,I 0]:=⟨aQ⟩
instance:Fk 41 [I 0,I 0,I 0,I 0,I 0,.slice none 0 0,.slice none 0 0,I 0,I 0,I 0,I 0,I 0,I 0,.slice none 0 0,I 0,I 0,I 0,I 0,I 0,I 0,I 0,I 0,I 0,I 0,I 0,I 0,.slice none 0 0,I 0]:=⟨aQ⟩
instance:Fk 45 [I 0,I 0,.slice none 0 0]:=⟨aQ⟩
instance:Fk 50 [I 0,I 0,.slice none 0 0]:=⟨aQ⟩
instance:Fk 53 [.nilFunc]:=⟨z53⟩
instance:Fk 65 [I 0,I 0,I 0]:=⟨z65⟩
instance:Fk 70 [.nilFunc]:=⟨z70⟩
instance:Fk 71 [.pointer none]:=⟨aQ⟩
instance:Fk 72 [.string (bs ([]:aR))]:=⟨z72⟩
instance:Fk 75 [.nilFunc]:=⟨z75⟩
instance:Fk 76 []:=⟨z76⟩
instance:Fk 78 [I 0,I 0,I 0,I 0,I 0]:=⟨aQ⟩
instance:Fk 80 [.nilFunc]:=⟨z80⟩
instance:Fk 81 [.pointer none]:=⟨aQ⟩
instance:Fk 83 [I 0,I 0]:=⟨z83⟩
instance:Fk 84 [I 0,I 0]:=⟨z84⟩
instance:Fk 85 [.nilFunc]:=⟨z85⟩
instance:Fk 90 [I 0,I 0]:=⟨z90⟩
instance:Fk 96 [.bool false,.bool false,.bool false]:=⟨aQ⟩
instance:Fk 97 [.bool false,.bool false,.bool false,.bool false,.bool false,.bool false,.bool false,.bool false,.bool false,.bool false,.bool false,.bool false,.bool false,.bool false,.bool false,.bool false,.bool false,.bool false,.bool false,.bool false,.bool false,.bool false,.bool false,.bool false,.bool false,.bool false,.bool false]:=⟨aQ⟩
instance:Fk 101 [.nilFunc]:=⟨aQ⟩
instance:Fk 116 [.nilFunc]:=⟨z116⟩
instance:Fk 119 [.nilFunc]:=⟨z119⟩
instance:Fk 124 [.nilFunc]:=⟨z124⟩
instance:Fk 127 [.nilFunc]:=⟨z127⟩
instance:Fk 138 [.nilFunc]:=⟨z138⟩
instance:Fk 139 [.nilFunc]:=⟨z139⟩
instance:Fk 143 [.nilFunc]:=⟨z143⟩
instance:Fk 145 [.nilFunc]:=⟨z145⟩
instance:Fk 146 [.nilFunc]:=⟨z146⟩
instance:Fk 164 [.pointer none]:=⟨z164⟩
instance:Fk 167 [.nilFunc]:=⟨z167⟩
instance:Fk 168 [.nilFunc]:=⟨z168⟩
instance:Fk 173 [.nilFunc]:=⟨z173⟩
instance:Fk 175 [.nilFunc]:=⟨z175⟩
instance:Fk 199 [.nilIface]:=⟨aNE⟩
instance:Fk 210 [.nilFunc]:=⟨z210⟩
instance:Fk 213 [.nilFunc]:=⟨z213⟩
instance:Fk 232 [I 0]:=⟨z232⟩
instance:Fk 302 [.nilFunc]:=⟨aQ⟩
instance:SY 22 [I 0,I 0,I 0,I 0]:=⟨by kernel_rfl⟩
instance:SY 23 [I 0,I 0,I 0,I 0]:=⟨by kernel_rfl⟩
instance:SY 40 [I 0,I 0,I 0,I 0,I 0,.slice none 0 0,.slice none 0 0,I 0,I 0,I 0,I 0,I 0,I 0,.slice none 0 0,I 0,I 0,I 0,I 0,I 0,I 0,I 0,I 0,I 0,I 0,I 0,I 0,.slice none 0 0,I 0]:=⟨by kernel_rfl⟩
instance:SY 41 [I 0,I 0,I 0,I 0,I 0,.slice none 0 0,.slice none 0 0,I 0,I 0,I 0,I 0,I 0,I 0,.slice none 0 0,I 0,I 0,I 0,I 0,I 0,I 0,I 0,I 0,I 0,I 0,I 0,I 0,.slice none 0 0,I 0]:=⟨by kernel_rfl⟩
instance:SY 44 [I 0,I 0,.slice none 0 0]:=⟨by kernel_rfl⟩
instance:SY 45 [I 0,I 0,.slice none 0 0]:=⟨by kernel_rfl⟩
instance:SY 49 [I 0,I 0,.slice none 0 0]:=⟨by kernel_rfl⟩
instance:SY 50 [I 0,I 0,.slice none 0 0]:=⟨by kernel_rfl⟩
instance:SY 76 []:=⟨by kernel_rfl⟩
instance:SY 77 []:=⟨by kernel_rfl⟩
instance:SY 82 [I 0,I 0]:=⟨by kernel_rfl⟩
instance:SY 83 [I 0,I 0]:=⟨by kernel_rfl⟩
instance:SY 84 [I 0,I 0]:=⟨by kernel_rfl⟩
instance:SY 95 [.bool false,.bool false,.bool false]:=⟨by kernel_rfl⟩
instance:SY 96 [.bool false,.bool false,.bool false]:=⟨by kernel_rfl⟩
instance:SY 134 [.slice none 0 0]:=⟨by kernel_rfl⟩
instance:SY 135 [.slice none 0 0]:=⟨by kernel_rfl⟩
instance:SY 284 []:=⟨by kernel_rfl⟩
instance:SY 285 []:=⟨by kernel_rfl⟩
instance:SY 286 []:=⟨by kernel_rfl⟩
instance:SlI 31 3 1 8:=⟨pI⟩
instance:SlI 32 9 1 16:=⟨PP⟩
instance:SlI 34 83 2 16:=⟨Hv⟩
instance:SlI 37 84 2 16:=⟨IE⟩
instance:SlI 48 65 3 24:=⟨wU⟩
instance:SlI 86 90 2 16:=⟨aH6⟩
instance:SlI 103 5 1 1:=⟨nI⟩
instance:SlI 197 199 1 16:=⟨L8⟩
instance:IkI 3 .i64:=⟨ik3⟩
instance:IkI 5 .u8:=⟨SV⟩
instance:IkI 21 .i32:=⟨aQ⟩
instance:IkI 111 .u64:=⟨aQ⟩
instance:IkI 185 .u16:=⟨aQ⟩
instance:ArI 33 4 3:=⟨aFy⟩
instance:ArI 35 3 3:=⟨ZS⟩
instance:ArI 36 9 3:=⟨aFz⟩
instance:ArI 78 5 3:=⟨aNA⟩
instance:ArI 90 2 3:=⟨aQ⟩
instance:ArI 97 9 96:=⟨aNC⟩
instance:ArI 130 3 9:=⟨aJa⟩
instance:ArI 221 8 3:=⟨aJc⟩
instance:SzI 3 1:=⟨Pr⟩
instance:SzI 5 1:=⟨sz5⟩
instance:SzI 9 1:=⟨sz9⟩
instance:SzI 65 3:=⟨ML⟩
instance:CcI 9:=⟨aQ⟩
instance:CcI 77:=⟨aQ⟩
instance:CcI 190:=⟨aQ⟩
instance:CcI 191:=⟨aQ⟩
instance:CcI 192:=⟨aQ⟩
instance:CcI 193:=⟨aQ⟩
instance:CcI 194:=⟨aQ⟩
instance:CcI 195:=⟨aQ⟩
instance:CcI 196:=⟨aQ⟩
instance:StI 9:=⟨Ok⟩
theorem Mem.rE {base:Nat} {W w:World} {x0 x1:mM} {TL:List mM} (M:Mem base W w (x0::x1::TL)):Mem base W w (x1::x0::TL):=Mem.uZ (H:=[x0,x1]) 2 rfl M [1,0] aL aL
theorem Mem.IF {base:Nat} {W w:World} {x0 x1 x2:mM} {TL:List mM} (M:Mem base W w (x0::x1::x2::TL)):Mem base W w (x1::x2::x0::TL):=Mem.uZ (H:=[x0,x1,x2]) 3 rfl M [1,2,0] aL aL
theorem Mem.Xy {base:Nat} {W w:World} {x0 x1 x2:mM} {TL:List mM} (M:Mem base W w (x0::x1::x2::TL)):Mem base W w (x2::x0::x1::TL):=Mem.uZ (H:=[x0,x1,x2]) 3 rfl M [2,0,1] aL aL
theorem Mem.MM {base:Nat} {W w:World} {x0 x1 x2 x3:mM} {TL:List mM} (M:Mem base W w (x0::x1::x2::x3::TL)):Mem base W w (x2::x3::x0::x1::TL):=Mem.uZ (H:=[x0,x1,x2,x3]) 4 rfl M [2,3,0,1] aL aL
abbrev Yu (w0:World) (g g2:Nat) (r:J3):List PanicEntry→World→Prop:=fun ch w=>ch=[{ v:=.iface 77 (.agg #[]),recovered:=false }]∧(∃cs:List Value,Mem w0.heap.size w0 w [.blk g 41 cs,.blk g2 26 [.int .i64 0]]∧cs.length=28)∧some uE=some r
abbrev lL (f:Nat) (vs:Array Value) (w:World) (post:Value→World→Prop):Prop:=Calls Tryz.prog f vs w fun e w'=>∃v,e = .returned v∧post v w'
abbrev aLC (rV:List Int) (Ec:World):Value→World→Prop:=fun v w'=>∃A0 c0,v = .slice A0 rV.length c0∧Mem Ec.heap.size Ec w' [.row 3 1 A0 rV.length c0 ((cI .i64).all rV)]
abbrev aN2 (rV:List aN) (Ec:World):Value→World→Prop:=fun v w'=>∃A0 c0,v = .slice A0 rV.length c0∧Mem Ec.heap.size Ec w' [.row 84 2 A0 rV.length c0 (jG.all rV)]
abbrev aCK (rV:qP) (Ec:World):Value→World→Prop:=fun v w'=>∃A2 c2,v = .agg #[I rV.1,I rV.2.1,.slice A2 rV.2.2.length c2]∧Mem Ec.heap.size Ec w' [.row 3 1 A2 rV.2.2.length c2 ((cI .i64).all rV.2.2)]
abbrev DQ (rV:Bool) (Ec:World):Value→World→Prop:=fun v w'=>v = .bool rV∧Mem Ec.heap.size Ec w' []
abbrev aLD (rV:gL) (Ec:World):Value→World→Prop:=fun v w'=>∃A0 c0,v = .tuple #[.slice A0 rV.1.length c0,I rV.2]∧Mem Ec.heap.size Ec w' [.row 3 1 A0 rV.1.length c0 ((cI .i64).all rV.1)]
abbrev Xz (rV:aR) (Ec:World):Value→World→Prop:=fun v w'=>v = .string (bs rV)∧Mem Ec.heap.size Ec w' []
abbrev VS (rV:lC) (Ec:World):Value→World→Prop:=fun v w'=>v = .tuple #[.string (bs rV.1),I rV.2]∧Mem Ec.heap.size Ec w' []
abbrev aIa (rV:aN) (Ec:World):Value→World→Prop:=fun v w'=>v = .tuple #[I rV.1,I rV.2]∧Mem Ec.heap.size Ec w' []
abbrev zO (rV:Int) (Ec:World):Value→World→Prop:=fun v w'=>v=I rV∧Mem Ec.heap.size Ec w' []
abbrev ZT (rV:pW) (Ec:World):Value→World→Prop:=fun v w'=>∃A2 c2,v = .tuple #[.agg #[I rV.1,I rV.2.1,.slice A2 rV.2.2.1.length c2],I rV.2.2.2]∧Mem Ec.heap.size Ec w' [.row 3 1 A2 rV.2.2.1.length c2 ((cI .i64).all rV.2.2.1)]
abbrev Ur (rV:bU) (Ec:World):Value→World→Prop:=fun v w'=>v = .agg #[I rV.1,I rV.2.1,I rV.2.2]∧Mem Ec.heap.size Ec w' []
abbrev JN (rV:yH) (Ec:World):Value→World→Prop:=fun v w'=>∃A2 c2,v = .tuple #[.agg #[I rV.1,I rV.2.1,.slice A2 rV.2.2.1.length c2],I rV.2.2.2]∧Mem Ec.heap.size Ec w' [.row 65 3 A2 rV.2.2.1.length c2 (dJ.all rV.2.2.1)]
abbrev aFB (rV:FP) (Ec:Option Addr) (xq2:List bU) (xq3:Nat) (xq4:World):Value→World→Prop:=fun v w'=>∃A2 c2,v = .tuple #[.agg #[I rV.1,I rV.2.1,.slice A2 rV.2.2.1.length c2],.agg #[I rV.2.2.2.1,I rV.2.2.2.2.1,.slice Ec xq2.length xq3],I rV.2.2.2.2.2.2]∧rV.2.2.2.2.2.1=xq2∧Mem xq4.heap.size xq4 w' [.row 3 1 A2 rV.2.2.1.length c2 ((cI .i64).all rV.2.2.1)]
abbrev aBs (rV:FP) (Ec:Option Addr) (xq2:List Int) (xq3:Nat) (xq4:World):Value→World→Prop:=fun v w'=>∃A5 c5,v = .tuple #[.agg #[I rV.1,I rV.2.1,.slice Ec xq2.length xq3],.agg #[I rV.2.2.2.1,I rV.2.2.2.2.1,.slice A5 rV.2.2.2.2.2.1.length c5],I rV.2.2.2.2.2.2]∧rV.2.2.1=xq2∧Mem xq4.heap.size xq4 w' [.row 65 3 A5 rV.2.2.2.2.2.1.length c5 (dJ.all rV.2.2.2.2.2.1)]
abbrev aJe (rV:J3) (Ec:World):Value→World→Prop:=fun v w'=>∃A5 c5 A6 c6 Yv c13 A26 c26,v = .tuple #[.agg #[I rV.1,I rV.2.1,I rV.2.2.1,I rV.2.2.2.1,I rV.2.2.2.2.1,.slice A5 rV.2.2.2.2.2.1.length c5,.slice A6 rV.2.2.2.2.2.2.1.length c6,I rV.2.2.2.2.2.2.2.1,I rV.2.2.2.2.2.2.2.2.1,I rV.2.2.2.2.2.2.2.2.2.1,I rV.2.2.2.2.2.2.2.2.2.2.1,I rV.2.2.2.2.2.2.2.2.2.2.2.1,I rV.2.2.2.2.2.2.2.2.2.2.2.2.1,.slice Yv rV.2.2.2.2.2.2.2.2.2.2.2.2.2.1.length c13,I rV.2.2.2.2.2.2.2.2.2.2.2.2.2.2.1,I rV.2.2.2.2.2.2.2.2.2.2.2.2.2.2.2.1,I rV.2.2.2.2.2.2.2.2.2.2.2.2.2.2.2.2.1,I rV.2.2.2.2.2.2.2.2.2.2.2.2.2.2.2.2.2.1,I rV.2.2.2.2.2.2.2.2.2.2.2.2.2.2.2.2.2.2.1,I rV.2.2.2.2.2.2.2.2.2.2.2.2.2.2.2.2.2.2.2.1,I rV.2.2.2.2.2.2.2.2.2.2.2.2.2.2.2.2.2.2.2.2.1,I rV.2.2.2.2.2.2.2.2.2.2.2.2.2.2.2.2.2.2.2.2.2.1,I rV.2.2.2.2.2.2.2.2.2.2.2.2.2.2.2.2.2.2.2.2.2.2.1,I rV.2.2.2.2.2.2.2.2.2.2.2.2.2.2.2.2.2.2.2.2.2.2.2.1,I rV.2.2.2.2.2.2.2.2.2.2.2.2.2.2.2.2.2.2.2.2.2.2.2.2.1,I rV.2.2.2.2.2.2.2.2.2.2.2.2.2.2.2.2.2.2.2.2.2.2.2.2.2.1,.slice A26 rV.2.2.2.2.2.2.2.2.2.2.2.2.2.2.2.2.2.2.2.2.2.2.2.2.2.2.1.length c26,I rV.2.2.2.2.2.2.2.2.2.2.2.2.2.2.2.2.2.2.2.2.2.2.2.2.2.2.2.1],I rV.2.2.2.2.2.2.2.2.2.2.2.2.2.2.2.2.2.2.2.2.2.2.2.2.2.2.2.2]∧Mem Ec.heap.size Ec w' [.row 3 1 A5 rV.2.2.2.2.2.1.length c5 ((cI .i64).all rV.2.2.2.2.2.1),.row 9 1 A6 rV.2.2.2.2.2.2.1.length c6 (cS.all rV.2.2.2.2.2.2.1),.row 83 2 Yv rV.2.2.2.2.2.2.2.2.2.2.2.2.2.1.length c13 (jG.all rV.2.2.2.2.2.2.2.2.2.2.2.2.2.1),.row 84 2 A26 rV.2.2.2.2.2.2.2.2.2.2.2.2.2.2.2.2.2.2.2.2.2.2.2.2.2.2.1.length c26 (jG.all rV.2.2.2.2.2.2.2.2.2.2.2.2.2.2.2.2.2.2.2.2.2.2.2.2.2.2.1)]
abbrev aJf (rV:World) (Ec:Nat) (xq2:List Int) (xq3:List mM):Value→World→Prop:=fun v w'=>∃A0 c0,v = .tuple #[]∧Mem rV.heap.size rV w' (.blk Ec 135 [.slice A0 xq2.length c0] :: .row 5 1 A0 xq2.length c0 ((cI .u8).all xq2)::xq3)
abbrev aJg (rV:Wh) (Ec:World):Value→World→Prop:=fun v w'=>v = .tuple #[.string (bs rV.1),.bool rV.2]∧Mem Ec.heap.size Ec w' []
abbrev aJh (rV:M5) (Ec:World):Value→World→Prop:=fun v w'=>v = .tuple #[.string (bs rV.1),.string (bs rV.2.1),.bool rV.2.2]∧Mem Ec.heap.size Ec w' []
abbrev KZ (rV:nJ) (Ec:World):Value→World→Prop:=fun v w'=>∃A2 c2,v = .agg #[I rV.1,I rV.2.1,.slice A2 rV.2.2.length c2]∧Mem Ec.heap.size Ec w' [.row 65 3 A2 rV.2.2.length c2 (dJ.all rV.2.2)]
abbrev aJi (rV:Kl) (Ec:World) (xq2:Nat) (xq3:List mM):Value→World→Prop:=fun v w'=>v=I rV.1∧Mem Ec.heap.size Ec w' (.blk xq2 115 [.string (bs rV.2.1),.bool rV.2.2]::xq3)
abbrev jL (w0 w:World) (L:List mM):Prop:=Mem w0.heap.size w0 w L
abbrev pQ (g:Nat):Value:=.pointer (some ⟨g,0,none⟩)
theorem MN {N:Nat} {w0:World} {r:List Int} (h:Dg N  = some r) :
  lL 76 #[] w0 (aLC r w0):=by
 refine gE Tryz.func76 Tryz.ntmps76 ?_;intro M;unfold Dg at h;refine aH 7 ?_;refine Za (fun _ K=>bS rfl pI z3 K (vs:=[(0,I 2),(1,I 3),(2,I 3),(3,I 4),(4,I 4),(5,I 4),(6,I 5),(7,I 5),(8,I 5),(9,I 6),(10,I 6),(11,I 6),(12,I 7),(13,I 7),(14,I 7),(15,I 8),(16,I 8)]) (cs:=[I 2,I 3,I 3,I 4,I 4,I 4,I 5,I 5,I 5,I 6,I 6,I 6,I 7,I 7,I 7,I 8,I 8]) rfl aQ rfl rfl M) ?_;rintro _ w ⟨gs,rfl,M⟩;replace M:=M.fX 0 rfl (cI .i64) ([2,3,3,4,4,4,5,5,5,6,6,6,7,7,7,8,8]:List Int) (n:=17) rfl rfl rfl;exact bP 4 M.oQ
theorem K3 {N:Nat} {w0:World} {r:List aN} (h:Bs N  = some r) :
  lL 122 #[] w0 (aN2 r w0):=by
 refine gE Tryz.func122 Tryz.ntmps122 ?_;intro M;unfold Bs at h;refine aH 8 ?_;refine jO (fun _ K=>bQ rfl K (vs:=[(0,I 65535),(1,I 65535)]) (cs:=[I 65535,I 65535]) rfl aQ) M ?_;refine Za (fun _ K=>bS rfl IE z84 K (vs:=[(0,.agg #[I 0,I 0]),(1,.agg #[I 65535,I 65535])]) (cs:=[I 0,I 0,I 65535,I 65535]) rfl aQ rfl rfl M) ?_;rintro _ w ⟨gs,rfl,M⟩;replace M:=M.fX 0 rfl jG ([(0,0),(65535,65535)]:List aN) (n:=2) rfl rfl rfl;exact bP 4 M.oQ
theorem K4 {N:Nat} {w0:World} {r:Wg} (h:Bt N  = some r) :
  lL 77 #[] w0 fun v w'=>∃A6 c6 XA c19,v = .agg #[I r.1,I r.2.1,I r.2.2.1,I r.2.2.2.1,I r.2.2.2.2.1,I r.2.2.2.2.2.1,.slice A6 r.2.2.2.2.2.2.1.length c6,I r.2.2.2.2.2.2.2.1,I r.2.2.2.2.2.2.2.2.1,I r.2.2.2.2.2.2.2.2.2.1,I r.2.2.2.2.2.2.2.2.2.2.1,I r.2.2.2.2.2.2.2.2.2.2.2.1,I r.2.2.2.2.2.2.2.2.2.2.2.2.1,I r.2.2.2.2.2.2.2.2.2.2.2.2.2.1,I r.2.2.2.2.2.2.2.2.2.2.2.2.2.2.1,I r.2.2.2.2.2.2.2.2.2.2.2.2.2.2.2.1,I r.2.2.2.2.2.2.2.2.2.2.2.2.2.2.2.2.1,I r.2.2.2.2.2.2.2.2.2.2.2.2.2.2.2.2.2.1,I r.2.2.2.2.2.2.2.2.2.2.2.2.2.2.2.2.2.2.1,.slice XA r.2.2.2.2.2.2.2.2.2.2.2.2.2.2.2.2.2.2.2.1.length c19,I r.2.2.2.2.2.2.2.2.2.2.2.2.2.2.2.2.2.2.2.2]∧jL w0 w' [.row 83 2 A6 r.2.2.2.2.2.2.1.length c6 (jG.all r.2.2.2.2.2.2.1),.row 84 2 XA r.2.2.2.2.2.2.2.2.2.2.2.2.2.2.2.2.2.2.2.1.length c19 (jG.all r.2.2.2.2.2.2.2.2.2.2.2.2.2.2.2.2.2.2.2.1)]:=by
 refine gE Tryz.func77 Tryz.ntmps77 ?_;intro M;unfold Bt at h;refine eE 2 ?_;intro jM w M;refine aH 4 ?_;refine jO (fun _ K=>bQ rfl K (vs:=[(0,I 256),(1,I 256),(2,I 256)]) (cs:=[I 256,I 256,I 256]) rfl aQ) M ?_;refine jO (fun _ K=>bQ rfl K (vs:=[(0,I 4096),(1,I 0),(2,I 0),(3,I 0),(4,I 4096),(5,I 0),(6,I 0),(7,I 0),(8,I 4096)]) (cs:=[I 4096,I 0,I 0,I 0,I 4096,I 0,I 0,I 0,I 4096]) rfl aQ) M ?_;obtain ⟨r2,cR,h⟩:=aB h;refine fP 0 (K3 cR) ?_;intro A c w M;refine jO (fun _ K=>bQ rfl K (vs:=[(2,I 65535),(4,.agg #[I 256,I 256,I 256]),(5,.agg #[I 4096,I 0,I 0,I 0,I 4096,I 0,I 0,I 0,I 4096]),(6,.slice A r2.length c),(7,I 64)]) (cs:=[I 0,I 0,I 0,I 0,I 0,I 65535,.slice none (([]:List aN)).length 0,I 256,I 256,I 256,I 4096,I 0,I 0,I 0,I 4096,I 0,I 0,I 0,I 4096,.slice A r2.length c,I 64]) rfl aQ) M ?_;refine cV 0 ?_;intro w M;exact bP 3 (((Mem.cC 83 2 jG M)).pick [0,1] aL)
theorem K5 {N:Nat} {w0:World} {r:qP} (h:Bu N  = some r) :
  lL 78 #[] w0 (aCK r w0):=by
 refine gE Tryz.func78 Tryz.ntmps78 ?_;intro M;unfold Bu at h;refine eE 2 ?_;intro jM w M;refine aH 4 ?_;refine Za (fun _ K=>bS rfl pI z3 K (vs:=[(0,I 10),(1,I 65535),(2,I 0),(3,I 7)]) (cs:=[I 10,I 65535,I 0,I 7]) rfl aQ rfl rfl M) ?_;rintro _ w ⟨gs,rfl,M⟩;replace M:=M.fX 0 rfl (cI .i64) ([10,65535,0,7]:List Int) (n:=4) rfl rfl rfl;refine jO (fun _ K=>bQ rfl K (vs:=[(0,I 2),(1,I 2),(2,.slice (some ⟨gs,0,none⟩) ([10,65535,0,7]:List Int).length 4)]) (cs:=[I 2,I 2,.slice (some ⟨gs,0,none⟩) ([10,65535,0,7]:List Int).length 4]) rfl aQ) M ?_;refine cV 0 ?_;intro w M;exact bP 3 M.oQ
section
variable {O6:Option Addr} {N RP:Nat} {w0:World}
theorem rF {s:List bU} {r:List bU} (h:j0 N s=some r) (XB:SL w0 dJ O6 s) (C_s:s.length≤RP) :
  lL 93 #[.slice O6 s.length RP] w0 fun v w'=>∃A0 c0,v = .slice A0 r.length c0∧jL w0 w' [.row 65 3 A0 r.length c0 (dJ.all r)]:=by
 refine gE Tryz.func93 Tryz.ntmps93 ?_;intro M;unfold j0 at h;refine aH 9 ?_
 by_cases hA:(O6).isNone=true
 ·have hs:=SL.Nx XB hA;replace h:some ([]:List bU)=some r:=by rw [hs] at h;exact h
  clear hs;refine jO (fun _ K=>It (b':=true) hA (Do rfl SX K rfl rfl)) M ?_;exact bP 10 (((Mem.cC 65 3 dJ M)).pick [0] aL)
 refine jO (fun _ K=>It (b':=false) ((Bool.not_eq_true _).mp hA) (Do rfl SX K rfl rfl)) M ?_;refine aH 7 ?_;refine Za (fun _ K=>Jq (C:=dJ) rfl wU rfl K M) ?_;rintro _ w ⟨gs,rfl,M⟩;obtain ⟨l2,z8,h⟩:=aB h;refine aH 1 ?_;refine Za (fun _ K=>fQ (C:=dJ) (xs:=([]:List bU)) (ys:=s) rfl wU rfl z65 rfl rfl K rfl rfl 0 M rfl ((Cc XB) _ M) z8) ?_;rintro _ w ⟨A,c,rfl,M⟩;exact bP 4 M.oQ
theorem Dv {s:List aN} {r:List aN} (h:sG N s=some r) (XB:SL w0 jG O6 s) (C_s:s.length≤RP) :
  lL 118 #[.slice O6 s.length RP] w0 fun v w'=>∃A0 c0,v = .slice A0 r.length c0∧jL w0 w' [.row 83 2 A0 r.length c0 (jG.all r)]:=by
 refine gE Tryz.func118 Tryz.ntmps118 ?_;intro M;unfold sG at h;refine aH 9 ?_
 by_cases hA:(O6).isNone=true
 ·have hs:=SL.Nx XB hA;replace h:some ([]:List aN)=some r:=by rw [hs] at h;exact h
  clear hs;refine jO (fun _ K=>It (b':=true) hA (Do rfl aLs K rfl rfl)) M ?_;exact bP 10 (((Mem.cC 83 2 jG M)).pick [0] aL)
 refine jO (fun _ K=>It (b':=false) ((Bool.not_eq_true _).mp hA) (Do rfl aLs K rfl rfl)) M ?_;refine aH 7 ?_;refine Za (fun _ K=>Jq (C:=jG) rfl Hv rfl K M) ?_;rintro _ w ⟨gs,rfl,M⟩;obtain ⟨l2,z8,h⟩:=aB h;refine aH 1 ?_;refine Za (fun _ K=>fQ (C:=jG) (xs:=([]:List aN)) (ys:=s) rfl Hv rfl z83 rfl rfl K rfl rfl 0 M rfl ((Cc XB) _ M) z8) ?_;rintro _ w ⟨A,c,rfl,M⟩;exact bP 4 M.oQ
theorem Cv {s:List aN} {r:List aN} (h:rB N s=some r) (XB:SL w0 jG O6 s) (C_s:s.length≤RP) :
  lL 119 #[.slice O6 s.length RP] w0 (aN2 r w0):=by
 refine gE Tryz.func119 Tryz.ntmps119 ?_;intro M;unfold rB at h;refine aH 9 ?_
 by_cases hA:(O6).isNone=true
 ·have hs:=SL.Nx XB hA;replace h:some ([]:List aN)=some r:=by rw [hs] at h;exact h
  clear hs;refine jO (fun _ K=>It (b':=true) hA (Do rfl aLt K rfl rfl)) M ?_;exact bP 10 (((Mem.cC 84 2 jG M)).pick [0] aL)
 refine jO (fun _ K=>It (b':=false) ((Bool.not_eq_true _).mp hA) (Do rfl aLt K rfl rfl)) M ?_;refine aH 7 ?_;refine Za (fun _ K=>Jq (C:=jG) rfl IE rfl K M) ?_;rintro _ w ⟨gs,rfl,M⟩;obtain ⟨l2,z8,h⟩:=aB h;refine aH 1 ?_;refine Za (fun _ K=>fQ (C:=jG) (xs:=([]:List aN)) (ys:=s) rfl IE rfl z84 rfl rfl K rfl rfl 0 M rfl ((Cc XB) _ M) z8) ?_;rintro _ w ⟨A,c,rfl,M⟩;exact bP 4 M.oQ
end
end
section
open Go.RowKit Go.Shelf
theorem lyQ {p:Prop} (h:p:=by constructor <;> intros <;> first|kernel_rfl|(constructor <;> intros <;> first|kernel_rfl|(constructor <;> intros <;> kernel_rfl))):p:=h
def XC:Go.Shelf.Ren:=⟨fun|160=>187|232=>204|231=>203|227=>205|234=>207|233=>206|236=>209|235=>208|228=>220|271=>223|151=>222|197=>221|120=>227|152=>226|260=>225|137=>229|119=>230|224=>196|225=>195|217=>194|266=>214|n=>n,fun|9=>9|4=>4|3=>3|5=>5|117=>258|116=>257|0=>0|124=>261|21=>21|105=>271|46=>111|119=>277|139=>280|138=>279|n=>n,fun|3=>6|4=>7|n=>n⟩
theorem aIb:Go.Proofs.Lays.n160 Tryz.prog XC:=lyQ
def XD:Go.Shelf.Ren:=⟨fun|138=>188|195=>210|218=>211|143=>160|219=>175|217=>194|225=>195|224=>196|267=>197|266=>214|314=>215|n=>n,fun|9=>9|3=>3|4=>4|5=>5|0=>0|46=>111|146=>262|51=>240|n=>n,fun|1=>1|n=>n⟩
theorem aIc:Go.Proofs.Lays.n138 Tryz.prog XD:=lyQ
def Pu:Go.Shelf.Ren:=⟨fun|169=>52|n=>n,fun|70=>102|9=>9|0=>0|72=>105|37=>103|127=>164|3=>3|5=>5|n=>n,fun|n=>n⟩
theorem aId:Go.Proofs.Lays.n169 Tryz.prog Pu:=lyQ
def XE:Go.Shelf.Ren:=⟨fun|144=>130|143=>160|219=>175|217=>194|225=>195|224=>196|267=>197|266=>214|314=>215|n=>n,fun|9=>9|4=>4|3=>3|5=>5|46=>111|146=>262|51=>240|n=>n,fun|1=>1|n=>n⟩
theorem aIe:Go.Proofs.Lays.n144 Tryz.prog XE:=lyQ
def XF:Go.Shelf.Ren:=⟨fun|219=>175|217=>194|225=>195|224=>196|267=>197|266=>214|314=>215|n=>n,fun|9=>9|3=>3|4=>4|5=>5|46=>111|146=>262|51=>240|n=>n,fun|1=>1|n=>n⟩
theorem aIf:Go.Proofs.Lays.n219 Tryz.prog XF:=lyQ
def XG:Go.Shelf.Ren:=⟨fun|171=>50|243=>98|246=>138|283=>164|284=>165|285=>166|286=>167|129=>185|317=>189|318=>190|319=>191|320=>192|337=>212|338=>213|n=>n,fun|3=>3|9=>9|2=>2|4=>4|171=>225|0=>0|53=>226|37=>103|5=>5|173=>229|212=>246|51=>240|20=>20|213=>247|46=>111|232=>274|233=>275|n=>n,fun|17=>0|18=>4|19=>5|n=>n⟩
theorem aIg:Go.Proofs.LaysM.n171 Tryz.prog XG:=lyQ
def XH:Go.Shelf.Ren:=⟨fun|172=>116|244=>150|245=>151|247=>176|279=>177|280=>178|281=>179|282=>180|287=>198|316=>199|171=>50|205=>200|321=>216|322=>217|243=>98|246=>138|283=>164|284=>165|285=>166|286=>167|129=>185|317=>189|318=>190|319=>191|320=>192|337=>212|338=>213|n=>n,fun|9=>9|3=>3|75=>107|76=>108|4=>4|5=>5|167=>232|37=>103|0=>0|85=>233|2=>2|168=>235|53=>226|175=>249|46=>111|210=>252|127=>164|145=>267|143=>265|21=>21|171=>225|173=>229|212=>246|51=>240|20=>20|213=>247|232=>274|233=>275|80=>112|n=>n,fun|15=>2|16=>3|17=>0|18=>4|19=>5|n=>n⟩
theorem VT:Go.Proofs.LaysC.n172 Tryz.prog XH:=lyQ
def K6:Go.Shelf.Ren:=⟨fun|166=>49|240=>97|276=>137|169=>52|n=>n,fun|0=>0|3=>3|4=>4|5=>5|9=>9|20=>20|37=>103|70=>102|72=>105|75=>107|80=>112|164=>202|127=>164|n=>n,fun|n=>n⟩
theorem aBt:Go.Proofs.Lays.n166 Tryz.prog K6:=lyQ
theorem HT:Builder.Extra Tryz.prog K6 where
 sizeBuilder:=aQ
 liesBuilder:=aQ
 t5:=Tryz.underlying5
 a5:=Tryz.isAgg5
 z5:=Tryz.sizeOf5
 v5:=Tryz.zeroValue5
 infoByte:=aQ
 cellsByte:=aQ
 sizeByte:=aQ
 neB5:=by decide
theorem NC:Builder.Extra Tryz.prog Pu where
 sizeBuilder:=aQ
 liesBuilder:=aQ
 t5:=Tryz.underlying5
 a5:=Tryz.isAgg5
 z5:=Tryz.sizeOf5
 v5:=Tryz.zeroValue5
 infoByte:=aQ
 cellsByte:=aQ
 sizeByte:=aQ
 neB5:=by decide
theorem Builder_String (B b:Nat) (l:aR) (w:World) (h:Lib.IsBuilder 105 5 B b (Lib.byteCells l) w) (hBw:B≤w.heap.size) :
  Calls Tryz.prog 52 #[.pointer (some ⟨b,0,none⟩)] w fun e w'=>e = .returned (.string ⟨l.toArray⟩)∧Below B w w':=Any.Builder_String_any aId NC B b l w h hBw
theorem RQ (N:Nat) (s cutset:aR) (w0:World) (r:aR) (h:AY N s cutset=some r) :
  Calls Tryz.prog 187 #[.string (bs s),.string (bs cutset)] w0 fun e w'=>∃v,e = .returned v∧v = .string (bs r)∧Mem w0.heap.size w0 w' []:=by
 unfold AY at h
 split at h
 ·rename_i hc
  cases h;obtain ⟨h1,h2,h3⟩:=hc;refine (Any.strings_Trim_laid aIb aQ (bs s) (bs cutset) w0 (by rw [yK];exact h1) (by rw [yK];exact h2) (fun j b hb=>?_)).mono ?_
  ·exact bW (List.all_eq_true.1 h3 b (List.mem_of_getElem? hb))
  ·rintro e w' ⟨rfl,hb⟩;exact ⟨_,rfl,rfl,Mem.aGn hb⟩
 ·cases h
theorem JO (N:Nat) (s substr:aR) (w0:World) (r:Int) (h:w9 N s substr=some r) :
  Calls Tryz.prog 188 #[.string (bs s),.string (bs substr)] w0 fun e w'=>∃v,e = .returned v∧v = .int .i64 r∧Mem w0.heap.size w0 w' []:=by
 unfold w9 at h
 split at h
 ·rename_i c
  cases h;refine (Any.strings_Count_one aIc (bs s) c w0).mono ?_;rintro e w' ⟨rfl,rfl⟩;exact ⟨_,rfl,rfl,Mem.start w'⟩
 ·cases h
section
variable {base:Nat} {W w:World} {L:List mM} {g c n:Nat} {A:Option Addr} {b d b2:aR}
theorem Pv (M:Mem base W w (.H0 g 105 A n c::L)) :
  Calls Tryz.prog 97 #[.pointer (some ⟨g,0,none⟩)] w fun e w'=>∃v,e = .returned v∧Mem base W w' (.blk g 105 [.pointer (some ⟨g,0,none⟩),.slice A n c]::L):=by
 obtain ⟨p,hp,hb⟩:=M.has 0 _ rfl;have hb':w.heap[g]? = some (.cells #[.pointer p,.slice A n c] 105 (0,0)):=hb;have M1:Mem base W w (.blk g 105 [.pointer p,.slice A n c]::L):=M.swap 0 rfl hb rfl
 rcases hp with rfl|rfl
 ·refine (Any.Builder_copyCheck_fresh { aBt with } HT.toX72 g w (M1.cell (i:=0) rfl (k:=0) rfl) (by simp [World.shape?,hb',K6]) (by simp [World.frozen?,hb'])).mono ?_;rintro e w' ⟨rfl,rfl⟩;exact ⟨_,rfl,M1.set 0 rfl 0 _⟩
 ·refine (Any.Builder_copyCheck_used { aBt with } HT.toX72 g w (M1.cell (i:=0) rfl (k:=0) rfl)).mono ?_;rintro e w' ⟨rfl,rfl⟩;exact ⟨_,rfl,M1⟩
theorem xM (M:Mem base W w (.H0 g 105 A b.length c :: .row 5 1 A b.length c ((cI .u8).all (rT b))::L)) (h:V5 b d=some b2) :
  Calls Tryz.prog 49 #[.pointer (some ⟨g,0,none⟩),.string (bs d)] w fun e w'=>∃v,e = .returned v∧∃A' c',Mem base W w' (.H0 g 105 A' b2.length c' :: .row 5 1 A' b2.length c' ((cI .u8).all (rT b2))::L):=by
 obtain ⟨rfl,hl⟩:=aDA h
 have happ:app 1 (rT b) (rT d)=some (rT b++rT d):=by
  unfold app;rw [aF (by rw [BT,BT];omega)]
 replace M:Mem base W w (.H0 g 105 A (rT b).length c :: .row 5 1 A (rT b).length c ((cI .u8).all (rT b))::L):=by rw [BT];exact M
 refine qC Tryz.func49 rfl Tryz.ntmps49 rfl ?_;intro a K;have K:Kn a 19 [(0,.pointer (some ⟨g,0,none⟩)),(1,.string (bs d))]:=K;refine wp_seq (Ea ?_);refine SU K M ?_;clear K;refine ZP M ?_;intro a K;refine wpList_nil (wY (wp_seq (Ea ?_)));refine SU K M ?_;clear K;intro a K;refine X_a K (oI (vs:=[.pointer (some ⟨g,0,none⟩)]) (cap:=[]) rfl aJd K rfl rfl (Pv M)) ?_;clear K M;rintro _ a w M K;refine wpList_nil (wY (wp_seq (Ea ?_)));refine SU K M ?_;clear K;refine ZP M ?_;refine ZP M ?_;refine jO (fun _ K=>E9 rfl (show SD Tryz.prog 105 1=some 1 by kernel_rfl) K rfl) M ?_;refine jO (fun _ K=>vI rfl RO K rfl (Aw 0 rfl) rfl) M ?_;refine ZP M ?_;intro a K;refine X_a K (Nz rfl nI Ok zu5 K rfl rfl 1 M rfl happ) ?_;clear K M;rintro _ a w ⟨A',c',rfl,M⟩ K;refine SU K M ?_;clear K;refine jO (fun _ K=>E9 rfl (show SD Tryz.prog 105 1=some 1 by kernel_rfl) K rfl) M ?_;intro a K;refine Pq K (Lv rfl RO K rfl rfl rfl 0 M rfl rfl) ?_;clear K M;rintro _ a w M K;refine wpList_nil (wY (wp_seq (Ea ?_)));refine SU K M ?_;clear K;refine jO (fun _ K=>aBk rfl Ok K rfl) M ?_;refine ZP M ?_;refine ZP M ?_;intro a K;refine wpList_nil (wY (wp_ret ?_));replace M:Mem base W w (.blk g 105 [.pointer (some ⟨g,0,none⟩),.slice A' (rT b++rT d).length c'] :: .row 5 1 A' (rT b++rT d).length c' ((cI .u8).all (rT b++rT d))::L):=M;have M2:Mem base W w (.H0 g 105 A' (rT b++rT d).length c' :: .row 5 1 A' (rT b++rT d).length c' ((cI .u8).all (rT b++rT d))::L):=M.aI8 0 rfl;have e:(rT b++rT d)=rT (b++d):=(List.map_append ..).symm;rw [e,BT] at M2;exact QK K rfl (jD K rfl) (jD K rfl) ⟨_,rfl,A',c',M2⟩
theorem Js (M:Mem base W w (.H0 g 105 A b.length c :: .row 5 1 A b.length c ((cI .u8).all (rT b))::L)) {y:Int} (h:bwb b y=some b2) :
  Calls Tryz.prog 51 #[.pointer (some ⟨g,0,none⟩),.int .u8 y] w fun e w'=>∃v,e = .returned v∧∃A' c',Mem base W w' (.H0 g 105 A' b2.length c' :: .row 5 1 A' b2.length c' ((cI .u8).all (rT b2))::L):=by
 obtain ⟨rfl,hl,hy0,hy1⟩:=aDB h
 have happ:app 1 (rT b) [y]=some (rT b++[y]):=by
  unfold app;rw [aF (by rw [BT];simp;omega)]
 replace M:Mem base W w (.H0 g 105 A (rT b).length c :: .row 5 1 A (rT b).length c ((cI .u8).all (rT b))::L):=by rw [BT];exact M
 refine qC Tryz.func51 rfl Tryz.ntmps51 rfl ?_;intro a K;have K:Kn a 17 [(0,.pointer (some ⟨g,0,none⟩)),(1,.int .u8 y)]:=K;refine wp_seq (Ea ?_);refine SU K M ?_;clear K;intro a K;refine wpList_nil (wY (wp_seq (Ea ?_)));refine SU K M ?_;clear K;intro a K;refine X_a K (oI (vs:=[.pointer (some ⟨g,0,none⟩)]) (cap:=[]) rfl aJd K rfl rfl (Pv M)) ?_;clear K M;rintro _ a w M K;refine wpList_nil (wY (wp_seq (Ea ?_)));refine SU K M ?_;clear K;refine ZP M ?_;refine ZP M ?_;refine jO (fun _ K=>E9 rfl (show SD Tryz.prog 105 1=some 1 by kernel_rfl) K rfl) M ?_;refine jO (fun _ K=>vI rfl RO K rfl (Aw 0 rfl) rfl) M ?_;refine ZP M ?_;intro a K;refine X_a K (bS rfl nI z5 K (vs:=[(0,.int .u8 y)]) (cs:=[.int .u8 y]) rfl aQ rfl rfl M) ?_;clear K M;rintro _ a w ⟨gs,rfl,M⟩ K;replace M:=M.fX 0 rfl (cI .u8) ([y]:List Int) (n:=1) rfl rfl rfl;refine X_a K (fQ (C:=(cI .u8)) (xs:=rT b) (ys:=([y]:List Int)) rfl nI rfl z5 rfl rfl K rfl rfl 2 M rfl ((p9 (C:=(cI .u8)) 0 rfl rfl) _ M) happ) ?_;clear K M;rintro _ a w ⟨A',c',rfl,M⟩ K;refine SU K M ?_;clear K;refine jO (fun _ K=>E9 rfl (show SD Tryz.prog 105 1=some 1 by kernel_rfl) K rfl) M ?_;intro a K;refine Pq K (Lv rfl RO K rfl rfl rfl 1 M rfl rfl) ?_;clear K M;rintro _ a w M K;refine wpList_nil (wY (wp_seq (Ea ?_)));refine SU K M ?_;clear K;intro a K;refine wpList_nil (wY (wp_ret ?_));replace M:Mem base W w (.blk g 105 [.pointer (some ⟨g,0,none⟩),.slice A' (rT b++[y]).length c'] :: .row 5 1 A' (rT b++[y]).length c' ((cI .u8).all (rT b++[y]))::L):=M.tail;have M2:Mem base W w (.H0 g 105 A' (rT b++[y]).length c' :: .row 5 1 A' (rT b++[y]).length c' ((cI .u8).all (rT b++[y]))::L):=M.aI8 0 rfl
 have e:(rT b++[y])=rT (b++[nN y.toNat]):=by
  unfold rT;rw [List.map_append]
  congr 1
  show [y]=[(((nN y.toNat).toNat:Nat):Int)];rw [UInt8.toNat_ofNat']
  congr 1
  omega
 rw [e,BT] at M2;exact D4 K rfl (jD K rfl) ⟨_,rfl,A',c',M2⟩
theorem F5 (M:Mem W.heap.size W w (.H0 g 105 A b.length c :: .row 5 1 A b.length c ((cI .u8).all (rT b))::L)) :
  Calls Tryz.prog 52 #[.pointer (some ⟨g,0,none⟩)] w fun e w'=>∃v,e = .returned v∧v = .string (bs b)∧Mem W.heap.size W w' []:=by
 refine (Builder_String W.heap.size g b w M.builder M.sz).mono ?_;rintro e w' ⟨rfl,h2⟩;exact ⟨_,rfl,rfl,Mem.aGn (M.low.trans h2)⟩
end
end
section
open Go.RowKit
section
variable {N:Nat} {n size:Int} {w0:World}
theorem Ma {r:Bool} (h:Ax N n=some r) :
  lL 124 #[I n] w0 (DQ r w0):=by
 refine gE Tryz.func124 Tryz.ntmps124 ?_;intro M;unfold Ax at h;refine kJ 10 5 h ?_ ?_
 ·intro hb h;exact bP 7 M.nQ
 intro hb h;exact bP 7 M.nQ
theorem ND {p:Prop} (h:p:=by exact eB 8 (((Mem.cC 3 1 (cI .i64) M)).pick [0] aL)):p:=h
theorem SZ {d:aR} {o p2:Int} {r:gL} (h:Cl N d o p2=some r) :
  lL 82 #[.string (bs d),I o,I p2] w0 (aLD r w0):=by
 refine gE Tryz.func82 Tryz.ntmps82 ?_;intro M;unfold Cl at h;obtain ⟨r2,cR,h⟩:=aB h;refine fP 10 (Ma cR) ?_;intro w M;refine kJ 2 15 h ?_ ?_
 ·intro hb h;exact eB 14 (((Mem.cC 3 1 (cI .i64) M)).pick [0] aL)
 intro hb h;refine cB 5 h ?_ ?_
 ·intro hb h;exact ND
 intro hb h;refine cB 9 h ?_ ?_
 ·intro hb h;exact ND
 intro hb h;refine cB 15 h ?_ ?_
 ·intro hb h;exact ND
 intro hb h;refine aH 22 ?_;replace M:=Mem.cC 3 1 (cI .i64) M;refine pM 0 0 [0,1,2,30] [] (fun ZL ZM (⟨l5,i3,i4,i5⟩:Qx) a w=>∃(A4:Option Addr) (c4:Nat),Kn a 70 ((8,.slice A4 l5.length c4)::(9,I i3)::(10,I i4)::(31,I i5)::ZL)∧jL w0 w [.row 3 1 A4 l5.length c4 ((cI .i64).all l5)]) M.oQ ?_ ?_
 ·rintro ⟨l12,i12,Na,Yo⟩ a w ⟨A11,c11,K,M⟩ h
  revert a;refine cB 9 h ?_ ?_
  ·intro hb h;exact ND
  intro hb h;exact eB 10 M.oQ
 rintro kk aA ⟨l5,i3,i4,i5⟩ a w hk1 ⟨A4,c4,K,M⟩ h;unfold vU at h;revert a;refine cB 6 h ?_ ?_
 ·intro hb h;obtain ⟨b3,_,h⟩:=aB h;obtain ⟨FX,hx,h⟩:=cL h;refine kN 21 hx ?_;obtain ⟨Sv,hx,h⟩:=cL h;refine kN 0 hx ?_;refine pM 3 2 [0,1,2,30,31] [] (fun ZL ZM (⟨l8,i8,i9⟩:JI) a w=>∃(A7:Option Addr) (c7:Nat),Kn a 70 ((8,.slice A7 l8.length c7)::(9,I i8)::(10,I i9)::ZL)∧jL w0 w [.row 3 1 A7 l8.length c7 ((cI .i64).all l8)]) M.oQ ?_ ?_
  ·rintro ⟨Qa,EV,i11⟩ a w ⟨Us,c10,K,M⟩ h
   revert a;exact iG 8 (Qa,EV,i11,aC.wrap (i5+1)) M.oQ
  rintro kk aA ⟨l8,i8,i9⟩ a w hk2 ⟨A7,c7,K,M⟩ h;unfold vT at h;revert a;refine kJ 7 46 h ?_ ?_
  ·intro hb h;refine cB 7 h ?_ ?_
   ·intro hb h;obtain ⟨Oh,hx,h⟩:=cL h;refine kN 8 hx ?_;obtain ⟨_,h0,h⟩:=aB h;have h0:=qB h0;refine aH 8 ?_;refine Za (fun _ K=>bS rfl pI z3 K (vs:=[(0,I (jN .i64 i8 Oh))]) (cs:=[I (jN .i64 i8 Oh)]) rfl aQ rfl rfl M) ?_;rintro _ w ⟨gs5,rfl,M⟩;replace M:=M.fX 0 rfl (cI .i64) ([jN .i64 i8 Oh]:List Int) (n:=1) rfl rfl rfl;obtain ⟨l10,NE,h⟩:=aB h;refine Za (fun _ K=>fQ (C:=(cI .i64)) (xs:=l8) (ys:=([jN .i64 i8 Oh]:List Int)) rfl pI rfl z3 rfl rfl K rfl rfl 1 M rfl ((p9 (C:=(cI .i64)) 0 rfl rfl) _ M) NE) ?_;rintro _ w ⟨A9,c9,rfl,M⟩;obtain ⟨_,h0,h⟩:=aB h;have h0:=qB h0;obtain ⟨YJ,hx,h⟩:=cL h;refine kN 9 hx ?_;exact iG 3 (l10,YJ,Oh) (M.pick [1] aL)
   intro hb h;exact jY 3 (hk2 (l8,i8,i9)) M.oQ
  intro hb h;exact jY 11 (hk2 (l8,i8,i9)) M.oQ
 intro hb h;exact jY 3 (hk1 (l5,i3,i4,i5)) M.oQ
theorem Mb {r:aR} (h:xU N n size=some r) :
  lL 157 #[I n,I size] w0 (Xz r w0):=by
 refine gE Tryz.func157 Tryz.ntmps157 ?_;intro M;unfold xU at h;obtain ⟨l2,z8,h⟩:=aB h;refine aH 8 ?_;refine Za (fun _ K=>sJ (C:=(cI .u8)) (z:=0) rfl nI rfl z5 rfl K rfl rfl M z8) ?_;rintro _ w ⟨A,c,rfl,M⟩;refine pM 12 0 [0,1] [] (fun ZL ZM (⟨l3,i,i2⟩:JI) a w=>Kn a 28 ((5,.slice A l3.length c)::(10,I i)::(11,I i2)::ZL)∧jL w0 w [.row 5 1 A l3.length c ((cI .u8).all l3)]) M.oQ ?_ ?_
 ·rintro ⟨l6,i3,i4⟩ a w ⟨K,M⟩ h
  revert a;refine aH 5 ?_;refine jO (fun _ K=>zF rfl nI SV Ok K rfl (p9 (C:=(cI .u8)) 0 rfl rfl)) M ?_;exact bP 4 M.nQ
 rintro kk aA ⟨l3,i,i2⟩ a w hk1 ⟨K,M⟩ h;unfold vV at h;revert a;refine cB 6 h ?_ ?_
 ·intro hb h;obtain ⟨_,h0,h⟩:=aB h;have h0:=qB h0;refine aH 20 ?_;obtain ⟨b2,_,h⟩:=aB h;refine aH 1 ?_;obtain ⟨e2,_,h⟩:=aB h;refine aH 1 ?_;obtain ⟨l5,B9,h⟩:=aB h;refine Zb (fun _ K=>gD (el:=(b2.toNat:Int)) rfl sz5 rfl rfl K rfl rfl rfl 0 M rfl B9) ?_;intro _ w M;have hl:=jI B9;intro a K;try rw [hl] at M
  try rw [hl] at K
  clear hl;revert a;exact iG 8 (l5,i,aC.wrap (i2+1)) M.oQ
 intro hb h;exact jY 3 (hk1 (l3,i,i2)) M.oQ
theorem Cw {r:lC} (h:tQ N n size=some r) :
  lL 155 #[I n,I size] w0 (VS r w0):=by
 refine gE Tryz.func155 Tryz.ntmps155 ?_;intro M;unfold tQ at h;refine kJ 12 8 h ?_ ?_
 ·intro hb h;exact eB 24 M.nQ
 intro hb h;refine kJ 4 12 h ?_ ?_
 ·intro hb h;exact eB 20 M.nQ
 intro hb h;refine kJ 4 16 h ?_ ?_
 ·intro hb h;exact eB 16 M.nQ
 intro hb h;obtain ⟨_,h0,h⟩:=aB h;have h0:=qB h0;refine cB 7 h ?_ ?_
 ·intro hb h;exact eB 8 M.nQ
 intro hb h;refine aH 6 ?_;obtain ⟨r2,cR,h⟩:=aB h;refine fP 0 (Mb cR) ?_;intro w M;exact eB 5 M.nQ
theorem RT {b:aR} {r:Bool} (h:Ew N b=some r) :
  lL 159 #[.string (bs b)] w0 (DQ r w0):=by
 refine gE Tryz.func159 Tryz.ntmps159 ?_;intro M;unfold Ew at h;obtain ⟨r2,cR,h⟩:=aB h;refine fP 8 (RQ N b ([48,49]:aR) _  r2 cR) ?_;intro w M;refine kJ 2 6 h ?_ ?_
 ·intro hb h;obtain ⟨r3,gP,h⟩:=aB h;refine fP 1 (JO N b ([48]:aR) _  r3 gP) ?_;intro w M;obtain ⟨r4,lJ,h⟩:=aB h;refine fP 1 (JO N b ([49]:aR) _  r4 lJ) ?_;intro w M;exact bP 9 M.nQ
 intro hb h;exact bP 13 M.nQ
theorem NF {b:aR} {r:lC} (h:BN N b=some r) :
  lL 156 #[.string (bs b)] w0 (VS r w0):=by
 refine gE Tryz.func156 Tryz.ntmps156 ?_;intro M;unfold BN at h;obtain ⟨r2,cR,h⟩:=aB h;refine fP 10 (RT cR) ?_;intro w M;refine cB 3 h ?_ ?_
 ·intro hb h;exact eB 8 M.nQ
 intro hb h;obtain ⟨x2,hx,h⟩:=cL h;refine aH 7 ?_;refine jO (fun _ K=>V4 hx (QC rfl K rfl rfl aL)) M ?_;obtain ⟨l2,z8,h⟩:=aB h;refine Za (fun _ K=>sJ (C:=(cI .u8)) (z:=0) rfl nI rfl z5 rfl K rfl rfl M z8) ?_;rintro _ w ⟨A,c,rfl,M⟩;refine pM 12 0 [0,15] [] (fun ZL ZM (⟨l3,i⟩:gL) a w=>Kn a 37 ((4,.slice A l3.length c)::(16,I i)::ZL)∧jL w0 w [.row 5 1 A l3.length c ((cI .u8).all l3)]) M.oQ ?_ ?_
 ·rintro ⟨l6,i2⟩ a w ⟨K,M⟩ h
  revert a;refine aH 5 ?_;refine jO (fun _ K=>zF rfl nI SV Ok K rfl (p9 (C:=(cI .u8)) 0 rfl rfl)) M ?_;exact eB 5 M.nQ
 rintro kk aA ⟨l3,i⟩ a w hk1 ⟨K,M⟩ h;unfold xD at h;revert a;refine cB 6 h ?_ ?_
 ·intro hb h;refine aH 10 ?_;intro a K;refine aK (fun w=>Mem _ _ w _) [0,0,0,0,0,0,0,0,0,0,0,0,0,0,0,2] aQ aQ M.drew ?_;replace M:=M.drew;revert a;obtain ⟨x4,hx,h⟩:=cL h;refine aH 2 ?_;refine G4 (fun _ K=>V4 hx (QC rfl K rfl rfl aL)) ?_;obtain ⟨e3,_,h⟩:=aB h;refine aH 4 ?_;obtain ⟨b3,_,h⟩:=aB h;refine aH 5 ?_;obtain ⟨_,h0,h⟩:=aB h;have h0:=qB h0;refine aH 2 ?_;obtain ⟨e4,_,h⟩:=aB h;refine aH 1 ?_;obtain ⟨l5,B9,h⟩:=aB h;refine z7 (fun _ K=>gD (el:=Ir .u8 e3 (qF .u8 (iH.wrap ((b3.toNat:Int)-48)) (aC.wrap (7-(mN i 8))))) rfl sz5 rfl rfl K rfl rfl rfl 0 M rfl B9) ?_;intro _ w M;have hl:=jI B9;intro a K;try rw [hl] at M
  try rw [hl] at K
  clear hl;revert a;exact iG 8 (l5,aC.wrap (i+1)) M.oQ
 intro hb h;exact jY 3 (hk1 (l3,i)) M.oQ
theorem Pw {s:aR} {r:aR} (h:Bc N s=some r) :
  lL 126 #[.string (bs s)] w0 (Xz r w0):=by
 refine gE Tryz.func126 Tryz.ntmps126 ?_;intro M;unfold Bc at h;refine aH 7 ?_;refine Za (fun _ K=>Kt rfl (show mR Tryz.prog 105=some [.pointer none,.slice none 0 0] by kernel_rfl) M) ?_;rintro _ w ⟨g_b,rfl,M⟩;replace M:=Mem.aFt 5 M;refine pM 9 0 [0,3] [] (fun ZL ZM (⟨l2,i⟩:lC) a w=>∃(A:Option Addr) (c:Nat),Kn a 18 ((4,I i)::ZL)∧jL w0 w [.row 5 1 A l2.length c ((cI .u8).all (rT l2)),.H0 g_b 105 A l2.length c]) (M.pick [0,1] aL) ?_ ?_
 ·rintro ⟨l3,i4⟩ a w ⟨A4,c4,K,M⟩ h
  revert a;refine aH 4 ?_;refine Za (fun _ K=>oI (vs:=[pQ g_b]) (cap:=[]) rfl (B8 52 aQ) K rfl rfl (F5 (show Mem _ _ _ [.H0 g_b 105 A4 l3.length c4,.row 5 1 A4 l3.length c4 ((cI .u8).all (rT l3))] from M.pick [1,0] aL))) ?_;rintro _ w ⟨rfl,M⟩;exact bP 4 M.nQ
 rintro kk aA ⟨l2,i⟩ a w hk1 ⟨A,c,K,M⟩ h;unfold yU at h;revert a;refine cB 9 h ?_ ?_
 ·intro hb h;obtain ⟨b3,_,h⟩:=aB h;refine aH 9 ?_;obtain ⟨r3,gP,h⟩:=aB h;refine fP 0 (Mb gP) ?_;intro w M;obtain ⟨b4,aPK,h⟩:=aB h;refine Za (fun _ K=>oI (vs:=[pQ g_b,.string (bs r3)]) (cap:=[]) rfl (B8 49 aQ) K rfl rfl (xM (show Mem _ _ _ [.H0 g_b 105 A l2.length c,.row 5 1 A l2.length c ((cI .u8).all (rT l2))] from M.pick [1,0] aL) aPK)) ?_;rintro _ w ⟨A3,c3,M⟩;obtain ⟨i3,hx,h⟩:=cL h;refine kN 6 hx ?_;exact iG 2 (b4,i3) (M.pick [1,0] aL)
 intro hb h;exact jY 3 (hk1 (l2,i)) (M.pick [0,1] aL)
theorem VU {b:aR} {r:aN} (h:DE N b=some r) :
  lL 128 #[.string (bs b)] w0 (aIa r w0):=by
 refine gE Tryz.func128 Tryz.ntmps128 ?_;intro M;unfold DE at h;obtain ⟨r2,cR,h⟩:=aB h;refine fP 10 (RT cR) ?_;intro w M;refine cB 3 h ?_ ?_
 ·intro hb h;exact eB 8 M.nQ
 intro hb h;refine cB 10 h ?_ ?_
 ·intro hb h;exact eB 8 M.nQ
 intro hb h;refine pM 16 0 [0,13] [] (fun ZL ZM (⟨n,i⟩:aN) a w=>Kn a 27 ((4,I n)::(14,I i)::ZL)∧jL w0 w []) M.nQ ?_ ?_
 ·rintro ⟨n4,i2⟩ a w ⟨K,M⟩ h
  revert a;exact eB 10 M.nQ
 rintro kk aA ⟨n,i⟩ a w hk1 ⟨K,M⟩ h;unfold xE at h;revert a;refine cB 6 h ?_ ?_
 ·intro hb h;obtain ⟨b3,_,h⟩:=aB h;obtain ⟨n3,hx,h⟩:=cL h;refine kN 19 hx ?_;exact iG 8 (n3,aC.wrap (i+1)) M.nQ
 intro hb h;exact jY 3 (hk1 (n,i)) M.nQ
theorem XI {d:List Int} {A_d:Option Addr} {c_d:Nat} {o:Int} {r:lC} (h:KD N d o=some r) (R_d:SL w0 (cI .i64) A_d d) (C_d:d.length≤c_d) :
  lL 120 #[.slice A_d d.length c_d,I o] w0 (VS r w0):=by
 refine gE Tryz.func120 Tryz.ntmps120 ?_;intro M;unfold KD at h;obtain ⟨r2,cR,h⟩:=aB h;refine fP 10 (Ma cR) ?_;intro w M;refine cB 3 h ?_ ?_
 ·intro hb h;exact eB 8 M.nQ
 intro hb h;refine cB 10 h ?_ ?_
 ·intro hb h;exact eB 8 M.nQ
 intro hb h;obtain ⟨_,h0,h⟩:=aB h;refine aH 10 ?_;have h0:=Qz h0;refine Za (fun _ K=>QJ (C:=(cI .u8)) rfl nI rfl (by rw [z5];rfl) rfl K rfl rfl M h0) ?_;rintro _ w ⟨A,c,rfl,M⟩;refine pM 18 0 [1,24,25] [] (fun ZL ZM (⟨l2,i,i2,i3⟩:Qx) a w=>∃(A2:Option Addr) (c2:Nat),Kn a 75 ((6,.slice A2 l2.length c2)::(7,I i)::(8,I i2)::(26,I i3)::ZL)∧jL w0 w [.row 5 1 A2 l2.length c2 ((cI .u8).all l2)]) M.oQ ?_ ?_
 ·rintro ⟨l9,i7,i8,i9⟩ a w ⟨A9,c9,K,M⟩ h
  revert a;refine cB 9 h ?_ ?_
  ·intro hb h;obtain ⟨_,h0,h⟩:=aB h;have h0:=qB h0;refine aH 7 ?_;refine Za (fun _ K=>bS rfl nI z5 K (vs:=[(0,.int .u8 (iH.wrap (qF .i64 i7 (aC.wrap (8-i8)))))]) (cs:=[.int .u8 (iH.wrap (qF .i64 i7 (aC.wrap (8-i8))))]) rfl aQ rfl rfl M) ?_;rintro _ w ⟨gs4,rfl,M⟩;replace M:=M.fX 0 rfl (cI .u8) ([iH.wrap (qF .i64 i7 (aC.wrap (8-i8)))]:List Int) (n:=1) rfl rfl rfl;obtain ⟨l10,NE,h⟩:=aB h;refine Za (fun _ K=>fQ (C:=(cI .u8)) (xs:=l9) (ys:=([iH.wrap (qF .i64 i7 (aC.wrap (8-i8)))]:List Int)) rfl nI rfl z5 rfl rfl K rfl rfl 1 M rfl ((p9 (C:=(cI .u8)) 0 rfl rfl) _ M) NE) ?_;rintro _ w ⟨Us,c10,rfl,M⟩;refine aH 6 ?_;refine jO (fun _ K=>zF rfl nI SV Ok K rfl (p9 (C:=(cI .u8)) 1 rfl rfl)) M ?_;exact eB 5 M.nQ
  intro hb h;refine aH 5 ?_;refine jO (fun _ K=>zF rfl nI SV Ok K rfl (p9 (C:=(cI .u8)) 0 rfl rfl)) M ?_;exact eB 5 M.nQ
 rintro kk aA ⟨l2,i,i2,i3⟩ a w hk1 ⟨A2,c2,K,M⟩ h;unfold GS at h;revert a;refine cB 6 h ?_ ?_
 ·intro hb h;obtain ⟨e2,_,h⟩:=aB h;refine kJ 17 32 h ?_ ?_
  ·intro hb h;exact eB 21 M.nQ
  intro hb h;refine aH 2 ?_;obtain ⟨_,h0,h⟩:=aB h;have h0:=qB h0;refine cB 5 h ?_ ?_
  ·intro hb h;exact eB 13 M.nQ
  intro hb h;refine aH 6 ?_;obtain ⟨_,h0,h⟩:=aB h;have h0:=qB h0;obtain ⟨x6,hx,h⟩:=cL h;refine kN 6 hx ?_;obtain ⟨x7,hx,h⟩:=cL h;refine kN 0 hx ?_;refine pM 4 2 [1,7,24,25,26,33,34,35,36] [] (fun ZL ZM (⟨l5,i5⟩:gL) a w=>∃(A5:Option Addr) (c5:Nat),Kn a 75 ((6,.slice A5 l5.length c5)::(8,I i5)::ZL)∧jL w0 w [.row 5 1 A5 l5.length c5 ((cI .u8).all l5)]) M.oQ ?_ ?_
  ·rintro ⟨l8,i6⟩ a w ⟨A8,c8,K,M⟩ h
   revert a;obtain ⟨_,h0,h⟩:=aB h;have h0:=qB h0;obtain ⟨x10,hx,h⟩:=cL h;refine kN 8 hx ?_;exact iG 8 (l8,x10,i6,aC.wrap (i3+1)) M.oQ
  rintro kk aA ⟨l5,i5⟩ a w hk2 ⟨A5,c5,K,M⟩ h;unfold GR at h;revert a;refine cB 7 h ?_ ?_
  ·intro hb h;obtain ⟨x9,hx,h⟩:=cL h;refine kN 7 hx ?_;obtain ⟨_,h0,h⟩:=aB h;have h0:=qB h0;refine aH 8 ?_;refine Za (fun _ K=>bS rfl nI z5 K (vs:=[(0,.int .u8 (iH.wrap (jN .i64 x6 x9)))]) (cs:=[.int .u8 (iH.wrap (jN .i64 x6 x9))]) rfl aQ rfl rfl M) ?_;rintro _ w ⟨gs3,rfl,M⟩;replace M:=M.fX 0 rfl (cI .u8) ([iH.wrap (jN .i64 x6 x9)]:List Int) (n:=1) rfl rfl rfl;obtain ⟨l7,Ao,h⟩:=aB h;refine Za (fun _ K=>fQ (C:=(cI .u8)) (xs:=l5) (ys:=([iH.wrap (jN .i64 x6 x9)]:List Int)) rfl nI rfl z5 rfl rfl K rfl rfl 1 M rfl ((p9 (C:=(cI .u8)) 0 rfl rfl) _ M) Ao) ?_;rintro _ w ⟨A7,c7,rfl,M⟩;exact iG 4 (l7,x9) (M.pick [1] aL)
  intro hb h;exact jY 3 (hk2 (l5,i5)) M.oQ
 intro hb h;exact jY 3 (hk1 (l2,i,i2,i3)) M.oQ
end
section
variable {N:Nat} {w0:World}
theorem JP {x2:Int} {r:Bool} (h:Aj N x2=some r) :
  lL 202 #[I x2] w0 (DQ r w0):=by
 refine gE Tryz.func202 Tryz.ntmps202 ?_;intro M;unfold Aj at h;exact bP 14 M.nQ
theorem NG {x2 y:Int} {r:Int} (h:AH N x2 y=some r) :
  lL 183 #[I x2,I y] w0 (zO r w0):=by
 refine gE Tryz.func183 Tryz.ntmps183 ?_;intro M;unfold AH at h;obtain ⟨r2,cR,h⟩:=aB h;refine fP 8 (JP cR) ?_;intro w M;obtain ⟨r3,gP,h⟩:=aB h;refine fP 6 (JP gP) ?_;intro w M;refine cB 9 h ?_ ?_
 ·intro hb h;refine cB 6 h ?_ ?_
  ·intro hb h;exact bP 8 M.nQ
  intro hb h;exact bP 9 M.nQ
 intro hb h;refine cB 8 h ?_ ?_
 ·intro hb h;exact bP 7 M.nQ
 intro hb h;refine cB 10 h ?_ ?_
 ·intro hb h;exact bP 7 M.nQ
 intro hb h;refine cB 10 h ?_ ?_
 ·intro hb h;exact bP 7 M.nQ
 intro hb h;exact bP 8 M.nQ
end
end
end Go.Proofs.YtpmnfhifmmfgladGreatDoor
