/- Texts of the claim ShotAlike, joined and made small by a program. -/
import Derived.Scope
import Derived.Shelf.Strconv.ErrVarAll
import Derived.Shelf.Strconv.Itoa3
import Derived.Shelf.Strings.Builder1
import Derived.Shelf.Strings.Count
import Derived.Shelf.Strings.Search2
import Derived.Shelf.Strings.Search3
import Derived.Shelf.Strings.SlTrimAscii
import Derived.Stop.IfaceNil
import Derived.Test.YtpmnfhifmmfglabGreatDoorChecked
import Derived.Test.YtpmnfhifmmfglabGreatDoorProg
import Derived.Test.YtpmnfhifmmfglabGreatDoorShotAlikeK4
import Derived.Test.YtpmnfhifmmfglabGreatDoorShotAlikeK5
import Derived.Test.YtpmnfhifmmfglabGreatDoorShotAlikeK8
set_option linter.unusedVariables false
set_option linter.unusedSimpArgs false
set_option linter.unusedSectionVars false
set_option maxRecDepth 100000
set_option maxHeartbeats 8000000
namespace Go.Proofs.YtpmnfhifmmfglabGreatDoor
section
open Go.RowKit
section
variable {P:Program} {ops:Array Oper} {Q O:Exit→Act→World→Prop} {S:World→Prop} {pC need:Nat→Bool} {R:Act→World→Prop}
theorem Ph (hL:¬LetsOut O) {j:Nat} {oi oj:Oper} {v:Value} (hj:ops[j]? = some oj) (hap:oi.apart ops oj=true) (hO:∀e a v w,O e (a.put oi.dst v) w→O e a w)
  (hsi:∀cs b,oi.op≠.select cs b) (hsj:∀cs b,oj.op≠.select cs b) {K:Act→World→Prop} {a:Act} {w:World}
  (hy:uI P ops S oi v a) (h:wpOp P ops O j K (a.put oi.dst v) w) :
  wpOp P ops O j (fun a' w'=>uI P ops S oi v a'∧K (a'.put oi.dst v) w') a w:=by
 obtain ⟨h1,h2,h3⟩:=Oper.apart_spec hap
 have keep:∀(a:Act),uI P ops S oi v a→∀u,uI P ops S oi v (a.put oj.dst u):=fun a hy u=>
  hy.same (execOp_put oi hsi a oj.dst u h3) (wanted_put oi a oj.dst u h3)
 have keepD:∀d,uI P ops S oi v { a with defers:=d::a.defers }:=fun d=>hy.same rfl rfl
 unfold wpOp at *;simp only [hj] at *;rw [wanted_put oj a oi.dst v h1] at h
 split
 ·rename_i hw
  simp only [hw,if_true] at h
  rcases h with h | ⟨_,hl⟩
  case inr=>exact absurd hl hL
  refine .inl ?_;unfold Oper.wp at *;rw [execOp_put oj hsj a oi.dst v h1] at h
  generalize (execOp a.eval oj).run P w=r at *
  cases r with
  | ok n w'=>
   cases n <;> simp only [Oper.upon] at h ⊢
   case value u=>exact ⟨keep a hy u,by rw [←Act.put_comm a v u h2];exact h⟩
   case skip=>exact ⟨keep a hy _,by rw [←Act.put_comm a v undef h2];exact h⟩
   case defer d=>
    refine ⟨keep _ (keepD d) _,?_⟩;rw [←Act.put_comm _ v undef h2,←Act.put_defers];exact h
   case enter f args=>
    refine Calls.mono h fun e w'' he=>?_
    cases e with
    | returned u=>exact ⟨keep a hy u,by rw [←Act.put_comm a v u h2];exact he⟩
    | panicked c=>exact hO _ _ _ _ he
    | outgrown=>exact absurd he hL
   case row row args=>exact Rows.mono h fun u w'' he=>⟨keep a hy u,by rw [←Act.put_comm a v u h2];exact he⟩
  | halt x w'=>cases x <;> simp only [Oper.upon] at h ⊢;exact hO _ _ _ _ h
 ·rename_i hw
  simp only [hw] at h;exact ⟨keep a hy _,by rw [←Act.put_comm a v undef h2];exact h⟩
theorem Uz (hL:¬LetsOut O) (hQ:∀e a w,O e a w→Q e a w) {i:Nat} {K:Act→World→Prop} {a:Act} {w:World} (h:wpOp P ops O i K a w):wpOp P ops Q i K a w:=by
  unfold wpOp at *
  split
  · rename_i h0
    simp only [h0] at h
    exact h
  · rename_i o ho
    simp only [ho] at h
    split
    · rename_i hw
      rw [if_pos hw] at h
      rcases h with h | ⟨_,hl⟩
      case inr=>exact absurd hl hL
      refine .inl ?_
      unfold Oper.wp at *
      generalize (execOp a.eval o).run P w=r at *
      cases r with
      | ok n w'=>
        cases n <;> simp only [Oper.upon] at h ⊢ <;> first
          | exact h
          | (refine Calls.mono h fun e w'' he=>?_
             cases e with
             | returned u=>exact he
             | panicked c=>exact hQ _ _ _ he
             | outgrown=>exact absurd he hL)
      | halt x w'=>cases x <;> simp only [Oper.upon] at h ⊢;exact hQ _ _ _ h
    · rename_i hw
      rw [if_neg hw] at h
      exact h
theorem WV (hL:¬LetsOut O) (hO:∀(i:Nat) (o:Oper),ops[i]? = some o→∀e a v w,O e (a.put o.dst v) w→O e a w) {c:Nat} {oc:Oper} (hc:ops[c]? = some oc) (hrc:pC c=false) (hsel:∀(j:Nat) (o:Oper) cs b,ops[j]? = some o→o.op≠.select cs b)
  (xZ:∀j k oj ok,j≠k→ops[j]? = some oj→ops[k]? = some ok→waits ops j k=false→waits ops k j=false→(pC j=true→oj.apart ops ok=true)) :
  ∀(n:Nat) (rem:List Nat) (a:Act) (w:World),c∈rem→MB ops rem c=true→wU P O ops S pC need R (n+1) rem a w→wpOp P ops O c (fun a' w'=>(need c=true→S w')∧wU P O ops S pC need R n (rem.erase c) a' w') a w:=by
 intro n
 induction n with
 | zero=>
  intro rem a w hcm hrd h
  rcases h with ⟨i0,hi0,hr0,hd0,o0,ho0,u,hu,h⟩ | ⟨_,h⟩
  ·obtain ⟨hnil,hR⟩:=h;have e:i0≠c:=fun e=>by subst e;rw [hrc] at hr0;cases hr0
   have:c∈rem.erase i0:=(List.mem_erase_of_ne (fun h=>e h.symm)).2 hcm;rw [hnil] at this;cases this
  ·exact h c hcm hrc hrd
 | succ n ih=>
  intro rem a w hcm hrd h
  rcases h with ⟨i0,hi0,hr0,hd0,o0,ho0,u,hu,h⟩ | ⟨_,h⟩
  ·have e:i0≠c:=fun e=>by subst e;rw [hrc] at hr0;cases hr0
   have hcm':c∈rem.erase i0:=(List.mem_erase_of_ne (fun h=>e h.symm)).2 hcm;have h2:=ih _ _ _ hcm' (Cs hrd) h;have w1:=yF hrd hi0;have w2:=yF hd0 hcm;have ap:=xZ i0 c o0 oc e ho0 hc w2 w1 hr0;have h3:=Ph hL hc ap (hO i0 o0 ho0) (fun cs b=>hsel i0 o0 cs b ho0) (fun cs b=>hsel c oc cs b hc) hu h2;refine wpOp_mono ?_ h3;rintro a' w' ⟨hy,hn,hk⟩;refine ⟨hn,.inl ⟨i0,(List.mem_erase_of_ne e).2 hi0,hr0,Cs hd0,o0,ho0,u,hy,?_⟩⟩;rw [List.erase_comm];exact hk
  ·exact h c hcm hrc hrd
theorem NK (hL:¬LetsOut O) (hO:∀(i:Nat) (o:Oper),ops[i]? = some o→∀e a v w,O e (a.put o.dst v) w→O e a w) (hQ:∀e a w,O e a w→Q e a w) (hok:Pd ops pC need=true):∀(fuel:Nat) (listed:Array Bool) (a:Act) (w:World),listed.size=ops.size→Closed ops listed→(jF ops listed).length=fuel →
  (∀r∈jF ops listed,pC r=true→S w)→wU P O ops S pC need (Q .normal) fuel (jF ops listed) a w→wpAny P .any ops Q fuel listed a w:=by
 simp only [Pd,Bool.and_eq_true] at hok;obtain ⟨⟨⟨Oh,hback⟩,Ro⟩,Oi⟩:=hok;have hsel:=Region.noSelect_spec Oh;have hp:∀i<ops.size,∀j<i,GN ops pC i j=true:=fun i hi j hj=>List.all_eq_true.1 (List.all_eq_true.1 Ro i (List.mem_range.2 hi)) j (List.mem_range.2 hj)
 have xZ:∀j k oj ok,j≠k→ops[j]? = some oj→ops[k]? = some ok→waits ops j k=false→waits ops k j=false→(pC j=true→oj.apart ops ok=true):=by
  intro j k oj ok hjk hj hk w1 w2 hr;have hjl:=(Array.getElem?_eq_some_iff.1 hj).1;have hkl:=(Array.getElem?_eq_some_iff.1 hk).1
  rcases Nat.lt_or_gt_of_ne hjk with hlt | hlt
  ·have h:=hp k hkl j hlt;unfold GN at h;simp only [hj,hk,w2,Bool.false_or,Bool.and_eq_true,Bool.or_eq_true,Bool.not_eq_true'] at h
   rcases h.2 with h0 | h0
   ·rw [hr] at h0;cases h0
   ·exact h0
  ·have h:=hp j hjl k hlt;unfold GN at h;simp only [hj,hk,w1,Bool.false_or,Bool.and_eq_true,Bool.or_eq_true,Bool.not_eq_true'] at h
   rcases h.1 with h0 | h0
   ·rw [hr] at h0;cases h0
   ·exact h0
 have hbk:∀i o,ops[i]? = some o→∀e∈o.after,Region.binds .any e=true→e.on<i:=fun i o ho e he hb=>by
  have hi:i<ops.size:=(Array.getElem?_eq_some_iff.1 ho).1;have h:=List.all_eq_true.1 hback i (List.mem_range.2 hi);simp only [ho] at h;have h2:=Array.all_eq_true_iff_forall_mem.1 h e he
  simpa [hb] using h2
 have hnd:∀i<ops.size,pC i=false→∀r<ops.size,pC r=true→waits ops i r=false→need i=true:=fun i hi Ff r hr hrr hw=>by
  have h:=List.all_eq_true.1 Oi i (List.mem_range.2 hi);simp only [Ff,Bool.false_or,Bool.or_eq_true,Bool.not_eq_true'] at h;refine h.resolve_right fun h0=>?_
  have:J9 ops pC i=true:=by
   refine List.any_eq_true.2 ⟨r,List.mem_range.2 hr,?_⟩;have:r≠i:=fun e=>by subst e;rw [Ff] at hrr;cases hrr
   simp [hrr,hw,this]
  rw [this] at h0;cases h0
 intro fuel
 induction fuel with
 | zero=>
  intro listed a w hs hc hlen _ h;have hnil:jF ops listed=[]:=List.eq_nil_of_length_eq_zero hlen;obtain ⟨_,h⟩:=h;refine ⟨?_,h⟩;refine List.eq_nil_iff_forall_not_mem.2 fun i hi=>?_
  obtain ⟨h0,o,ho,_⟩:=mem_ready.1 hi;have:i∈jF ops listed:=lS.2 ⟨(Array.getElem?_eq_some_iff.1 ho).1,h0⟩;rw [hnil] at this;cases this
 | succ fuel ih=>
  intro listed a w hs hc hlen hS h;refine ⟨fun h0=>?_,fun i hi=>?_⟩
  ·exfalso
   match hr:jF ops listed,hlen with
   | i0::rest,_=>
    have hm0:i0∈jF ops listed:=by rw [hr];exact List.mem_cons_self ..
    obtain ⟨hlt,hun⟩:=lS.1 hm0;have Dw:=vI (ops:=ops) listed;rw [hr,List.pairwise_cons] at Dw
    have:i0∈Region.ready .any ops listed:=by
     refine mem_ready.2 ⟨hun,ops[i0],Array.getElem?_eq_getElem hlt,fun e he hb=>?_⟩;have hlt2:=hbk i0 _ (Array.getElem?_eq_getElem hlt) e he hb;cases hl:listed.getD e.on false with
     | true=>rfl
     | false=>
      have hm:e.on∈jF ops listed:=lS.2 ⟨by omega,by rw [Co (by omega)];exact hl⟩;rw [hr] at hm
      rcases List.mem_cons.1 hm with hm | hm
      ·omega
      ·have:=Dw.1 _ hm;omega
    rw [h0] at this;cases this
  ·obtain ⟨hun,oi,hoi,hall⟩:=mem_ready.1 hi;have hilt:i<ops.size:=(Array.getElem?_eq_some_iff.1 hoi).1;have him:i∈jF ops listed:=lS.2 ⟨hilt,hun⟩;have Rq:(jF ops listed).Nodup:=(vI (ops:=ops) listed).imp fun h=>Nat.ne_of_lt h
   have Dx:jF ops (listed.setIfInBounds i true)=(jF ops listed).erase i:=by rw [IF hs hilt,EP Rq]
   have hlen':(jF ops (listed.setIfInBounds i true)).length=fuel:=by
    rw [Dx,List.length_erase_of_mem him];omega
   have hs':(listed.setIfInBounds i true).size=ops.size:=by simpa using hs
   have hc':Closed ops (listed.setIfInBounds i true):=by
    intro k hk j hj
    by_cases hik:i=k
    ·subst hik;exact getD_set_true (uM hi hj)
    ·rw [getD_set_ne false hik] at hk;exact getD_set_true (hc k hk j hj)
   have hrd:MB ops (jF ops listed) i=true:=by
    unfold MB;rw [List.all_eq_true];intro j hj;obtain ⟨h1,h2⟩:=lS.1 hj;cases hw:waits ops i j with
    | false=>rfl
    | true=>
     have:=uM hi hw;rw [←Co (by omega),h2] at this;cases this
   cases Ff:pC i with
   | true=>
    have hSw:S w:=hS i him Ff;obtain ⟨v,hv,hrest⟩:=S3 hoi Ff hsel xZ fuel _ a w him hrd h;refine hv.run hoi hSw (ih _ _ _ hs' hc' hlen' (fun _ _ _=>hSw) (by rw [Dx];exact hrest))
   | false=>
    have h2:=WV hL hO hoi Ff hsel xZ fuel _ a w him hrd h;refine Uz hL hQ (wpOp_mono ?_ h2);rintro a' w' ⟨hn,hk⟩;refine ih _ _ _ hs' hc' hlen' ?_ (by rw [Dx];exact hk);intro r hr hrr;rw [Dx] at hr;have hrm:=List.mem_of_mem_erase hr;exact hn (hnd i hilt Ff r (lS.1 hrm).1 hrr (yF hrd hrm))
theorem NL (hL:¬LetsOut O) (hQ:∀e a w,O e a w→Q e a w) {id:Nat} {a:Act} {w:World} {l:List Oper} (hO:∀(i:Nat) (o:Oper),l.toArray[i]? = some o→∀e a v w,O e (a.put o.dst v) w→O e a w) (S:World→Prop) (f:List Nat) (n:Nat) (rem:List Nat) (hm:P.follows .mixedOrders=true) (hok:Pd l.toArray (lZ f) (iL f)=true)
  (hl:List.range l.toArray.size=rem) (hn:rem.length=n) (hS:S w.drew) (h:wU P O l.toArray S (lZ f) (iL f) (Q .normal) n rem a w.drew):(Code.region id l.toArray true).wp P Q a w:=by
 refine wp_region_any hm ?_
 have Gw:jF l.toArray (Array.replicate l.toArray.size false)=List.range l.toArray.size:=by
  unfold jF;refine List.filter_eq_self.2 fun i hi=>?_
  have:=List.mem_range.1 hi
  simp at this
  simp [this]
 refine NK hL hO hQ hok l.toArray.size (Array.replicate l.toArray.size false) a _ (by simp) ?_ (by rw [Gw];simp) (fun _ _ _=>hS) ?_
 ·intro i hi;rw [vH] at hi;cases hi
 ·rw [Gw,hl];have:l.toArray.size=n:=by rw [←hn,←hl];simp
  rw [this];exact h
def Bk (D:List Deferred) (N:Nat) (l0:List (Nat × Value)) (Pn:List PanicEntry→World→Prop):Exit→Act→World→Prop:=fun e a w=>∃ch,e = .panic ch∧Pn ch w∧Kd D a N l0
def S6 (ops:List Oper) (l0:List (Nat × Value)):Bool:=ops.all fun o=>match o.dst with
 | some d=>(yJ l0 d).isNone
 | none=>true
theorem Kd.aDV {D:List Deferred} {a:Act} {N:Nat} {l0:List (Nat × Value)} {d:Option Nat} {v:Value} (h:∀s,d=some s→yJ l0 s=none) (K:Kd D (a.put d v) N l0):Kd D a N l0:=by
 cases d with
 | none=>exact K
 | some d=>
  refine ⟨K.defs,by have:=K.size;simpa [Act.put] using this,fun s u hs=>?_⟩;have h2:=K.get s u hs;have hne:d≠s:=fun e=>by subst e;rw [h d rfl] at hs;cases hs
  simp only [Act.put] at h2;rw [←h2]
  simp [Array.getD_eq_getD_getElem?,Array.getElem?_setIfInBounds,hne]
theorem lN {id:Nat} {a:Act} {w:World} {l:List Oper} {D:List Deferred} {N:Nat} (l0:List (Nat × Value)) (Pn:List PanicEntry→World→Prop) (hcl:S6 l l0=true) (hQ:∀ch a w,Pn ch w→Kd D a N l0→Q (.panic ch) a w) (S:World→Prop) (f:List Nat) (n:Nat) (rem:List Nat) (hm:P.follows .mixedOrders=true) (hok:Pd l.toArray (lZ f) (iL f)=true)
  (hl:List.range l.toArray.size=rem) (hn:rem.length=n) (hS:S w.drew) (h:wU P (Bk D N l0 Pn) l.toArray S (lZ f) (iL f) (Q .normal) n rem a w.drew):(Code.region id l.toArray true).wp P Q a w:=
 NL (O:=Bk D N l0 Pn) (fun ⟨_,_,_,h,_⟩=>by cases h) (fun e a w ⟨ch,h1,h2,h3⟩=>by subst h1;exact hQ ch a w h2 h3)
  (fun i o ho e a v w ⟨ch,h1,h2,h3⟩=>⟨ch,h1,h2,Kd.aDV (fun s hs=>by
   unfold S6 at hcl;rw [List.all_eq_true] at hcl;have hm:=hcl o (by simpa using Array.mem_of_getElem? ho);rw [hs] at hm
   simpa using hm) h3⟩) S f n rem hm hok hl hn hS h
variable {D:List Deferred} {a:Act} {w:World} {N:Nat} {l l0:List (Nat × Value)} {o:Oper} {v:Value} {d c n:Nat} {rem:List Nat} {f:List Nat} {Pn:List PanicEntry→World→Prop} {x:Operand}
theorem JD {kk:Act→World→Prop} (ho:ops[c]? = some o) (K0:Kd D a N l0) (hw:Region.wanted o (yielded ops a.tmps)=true) (h:Bo P o a w Pn):wpOp P ops (Bk D N l0 Pn) c kk a w:=by
 unfold wpOp;simp only [ho,hw,if_true];exact .inl (h _ _ fun ch w' hp=>⟨ch,rfl,hp,K0⟩)
theorem WW {fid:FuncId} {cap vs:List Value} {args:Array Operand} {ts:Array TypeId} (K:Kd D a N l) (ho:o.op = .call { callee:=.value x,args:=args,argTypes:=ts }) (hf:iD P fid=true) (hx:g7 l x=some (.func (.func fid) #[] cap.toArray)) (hargs:args.toList.map (g7 l)=vs.map some)
  {K2:Act→World→Prop} {Q2:Exit→Act→World→Prop} (h:Calls P fid (vs++cap).toArray w fun e w'=>(∃v,e = .returned v∧K2 (a.put o.dst v) w')∨∃ch,e = .panicked ch∧Q2 (.panic ch) a w'):o.wp P a w K2 Q2:=by
 have hE:args.map a.eval=vs.toArray:=by
  apply Array.ext'
  simp only [Array.toList_map]
  have:∀(xs:List Operand) (vs:List Value),xs.map (g7 l)=vs.map some→xs.map a.eval=vs:=by
   intro xs
   induction xs with
   | nil=>intro vs h;cases vs <;> simp_all
   | cons x xs ih=>
    intro vs h;cases vs with
    | nil=>simp at h
    | cons v vs=>simp only [List.map_cons,List.cons.injEq] at h ⊢;exact ⟨K.ev h.1,ih vs h.2⟩
  exact this _ _ hargs
 have hrun:(execOp a.eval o).run P w = .ok (.enter fid (vs++cap).toArray) w:=by
  unfold iD at hf
  split at hf
  ·rename_i fn hfn
   simp only [Bool.and_eq_true,bne_iff_ne,ne_eq] at hf;obtain ⟨b,hb⟩:=Option.isSome_iff_exists.1 hf.1;unfold execOp
   simp [ho,resolve,K.ev hx,hE,Deferred.ofValue,invoke,callFunc,hfn,hb,hf.2]
  ·cases hf
 unfold Oper.wp;rw [hrun,Oper.upon_enter];refine h.mono ?_;rintro e w' (⟨v,rfl,hp⟩ | ⟨ch,rfl,hp⟩)
 ·exact hp
 ·exact hp
theorem FD {rest:List Oper} {fid:FuncId} {cap vs:List Value} {args:Array Operand} {ts:Array TypeId} (K:Kd D a N l) (hw:Region.wanted o (yielded ops a.tmps)=true) (hd:o.dst=some d) (hN:Nat.blt d N=true)
  (ho:o.op = .call { callee:=.value x,args:=args,argTypes:=ts }) (hf:iD P fid=true) (hx:g7 l x=some (.func (.func fid) #[] cap.toArray)) (hargs:args.toList.map (g7 l)=vs.map some)
  (h:Calls P fid (vs++cap).toArray w fun e w'=>(∃v,e = .returned v∧∀a',Kd D a' N ((d,v)::l)→wpList P ops Q rest a' w')∨∃ch,e = .panicked ch∧Q (.panic ch) a w'):wpList P ops Q (o::rest) a w:=by
 refine wpList_step fun Kc hK=>?_
 rw [if_pos hw];refine WW K ho hf hx hargs (h.mono ?_);rintro e w' (⟨v,he,hp⟩ | hp)
 ·refine .inl ⟨v,he,hK _ _ ?_⟩;have:=K.put (d:=o.dst) (by rw [hd];exact hN) v;rw [hd] at this ⊢;exact hp _ this
 ·exact .inr hp
theorem NM {fid:FuncId} {cap vs:List Value} {args:Array Operand} {ts:Array TypeId} (Du:List Nat) (hc:(rem.erase c==Du)=true) (hop:ops[c]? = some o) (K:Kd D a N l) (hw:Region.wanted o (yielded ops a.tmps)=true) (hd:o.dst=some d) (hN:Nat.blt d N=true) (K0:Kd D a N l0)
  (ho:o.op = .call { callee:=.value x,args:=args,argTypes:=ts }) (hf:iD P fid=true) (hx:g7 l x=some (.func (.func fid) #[] cap.toArray)) (hargs:args.toList.map (g7 l)=vs.map some)
  (h:Calls P fid (vs++cap).toArray w fun e w'=>(∃v,e = .returned v∧∀a',Kd D a' N ((d,v)::l)→(iL f c=true→S w')∧wU P (Bk D N l0 Pn) ops S (lZ f) (iL f) R n Du a' w')∨∃ch,e = .panicked ch∧Pn ch w'):wpOp P ops (Bk D N l0 Pn) c (fun a' w'=>(iL f c=true→S w')∧wU P (Bk D N l0 Pn) ops S (lZ f) (iL f) R n (rem.erase c) a' w') a w:=by
 obtain rfl:rem.erase c=Du:=by simpa using hc
 unfold wpOp;simp only [hop,hw,if_true];refine .inl (WW K ho hf hx hargs (h.mono ?_));rintro e w' (⟨v,he,hp⟩ | ⟨ch,he,hp⟩)
 ·refine .inl ⟨v,he,?_⟩;have:=K.put (d:=o.dst) (by rw [hd];exact hN) v;rw [hd] at this ⊢;exact hp _ this
 ·exact .inr ⟨ch,he,ch,rfl,hp,K0⟩
theorem WX {fn:Func} {code:Code} {fid:FuncId} {args:Array Value} {Rp:Ending→World→Prop} (hf:P.funcs[fid]? = some fn) (hb:fn.body=some code) (hN:fn.ntmps=N) (hs:Nat.ble args.size N=true)
  (h:∀a,Kn a N (G8 0 args.toList)→code.wp P (bodyPostD P fn Rp) a w):Calls P fid args w Rp:=by
 refine calls_of_wp_defers hf hb ?_;rw [hN];exact h _ (Kd.start args N hs)
theorem aFN {rest:List Oper} {fid:FuncId} {cap:List Value} (K:Kd D a N l) (hw:Region.wanted o (yielded ops a.tmps)=true) (hd:o.dst=none) (ho:o.op = .defer { callee:=.value x,args:=#[],argTypes:=#[] }) (hx:g7 l x=some (.func (.func fid) #[] cap.toArray))
  (k:∀a',Kd ({ target:=.fn (.func fid) cap.toArray,args:=#[] } :: D) a' N l→wpList P ops Q rest a' w):wpList P ops Q (o::rest) a w:=by
 refine wpList_step fun Kc hK=>?_
 rw [if_pos hw];unfold Oper.wp
 have hrun:(execOp a.eval o).run P w = .ok (.defer { target:=.fn (.func fid) cap.toArray,args:=#[] }) w:=by
  unfold execOp
  simp [ho,resolve,K.ev hx,Deferred.ofValue]
 rw [hrun,Oper.upon_defer];refine hK _ _ ?_;rw [hd];exact k _ ⟨by show _::a.defers=_;rw [K.defs],K.size,K.get⟩
theorem aDW {fn:Func} {Rp:Ending→World→Prop} {r1 r2:ResultVar} {v1 v2:Value} {fid:FuncId} {cap:Array Value} (K:Kd [{ target:=.fn (.func fid) cap,args:=#[] }] a N l) (hr:fn.results = #[r1,r2]) (h1:yB P a w r1 v1) (h2:yB P a w r2 v2)
  (hi:(invoke (.fn (.func fid) cap) #[]).run P w = .ok (.enter fid cap) w) (hc:CallsD P fid cap .returning w fun e u' w'=>e = .returned (.tuple #[])∧u' = .returning∧w'=w) (h:Rp (.returned (.tuple #[v1,v2])) w):bodyPostD P fn Rp .ret a w:=by
 show Leaves P fn a.tmps Rp a.defers .returning w;rw [K.defs];refine leaves_cons (by intro h;cases h) hi (hc.mono ?_);rintro e u' w' ⟨rfl,rfl,rfl⟩;refine ⟨.tuple #[v1,v2],?_,h⟩;unfold yB at h1 h2;rw [uP,hr];simp [h1,h2]
theorem mH {fn:Func} {Rp:Ending→World→Prop} {r1 r2:ResultVar} {v1 v2:Value} {fid:FuncId} {cap:Array Value} {pe:PanicEntry} {post:World→Prop} (K:Kd [{ target:=.fn (.func fid) cap,args:=#[] }] a N l) (hr:fn.results = #[r1,r2])
  (hi:(invoke (.fn (.func fid) cap) #[]).run P w = .ok (.enter fid cap) w) (hc:CallsD P fid cap (.panicking [pe]) w fun e u' w'=>e = .returned (.tuple #[])∧u' = .panicking [{ pe with recovered:=true }]∧post w') (hres:∀w',post w'→yB P a w' r1 v1∧yB P a w' r2 v2∧Rp (.returned (.tuple #[v1,v2])) w'):bodyPostD P fn Rp (.panic [pe]) a w:=by
 show Leaves P fn a.tmps Rp a.defers (.panicking [pe]) w;rw [K.defs];refine leaves_cons (by intro h;cases h) hi (hc.mono ?_);rintro e u' w' ⟨rfl,rfl,hp⟩;obtain ⟨h1,h2,h⟩:=hres w' hp;refine ⟨.tuple #[v1,v2],?_,h⟩;unfold yB at h1 h2;rw [uP,hr];simp [h1,h2]
end
section
variable {Q:Exit→Act→World→Prop} {a:Act} {w:World}
theorem aCJ (h:Q .ret a w):Exit.noGoto Q .ret a w:=h
end
theorem gA {P:Program} {f:FuncId} {cap:Array Value} {w:World} (hf:iD P f=true):(invoke (.fn (.func f) cap) #[]).run P w = .ok (.enter f cap) w:=by
 unfold iD at hf
 split at hf
 ·rename_i fn hfn
  simp only [Bool.and_eq_true,bne_iff_ne,ne_eq] at hf;obtain ⟨b,hb⟩:=Option.isSome_iff_exists.1 hf.1
  simp [invoke,callFunc,hfn,hb,hf.2]
 ·cases hf
theorem UA {P:Program} {S:World→Prop} {D:List Deferred} {a:Act} {N:Nat} {l:List (Nat × Value)} {o:Oper} {x:Operand} {t t' u:TypeId} {v:Value} (hi:P.isIface t=true) (ho:o.op = .binOp .eql t x (.const .nilIface) t') (K:Kd D a N l) (hx:g7 l x=some (.iface u v)):Rd P S a o (.bool false):=
 pR ho K hx (show g7 l (.const .nilIface)=some .nilIface from rfl) fun w=>by rw [Sem.run_bind];simp [eqGuard,run_eql_iface_nil w t hi u v]
theorem UB {P:Program} {S:World→Prop} {D:List Deferred} {a:Act} {N:Nat} {l:List (Nat × Value)} {o:Oper} {x:Operand} {t t':TypeId} (hi:P.isIface t=true) (ho:o.op = .binOp .eql t x (.const .nilIface) t') (K:Kd D a N l) (hx:g7 l x=some .nilIface):Rd P S a o (.bool true):=
 pR ho K hx (show g7 l (.const .nilIface)=some .nilIface from rfl) fun w=>by rw [Sem.run_bind];simp [eqGuard,run_eql_nil_nil_at w t hi]
theorem rO {P:Program} {S:World→Prop} {D:List Deferred} {a:Act} {N:Nat} {l:List (Nat × Value)} {o:Oper} {x ix:Operand} {t e:TypeId} {g off c:Nat} {k:IntKind} {b s j len:Nat} (ho:o.op = .indexAddr t x ix) (ht:JS P t e s b=true) (K:Kd D a N l) (hx:g7 l x=some (.slice (some ⟨g,off,none⟩) len c)) (hi:g7 l ix=some (.int k j)) (hj:Nat.blt j len=true):Rd P S a o (.pointer (some ⟨g,off+j*s,none⟩)):=fun w _=>by
  obtain ⟨hu,i,qQ,hs,_⟩:=lA ht
  have h1:(j:Int)<len:=by have:j<len:=by simpa [Nat.blt_eq] using hj
                          omega
  have hadd:(⟨g,off,none⟩:Addr).add (j*s)=⟨g,off+j*s,none⟩:=by unfold Addr.add;split <;> simp_all
  unfold execOp
  simp [ho,K.ev hx,K.ev hi,Instr.indexAt,asIntOf,run_underlying hu,sizeOf,typeInfo,qQ,hs,h1,hadd]
  intro hh;omega
theorem z1:iU Tryz.prog 1=some [.nilFunc]:=by kernel_rfl
theorem z2:iU Tryz.prog 2=some [.int .i64 0]:=by kernel_rfl
theorem jK:Ju Tryz.prog 3=true:=by kernel_rfl
theorem z3:iU Tryz.prog 3=some [.int .i64 0]:=by kernel_rfl
theorem zi3:(Tryz.prog.info? 3).bind (·.zero)=some (.int .i64 0):=by kernel_rfl
theorem ik3:Tryz.prog.underlying 3=some (.int .i64):=by kernel_rfl
theorem Ci:(Tryz.prog.info? 3).map (·.size)=some 1:=by kernel_rfl
theorem bo4:Tryz.prog.underlying 4=some .bool:=by kernel_rfl
theorem z4:iU Tryz.prog 4=some [.bool false]:=by kernel_rfl
theorem sc5:Ju Tryz.prog 5=true:=by kernel_rfl
theorem z5:iU Tryz.prog 5=some [.int .u8 0]:=by kernel_rfl
theorem Z9:Tryz.prog.underlying 5=some (.int .u8):=by kernel_rfl
theorem zu5:(Tryz.prog.info? 5).bind (·.zero)=some (.int .u8 0):=by kernel_rfl
theorem sz5:(Tryz.prog.info? 5).map (·.size)=some 1:=by kernel_rfl
theorem Qh:Ju Tryz.prog 9=true:=by kernel_rfl
theorem z9:iU Tryz.prog 9=some [.string (bs ([]:List UInt8))]:=by kernel_rfl
theorem rS:Tryz.prog.underlying 9=some .string:=by kernel_rfl
theorem sz9:(Tryz.prog.info? 9).map (·.size)=some 1:=by kernel_rfl
theorem z20:iU Tryz.prog 20=some [.nilIface]:=by kernel_rfl
theorem z21:iU Tryz.prog 21=some [.int .i32 0]:=by kernel_rfl
theorem aFO:(Tryz.prog).eqGuardType (Tryz.prog).depth 23=false:=by kernel_rfl
theorem aDX (x0 y0 x1 y1 x2 y2 x3 y3:Int) (w:World):(Op.equalIn 10000 23 (.agg #[.int .i64 x0,.int .i64 x1,.int .i64 x2,.int .i64 x3]) (.agg #[.int .i64 y0,.int .i64 y1,.int .i64 y2,.int .i64 y3])).run Tryz.prog w = .ok (decide (x0=y0)&&decide (x1=y1)&&decide (x2=y2)&&decide (x3=y3)) w:=by
 have hp:Tryz.prog.stoodInHeld 23=false:=by kernel_rfl
 have ht:Tryz.prog.underlying 23=some (.struct (Tryz.prog.fieldsOf 23)):=by kernel_rfl
 rw [run_equalIn_agg (d:=9999) _ _ _ _ ht hp]
 by_cases h0:x0=y0 <;> by_cases h1:x1=y1 <;> by_cases h2:x2=y2 <;> by_cases h3:x3=y3 <;> simp [Program.fieldsOf,Tryz.underlying23,go_sem,Op.eqFields,h0,h1,h2,h3]
theorem vY:Ju Tryz.prog 26=true:=by kernel_rfl
theorem z26:iU Tryz.prog 26=some [.int .i64 0]:=by kernel_rfl
theorem aCK:Ju Tryz.prog 30=true:=by kernel_rfl
theorem lE:JS Tryz.prog 30 59 3 24=true:=by kernel_rfl
theorem LD:∃e,Tryz.prog.underlying 30=some (.slice e):=⟨_,(lA lE).1⟩
theorem sQ:DH Tryz.prog 32 3=true:=by kernel_rfl
theorem z32:iU Tryz.prog 32=some [.int .i64 0,.int .i64 0,.slice none 0 0]:=by kernel_rfl
theorem I0:Ju Tryz.prog 36=true:=by kernel_rfl
theorem fM:JS Tryz.prog 36 3 1 8=true:=by kernel_rfl
theorem LE:∃e,Tryz.prog.underlying 36=some (.slice e):=⟨_,(lA fM).1⟩
theorem aCL:Ju Tryz.prog 37=true:=by kernel_rfl
theorem z37:iU Tryz.prog 37=some [.slice none 0 0]:=by kernel_rfl
theorem FE:JS Tryz.prog 37 9 1 16=true:=by kernel_rfl
theorem aFP:∃e,Tryz.prog.underlying 37=some (.slice e):=⟨_,(lA FE).1⟩
theorem aDY:DH Tryz.prog 38 4=true:=by kernel_rfl
theorem NN:Tryz.prog.underlying 38=some (.array 4 3):=by kernel_rfl
theorem LF:Ju Tryz.prog 39=true:=by kernel_rfl
theorem EA:JS Tryz.prog 39 81 2 16=true:=by kernel_rfl
theorem aAa:∃e,Tryz.prog.underlying 39=some (.slice e):=⟨_,(lA EA).1⟩
theorem GP:Tryz.prog.underlying 40=some (.array 3 3):=by kernel_rfl
theorem Rs:Tryz.prog.underlying 41=some (.array 9 3):=by kernel_rfl
theorem Pi:Ju Tryz.prog 42=true:=by kernel_rfl
theorem BI:JS Tryz.prog 42 82 2 16=true:=by kernel_rfl
theorem aCM:∃e,Tryz.prog.underlying 42=some (.slice e):=⟨_,(lA BI).1⟩
theorem aCN:DH Tryz.prog 44 21=true:=by kernel_rfl
theorem S7:yQ Tryz.prog 44 0=some 0:=by kernel_rfl
theorem NO:yQ Tryz.prog 44 1=some 1:=by kernel_rfl
theorem NP:yQ Tryz.prog 44 2=some 5:=by kernel_rfl
theorem EB:yQ Tryz.prog 44 3=some 6:=by kernel_rfl
theorem NQ:yQ Tryz.prog 44 4=some 7:=by kernel_rfl
theorem NR:yQ Tryz.prog 44 5=some 10:=by kernel_rfl
theorem Hy:yQ Tryz.prog 44 6=some 19:=by kernel_rfl
theorem NS:yQ Tryz.prog 44 7=some 20:=by kernel_rfl
theorem u9:DH Tryz.prog 46 28=true:=by kernel_rfl
theorem z46:iU Tryz.prog 46=some [.int .i64 0,.int .i64 0,.int .i64 0,.int .i64 0,.int .i64 0,.slice none 0 0,.slice none 0 0,.int .i64 0,.int .i64 0,.int .i64 0,.int .i64 0,.int .i64 0,.int .i64 0,.slice none 0 0,.int .i64 0,.int .i64 0,.int .i64 0,.int .i64 0,.int .i64 0,.int .i64 0,.int .i64 0,.int .i64 0,.int .i64 0,.int .i64 0,.int .i64 0,.int .i64 0,.slice none 0 0,.int .i64 0]:=by kernel_rfl
theorem S8:yQ Tryz.prog 46 0=some 0:=by kernel_rfl
theorem S9:yQ Tryz.prog 46 1=some 1:=by kernel_rfl
theorem Ta:yQ Tryz.prog 46 2=some 2:=by kernel_rfl
theorem Tb:yQ Tryz.prog 46 3=some 3:=by kernel_rfl
theorem Tc:yQ Tryz.prog 46 4=some 4:=by kernel_rfl
theorem NT:yQ Tryz.prog 46 5=some 5:=by kernel_rfl
theorem NU:yQ Tryz.prog 46 6=some 6:=by kernel_rfl
theorem Td:yQ Tryz.prog 46 7=some 7:=by kernel_rfl
theorem DR:DH Tryz.prog 50 3=true:=by kernel_rfl
theorem z50:iU Tryz.prog 50=some [.int .i64 0,.int .i64 0,.slice none 0 0]:=by kernel_rfl
theorem EC:yQ Tryz.prog 50 0=some 0:=by kernel_rfl
theorem ED:yQ Tryz.prog 50 2=some 2:=by kernel_rfl
theorem vZ:DH Tryz.prog 59 3=true:=by kernel_rfl
theorem z59:iU Tryz.prog 59=some [.int .i64 0,.int .i64 0,.int .i64 0]:=by kernel_rfl
theorem AV:yQ Tryz.prog 59 0=some 0:=by kernel_rfl
theorem AW:yQ Tryz.prog 59 1=some 1:=by kernel_rfl
theorem AX:yQ Tryz.prog 59 2=some 2:=by kernel_rfl
theorem aFQ:(Tryz.prog).eqGuardType (Tryz.prog).depth 59=false:=by kernel_rfl
theorem aDZ (x0 y0 x1 y1 x2 y2:Int) (w:World):(Op.equalIn 10000 59 (.agg #[.int .i64 x0,.int .i64 x1,.int .i64 x2]) (.agg #[.int .i64 y0,.int .i64 y1,.int .i64 y2])).run Tryz.prog w = .ok (decide (x0=y0)&&decide (x1=y1)&&decide (x2=y2)) w:=by
 have hp:Tryz.prog.stoodInHeld 59=false:=by kernel_rfl
 have ht:Tryz.prog.underlying 59=some (.struct (Tryz.prog.fieldsOf 59)):=by kernel_rfl
 rw [run_equalIn_agg (d:=9999) _ _ _ _ ht hp]
 by_cases h0:x0=y0 <;> by_cases h1:x1=y1 <;> by_cases h2:x2=y2 <;> simp [Program.fieldsOf,Tryz.underlying59,go_sem,Op.eqFields,h0,h1,h2]
theorem Hz:(Tryz.prog.info? 59).map (·.size)=some 3:=by kernel_rfl
theorem aFR:Tryz.prog.underlying 65=some (.array 3 9):=by kernel_rfl
theorem Di:Ju Tryz.prog 70=true:=by kernel_rfl
theorem z70:iU Tryz.prog 70=some [.pointer none]:=by kernel_rfl
theorem z72:iU Tryz.prog 72=some [.string (bs ([]:List UInt8))]:=by kernel_rfl
theorem FZ:yQ Tryz.prog 72 0=some 0:=by kernel_rfl
theorem z75:iU Tryz.prog 75=some []:=by kernel_rfl
theorem z76:iU Tryz.prog 76=some [.int .i64 0,.int .i64 0,.int .i64 0,.int .i64 0,.int .i64 0]:=by kernel_rfl
theorem UC:Tryz.prog.underlying 76=some (.array 5 3):=by kernel_rfl
theorem JE:Ju Tryz.prog 79=true:=by kernel_rfl
theorem z79:iU Tryz.prog 79=some [.pointer none]:=by kernel_rfl
theorem z80:iU Tryz.prog 80=some [.int .i64 0,.int .i64 0]:=by kernel_rfl
theorem UD:DH Tryz.prog 81 2=true:=by kernel_rfl
theorem UV:iU Tryz.prog 81=some [.int .i64 0,.int .i64 0]:=by kernel_rfl
theorem Pj:DH Tryz.prog 82 2=true:=by kernel_rfl
theorem z82:iU Tryz.prog 82=some [.int .i64 0,.int .i64 0]:=by kernel_rfl
theorem UE:JS Tryz.prog 84 88 2 16=true:=by kernel_rfl
theorem aFS:∃e,Tryz.prog.underlying 84=some (.slice e):=⟨_,(lA UE).1⟩
theorem z85:iU Tryz.prog 85=some [.nilFunc]:=by kernel_rfl
theorem aD0:DH Tryz.prog 88 2=true:=by kernel_rfl
theorem z88:iU Tryz.prog 88=some [.int .i64 0,.int .i64 0]:=by kernel_rfl
theorem WY:Tryz.prog.underlying 88=some (.array 2 3):=by kernel_rfl
theorem aD1:DH Tryz.prog 94 3=true:=by kernel_rfl
theorem aFT:Tryz.prog.underlying 95=some (.array 9 94):=by kernel_rfl
theorem HD:Ju Tryz.prog 101=true:=by kernel_rfl
theorem qX:JS Tryz.prog 101 5 1 1=true:=by kernel_rfl
theorem aD2:∃e,Tryz.prog.underlying 101=some (.slice e):=⟨_,(lA qX).1⟩
theorem z105:iU Tryz.prog 105=some [.nilIface]:=by kernel_rfl
theorem z116:iU Tryz.prog 116=some [.nilFunc]:=by kernel_rfl
theorem z117:iU Tryz.prog 117=some [.nilFunc]:=by kernel_rfl
theorem z124:iU Tryz.prog 124=some [.nilFunc]:=by kernel_rfl
theorem z127:iU Tryz.prog 127=some [.nilFunc]:=by kernel_rfl
theorem z138:iU Tryz.prog 138=some [.nilFunc]:=by kernel_rfl
theorem z139:iU Tryz.prog 139=some [.nilFunc]:=by kernel_rfl
theorem z143:iU Tryz.prog 143=some [.pointer none]:=by kernel_rfl
theorem z145:iU Tryz.prog 145=some [.nilFunc]:=by kernel_rfl
theorem z146:iU Tryz.prog 146=some [.nilFunc]:=by kernel_rfl
theorem z164:iU Tryz.prog 164=some [.int .i64 0,.int .i64 0,.int .i64 0,.int .i64 0,.int .i64 0,.int .i64 0,.slice none 0 0,.int .i64 0,.int .i64 0,.int .i64 0,.int .i64 0,.int .i64 0,.int .i64 0,.int .i64 0,.int .i64 0,.int .i64 0,.int .i64 0,.int .i64 0,.int .i64 0,.slice none 0 0,.int .i64 0]:=by kernel_rfl
theorem z167:iU Tryz.prog 167=some [.int .i64 0,.int .i64 0,.int .i64 0,.int .i64 0,.int .i64 0,.int .i64 0,.slice none 0 0,.int .i64 0,.int .i64 0,.int .i64 0,.int .i64 0,.int .i64 0,.int .i64 0,.int .i64 0,.int .i64 0,.int .i64 0,.int .i64 0,.int .i64 0,.int .i64 0,.slice none 0 0,.int .i64 0]:=by kernel_rfl
theorem z168:iU Tryz.prog 168=some [.int .i64 0,.int .i64 0,.int .i64 0,.int .i64 0,.int .i64 0,.int .i64 0,.slice none 0 0,.int .i64 0,.int .i64 0,.int .i64 0,.int .i64 0,.int .i64 0,.int .i64 0,.int .i64 0,.int .i64 0,.int .i64 0,.int .i64 0,.int .i64 0,.int .i64 0,.slice none 0 0,.int .i64 0]:=by kernel_rfl
theorem z171:iU Tryz.prog 171=some [.int .i64 0,.int .i64 0,.int .i64 0,.int .i64 0,.int .i64 0,.int .i64 0,.slice none 0 0,.int .i64 0,.int .i64 0,.int .i64 0,.int .i64 0,.int .i64 0,.int .i64 0,.int .i64 0,.int .i64 0,.int .i64 0,.int .i64 0,.int .i64 0,.int .i64 0,.slice none 0 0,.int .i64 0]:=by kernel_rfl
theorem Gg:JS Tryz.prog 172 174 1 16=true:=by kernel_rfl
theorem aAE:∃e,Tryz.prog.underlying 172=some (.slice e):=⟨_,(lA Gg).1⟩
theorem z173:iU Tryz.prog 173=some [.nilIface]:=by kernel_rfl
theorem aD3:iU Tryz.prog 174=some [.nilIface]:=by kernel_rfl
theorem aD4:Tryz.prog.underlying 196=some (.array 8 3):=by kernel_rfl
theorem Te:Tryz.prog.underlying 215=some (.map 9 3):=by kernel_rfl
theorem z233:iU Tryz.prog 233=some [.nilFunc]:=by kernel_rfl
theorem Tf:iD Tryz.prog 18=true:=by kernel_rfl
theorem pW:iD Tryz.prog 19=true:=by kernel_rfl
theorem Jf:iD Tryz.prog 20=true:=by kernel_rfl
theorem fP:iD Tryz.prog 21=true:=by kernel_rfl
theorem Pk:iD Tryz.prog 22=true:=by kernel_rfl
theorem Pl:iD Tryz.prog 23=true:=by kernel_rfl
theorem aAF:iD Tryz.prog 24=true:=by kernel_rfl
theorem aAG:iD Tryz.prog 25=true:=by kernel_rfl
theorem aAH:iD Tryz.prog 26=true:=by kernel_rfl
theorem aAI:iD Tryz.prog 27=true:=by kernel_rfl
theorem aAJ:iD Tryz.prog 28=true:=by kernel_rfl
theorem aAK:iD Tryz.prog 32=true:=by kernel_rfl
theorem WZ:iD Tryz.prog 35=true:=by kernel_rfl
theorem W1:iD Tryz.prog 40=true:=by kernel_rfl
theorem W2:iD Tryz.prog 41=true:=by kernel_rfl
theorem W4:iD Tryz.prog 42=true:=by kernel_rfl
theorem Gh:iD Tryz.prog 43=true:=by kernel_rfl
theorem KT:iD Tryz.prog 44=true:=by kernel_rfl
theorem Pm:iD Tryz.prog 45=true:=by kernel_rfl
theorem Po:iD Tryz.prog 46=true:=by kernel_rfl
theorem W5:iD Tryz.prog 47=true:=by kernel_rfl
theorem DC:iD Tryz.prog 48=true:=by kernel_rfl
theorem aAL:iD Tryz.prog 55=true:=by kernel_rfl
theorem aAM:iD Tryz.prog 58=true:=by kernel_rfl
theorem W6:iD Tryz.prog 61=true:=by kernel_rfl
theorem KU:iD Tryz.prog 62=true:=by kernel_rfl
theorem aAN:iD Tryz.prog 63=true:=by kernel_rfl
theorem Tg:iD Tryz.prog 68=true:=by kernel_rfl
theorem W7:iD Tryz.prog 69=true:=by kernel_rfl
theorem Th:iD Tryz.prog 70=true:=by kernel_rfl
theorem Ti:iD Tryz.prog 72=true:=by kernel_rfl
theorem FF:iD Tryz.prog 73=true:=by kernel_rfl
theorem W8:iD Tryz.prog 74=true:=by kernel_rfl
theorem aAO:iD Tryz.prog 76=true:=by kernel_rfl
theorem aAP:iD Tryz.prog 77=true:=by kernel_rfl
theorem aAQ:iD Tryz.prog 78=true:=by kernel_rfl
theorem W9:iD Tryz.prog 88=true:=by kernel_rfl
theorem Xa:iD Tryz.prog 89=true:=by kernel_rfl
theorem aAR:iD Tryz.prog 90=true:=by kernel_rfl
theorem Pp:iD Tryz.prog 92=true:=by kernel_rfl
theorem aAS:iD Tryz.prog 95=true:=by kernel_rfl
theorem aAT:iD Tryz.prog 96=true:=by kernel_rfl
theorem Tj:iD Tryz.prog 98=true:=by kernel_rfl
theorem Xb:iD Tryz.prog 105=true:=by kernel_rfl
theorem Xc:iD Tryz.prog 119=true:=by kernel_rfl
theorem Xd:iD Tryz.prog 124=true:=by kernel_rfl
theorem Xe:iD Tryz.prog 125=true:=by kernel_rfl
theorem Xf:iD Tryz.prog 126=true:=by kernel_rfl
theorem Xg:iD Tryz.prog 136=true:=by kernel_rfl
theorem Xh:iD Tryz.prog 143=true:=by kernel_rfl
theorem Xi:iD Tryz.prog 160=true:=by kernel_rfl
theorem Xj:iD Tryz.prog 189=true:=by kernel_rfl
theorem Ru:iD Tryz.prog 191=true:=by kernel_rfl
theorem Xk:iD Tryz.prog 192=true:=by kernel_rfl
theorem Xl:iD Tryz.prog 193=true:=by kernel_rfl
theorem Rv:iD Tryz.prog 195=true:=by kernel_rfl
theorem Xm:iD Tryz.prog 196=true:=by kernel_rfl
theorem Xn:iD Tryz.prog 198=true:=by kernel_rfl
theorem Xo:iD Tryz.prog 199=true:=by kernel_rfl
theorem Xp:iD Tryz.prog 200=true:=by kernel_rfl
theorem Xq:iD Tryz.prog 201=true:=by kernel_rfl
theorem NV:iD Tryz.prog 203=true:=by kernel_rfl
theorem Xr:iD Tryz.prog 204=true:=by kernel_rfl
theorem Rw:iD Tryz.prog 206=true:=by kernel_rfl
theorem Xs:iD Tryz.prog 207=true:=by kernel_rfl
theorem Rx:iD Tryz.prog 209=true:=by kernel_rfl
theorem Xt:iD Tryz.prog 210=true:=by kernel_rfl
theorem NW:iD Tryz.prog 212=true:=by kernel_rfl
theorem Ry:iD Tryz.prog 213=true:=by kernel_rfl
theorem cc9:Program.concrete Tryz.prog 9=true:=by kernel_rfl
theorem GQ:Program.concrete Tryz.prog 75=true:=by kernel_rfl
theorem aD5:Program.concrete Tryz.prog 165=true:=by kernel_rfl
theorem aD6:Program.concrete Tryz.prog 166=true:=by kernel_rfl
theorem aD7:Program.concrete Tryz.prog 167=true:=by kernel_rfl
theorem aD8:Program.concrete Tryz.prog 168=true:=by kernel_rfl
theorem aD9:Program.concrete Tryz.prog 169=true:=by kernel_rfl
theorem aEa:Program.concrete Tryz.prog 170=true:=by kernel_rfl
theorem aEb:Program.concrete Tryz.prog 171=true:=by kernel_rfl
theorem aEc:∀v w,(method (Tryz.prog.types.size+Made.depth) 165 v "darkslide/line.work").run Tryz.prog w = .ok (189,v) w:=by
 intro v w
 kernel_rfl
theorem aEd:∀v w,(method (Tryz.prog.types.size+Made.depth) 166 v "darkslide/line.work").run Tryz.prog w = .ok (192,v) w:=by
 intro v w
 kernel_rfl
theorem aEe:∀v w,(method (Tryz.prog.types.size+Made.depth) 167 v "darkslide/line.work").run Tryz.prog w = .ok (193,v) w:=by
 intro v w
 kernel_rfl
theorem aEf:∀v w,(method (Tryz.prog.types.size+Made.depth) 168 v "darkslide/line.work").run Tryz.prog w = .ok (196,v) w:=by
 intro v w
 kernel_rfl
theorem aEg:∀v w,(method (Tryz.prog.types.size+Made.depth) 169 v "darkslide/line.work").run Tryz.prog w = .ok (201,v) w:=by
 intro v w
 kernel_rfl
theorem aEh:∀v w,(method (Tryz.prog.types.size+Made.depth) 170 v "darkslide/line.work").run Tryz.prog w = .ok (207,v) w:=by
 intro v w
 kernel_rfl
theorem aEi:∀v w,(method (Tryz.prog.types.size+Made.depth) 171 v "darkslide/line.work").run Tryz.prog w = .ok (210,v) w:=by
 intro v w
 kernel_rfl
theorem aG {p:Prop} (h:p:=by kernel_rfl):p:=h
theorem aD {p:Prop} (h:p:=by decide):p:=h
abbrev eB:=@wpList_nil
theorem bfQ (b:Bool):b=true∨b=false:=Bool.eq_false_or_eq_true b
theorem pN {P:Program} {D:List Deferred} {a:Act} {w:World} {N:Nat} {l:List (Nat × Value)} {o:Oper} {x:Operand} {post:Value→World→Prop} {f:FuncId} {vs:List Value} {args:Array Operand} {ts:Array TypeId} (hf:iD P f=true) (K:Kd D a N l) (h:Calls P f vs.toArray w fun e w'=>∃v,e = .returned v∧post v w') (ho:o.op = .call { callee:=.value x,args:=args,argTypes:=ts }:=by exact rfl) (hx:g7 l x=some (.func (.func f) #[] #[]):=by exact rfl) (hargs:args.toList.map (g7 l)=vs.map some:=by exact rfl):Ac P o a w post:=dX (cap:=[]) ho hf K hx hargs (by rw [List.append_nil];exact h)
theorem Em {P:Program} {D:List Deferred} {a:Act} {w:World} {N:Nat} {l:List (Nat × Value)} {o:Oper} {x:Operand} {Pn:List PanicEntry→World→Prop} {f:FuncId} {vs:List Value} {args:Array Operand} {ts:Array TypeId} (hf:iD P f=true) (K:Kd D a N l) (h:Calls P f vs.toArray w fun e w'=>∃ch,e = .panicked ch∧Pn ch w') (ho:o.op = .call { callee:=.value x,args:=args,argTypes:=ts }:=by exact rfl) (hx:g7 l x=some (.func (.func f) #[] #[]):=by exact rfl) (hargs:args.toList.map (g7 l)=vs.map some:=by exact rfl):Bo P o a w Pn:=Z8 (cap:=[]) ho hf K hx hargs (by rw [List.append_nil];exact h)

structure Ct (n:Nat) (p:Prop):Prop where
 out:p
structure Hq (p:Prop):Prop where
 out:p
inductive KS (l:List (Nat × Value)):List (Nat × Value)→Prop where
 | nil:KS l []
 | cons {s:Nat} {v:Value} {t:List (Nat × Value)} (h:yJ l s=some v) (k:KS l t):KS l ((s,v)::t)
inductive Seg:List Value→Nat→Nat→List Value→Prop where
 | nil {l:List Value}:Seg l 0 0 []
 | cons {v:Value} {l r:List Value} {n:Nat} (h:Seg l 0 n r):Seg (v::l) 0 (n+1) (v::r)
 | skip {v:Value} {l r:List Value} {o n:Nat} (h:Seg l o n r):Seg (v::l) (o+1) n r
theorem Seg.eq:∀{l:List Value} {o n:Nat} {r:List Value},Seg l o n r→(l.drop o).take n=r∧r.length=n
 | _,_,_,_,.nil=>⟨rfl,rfl⟩
 | _,_,_,_,.cons h=>by have:=h.eq;simp at this;simp [this]
 | _,_,_,_,.skip h=>by have:=h.eq;simpa using this
theorem KS.get {l:List (Nat × Value)}:∀{t:List (Nat × Value)},KS l t→∀s v,yJ t s=some v→yJ l s=some v
 | _,.nil,s,v,h=>by cases h
 | (s0,v0)::t,.cons h0 k,s,v,h=>by
  simp only [yJ] at h
  by_cases e:s0=s
  · subst e;simp at h;rw [h0,h]
  · rw [Vb e] at h;exact k.get s v h
theorem Kd.to {D:List Deferred} {a:Act} {N:Nat} {l l':List (Nat × Value)} (K:Kd D a N l) (h:KS l l':=by repeat (first | exact KS.nil | refine KS.cons rfl ?_)):Kd D a N l':=K.sub h.get

class BR (t f:Nat) (off:outParam Nat):Prop where
 out:yQ Tryz.prog t f=some off
class G3 (t:Nat):Prop where
 out:Ju Tryz.prog t=true
class HH (t:Nat) (n:outParam Nat):Prop where
 out:DH Tryz.prog t n=true
class UnI (t:Nat):Prop where
 out:∃e,Tryz.prog.underlying t=some (.slice e)
class Cj (t:Nat) (cs:outParam (List Value)):Prop where
 out:iU Tryz.prog t=some cs
class kN (f:Nat):Prop where
 out:iD Tryz.prog f=true
class SlI (t:Nat) (e s b:outParam Nat):Prop where
 out:JS Tryz.prog t e s b=true
class IkI (t:Nat) (k:outParam IntKind):Prop where
 out:Tryz.prog.underlying t=some (.int k)
class StI (t:Nat):Prop where
 out:Tryz.prog.underlying t=some .string
section
variable {base:Nat} {W w:World} {L:List kH} {D:List Deferred} {a:Act} {N:Nat} {l:List (Nat × Value)} {ops:Array Oper} {Q:Exit→Act→World→Prop} {rest:List Oper} {o:Oper} {x y ix:Operand} {t t' e:TypeId} {g off n:Nat} {cs ds:List Value} {v:Value} {α:Type} {C:uK α} {A:Option Addr} {c:Nat} {xs:List α} {el:α} {q:Nat}
theorem lcQ (ho:o.op = .load t x:=by exact rfl) (ht:Ju Tryz.prog t=true:=by exact G3.out) (hx:g7 l x=some (.pointer (some ⟨g,off,none⟩)):=by exact rfl) (hb:∀w,Mem base W w L→g9 w g t' cs.toArray:=by first | exact k8 0 rfl | exact k8 1 rfl | exact k8 2 rfl | exact k8 3 rfl | exact k8 4 rfl | exact k8 5 rfl | exact k8 6 rfl | exact k8 7 rfl | exact k8 8 rfl | exact k8 9 rfl | exact k8 10 rfl | exact k8 11 rfl | exact Bn (by assumption)) (hv:cs[off]? = some v:=by exact rfl):∀a,Kd D a N l→Rd Tryz.prog (fun w=>Mem base W w L) a o v:=fun a K=>bB ho ht K hx hb hv
theorem laQ (ho:o.op = .load t x:=by exact rfl) (ht:DH Tryz.prog t n=true:=by exact HH.out) (hx:g7 l x=some (.pointer (some ⟨g,off,none⟩)):=by exact rfl) (hb:∀w,Mem base W w L→g9 w g t' cs.toArray:=by first | exact k8 0 rfl | exact k8 1 rfl | exact k8 2 rfl | exact k8 3 rfl | exact k8 4 rfl | exact k8 5 rfl | exact k8 6 rfl | exact k8 7 rfl | exact k8 8 rfl | exact k8 9 rfl | exact k8 10 rfl | exact k8 11 rfl | exact Bn (by assumption)) (hs:Seg cs off n ds:=by repeat (first | exact Seg.nil | apply Seg.cons | apply Seg.skip)):∀a,Kd D a N l→Rd Tryz.prog (fun w=>Mem base W w L) a o (.agg ds.toArray):=fun a K=>Fl ho ht K hx hb hs.eq.1 hs.eq.2
class LG (t:Nat) (cs:outParam (List Value)):Prop where
 out:Tryz.prog.built t []=some cs.toArray
inductive Evs (l:List (Nat × Value)):List Operand→List Value→Prop where
 | nil:Evs l [] []
 | cons {x:Operand} {v:Value} {xs:List Operand} {vs:List Value} (h:g7 l x=some v) (k:Evs l xs vs):Evs l (x::xs) (v::vs)
theorem Evs.eq {l:List (Nat × Value)}:∀{xs:List Operand} {vs:List Value},Evs l xs vs→xs.map (g7 l)=vs.map some
 | _,_,.nil=>rfl
 | _,_,.cons h k=>by simp [h,k.eq]
theorem rfQ {fn:Fn} {cap:Array Operand} {vs:List Value} (ho:o.op = .makeFunc fn #[] cap:=by exact rfl) (h:Evs l cap.toList vs:=by repeat (first | exact Evs.nil | apply Evs.cons | exact rfl)):∀a,Kd D a N l→Rd Tryz.prog (fun w=>Mem base W w L) a o (.func fn #[] vs.toArray):=fun a K=>Eo ho K h.eq
theorem rxQ {i:Nat} {vs:List Value} (K:Kd D a N l) (ho:o.op = .extract x i:=by exact rfl) (hx:g7 l x=some (.tuple vs.toArray):=by exact rfl) (hi:vs[i]? = some v:=by exact rfl):Rd Tryz.prog (fun w=>Mem base W w L) a o v:=Cv ho K hx (by simpa using hi)
theorem aGv {k:IntKind} {m n:Int} (h:∀a,Kd D a N l→Rd Tryz.prog (fun w=>Mem base W w L) a o (.int k m)) (he:m=n:=by assumption):∀a,Kd D a N l→Rd Tryz.prog (fun w=>Mem base W w L) a o (.int k n):=fun a K=>P6 he (h a K)
def SxQ (base:Nat) (W:World) (L:List kH) (D:List Deferred) (N:Nat) (ops:Array Oper) (l:List (Nat × Value)) (o:Oper) (d:Nat) (v:Value):Prop:=o.dst=some d∧Nat.blt d N=true∧Stp Tryz.prog ops (fun w=>Mem base W w L) D N l o v
theorem rdQ (h:∀a,Kd D a N l→Rd Tryz.prog (fun w=>Mem base W w L) a o v:=by
   first
   | exact fun a K=>gC rfl K rfl
   | exact fun a K=>aQ rfl BR.out K rfl
   | exact lcQ
   | exact fun a K=>yA rfl K rfl
   | exact fun a K=>qB rfl K rfl
   | exact fun a K=>uO rfl UnI.out K rfl
   | exact fun a K=>rxQ K
   | exact fun a K=>j3 rfl K rfl rfl
   | exact fun a K=>Fh rfl K rfl rfl
   | exact fun a K=>En rfl K rfl rfl
   | exact fun a K=>jL rfl K rfl rfl
   | exact fun a K=>Kg rfl K rfl rfl
   | exact fun a K=>Kh rfl K rfl rfl
   | exact fun a K=>II rfl K rfl rfl
   | exact fun a K=>Ke rfl K rfl rfl
   | exact fun a K=>Kf rfl K rfl rfl
   | exact fun a K=>rd_not rfl K rfl
   | exact fun a K=>jG rfl K rfl rfl
   | exact fun a K=>uN rfl K rfl rfl
   | exact fun a K=>Fk rfl K rfl rfl
   | exact fun a K=>Fj rfl K rfl rfl
   | exact fun a K=>Fi rfl K rfl rfl
   | exact laQ
   | exact fun a K=>aP rfl K (vs:=[]) rfl LG.out
   | exact rfQ
   | exact fun a K=>Hb rfl rfl IkI.out K rfl):∀a,Kd D a N l→Rd Tryz.prog (fun w=>Mem base W w L) a o v:=h
theorem stQ {d:Nat} (hd:o.dst=some d:=by exact rfl) (hN:Nat.blt d N=true:=by exact rfl) (h:Stp Tryz.prog ops (fun w=>Mem base W w L) D N l o v:=by
 first
 | exact .yes (fun a K=>aA rfl) rdQ
 | exact .no (fun a K=>K.no rfl rfl rfl rfl) rfl
 | exact .yes (fun a K=>K.yes rfl rfl rfl) rdQ
 | exact .no (fun a K=>K.nou rfl rfl rfl) rfl):SxQ base W L D N ops l o d v:=⟨hd,hN,h⟩
variable {d:Nat} {p p':Code} {id id':Nat} {K':Act→World→Prop} {f:List Nat} {R:Act→World→Prop} {b:Bool}
theorem BS (M:Mem base W w L) (k:Ct n (∀a,Kd D a N ((d,v)::l)→wpList Tryz.prog ops Q rest a w)) (h:SxQ base W L D N ops l o d v:=by exact stQ):Ct (n+1) (∀a,Kd D a N l→wpList Tryz.prog ops Q (o::rest) a w):=⟨fL M k.out h.1 h.2.1 h.2.2⟩
theorem BT (k:Ct n (∀a,Kd D a N ((d,v)::l)→nU Tryz.prog ops (fun w=>Mem base W w L) R (marked f rest) a w)) (h:SxQ base W L D N ops l o d v:=by exact stQ):Ct (n+1) (∀a,Kd D a N l→nU Tryz.prog ops (fun w=>Mem base W w L) R (marked (0::f) (o::rest)) a w):=⟨MC k.out h.1 h.2.1 h.2.2⟩
theorem BU (k:Ct n (∀a,Kd D a N ((d,v)::l)→nU Tryz.prog ops (fun w=>Mem base W w L) R (marked [] rest) a w)) (h:SxQ base W L D N ops l o d v:=by exact stQ):Ct (n+1) (∀a,Kd D a N l→nU Tryz.prog ops (fun w=>Mem base W w L) R (marked [] (o::rest)) a w):=⟨MC (f:=[]) k.out h.1 h.2.1 h.2.2⟩
theorem BV (k:Ct n (∀a,Kd D a N l→R a w)) {S:World→Prop}:Ct (n+1) (∀a,Kd D a N l→nU Tryz.prog ops S R (marked f []) a w):=⟨k.1⟩
theorem v6 (k:Ct n (∀a,Kd D a N l→Q .normal a w)):Ct (n+1) (∀a,Kd D a N l→wpList Tryz.prog ops Q [] a w):=⟨k.1⟩
theorem BW (k:Ct n (∀a,Kd D a N l→K' a w)):Ct (n+1) (∀a,Kd D a N l→Exit.then K' Q .normal a w):=⟨k.1⟩
theorem BX (k:Ct n (∀a,Kd D a N l→Q .ret a w)):Ct (n+1) (∀a,Kd D a N l→Exit.then K' Q .ret a w):=⟨k.1⟩
theorem BY (k:Ct n (∀a,Kd D a N l→Q (.exit id) a w)):Ct (n+1) (∀a,Kd D a N l→Exit.then K' Q (.exit id) a w):=⟨k.1⟩
theorem BZ (k:Ct n (∀a,Kd D a N l→Q .normal a w)):Ct (n+1) (∀a,Kd D a N l→Exit.inBlock id Q .normal a w):=⟨k.1⟩
theorem B1 (k:Ct n (∀a,Kd D a N l→Q .ret a w)):Ct (n+1) (∀a,Kd D a N l→Exit.inBlock id Q .ret a w):=⟨k.1⟩
theorem B3 (k:Ct n (∀a,Kd D a N l→Q .normal a w)):Ct (n+1) (∀a,Kd D a N l→Exit.inBlock id Q (.exit id) a w):=⟨fun a K=>Gb (k.1 a K)⟩
theorem B4 (hne:id'≠id) (k:Ct n (∀a,Kd D a N l→Q (.exit id') a w)):Ct (n+1) (∀a,Kd D a N l→Exit.inBlock id Q (.exit id') a w):=⟨fun a K=>aDj hne (k.1 a K)⟩
theorem v7 (k:Ct n (∀a,Kd D a N l→p.wp Tryz.prog (Exit.then (p'.wp Tryz.prog Q) Q) a w)):Ct (n+1) (∀a,Kd D a N l→(Code.seq p p').wp Tryz.prog Q a w):=⟨fun a K=>wp_seq (k.1 a K)⟩
theorem v8 {ol:List Oper} (k:Ct n (∀a,Kd D a N l→wpList Tryz.prog ol.toArray Q ol a w)):Ct (n+1) (∀a,Kd D a N l→(Code.region id ol.toArray false).wp Tryz.prog Q a w):=⟨fun a K=>aI (k.1 a K)⟩
theorem rV (k:Ct n (∀a,Kd D a N l→Q .normal a w)):Ct (n+1) (∀a,Kd D a N l→Code.skip.wp Tryz.prog Q a w):=⟨fun a K=>wp_skip (k.1 a K)⟩
theorem wA (k:Ct n (∀a,Kd D a N l→Q .normal a w)):Ct (n+1) (∀a,Kd D a N l→(Code.label id).wp Tryz.prog Q a w):=⟨fun a K=>wp_label (k.1 a K)⟩
theorem wB (k:Ct n (∀a,Kd D a N l→Q .ret a w)):Ct (n+1) (∀a,Kd D a N l→Code.ret.wp Tryz.prog Q a w):=⟨fun a K=>wp_ret (k.1 a K)⟩
theorem rW (k:Ct n (∀a,Kd D a N l→Q (.exit id) a w)):Ct (n+1) (∀a,Kd D a N l→(Code.exit id).wp Tryz.prog Q a w):=⟨fun a K=>wp_exit (k.1 a K)⟩
theorem wC (k:Ct n (∀a,Kd D a N l→p.wp Tryz.prog (Exit.inBlock id Q) a w)):Ct (n+1) (∀a,Kd D a N l→(Code.block id p).wp Tryz.prog Q a w):=⟨fun a K=>wp_block (k.1 a K)⟩
theorem B5 (hc:g7 l x=some (.bool true)) (k:Ct n (∀a,Kd D a N l→p.wp Tryz.prog Q a w)):Ct (n+1) (∀a,Kd D a N l→(Code.cond x p p').wp Tryz.prog Q a w):=⟨fun a K=>kO K hc (k.1 a K)⟩
theorem B6 (hc:g7 l x=some (.bool false)) (k:Ct n (∀a,Kd D a N l→p'.wp Tryz.prog Q a w)):Ct (n+1) (∀a,Kd D a N l→(Code.cond x p p').wp Tryz.prog Q a w):=⟨fun a K=>Hd K hc (k.1 a K)⟩
theorem B7 {O:Exit→Act→World→Prop} {i:Nat} {rem:List Nat} {m:Nat} (k:Ct n (∀a,Kd D a N ((d,v)::l)→wU Tryz.prog O ops (fun w=>Mem base W w L) (lZ f) (iL f) R m rem a w)) (ho:ops[i]? = some o:=by exact rfl) (h:SxQ base W L D N ops l o d v:=by exact stQ) (hc:((i::rem).elem i&&lZ f i&&MB ops (i::rem) i&&(i::rem).erase i==rem)=true:=by kernel_rfl):Ct (n+1) (∀a,Kd D a N l→wU Tryz.prog O ops (fun w=>Mem base W w L) (lZ f) (iL f) R (m+1) (i::rem) a w):=⟨fun a K=>by
 cases h.2.2 with
 | yes hw hr=>exact fB i rem hc ho K (hw a K) h.1 h.2.1 (hr a K) k.1
 | no hw hv=>subst hv;exact aFM i rem hc ho K (hw a K) h.1 h.2.1 k.1⟩
theorem B8 {O:Exit→Act→World→Prop} {S:World→Prop} (k:Ct n (∀a,Kd D a N l→R a w)):Ct (n+1) (∀a,Kd D a N l→wU Tryz.prog O ops S (lZ f) (iL f) R 0 [] a w):=⟨fun a K=>Bg (k.1 a K)⟩
theorem gcE (hc:g7 l x=some (.bool b)) (k1:b=true→∀a,Kd D a N l→p.wp Tryz.prog Q a w) (k2:b=false→∀a,Kd D a N l→p'.wp Tryz.prog Q a w):Ct 0 (∀a,Kd D a N l→(Code.cond x p p').wp Tryz.prog Q a w):=⟨fun a K=>kU K hc (fun hb=>k1 hb a K) (fun hb=>k2 hb a K)⟩
theorem gkE {G:Act→Prop} (s:Nat) (hs:yJ l s=some (.bool b)) (k1:b=true→∀a,Kd D a N ((s,.bool true)::l)→G a) (k2:b=false→∀a,Kd D a N ((s,.bool false)::l)→G a):Ct 0 (∀a,Kd D a N l→G a):=⟨fun a K=>by
 rcases Bool.eq_false_or_eq_true b with hb | hb
 · exact k1 hb a (K.UN hs hb)
 · exact k2 hb a (K.UN hs hb)⟩
theorem gE {fn:Func} {code:Code} {fid:FuncId} {args:Array Value} {Rp:Ending→World→Prop} (hf:Tryz.prog.funcs[fid]? = some fn) (hN:fn.ntmps=N) (k:Mem w.heap.size w w []→∀a,Kn a N (G8 0 args.toList)→code.wp Tryz.prog (bodyPost Tryz.prog fn Rp) a w) (hb:fn.body=some code:=by exact rfl) (hs:Nat.ble args.size N=true:=by exact rfl):Calls Tryz.prog fid args w Rp:=hU hf hb hN hs (k (Mem.start w))
theorem JF (M:Mem base W w L) (K:Kd D a N l) (i:Nat) (ho:o.op = .store t x y:=by exact rfl) (ht:DH Tryz.prog t n=true:=by exact HH.out) (hx:g7 l x=some (.pointer (some ⟨g,0,none⟩)):=by exact rfl) (hi:L[i]? = some (.blk g t' cs):=by exact rfl) (hy:g7 l y=some (.agg ds.toArray):=by exact rfl) (h1:ds.all (·.oneCell')=true:=by exact rfl) (hn:ds.length=n:=by exact rfl) (hl:cs.length=n:=by exact rfl):Ac Tryz.prog o a w fun _ w'=>Mem base W w' (L.set i (.blk g t' ds)):=bV ho ht K hx hy h1 i M hi hn hl
theorem JG (M:Mem base W w L) (K:Kd D a N l) (i:Nat) (ho:o.op = .store t x y:=by exact rfl) (ht:Ju Tryz.prog t=true:=by exact G3.out) (hx:g7 l x=some (.pointer (some ⟨g,off,none⟩)):=by exact rfl) (hi:L[i]? = some (.blk g t' cs):=by exact rfl) (hy:g7 l y=some v:=by exact rfl) (h1:v.oneCell'=true:=by exact rfl) (hl:Nat.blt off cs.length=true:=by exact rfl):Ac Tryz.prog o a w fun _ w'=>Mem base W w' (L.set i (.blk g t' (cs.set off v))):=aO ho ht K hx hy h1 i M hi hl
theorem Mem.nQ (M:Mem base W w L):Mem base W w []:=M.pick [] (by decide)
theorem Mem.oQ {e:kH} (M:Mem base W w (e::L)):Mem base W w [e]:=M.pick [0] (by decide)
theorem aFU (M:Mem base W w L) (K:Kd D a N l) (ho:o.op = .box t x:=by exact rfl) (hx:g7 l x=some (.agg ds.toArray):=by exact rfl) (hc:(Value.agg ds.toArray).cells=ds.toArray:=by exact rfl):Ac Tryz.prog o a w fun v w'=>∃g,v = .pointer (some ⟨g,0,none⟩)∧Mem base W w' (.blk g t ds::L):=Fo ho K hx hc M
theorem aFV (M:Mem base W w L) (K:Kd D a N l) (ho:o.op = .box t x:=by exact rfl) (hx:g7 l x=some v:=by exact rfl) (hc:v.cells=[v].toArray:=by exact rfl):Ac Tryz.prog o a w fun v' w'=>∃g,v' = .pointer (some ⟨g,0,none⟩)∧Mem base W w' (.blk g t [v]::L):=Fo ho K hx hc M
theorem gfE {post:Value→World→Prop} {fi:FuncId} {vs:List Value} {args:Array Operand} {ts:Array TypeId} (X:Calls Tryz.prog fi vs.toArray w fun e w'=>∃v,e = .returned v∧post v w') (k:∀v w',post v w'→∀a,Kd D a N ((d,v)::l)→wpList Tryz.prog ops Q rest a w') (hf:iD Tryz.prog fi=true:=by exact kN.out) (hd:o.dst=some d:=by exact rfl) (hN:Nat.blt d N=true:=by exact rfl) (ho:o.op = .call { callee:=.value x,args:=args,argTypes:=ts }:=by exact rfl) (hx:g7 l x=some (.func (.func fi) #[] #[]):=by exact rfl) (hargs:args.toList.map (g7 l)=vs.map some:=by exact rfl) (hw:∀a,Kd D a N l→Region.wanted o (yielded ops a.tmps)=true:=by first | exact fun a K=>aA rfl | exact fun a K=>K.yes rfl rfl rfl):∀a,Kd D a N l→wpList Tryz.prog ops Q (o::rest) a w:=fun a K=>aBM K (hw a K) hd hN (pN hf K X ho hx hargs) fun v a w' hp K=>k v w' hp a K
end
theorem aK (n:Nat) {q p:Prop} (k:q) (H:Hq q→Ct n p:=by
 intro k
 (repeat (first
 | with_reducible (first | refine v6 ?_ | refine BW ?_ | refine BX ?_ | refine BY ?_ | refine v7 ?_ | refine v8 ?_ | refine rV ?_ | refine wC ?_ | refine wB ?_ | refine BZ ?_ | refine B1 ?_ | refine B3 ?_ | refine rW ?_ | refine wA ?_ | refine BV ?_)
 | refine B4 (by decide) ?_
 | refine BS M ?_
 | refine BU ?_
 | refine BT ?_
 | refine B7 ?_
 | refine B8 ?_
 | refine B5 rfl ?_
 | refine B6 rfl ?_))
 exact (⟨k.out⟩:Ct 0 _)):p:=(H ⟨k⟩).out
theorem gnE {base:Nat} {W w:World} {L:List kH} {D:List Deferred} {N:Nat} {l:List (Nat × Value)} {ops:Array Oper} {Q:Exit→Act→World→Prop} {rest:List Oper} {o:Oper} {d:Nat} {k:IntKind} {m n:Int} (hx:m=n) (M:Mem base W w L) (kk:∀a,Kd D a N ((d,.int k n)::l)→wpList Tryz.prog ops Q rest a w) (hr:∀a,Kd D a N l→Rd Tryz.prog (fun w=>Mem base W w L) a o (.int k m):=by intro a K;exact (by first | exact yA rfl K rfl | exact j3 rfl K rfl rfl | exact Fh rfl K rfl rfl | exact En rfl K rfl rfl | exact Hb rfl rfl IkI.out K rfl | exact Fi rfl K rfl rfl | exact gC rfl K rfl | exact rxQ K | exact Fk rfl K rfl rfl | exact Fj rfl K rfl rfl)) (hw:∀a,Kd D a N l→Region.wanted o (yielded ops a.tmps)=true:=by first | exact fun a K=>aA rfl | exact fun a K=>K.yes rfl rfl rfl) (hd:o.dst=some d:=by exact rfl) (hN:Nat.blt d N=true:=by exact rfl):∀a,Kd D a N l→wpList Tryz.prog ops Q (o::rest) a w:=aR (fun a K=>P6 hx (hr a K)) M kk hw hd hN
theorem zI (n:Nat) {e x:Int} (hx:e=x) {q p:Prop} (k:q) (H:e=x→Hq q→Ct n p:=by
 intro hx k
 (repeat (first
 | with_reducible (first | refine v6 ?_ | refine BW ?_ | refine BX ?_ | refine BY ?_ | refine v7 ?_ | refine v8 ?_ | refine rV ?_ | refine wC ?_ | refine wB ?_ | refine BZ ?_ | refine B1 ?_ | refine B3 ?_ | refine rW ?_ | refine wA ?_ | refine BV ?_)
 | refine B4 (by decide) ?_
 | refine BS M ?_
 | refine BU ?_
 | refine BT ?_
 | refine B7 ?_
 | refine B8 ?_
 | refine B5 rfl ?_
 | refine B6 rfl ?_))
 refine (⟨?_⟩:Ct 0 _)
 exact gnE hx M k.out):p:=(H hx ⟨k⟩).out
theorem aFW {base:Nat} {W w:World} {L:List kH} {D:List Deferred} {N:Nat} {l:List (Nat × Value)} {ops:Array Oper} {rest:List Oper} {R:Act→World→Prop} {o:Oper} {d:Nat} {k:IntKind} {m n:Int} (hx:m=n) (kk:∀a,Kd D a N ((d,.int k n)::l)→nU Tryz.prog ops (fun w=>Mem base W w L) R (marked [] rest) a w) (hr:∀a,Kd D a N l→Rd Tryz.prog (fun w=>Mem base W w L) a o (.int k m):=by intro a K;exact (by first | exact yA rfl K rfl | exact j3 rfl K rfl rfl | exact Fh rfl K rfl rfl | exact En rfl K rfl rfl | exact Hb rfl rfl IkI.out K rfl | exact Fi rfl K rfl rfl | exact gC rfl K rfl | exact rxQ K | exact Fk rfl K rfl rfl | exact Fj rfl K rfl rfl)) (hw:∀a,Kd D a N l→Region.wanted o (yielded ops a.tmps)=true:=by first | exact fun a K=>aA rfl | exact fun a K=>K.yes rfl rfl rfl) (hd:o.dst=some d:=by exact rfl) (hN:Nat.blt d N=true:=by exact rfl):∀a,Kd D a N l→nU Tryz.prog ops (fun w=>Mem base W w L) R (marked [] (o::rest)) a w:=gI (f:=[]) (fun a K=>P6 hx (hr a K)) kk hw hd hN
theorem aFX {base:Nat} {W w:World} {L:List kH} {D:List Deferred} {N:Nat} {l:List (Nat × Value)} {ops:Array Oper} {rest:List Oper} {f:List Nat} {R:Act→World→Prop} {o:Oper} {d:Nat} {k:IntKind} {m n:Int} (hx:m=n) (kk:∀a,Kd D a N ((d,.int k n)::l)→nU Tryz.prog ops (fun w=>Mem base W w L) R (marked f rest) a w) (hr:∀a,Kd D a N l→Rd Tryz.prog (fun w=>Mem base W w L) a o (.int k m):=by intro a K;exact (by first | exact yA rfl K rfl | exact j3 rfl K rfl rfl | exact Fh rfl K rfl rfl | exact En rfl K rfl rfl | exact Hb rfl rfl IkI.out K rfl | exact Fi rfl K rfl rfl | exact gC rfl K rfl | exact rxQ K | exact Fk rfl K rfl rfl | exact Fj rfl K rfl rfl)) (hw:∀a,Kd D a N l→Region.wanted o (yielded ops a.tmps)=true:=by first | exact fun a K=>aA rfl | exact fun a K=>K.yes rfl rfl rfl) (hd:o.dst=some d:=by exact rfl) (hN:Nat.blt d N=true:=by exact rfl):∀a,Kd D a N l→nU Tryz.prog ops (fun w=>Mem base W w L) R (marked (0::f) (o::rest)) a w:=gI (f:=f) (fun a K=>P6 hx (hr a K)) kk hw hd hN
theorem gmQ (n:Nat) {e x:Int} (hx:e=x) {q p:Prop} (k:q) (H:e=x→Hq q→Ct n p:=by
 intro hx k
 (repeat (first
 | with_reducible (first | refine v6 ?_ | refine BW ?_ | refine BX ?_ | refine BY ?_ | refine v7 ?_ | refine v8 ?_ | refine rV ?_ | refine wC ?_ | refine wB ?_ | refine BZ ?_ | refine B1 ?_ | refine B3 ?_ | refine rW ?_ | refine wA ?_ | refine BV ?_)
 | refine B4 (by decide) ?_
 | refine BS M ?_
 | refine BU ?_
 | refine BT ?_
 | refine B7 ?_
 | refine B8 ?_
 | refine B5 rfl ?_
 | refine B6 rfl ?_))
 refine (⟨?_⟩:Ct 0 _)
 first | exact aFW hx k.out | exact aFX hx k.out):p:=(H hx ⟨k⟩).out
theorem UF (n:Nat) {q p:Prop} (k:q) (H:Hq q→Ct n p:=by
 intro k
 (repeat (first
 | with_reducible (first | refine v6 ?_ | refine BW ?_ | refine BX ?_ | refine BY ?_ | refine v7 ?_ | refine v8 ?_ | refine rV ?_ | refine wC ?_ | refine wB ?_ | refine BZ ?_ | refine B1 ?_ | refine B3 ?_ | refine rW ?_ | refine wA ?_ | refine BV ?_)
 | refine B4 (by decide) ?_
 | refine BS M ?_
 | refine BU ?_
 | refine BT ?_
 | refine B7 ?_
 | refine B8 ?_
 | refine B5 rfl ?_
 | refine B6 rfl ?_))
 refine (⟨?_⟩:Ct 0 _)
 intro a K
 refine aN (fun w=>Mem _ _ w _) [] (by kernel_rfl) (by kernel_rfl) M.drew ?_
 revert a;exact k.out):p:=(H ⟨k⟩).out
theorem d7 (n:Nat) {b:Bool} {β:Type} {s t r:β} (h:cond b s t=r) {q1 q2 p:Prop} (k1:b=true→s=r→q1) (k2:b=false→t=r→q2) (H:Hq (b=true→q1)→Hq (b=false→q2)→Ct n p:=by
 intro k1 k2
 (repeat (first
 | with_reducible (first | refine v6 ?_ | refine BW ?_ | refine BX ?_ | refine BY ?_ | refine v7 ?_ | refine v8 ?_ | refine rV ?_ | refine wC ?_ | refine wB ?_ | refine BZ ?_ | refine B1 ?_ | refine B3 ?_ | refine rW ?_ | refine wA ?_ | refine BV ?_)
 | refine B4 (by decide) ?_
 | refine BS M ?_
 | refine BU ?_
 | refine BT ?_
 | refine B7 ?_
 | refine B8 ?_
 | refine B5 rfl ?_
 | refine B6 rfl ?_))
 exact gcE rfl k1.out k2.out):p:=(H ⟨fun hb=>k1 hb (lO hb h)⟩ ⟨fun hb=>k2 hb (iP hb h)⟩).out
structure Bx {α:Type} (x:α):Prop
theorem gkS {s:Nat} {D:List Deferred} {N:Nat} {l:List (Nat × Value)} {b:Bool} {G:Act→Prop} (_:Bx s) (k1:b=true→∀a,Kd D a N ((s,.bool true)::l)→G a) (k2:b=false→∀a,Kd D a N ((s,.bool false)::l)→G a) (hs:yJ l s=some (.bool b)):Ct 0 (∀a,Kd D a N l→G a):=gkE s hs k1 k2
theorem lG (n s:Nat) {b:Bool} {β:Type} {x t r:β} (h:cond b x t=r) {q1 q2 p:Prop} (k1:b=true→x=r→q1) (k2:b=false→t=r→q2) (H:Bx s→Hq (b=true→q1)→Hq (b=false→q2)→Ct n p:=by
 intro S0 k1 k2
 (repeat (first
 | with_reducible (first | refine v6 ?_ | refine BW ?_ | refine BX ?_ | refine BY ?_ | refine v7 ?_ | refine v8 ?_ | refine rV ?_ | refine wC ?_ | refine wB ?_ | refine BZ ?_ | refine B1 ?_ | refine B3 ?_ | refine rW ?_ | refine wA ?_ | refine BV ?_)
 | refine B4 (by decide) ?_
 | refine BS M ?_
 | refine BU ?_
 | refine BT ?_
 | refine B7 ?_
 | refine B8 ?_
 | refine B5 rfl ?_
 | refine B6 rfl ?_))
 exact gkS S0 k1.out k2.out rfl):p:=(H ⟨⟩ ⟨fun hb=>k1 hb (lO hb h)⟩ ⟨fun hb=>k2 hb (iP hb h)⟩).out
theorem j1 (n:Nat) {Y q p:Prop} (X:Y) (k:q) (H:Y→Hq q→Ct n p:=by
 intro X k
 (repeat (first
 | with_reducible (first | refine v6 ?_ | refine BW ?_ | refine BX ?_ | refine BY ?_ | refine v7 ?_ | refine v8 ?_ | refine rV ?_ | refine wC ?_ | refine wB ?_ | refine BZ ?_ | refine B1 ?_ | refine B3 ?_ | refine rW ?_ | refine wA ?_ | refine BV ?_)
 | refine B4 (by decide) ?_
 | refine BS M ?_
 | refine BU ?_
 | refine BT ?_
 | refine B7 ?_
 | refine B8 ?_
 | refine B5 rfl ?_
 | refine B6 rfl ?_))
 refine (⟨?_⟩:Ct 0 _)
 refine gfE X ?_
 first | (rintro _ w ⟨rfl,Z⟩;have M:=M.call Z;clear Z;revert w;exact k.out) | (rintro _ w ⟨A,c,rfl,Z⟩;have M:=M.call Z;clear Z;revert w;revert A c;exact k.out) | (rintro _ w ⟨A,c,A2,c2,rfl,Z⟩;have M:=M.call Z;clear Z;revert w;revert A c A2 c2;exact k.out) | (rintro _ w ⟨A,c,A2,c2,A3,c3,rfl,Z⟩;have M:=M.call Z;clear Z;revert w;revert A c A2 c2 A3 c3;exact k.out) | (rintro _ w ⟨A,c,A2,c2,A3,c3,A4,c4,rfl,Z⟩;have M:=M.call Z;clear Z;revert w;revert A c A2 c2 A3 c3 A4 c4;exact k.out)):p:=(H X ⟨k⟩).out
theorem gJ (n:Nat) {q p:Prop} (k:q) (H:Hq q→Ct n p:=by
 intro k
 (repeat (first
 | with_reducible (first | refine v6 ?_ | refine BW ?_ | refine BX ?_ | refine BY ?_ | refine v7 ?_ | refine v8 ?_ | refine rV ?_ | refine wC ?_ | refine wB ?_ | refine BZ ?_ | refine B1 ?_ | refine B3 ?_ | refine rW ?_ | refine wA ?_ | refine BV ?_)
 | refine B4 (by decide) ?_
 | refine BS M ?_
 | refine BU ?_
 | refine BT ?_
 | refine B7 ?_
 | refine B8 ?_
 | refine B5 rfl ?_
 | refine B6 rfl ?_))
 refine (⟨?_⟩:Ct 0 _)
 intro a K
 first | (refine jE K (aFV M K) ?_;rintro _ a w ⟨g,rfl,M⟩ K;revert a;revert w;revert g;exact k.out) | (refine jE K (aFU M K) ?_;rintro _ a w ⟨g,rfl,M⟩ K;revert a;revert w;revert g;exact k.out) | (refine jE K (eW rfl Cj.out M) ?_;rintro _ a w ⟨g,rfl,M⟩ K;revert a;revert w;revert g;exact k.out)):p:=(H ⟨k⟩).out
theorem eA (n:Nat) {q p:Prop} (k:q) (H:Hq q→Ct n p:=by
 intro k
 (repeat (first
 | with_reducible (first | refine v6 ?_ | refine BW ?_ | refine BX ?_ | refine BY ?_ | refine v7 ?_ | refine v8 ?_ | refine rV ?_ | refine wC ?_ | refine wB ?_ | refine BZ ?_ | refine B1 ?_ | refine B3 ?_ | refine rW ?_ | refine wA ?_ | refine BV ?_)
 | refine B4 (by decide) ?_
 | refine BS M ?_
 | refine BU ?_
 | refine BT ?_
 | refine B7 ?_
 | refine B8 ?_
 | refine B5 rfl ?_
 | refine B6 rfl ?_))
 refine (⟨?_⟩:Ct 0 _)
 intro a K
 first | refine sO K (JF M K 0) ?_ | refine sO K (JG M K 0) ?_ | refine sO K (JF M K 1) ?_ | refine sO K (JG M K 1) ?_ | refine sO K (JF M K 2) ?_ | refine sO K (JG M K 2) ?_ | refine sO K (JF M K 3) ?_ | refine sO K (JG M K 3) ?_ | refine sO K (JF M K 4) ?_ | refine sO K (JG M K 4) ?_ | refine sO K (JF M K 5) ?_ | refine sO K (JG M K 5) ?_ | refine sO K (JF M K 6) ?_ | refine sO K (JG M K 6) ?_ | refine sO K (JF M K 7) ?_ | refine sO K (JG M K 7) ?_ | refine sO K (JF M K 8) ?_ | refine sO K (JG M K 8) ?_ | refine sO K (JF M K 9) ?_ | refine sO K (JG M K 9) ?_ | refine sO K (JF M K 10) ?_ | refine sO K (JG M K 10) ?_ | refine sO K (JF M K 11) ?_ | refine sO K (JG M K 11) ?_
 rintro _ a w M K;revert a;revert w;exact k.out):p:=(H ⟨k⟩).out
theorem B9 {p:Prop} (h:p:=by first | exact dC K rfl | exact aU K rfl HH.out (M.aL (i:=0) rfl) rfl | exact dI K rfl G3.out (M.aL (i:=0) rfl) rfl | exact aU K rfl HH.out (M.aL (i:=1) rfl) rfl | exact dI K rfl G3.out (M.aL (i:=1) rfl) rfl | exact aU K rfl HH.out (M.aL (i:=2) rfl) rfl | exact dI K rfl G3.out (M.aL (i:=2) rfl) rfl | exact aU K rfl HH.out (M.aL (i:=3) rfl) rfl | exact dI K rfl G3.out (M.aL (i:=3) rfl) rfl | exact aU K rfl HH.out (M.aL (i:=4) rfl) rfl | exact dI K rfl G3.out (M.aL (i:=4) rfl) rfl | exact aU K rfl HH.out (M.aL (i:=5) rfl) rfl | exact dI K rfl G3.out (M.aL (i:=5) rfl) rfl | exact aU K rfl HH.out (M.aL (i:=6) rfl) rfl | exact dI K rfl G3.out (M.aL (i:=6) rfl) rfl | exact aU K rfl HH.out (M.aL (i:=7) rfl) rfl | exact dI K rfl G3.out (M.aL (i:=7) rfl) rfl | exact aU K rfl HH.out (M.aL (i:=8) rfl) rfl | exact dI K rfl G3.out (M.aL (i:=8) rfl) rfl | exact aU K rfl HH.out (M.aL (i:=9) rfl) rfl | exact dI K rfl G3.out (M.aL (i:=9) rfl) rfl | exact aU K rfl HH.out (M.aL (i:=10) rfl) rfl | exact dI K rfl G3.out (M.aL (i:=10) rfl) rfl | exact aU K rfl HH.out (M.aL (i:=11) rfl) rfl | exact dI K rfl G3.out (M.aL (i:=11) rfl) rfl):p:=h
theorem cB (n:Nat) {Y p:Prop} (X:Y) (H:Y→Ct n p:=by
 intro X
 (repeat (first
 | with_reducible (first | refine v6 ?_ | refine BW ?_ | refine BX ?_ | refine BY ?_ | refine v7 ?_ | refine v8 ?_ | refine rV ?_ | refine wC ?_ | refine wB ?_ | refine BZ ?_ | refine B1 ?_ | refine B3 ?_ | refine rW ?_ | refine wA ?_ | refine BV ?_)
 | refine B4 (by decide) ?_
 | refine BS M ?_
 | refine BU ?_
 | refine BT ?_
 | refine B7 ?_
 | refine B8 ?_
 | refine B5 rfl ?_
 | refine B6 rfl ?_))
 refine (⟨?_⟩:Ct 0 _)
 intro a K
 cases h
 first | exact qC K rfl B9  ⟨_,rfl,rfl,X⟩ | exact qC K rfl B9  ⟨_,rfl,_,_,rfl,X⟩ | exact qC K rfl B9  ⟨_,rfl,_,_,_,_,rfl,X⟩ | exact qC K rfl B9  ⟨_,rfl,_,_,_,_,_,_,rfl,X⟩ | exact qC K rfl B9  ⟨_,rfl,_,_,_,_,_,_,_,_,rfl,X⟩):p:=(H X).out
theorem bZ (n:Nat) {Y p:Prop} (X:Y) (H:Y→Ct n p:=by
 intro X
 (repeat (first
 | with_reducible (first | refine v6 ?_ | refine BW ?_ | refine BX ?_ | refine BY ?_ | refine v7 ?_ | refine v8 ?_ | refine rV ?_ | refine wC ?_ | refine wB ?_ | refine BZ ?_ | refine B1 ?_ | refine B3 ?_ | refine rW ?_ | refine wA ?_ | refine BV ?_)
 | refine B4 (by decide) ?_
 | refine BS M ?_
 | refine BU ?_
 | refine BT ?_
 | refine B7 ?_
 | refine B8 ?_
 | refine B5 rfl ?_
 | refine B6 rfl ?_))
 refine (⟨?_⟩:Ct 0 _)
 intro a K
 cases h
 first | exact Ki K rfl B9 B9  ⟨_,rfl,rfl,X⟩ | exact Ki K rfl B9 B9  ⟨_,rfl,_,_,rfl,X⟩ | exact Ki K rfl B9 B9  ⟨_,rfl,_,_,_,_,rfl,X⟩ | exact Ki K rfl B9 B9  ⟨_,rfl,_,_,_,_,_,_,rfl,X⟩ | exact Ki K rfl B9 B9  ⟨_,rfl,_,_,_,_,_,_,_,_,rfl,X⟩):p:=(H X).out
theorem HI (n:Nat) {Y p:Prop} (X:Y) (H:Y→Ct n p:=by
 intro X
 (repeat (first
 | with_reducible (first | refine v6 ?_ | refine BW ?_ | refine BX ?_ | refine BY ?_ | refine v7 ?_ | refine v8 ?_ | refine rV ?_ | refine wC ?_ | refine wB ?_ | refine BZ ?_ | refine B1 ?_ | refine B3 ?_ | refine rW ?_ | refine wA ?_ | refine BV ?_)
 | refine B4 (by decide) ?_
 | refine BS M ?_
 | refine BU ?_
 | refine BT ?_
 | refine B7 ?_
 | refine B8 ?_
 | refine B5 rfl ?_
 | refine B6 rfl ?_))
 refine (⟨?_⟩:Ct 0 _)
 intro a K
 cases h
 first | exact GC K rfl B9 B9 B9  ⟨_,rfl,rfl,X⟩ | exact GC K rfl B9 B9 B9  ⟨_,rfl,_,_,rfl,X⟩ | exact GC K rfl B9 B9 B9  ⟨_,rfl,_,_,_,_,rfl,X⟩ | exact GC K rfl B9 B9 B9  ⟨_,rfl,_,_,_,_,_,_,rfl,X⟩ | exact GC K rfl B9 B9 B9  ⟨_,rfl,_,_,_,_,_,_,_,_,rfl,X⟩):p:=(H X).out
theorem aGw (n:Nat) {Y p:Prop} (X:Y) (H:Y→Ct n p:=by
 intro X
 (repeat (first
 | with_reducible (first | refine v6 ?_ | refine BW ?_ | refine BX ?_ | refine BY ?_ | refine v7 ?_ | refine v8 ?_ | refine rV ?_ | refine wC ?_ | refine wB ?_ | refine BZ ?_ | refine B1 ?_ | refine B3 ?_ | refine rW ?_ | refine wA ?_ | refine BV ?_)
 | refine B4 (by decide) ?_
 | refine BS M ?_
 | refine BU ?_
 | refine BT ?_
 | refine B7 ?_
 | refine B8 ?_
 | refine B5 rfl ?_
 | refine B6 rfl ?_))
 refine (⟨?_⟩:Ct 0 _)
 intro a K
 cases h
 first | exact aAb K rfl B9 B9 B9 B9  ⟨_,rfl,rfl,X⟩ | exact aAb K rfl B9 B9 B9 B9  ⟨_,rfl,_,_,rfl,X⟩ | exact aAb K rfl B9 B9 B9 B9  ⟨_,rfl,_,_,_,_,rfl,X⟩ | exact aAb K rfl B9 B9 B9 B9  ⟨_,rfl,_,_,_,_,_,_,rfl,X⟩ | exact aAb K rfl B9 B9 B9 B9  ⟨_,rfl,_,_,_,_,_,_,_,_,rfl,X⟩):p:=(H X).out
theorem nS (n:Nat) {S:Type} (st:S) {Y p:Prop} (X:Y) (H:(∀{p q:S→Prop},p st→q st→∃s,p s∧q s)→Y→Ct n p:=by
 intro wt X
 (repeat (first
 | with_reducible (first | refine v6 ?_ | refine BW ?_ | refine BX ?_ | refine BY ?_ | refine v7 ?_ | refine v8 ?_ | refine rV ?_ | refine wC ?_ | refine wB ?_ | refine BZ ?_ | refine B1 ?_ | refine B3 ?_ | refine rW ?_ | refine wA ?_ | refine BV ?_)
 | refine B4 (by decide) ?_
 | refine BS M ?_
 | refine BU ?_
 | refine BT ?_
 | refine B7 ?_
 | refine B8 ?_
 | refine B5 rfl ?_
 | refine B6 rfl ?_))
 refine (⟨?_⟩:Ct 0 _)
 intro a K
 first | exact wt ⟨K.to,X⟩ h | exact wt ⟨_,_,K.to,X⟩ h | exact wt ⟨_,_,_,_,K.to,X⟩ h | exact wt ⟨_,_,_,_,_,_,K.to,X⟩ h | exact wt ⟨_,_,_,_,_,_,_,_,K.to,X⟩ h | exact wt ⟨_,_,_,_,_,_,_,_,_,_,K.to,X⟩ h):p:=(H (fun hp hq=>⟨st,hp,hq⟩) X).out
theorem oB (n:Nat) {F Y p:Prop} (f:F) (X:Y) (H:F→Y→Ct n p:=by
 intro f X
 (repeat (first
 | with_reducible (first | refine v6 ?_ | refine BW ?_ | refine BX ?_ | refine BY ?_ | refine v7 ?_ | refine v8 ?_ | refine rV ?_ | refine wC ?_ | refine wB ?_ | refine BZ ?_ | refine B1 ?_ | refine B3 ?_ | refine rW ?_ | refine wA ?_ | refine BV ?_)
 | refine B4 (by decide) ?_
 | refine BS M ?_
 | refine BU ?_
 | refine BT ?_
 | refine B7 ?_
 | refine B8 ?_
 | refine B5 rfl ?_
 | refine B6 rfl ?_))
 refine (⟨?_⟩:Ct 0 _)
 intro a K
 first | exact f _ _ ⟨K.to,X⟩ h | exact f _ _ ⟨_,_,K.to,X⟩ h | exact f _ _ ⟨_,_,_,_,K.to,X⟩ h | exact f _ _ ⟨_,_,_,_,_,_,K.to,X⟩ h | exact f _ _ ⟨_,_,_,_,_,_,_,_,K.to,X⟩ h | exact f _ _ ⟨_,_,_,_,_,_,_,_,_,_,K.to,X⟩ h):p:=(H f X).out
def LpT {St:Type} (Rel:St→Act→World→Prop) (id:Nat):Prop:=∀{Rt:Type} {P:Program} {Q:Exit→Act→World→Prop} {a:Act} {w:World} {kk:St→Option Rt} {lf:(St→Option Rt)→Nat→St→Option Rt} {r:Rt} {p:Code} {n:Nat} {st:St}
 (_:lf kk n st=some r) (_:∀kk st,lf kk 0 st=none) (_:Rel st a w) (_:∀st a w,Rel st a w→kk st=some r→Q (.exit id) a w)
 (_:∀(kk:St→Option Rt) n st a w,(∀st a w,Rel st a w→kk st=some r→Q (.exit id) a w)→Rel st a w→lf kk (n+1) st=some r→p.wp P (Exit.then (fun a w=>∃st,Rel st a w∧lf kk n st=some r) Q) a w),(Code.loop p).wp P Q a w
theorem tI (n id:Nat) {S:Type} (Rel:S→Act→World→Prop) {Y q1 q2 p:Prop} (X:Y) (k1:q1) (k2:q2) (H:LpT Rel id→Y→Hq q1→Hq q2→Ct n p:=by
 intro lp X k1 k2
 (repeat (first
 | with_reducible (first | refine v6 ?_ | refine BW ?_ | refine BX ?_ | refine BY ?_ | refine v7 ?_ | refine v8 ?_ | refine rV ?_ | refine wC ?_ | refine wB ?_ | refine BZ ?_ | refine B1 ?_ | refine B3 ?_ | refine rW ?_ | refine wA ?_ | refine BV ?_)
 | refine B4 (by decide) ?_
 | refine BS M ?_
 | refine BU ?_
 | refine BT ?_
 | refine B7 ?_
 | refine B8 ?_
 | refine B5 rfl ?_
 | refine B6 rfl ?_))
 refine (⟨?_⟩:Ct 0 _)
 intro a K
 refine lp h (fun _ _=>rfl) ?_ k1.out k2.out
 first | exact ⟨K.to,X⟩ | exact ⟨_,_,K.to,X⟩ | exact ⟨_,_,_,_,K.to,X⟩ | exact ⟨_,_,_,_,_,_,K.to,X⟩ | exact ⟨_,_,_,_,_,_,_,_,K.to,X⟩ | exact ⟨_,_,_,_,_,_,_,_,_,_,K.to,X⟩):p:=(H (fun h hz h0 hk rd=>Tw h hz h0 hk rd) X ⟨k1⟩ ⟨k2⟩).out
instance:BR 23 0 0:=⟨aG⟩
instance:BR 23 1 1:=⟨aG⟩
instance:BR 23 2 2:=⟨aG⟩
instance:BR 23 3 3:=⟨aG⟩
instance:BR 25 0 0:=⟨aG⟩
instance:BR 25 1 1:=⟨aG⟩
instance:BR 25 2 5:=⟨aG⟩
instance:BR 25 3 6:=⟨aG⟩
instance:BR 32 0 0:=⟨aG⟩
instance:BR 32 1 1:=⟨aG⟩
instance:BR 32 2 2:=⟨aG⟩
instance:BR 44 0 0:=⟨S7⟩
instance:BR 44 1 1:=⟨NO⟩
instance:BR 44 2 5:=⟨NP⟩
instance:BR 44 3 6:=⟨EB⟩
instance:BR 44 4 7:=⟨NQ⟩
instance:BR 44 5 10:=⟨NR⟩
instance:BR 44 6 19:=⟨Hy⟩
instance:BR 44 7 20:=⟨NS⟩
instance:BR 46 0 0:=⟨S8⟩
instance:BR 46 1 1:=⟨S9⟩
instance:BR 46 2 2:=⟨Ta⟩
instance:BR 46 3 3:=⟨Tb⟩
instance:BR 46 4 4:=⟨Tc⟩
instance:BR 46 5 5:=⟨NT⟩
instance:BR 46 6 6:=⟨NU⟩
instance:BR 46 7 7:=⟨Td⟩
instance:BR 50 0 0:=⟨EC⟩
instance:BR 50 1 1:=⟨aG⟩
instance:BR 50 2 2:=⟨ED⟩
instance:BR 59 0 0:=⟨AV⟩
instance:BR 59 1 1:=⟨AW⟩
instance:BR 59 2 2:=⟨AX⟩
instance:BR 72 0 0:=⟨FZ⟩
instance:BR 81 0 0:=⟨aG⟩
instance:BR 81 1 1:=⟨aG⟩
instance:BR 82 0 0:=⟨aG⟩
instance:BR 82 1 1:=⟨aG⟩
instance:BR 94 0 0:=⟨aG⟩
instance:BR 94 1 1:=⟨aG⟩
instance:BR 94 2 2:=⟨aG⟩
instance:BR 112 0 0:=⟨aG⟩
instance:BR 165 0 0:=⟨aG⟩
instance:BR 166 0 0:=⟨aG⟩
instance:BR 167 0 0:=⟨aG⟩
instance:BR 168 0 0:=⟨aG⟩
instance:BR 169 0 0:=⟨aG⟩
instance:BR 170 0 0:=⟨aG⟩
instance:BR 171 0 0:=⟨aG⟩
instance:UnI 30:=⟨LD⟩
instance:UnI 36:=⟨LE⟩
instance:UnI 37:=⟨aFP⟩
instance:UnI 39:=⟨aAa⟩
instance:UnI 42:=⟨aCM⟩
instance:UnI 84:=⟨aFS⟩
instance:UnI 101:=⟨aD2⟩
instance:UnI 172:=⟨aAE⟩
instance:G3 3:=⟨jK⟩
instance:G3 4:=⟨aG⟩
instance:G3 5:=⟨sc5⟩
instance:G3 9:=⟨Qh⟩
instance:G3 26:=⟨vY⟩
instance:G3 30:=⟨aCK⟩
instance:G3 36:=⟨I0⟩
instance:G3 37:=⟨aCL⟩
instance:G3 39:=⟨LF⟩
instance:G3 42:=⟨Pi⟩
instance:G3 70:=⟨Di⟩
instance:G3 79:=⟨JE⟩
instance:G3 99:=⟨aG⟩
instance:G3 101:=⟨HD⟩
instance:G3 174:=⟨aG⟩
instance:G3 271:=⟨aG⟩
instance:HH 23 4:=⟨aG⟩
instance:HH 25 7:=⟨aG⟩
instance:HH 32 3:=⟨sQ⟩
instance:HH 38 4:=⟨aDY⟩
instance:HH 40 3:=⟨aG⟩
instance:HH 41 9:=⟨aG⟩
instance:HH 44 21:=⟨aCN⟩
instance:HH 46 28:=⟨u9⟩
instance:HH 50 3:=⟨DR⟩
instance:HH 59 3:=⟨vZ⟩
instance:HH 81 2:=⟨UD⟩
instance:HH 82 2:=⟨Pj⟩
instance:HH 88 2:=⟨aD0⟩
instance:HH 94 3:=⟨aD1⟩
instance:HH 95 27:=⟨aG⟩
instance:Cj 1 [.nilFunc]:=⟨z1⟩
instance:Cj 2 [.int .i64 0]:=⟨z2⟩
instance:Cj 3 [.int .i64 0]:=⟨z3⟩
instance:Cj 4 [.bool false]:=⟨z4⟩
instance:Cj 5 [.int .u8 0]:=⟨z5⟩
instance:Cj 9 [.string (bs ([]:List UInt8))]:=⟨z9⟩
instance:Cj 20 [.nilIface]:=⟨z20⟩
instance:Cj 21 [.int .i32 0]:=⟨z21⟩
instance:Cj 25 [.int .i64 0,.int .i64 0,.int .i64 0,.int .i64 0,.int .i64 0,.int .i64 0,.bool false]:=⟨aG⟩
instance:Cj 26 [.int .i64 0]:=⟨z26⟩
instance:Cj 32 [.int .i64 0,.int .i64 0,.slice none 0 0]:=⟨z32⟩
instance:Cj 37 [.slice none 0 0]:=⟨z37⟩
instance:Cj 40 [.int .i64 0,.int .i64 0,.int .i64 0]:=⟨aG⟩
instance:Cj 44 [.int .i64 0,.int .i64 0,.int .i64 0,.int .i64 0,.int .i64 0,.int .i64 0,.slice none 0 0,.int .i64 0,.int .i64 0,.int .i64 0,.int .i64 0,.int .i64 0,.int .i64 0,.int .i64 0,.int .i64 0,.int .i64 0,.int .i64 0,.int .i64 0,.int .i64 0,.slice none 0 0,.int .i64 0]:=⟨aG⟩
instance:Cj 46 [.int .i64 0,.int .i64 0,.int .i64 0,.int .i64 0,.int .i64 0,.slice none 0 0,.slice none 0 0,.int .i64 0,.int .i64 0,.int .i64 0,.int .i64 0,.int .i64 0,.int .i64 0,.slice none 0 0,.int .i64 0,.int .i64 0,.int .i64 0,.int .i64 0,.int .i64 0,.int .i64 0,.int .i64 0,.int .i64 0,.int .i64 0,.int .i64 0,.int .i64 0,.int .i64 0,.slice none 0 0,.int .i64 0]:=⟨z46⟩
instance:Cj 50 [.int .i64 0,.int .i64 0,.slice none 0 0]:=⟨z50⟩
instance:Cj 59 [.int .i64 0,.int .i64 0,.int .i64 0]:=⟨z59⟩
instance:Cj 70 [.pointer none]:=⟨z70⟩
instance:Cj 72 [.string (bs ([]:List UInt8))]:=⟨z72⟩
instance:Cj 75 []:=⟨z75⟩
instance:Cj 76 [.int .i64 0,.int .i64 0,.int .i64 0,.int .i64 0,.int .i64 0]:=⟨z76⟩
instance:Cj 79 [.pointer none]:=⟨z79⟩
instance:Cj 80 [.int .i64 0,.int .i64 0]:=⟨z80⟩
instance:Cj 81 [.int .i64 0,.int .i64 0]:=⟨UV⟩
instance:Cj 82 [.int .i64 0,.int .i64 0]:=⟨z82⟩
instance:Cj 85 [.nilFunc]:=⟨z85⟩
instance:Cj 88 [.int .i64 0,.int .i64 0]:=⟨z88⟩
instance:Cj 94 [.bool false,.bool false,.bool false]:=⟨aG⟩
instance:Cj 95 [.bool false,.bool false,.bool false,.bool false,.bool false,.bool false,.bool false,.bool false,.bool false,.bool false,.bool false,.bool false,.bool false,.bool false,.bool false,.bool false,.bool false,.bool false,.bool false,.bool false,.bool false,.bool false,.bool false,.bool false,.bool false,.bool false,.bool false]:=⟨aG⟩
instance:Cj 99 [.nilFunc]:=⟨aG⟩
instance:Cj 105 [.nilIface]:=⟨z105⟩
instance:Cj 116 [.nilFunc]:=⟨z116⟩
instance:Cj 117 [.nilFunc]:=⟨z117⟩
instance:Cj 124 [.nilFunc]:=⟨z124⟩
instance:Cj 127 [.nilFunc]:=⟨z127⟩
instance:Cj 138 [.nilFunc]:=⟨z138⟩
instance:Cj 139 [.nilFunc]:=⟨z139⟩
instance:Cj 143 [.pointer none]:=⟨z143⟩
instance:Cj 145 [.nilFunc]:=⟨z145⟩
instance:Cj 146 [.nilFunc]:=⟨z146⟩
instance:Cj 164 [.int .i64 0,.int .i64 0,.int .i64 0,.int .i64 0,.int .i64 0,.int .i64 0,.slice none 0 0,.int .i64 0,.int .i64 0,.int .i64 0,.int .i64 0,.int .i64 0,.int .i64 0,.int .i64 0,.int .i64 0,.int .i64 0,.int .i64 0,.int .i64 0,.int .i64 0,.slice none 0 0,.int .i64 0]:=⟨z164⟩
instance:Cj 167 [.int .i64 0,.int .i64 0,.int .i64 0,.int .i64 0,.int .i64 0,.int .i64 0,.slice none 0 0,.int .i64 0,.int .i64 0,.int .i64 0,.int .i64 0,.int .i64 0,.int .i64 0,.int .i64 0,.int .i64 0,.int .i64 0,.int .i64 0,.int .i64 0,.int .i64 0,.slice none 0 0,.int .i64 0]:=⟨z167⟩
instance:Cj 168 [.int .i64 0,.int .i64 0,.int .i64 0,.int .i64 0,.int .i64 0,.int .i64 0,.slice none 0 0,.int .i64 0,.int .i64 0,.int .i64 0,.int .i64 0,.int .i64 0,.int .i64 0,.int .i64 0,.int .i64 0,.int .i64 0,.int .i64 0,.int .i64 0,.int .i64 0,.slice none 0 0,.int .i64 0]:=⟨z168⟩
instance:Cj 171 [.int .i64 0,.int .i64 0,.int .i64 0,.int .i64 0,.int .i64 0,.int .i64 0,.slice none 0 0,.int .i64 0,.int .i64 0,.int .i64 0,.int .i64 0,.int .i64 0,.int .i64 0,.int .i64 0,.int .i64 0,.int .i64 0,.int .i64 0,.int .i64 0,.int .i64 0,.slice none 0 0,.int .i64 0]:=⟨z171⟩
instance:Cj 173 [.nilIface]:=⟨z173⟩
instance:Cj 174 [.nilIface]:=⟨aD3⟩
instance:Cj 233 [.nilFunc]:=⟨z233⟩
instance:Cj 271 [.nilFunc]:=⟨aG⟩
instance:LG 22 [.int .i64 0,.int .i64 0,.int .i64 0,.int .i64 0]:=⟨by kernel_rfl⟩
instance:LG 23 [.int .i64 0,.int .i64 0,.int .i64 0,.int .i64 0]:=⟨by kernel_rfl⟩
instance:LG 31 [.int .i64 0,.int .i64 0,.slice none 0 0]:=⟨by kernel_rfl⟩
instance:LG 32 [.int .i64 0,.int .i64 0,.slice none 0 0]:=⟨by kernel_rfl⟩
instance:LG 45 [.int .i64 0,.int .i64 0,.int .i64 0,.int .i64 0,.int .i64 0,.slice none 0 0,.slice none 0 0,.int .i64 0,.int .i64 0,.int .i64 0,.int .i64 0,.int .i64 0,.int .i64 0,.slice none 0 0,.int .i64 0,.int .i64 0,.int .i64 0,.int .i64 0,.int .i64 0,.int .i64 0,.int .i64 0,.int .i64 0,.int .i64 0,.int .i64 0,.int .i64 0,.int .i64 0,.slice none 0 0,.int .i64 0]:=⟨by kernel_rfl⟩
instance:LG 46 [.int .i64 0,.int .i64 0,.int .i64 0,.int .i64 0,.int .i64 0,.slice none 0 0,.slice none 0 0,.int .i64 0,.int .i64 0,.int .i64 0,.int .i64 0,.int .i64 0,.int .i64 0,.slice none 0 0,.int .i64 0,.int .i64 0,.int .i64 0,.int .i64 0,.int .i64 0,.int .i64 0,.int .i64 0,.int .i64 0,.int .i64 0,.int .i64 0,.int .i64 0,.int .i64 0,.slice none 0 0,.int .i64 0]:=⟨by kernel_rfl⟩
instance:LG 49 [.int .i64 0,.int .i64 0,.slice none 0 0]:=⟨by kernel_rfl⟩
instance:LG 50 [.int .i64 0,.int .i64 0,.slice none 0 0]:=⟨by kernel_rfl⟩
instance:LG 74 []:=⟨by kernel_rfl⟩
instance:LG 75 []:=⟨by kernel_rfl⟩
instance:LG 80 [.int .i64 0,.int .i64 0]:=⟨by kernel_rfl⟩
instance:LG 81 [.int .i64 0,.int .i64 0]:=⟨by kernel_rfl⟩
instance:LG 82 [.int .i64 0,.int .i64 0]:=⟨by kernel_rfl⟩
instance:LG 93 [.bool false,.bool false,.bool false]:=⟨by kernel_rfl⟩
instance:LG 94 [.bool false,.bool false,.bool false]:=⟨by kernel_rfl⟩
instance:LG 111 [.slice none 0 0]:=⟨by kernel_rfl⟩
instance:LG 112 [.slice none 0 0]:=⟨by kernel_rfl⟩
instance:LG 253 []:=⟨by kernel_rfl⟩
instance:LG 254 []:=⟨by kernel_rfl⟩
instance:LG 255 []:=⟨by kernel_rfl⟩
instance:kN 4:=⟨aG⟩
instance:kN 5:=⟨aG⟩
instance:kN 6:=⟨aG⟩
instance:kN 7:=⟨aG⟩
instance:kN 8:=⟨aG⟩
instance:kN 9:=⟨aG⟩
instance:kN 10:=⟨aG⟩
instance:kN 11:=⟨aG⟩
instance:kN 12:=⟨aG⟩
instance:kN 13:=⟨aG⟩
instance:kN 14:=⟨aG⟩
instance:kN 15:=⟨aG⟩
instance:kN 16:=⟨aG⟩
instance:kN 17:=⟨aG⟩
instance:kN 18:=⟨Tf⟩
instance:kN 19:=⟨pW⟩
instance:kN 20:=⟨Jf⟩
instance:kN 21:=⟨fP⟩
instance:kN 22:=⟨Pk⟩
instance:kN 23:=⟨Pl⟩
instance:kN 24:=⟨aAF⟩
instance:kN 25:=⟨aAG⟩
instance:kN 26:=⟨aAH⟩
instance:kN 27:=⟨aAI⟩
instance:kN 28:=⟨aAJ⟩
instance:kN 29:=⟨aG⟩
instance:kN 30:=⟨aG⟩
instance:kN 31:=⟨aG⟩
instance:kN 32:=⟨aAK⟩
instance:kN 33:=⟨aG⟩
instance:kN 34:=⟨aG⟩
instance:kN 35:=⟨WZ⟩
instance:kN 36:=⟨aG⟩
instance:kN 37:=⟨aG⟩
instance:kN 38:=⟨aG⟩
instance:kN 39:=⟨aG⟩
instance:kN 40:=⟨W1⟩
instance:kN 41:=⟨W2⟩
instance:kN 42:=⟨W4⟩
instance:kN 43:=⟨Gh⟩
instance:kN 44:=⟨KT⟩
instance:kN 45:=⟨Pm⟩
instance:kN 46:=⟨Po⟩
instance:kN 47:=⟨W5⟩
instance:kN 48:=⟨DC⟩
instance:kN 49:=⟨aG⟩
instance:kN 50:=⟨aG⟩
instance:kN 51:=⟨aG⟩
instance:kN 52:=⟨aG⟩
instance:kN 53:=⟨aG⟩
instance:kN 54:=⟨aG⟩
instance:kN 55:=⟨aAL⟩
instance:kN 56:=⟨aG⟩
instance:kN 57:=⟨aG⟩
instance:kN 58:=⟨aAM⟩
instance:kN 59:=⟨aG⟩
instance:kN 60:=⟨aG⟩
instance:kN 61:=⟨W6⟩
instance:kN 62:=⟨KU⟩
instance:kN 63:=⟨aAN⟩
instance:kN 64:=⟨aG⟩
instance:kN 65:=⟨aG⟩
instance:kN 66:=⟨aG⟩
instance:kN 68:=⟨Tg⟩
instance:kN 69:=⟨W7⟩
instance:kN 70:=⟨Th⟩
instance:kN 71:=⟨aG⟩
instance:kN 72:=⟨Ti⟩
instance:kN 73:=⟨FF⟩
instance:kN 74:=⟨W8⟩
instance:kN 76:=⟨aAO⟩
instance:kN 77:=⟨aAP⟩
instance:kN 78:=⟨aAQ⟩
instance:kN 79:=⟨aG⟩
instance:kN 80:=⟨aG⟩
instance:kN 81:=⟨aG⟩
instance:kN 82:=⟨aG⟩
instance:kN 83:=⟨aG⟩
instance:kN 86:=⟨aG⟩
instance:kN 87:=⟨aG⟩
instance:kN 88:=⟨W9⟩
instance:kN 89:=⟨Xa⟩
instance:kN 90:=⟨aAR⟩
instance:kN 91:=⟨aG⟩
instance:kN 92:=⟨Pp⟩
instance:kN 93:=⟨aG⟩
instance:kN 94:=⟨aG⟩
instance:kN 95:=⟨aAS⟩
instance:kN 96:=⟨aAT⟩
instance:kN 97:=⟨aG⟩
instance:kN 98:=⟨Tj⟩
instance:kN 99:=⟨aG⟩
instance:kN 102:=⟨aG⟩
instance:kN 103:=⟨aG⟩
instance:kN 104:=⟨aG⟩
instance:kN 105:=⟨Xb⟩
instance:kN 106:=⟨aG⟩
instance:kN 107:=⟨aG⟩
instance:kN 113:=⟨aG⟩
instance:kN 114:=⟨aG⟩
instance:kN 115:=⟨aG⟩
instance:kN 117:=⟨aG⟩
instance:kN 118:=⟨aG⟩
instance:kN 119:=⟨Xc⟩
instance:kN 124:=⟨Xd⟩
instance:kN 125:=⟨Xe⟩
instance:kN 126:=⟨Xf⟩
instance:kN 128:=⟨aG⟩
instance:kN 136:=⟨Xg⟩
instance:kN 137:=⟨aG⟩
instance:kN 138:=⟨aG⟩
instance:kN 143:=⟨Xh⟩
instance:kN 144:=⟨aG⟩
instance:kN 160:=⟨Xi⟩
instance:kN 189:=⟨Xj⟩
instance:kN 190:=⟨aG⟩
instance:kN 191:=⟨Ru⟩
instance:kN 192:=⟨Xk⟩
instance:kN 193:=⟨Xl⟩
instance:kN 194:=⟨aG⟩
instance:kN 195:=⟨Rv⟩
instance:kN 196:=⟨Xm⟩
instance:kN 197:=⟨aG⟩
instance:kN 198:=⟨Xn⟩
instance:kN 199:=⟨Xo⟩
instance:kN 200:=⟨Xp⟩
instance:kN 201:=⟨Xq⟩
instance:kN 202:=⟨aG⟩
instance:kN 203:=⟨NV⟩
instance:kN 204:=⟨Xr⟩
instance:kN 205:=⟨aG⟩
instance:kN 206:=⟨Rw⟩
instance:kN 207:=⟨Xs⟩
instance:kN 208:=⟨aG⟩
instance:kN 209:=⟨Rx⟩
instance:kN 210:=⟨Xt⟩
instance:kN 211:=⟨aG⟩
instance:kN 212:=⟨NW⟩
instance:kN 213:=⟨Ry⟩
instance:SlI 30 59 3 24:=⟨lE⟩
instance:SlI 36 3 1 8:=⟨fM⟩
instance:SlI 37 9 1 16:=⟨FE⟩
instance:SlI 39 81 2 16:=⟨EA⟩
instance:SlI 42 82 2 16:=⟨BI⟩
instance:SlI 84 88 2 16:=⟨UE⟩
instance:SlI 101 5 1 1:=⟨qX⟩
instance:SlI 172 174 1 16:=⟨Gg⟩
instance:IkI 3 .i64:=⟨ik3⟩
instance:IkI 5 .u8:=⟨Z9⟩
instance:IkI 21 .i32:=⟨aG⟩
instance:IkI 68 .u64:=⟨aG⟩
instance:IkI 159 .u16:=⟨aG⟩
instance:StI 9:=⟨rS⟩
theorem Mem.tA {base:Nat} {W w:World} {x0 x1:kH} {TL:List kH} (M:Mem base W w (x0::x1::TL)):Mem base W w (x1::x0::TL):=Mem.p9 (H:=[x0,x1]) 2 rfl M [1,0] (by decide) (by decide)
theorem Mem.Ec {base:Nat} {W w:World} {x0 x1 x2:kH} {TL:List kH} (M:Mem base W w (x0::x1::x2::TL)):Mem base W w (x1::x2::x0::TL):=Mem.p9 (H:=[x0,x1,x2]) 3 rfl M [1,2,0] (by decide) (by decide)
theorem Mem.Pq {base:Nat} {W w:World} {x0 x1 x2:kH} {TL:List kH} (M:Mem base W w (x0::x1::x2::TL)):Mem base W w (x2::x0::x1::TL):=Mem.p9 (H:=[x0,x1,x2]) 3 rfl M [2,0,1] (by decide) (by decide)
theorem Mem.GR {base:Nat} {W w:World} {x0 x1 x2 x3:kH} {TL:List kH} (M:Mem base W w (x0::x1::x2::x3::TL)):Mem base W w (x2::x3::x0::x1::TL):=Mem.p9 (H:=[x0,x1,x2,x3]) 4 rfl M [2,3,0,1] (by decide) (by decide)
theorem GS {N:Nat} {w0:World} {r:List Int} (h:xS N  = some r) :
  Calls Tryz.prog 50 #[] w0 fun e w'=>∃v,e = .returned v∧∃A0 c0,v = .slice A0 r.length c0∧Mem w0.heap.size w0 w' [.row 3 1 A0 r.length c0 ((cI .i64).all r)]:=by
 refine gE Tryz.func50 Tryz.ntmps50 ?_;intro M;unfold xS at h;refine aK 7 ?_;intro a K;refine jE K (cA rfl fM z3 K (vs:=[(0,I 2),(1,I 3),(2,I 3),(3,I 4),(4,I 4),(5,I 4),(6,I 5),(7,I 5),(8,I 5),(9,I 6),(10,I 6),(11,I 6),(12,I 7),(13,I 7),(14,I 7),(15,I 8),(16,I 8)]) (cs:=[I 2,I 3,I 3,I 4,I 4,I 4,I 5,I 5,I 5,I 6,I 6,I 6,I 7,I 7,I 7,I 8,I 8]) rfl aG rfl rfl M) ?_;have M0:=M;clear K M;rintro _ a w ⟨gs,rfl,M⟩ K;replace M:=M.jM 0 rfl (cI .i64) ([2,3,3,4,4,4,5,5,5,6,6,6,7,7,7,8,8]:List Int) (n:=17) rfl rfl rfl;clear M0;revert a;exact cB 4 (M.pick [0] aD)
theorem FG {N:Nat} {w0:World} {r:List (Int × Int)} (h:uY N  = some r) :
  Calls Tryz.prog 81 #[] w0 fun e w'=>∃v,e = .returned v∧∃A0 c0,v = .slice A0 r.length c0∧Mem w0.heap.size w0 w' [.row 82 2 A0 r.length c0 (fA.all r)]:=by
 refine gE Tryz.func81 Tryz.ntmps81 ?_;intro M;unfold uY at h;refine aK 8 ?_;refine aR (fun _ K=>aP rfl K (vs:=[(0,I 65535),(1,I 65535)]) (cs:=[I 65535,I 65535]) rfl aG) M ?_;intro a K;refine jE K (cA rfl BI z82 K (vs:=[(0,.agg #[I 0,I 0]),(1,.agg #[I 65535,I 65535])]) (cs:=[I 0,I 0,I 65535,I 65535]) rfl aG rfl rfl M) ?_;have M0:=M;clear K M;rintro _ a w ⟨gs,rfl,M⟩ K;replace M:=M.jM 0 rfl fA ([(0,0),(65535,65535)]:List (Int × Int)) (n:=2) rfl rfl rfl;clear M0;revert a;exact cB 4 (M.pick [0] aD)
theorem FH {N:Nat} {w0:World} {r:Int × Int × Int × Int × Int × Int × List (Int × Int) × Int × Int × Int × Int × Int × Int × Int × Int × Int × Int × Int × Int × List (Int × Int) × Int} (h:uZ N  = some r) :
  Calls Tryz.prog 51 #[] w0 fun e w'=>∃v,e = .returned v∧∃A6 c6 UW c19,v = .agg #[I r.1,I r.2.1,I r.2.2.1,I r.2.2.2.1,I r.2.2.2.2.1,I r.2.2.2.2.2.1,.slice A6 r.2.2.2.2.2.2.1.length c6,I r.2.2.2.2.2.2.2.1,I r.2.2.2.2.2.2.2.2.1,I r.2.2.2.2.2.2.2.2.2.1,I r.2.2.2.2.2.2.2.2.2.2.1,I r.2.2.2.2.2.2.2.2.2.2.2.1,I r.2.2.2.2.2.2.2.2.2.2.2.2.1,I r.2.2.2.2.2.2.2.2.2.2.2.2.2.1,I r.2.2.2.2.2.2.2.2.2.2.2.2.2.2.1,I r.2.2.2.2.2.2.2.2.2.2.2.2.2.2.2.1,I r.2.2.2.2.2.2.2.2.2.2.2.2.2.2.2.2.1,I r.2.2.2.2.2.2.2.2.2.2.2.2.2.2.2.2.2.1,I r.2.2.2.2.2.2.2.2.2.2.2.2.2.2.2.2.2.2.1,.slice UW r.2.2.2.2.2.2.2.2.2.2.2.2.2.2.2.2.2.2.2.1.length c19,I r.2.2.2.2.2.2.2.2.2.2.2.2.2.2.2.2.2.2.2.2]∧Mem w0.heap.size w0 w' [.row 81 2 A6 r.2.2.2.2.2.2.1.length c6 (fA.all r.2.2.2.2.2.2.1),.row 82 2 UW r.2.2.2.2.2.2.2.2.2.2.2.2.2.2.2.2.2.2.2.1.length c19 (fA.all r.2.2.2.2.2.2.2.2.2.2.2.2.2.2.2.2.2.2.2.1)]:=by
 refine gE Tryz.func51 Tryz.ntmps51 ?_;intro M;unfold uZ at h;refine gJ 2 ?_;intro dB w M;refine aK 4 ?_;refine aR (fun _ K=>aP rfl K (vs:=[(0,I 256),(1,I 256),(2,I 256)]) (cs:=[I 256,I 256,I 256]) rfl aG) M ?_;refine aR (fun _ K=>aP rfl K (vs:=[(0,I 4096),(1,I 0),(2,I 0),(3,I 0),(4,I 4096),(5,I 0),(6,I 0),(7,I 0),(8,I 4096)]) (cs:=[I 4096,I 0,I 0,I 0,I 4096,I 0,I 0,I 0,I 4096]) rfl aG) M ?_;obtain ⟨r2,dM,h⟩:=aB h;refine j1 0 (FG dM) ?_;intro A c w M;refine aR (fun _ K=>aP rfl K (vs:=[(2,I 65535),(4,.agg #[I 256,I 256,I 256]),(5,.agg #[I 4096,I 0,I 0,I 0,I 4096,I 0,I 0,I 0,I 4096]),(6,.slice A r2.length c),(7,I 64)]) (cs:=[I 0,I 0,I 0,I 0,I 0,I 65535,.slice none (([]:List (Int × Int))).length 0,I 256,I 256,I 256,I 4096,I 0,I 0,I 0,I 4096,I 0,I 0,I 0,I 4096,.slice A r2.length c,I 64]) rfl aG) M ?_;refine eA 0 ?_;intro w M;exact cB 3 (((Mem.aF 81 2 fA M)).pick [0,1] aD)
theorem FI {N:Nat} {w0:World} {r:Int × Int × List Int} (h:u0 N  = some r) :
  Calls Tryz.prog 52 #[] w0 fun e w'=>∃v,e = .returned v∧∃A2 c2,v = .agg #[I r.1,I r.2.1,.slice A2 r.2.2.length c2]∧Mem w0.heap.size w0 w' [.row 3 1 A2 r.2.2.length c2 ((cI .i64).all r.2.2)]:=by
 refine gE Tryz.func52 Tryz.ntmps52 ?_;intro M;unfold u0 at h;refine gJ 2 ?_;intro dB w M;refine aK 4 ?_;intro a K;refine jE K (cA rfl fM z3 K (vs:=[(0,I 10),(1,I 65535),(2,I 0),(3,I 7)]) (cs:=[I 10,I 65535,I 0,I 7]) rfl aG rfl rfl M) ?_;have M0:=M;clear K M;rintro _ a w ⟨gs,rfl,M⟩ K;replace M:=M.jM 0 rfl (cI .i64) ([10,65535,0,7]:List Int) (n:=4) rfl rfl rfl;clear M0;revert a;refine aR (fun _ K=>aP rfl K (vs:=[(0,I 2),(1,I 2),(2,.slice (some ⟨gs,0,none⟩) ([10,65535,0,7]:List Int).length 4)]) (cs:=[I 2,I 2,.slice (some ⟨gs,0,none⟩) ([10,65535,0,7]:List Int).length 4]) rfl aG) M ?_;refine eA 0 ?_;intro w M;exact cB 3 (M.pick [0] aD)
theorem lF {N:Nat} {s:List (Int × Int × Int)} {Fe:Option Addr} {Gi:Nat} {w0:World} {r:List (Int × Int × Int)} (h:gN N s=some r) (Jg:SL w0 aV Fe s) (UX:s.length≤Gi) :
  Calls Tryz.prog 70 #[.slice Fe s.length Gi] w0 fun e w'=>∃v,e = .returned v∧∃A0 c0,v = .slice A0 r.length c0∧Mem w0.heap.size w0 w' [.row 59 3 A0 r.length c0 (aV.all r)]:=by
 refine gE Tryz.func70 Tryz.ntmps70 ?_;intro M;unfold gN at h;refine aK 9 ?_
 by_cases hA:(Fe).isNone=true
 ·have hs:=SL.Hx Jg hA;replace h:some ([]:List (Int × Int × Int))=some r:=by rw [hs] at h;exact h
  clear hs;refine aR (fun _ K=>D4 (b':=true) hA (yG rfl LD K rfl rfl)) M ?_;exact cB 10 (((Mem.aF 59 3 aV M)).pick [0] aD)
 refine aR (fun _ K=>D4 (b':=false) ((Bool.not_eq_true _).mp hA) (yG rfl LD K rfl rfl)) M ?_;refine aK 7 ?_;intro a K;refine jE K (Ey (C:=aV) rfl lE rfl K M) ?_;clear K M;rintro _ a w ⟨gs,rfl,M⟩ K;revert a;obtain ⟨l2,vA,h⟩:=aB h;refine aK 1 ?_;intro a K;refine jE K (kA (C:=aV) (xs:=([]:List (Int × Int × Int))) (ys:=s) rfl lE rfl z59 rfl rfl K rfl rfl 0 M rfl ((dH Jg) _ M) vA) ?_;clear K M;rintro _ a w ⟨A,c,rfl,M⟩ K;revert a;exact cB 4 (M.pick [0] aD)
theorem yM {N:Nat} {s:List (Int × Int)} {Fe:Option Addr} {Gi:Nat} {w0:World} {r:List (Int × Int)} (h:lX N s=some r) (Jg:SL w0 fA Fe s) (UX:s.length≤Gi) :
  Calls Tryz.prog 77 #[.slice Fe s.length Gi] w0 fun e w'=>∃v,e = .returned v∧∃A0 c0,v = .slice A0 r.length c0∧Mem w0.heap.size w0 w' [.row 81 2 A0 r.length c0 (fA.all r)]:=by
 refine gE Tryz.func77 Tryz.ntmps77 ?_;intro M;unfold lX at h;refine aK 9 ?_
 by_cases hA:(Fe).isNone=true
 ·have hs:=SL.Hx Jg hA;replace h:some ([]:List (Int × Int))=some r:=by rw [hs] at h;exact h
  clear hs;refine aR (fun _ K=>D4 (b':=true) hA (yG rfl aAa K rfl rfl)) M ?_;exact cB 10 (((Mem.aF 81 2 fA M)).pick [0] aD)
 refine aR (fun _ K=>D4 (b':=false) ((Bool.not_eq_true _).mp hA) (yG rfl aAa K rfl rfl)) M ?_;refine aK 7 ?_;intro a K;refine jE K (Ey (C:=fA) rfl EA rfl K M) ?_;clear K M;rintro _ a w ⟨gs,rfl,M⟩ K;revert a;obtain ⟨l2,vA,h⟩:=aB h;refine aK 1 ?_;intro a K;refine jE K (kA (C:=fA) (xs:=([]:List (Int × Int))) (ys:=s) rfl EA rfl UV rfl rfl K rfl rfl 0 M rfl ((dH Jg) _ M) vA) ?_;clear K M;rintro _ a w ⟨A,c,rfl,M⟩ K;revert a;exact cB 4 (M.pick [0] aD)
theorem wV {N:Nat} {s:List (Int × Int)} {Fe:Option Addr} {Gi:Nat} {w0:World} {r:List (Int × Int)} (h:lD N s=some r) (Jg:SL w0 fA Fe s) (UX:s.length≤Gi) :
  Calls Tryz.prog 78 #[.slice Fe s.length Gi] w0 fun e w'=>∃v,e = .returned v∧∃A0 c0,v = .slice A0 r.length c0∧Mem w0.heap.size w0 w' [.row 82 2 A0 r.length c0 (fA.all r)]:=by
 refine gE Tryz.func78 Tryz.ntmps78 ?_;intro M;unfold lD at h;refine aK 9 ?_
 by_cases hA:(Fe).isNone=true
 ·have hs:=SL.Hx Jg hA;replace h:some ([]:List (Int × Int))=some r:=by rw [hs] at h;exact h
  clear hs;refine aR (fun _ K=>D4 (b':=true) hA (yG rfl aCM K rfl rfl)) M ?_;exact cB 10 (((Mem.aF 82 2 fA M)).pick [0] aD)
 refine aR (fun _ K=>D4 (b':=false) ((Bool.not_eq_true _).mp hA) (yG rfl aCM K rfl rfl)) M ?_;refine aK 7 ?_;intro a K;refine jE K (Ey (C:=fA) rfl BI rfl K M) ?_;clear K M;rintro _ a w ⟨gs,rfl,M⟩ K;revert a;obtain ⟨l2,vA,h⟩:=aB h;refine aK 1 ?_;intro a K;refine jE K (kA (C:=fA) (xs:=([]:List (Int × Int))) (ys:=s) rfl BI rfl z82 rfl rfl K rfl rfl 0 M rfl ((dH Jg) _ M) vA) ?_;clear K M;rintro _ a w ⟨A,c,rfl,M⟩ K;revert a;exact cB 4 (M.pick [0] aD)
end
section
open Go.RowKit Go.Shelf
def Pr:Go.Shelf.Ren:=⟨fun | 160=>137 | 232=>150 | 231=>149 | 227=>151 | 234=>153 | 233=>152 | 236=>155 | 235=>154 | 228=>162 | 271=>165 | 151=>164 | 197=>163 | 120=>169 | 152=>168 | 260=>167 | 137=>171 | 119=>172 | 224=>131 | 225=>130 | 217=>129 | 266=>145 | n=>n,fun | 9=>9 | 4=>4 | 3=>3 | 5=>5 | 117=>232 | 116=>231 | 0=>0 | 124=>235 | 21=>21 | 105=>240 | 46=>68 | 119=>246 | 139=>249 | 138=>248 | n=>n,fun | 3=>6 | 4=>7 | n=>n⟩
theorem aAc:Go.Proofs.Lays.n160 Tryz.prog Pr:={
 mixed:=by kernel_rfl
 f119:=Tryz.func172.trans (congrArg some (by kernel_rfl))
 f120:=Tryz.func169.trans (congrArg some (by kernel_rfl))
 f137:=Tryz.func171.trans (congrArg some (by kernel_rfl))
 f151:=Tryz.func164.trans (congrArg some (by kernel_rfl))
 f152:=Tryz.func168.trans (congrArg some (by kernel_rfl))
 f160:=Tryz.func137.trans (congrArg some (by kernel_rfl))
 f197:=Tryz.func163.trans (congrArg some (by kernel_rfl))
 f217:=Tryz.func129.trans (congrArg some (by kernel_rfl))
 f224:=Tryz.func131.trans (congrArg some (by kernel_rfl))
 f225:=Tryz.func130.trans (congrArg some (by kernel_rfl))
 f227:=Tryz.func151.trans (congrArg some (by kernel_rfl))
 f228:=Tryz.func162.trans (congrArg some (by kernel_rfl))
 f231:=Tryz.func149.trans (congrArg some (by kernel_rfl))
 f232:=Tryz.func150.trans (congrArg some (by kernel_rfl))
 f233:=Tryz.func152.trans (congrArg some (by kernel_rfl))
 f234:=Tryz.func153.trans (congrArg some (by kernel_rfl))
 f235:=Tryz.func154.trans (congrArg some (by kernel_rfl))
 f236:=Tryz.func155.trans (congrArg some (by kernel_rfl))
 f260:=Tryz.func167.trans (congrArg some (by kernel_rfl))
 f266:=Tryz.func145.trans (congrArg some (by kernel_rfl))
 f271:=Tryz.func165.trans (congrArg some (by kernel_rfl))
 t0:=Tryz.underlying0
 a0:=Tryz.isAgg0
 z0:=Tryz.sizeOf0
 v0:=Tryz.zeroValue0
 t3:=Tryz.underlying3
 a3:=Tryz.isAgg3
 z3:=Tryz.sizeOf3
 v3:=Tryz.zeroValue3
 t4:=Tryz.underlying4
 a4:=Tryz.isAgg4
 z4:=Tryz.sizeOf4
 v4:=Tryz.zeroValue4
 t5:=Tryz.underlying5
 a5:=Tryz.isAgg5
 z5:=Tryz.sizeOf5
 v5:=Tryz.zeroValue5
 t9:=Tryz.underlying9
 a9:=Tryz.isAgg9
 z9:=Tryz.sizeOf9
 v9:=Tryz.zeroValue9
 t21:=Tryz.underlying21
 a21:=Tryz.isAgg21
 z21:=Tryz.sizeOf21
 v21:=Tryz.zeroValue21
 t46:=Tryz.underlying68
 a46:=Tryz.isAgg68
 z46:=Tryz.sizeOf68
 v46:=Tryz.zeroValue68
 t105:=Tryz.underlying240
 a105:=Tryz.isAgg240
 z105:=Tryz.sizeOf240
 v105:=Tryz.zeroValue240
 t116:=Tryz.underlying231
 a116:=Tryz.isAgg231
 z116:=Tryz.sizeOf231
 t117:=Tryz.underlying232
 a117:=Tryz.isAgg232
 z117:=Tryz.sizeOf232
 v117:=Tryz.zeroValue232
 t119:=Tryz.underlying246
 a119:=Tryz.isAgg246
 z119:=Tryz.sizeOf246
 t124:=Tryz.underlying235
 a124:=Tryz.isAgg235
 z124:=Tryz.sizeOf235
 v124:=Tryz.zeroValue235
 t138:=Tryz.underlying248
 a138:=Tryz.isAgg248
 z138:=Tryz.sizeOf248
 v138:=Tryz.zeroValue248
 t139:=Tryz.underlying249
 a139:=Tryz.isAgg249
 z139:=Tryz.sizeOf249
 v139:=Tryz.zeroValue249
 g3:=by kernel_rfl
 g4:=by kernel_rfl }
def Ps:Go.Shelf.Ren:=⟨fun | 138=>138 | 195=>156 | 218=>157 | 143=>116 | 219=>107 | 217=>129 | 225=>130 | 224=>131 | 267=>132 | 266=>145 | 314=>146 | n=>n,fun | 9=>9 | 3=>3 | 4=>4 | 5=>5 | 0=>0 | 46=>68 | 146=>223 | 51=>207 | n=>n,fun | 1=>0 | n=>n⟩
theorem aAd:Go.Proofs.Lays.n138 Tryz.prog Ps:={
 mixed:=by kernel_rfl
 f138:=Tryz.func138.trans (congrArg some (by kernel_rfl))
 f143:=Tryz.func116.trans (congrArg some (by kernel_rfl))
 f195:=Tryz.func156.trans (congrArg some (by kernel_rfl))
 f217:=Tryz.func129.trans (congrArg some (by kernel_rfl))
 f218:=Tryz.func157.trans (congrArg some (by kernel_rfl))
 f219:=Tryz.func107.trans (congrArg some (by kernel_rfl))
 f224:=Tryz.func131.trans (congrArg some (by kernel_rfl))
 f225:=Tryz.func130.trans (congrArg some (by kernel_rfl))
 f266:=Tryz.func145.trans (congrArg some (by kernel_rfl))
 f267:=Tryz.func132.trans (congrArg some (by kernel_rfl))
 f314:=Tryz.func146.trans (congrArg some (by kernel_rfl))
 t0:=Tryz.underlying0
 a0:=Tryz.isAgg0
 z0:=Tryz.sizeOf0
 v0:=Tryz.zeroValue0
 t3:=Tryz.underlying3
 a3:=Tryz.isAgg3
 z3:=Tryz.sizeOf3
 v3:=Tryz.zeroValue3
 t4:=Tryz.underlying4
 a4:=Tryz.isAgg4
 z4:=Tryz.sizeOf4
 v4:=Tryz.zeroValue4
 t5:=Tryz.underlying5
 a5:=Tryz.isAgg5
 z5:=Tryz.sizeOf5
 v5:=Tryz.zeroValue5
 t9:=Tryz.underlying9
 a9:=Tryz.isAgg9
 z9:=Tryz.sizeOf9
 v9:=Tryz.zeroValue9
 t46:=Tryz.underlying68
 a46:=Tryz.isAgg68
 z46:=Tryz.sizeOf68
 v46:=Tryz.zeroValue68
 t51:=Tryz.underlying207
 a51:=Tryz.isAgg207
 z51:=Tryz.sizeOf207
 v51:=Tryz.zeroValue207
 t146:=Tryz.underlying223
 a146:=Tryz.isAgg223
 z146:=Tryz.sizeOf223
 v146:=Tryz.zeroValue223
 g1:=by kernel_rfl }
def Jh:Go.Shelf.Ren:=⟨fun | 169=>46 | n=>n,fun | 70=>100 | 9=>9 | 0=>0 | 72=>103 | 37=>101 | 127=>144 | 3=>3 | 5=>5 | n=>n,fun | n=>n⟩
theorem aAe:Go.Proofs.Lays.n169 Tryz.prog Jh:={
 mixed:=by kernel_rfl
 f169:=Tryz.func46.trans (congrArg some (by kernel_rfl))
 t0:=Tryz.underlying0
 a0:=Tryz.isAgg0
 z0:=Tryz.sizeOf0
 v0:=Tryz.zeroValue0
 t3:=Tryz.underlying3
 a3:=Tryz.isAgg3
 z3:=Tryz.sizeOf3
 v3:=Tryz.zeroValue3
 t9:=Tryz.underlying9
 a9:=Tryz.isAgg9
 z9:=Tryz.sizeOf9
 v9:=Tryz.zeroValue9
 t37:=Tryz.underlying101
 a37:=Tryz.isAgg101
 z37:=Tryz.sizeOf101
 v37:=Tryz.zeroValue101
 t70:=Tryz.underlying100
 a70:=Tryz.isAgg100
 z70:=Tryz.sizeOf100
 v70:=Tryz.zeroValue100
 t72:=Tryz.underlying103
 a72:=Tryz.isAgg103
 z72:=Tryz.sizeOf103
 v72:=Tryz.zeroValue103
 t127:=Tryz.underlying144
 a127:=Tryz.isAgg144
 z127:=Tryz.sizeOf144
 v127:=Tryz.zeroValue144 }
def Pu:Go.Shelf.Ren:=⟨fun | 144=>93 | 143=>116 | 219=>107 | 217=>129 | 225=>130 | 224=>131 | 267=>132 | 266=>145 | 314=>146 | n=>n,fun | 9=>9 | 4=>4 | 3=>3 | 5=>5 | 46=>68 | 146=>223 | 51=>207 | n=>n,fun | 1=>0 | n=>n⟩
theorem aAf:Go.Proofs.Lays.n144 Tryz.prog Pu:={
 mixed:=by kernel_rfl
 f143:=Tryz.func116.trans (congrArg some (by kernel_rfl))
 f144:=Tryz.func93.trans (congrArg some (by kernel_rfl))
 f217:=Tryz.func129.trans (congrArg some (by kernel_rfl))
 f219:=Tryz.func107.trans (congrArg some (by kernel_rfl))
 f224:=Tryz.func131.trans (congrArg some (by kernel_rfl))
 f225:=Tryz.func130.trans (congrArg some (by kernel_rfl))
 f266:=Tryz.func145.trans (congrArg some (by kernel_rfl))
 f267:=Tryz.func132.trans (congrArg some (by kernel_rfl))
 f314:=Tryz.func146.trans (congrArg some (by kernel_rfl))
 t3:=Tryz.underlying3
 a3:=Tryz.isAgg3
 z3:=Tryz.sizeOf3
 v3:=Tryz.zeroValue3
 t4:=Tryz.underlying4
 a4:=Tryz.isAgg4
 z4:=Tryz.sizeOf4
 v4:=Tryz.zeroValue4
 t5:=Tryz.underlying5
 a5:=Tryz.isAgg5
 z5:=Tryz.sizeOf5
 v5:=Tryz.zeroValue5
 t9:=Tryz.underlying9
 a9:=Tryz.isAgg9
 z9:=Tryz.sizeOf9
 v9:=Tryz.zeroValue9
 t46:=Tryz.underlying68
 a46:=Tryz.isAgg68
 z46:=Tryz.sizeOf68
 v46:=Tryz.zeroValue68
 t51:=Tryz.underlying207
 a51:=Tryz.isAgg207
 z51:=Tryz.sizeOf207
 v51:=Tryz.zeroValue207
 t146:=Tryz.underlying223
 a146:=Tryz.isAgg223
 z146:=Tryz.sizeOf223
 v146:=Tryz.zeroValue223
 g1:=by kernel_rfl }
def Pv:Go.Shelf.Ren:=⟨fun | 219=>107 | 217=>129 | 225=>130 | 224=>131 | 267=>132 | 266=>145 | 314=>146 | n=>n,fun | 9=>9 | 3=>3 | 4=>4 | 5=>5 | 46=>68 | 146=>223 | 51=>207 | n=>n,fun | 1=>0 | n=>n⟩
theorem aAg:Go.Proofs.Lays.n219 Tryz.prog Pv:={
 mixed:=by kernel_rfl
 f217:=Tryz.func129.trans (congrArg some (by kernel_rfl))
 f219:=Tryz.func107.trans (congrArg some (by kernel_rfl))
 f224:=Tryz.func131.trans (congrArg some (by kernel_rfl))
 f225:=Tryz.func130.trans (congrArg some (by kernel_rfl))
 f266:=Tryz.func145.trans (congrArg some (by kernel_rfl))
 f267:=Tryz.func132.trans (congrArg some (by kernel_rfl))
 f314:=Tryz.func146.trans (congrArg some (by kernel_rfl))
 t3:=Tryz.underlying3
 a3:=Tryz.isAgg3
 z3:=Tryz.sizeOf3
 v3:=Tryz.zeroValue3
 t4:=Tryz.underlying4
 a4:=Tryz.isAgg4
 z4:=Tryz.sizeOf4
 v4:=Tryz.zeroValue4
 t5:=Tryz.underlying5
 a5:=Tryz.isAgg5
 z5:=Tryz.sizeOf5
 v5:=Tryz.zeroValue5
 t9:=Tryz.underlying9
 a9:=Tryz.isAgg9
 z9:=Tryz.sizeOf9
 v9:=Tryz.zeroValue9
 t46:=Tryz.underlying68
 a46:=Tryz.isAgg68
 z46:=Tryz.sizeOf68
 v46:=Tryz.zeroValue68
 t51:=Tryz.underlying207
 a51:=Tryz.isAgg207
 z51:=Tryz.sizeOf207
 v51:=Tryz.zeroValue207
 t146:=Tryz.underlying223
 a146:=Tryz.isAgg223
 z146:=Tryz.sizeOf223
 v146:=Tryz.zeroValue223
 g1:=by kernel_rfl }
def Pw:Go.Shelf.Ren:=⟨fun | 171=>44 | 243=>75 | 246=>101 | 283=>120 | 284=>121 | 285=>122 | 286=>123 | 129=>128 | 317=>139 | 318=>140 | 319=>141 | 320=>142 | 337=>158 | 338=>159 | n=>n,fun | 3=>3 | 9=>9 | 2=>2 | 4=>4 | 171=>199 | 0=>0 | 53=>200 | 37=>101 | 5=>5 | 173=>203 | 212=>220 | 51=>207 | 20=>20 | 213=>221 | 46=>68 | 232=>243 | 233=>244 | n=>n,fun | 17=>3 | 18=>4 | 19=>5 | n=>n⟩
theorem aAh:Go.Proofs.LaysM.n171 Tryz.prog Pw:={
 mixed:=by kernel_rfl
 f129:=Tryz.func128.trans (congrArg some (by kernel_rfl))
 f171:=Tryz.func44.trans (congrArg some (by kernel_rfl))
 f243:=Tryz.func75.trans (congrArg some (by kernel_rfl))
 f246:=Tryz.func101.trans (congrArg some (by kernel_rfl))
 f283:=Tryz.func120.trans (congrArg some (by kernel_rfl))
 f284:=Tryz.func121.trans (congrArg some (by kernel_rfl))
 f285:=Tryz.func122.trans (congrArg some (by kernel_rfl))
 f286:=Tryz.func123.trans (congrArg some (by kernel_rfl))
 f317:=Tryz.func139.trans (congrArg some (by kernel_rfl))
 f318:=Tryz.func140.trans (congrArg some (by kernel_rfl))
 f319:=Tryz.func141.trans (congrArg some (by kernel_rfl))
 f320:=Tryz.func142.trans (congrArg some (by kernel_rfl))
 f337:=Tryz.func158.trans (congrArg some (by kernel_rfl))
 f338:=Tryz.func159.trans (congrArg some (by kernel_rfl))
 t0:=Tryz.underlying0
 a0:=Tryz.isAgg0
 z0:=Tryz.sizeOf0
 v0:=Tryz.zeroValue0
 t2:=Tryz.underlying2
 a2:=Tryz.isAgg2
 z2:=Tryz.sizeOf2
 v2:=Tryz.zeroValue2
 t3:=Tryz.underlying3
 a3:=Tryz.isAgg3
 z3:=Tryz.sizeOf3
 v3:=Tryz.zeroValue3
 t4:=Tryz.underlying4
 a4:=Tryz.isAgg4
 z4:=Tryz.sizeOf4
 v4:=Tryz.zeroValue4
 t5:=Tryz.underlying5
 a5:=Tryz.isAgg5
 z5:=Tryz.sizeOf5
 v5:=Tryz.zeroValue5
 t9:=Tryz.underlying9
 a9:=Tryz.isAgg9
 z9:=Tryz.sizeOf9
 v9:=Tryz.zeroValue9
 t20:=Tryz.underlying20
 a20:=Tryz.isAgg20
 z20:=Tryz.sizeOf20
 v20:=Tryz.zeroValue20
 t37:=Tryz.underlying101
 a37:=Tryz.isAgg101
 z37:=Tryz.sizeOf101
 v37:=Tryz.zeroValue101
 t46:=Tryz.underlying68
 a46:=Tryz.isAgg68
 z46:=Tryz.sizeOf68
 v46:=Tryz.zeroValue68
 t51:=Tryz.underlying207
 a51:=Tryz.isAgg207
 z51:=Tryz.sizeOf207
 v51:=Tryz.zeroValue207
 t53:=Tryz.underlying200
 a53:=Tryz.isAgg200
 z53:=Tryz.sizeOf200
 v53:=Tryz.zeroValue200
 t171:=Tryz.underlying199
 a171:=Tryz.isAgg199
 z171:=Tryz.sizeOf199
 v171:=Tryz.zeroValue199
 t173:=Tryz.underlying203
 a173:=Tryz.isAgg203
 z173:=Tryz.sizeOf203
 v173:=Tryz.zeroValue203
 t212:=Tryz.underlying220
 a212:=Tryz.isAgg220
 z212:=Tryz.sizeOf220
 v212:=Tryz.zeroValue220
 t213:=Tryz.underlying221
 a213:=Tryz.isAgg221
 z213:=Tryz.sizeOf221
 t232:=Tryz.underlying243
 a232:=Tryz.isAgg243
 z232:=Tryz.sizeOf243
 v232:=Tryz.zeroValue243
 t233:=Tryz.underlying244
 a233:=Tryz.isAgg244
 z233:=Tryz.sizeOf244
 v233:=Tryz.zeroValue244
 g17:=by kernel_rfl
 g18:=by kernel_rfl
 g19:=by kernel_rfl
 i0:=by kernel_rfl
 i2:=by kernel_rfl
 i3:=by kernel_rfl
 i4:=by kernel_rfl
 i5:=by kernel_rfl
 i9:=by kernel_rfl
 i20:=by kernel_rfl
 i37:=by kernel_rfl
 i46:=by kernel_rfl
 i51:=by kernel_rfl
 i53:=by kernel_rfl
 i171:=by kernel_rfl
 i173:=by kernel_rfl
 i212:=by kernel_rfl
 i232:=by kernel_rfl
 i233:=by kernel_rfl
 m17:=by kernel_rfl
 m18:=by kernel_rfl
 m19:=by kernel_rfl }
def Py:Go.Shelf.Ren:=⟨fun | 172=>55 | 244=>84 | 245=>85 | 247=>108 | 279=>109 | 280=>110 | 281=>111 | 282=>112 | 287=>133 | 316=>134 | 171=>44 | 205=>135 | 321=>147 | 322=>148 | 243=>75 | 246=>101 | 283=>120 | 284=>121 | 285=>122 | 286=>123 | 129=>128 | 317=>139 | 318=>140 | 319=>141 | 320=>142 | 337=>158 | 338=>159 | n=>n,fun | 9=>9 | 3=>3 | 75=>105 | 76=>106 | 4=>4 | 5=>5 | 167=>186 | 37=>101 | 0=>0 | 85=>187 | 2=>2 | 168=>189 | 53=>200 | 175=>210 | 46=>68 | 210=>213 | 127=>144 | 145=>228 | 143=>226 | 21=>21 | 171=>199 | 173=>203 | 212=>220 | 51=>207 | 20=>20 | 213=>221 | 232=>243 | 233=>244 | 80=>109 | n=>n,fun | 15=>1 | 16=>2 | 17=>3 | 18=>4 | 19=>5 | n=>n⟩
theorem NX:Go.Proofs.LaysC.n172 Tryz.prog Py:={
 mixed:=by kernel_rfl
 f129:=Tryz.func128.trans (congrArg some (by kernel_rfl))
 f171:=Tryz.func44.trans (congrArg some (by kernel_rfl))
 f172:=Tryz.func55.trans (congrArg some (by kernel_rfl))
 f205:=Tryz.func135.trans (congrArg some (by kernel_rfl))
 f243:=Tryz.func75.trans (congrArg some (by kernel_rfl))
 f244:=Tryz.func84.trans (congrArg some (by kernel_rfl))
 f245:=Tryz.func85.trans (congrArg some (by kernel_rfl))
 f246:=Tryz.func101.trans (congrArg some (by kernel_rfl))
 f247:=Tryz.func108.trans (congrArg some (by kernel_rfl))
 f279:=Tryz.func109.trans (congrArg some (by kernel_rfl))
 f280:=Tryz.func110.trans (congrArg some (by kernel_rfl))
 f281:=Tryz.func111.trans (congrArg some (by kernel_rfl))
 f282:=Tryz.func112.trans (congrArg some (by kernel_rfl))
 f283:=Tryz.func120.trans (congrArg some (by kernel_rfl))
 f284:=Tryz.func121.trans (congrArg some (by kernel_rfl))
 f285:=Tryz.func122.trans (congrArg some (by kernel_rfl))
 f286:=Tryz.func123.trans (congrArg some (by kernel_rfl))
 f287:=Tryz.func133.trans (congrArg some (by kernel_rfl))
 f316:=Tryz.func134.trans (congrArg some (by kernel_rfl))
 f317:=Tryz.func139.trans (congrArg some (by kernel_rfl))
 f318:=Tryz.func140.trans (congrArg some (by kernel_rfl))
 f319:=Tryz.func141.trans (congrArg some (by kernel_rfl))
 f320:=Tryz.func142.trans (congrArg some (by kernel_rfl))
 f321:=Tryz.func147.trans (congrArg some (by kernel_rfl))
 f322:=Tryz.func148.trans (congrArg some (by kernel_rfl))
 f337:=Tryz.func158.trans (congrArg some (by kernel_rfl))
 f338:=Tryz.func159.trans (congrArg some (by kernel_rfl))
 t0:=Tryz.underlying0
 a0:=Tryz.isAgg0
 z0:=Tryz.sizeOf0
 v0:=Tryz.zeroValue0
 t2:=Tryz.underlying2
 a2:=Tryz.isAgg2
 z2:=Tryz.sizeOf2
 v2:=Tryz.zeroValue2
 t3:=Tryz.underlying3
 a3:=Tryz.isAgg3
 z3:=Tryz.sizeOf3
 v3:=Tryz.zeroValue3
 t4:=Tryz.underlying4
 a4:=Tryz.isAgg4
 z4:=Tryz.sizeOf4
 v4:=Tryz.zeroValue4
 t5:=Tryz.underlying5
 a5:=Tryz.isAgg5
 z5:=Tryz.sizeOf5
 v5:=Tryz.zeroValue5
 t9:=Tryz.underlying9
 a9:=Tryz.isAgg9
 z9:=Tryz.sizeOf9
 v9:=Tryz.zeroValue9
 t20:=Tryz.underlying20
 a20:=Tryz.isAgg20
 z20:=Tryz.sizeOf20
 v20:=Tryz.zeroValue20
 t21:=Tryz.underlying21
 a21:=Tryz.isAgg21
 z21:=Tryz.sizeOf21
 v21:=Tryz.zeroValue21
 t37:=Tryz.underlying101
 a37:=Tryz.isAgg101
 z37:=Tryz.sizeOf101
 v37:=Tryz.zeroValue101
 t46:=Tryz.underlying68
 a46:=Tryz.isAgg68
 z46:=Tryz.sizeOf68
 v46:=Tryz.zeroValue68
 t51:=Tryz.underlying207
 a51:=Tryz.isAgg207
 z51:=Tryz.sizeOf207
 v51:=Tryz.zeroValue207
 t53:=Tryz.underlying200
 a53:=Tryz.isAgg200
 z53:=Tryz.sizeOf200
 v53:=Tryz.zeroValue200
 t75:=Tryz.underlying105
 a75:=Tryz.isAgg105
 z75:=Tryz.sizeOf105
 v75:=Tryz.zeroValue105
 t76:=Tryz.underlying106
 a76:=Tryz.isAgg106
 z76:=Tryz.sizeOf106
 v76:=Tryz.zeroValue106
 t85:=Tryz.underlying187
 a85:=Tryz.isAgg187
 z85:=Tryz.sizeOf187
 v85:=Tryz.zeroValue187
 t127:=Tryz.underlying144
 a127:=Tryz.isAgg144
 z127:=Tryz.sizeOf144
 v127:=Tryz.zeroValue144
 t143:=Tryz.underlying226
 a143:=Tryz.isAgg226
 z143:=Tryz.sizeOf226
 v143:=Tryz.zeroValue226
 t145:=Tryz.underlying228
 a145:=Tryz.isAgg228
 z145:=Tryz.sizeOf228
 v145:=Tryz.zeroValue228
 t167:=Tryz.underlying186
 a167:=Tryz.isAgg186
 z167:=Tryz.sizeOf186
 v167:=Tryz.zeroValue186
 t168:=Tryz.underlying189
 a168:=Tryz.isAgg189
 z168:=Tryz.sizeOf189
 v168:=Tryz.zeroValue189
 t171:=Tryz.underlying199
 a171:=Tryz.isAgg199
 z171:=Tryz.sizeOf199
 v171:=Tryz.zeroValue199
 t173:=Tryz.underlying203
 a173:=Tryz.isAgg203
 z173:=Tryz.sizeOf203
 v173:=Tryz.zeroValue203
 t175:=Tryz.underlying210
 a175:=Tryz.isAgg210
 z175:=Tryz.sizeOf210
 v175:=Tryz.zeroValue210
 t210:=Tryz.underlying213
 a210:=Tryz.isAgg213
 z210:=Tryz.sizeOf213
 v210:=Tryz.zeroValue213
 t212:=Tryz.underlying220
 a212:=Tryz.isAgg220
 z212:=Tryz.sizeOf220
 v212:=Tryz.zeroValue220
 t213:=Tryz.underlying221
 a213:=Tryz.isAgg221
 z213:=Tryz.sizeOf221
 t232:=Tryz.underlying243
 a232:=Tryz.isAgg243
 z232:=Tryz.sizeOf243
 v232:=Tryz.zeroValue243
 t233:=Tryz.underlying244
 a233:=Tryz.isAgg244
 z233:=Tryz.sizeOf244
 v233:=Tryz.zeroValue244
 g15:=by kernel_rfl
 g16:=by kernel_rfl
 g17:=by kernel_rfl
 g18:=by kernel_rfl
 g19:=by kernel_rfl
 t80:=Tryz.underlying109
 a80:=Tryz.isAgg109
 z80:=Tryz.sizeOf109
 v80:=Tryz.zeroValue109
 i0:=by kernel_rfl
 i2:=by kernel_rfl
 i3:=by kernel_rfl
 i4:=by kernel_rfl
 i5:=by kernel_rfl
 i9:=by kernel_rfl
 i20:=by kernel_rfl
 i21:=by kernel_rfl
 i37:=by kernel_rfl
 i46:=by kernel_rfl
 i51:=by kernel_rfl
 i53:=by kernel_rfl
 i75:=by kernel_rfl
 i76:=by kernel_rfl
 i80:=by kernel_rfl
 i85:=by kernel_rfl
 i127:=by kernel_rfl
 i143:=by kernel_rfl
 i145:=by kernel_rfl
 i167:=by kernel_rfl
 i168:=by kernel_rfl
 i171:=by kernel_rfl
 i173:=by kernel_rfl
 i175:=by kernel_rfl
 i210:=by kernel_rfl
 i212:=by kernel_rfl
 i232:=by kernel_rfl
 i233:=by kernel_rfl
 m15:=by kernel_rfl
 m16:=by kernel_rfl
 m17:=by kernel_rfl
 m18:=by kernel_rfl
 m19:=by kernel_rfl
 c0:=by kernel_rfl
 c2:=by kernel_rfl
 c3:=by kernel_rfl
 c4:=by kernel_rfl
 c5:=by kernel_rfl
 c9:=by kernel_rfl
 c20:=by kernel_rfl
 c21:=by kernel_rfl
 c37:=by kernel_rfl
 c46:=by kernel_rfl
 c51:=by kernel_rfl
 c53:=by kernel_rfl
 c75:=by kernel_rfl
 c76:=by kernel_rfl
 c80:=by kernel_rfl
 c85:=by kernel_rfl
 c127:=by kernel_rfl
 c143:=by kernel_rfl
 c145:=by kernel_rfl
 c167:=by kernel_rfl
 c168:=by kernel_rfl
 c171:=by kernel_rfl
 c173:=by kernel_rfl
 c175:=by kernel_rfl
 c210:=by kernel_rfl
 c212:=by kernel_rfl
 c213:=by kernel_rfl
 c232:=by kernel_rfl
 c233:=by kernel_rfl }
def FJ:Go.Shelf.Ren:=⟨fun | 166=>43 | 240=>74 | 276=>100 | 169=>46 | n=>n,fun | 0=>0 | 3=>3 | 4=>4 | 5=>5 | 9=>9 | 20=>20 | 37=>101 | 70=>100 | 72=>103 | 75=>105 | 80=>109 | 164=>177 | 127=>144 | n=>n,fun | n=>n⟩
theorem Tk:Go.Proofs.Lays.n166 Tryz.prog FJ:={
 mixed:=by kernel_rfl
 f166:=Tryz.func43.trans (congrArg some (by kernel_rfl))
 f240:=Tryz.func74.trans (congrArg some (by kernel_rfl))
 f276:=Tryz.func100.trans (congrArg some (by kernel_rfl))
 t0:=Tryz.underlying0
 a0:=Tryz.isAgg0
 z0:=Tryz.sizeOf0
 v0:=Tryz.zeroValue0
 t3:=Tryz.underlying3
 a3:=Tryz.isAgg3
 z3:=Tryz.sizeOf3
 v3:=Tryz.zeroValue3
 t4:=Tryz.underlying4
 a4:=Tryz.isAgg4
 z4:=Tryz.sizeOf4
 v4:=Tryz.zeroValue4
 t9:=Tryz.underlying9
 a9:=Tryz.isAgg9
 z9:=Tryz.sizeOf9
 v9:=Tryz.zeroValue9
 t20:=Tryz.underlying20
 a20:=Tryz.isAgg20
 z20:=Tryz.sizeOf20
 v20:=Tryz.zeroValue20
 t37:=Tryz.underlying101
 a37:=Tryz.isAgg101
 z37:=Tryz.sizeOf101
 v37:=Tryz.zeroValue101
 t70:=Tryz.underlying100
 a70:=Tryz.isAgg100
 z70:=Tryz.sizeOf100
 v70:=Tryz.zeroValue100
 t72:=Tryz.underlying103
 a72:=Tryz.isAgg103
 z72:=Tryz.sizeOf103
 v72:=Tryz.zeroValue103
 t75:=Tryz.underlying105
 a75:=Tryz.isAgg105
 z75:=Tryz.sizeOf105
 v75:=Tryz.zeroValue105
 t164:=Tryz.underlying177
 a164:=Tryz.isAgg177
 z164:=Tryz.sizeOf177
 v164:=Tryz.zeroValue177 }
theorem DD:Builder.Extra Tryz.prog FJ where
 sizeBuilder:=by kernel_rfl
 liesBuilder:=by kernel_rfl
 t5:=Tryz.underlying5
 a5:=Tryz.isAgg5
 z5:=Tryz.sizeOf5
 v5:=Tryz.zeroValue5
 infoByte:=by kernel_rfl
 cellsByte:=by kernel_rfl
 sizeByte:=by kernel_rfl
 neB5:=by decide
theorem HJ:Builder.Extra Tryz.prog Jh where
 sizeBuilder:=by kernel_rfl
 liesBuilder:=by kernel_rfl
 t5:=Tryz.underlying5
 a5:=Tryz.isAgg5
 z5:=Tryz.sizeOf5
 v5:=Tryz.zeroValue5
 infoByte:=by kernel_rfl
 cellsByte:=by kernel_rfl
 sizeByte:=by kernel_rfl
 neB5:=by decide
theorem Builder_String (B b:Nat) (l:List UInt8) (w:World) (h:Lib.IsBuilder 103 5 B b (Lib.byteCells l) w) (hBw:B≤w.heap.size) :
  Calls Tryz.prog 46 #[.pointer (some ⟨b,0,none⟩)] w fun e w'=>e = .returned (.string ⟨l.toArray⟩)∧Below B w w':=Any.Builder_String_any aAe HJ B b l w h hBw
theorem KV (N:Nat) (s cutset:List UInt8) (w0:World) (r:List UInt8) (h:uQ N s cutset=some r) :
  Calls Tryz.prog 137 #[.string (bs s),.string (bs cutset)] w0 fun e w'=>∃v,e = .returned v∧v = .string (bs r)∧Mem w0.heap.size w0 w' []:=by
 unfold uQ at h
 split at h
 ·rename_i hc
  cases h;obtain ⟨h1,h2,h3⟩:=hc;refine (Any.strings_Trim_laid aAc (by kernel_rfl) (bs s) (bs cutset) w0 (by rw [sY];exact h1) (by rw [sY];exact h2) (fun j b hb=>?_)).mono ?_
  ·exact of_decide_eq_true (List.all_eq_true.1 h3 b (List.mem_of_getElem? hb))
  ·rintro e w' ⟨rfl,hb⟩;exact ⟨_,rfl,rfl,Mem.Yz hb⟩
 ·cases h
theorem ER (N:Nat) (s substr:List UInt8) (w0:World) (r:Int) (h:qF N s substr=some r) :
  Calls Tryz.prog 138 #[.string (bs s),.string (bs substr)] w0 fun e w'=>∃v,e = .returned v∧v = .int .i64 r∧Mem w0.heap.size w0 w' []:=by
 unfold qF at h
 split at h
 ·rename_i c
  cases h;refine (Any.strings_Count_one aAd (bs s) c w0).mono ?_;rintro e w' ⟨rfl,rfl⟩;exact ⟨_,rfl,rfl,Mem.start w'⟩
 ·cases h
section
variable {base:Nat} {W w:World} {L:List kH} {g c n:Nat} {A:Option Addr} {b d b2:List UInt8}
theorem Ji (M:Mem base W w (.DG g 103 A n c::L)) :
  Calls Tryz.prog 74 #[.pointer (some ⟨g,0,none⟩)] w fun e w'=>∃v,e = .returned v∧Mem base W w' (.blk g 103 [.pointer (some ⟨g,0,none⟩),.slice A n c]::L):=by
 obtain ⟨p,hp,hb⟩:=M.has 0 _ rfl;have hb':w.heap[g]? = some (.cells #[.pointer p,.slice A n c] 103 (0,0)):=hb;have M1:Mem base W w (.blk g 103 [.pointer p,.slice A n c]::L):=M.swap 0 rfl hb rfl
 rcases hp with rfl | rfl
 ·refine (Any.Builder_copyCheck_fresh { Tk with } DD.toX72 g w (M1.cell (i:=0) rfl (k:=0) rfl) (by simp [World.shape?,hb',FJ]) (by simp [World.frozen?,hb'])).mono ?_;rintro e w' ⟨rfl,rfl⟩;exact ⟨_,rfl,M1.set 0 rfl 0 _⟩
 ·refine (Any.Builder_copyCheck_used { Tk with } DD.toX72 g w (M1.cell (i:=0) rfl (k:=0) rfl)).mono ?_;rintro e w' ⟨rfl,rfl⟩;exact ⟨_,rfl,M1⟩
theorem qY (M:Mem base W w (.DG g 103 A b.length c :: .row 5 1 A b.length c ((cI .u8).all (oV b))::L)) (h:Ob b d=some b2) :
  Calls Tryz.prog 43 #[.pointer (some ⟨g,0,none⟩),.string (bs d)] w fun e w'=>∃v,e = .returned v∧∃A' c',Mem base W w' (.DG g 103 A' b2.length c' :: .row 5 1 A' b2.length c' ((cI .u8).all (oV b2))::L):=by
 obtain ⟨rfl,hl⟩:=Vp h
 have happ:app 1 (oV b) (oV d)=some (oV b++oV d):=by
  unfold app;rw [if_pos (by rw [zH,zH];omega)]
 replace M:Mem base W w (.DG g 103 A (oV b).length c :: .row 5 1 A (oV b).length c ((cI .u8).all (oV b))::L):=by rw [zH];exact M
 refine hU Tryz.func43 rfl Tryz.ntmps43 rfl ?_;intro a K;have K:Kn a 19 [(0,.pointer (some ⟨g,0,none⟩)),(1,.string (bs d))]:=K;refine wp_seq (aI ?_);refine gD K M ?_;clear K;refine fL M ?_;intro a K;refine wpList_nil (aE (wp_seq (aI ?_)));refine gD K M ?_;clear K;intro a K;refine jE K (dX (vs:=[.pointer (some ⟨g,0,none⟩)]) (cap:=[]) rfl W8 K rfl rfl (Ji M)) ?_;clear K M;rintro _ a w M K;refine wpList_nil (aE (wp_seq (aI ?_)));refine gD K M ?_;clear K;refine fL M ?_;refine fL M ?_;refine aR (fun _ K=>aQ rfl (show yQ Tryz.prog 103 1=some 1 by kernel_rfl) K rfl) M ?_;refine aR (fun _ K=>bB rfl HD K rfl (k8 0 rfl) rfl) M ?_;refine fL M ?_;intro a K;refine jE K (S4 rfl qX rS zu5 K rfl rfl 1 M rfl happ) ?_;clear K M;rintro _ a w ⟨A',c',rfl,M⟩ K;refine gD K M ?_;clear K;refine aR (fun _ K=>aQ rfl (show yQ Tryz.prog 103 1=some 1 by kernel_rfl) K rfl) M ?_;intro a K;refine sO K (aO rfl HD K rfl rfl rfl 0 M rfl rfl) ?_;clear K M;rintro _ a w M K;refine wpList_nil (aE (wp_seq (aI ?_)));refine gD K M ?_;clear K;refine aR (fun _ K=>j0 rfl rS K rfl) M ?_;refine fL M ?_;refine fL M ?_;intro a K;refine wpList_nil (aE (wp_ret ?_));replace M:Mem base W w (.blk g 103 [.pointer (some ⟨g,0,none⟩),.slice A' (oV b++oV d).length c'] :: .row 5 1 A' (oV b++oV d).length c' ((cI .u8).all (oV b++oV d))::L):=M;have M2:Mem base W w (.DG g 103 A' (oV b++oV d).length c' :: .row 5 1 A' (oV b++oV d).length c' ((cI .u8).all (oV b++oV d))::L):=M.aAD 0 rfl;have e:(oV b++oV d)=oV (b++d):=(List.map_append ..).symm;rw [e,zH] at M2;exact Ki K rfl (dC K rfl) (dC K rfl) ⟨_,rfl,A',c',M2⟩
theorem EE (M:Mem base W w (.DG g 103 A b.length c :: .row 5 1 A b.length c ((cI .u8).all (oV b))::L)) {y:Int} (h:YE b y=some b2) :
  Calls Tryz.prog 45 #[.pointer (some ⟨g,0,none⟩),.int .u8 y] w fun e w'=>∃v,e = .returned v∧∃A' c',Mem base W w' (.DG g 103 A' b2.length c' :: .row 5 1 A' b2.length c' ((cI .u8).all (oV b2))::L):=by
 obtain ⟨rfl,hl,hy0,hy1⟩:=Vq h
 have happ:app 1 (oV b) [y]=some (oV b++[y]):=by
  unfold app;rw [if_pos (by rw [zH];simp;omega)]
 replace M:Mem base W w (.DG g 103 A (oV b).length c :: .row 5 1 A (oV b).length c ((cI .u8).all (oV b))::L):=by rw [zH];exact M
 refine hU Tryz.func45 rfl Tryz.ntmps45 rfl ?_;intro a K;have K:Kn a 17 [(0,.pointer (some ⟨g,0,none⟩)),(1,.int .u8 y)]:=K;refine wp_seq (aI ?_);refine gD K M ?_;clear K;intro a K;refine wpList_nil (aE (wp_seq (aI ?_)));refine gD K M ?_;clear K;intro a K;refine jE K (dX (vs:=[.pointer (some ⟨g,0,none⟩)]) (cap:=[]) rfl W8 K rfl rfl (Ji M)) ?_;clear K M;rintro _ a w M K;refine wpList_nil (aE (wp_seq (aI ?_)));refine gD K M ?_;clear K;refine fL M ?_;refine fL M ?_;refine aR (fun _ K=>aQ rfl (show yQ Tryz.prog 103 1=some 1 by kernel_rfl) K rfl) M ?_;refine aR (fun _ K=>bB rfl HD K rfl (k8 0 rfl) rfl) M ?_;refine fL M ?_;intro a K;refine jE K (cA rfl qX z5 K (vs:=[(0,.int .u8 y)]) (cs:=[.int .u8 y]) rfl (by kernel_rfl) rfl rfl M) ?_;clear K M;rintro _ a w ⟨gs,rfl,M⟩ K;replace M:=M.jM 0 rfl (cI .u8) ([y]:List Int) (n:=1) rfl rfl rfl;refine jE K (kA (C:=(cI .u8)) (xs:=oV b) (ys:=([y]:List Int)) rfl qX rfl z5 rfl rfl K rfl rfl 2 M rfl ((gY (C:=(cI .u8)) 0 rfl rfl) _ M) happ) ?_;clear K M;rintro _ a w ⟨A',c',rfl,M⟩ K;refine gD K M ?_;clear K;refine aR (fun _ K=>aQ rfl (show yQ Tryz.prog 103 1=some 1 by kernel_rfl) K rfl) M ?_;intro a K;refine sO K (aO rfl HD K rfl rfl rfl 1 M rfl rfl) ?_;clear K M;rintro _ a w M K;refine wpList_nil (aE (wp_seq (aI ?_)));refine gD K M ?_;clear K;intro a K;refine wpList_nil (aE (wp_ret ?_));replace M:Mem base W w (.blk g 103 [.pointer (some ⟨g,0,none⟩),.slice A' (oV b++[y]).length c'] :: .row 5 1 A' (oV b++[y]).length c' ((cI .u8).all (oV b++[y]))::L):=M.tail;have M2:Mem base W w (.DG g 103 A' (oV b++[y]).length c' :: .row 5 1 A' (oV b++[y]).length c' ((cI .u8).all (oV b++[y]))::L):=M.aAD 0 rfl
 have e:(oV b++[y])=oV (b++[UInt8.ofNat y.toNat]):=by
  unfold oV;rw [List.map_append]
  congr 1
  show [y]=[(((UInt8.ofNat y.toNat).toNat:Nat):Int)];rw [UInt8.toNat_ofNat']
  congr 1
  omega
 rw [e,zH] at M2;exact qC K rfl (dC K rfl) ⟨_,rfl,A',c',M2⟩
theorem Ck (M:Mem W.heap.size W w (.DG g 103 A b.length c :: .row 5 1 A b.length c ((cI .u8).all (oV b))::L)) :
  Calls Tryz.prog 46 #[.pointer (some ⟨g,0,none⟩)] w fun e w'=>∃v,e = .returned v∧v = .string (bs b)∧Mem W.heap.size W w' []:=by
 refine (Builder_String W.heap.size g b w M.builder M.sz).mono ?_;rintro e w' ⟨rfl,h2⟩;exact ⟨_,rfl,rfl,Mem.Yz (M.low.trans h2)⟩
end
end
section
open Go.RowKit
theorem Gj {N:Nat} {n:Int} {w0:World} {r:Bool} (h:tN N n=some r) :
  Calls Tryz.prog 87 #[I n] w0 fun e w'=>∃v,e = .returned v∧v = .bool r∧Mem w0.heap.size w0 w' []:=by
 refine gE Tryz.func87 Tryz.ntmps87 ?_;intro M;unfold tN at h;refine lG 10 5 h ?_ ?_
 ·intro hb h;exact cB 7 (M.pick [] aD)
 intro hb h;exact cB 7 (M.pick [] aD)
theorem LH {N:Nat} {d:List UInt8} {o p2:Int} {w0:World} {r:List Int × Int} (h:wK N d o p2=some r) :
  Calls Tryz.prog 59 #[.string (bs d),I o,I p2] w0 fun e w'=>∃v,e = .returned v∧∃A0 c0,v = .tuple #[.slice A0 r.1.length c0,I r.2]∧Mem w0.heap.size w0 w' [.row 3 1 A0 r.1.length c0 ((cI .i64).all r.1)]:=by
 refine gE Tryz.func59 Tryz.ntmps59 ?_;intro M;unfold wK at h;obtain ⟨r2,dM,h⟩:=aB h;refine j1 10 (Gj dM) ?_;intro w M;refine lG 2 15 h ?_ ?_
 ·intro hb h;exact bZ 14 (((Mem.aF 3 1 (cI .i64) M)).pick [0] aD)
 intro hb h;refine d7 5 h ?_ ?_
 ·intro hb h;exact bZ 8 (((Mem.aF 3 1 (cI .i64) M)).pick [0] aD)
 intro hb h;refine d7 9 h ?_ ?_
 ·intro hb h;exact bZ 8 (((Mem.aF 3 1 (cI .i64) M)).pick [0] aD)
 intro hb h;refine aK 6 ?_;refine aR (fun _ K=>j0 rfl rS K rfl) M ?_;refine aK 4 ?_;refine aR (fun _ K=>j5 rfl K rfl rfl aD) M ?_;refine d7 3 h ?_ ?_
 ·intro hb h;exact bZ 8 (((Mem.aF 3 1 (cI .i64) M)).pick [0] aD)
 intro hb h;refine aK 17 ?_;refine aR (fun _ K=>j0 rfl rS K rfl) M ?_;refine aK 4 ?_;replace M:=Mem.aF 3 1 (cI .i64) M;refine tI 0 0 (fun (⟨l5,i3,i4,i5⟩:List Int × Int × Int × Int) a w=>∃(A4:Option Addr) (c4:Nat),Kn a 70 [(0,.string (bs d)),(1,I o),(2,I p2),(8,.slice A4 l5.length c4),(9,I i3),(10,I i4),(30,I (d.length:Int)),(31,I i5)]∧Mem w0.heap.size w0 w [.row 3 1 A4 l5.length c4 ((cI .i64).all l5)]) M.oQ ?_ ?_
 ·clear M h;rintro ⟨l12,i12,P7,UO⟩ a w ⟨A11,c11,K,M⟩ h;try dsimp only at h
  revert a;refine d7 9 h ?_ ?_
  ·intro hb h;exact bZ 8 (((Mem.aF 3 1 (cI .i64) M)).pick [0] aD)
  intro hb h;exact bZ 10 (M.pick [0] aD)
 clear M h;rintro kk fuel ⟨l5,i3,i4,i5⟩ a w hk1 ⟨A4,c4,K,M⟩ h;unfold pH at h;revert a;refine d7 6 h ?_ ?_
 ·intro hb h;refine aK 13 ?_;refine aR (fun _ K=>rY rfl K rfl rfl aD) M ?_;obtain ⟨b3,NY,h⟩:=aB h;refine aK 2 ?_;refine aR (fun _ K=>sL rfl rS K rfl rfl NY) M ?_;refine aK 1 ?_;refine aR (fun _ K=>Ha rfl K rfl rfl) M ?_;obtain ⟨F1,hx,h⟩:=jU h;refine zI 2 hx ?_;obtain ⟨YF,hx,h⟩:=jU h;refine zI 0 hx ?_;refine tI 3 2 (fun (⟨l8,i8,i9⟩:List Int × Int × Int) a w=>∃(A7:Option Addr) (c7:Nat),Kn a 70 [(0,.string (bs d)),(1,I o),(2,I p2),(8,.slice A7 l8.length c7),(9,I i8),(10,I i9),(30,I (d.length:Int)),(31,I i5)]∧Mem w0.heap.size w0 w [.row 3 1 A7 l8.length c7 ((cI .i64).all l8)]) M.oQ ?_ ?_
  ·clear M h;rintro ⟨Sd,Fp,i11⟩ a w ⟨Tl,c10,K,M⟩ h;try dsimp only at h
   revert a;exact nS 8 (Sd,Fp,i11,IntKind.i64.wrap (i5+1)) M.oQ
  clear M h;rintro kk fuel ⟨l8,i8,i9⟩ a w hk2 ⟨A7,c7,K,M⟩ h;unfold pG at h;revert a;refine lG 7 46 h ?_ ?_
  ·intro hb h;refine d7 7 h ?_ ?_
   ·intro hb h;obtain ⟨Lv,hx,h⟩:=jU h;refine zI 8 hx ?_;obtain ⟨_,h0,h⟩:=aB h;have h0:=oY h0;refine aK 7 ?_;refine aR (fun _ K=>oL rfl K rfl rfl h0) M ?_;intro a K;refine jE K (cA rfl fM z3 K (vs:=[(0,I (iB .i64 i8 Lv))]) (cs:=[I (iB .i64 i8 Lv)]) rfl aG rfl rfl M) ?_;have M0:=M;clear K M;rintro _ a w ⟨gs5,rfl,M⟩ K;replace M:=M.jM 0 rfl (cI .i64) ([iB .i64 i8 Lv]:List Int) (n:=1) rfl rfl rfl;clear M0;obtain ⟨l10,Pz,h⟩:=aB h;refine jE K (kA (C:=(cI .i64)) (xs:=l8) (ys:=([iB .i64 i8 Lv]:List Int)) rfl fM rfl z3 rfl rfl K rfl rfl 1 M rfl ((gY (C:=(cI .i64)) 0 rfl rfl) _ M) Pz) ?_;clear K M;rintro _ a w ⟨A9,c9,rfl,M⟩ K;revert a;obtain ⟨_,h0,h⟩:=aB h;have h0:=oY h0;refine aK 6 ?_;refine aR (fun _ K=>rY rfl K rfl rfl h0) M ?_;obtain ⟨Qp,hx,h⟩:=jU h;refine zI 2 hx ?_;exact nS 3 (l10,Qp,Lv) (M.pick [1] aD)
   intro hb h;exact oB 3 (hk2 (l8,i8,i9)) M.oQ
  intro hb h;exact oB 11 (hk2 (l8,i8,i9)) M.oQ
 intro hb h;exact oB 3 (hk1 (l5,i3,i4,i5)) M.oQ
theorem Gk {N:Nat} {n size:Int} {w0:World} {r:List UInt8} (h:rD N n size=some r) :
  Calls Tryz.prog 113 #[I n,I size] w0 fun e w'=>∃v,e = .returned v∧v = .string (bs r)∧Mem w0.heap.size w0 w' []:=by
 refine gE Tryz.func113 Tryz.ntmps113 ?_;intro M;unfold rD at h;obtain ⟨l2,vA,h⟩:=aB h;refine aK 8 ?_;intro a K;refine jE K (nV (C:=(cI .u8)) (z:=0) rfl qX rfl z5 rfl K rfl rfl M vA) ?_;clear K M;rintro _ a w ⟨A,c,rfl,M⟩ K;revert a;refine tI 12 0 (fun (⟨l3,i,i2⟩:List Int × Int × Int) a w=>Kn a 28 [(0,I n),(1,I size),(5,.slice A l3.length c),(10,I i),(11,I i2)]∧Mem w0.heap.size w0 w [.row 5 1 A l3.length c ((cI .u8).all l3)]) M.oQ ?_ ?_
 ·clear M h;rintro ⟨l6,i3,i4⟩ a w ⟨K,M⟩ h;try dsimp only at h
  revert a;refine aK 5 ?_;refine aR (fun _ K=>Eb rfl qX Z9 rS K rfl (gY (C:=(cI .u8)) 0 rfl rfl)) M ?_;exact cB 4 (M.pick [] aD)
 clear M h;rintro kk fuel ⟨l3,i,i2⟩ a w hk1 ⟨K,M⟩ h;unfold pI at h;revert a;refine d7 6 h ?_ ?_
 ·intro hb h;obtain ⟨_,h0,h⟩:=aB h;have h0:=oY h0;refine aK 18 ?_;refine aR (fun _ K=>oL rfl K rfl rfl h0) M ?_;obtain ⟨b2,Xu,h⟩:=aB h;refine aK 1 ?_;refine aR (fun _ K=>sL rfl rS K rfl rfl Xu) M ?_;obtain ⟨e2,kL,h⟩:=aB h;refine aR (fun _ K=>hZ rfl qX K rfl rfl (gY (C:=(cI .u8)) 0 rfl rfl) kL) M ?_;obtain ⟨l5,xV,h⟩:=aB h;intro a K;refine sO K (gG (el:=(b2.toNat:Int)) rfl sz5 rfl rfl K rfl rfl rfl 0 M rfl xV) ?_;have M0:=M;clear K M;rintro _ a w M K;have hl:=iE xV;try rw [hl] at M
  try rw [hl] at K
  clear hl;clear M0;revert a;exact nS 8 (l5,i,IntKind.i64.wrap (i2+1)) M.oQ
 intro hb h;exact oB 3 (hk1 (l3,i,i2)) M.oQ
theorem wW {N:Nat} {n size:Int} {w0:World} {r:List UInt8 × Int} (h:nX N n size=some r) :
  Calls Tryz.prog 105 #[I n,I size] w0 fun e w'=>∃v,e = .returned v∧v = .tuple #[.string (bs r.1),I r.2]∧Mem w0.heap.size w0 w' []:=by
 refine gE Tryz.func105 Tryz.ntmps105 ?_;intro M;unfold nX at h;refine lG 12 8 h ?_ ?_
 ·intro hb h;exact bZ 24 (M.pick [] aD)
 intro hb h;refine lG 4 12 h ?_ ?_
 ·intro hb h;exact bZ 20 (M.pick [] aD)
 intro hb h;refine lG 4 16 h ?_ ?_
 ·intro hb h;exact bZ 16 (M.pick [] aD)
 intro hb h;obtain ⟨_,h0,h⟩:=aB h;have h0:=oY h0;refine aK 2 ?_;refine aR (fun _ K=>rY rfl K rfl rfl h0) M ?_;refine d7 4 h ?_ ?_
 ·intro hb h;exact bZ 8 (M.pick [] aD)
 intro hb h;obtain ⟨r2,dM,h⟩:=aB h;refine j1 6 (Gk dM) ?_;intro w M;exact bZ 5 (M.pick [] aD)
theorem KW {N:Nat} {b:List UInt8} {w0:World} {r:Bool} (h:Ao N b=some r) :
  Calls Tryz.prog 115 #[.string (bs b)] w0 fun e w'=>∃v,e = .returned v∧v = .bool r∧Mem w0.heap.size w0 w' []:=by
 refine gE Tryz.func115 Tryz.ntmps115 ?_;intro M;unfold Ao at h;obtain ⟨r2,dM,h⟩:=aB h;refine j1 8 (KV N b ([48,49]:List UInt8) _  r2 dM) ?_;intro w M;refine aR (fun _ K=>DB rfl K rfl rfl) M ?_;refine lG 1 6 h ?_ ?_
 ·intro hb h;obtain ⟨r3,jI,h⟩:=aB h;refine j1 1 (ER N b ([48]:List UInt8) _  r3 jI) ?_;intro w M;obtain ⟨r4,pX,h⟩:=aB h;refine j1 1 (ER N b ([49]:List UInt8) _  r4 pX) ?_;intro w M;refine aK 2 ?_;refine aR (fun _ K=>j0 rfl rS K rfl) M ?_;exact cB 6 (M.pick [] aD)
 intro hb h;exact cB 13 (M.pick [] aD)
theorem HM {N:Nat} {b:List UInt8} {w0:World} {r:List UInt8 × Int} (h:vK N b=some r) :
  Calls Tryz.prog 106 #[.string (bs b)] w0 fun e w'=>∃v,e = .returned v∧v = .tuple #[.string (bs r.1),I r.2]∧Mem w0.heap.size w0 w' []:=by
 refine gE Tryz.func106 Tryz.ntmps106 ?_;intro M;unfold vK at h;obtain ⟨r2,dM,h⟩:=aB h;refine j1 10 (KW dM) ?_;intro w M;refine d7 3 h ?_ ?_
 ·intro hb h;exact bZ 8 (M.pick [] aD)
 intro hb h;refine aK 5 ?_;refine aR (fun _ K=>j0 rfl rS K rfl) M ?_;obtain ⟨x2,hx,h⟩:=jU h;refine aK 1 ?_;refine aR (fun _ K=>P6 hx (j5 rfl K rfl rfl aD)) M ?_;obtain ⟨l2,vA,h⟩:=aB h;intro a K;refine jE K (nV (C:=(cI .u8)) (z:=0) rfl qX rfl z5 rfl K rfl rfl M vA) ?_;clear K M;rintro _ a w ⟨A,c,rfl,M⟩ K;revert a;refine aK 7 ?_;refine aR (fun _ K=>j0 rfl rS K rfl) M ?_;refine tI 4 0 (fun (⟨l3,i⟩:List Int × Int) a w=>Kn a 37 [(0,.string (bs b)),(4,.slice A l3.length c),(15,I (b.length:Int)),(16,I i)]∧Mem w0.heap.size w0 w [.row 5 1 A l3.length c ((cI .u8).all l3)]) M.oQ ?_ ?_
 ·clear M h;rintro ⟨l6,i2⟩ a w ⟨K,M⟩ h;try dsimp only at h
  revert a;refine aK 5 ?_;refine aR (fun _ K=>Eb rfl qX Z9 rS K rfl (gY (C:=(cI .u8)) 0 rfl rfl)) M ?_;exact bZ 5 (M.pick [] aD)
 clear M h;rintro kk fuel ⟨l3,i⟩ a w hk1 ⟨K,M⟩ h;unfold qL at h;revert a;refine d7 6 h ?_ ?_
 ·intro hb h;refine aK 10 ?_;intro a K;refine aN (fun w=>Mem _ _ w _) [0,0,0,0,0,0,0,0,0,0,0,0,0,0,0,2] aG aG M.drew ?_;replace M:=M.drew;revert a;obtain ⟨x4,hx,h⟩:=jU h;refine aK 2 ?_;refine gI (fun _ K=>P6 hx (j5 rfl K rfl rfl aD)) ?_;obtain ⟨e3,lY,h⟩:=aB h;refine gI (fun _ K=>fO rfl qX K rfl rfl ((gY (C:=(cI .u8)) 0 rfl rfl) _ M) lY) ?_;refine gI (fun _ K=>gO rfl sc5 K rfl rfl (gY (C:=(cI .u8)) 0 rfl rfl) lY rfl) ?_;obtain ⟨b3,NY,h⟩:=aB h;refine aK 2 ?_;refine gI (fun _ K=>sL rfl rS K rfl rfl NY) ?_;refine aK 2 ?_;refine gI (fun _ K=>qA rfl K rfl rfl aD) ?_;obtain ⟨_,h0,h⟩:=aB h;have h0:=oY h0;refine aK 1 ?_;refine gI (fun _ K=>rY rfl K rfl rfl h0) ?_;refine gI (fun _ K=>Ha rfl K rfl rfl) ?_;obtain ⟨e4,t6,h⟩:=aB h;refine gI (fun _ K=>fO rfl qX K rfl rfl ((gY (C:=(cI .u8)) 0 rfl rfl) _ M) t6) ?_;obtain ⟨l5,xV,h⟩:=aB h;intro a K;refine Ez K (gG (el:=Fc .u8 e3 (mN .u8 (IntKind.u8.wrap ((b3.toNat:Int)-48)) (IntKind.i64.wrap (7-(Int.tmod i 8))))) rfl sz5 rfl rfl K rfl rfl rfl 0 M rfl xV) ?_;have M0:=M;clear K M;rintro _ a w M K;have hl:=iE xV;try rw [hl] at M
  try rw [hl] at K
  clear hl;clear M0;revert a;exact nS 8 (l5,IntKind.i64.wrap (i+1)) M.oQ
 intro hb h;exact oB 3 (hk1 (l3,i)) M.oQ
theorem Jj {N:Nat} {s:List UInt8} {w0:World} {r:List UInt8} (h:uU N s=some r) :
  Calls Tryz.prog 89 #[.string (bs s)] w0 fun e w'=>∃v,e = .returned v∧v = .string (bs r)∧Mem w0.heap.size w0 w' []:=by
 refine gE Tryz.func89 Tryz.ntmps89 ?_;intro M;unfold uU at h;refine aK 7 ?_;intro a K;refine jE K (eW rfl (show iU Tryz.prog 103=some [.pointer none,.slice none 0 0] by kernel_rfl) M) ?_;have M0:=M;clear K M;rintro _ a w ⟨Yf,rfl,M⟩ K;replace M:=Mem.WU 5 M;clear M0;revert a;refine tI 9 0 (fun (⟨l2,i⟩:List UInt8 × Int) a w=>∃(A:Option Addr) (c:Nat),Kn a 18 [(0,.string (bs s)),(3,.pointer (some ⟨Yf,0,none⟩)),(4,I i)]∧Mem w0.heap.size w0 w [.row 5 1 A l2.length c ((cI .u8).all (oV l2)),.DG Yf 103 A l2.length c]) (M.pick [0,1] aD) ?_ ?_
 ·clear M h;rintro ⟨l3,i4⟩ a w ⟨A4,c4,K,M⟩ h;try dsimp only at h
  revert a;refine aK 4 ?_;intro a K;refine jE K (dX (vs:=[.pointer (some ⟨Yf,0,none⟩)]) (cap:=[]) rfl Po K rfl rfl (Ck (show Mem _ _ _ [.DG Yf 103 A4 l3.length c4,.row 5 1 A4 l3.length c4 ((cI .u8).all (oV l3))] from M.pick [1,0] aD))) ?_;clear K M;rintro _ a w ⟨rfl,M⟩ K;revert a;exact cB 4 (M.pick [] aD)
 clear M h;rintro kk fuel ⟨l2,i⟩ a w hk1 ⟨A,c,K,M⟩ h;unfold sA at h;revert a;refine aK 5 ?_;refine aR (fun _ K=>j0 rfl rS K rfl) M ?_;refine d7 3 h ?_ ?_
 ·intro hb h;obtain ⟨b3,NY,h⟩:=aB h;refine aK 7 ?_;refine aR (fun _ K=>sL rfl rS K rfl rfl NY) M ?_;obtain ⟨r3,jI,h⟩:=aB h;refine j1 1 (Gk jI) ?_;intro w M;obtain ⟨b4,aCO,h⟩:=aB h;intro a K;refine jE K (dX (vs:=[.pointer (some ⟨Yf,0,none⟩),.string (bs r3)]) (cap:=[]) rfl Gh K rfl rfl (qY (show Mem _ _ _ [.DG Yf 103 A l2.length c,.row 5 1 A l2.length c ((cI .u8).all (oV l2))] from M.pick [1,0] aD) aCO)) ?_;clear K M;rintro _ a w ⟨A3,c3,M⟩ K;revert a;obtain ⟨i3,hx,h⟩:=jU h;refine zI 6 hx ?_;exact nS 2 (b4,i3) (M.pick [1,0] aD)
 intro hb h;exact oB 3 (hk1 (l2,i)) (M.pick [0,1] aD)
theorem NZ {N:Nat} {b:List UInt8} {w0:World} {r:Int × Int} (h:yX N b=some r) :
  Calls Tryz.prog 91 #[.string (bs b)] w0 fun e w'=>∃v,e = .returned v∧v = .tuple #[I r.1,I r.2]∧Mem w0.heap.size w0 w' []:=by
 refine gE Tryz.func91 Tryz.ntmps91 ?_;intro M;unfold yX at h;obtain ⟨r2,dM,h⟩:=aB h;refine j1 10 (KW dM) ?_;intro w M;refine d7 3 h ?_ ?_
 ·intro hb h;exact bZ 8 (M.pick [] aD)
 intro hb h;refine aK 6 ?_;refine aR (fun _ K=>j0 rfl rS K rfl) M ?_;refine d7 3 h ?_ ?_
 ·intro hb h;exact bZ 8 (M.pick [] aD)
 intro hb h;refine aK 11 ?_;refine aR (fun _ K=>j0 rfl rS K rfl) M ?_;refine tI 4 0 (fun (⟨n,i⟩:Int × Int) a w=>Kn a 27 [(0,.string (bs b)),(4,I n),(13,I (b.length:Int)),(14,I i)]∧Mem w0.heap.size w0 w []) M.nQ ?_ ?_
 ·clear M h;rintro ⟨n4,i2⟩ a w ⟨K,M⟩ h;try dsimp only at h
  revert a;exact bZ 10 (M.pick [] aD)
 clear M h;rintro kk fuel ⟨n,i⟩ a w hk1 ⟨K,M⟩ h;unfold qM at h;revert a;refine d7 6 h ?_ ?_
 ·intro hb h;refine aK 12 ?_;refine aR (fun _ K=>rY rfl K rfl rfl aD) M ?_;obtain ⟨b3,NY,h⟩:=aB h;refine aK 2 ?_;refine aR (fun _ K=>sL rfl rS K rfl rfl NY) M ?_;obtain ⟨n3,hx,h⟩:=jU h;refine zI 3 hx ?_;exact nS 8 (n3,IntKind.i64.wrap (i+1)) M.nQ
 intro hb h;exact oB 3 (hk1 (n,i)) M.nQ
theorem PA {N:Nat} {d:List Int} {N0:Option Addr} {N1:Nat} {o:Int} {w0:World} {r:List UInt8 × Int} (h:Fr N d o=some r) (Gl:SL w0 (cI .i64) N0 d) (C_d:d.length≤N1) :
  Calls Tryz.prog 79 #[.slice N0 d.length N1,I o] w0 fun e w'=>∃v,e = .returned v∧v = .tuple #[.string (bs r.1),I r.2]∧Mem w0.heap.size w0 w' []:=by
 refine gE Tryz.func79 Tryz.ntmps79 ?_;intro M;unfold Fr at h;obtain ⟨r2,dM,h⟩:=aB h;refine j1 10 (Gj dM) ?_;intro w M;refine d7 3 h ?_ ?_
 ·intro hb h;exact bZ 8 (M.pick [] aD)
 intro hb h;refine d7 10 h ?_ ?_
 ·intro hb h;exact bZ 8 (M.pick [] aD)
 intro hb h;refine aK 9 ?_;refine aR (fun _ K=>j5 rfl K rfl rfl aD) M ?_;obtain ⟨_,h0,h⟩:=aB h;have h0:=Va h0;intro a K;refine jE K (Vf (C:=(cI .u8)) rfl qX rfl (by rw [z5];rfl) rfl K rfl rfl M h0) ?_;clear K M;rintro _ a w ⟨A,c,rfl,M⟩ K;revert a;refine tI 18 0 (fun (⟨l2,i,i2,i3⟩:List Int × Int × Int × Int) a w=>∃(A2:Option Addr) (c2:Nat),Kn a 75 [(1,I o),(6,.slice A2 l2.length c2),(7,I i),(8,I i2),(24,.slice N0 d.length N1),(25,I (d.length:Int)),(26,I i3)]∧Mem w0.heap.size w0 w [.row 5 1 A2 l2.length c2 ((cI .u8).all l2)]) M.oQ ?_ ?_
 ·clear M h;rintro ⟨l9,i7,i8,i9⟩ a w ⟨A9,c9,K,M⟩ h;try dsimp only at h
  revert a;refine d7 9 h ?_ ?_
  ·intro hb h;obtain ⟨_,h0,h⟩:=aB h;have h0:=oY h0;refine aK 5 ?_;refine aR (fun _ K=>rY rfl K rfl rfl h0) M ?_;refine aK 1 ?_;intro a K;refine jE K (cA rfl qX z5 K (vs:=[(0,.int .u8 (IntKind.u8.wrap (mN .i64 i7 (IntKind.i64.wrap (8-i8)))))]) (cs:=[.int .u8 (IntKind.u8.wrap (mN .i64 i7 (IntKind.i64.wrap (8-i8))))]) rfl aG rfl rfl M) ?_;have M0:=M;clear K M;rintro _ a w ⟨gs4,rfl,M⟩ K;replace M:=M.jM 0 rfl (cI .u8) ([IntKind.u8.wrap (mN .i64 i7 (IntKind.i64.wrap (8-i8)))]:List Int) (n:=1) rfl rfl rfl;clear M0;obtain ⟨l10,Pz,h⟩:=aB h;refine jE K (kA (C:=(cI .u8)) (xs:=l9) (ys:=([IntKind.u8.wrap (mN .i64 i7 (IntKind.i64.wrap (8-i8)))]:List Int)) rfl qX rfl z5 rfl rfl K rfl rfl 1 M rfl ((gY (C:=(cI .u8)) 0 rfl rfl) _ M) Pz) ?_;clear K M;rintro _ a w ⟨Tl,c10,rfl,M⟩ K;revert a;refine aK 6 ?_;refine aR (fun _ K=>Eb rfl qX Z9 rS K rfl (gY (C:=(cI .u8)) 1 rfl rfl)) M ?_;exact bZ 5 (M.pick [] aD)
  intro hb h;refine aK 5 ?_;refine aR (fun _ K=>Eb rfl qX Z9 rS K rfl (gY (C:=(cI .u8)) 0 rfl rfl)) M ?_;exact bZ 5 (M.pick [] aD)
 clear M h;rintro kk fuel ⟨l2,i,i2,i3⟩ a w hk1 ⟨A2,c2,K,M⟩ h;unfold C4 at h;revert a;refine d7 6 h ?_ ?_
 ·intro hb h;obtain ⟨e2,kL,h⟩:=aB h;refine aK 6 ?_;refine aR (fun _ K=>hZ rfl fM K rfl rfl (dH Gl) kL) M ?_;refine aR (fun _ K=>gO rfl jK K rfl rfl (dH Gl) kL rfl) M ?_;refine lG 9 32 h ?_ ?_
  ·intro hb h;exact bZ 21 (M.pick [] aD)
  intro hb h;obtain ⟨_,h0,h⟩:=aB h;have h0:=oY h0;refine aK 2 ?_;refine aR (fun _ K=>rY rfl K rfl rfl h0) M ?_;refine d7 4 h ?_ ?_
  ·intro hb h;exact bZ 13 (M.pick [] aD)
  intro hb h;obtain ⟨_,h0,h⟩:=aB h;have h0:=oY h0;refine aK 6 ?_;refine aR (fun _ K=>rY rfl K rfl rfl h0) M ?_;refine aK 1 ?_;refine aR (fun _ K=>Ha rfl K rfl rfl) M ?_;obtain ⟨x6,hx,h⟩:=jU h;refine zI 3 hx ?_;obtain ⟨x7,hx,h⟩:=jU h;refine zI 0 hx ?_;refine tI 4 2 (fun (⟨l5,i5⟩:List Int × Int) a w=>∃(A5:Option Addr) (c5:Nat),Kn a 75 [(1,I o),(6,.slice A5 l5.length c5),(7,I x6),(8,I i5),(24,.slice N0 d.length N1),(25,I (d.length:Int)),(26,I i3),(33,I e2),(34,I o),(35,I (mN .i64 1 o)),(36,.bool (decide ((mN .i64 1 o)≤e2)))]∧Mem w0.heap.size w0 w [.row 5 1 A5 l5.length c5 ((cI .u8).all l5)]) M.oQ ?_ ?_
  ·clear M h;rintro ⟨l8,i6⟩ a w ⟨A8,c8,K,M⟩ h;try dsimp only at h
   revert a;obtain ⟨_,h0,h⟩:=aB h;have h0:=oY h0;refine aK 5 ?_;refine aR (fun _ K=>rY rfl K rfl rfl h0) M ?_;obtain ⟨x10,hx,h⟩:=jU h;refine zI 2 hx ?_;exact nS 8 (l8,x10,i6,IntKind.i64.wrap (i3+1)) M.oQ
  clear M h;rintro kk fuel ⟨l5,i5⟩ a w hk2 ⟨A5,c5,K,M⟩ h;unfold C3 at h;revert a;refine d7 7 h ?_ ?_
  ·intro hb h;obtain ⟨x9,hx,h⟩:=jU h;refine zI 7 hx ?_;obtain ⟨_,h0,h⟩:=aB h;have h0:=oY h0;refine aK 6 ?_;refine aR (fun _ K=>oL rfl K rfl rfl h0) M ?_;refine aK 1 ?_;intro a K;refine jE K (cA rfl qX z5 K (vs:=[(0,.int .u8 (IntKind.u8.wrap (iB .i64 x6 x9)))]) (cs:=[.int .u8 (IntKind.u8.wrap (iB .i64 x6 x9))]) rfl aG rfl rfl M) ?_;have M0:=M;clear K M;rintro _ a w ⟨gs3,rfl,M⟩ K;replace M:=M.jM 0 rfl (cI .u8) ([IntKind.u8.wrap (iB .i64 x6 x9)]:List Int) (n:=1) rfl rfl rfl;clear M0;obtain ⟨l7,xW,h⟩:=aB h;refine jE K (kA (C:=(cI .u8)) (xs:=l5) (ys:=([IntKind.u8.wrap (iB .i64 x6 x9)]:List Int)) rfl qX rfl z5 rfl rfl K rfl rfl 1 M rfl ((gY (C:=(cI .u8)) 0 rfl rfl) _ M) xW) ?_;clear K M;rintro _ a w ⟨A7,c7,rfl,M⟩ K;revert a;exact nS 4 (l7,x9) (M.pick [1] aD)
  intro hb h;exact oB 3 (hk2 (l5,i5)) M.oQ
 intro hb h;exact oB 3 (hk1 (l2,i,i2,i3)) M.oQ
theorem ES {N:Nat} {x2:Int} {w0:World} {r:Bool} (h:tD N x2=some r) :
  Calls Tryz.prog 144 #[I x2] w0 fun e w'=>∃v,e = .returned v∧v = .bool r∧Mem w0.heap.size w0 w' []:=by
 refine gE Tryz.func144 Tryz.ntmps144 ?_;intro M;unfold tD at h;exact cB 14 (M.pick [] aD)
theorem HT {N:Nat} {x2 y:Int} {w0:World} {r:Int} (h:uE N x2 y=some r) :
  Calls Tryz.prog 126 #[I x2,I y] w0 fun e w'=>∃v,e = .returned v∧v=I r∧Mem w0.heap.size w0 w' []:=by
 refine gE Tryz.func126 Tryz.ntmps126 ?_;intro M;unfold uE at h;obtain ⟨r2,dM,h⟩:=aB h;refine j1 8 (ES dM) ?_;intro w M;obtain ⟨r3,jI,h⟩:=aB h;refine j1 6 (ES jI) ?_;intro w M;refine d7 9 h ?_ ?_
 ·intro hb h;refine d7 6 h ?_ ?_
  ·intro hb h;exact cB 8 (M.pick [] aD)
  intro hb h;exact cB 9 (M.pick [] aD)
 intro hb h;refine d7 8 h ?_ ?_
 ·intro hb h;exact cB 7 (M.pick [] aD)
 intro hb h;refine d7 10 h ?_ ?_
 ·intro hb h;exact cB 7 (M.pick [] aD)
 intro hb h;refine d7 10 h ?_ ?_
 ·intro hb h;exact cB 7 (M.pick [] aD)
 intro hb h;exact cB 8 (M.pick [] aD)
end
end Go.Proofs.YtpmnfhifmmfglabGreatDoor
