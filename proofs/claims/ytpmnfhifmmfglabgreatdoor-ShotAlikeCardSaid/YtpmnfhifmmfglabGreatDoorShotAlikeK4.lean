/- Texts of the claim ShotAlike, joined and made small by a program. -/
import Derived.Carry
import Derived.Deep.DeepHandedRow
import Derived.Deep.SlicePairs
import Derived.Deep.Slices
import Derived.Lib.AtoiAll
import Derived.Lib.Bytealg
import Derived.Lib.IndexMore
import Derived.Lib.ItoaNum
import Derived.Lib.LaidTab
import Derived.Lib.SlTrimSet
import Derived.Lib.SmallJoins
import Derived.Maps.OwnSet
import Derived.OpenShut
import Derived.ProofKit
import Derived.SizedLaws
import Derived.Stop.LaidErr
import Derived.Test.YtpmnfhifmmfglabGreatDoorCards
import Derived.Test.YtpmnfhifmmfglabGreatDoorRows
import Derived.Test.YtpmnfhifmmfglabGreatDoorTie
import Derived.Test.YtpmnfhifmmfglabGreatDoorShotAlikeK1
import Derived.Test.YtpmnfhifmmfglabGreatDoorShotAlikeK3
set_option linter.unusedVariables false
set_option linter.unusedSimpArgs false
set_option linter.unusedSectionVars false
set_option maxRecDepth 100000
set_option maxHeartbeats 8000000
namespace Go.Proofs.YtpmnfhifmmfglabGreatDoor
section
open Go.ChangeAt Go.ChangeShapes Go.Deep Go.Joins Go.RowKit Go.WideShapes
theorem Tryz.own:ownKnob Tryz.prog.godebug=none:=by kernel_rfl
theorem Tryz.laid:laidOutB Tryz.prog=true:=by kernel_rfl
def Qj:DataW Unit→List Value
 | .lit (.int k n)=>[.int k n]
 | _=>[]
def aBI:DataW Unit→List Value
 | .agg ds=>ds.flatMap Qj
 | d=>Qj d
def cellsOf:DataW Unit→List Value
 | .agg ds=>ds.flatMap aBI
 | d=>Qj d
def wf64 (x:Int):Prop:=-9223372036854775808≤x∧x≤9223372036854775807
theorem Ym {x:Int} (h:(Lit.int .i64 x).wf=true):wf64 x:=by
 simp [Lit.wf,IntKind.min,IntKind.max,IntKind.signed,IntKind.bits] at h
 exact h
section
variable {H:Type} {enc:TypeId × Value→H} {P:Program}
theorem LW (hl:laidOutB P=true) {W W':World} (hb:Below W.heap.size W W'):∀{ts:List TypeId} {vs:List Value} {ds:List (DataW H)} {ps:List MemPlace},
  ts.all (fun t=>P.readableRec t&&decide (t<P.types.size))=true→DataW.TrodAll enc P W 0 (fun _=>true) true ts vs ds ps→(∀x∈ps,x.block<W.heap.size) →
  DataW.TrodAll enc P W' 0 (fun b=>decide (b<W.heap.size)) true ts vs ds ps
 | [],[],[],_,_,h,_=>h
 | t::ts,v::vs,d::ds,ps,ht,h,hp=>by
  obtain ⟨p,q,h1,h2,rfl⟩:=h;simp only [List.all_cons,Bool.and_eq_true,decide_eq_true_eq] at ht;exact ⟨p,q,Below.trod hl ht.1.1 ht.1.2 h1 hb (fun x hx=>hp x (List.mem_append_left _ hx)),LW hl hb (by simpa using ht.2) h2 (fun x hx=>hp x (List.mem_append_right _ hx)),rfl⟩
 | [],_::_,_,_,_,h,_=>by cases h
 | [],[],_::_,_,_,h,_=>by cases h
 | _::_,[],_,_,_,h,_=>by cases h
 | _::_,_::_,[],_,_,h,_=>by cases h
theorem Yn {f:Func} {s:ChangeSpec} {apart fresh handsOn:Bool} {W W':World} {args:Array Value} {ds:List (DataW H)} {before:List MemPlace} {tb:TypeId}
  (hl:laidOutB P=true) (hts:f.params.toList.all (fun t=>P.readableRec t&&decide (t<P.types.size))=true) (hr:f.resultTypes = #[tb]) (hb:P.underlying tb=some .bool)
  (hv:s.vars=[]) (hW:DataW.Whole enc P f.params.toList s.vars apart W args.toList ds [] before)
  (h1:(s.fn H ds).results=[.lit (.bool true)]) (h2:(s.fn H ds).args=ds) (h3:(s.fn H ds).vars=[]) (hbel:Below W.heap.size W W') :
  s.post enc P f apart fresh handsOn false W args (.bool true) W':=by
 obtain ⟨p,q,hA,hq,rfl,_,_⟩:=id hW;rw [hv] at hq;obtain ⟨_,rfl⟩:=trodVars_none hq;have hlt:∀x∈p++[],x.block<W.heap.size:=fun x hx=>hW.lt x hx
 refine ⟨ds,[],p++[],[],p,[],hW,?_,?_,?_,?_,fun h=>by cases h⟩
 ·rw [List.append_nil,h1,hr];exact trodAll_mk1 (shut_bool hb true)
 ·rw [List.append_nil,h2];exact LW hl hbel hts hA (fun x hx=>hlt x (by simpa using hx))
 ·rw [List.append_nil,h3,hv]
  rfl
 ·exact World.keptBut_mono (fun x hx=>⟨hx,Or.inr (Or.inl (by simpa using hx))⟩) (hbel.frame (·∈p++[]))
end
theorem J7 {P:Program} {n nm:String} {d:DataW Unit} {r:List (String × DataW Unit)} {W:World} {g:Nat} {ti:TypeId} {ms:Array (String × TypeId)} (h:laidMet P ((n,.iface nm d)::r) W)
  (hg:P.globalNamed n=some g) (ht:(P.globals[g]?).map (·.type)=some ti) (hi:P.underlying ti=some (.interface ms)):∃tp p,W.var? P n=some #[.iface tp p]:=by
 obtain ⟨ps,⟨g0,t0,cs0,f0,p0,q0,hg0,ht0,hv0,hd0,_,e0⟩,_,hrows⟩:=h;obtain rfl:=Option.some.inj (hg.symm.trans hg0);obtain rfl:=Option.some.inj (ht.symm.trans ht0);obtain ⟨l0⟩:=cs0;obtain ⟨f1,u,v,e,_,_⟩:=iface_of_trod hi hd0;have e':l0=[.iface u v]:=e;subst e';exact ⟨_,_,hv0⟩
end
section
open Go.RowKit
theorem Vb {d s:Nat} (h:d≠s):Nat.beq d s=false:=by
 cases hb:Nat.beq d s with
 | true=>exact absurd (Nat.eq_of_beq_eq_true hb) h
 | false=>rfl
def yJ:List (Nat × Value)→Nat→Option Value
 | [],_=>none
 | (i,v)::l,j=>bif Nat.beq i j then some v else yJ l j
structure Kd (D:List Deferred) (a:Act) (N:Nat) (l:List (Nat × Value)):Prop where
 defs:a.defers=D
 size:a.tmps.size=N
 get:∀s v,yJ l s=some v→a.tmps.getD s undef=v
abbrev Kn (a:Act) (N:Nat) (l:List (Nat × Value)):Prop:=Kd [] a N l
def aDf (d:Option Nat) (v:Value) (l:List (Nat × Value)):List (Nat × Value):=
 match d with
 | some d=>(d,v)::l
 | none=>l
def LZ (d:Option Nat) (N:Nat):Bool:=
 match d with
 | some d=>Nat.blt d N
 | none=>true
def g7 (l:List (Nat × Value)):Operand→Option Value
 | .tmp t=>yJ l t
 | .const v=>some v
 | .global g=>some (.pointer (some ⟨g,0,none⟩))
 | .func f=>some (.func (.func f) #[] #[])
section
variable {D:List Deferred} {a:Act} {N:Nat} {l l':List (Nat × Value)} {d:Option Nat} {v:Value}
theorem Kd.put (K:Kd D a N l) (hd:LZ d N=true) (v:Value):Kd D (a.put d v) N (aDf d v l):=by
 cases d with
 | none=>exact K
 | some d=>
  have hlt:d<N:=by simpa [LZ,Nat.blt_eq] using hd
  refine ⟨K.defs,by simp [Act.put,K.size],fun s u hs=>?_⟩;simp only [aDf,yJ] at hs
  by_cases h:d=s
  ·subst h
   simp at hs
   subst hs
   simp [Act.put,K.size,hlt]
  ·have h0:=Vb h;rw [h0] at hs;have:=K.get s u hs;simp only [Act.put];rw [←this]
   simp [h]
theorem Kd.ev (K:Kd D a N l) {x:Operand} {v:Value} (h:g7 l x=some v):a.eval x=v:=by
 cases x with
 | tmp t=>exact K.get t v h
 | const u=>exact Option.some.inj h
 | global g=>exact Option.some.inj h
 | func f=>exact Option.some.inj h
theorem Kd.sub (K:Kd D a N l) (h:∀s v,yJ l' s=some v→yJ l s=some v):Kd D a N l':=⟨K.defs,K.size,fun s v hs=>K.get s v (h s v hs)⟩
def L0 (l:List (Nat × Value)):List Nat→List (Nat × Value)
 | []=>[]
 | s::ss=>match yJ l s with
  | some v=>(s,v)::L0 l ss
  | none=>L0 l ss
theorem IG (l:List (Nat × Value)):∀ss s v,yJ (L0 l ss) s=some v→yJ l s=some v
 | [],s,v,h=>by simp [L0,yJ] at h
 | t::ss,s,v,h=>by
  unfold L0 at h
  split at h
  ·rename_i u hu
   simp only [yJ] at h
   by_cases hts:t=s
   ·subst hts;simp at h;rw [hu,h]
   ·have h0:=Vb hts;rw [h0] at h;exact IG l ss s v h
  ·exact IG l ss s v h
theorem Kd.pick (K:Kd D a N l) (ss:List Nat):Kd D a N (L0 l ss):=K.sub (IG l ss)
def G8:Nat→List Value→List (Nat × Value)
 | _,[]=>[]
 | i,v::vs=>(i,v)::G8 (i+1) vs
theorem L1:∀(vs:List Value) (i s:Nat) (v:Value),yJ (G8 i vs) s=some v→i≤s∧vs[s-i]? = some v
 | [],_,_,_,h=>by simp [G8,yJ] at h
 | u::vs,i,s,v,h=>by
  simp only [G8,yJ] at h
  by_cases his:i=s
  ·subst his;simp at h;simp [h]
  ·have h0:=Vb his;rw [h0] at h;obtain ⟨h1,h2⟩:=L1 vs (i+1) s v h;refine ⟨by omega,?_⟩;obtain ⟨m,rfl⟩:∃m,s=i+1+m:=⟨s-(i+1),by omega⟩
   rw [show i+1+m-i=m+1 by omega];rw [show i+1+m-(i+1)=m by omega] at h2
   simpa using h2
theorem Kd.start (args:Array Value) (N:Nat) (h:Nat.ble args.size N=true) :
  Kn { tmps:=args++Array.replicate (N-args.size) undef,defers:=[] } N (G8 0 args.toList):=by
 have h':args.size≤N:=by simpa using h
 refine ⟨rfl,by simp;omega,fun s v hs=>?_⟩;obtain ⟨_,h2⟩:=L1 _ _ _ _ hs;simp only [Nat.sub_zero,Array.getElem?_toList] at h2;have hlt:s<args.size:=(Array.getElem?_eq_some_iff.1 h2).1;have h3:=(Array.getElem?_eq_some_iff.1 h2).2
 simp [Array.getElem?_append,hlt,h3]
theorem aA {o:Oper} {y:Nat→Option Bool} (h:o.guard=none):Region.wanted o y=true:=by simp [Region.wanted,h]
theorem Kd.yes (K:Kd D a N l) {ops:Array Oper} {o:Oper} {j s:Nat} {b:Bool} (h:o.guard=some (j,b)) (hj:(ops[j]?).bind (·.dst)=some s) (hs:yJ l s=some (.bool b)) :
  Region.wanted o (yielded ops a.tmps)=true:=by
 have:=K.get s _ hs
 have h2:a.tmps[s]? = some (.bool b):=by
  cases hq:a.tmps[s]? with
  | none=>simp [hq,undef] at this
  | some v=>simp [hq] at this;rw [this]
 simp [Region.wanted,h,yielded,hj,h2]
theorem Kd.no (K:Kd D a N l) {ops:Array Oper} {o:Oper} {j s:Nat} {b c:Bool} (h:o.guard=some (j,b)) (hj:(ops[j]?).bind (·.dst)=some s) (hs:yJ l s=some (.bool c)) (hbc:(c==b)=false) :
  Region.wanted o (yielded ops a.tmps)=false:=by
 have:=K.get s _ hs
 have h2:a.tmps[s]? = some (.bool c):=by
  cases hq:a.tmps[s]? with
  | none=>simp [hq,undef] at this
  | some v=>simp [hq] at this;rw [this]
 simp [Region.wanted,h,yielded,hj,h2]
 cases c <;> cases b <;> simp_all
theorem Kd.nou (K:Kd D a N l) {ops:Array Oper} {o:Oper} {j s:Nat} {b:Bool} (h:o.guard=some (j,b)) (hj:(ops[j]?).bind (·.dst)=some s) (hs:yJ l s=some undef) :
  Region.wanted o (yielded ops a.tmps)=false:=by
 have:=K.get s _ hs
 simp [Region.wanted,h,yielded,hj]
 cases hq:a.tmps[s]? with
 | none=>simp
 | some v=>
  simp [hq] at this
  subst this
  simp [undef]
end
inductive kH where
 | blk (g:Nat) (t:TypeId) (cs:List Value)
 | row (e:TypeId) (s:Nat) (A:Option Addr) (n c:Nat) (xs:List Value)
 | DG (g:Nat) (t:TypeId) (A:Option Addr) (n c:Nat)
 | Ol (P:Program) (k e:TypeId) (g:Nat) (m:List (List UInt8 × Int))
 | P4 (g:Nat) (cs:List Value)
 | rwm (e:TypeId) (A:Option Addr) (n c:Nat) (xs:List Value)
def SMap (P:Program) (k e:TypeId) (w:World) (g:Nat) (m:List (List UInt8 × Int)):Prop:=
 ∃D:DataW Unit,w.ownsMap P k (plainElem P e) g m.length D∧∀s:List UInt8,Maps.has D (.string s)=(rC m s).isSome∧∀z,D.atKey (.string s) z=(match rC m s with | some v=>.lit (.int .i64 v) | none=>z)
theorem SMap.lt {P:Program} {k e:TypeId} {w:World} {g:Nat} {m:List (List UInt8 × Int)} (h:SMap P k e w g m):g<w.heap.size:=by
 obtain ⟨D,h,_⟩:=h;exact h.lt
theorem SMap.keep {P:Program} {k e:TypeId} {w w':World} {g:Nat} {m:List (List UInt8 × Int)} (h:SMap P k e w g m) (hk:w'.heap[g]? = w.heap[g]?):SMap P k e w' g m:=by
 obtain ⟨D,⟨es,clock,hb,r⟩,h2⟩:=h;exact ⟨D,⟨es,clock,hk.trans hb,r⟩,h2⟩
def kH.holds (w:World):kH→Prop
 | .blk g t cs=>g9 w g t cs.toArray
 | .row e s A n c xs=>w.ownsRow 0 e s (.slice A n c) n xs
 | .DG g t A n c=>∃p,(p=none∨p=some ⟨g,0,none⟩)∧g9 w g t #[.pointer p,.slice A n c]
 | .Ol P k e g m=>SMap P k e w g m
 | .P4 g cs=>∃arr t q,w.heap[g]? = some (.cells arr t q)∧∀(j:Nat) (u:Value),cs[j]? = some u→arr[j]? = some u
 | .rwm e A n c xs=>∃g cur fz,A=some ⟨g,0,none⟩∧w.heap[g]? = some (.cells cur e fz)∧(fz.2≤fz.1∨cur.size≤fz.1)∧xs.length=n∧n≤c∧c≤maxLen∧cur.size=c∧cur.toList.take n=xs
def kH.foot:kH→Option Nat
 | .blk g _ _=>some g
 | .row _ _ A _ _ _=>A.map (·.block)
 | .DG g _ _ _ _=>some g
 | .Ol _ _ _ g _=>some g
 | .P4 g _=>some g
 | .rwm _ A _ _ _=>A.map (·.block)
def kH.R5:kH→Bool
 | .Ol ..=>false
 | _=>true
def Yq:Obj→Bool
 | .cells ..=>true
 | _=>false
def yP (W w:World):Prop:=∀(k:Nat) (o:Obj),W.heap[k]? = some o→Yq o=false→w.heap[k]? = some o
theorem yP.refl (W:World):yP W W:=fun _ _ h _=>h
theorem yP.trans {A B C:World} (h:yP A B) (k:yP B C):yP A C:=fun i o hi ho=>k i o (h i o hi ho) ho
theorem yP.below {W w:World} (h:Below W.heap.size W w):yP W w:=fun k o hk _=>(h.block k (Array.getElem?_eq_some_iff.1 hk).1).trans hk
theorem yP.but {W w:World} {g:Option Nat} (h:∀k,k<W.heap.size→g≠some k→w.heap[k]? = W.heap[k]?) (hg:∀k o,g=some k→W.heap[k]? = some o→Yq o=true):yP W w:=fun k o hk ho=>by
 by_cases e:g=some k
 ·rw [hg k o e hk] at ho;cases ho
 ·exact (h k (Array.getElem?_eq_some_iff.1 hk).1 e).trans hk
structure Mem (base:Nat) (W w:World) (L:List kH):Prop where
 low:Below base W w
 P5:yP W w
 bs:base≤W.heap.size
 has:∀(i:Nat) (e:kH),L[i]? = some e→kH.holds w e
 up:∀(i:Nat) (e:kH) (g:Nat),L[i]? = some e→e.foot=some g→base≤g
 one:∀(i j:Nat) (e e':kH) (g:Nat),L[i]? = some e→L[j]? = some e'→e.foot=some g→e'.foot=some g→i=j
section
variable {base B:Nat} {W w w':World} {L L':List kH} {e:kH} {g:Nat} {t:TypeId} {cs:List Value}
theorem kH.lt (h:kH.holds w e) (hf:kH.foot e=some g):g<w.heap.size:=by
 cases e with
 | blk g' t cs=>simp [kH.foot] at hf;subst hf;exact g9.lt h
 | row e s A n c xs=>
  cases A with
  | none=>simp [kH.foot] at hf
  | some ad=>
   simp [kH.foot] at hf
   exact (World.ownsRow.lt h g (by simp [Value.ownBlock,hf])).2
 | DG g' t A n c=>
  obtain ⟨p,_,h⟩:=h
  simp [kH.foot] at hf;subst hf;exact g9.lt h
 | Ol P k e g' m=>simp [kH.foot] at hf;subst hf;exact SMap.lt h
 | P4 g' cs=>
  obtain ⟨arr,t,q,h,_⟩:=h
  simp [kH.foot] at hf;subst hf;exact lt_of_block h
 | rwm e A n c xs=>
  obtain ⟨g',cur,fz,rfl,h,_⟩:=h
  simp [kH.foot] at hf;subst hf;exact lt_of_block h
theorem kH.isC (h:kH.holds w e) (hc:e.R5=true) (hf:kH.foot e=some g) {o:Obj} (ho:w.heap[g]? = some o):Yq o=true:=by
 cases e with
 | blk g' t cs=>
  simp [kH.foot] at hf;subst hf
  have h':w.heap[g']? = some (.cells cs.toArray t):=h;rw [h'] at ho;cases ho;rfl
 | row e s A n c xs=>
  obtain ⟨h1,h2⟩:=h
  rcases h2 with ⟨hA,_⟩ | ⟨g',cap,cur,hv,hg,hh,r⟩
  ·cases hA;simp [kH.foot] at hf
  ·injection hv with e1 _ _
   simp [kH.foot,e1] at hf
   subst hf;rw [hh] at ho;cases ho;rfl
 | DG g' t A n c=>
  obtain ⟨p,_,h⟩:=h
  simp [kH.foot] at hf;subst hf
  have h':w.heap[g']? = some (.cells #[.pointer p,.slice A n c] t):=h;rw [h'] at ho;cases ho;rfl
 | Ol P k e g' m=>cases hc
 | P4 g' cs=>
  obtain ⟨arr,t,q,h,_⟩:=h
  simp [kH.foot] at hf;subst hf
  rw [h] at ho;cases ho;rfl
 | rwm e A n c xs=>
  obtain ⟨g',cur,fz,rfl,h,_⟩:=h
  simp [kH.foot] at hf;subst hf
  rw [h] at ho;cases ho;rfl
theorem kH.keep (h:kH.holds w e) (hk:∀g,e.foot=some g→w'.heap[g]? = w.heap[g]?):kH.holds w' e:=by
 cases e with
 | blk g' t cs=>exact (hk g' rfl).trans h
 | row e s A n c xs=>
  obtain ⟨h1,h2⟩:=h;refine ⟨h1,?_⟩
  rcases h2 with h2 | ⟨g',cap,cur,hv,hg,hh,r⟩
  ·exact .inl h2
  ·refine .inr ⟨g',cap,cur,hv,hg,?_,r⟩
   injection hv with e1 _ _
   rw [hk g' (by simp [kH.foot,e1])];exact hh
 | DG g' t A n c=>
  obtain ⟨p,h1,h⟩:=h;exact ⟨p,h1,(hk g' rfl).trans h⟩
 | Ol P k e g' m=>exact SMap.keep h (hk g' rfl)
 | P4 g' cs=>
  obtain ⟨arr,t,q,h,h2⟩:=h;exact ⟨arr,t,q,(hk g' rfl).trans h,h2⟩
 | rwm e A n c xs=>
  obtain ⟨g',cur,fz,hA,h,r⟩:=h;exact ⟨g',cur,fz,hA,(hk g' (by simp [kH.foot,hA])).trans h,r⟩
theorem Mem.start (w:World):Mem w.heap.size w w []:=⟨Below.refl _ _,yP.refl _,Nat.le_refl _,fun _ _ h=>by simp at h,fun _ _ _ h=>by simp at h,fun _ _ _ _ _ h=>by simp at h⟩
theorem Mem.sz (M:Mem base W w L):base≤w.heap.size:=Nat.le_trans M.bs M.low.size
theorem Mem.drew (M:Mem base W w L):Mem base W w.drew L:=⟨M.low.drew,M.P5,M.bs,fun i e h=>kH.keep (M.has i e h) fun _ _=>rfl,M.up,M.one⟩
theorem Mem.G9 (M:Mem base W w L):∀(i:Nat) (e:kH) (g:Nat),L[i]? = some e→e.foot=some g→g<w.heap.size:=fun i _ _ h hf=>kH.lt (M.has i _ h) hf
theorem Mem.far (M:Mem base W w L) (hb:Below base w w') (ho:yP w w') (hk:∀(i:Nat) (e:kH) (g:Nat),L[i]? = some e→e.foot=some g→w'.heap[g]? = w.heap[g]?):Mem base W w' L:=
 ⟨M.low.trans hb,M.P5.trans ho,M.bs,fun i e h=>kH.keep (M.has i e h) fun g hg=>hk i e g h hg,M.up,M.one⟩
theorem Mem.below (M:Mem base W w L) (hb:Below w.heap.size w w'):Mem base W w' L:=
 M.far (hb.mono M.sz) (yP.below hb) fun i e g h hg=>hb.block g (M.G9 i e g h hg)
theorem Mem.cons (M:Mem base W w L) (h:kH.holds w e) (hf:∀g,e.foot=some g→base≤g∧∀(i:Nat) (e':kH),L[i]? = some e'→e'.foot≠some g):Mem base W w (e::L):=by
 refine ⟨M.low,M.P5,M.bs,?_,?_,?_⟩
 ·rintro (_ | i) e' h'
  ·simp at h';subst h';exact h
  ·exact M.has i e' (by simpa using h')
 ·rintro (_ | i) e' g h' hg
  ·simp at h';subst h';exact (hf g hg).1
  ·exact M.up i e' g (by simpa using h') hg
 ·rintro (_ | i) (_ | j) e1 e2 g h1 h2 g1 g2
  ·rfl
  ·simp at h1 h2;subst h1;exact absurd g2 ((hf g g1).2 j e2 h2)
  ·simp at h1 h2;subst h2;exact absurd g1 ((hf g g2).2 i e1 h1)
  ·simp at h1 h2;rw [M.one i j e1 e2 g h1 h2 g1 g2]
theorem Mem.call (M:Mem base W w L) (M':Mem w.heap.size w w' L'):Mem base W w' (L'++L):=by
 have M1:=M.below M'.low;refine ⟨M1.low,M1.P5,M.bs,?_,?_,?_⟩
 ·intro i e h;rw [List.getElem?_append] at h
  split at h
  ·exact M'.has i e h
  ·exact M1.has _ e h
 ·intro i e g h hg;rw [List.getElem?_append] at h
  split at h
  ·have:=M'.up i e g h hg;have:=M.sz;omega
  ·exact M1.up _ e g h hg
 ·intro i j e e' g h h' hg hg';rw [List.getElem?_append] at h h'
  split at h <;> split at h'
  ·exact M'.one i j e e' g h h' hg hg'
  ·have:=M'.up i e g h hg;have:=M.G9 _ e' g h' hg';omega
  ·have:=M'.up j e' g h' hg';have:=M.G9 _ e g h hg;omega
  ·have:=M1.one _ _ e e' g h h' hg hg';omega
theorem Mem.new (M:Mem base W w L) (t:TypeId) (cs:List Value):Mem base W (w.alloc (.cells cs.toArray t)) (.blk w.heap.size t cs::L):=by
 refine (M.below ((Below.refl _ _).alloc (Nat.le_refl _) _)).cons (g9.new w t cs.toArray) fun g hg=>?_
 simp [kH.foot] at hg
 subst hg;exact ⟨M.sz,fun i e' h he=>by have:=M.G9 i e' _ h he;omega⟩
theorem Mem.tail (M:Mem base W w (e::L)):Mem base W w L:=
 ⟨M.low,M.P5,M.bs,fun i e h=>M.has (i+1) e (by simpa using h),fun i e g h=>M.up (i+1) e g (by simpa using h),fun i j e e' g h h' k k'=>by have:=M.one (i+1) (j+1) e e' g (by simpa using h) (by simpa using h') k k';omega⟩
def IH:kH:=.row 0 0 none 0 0 []
def Kb (L:List kH) (is:List Nat):List kH:=is.map fun i=>L.getD i IH
theorem MQ (w:World):kH.holds w IH:=⟨by simp,.inl ⟨rfl,rfl⟩⟩
theorem Mem.pick (M:Mem base W w L) (is:List Nat) (h:is.Nodup):Mem base W w (Kb L is):=by
 have key:∀(i:Nat) (e:kH),(Kb L is)[i]? = some e→∃j,is[i]? = some j∧(L[j]? = some e∨(L[j]? = none∧e=IH)):=by
  intro i e he;simp only [Kb,List.getElem?_map,Option.map_eq_some_iff] at he;obtain ⟨j,hj,rfl⟩:=he;refine ⟨j,hj,?_⟩
  cases hq:L[j]? <;> simp [hq]
 refine ⟨M.low,M.P5,M.bs,?_,?_,?_⟩
 ·intro i e he;obtain ⟨j,_,h | ⟨_,rfl⟩⟩:=key i e he
  ·exact M.has j e h
  ·exact MQ w
 ·intro i e g he hg;obtain ⟨j,_,h | ⟨_,rfl⟩⟩:=key i e he
  ·exact M.up j e g h hg
  ·simp [IH,kH.foot] at hg
 ·intro i i' e e' g he he' hg hg';obtain ⟨j,hj,h1 | ⟨_,rfl⟩⟩:=key i e he
  ·obtain ⟨j',hj',h2 | ⟨_,rfl⟩⟩:=key i' e' he'
   ·have:=M.one j j' e e' g h1 h2 hg hg';subst this;exact (List.getElem?_inj (List.getElem?_eq_some_iff.1 hj).1 h).1 (hj.trans hj'.symm)
   ·simp [IH,kH.foot] at hg'
  ·simp [IH,kH.foot] at hg
theorem Mem.Vc (M:Mem base W w L) (i:Nat) {e e':kH} (hi:L[i]? = some e) (hb:Below base w w') (hh:kH.holds w' e')
  (hk:∀k,k<w.heap.size→e.foot≠some k→w'.heap[k]? = w.heap[k]?) (hf:∀g,e'.foot=some g→e.foot=some g∨w.heap.size≤g) (ho:yP W w'):Mem base W w' (L.set i e'):=by
 have hlt:i<L.length:=(List.getElem?_eq_some_iff.1 hi).1;refine ⟨M.low.trans hb,ho,M.bs,?_,?_,?_⟩
 ·intro j f h;rw [List.getElem?_set] at h
  by_cases hij:i=j
  ·rw [if_pos hij,if_pos hlt] at h;cases h;exact hh
  ·rw [if_neg hij] at h;refine kH.keep (M.has j f h) fun g hg=>hk g (M.G9 j f g h hg) fun he=>hij (M.one i j e f g hi h he hg)
 ·intro j f g h hg;rw [List.getElem?_set] at h
  by_cases hij:i=j
  ·rw [if_pos hij,if_pos hlt] at h;cases h
   rcases hf g hg with h0 | h0
   ·exact M.up i e g hi h0
   ·have:=M.sz;omega
  ·rw [if_neg hij] at h;exact M.up j f g h hg
 ·intro j k f f' g h h' hg hg';rw [List.getElem?_set] at h h'
  by_cases hij:i=j <;> by_cases hik:i=k
  ·omega
  ·rw [if_pos hij,if_pos hlt] at h;cases h;rw [if_neg hik] at h'
   rcases hf g hg with h0 | h0
   ·exact absurd (M.one i k e f' g hi h' h0 hg') hik
   ·have:=M.G9 k f' g h' hg';omega
  ·rw [if_neg hij] at h;rw [if_pos hik,if_pos hlt] at h';cases h'
   rcases hf g hg' with h0 | h0
   ·exact absurd (M.one i j e f g hi h h0 hg) hij
   ·have:=M.G9 j f g h hg;omega
  ·rw [if_neg hij] at h;rw [if_neg hik] at h';exact M.one j k f f' g h h' hg hg'
theorem Mem.turn (M:Mem base W w L) (i:Nat) {e e':kH} (hi:L[i]? = some e) (hb:Below base w w') (hh:kH.holds w' e')
  (hk:∀k,k<w.heap.size→e.foot≠some k→w'.heap[k]? = w.heap[k]?) (hf:∀g,e'.foot=some g→e.foot=some g∨w.heap.size≤g) (hc:e.R5=true:=by rfl):Mem base W w' (L.set i e'):=
 M.Vc i hi hb hh hk hf (M.P5.trans (yP.but hk fun k o hk' ho=>kH.isC (M.has i e hi) hc hk' ho))
theorem Mem.aDg (M:Mem base W w L) (hW:base=W.heap.size) (i:Nat) {e e':kH} (hi:L[i]? = some e) (hb:Below base w w') (hh:kH.holds w' e')
  (hk:∀k,k<w.heap.size→e.foot≠some k→w'.heap[k]? = w.heap[k]?) (hf:∀g,e'.foot=some g→e.foot=some g∨w.heap.size≤g):Mem base W w' (L.set i e'):=
 M.Vc i hi hb hh hk hf fun k o hk1 ho=>by
  have h1:=M.P5 k o hk1 ho;have h2:k<W.heap.size:=(Array.getElem?_eq_some_iff.1 hk1).1;refine (hk k (Array.getElem?_eq_some_iff.1 h1).1 fun hf=>?_).trans h1;have:=M.up i e k hi hf
  omega
theorem Mem.aL (M:Mem base W w L) {i:Nat} (h:L[i]? = some (.blk g t cs)):g9 w g t cs.toArray:=M.has i _ h
theorem Mem.cell (M:Mem base W w L) {i:Nat} (h:L[i]? = some (.blk g t cs)) {k:Nat} {v:Value} (hk:cs[k]? = some v):w.cell? ⟨g,k,none⟩=some v:=by
 rw [(M.aL h).cell k];simpa using hk
theorem Mem.set (M:Mem base W w L) (i:Nat) (h:L[i]? = some (.blk g t cs)) (k:Nat) (v:Value):Mem base W (w.setCell ⟨g,k,none⟩ v) (L.set i (.blk g t (cs.set k v))):=by
 have hup:=M.up i _ g h rfl;refine M.turn i h ((Below.refl _ _).setCell (by show base≤g;exact hup) v) ?_ (fun j _ hj=>?_) (fun g' hg'=>.inl hg')
 ·exact (M.aL h).yO k v (by simp)
 ·exact Below.heap_setCell w _ v j fun e=>hj (by simp [kH.foot,e])
theorem Mem.setRow (M:Mem base W w L) (i:Nat) (h:L[i]? = some (.blk g t cs)) (cs':List Value):Mem base W (w.setRow g cs'.toArray) (L.set i (.blk g t cs')):=by
 have hup:=M.up i _ g h rfl;refine M.turn i h ⟨rfl,rfl,rfl,by simp,fun k hk=>setRow_other w g k _ (by omega)⟩ ?_ (fun j _ hj=>?_) (fun g' hg'=>.inl hg')
 ·exact setRow_heap w g _ _ t (0,0) (M.aL h)
 ·exact setRow_other w g j _ fun e=>hj (by simp [kH.foot,e])
end
section
variable (P:Program)
def DH (t:TypeId) (n:Nat):Bool:=(match P.underlying t with | some (.struct _) | some (.array _ _)=>true | _=>false)&&(P.info? t).map (·.size)==some n
def Ju (t:TypeId):Bool:=(match P.underlying t with | some (.struct _) | some (.array _ _) | none=>false | _=>true)&&(P.info? t).map (·.size)==some 1
def iU (t:TypeId):Option (List Value):=(P.info? t).bind fun i=>i.zero.map (·.cells.toList)
def JS (t e s b:Nat):Bool:=(match P.underlying t with | some (.slice e')=>e'==e | _=>false)&&(P.info? e).map (fun i=>(i.size,i.bytes))==some (s,b)
def yQ (t:TypeId) (f:Nat):Option Nat:=match P.underlying t with
 | some (.struct fs)=>match fs[f]? with
  | some fl=>match P.info? fl.type with
   | some i=>if i.size=0 then none else some fl.offset
   | none=>none
  | none=>none
 | _=>none
end
section
variable {P:Program} {S:World→Prop} {D:List Deferred} {a:Act} {N:Nat} {l:List (Nat × Value)} {o:Oper} {x y c:Operand} {v u:Value} {t e t':TypeId} {m n:Int} {k k':IntKind} {b b':Bool}
theorem Cp {n:Nat} (h:DH P t n=true):∃d,P.underlying t=some d∧(match d with | .struct _ | .array _ _=>true | _=>false)=true∧(P.info? t).map (·.size)=some n:=by
 simp only [DH,Bool.and_eq_true,beq_iff_eq] at h;obtain ⟨h1,h2⟩:=h
 split at h1
 ·rename_i fs hq;exact ⟨_,hq,rfl,h2⟩
 ·rename_i p q hq;exact ⟨_,hq,rfl,h2⟩
 ·cases h1
theorem AY (h:Ju P t=true) (w:World):(isAgg t).run P w = .ok false w∧(sizeOf t).run P w = .ok 1 w:=by
 simp only [Ju,Bool.and_eq_true,beq_iff_eq] at h;obtain ⟨h1,h2⟩:=h;cases hq:P.underlying t with
 | none=>simp [hq] at h1
 | some d=>
  have h2':=h2;simp only [Option.map_eq_some_iff] at h2';obtain ⟨i,hi,hs⟩:=h2';refine ⟨?_,by simp [sizeOf,typeInfo,hi,hs]⟩;unfold isAgg;rw [Sem.run_bind,run_underlying hq w]
  cases d <;> simp_all
theorem lA {s b:Nat} (h:JS P t e s b=true):P.underlying t=some (.slice e)∧∃i,P.info? e=some i∧i.size=s∧i.bytes=b:=by
 simp only [JS,Bool.and_eq_true,beq_iff_eq,Option.map_eq_some_iff,Prod.mk.injEq] at h;obtain ⟨h1,i,h2,h3,h4⟩:=h
 split at h1
 ·rename_i e' hq
  simp at h1;subst h1
  exact ⟨hq,i,h2,h3,h4⟩
 ·cases h1
def Rd (P:Program) (S:World→Prop) (a:Act) (o:Oper) (v:Value):Prop:=∀w,S w→(execOp a.eval o).run P w = .ok (.value v) w
theorem gC (ho:o.op = .move x) (K:Kd D a N l) (hx:g7 l x=some v):Rd P S a o v:=fun w _=>by
 unfold execOp;simp only [ho,K.ev hx];rfl
theorem yA (ho:o.op = .assign x) (K:Kd D a N l) (hx:g7 l x=some v):Rd P S a o v:=fun w _=>by
 unfold execOp;simp only [ho,K.ev hx];rfl
theorem jG (ho:o.op = .pick c x y) (K:Kd D a N l) (hc:g7 l c=some (.bool true)) (hx:g7 l x=some v):Rd P S a o v:=fun w _=>by
 unfold execOp;simp [ho,K.ev hc,K.ev hx,asBool]
theorem uN (ho:o.op = .pick c x y) (K:Kd D a N l) (hc:g7 l c=some (.bool false)) (hy:g7 l y=some v):Rd P S a o v:=fun w _=>by
 unfold execOp;simp [ho,K.ev hc,K.ev hy,asBool]
theorem pR {op:BinOp} (ho:o.op = .binOp op t x y t') (K:Kd D a N l) (hx:g7 l x=some u) (hy:g7 l y=some v) {r:Value} (h:∀w,(do eqGuard op t x y u v;binOp op t u v:Sem Value).run P w = .ok r w):Rd P S a o r:=fun w _=>by
 unfold execOp;simp only [ho,K.ev hx,K.ev hy,Sem.run_bind];have:=h w;simp only [Sem.run_bind] at this;rw [this];rfl
theorem j3 (ho:o.op = .binOp .add t x y t') (K:Kd D a N l) (hx:g7 l x=some (.int k m)) (hy:g7 l y=some (.int k n)):Rd P S a o (.int k (k.wrap (m+n))):=
 pR ho K hx hy fun w=>by simp [eqGuard,binOp,Op.intArith]
theorem Fh (ho:o.op = .binOp .sub t x y t') (K:Kd D a N l) (hx:g7 l x=some (.int k m)) (hy:g7 l y=some (.int k n)):Rd P S a o (.int k (k.wrap (m-n))):=
 pR ho K hx hy fun w=>by simp [eqGuard,binOp,Op.intArith]
theorem En (ho:o.op = .binOp .mul t x y t') (K:Kd D a N l) (hx:g7 l x=some (.int k m)) (hy:g7 l y=some (.int k n)):Rd P S a o (.int k (k.wrap (m*n))):=
 pR ho K hx hy fun w=>by simp [eqGuard,binOp,Op.intArith]
theorem j5 (ho:o.op = .binOp .quo t x y t') (K:Kd D a N l) (hx:g7 l x=some (.int k m)) (hy:g7 l y=some (.int k n)) (hn:n≠0):Rd P S a o (.int k (k.wrap (m.tdiv n))):=
 pR ho K hx hy fun w=>by simp [eqGuard,binOp,Op.intDiv,hn]
theorem qA (ho:o.op = .binOp .rem t x y t') (K:Kd D a N l) (hx:g7 l x=some (.int k m)) (hy:g7 l y=some (.int k n)) (hn:n≠0):Rd P S a o (.int k (m.tmod n)):=
 pR ho K hx hy fun w=>by simp [eqGuard,binOp,Op.intDiv,hn]
theorem jL (ho:o.op = .binOp .lss t x y t') (K:Kd D a N l) (hx:g7 l x=some (.int k m)) (hy:g7 l y=some (.int k n)):Rd P S a o (.bool (decide (m<n))):=
 pR ho K hx hy fun w=>by simp [eqGuard,binOp,Op.intCmp]
theorem Ke (ho:o.op = .binOp .leq t x y t') (K:Kd D a N l) (hx:g7 l x=some (.int k m)) (hy:g7 l y=some (.int k n)):Rd P S a o (.bool (decide (m≤n))):=
 pR ho K hx hy fun w=>by simp [eqGuard,binOp,Op.intCmp]
theorem II (ho:o.op = .binOp .gtr t x y t') (K:Kd D a N l) (hx:g7 l x=some (.int k m)) (hy:g7 l y=some (.int k n)):Rd P S a o (.bool (decide (n<m))):=
 pR ho K hx hy fun w=>by simp [eqGuard,binOp,Op.intCmp]
theorem Kf (ho:o.op = .binOp .geq t x y t') (K:Kd D a N l) (hx:g7 l x=some (.int k m)) (hy:g7 l y=some (.int k n)):Rd P S a o (.bool (decide (n≤m))):=
 pR ho K hx hy fun w=>by simp [eqGuard,binOp,Op.intCmp]
theorem Kg (ho:o.op = .binOp .eql t x y t') (K:Kd D a N l) (hx:g7 l x=some (.int k m)) (hy:g7 l y=some (.int k n)):Rd P S a o (.bool (decide (m=n))):=
 pR ho K hx hy fun w=>by simp [eqGuard,binOp,Op.intCmp];rfl
theorem Kh (ho:o.op = .binOp .neq t x y t') (K:Kd D a N l) (hx:g7 l x=some (.int k m)) (hy:g7 l y=some (.int k n)):Rd P S a o (.bool (!decide (m=n))):=
 pR ho K hx hy fun w=>by simp [eqGuard,binOp,Op.intCmp];rfl
theorem Fi (ho:o.op = .binOp .and t x y t') (K:Kd D a N l) (hx:g7 l x=some (.int k m)) (hy:g7 l y=some (.int k n)):Rd P S a o (.int k (zP k m n)):=
 pR ho K hx hy fun w=>by simp [eqGuard,binOp,Op.intBits,zP]
theorem Ha (ho:o.op = .binOp .or t x y t') (K:Kd D a N l) (hx:g7 l x=some (.int k m)) (hy:g7 l y=some (.int k n)):Rd P S a o (.int k (Fc k m n)):=
 pR ho K hx hy fun w=>by simp [eqGuard,binOp,Op.intBits,Fc]
theorem aBJ (ho:o.op = .binOp .xor t x y t') (K:Kd D a N l) (hx:g7 l x=some (.int k m)) (hy:g7 l y=some (.int k n)):Rd P S a o (.int k (MP k m n)):=
 pR ho K hx hy fun w=>by simp [eqGuard,binOp,Op.intBits,MP]
theorem rY (ho:o.op = .binOp .shl t x y t') (K:Kd D a N l) (hx:g7 l x=some (.int k m)) (hy:g7 l y=some (.int k' n)) (hn:0≤n):Rd P S a o (.int k (mN k m n)):=
 pR ho K hx hy fun w=>by simp [eqGuard,binOp,Op.shift,show ¬n<0 by omega,mN]
theorem oL (ho:o.op = .binOp .shr t x y t') (K:Kd D a N l) (hx:g7 l x=some (.int k m)) (hy:g7 l y=some (.int k' n)) (hn:0≤n):Rd P S a o (.int k (iB k m n)):=
 pR ho K hx hy fun w=>by simp [eqGuard,binOp,Op.shift,show ¬n<0 by omega,iB]
theorem rd_not (ho:o.op = .unOp .not t x) (K:Kd D a N l) (hx:g7 l x=some (.bool b)):Rd P S a o (.bool (!b)):=fun w _=>by
 unfold execOp;simp [ho,K.ev hx,Op.unary]
theorem Vd (ho:o.op = .unOp .neg t x) (K:Kd D a N l) (hx:g7 l x=some (.int k m)):Rd P S a o (.int k (k.wrap (0-m))):=fun w _=>by
 unfold execOp;simp [ho,K.ev hx,Op.unary,Op.intArith]
theorem Hb (ho:o.op = .convert t t' x) (hs:(P.underlying t).isSome=true) (hd:P.underlying t'=some (.int k')) (K:Kd D a N l) (hx:g7 l x=some (.int k m)):Rd P S a o (.int k' (k'.wrap m)):=fun w _=>by
 obtain ⟨d,hs⟩:=Option.isSome_iff_exists.1 hs;unfold execOp;simp [ho,K.ev hx,convert,run_underlying hs,run_underlying hd,Conv.intToInt]
theorem Cv {i:Nat} {vs:Array Value} (ho:o.op = .extract x i) (K:Kd D a N l) (hx:g7 l x=some (.tuple vs)) (hi:vs[i]? = some v):Rd P S a o v:=fun w _=>by
 unfold execOp;simp [ho,K.ev hx,Instr.extract,hi]
theorem Eo {fn:Fn} {cap:Array Operand} (ho:o.op = .makeFunc fn #[] cap) (K:Kd D a N l) {vs:List Value} (h:cap.toList.map (g7 l)=vs.map some):Rd P S a o (.func fn #[] vs.toArray):=fun w _=>by
 unfold execOp
 have:cap.map a.eval=vs.toArray:=by
  apply Array.ext'
  simp only [Array.toList_map]
  have:∀(xs:List Operand) (vs:List Value),xs.map (g7 l)=vs.map some→xs.map a.eval=vs:=by
   intro xs
   induction xs with
   | nil=>intro vs h;cases vs <;> simp_all
   | cons x xs ih=>
    intro vs h;cases vs with
    | nil=>simp at h
    | cons v vs=>simp only [List.map_cons,List.cons.injEq] at h ⊢;exact ⟨K.ev h.1,ih vs h.2⟩
  exact this _ _ h
 simp [ho,this,Instr.makeFunc]
theorem qB (ho:o.op = .nilCheck x) (K:Kd D a N l) {ad:Addr} (hx:g7 l x=some (.pointer (some ad))):Rd P S a o (.pointer (some ad)):=fun w _=>by
 unfold execOp;simp [ho,K.ev hx]
theorem uO (ho:o.op = .call { callee:=.builtin .len,args:=#[x],argTypes:=#[t] }) (h:∃e,P.underlying t=some (.slice e)) (K:Kd D a N l) {A:Option Addr} {n c:Nat} (hx:g7 l x=some (.slice A n c)):Rd P S a o (.int .i64 n):=fun w _=>by
 obtain ⟨e,h⟩:=h;unfold execOp;simp [ho,resolve,invoke,builtin,K.ev hx,Builtin.len_,run_underlying h,goInt]
theorem Yr (ho:o.op = .call { callee:=.builtin .len,args:=#[x],argTypes:=#[t] }) (h:P.underlying t=some .string) (K:Kd D a N l) {s:ByteArray} (hx:g7 l x=some (.string s)):Rd P S a o (.int .i64 s.size):=fun w _=>by
 unfold execOp;simp [ho,resolve,invoke,builtin,K.ev hx,Builtin.len_,run_underlying h,goInt]
theorem Fj {ts:Array TypeId} (ho:o.op = .call { callee:=.builtin .max,args:=#[x,y],argTypes:=ts }) (K:Kd D a N l) (hx:g7 l x=some (.int k m)) (hy:g7 l y=some (.int k' n)):Rd P S a o (.int k (max m n)):=fun w _=>by
 unfold execOp;simp [ho,resolve,invoke,builtin,K.ev hx,K.ev hy,run_max_int2];omega
theorem Fk {ts:Array TypeId} (ho:o.op = .call { callee:=.builtin .min,args:=#[x,y],argTypes:=ts }) (K:Kd D a N l) (hx:g7 l x=some (.int k m)) (hy:g7 l y=some (.int k' n)):Rd P S a o (.int k (min m n)):=fun w _=>by
 unfold execOp;simp [ho,resolve,invoke,builtin,K.ev hx,K.ev hy,run_min_int2];omega
theorem Ys {z:Operand} {k'':IntKind} {q:Int} {ts:Array TypeId} (ho:o.op = .call { callee:=.builtin .max,args:=#[x,y,z],argTypes:=ts }) (K:Kd D a N l) (hx:g7 l x=some (.int k m)) (hy:g7 l y=some (.int k' n)) (hz:g7 l z=some (.int k'' q)):Rd P S a o (.int k (max (max m n) q)):=fun w _=>by
 unfold execOp;simp [ho,resolve,invoke,builtin,K.ev hx,K.ev hy,K.ev hz,run_max_int3];omega
theorem Yt {z:Operand} {k'':IntKind} {q:Int} {ts:Array TypeId} (ho:o.op = .call { callee:=.builtin .min,args:=#[x,y,z],argTypes:=ts }) (K:Kd D a N l) (hx:g7 l x=some (.int k m)) (hy:g7 l y=some (.int k' n)) (hz:g7 l z=some (.int k'' q)):Rd P S a o (.int k (min (min m n) q)):=fun w _=>by
 unfold execOp;simp [ho,resolve,invoke,builtin,K.ev hx,K.ev hy,K.ev hz,run_min_int3];omega
theorem aQ {f off:Nat} {ad:Addr} (ho:o.op = .fieldAddr t x f) (ht:yQ P t f=some off) (K:Kd D a N l) (hx:g7 l x=some (.pointer (some ad))):Rd P S a o (.pointer (some (ad.add off))):=fun w _=>by
 unfold yQ at ht
 split at ht
 ·rename_i fs hu
  split at ht
  ·rename_i fl hf
   split at ht
   ·rename_i i hi
    split at ht
    ·cases ht
    ·rename_i hs
     cases ht;unfold execOp
     simp [ho,K.ev hx,Instr.fieldAt,run_underlying hu,hf,Instr.sureAddr,fieldPlace,sizeOf,typeInfo,hi,hs]
   ·cases ht
  ·cases ht
 ·cases ht
end
structure uK (α:Type) where
 enc:α→List Value
 size:Nat
 len:∀x,(enc x).length=size
 one:∀x,∀u∈enc x,u.oneCell'=true
 pos:0<size
def uK.all {α:Type} (C:uK α) (xs:List α):List Value:=xs.flatMap C.enc
section
variable {α:Type} {C:uK α} {w w' W:World} {A:Option Addr} {xs ys:List α}
theorem uK.wZ (C:uK α):∀xs:List α,(C.all xs).length=xs.length*C.size
 | []=>by simp [uK.all]
 | x::xs=>by
  have:=uK.wZ C xs;simp only [uK.all,List.flatMap_cons,List.length_append,C.len,List.length_cons,Nat.add_mul,Nat.one_mul] at this ⊢
  omega
theorem uK.yR (C:uK α):∀(xs:List α) (i j:Nat) (x:α) (u:Value),xs[i]? = some x→(C.enc x)[j]? = some u→(C.all xs)[i*C.size+j]? = some u
 | [],i,j,x,u,h,_=>by simp at h
 | y::xs,0,j,x,u,h,hu=>by
  simp at h;subst h
  have hj:j<(C.enc y).length:=(List.getElem?_eq_some_iff.1 hu).1;simp only [uK.all,List.flatMap_cons,Nat.zero_mul,Nat.zero_add];rw [List.getElem?_append_left hj];exact hu
 | y::xs,i+1,j,x,u,h,hu=>by
  have:=uK.yR C xs i j x u (by simpa using h) hu;simp only [uK.all,List.flatMap_cons] at this ⊢;rw [List.getElem?_append_right (by rw [C.len,Nat.add_mul];omega),C.len];rw [show (i+1)*C.size+j-C.size=i*C.size+j by rw [Nat.add_mul];omega];exact this
theorem uK.MR (C:uK α):∀(xs:List α) (k:Nat) (u:Value),(C.all xs)[k]? = some u→∃i j x,k=i*C.size+j∧xs[i]? = some x∧(C.enc x)[j]? = some u
 | [],k,u,h=>by simp [uK.all] at h
 | y::xs,k,u,h=>by
  simp only [uK.all,List.flatMap_cons,List.getElem?_append] at h
  split at h
  ·exact ⟨0,k,y,by simp,by simp,h⟩
  ·rename_i hk
   rw [C.len] at h hk;obtain ⟨i,j,x,h1,h2,h3⟩:=uK.MR C xs (k-C.size) u h;exact ⟨i+1,j,x,by rw [Nat.add_mul];omega,by simpa using h2,h3⟩
theorem uK.Yu (C:uK α) (xs:List α):∀u∈C.all xs,u.oneCell'=true:=fun u hu=>by
 obtain ⟨x,_,h⟩:=List.mem_flatMap.1 hu;exact C.one x u h
theorem uK.all_append (C:uK α) (xs ys:List α):C.all (xs++ys)=C.all xs++C.all ys:=by simp [uK.all]
theorem uK.Yv (C:uK α) (x:α):∀(xs:List α) (i:Nat) (ws:List Value),i<xs.length→ws.length=xs.length*C.size →
  (∀j,ws[j]? = if i*C.size≤j∧j<i*C.size+C.size then (C.enc x)[j-i*C.size]? else (C.all xs)[j]?)→ws=C.all (xs.set i x):=by
 intro xs i ws hi hl h
 apply List.ext_getElem?
 intro k;have hL:(C.all (xs.set i x)).length=xs.length*C.size:=by rw [uK.wZ];simp
 rw [h k]
 by_cases hk:k<xs.length*C.size
 ·have hk2:k<(C.all (xs.set i x)).length:=by omega
  obtain ⟨u,hu⟩:∃u,(C.all (xs.set i x))[k]? = some u:=⟨_,List.getElem?_eq_getElem hk2⟩
  obtain ⟨i',j,y,rfl,hy,hu'⟩:=uK.MR C _ k u hu;have hj:j<C.size:=by have:=(List.getElem?_eq_some_iff.1 hu').1;rw [C.len] at this;exact this
  rw [hu];rw [List.getElem?_set] at hy
  by_cases hii:i=i'
  ·subst hii;rw [if_pos rfl,if_pos hi] at hy;cases hy;rw [if_pos ⟨by omega,by omega⟩,show i*C.size+j-i*C.size=j by omega];exact hu'
  ·rw [if_neg hii] at hy
   have hno:¬(i*C.size≤i'*C.size+j∧i'*C.size+j<i*C.size+C.size):=by
    rintro ⟨h1,h2⟩
    rcases Nat.lt_or_gt_of_ne hii with hlt | hlt
    ·have:=Nat.mul_le_mul_right C.size (show i+1≤i' from hlt);rw [Nat.add_mul] at this;omega
    ·have:=Nat.mul_le_mul_right C.size (show i'+1≤i from hlt);rw [Nat.add_mul] at this;omega
   rw [if_neg hno];exact uK.yR C xs i' j y u hy hu'
 ·rw [List.getElem?_eq_none (show (C.all (xs.set i x)).length≤k by omega)];have hb:=Nat.mul_le_mul_right C.size (show i+1≤xs.length from hi);rw [Nat.add_mul] at hb;rw [if_neg (by omega),List.getElem?_eq_none (by rw [uK.wZ];omega)]
def SL (w:World) (C:uK α) (A:Option Addr) (xs:List α):Prop:=
 0<xs.length→∃b o,A=some ⟨b,o,none⟩∧∀j u,(C.all xs)[j]? = some u→w.cell? ⟨b,o+j,none⟩=some u
def UM (A:Option Addr):Addr:=A.getD ⟨0,0,none⟩
theorem SL.lt (h:SL w C A xs) (hn:0<xs.length):∃b o,A=some ⟨b,o,none⟩∧b<w.heap.size∧∀j u,(C.all xs)[j]? = some u→w.cell? ⟨b,o+j,none⟩=some u:=by
 obtain ⟨b,o,hA,hc⟩:=h hn;refine ⟨b,o,hA,?_,hc⟩;have h0:0<(C.all xs).length:=by rw [uK.wZ];exact Nat.mul_pos hn C.pos
 exact block_lt_of_cell (hc 0 _ (List.getElem?_eq_getElem h0))
theorem SL.below (h:SL w C A xs) (hb:Below w.heap.size w w'):SL w' C A xs:=fun hn=>by
 obtain ⟨b,o,hA,hlt,hc⟩:=h.lt hn;exact ⟨b,o,hA,fun j u hu=>(hb.cell (p:=⟨b,o+j,none⟩) hlt).trans (hc j u hu)⟩
theorem SL.nil:SL w C A []:=fun h=>absurd h (by simp)
theorem SL.el (h:SL w C A xs) {i:Nat} {x:α} (hx:xs[i]? = some x) {j:Nat} {u:Value} (hu:(C.enc x)[j]? = some u) :
  ∃b o,A=some ⟨b,o,none⟩∧w.cell? ⟨b,o+(i*C.size+j),none⟩=some u:=by
 have hi:i<xs.length:=(List.getElem?_eq_some_iff.1 hx).1;obtain ⟨b,o,hA,hc⟩:=h (by omega);exact ⟨b,o,hA,hc _ _ (uK.yR C xs i j x u hx hu)⟩
theorem SL.sub (h:SL w C A xs) (c lo hi:Nat) (h1:lo≤hi) (h2:hi≤xs.length) (h3:xs.length≤c):SL w C (if c=lo then A else A.map (·.add (lo*C.size))) ((xs.take hi).drop lo):=fun hn=>by
 simp at hn
 obtain ⟨b,o,hA,hc⟩:=h (by omega);rw [if_neg (by omega)];refine ⟨b,o+lo*C.size,?_,fun j u hu=>?_⟩
 ·rw [hA];simp only [Option.map_some,Addr.add];split <;> simp_all
 ·obtain ⟨i,j',x,rfl,hx,hu'⟩:=uK.MR C _ j u hu;rw [List.getElem?_drop,List.getElem?_take] at hx
  split at hx
  ·have:=hc _ _ (uK.yR C xs (lo+i) j' x u hx hu');rw [Nat.add_mul] at this;rw [show o+lo*C.size+(i*C.size+j')=o+(lo*C.size+i*C.size+j') by omega];exact this
  ·cases hx
end
section
variable {P:Program} {base:Nat} {W w:World} {L:List kH} {S:World→Prop} {D:List Deferred} {a:Act} {N:Nat} {l:List (Nat × Value)} {o:Oper} {x y ix:Operand} {v u:Value} {t e t':TypeId} {m n:Int} {k k':IntKind}
  {g off:Nat} {cs ds:List Value} {α:Type} {C:uK α} {A:Option Addr} {c:Nat} {xs ys:List α}
theorem k8 (i:Nat) (h:L[i]? = some (.blk g t cs)):∀w,Mem base W w L→g9 w g t cs.toArray:=fun _ M=>M.aL h
theorem Bn (h:g9 W g t cs.toArray):∀w,Mem W.heap.size W w L→g9 w g t cs.toArray:=fun _ M=>h.below M.low h.lt
theorem dH (h:SL W C A xs):∀w,Mem W.heap.size W w L→SL w C A xs:=fun _ M=>h.below M.low
theorem aDh {s n:Nat} (h:kH.holds w (.row e s A n c (C.all xs))) (hs:s=C.size):SL w C A xs:=fun hn=>by
 subst hs;have hlen:=h.1;rw [uK.wZ] at hlen;have hnn:n=xs.length:=(Nat.eq_of_mul_eq_mul_right C.pos hlen).symm
 rcases h.2 with ⟨hv,h0⟩ | ⟨g,cap,cur,hv,hg,hh,hnc,_,hsz,htk⟩
 ·omega
 ·injection hv with e1 _ _
  refine ⟨g,0,e1,fun j u hu=>?_⟩;rw [Nat.zero_add,cell_of_row w g j cur e (0,0) hh];rw [←htk,List.getElem?_take] at hu
  split at hu
  ·simpa using hu
  ·cases hu
theorem gY (i:Nat) {s n:Nat} (h:L[i]? = some (.row e s A n c (C.all xs))) (hs:s=C.size):∀w,Mem base W w L→SL w C A xs:=fun _ M=>aDh (M.has i _ h) hs
theorem Fl {n:Nat} (ho:o.op = .load t x) (ht:DH P t n=true) (K:Kd D a N l) (hx:g7 l x=some (.pointer (some ⟨g,off,none⟩))) (hb:∀w,S w→g9 w g t' cs.toArray) (hs:(cs.drop off).take n=ds) (hn:ds.length=n) :
  Rd P S a o (.agg ds.toArray):=fun w hS=>by
 obtain ⟨d,hu,hd,hi⟩:=Cp ht;have hB:=hb w hS;subst hs
 have hl:(loadCells ⟨g,off,none⟩ ((cs.drop off).take n).length).run P w = .ok ((cs.drop off).take n).toArray w:=
  run_loadCells_list (P:=P) w ⟨g,off,none⟩ ((cs.drop off).take n) (fun j v hv=>by
   have hadd:(⟨g,off,none⟩:Addr).add j=⟨g,off+j,none⟩:=by unfold Addr.add;split <;> simp_all
   rw [hadd,hB.cell];rw [List.getElem?_take] at hv
   split at hv
   ·simpa using hv
   ·cases hv)
 rw [hn] at hl
 have hagg:(isAgg t).run P w = .ok true w:=by
  unfold isAgg;rw [Sem.run_bind,run_underlying hu w]
  cases d <;> simp_all
 simp only [Option.map_eq_some_iff] at hi;obtain ⟨i,hi,hsz⟩:=hi;unfold execOp
 simp [ho,K.ev hx,Instr.loadAt,Instr.sureAddr,loadVar,Sem.run_bind,hagg,sizeOf,typeInfo,hi,hsz,hl]
theorem bB (ho:o.op = .load t x) (ht:Ju P t=true) (K:Kd D a N l) (hx:g7 l x=some (.pointer (some ⟨g,off,none⟩))) (hb:∀w,S w→g9 w g t' cs.toArray) (hv:cs[off]? = some v):Rd P S a o v:=fun w hS=>by
 have hc:w.cell? ⟨g,off,none⟩=some v:=by rw [(hb w hS).cell];simpa using hv
 unfold execOp
 simp [ho,K.ev hx,Instr.loadAt,Instr.sureAddr,loadVar,Sem.run_bind,(AY ht w).1,run_load,hc]
theorem aBK (ho:o.op = .load t x) (ht:Ju P t=true) (K:Kd D a N l) {q:Nat} (hx:g7 l x=some (.pointer (some ((⟨g,off,none⟩:Addr).add (n.toNat*q))))) (hb:∀w,S w→g9 w g t' cs.toArray) (hq:q=1) (hv:idx (cs.drop off) n=some v):Rd P S a o v:=fun w hS=>by
 subst hq;obtain ⟨_,_,h3⟩:=wF hv;rw [List.getElem?_drop] at h3
 have hadd:(⟨g,off,none⟩:Addr).add n.toNat=⟨g,off+n.toNat,none⟩:=by unfold Addr.add;split <;> simp_all
 have hc:w.cell? ⟨g,off+n.toNat,none⟩=some v:=by rw [(hb w hS).cell];simpa using h3
 unfold execOp
 simp [ho,K.ev hx,hadd,Instr.loadAt,Instr.sureAddr,loadVar,Sem.run_bind,(AY ht w).1,run_load,hc]
theorem JT {b o':Nat} (hA:A=some ⟨b,o',none⟩) (j:Nat):(UM A).add j=⟨b,o'+j,none⟩:=by
 subst hA;unfold UM Addr.add;split <;> simp_all
theorem Ve {b o':Nat} (hA:A=some ⟨b,o',none⟩) (i j:Nat):((UM A).add i).add j=⟨b,o'+(i+j),none⟩:=by
 rw [JT hA];unfold Addr.add;split <;> simp_all <;> omega
theorem mA {el:α} {q s:Nat} (ho:o.op = .load t x) (ht:DH P t s=true) (K:Kd D a N l) (hx:g7 l x=some (.pointer (some ((UM A).add (n.toNat*q))))) (hs:s=C.size) (hq:q=C.size) (hb:∀w,S w→SL w C A xs) (hi:idx xs n=some el):Rd P S a o (.agg (C.enc el).toArray):=fun w hS=>by
 subst hq hs;obtain ⟨d,hu,hd,hsz⟩:=Cp ht;obtain ⟨h0,hlt,hel⟩:=wF hi;obtain ⟨b,o',hA,hc⟩:=hb w hS (by omega)
 have hl:(loadCells ⟨b,o'+n.toNat*C.size,none⟩ (C.enc el).length).run P w = .ok (C.enc el).toArray w:=
  run_loadCells_list (P:=P) w ⟨b,o'+n.toNat*C.size,none⟩ (C.enc el) (fun j v hv=>by
   have hadd:(⟨b,o'+n.toNat*C.size,none⟩:Addr).add j=⟨b,o'+n.toNat*C.size+j,none⟩:=by unfold Addr.add;split <;> simp_all
   rw [hadd,Nat.add_assoc]
   exact hc _ _ (uK.yR C xs _ j el v hel hv))
 rw [C.len] at hl
 have hagg:(isAgg t).run P w = .ok true w:=by
  unfold isAgg;rw [Sem.run_bind,run_underlying hu w]
  cases d <;> simp_all
 simp only [Option.map_eq_some_iff] at hsz;obtain ⟨i,hi',hsz⟩:=hsz;unfold execOp
 simp [ho,K.ev hx,JT hA,Instr.loadAt,Instr.sureAddr,loadVar,Sem.run_bind,hagg,sizeOf,typeInfo,hi',hsz,hl]
theorem gO {el:α} {q:Nat} (ho:o.op = .load t x) (ht:Ju P t=true) (K:Kd D a N l) (hx:g7 l x=some (.pointer (some ((UM A).add (n.toNat*q))))) (hq:q=C.size) (hb:∀w,S w→SL w C A xs) (hi:idx xs n=some el) (hu:(C.enc el)[0]? = some u):Rd P S a o u:=fun w hS=>by
 subst hq;obtain ⟨h0,hlt,hel⟩:=wF hi;obtain ⟨b,o',hA,hc⟩:=(hb w hS).el hel hu;unfold execOp;simp only [Nat.add_zero] at hc
 simp [ho,K.ev hx,JT hA,Instr.loadAt,Instr.sureAddr,loadVar,Sem.run_bind,(AY ht w).1,run_load,hc]
theorem yS {el:α} {q f:Nat} (ho:o.op = .load t x) (ht:Ju P t=true) (K:Kd D a N l) (hx:g7 l x=some (.pointer (some (((UM A).add (n.toNat*q)).add f)))) (hq:q=C.size) (hb:∀w,S w→SL w C A xs) (hi:idx xs n=some el) (hu:(C.enc el)[f]? = some u):Rd P S a o u:=fun w hS=>by
 subst hq;obtain ⟨h0,hlt,hel⟩:=wF hi;obtain ⟨b,o',hA,hc⟩:=(hb w hS).el hel hu;unfold execOp
 simp [ho,K.ev hx,Ve hA,Instr.loadAt,Instr.sureAddr,loadVar,Sem.run_bind,(AY ht w).1,run_load,hc]
theorem hZ {el:α} {b s:Nat} (ho:o.op = .indexAddr t x ix) (ht:JS P t e s b=true) (K:Kd D a N l) (hx:g7 l x=some (.slice A xs.length c)) (hi:g7 l ix=some (.int k n)) (hb:∀w,S w→SL w C A xs) (he:idx xs n=some el):Rd P S a o (.pointer (some ((UM A).add (n.toNat*s)))):=fun w hS=>by
 obtain ⟨hu,i,qQ,hs,_⟩:=lA ht;obtain ⟨h0,hlt,hel⟩:=wF he;obtain ⟨b',o',hA,hc⟩:=hb w hS (by omega);have h1:n<xs.length:=by omega
 unfold execOp;subst hA
 simp [ho,K.ev hx,K.ev hi,Instr.indexAt,asIntOf,run_underlying hu,sizeOf,typeInfo,qQ,hs,h0,h1,UM]
theorem mZ {len s:Nat} (ho:o.op = .indexAddr t x ix) (ht:P.underlying t=some (.array len e)) (hsz:(P.info? e).map (·.size)=some s) (K:Kd D a N l) {ad:Addr} (hx:g7 l x=some (.pointer (some ad))) (hi:g7 l ix=some (.int k n)) (h0:0≤n) (h1:n<len):Rd P S a o (.pointer (some (ad.add (n.toNat*s)))):=fun w hS=>by
 simp only [Option.map_eq_some_iff] at hsz;obtain ⟨i,qQ,hs⟩:=hsz;unfold execOp
 simp [ho,K.ev hx,K.ev hi,Instr.indexAt,Instr.sureAddr,asIntOf,run_underlying ht,sizeOf,typeInfo,qQ,hs,h0,h1]
theorem aBL {s:ByteArray} (ho:o.op = .index t x ix) (ht:P.underlying t=some .string) (K:Kd D a N l) (hx:g7 l x=some (.string s)) (hi:g7 l ix=some (.int k n)) {b:UInt8} (he:idx s.data.toList n=some b):Rd P S a o (.int .u8 b.toNat):=fun w hS=>by
 obtain ⟨h0,hlt,hel⟩:=wF he;have hlt':n.toNat<s.size:=by simpa using hlt
 have hb:s[n.toNat]=b:=by
  have:=(List.getElem?_eq_some_iff.1 hel).2
  simp at this;exact this
 unfold execOp
 simp [ho,K.ev hx,K.ev hi,Instr.index,asIntOf,run_underlying ht,h0,hlt',hb]
theorem aP {parts:Array (Nat × Operand)} {vs:List (Nat × Value)} (ho:o.op = .build t parts) (K:Kd D a N l) (hp:parts.toList.map (fun p=>(g7 l p.2).map (fun v=>(p.1,v)))=vs.map some) (hb:P.built t vs=some cs.toArray):Rd P S a o (.agg cs.toArray):=fun w _=>by
 have hE:(parts.map fun (i,x)=>(i,a.eval x)).toList=vs:=by
  simp only [Array.toList_map]
  have:∀(ps:List (Nat × Operand)) (vs:List (Nat × Value)),ps.map (fun p=>(g7 l p.2).map (fun v=>(p.1,v)))=vs.map some→ps.map (fun p=>(p.1,a.eval p.2))=vs:=by
   intro ps
   induction ps with
   | nil=>intro vs h;cases vs <;> simp_all
   | cons p ps ih=>
    intro vs h;cases vs with
    | nil=>simp at h
    | cons v vs=>
     simp only [List.map_cons,List.cons.injEq] at h ⊢;refine ⟨?_,ih vs h.2⟩;obtain ⟨u,hu,hv⟩:=Option.map_eq_some_iff.1 h.1;rw [K.ev hu,hv]
  exact this _ _ hp
 have hr:=run_build (P:=P) w t (parts.map fun (i,x)=>(i,a.eval x)) cs.toArray (by rw [hE];exact hb);unfold execOp;simp only [ho,Sem.run_bind,hr];rfl
def slA (A:Option Addr) (c:Nat) (p:Int) (s:Nat):Option Addr:=if c=p.toNat then A else A.map (·.add (p.toNat*s))
theorem Fm {p q:Int} (h:DZ xs p q=some ys) (hc:xs.length≤c) (w:World) (R:SL w C A xs):SL w C (slA A c p C.size) ys:=by
 obtain ⟨h0,h1,h2,rfl⟩:=G7 h;exact R.sub c p.toNat q.toNat (by omega) (by omega) hc
theorem Ep {p q:Int} (h:DZ xs p q=some ys) (hc:xs.length≤c):ys.length≤c-p.toNat:=by
 obtain ⟨h0,h1,h2,rfl⟩:=G7 h
 simp;omega
theorem Cw {b s:Nat} {lo hi:Option Operand} {p q:Int} (ho:o.op = .slice t x lo hi none) (ht:JS P t e s b=true) (hs:s=C.size) (K:Kd D a N l) (hx:g7 l x=some (.slice A xs.length c)) (hc:xs.length≤c)
  (hlo:(match lo with | some z=>g7 l z=some (.int k p) | none=>p=0)) (hhi:(match hi with | some z=>g7 l z=some (.int k' q) | none=>q=xs.length)) (hy:DZ xs p q=some ys) :
  Rd P S a o (.slice (slA A c p C.size) ys.length (c-p.toNat)):=fun w _=>by
 obtain ⟨h0,h1,h2,rfl⟩:=G7 hy;obtain ⟨hu,i,qQ,hsz,_⟩:=lA ht;subst hs;have hlen:((xs.take q.toNat).drop p.toNat).length=q.toNat-p.toNat:=by simp;omega
 rw [hlen];have hqc:q≤c:=by omega
 have h0q:0≤q:=by omega
 unfold execOp slA;cases lo with
 | none=>
  simp only at hlo;subst hlo;cases hi with
  | none=>
   simp only at hhi;subst hhi
   simp [ho,K.ev hx,Instr.sliceAt,Instr.slice,Instr.sliceBounds,run_underlying hu,sizeOf,typeInfo,qQ]
  | some z=>
   simp only at hhi
   simp [ho,K.ev hx,K.ev hhi,Instr.sliceAt,Instr.slice,Instr.sliceBounds,Instr.sliceBound,asIntOf,run_underlying hu,sizeOf,typeInfo,qQ,h0q,hqc]
 | some z'=>
  simp only at hlo;cases hi with
  | none=>
   simp only at hhi;subst hhi
   simp [ho,K.ev hx,K.ev hlo,Instr.sliceAt,Instr.slice,Instr.sliceBounds,Instr.sliceBound,asIntOf,run_underlying hu,sizeOf,typeInfo,qQ,hsz,h0,h1]
  | some z=>
   simp only at hhi
   simp [ho,K.ev hx,K.ev hlo,K.ev hhi,Instr.sliceAt,Instr.slice,Instr.sliceBounds,Instr.sliceBound,asIntOf,run_underlying hu,sizeOf,typeInfo,qQ,hsz,h0,h0q,hqc]
   intro hcon
   omega
end
section
variable {P:Program} {base:Nat} {W w:World} {L:List kH} {S:World→Prop} {D:List Deferred} {a:Act} {N:Nat} {l:List (Nat × Value)} {o:Oper} {x y ix:Operand} {v u:Value} {t e t':TypeId} {m n:Int} {k k':IntKind}
  {g off:Nat} {cs ds:List Value} {α:Type} {C:uK α} {A:Option Addr} {c:Nat} {xs ys zs:List α} {post:Value→World→Prop}
def Ac (P:Program) (o:Oper) (a:Act) (w:World) (post:Value→World→Prop):Prop:=
 ∀(K:Act→World→Prop) (Q:Exit→Act→World→Prop),(∀v w',post v w'→K (a.put o.dst v) w')→o.wp P a w K Q
theorem Al {w':World} (h:(execOp a.eval o).run P w = .ok (.value v) w') (hp:post v w'):Ac P o a w post:=fun K Q hK=>by
 unfold Oper.wp;rw [h];exact hK _ _ hp
theorem Hc {w':World} (h:(execOp a.eval o).run P w = .ok .skip w') (hp:post undef w'):Ac P o a w post:=fun K Q hK=>by
 unfold Oper.wp;rw [h];exact hK _ _ hp
theorem Fo (ho:o.op = .box t x) (K:Kd D a N l) (hx:g7 l x=some v) (hc:v.cells=cs.toArray) (M:Mem base W w L) :
  Ac P o a w fun v w'=>∃g,v = .pointer (some ⟨g,0,none⟩)∧Mem base W w' (.blk g t cs::L):=by
 refine Al (v:=.pointer (some ⟨w.heap.size,0,none⟩)) (w':=w.alloc (.cells cs.toArray t)) ?_ ⟨_,rfl,M.new t cs⟩;unfold execOp
 simp [ho,K.ev hx,Instr.box,newVar,newRow,hc]
theorem eW (ho:o.op = .alloc t) (hz:iU P t=some cs) (M:Mem base W w L) :
  Ac P o a w fun v w'=>∃g,v = .pointer (some ⟨g,0,none⟩)∧Mem base W w' (.blk g t cs::L):=by
 refine Al (v:=.pointer (some ⟨w.heap.size,0,none⟩)) (w':=w.alloc (.cells cs.toArray t)) ?_ ⟨_,rfl,M.new t cs⟩;simp only [iU,Option.bind_eq_some_iff,Option.map_eq_some_iff] at hz;obtain ⟨i,hi,z,hz,hcs⟩:=hz;have hc:z.cells=cs.toArray:=by rw [←hcs]
 unfold execOp
 simp [ho,Instr.alloc,zeroValue,typeInfo,hi,hz,newVar,newRow,hc]
theorem cA {b s len:Nat} {parts:Array (Nat × Operand)} {vs:List (Nat × Value)} (ho:o.op = .buildSlice t len parts) (ht:JS P t e s b=true) (hz:iU P e=some ds) (K:Kd D a N l)
    (hp:parts.toList.map (fun p=>(g7 l p.2).map (fun v=>(p.1,v)))=vs.map some) (hf:Instr.fill (fun i=>some (i*s,s)) ((Array.range (len*s)).map (ds.toArray[· % ds.toArray.size]!)) vs=some cs.toArray) (hl:Nat.ble (len*s) 1000=true) (hpos:Nat.blt 0 (len*s)=true) (M:Mem base W w L) :
    Ac P o a w fun v w'=>∃g,v = .slice (some ⟨g,0,none⟩) len len∧Mem base W w' (.blk g e cs::L):=by
  refine Al (v:=.slice (some ⟨w.heap.size,0,none⟩) len len) (w':=w.alloc (.cells cs.toArray e)) ?_ ⟨_,rfl,M.new e cs⟩
  obtain ⟨hu,i,qQ,hsz,_⟩:=lA ht
  simp only [iU,Option.bind_eq_some_iff,Option.map_eq_some_iff] at hz
  obtain ⟨i',hi',z,hz,hcs⟩:=hz
  obtain rfl:i=i':=Option.some.inj (qQ.symm.trans hi')
  have hc:z.cells=ds.toArray:=by rw [←hcs]
  have hE:(parts.map fun (i,x)=>(i,a.eval x)).toList=vs:=by
    simp only [Array.toList_map]
    have:∀(ps:List (Nat × Operand)) (vs:List (Nat × Value)),ps.map (fun p=>(g7 l p.2).map (fun v=>(p.1,v)))=vs.map some→ps.map (fun p=>(p.1,a.eval p.2))=vs:=by
      intro ps
      induction ps with
      | nil=>intro vs h;cases vs <;> simp_all
      | cons p ps ih=>
        intro vs h
        cases vs with
        | nil=>simp at h
        | cons v vs=>
          simp only [List.map_cons,List.cons.injEq] at h ⊢
          refine ⟨?_,ih vs h.2⟩
          obtain ⟨u,hu,hv⟩:=Option.map_eq_some_iff.1 h.1
          rw [K.ev hu,hv]
    exact this _ _ hp
  have hl':¬16777216<len*s:=by have:=Nat.le_of_ble_eq_true hl;omega
  have hpos':¬len*s=0:=by have:0<len*s:=by simpa [Nat.blt_eq] using hpos
                          omega
  have hl'':¬(len*s>2^24):=by omega
  unfold execOp
  simp only [ho,Instr.buildSlice,Sem.run_bind,run_underlying hu,Result.andThen_ok,sizeOf,typeInfo,run_program,qQ,hsz,hE,if_neg hl'',if_neg hpos',zeroValue,hz,hc,hf,newRow,Sem.run_pure,run_newObj_alloc]
theorem aO (ho:o.op = .store t x y) (ht:Ju P t=true) (K:Kd D a N l) (hx:g7 l x=some (.pointer (some ⟨g,off,none⟩))) (hy:g7 l y=some v) (h1:v.oneCell'=true) (i:Nat) (M:Mem base W w L) (hi:L[i]? = some (.blk g t' cs)) (hlt:Nat.blt off cs.length=true) :
  Ac P o a w fun _ w'=>Mem base W w' (L.set i (.blk g t' (cs.set off v))):=by
 refine Hc (w':=w.setCell ⟨g,off,none⟩ v) ?_ (M.set i hi off v);have hlt':off<cs.length:=by simpa [Nat.blt_eq] using hlt
 have hc:w.cell? ⟨g,off,none⟩=some cs[off]:=M.cell hi (List.getElem?_eq_getElem hlt');have hfz:w.frozen? ⟨g,off,none⟩=false:=(M.aL hi).frozen off
 have hcell:v.cells = #[v]:=by cases v <;> first | rfl | (simp [Value.oneCell'] at h1)
 unfold execOp;have hst:=run_store P w ⟨g,off,none⟩ v .plain h1
 simp [ho,K.ev hx,K.ev hy,Instr.storeAt,Instr.sureAddr,storeVar,Sem.run_bind,(AY ht w).2,hcell,storeCells,Addr.add,hst,hc,hfz]
theorem bV {n:Nat} (ho:o.op = .store t x y) (ht:DH P t n=true) (K:Kd D a N l) (hx:g7 l x=some (.pointer (some ⟨g,0,none⟩))) (hy:g7 l y=some (.agg ds.toArray)) (h1:ds.all (·.oneCell')=true) (i:Nat) (M:Mem base W w L) (hi:L[i]? = some (.blk g t' cs)) (hn:ds.length=n) (hl:cs.length=n) :
  Ac P o a w fun _ w'=>Mem base W w' (L.set i (.blk g t' ds)):=by
 refine Hc (w':=w.setRow g ds.toArray) ?_ (M.setRow i hi ds);obtain ⟨d,_,_,hsz⟩:=Cp ht;have hr:=run_storeVar_row (P:=P) w g t' t cs.toArray ds.toArray (M.aL hi) (by simpa [hn] using hsz) (by simp [hn,hl]) (by simpa using h1);unfold execOp
 simp [ho,K.ev hx,K.ev hy,Instr.storeAt,Instr.sureAddr,hr]
theorem Mem.grown {n c' s:Nat} {vs:List Value} (M:Mem base W w L) (i:Nat) (hi:L[i]? = some (.row e s A n c vs)) {w':World} (hg:w.grownBy w' (A.map (·.block))) {g n':Nat} {vs':List Value}
  (ho:w'.ownsRow 0 e s (.slice (some ⟨g,0,none⟩) n' c') n' vs') (hw:A.map (·.block)=some g∨w.heap.size≤g):Mem base W w' (L.set i (.row e s (some ⟨g,0,none⟩) n' c' vs')):=by
 refine M.turn i hi ((Below.refl base w).grown hg M.sz fun k hk=>M.up i _ k hi hk) ho (fun j hj hne=>hg.block j hj fun h=>hne (by simpa [kH.foot] using h.symm)) fun g' hg'=>?_
 simp [kH.foot] at hg'
 subst hg';exact hw
theorem kA {b s:Nat} (ho:o.op = .call { callee:=.builtin .append,args:=#[x,y],argTypes:=#[t,t] }) (ht:JS P t e s b=true) (hb:Nat.blt 0 b=true) (hz:iU P e=some ds) (hdl:ds.length=s) (hs:s=C.size) (K:Kd D a N l)
    (hx:g7 l x=some (.slice A xs.length c)) {B:Option Addr} {c':Nat} (hy:g7 l y=some (.slice B ys.length c')) (i:Nat) (M:Mem base W w L) (hi:L[i]? = some (.row e s A xs.length c (C.all xs))) (R:SL w C B ys) (hlen:app b xs ys=some zs) :
    Ac P o a w fun v w'=>∃A' c'',v = .slice A' zs.length c''∧Mem base W w' (L.set i (.row e s A' zs.length c'' (C.all zs))):=by
  obtain ⟨rfl,hbytes⟩:=Oj hlen
  subst hs
  obtain ⟨hu,inf,qQ,hsz,hby⟩:=lA ht
  simp only [iU,Option.bind_eq_some_iff,Option.map_eq_some_iff] at hz
  obtain ⟨inf',Om,z,hz,hzc⟩:=hz
  obtain rfl:inf=inf':=Option.some.inj (qQ.symm.trans Om)
  have hown:=M.has i _ hi
  have hb':0<b:=by simpa [Nat.blt_eq] using hb
  by_cases hm:0<ys.length
  · obtain ⟨bb,oo,hB,hc⟩:=R hm
    intro K' Q hK'
    have h63:xs.length+ys.length≤maxLen:=by
      have:=Nat.le_mul_of_pos_right (xs.length+ys.length) hb'
      simp only [maxLen];omega
    refine wp_append_lies w x y t ho 0 e inf z C.size b hu qQ hz hsz hby (by rw [←Array.length_toList,hzc,hdl]) C.pos (.slice A xs.length c) xs.length (C.all xs) (K.ev hx) hown ⟨bb,oo,none⟩ ys.length c' (C.all ys) (by rw [K.ev hy,hB]) (by rw [uK.wZ])
      (fun j u hu=>by have hadd:(⟨bb,oo,none⟩:Addr).add j=⟨bb,oo+j,none⟩:=by { unfold Addr.add;split <;> simp_all }
                      rw [hadd];exact hc j u hu) (C.Yu ys) hm h63 hbytes (Nat.zero_le _) _ rfl ?_
    intro g cap w' h2 h3 h4 h5
    refine hK' _ _ ⟨some ⟨g,0,none⟩,cap,by rw [List.length_append],?_⟩
    have h3':w.grownBy w' (A.map (·.block)):=by
      cases A with
      | none=>exact h3
      | some ad=>exact h3
    refine M.grown i hi h3' ?_ ?_
    · rw [uK.all_append,List.length_append];exact h2
    · rcases h4 with h4 | h4
      · left
        cases A with
        | none=>simp [Value.ownBlock] at h4
        | some ad=>simpa [Value.ownBlock] using h4
      · right;omega
  · have hy0:ys=[]:=List.eq_nil_of_length_eq_zero (by omega)
    subst hy0
    have hnc:xs.length≤c:=by
      rcases hown.2 with ⟨_,h0⟩ | ⟨g',cap',cur,hv,_,_,hnc,_⟩
      · omega
      · injection hv with _ _ e3;omega
    have hr:(Builtin.append_ #[t,t] o.type #[.slice A xs.length c,.slice B 0 c']).run P w = .ok (.slice A xs.length c) w:=by
      cases A <;> cases B <;> simp [Builtin.append_,run_underlying hu,sizeOf,typeInfo,qQ,Builtin.lenOf,hnc,Builtin.firstCells,loadCells,loadCellsFrom,storeCells]
    refine Al (v:=.slice A xs.length c) (w':=w) ?_ ⟨A,c,by simp,?_⟩
    · unfold execOp
      simp only [ho,resolve,invoke,builtin,Sem.run_bind,Sem.run_pure,Result.andThen_ok,List.map_toArray,List.map_cons,List.map_nil,K.ev hx,K.ev hy,List.length_nil]
      rw [hr];rfl
    · have:L.set i (.row e C.size A (xs++[]).length c (C.all (xs++[])))=L:=by
        rw [List.append_nil]
        obtain ⟨hlt,he⟩:=List.getElem?_eq_some_iff.1 hi
        rw [←he];exact List.set_getElem_self hlt
      rw [this];exact M
end
section
variable {P:Program} {base:Nat} {W w:World} {L:List kH} {S:World→Prop} {D:List Deferred} {a:Act} {N:Nat} {l:List (Nat × Value)} {o:Oper} {x y ix:Operand} {v u:Value} {t e t':TypeId} {m n:Int} {k k':IntKind}
  {g off:Nat} {cs ds:List Value} {α:Type} {C:uK α} {A:Option Addr} {c:Nat} {xs ys zs:List α} {post:Value→World→Prop}
theorem Lu (C:uK α) (z:α) (n:Nat):(madeCells (C.enc z).toArray (n*C.size)).toList=C.all (List.replicate n z):=by
 apply List.ext_getElem?
 intro j
 by_cases hj:j<n*C.size
 ·have hm:j%C.size<C.size:=Nat.mod_lt _ C.pos;have hl:(C.enc z).length=C.size:=C.len z
  have h1:(C.all (List.replicate n z))[j]? = (C.enc z)[j%C.size]?:=by
   have hu:(C.enc z)[j%C.size]? = some ((C.enc z)[j%C.size]'(by omega)):=List.getElem?_eq_getElem (by omega);have hd:j/C.size<n:=Nat.div_lt_of_lt_mul (by rw [Nat.mul_comm];exact hj);have:=uK.yR C (List.replicate n z) (j/C.size) (j%C.size) z _ (by simp [hd]) hu;rw [Nat.div_add_mod'] at this;rw [this,hu]
  rw [h1]
  simp [madeCells,hj,hl,List.getElem?_eq_getElem (show j%C.size<(C.enc z).length by omega)]
 ·rw [List.getElem?_eq_none (by simp [size_madeCells];omega),List.getElem?_eq_none (by rw [uK.wZ];simp;omega)]
theorem nV {b s:Nat} {z:α} (ho:o.op = .makeSlice t x y) (ht:JS P t e s b=true) (hb:Nat.blt 0 b=true) (hz:iU P e=some (C.enc z)) (hs:s=C.size) (K:Kd D a N l) (hx:g7 l x=some (.int k n)) (hy:g7 l y=some (.int k' n)) (M:Mem base W w L) (hm:mk b n z=some ys) :
  Ac P o a w fun v w'=>∃A' c',v = .slice A' ys.length c'∧Mem base W w' (.row e s A' ys.length c' (C.all ys)::L):=by
 obtain ⟨h0,h1,rfl⟩:=Yp hm;subst hs;obtain ⟨hu,inf,qQ,hsz,hby⟩:=lA ht;simp only [iU,Option.bind_eq_some_iff,Option.map_eq_some_iff] at hz;obtain ⟨inf',Om,zz,hz,hzc⟩:=hz;obtain rfl:inf=inf':=Option.some.inj (qQ.symm.trans Om);obtain ⟨q,rfl⟩:∃q:Nat,n=q:=⟨n.toNat,by omega⟩
 have hb':0<b:=by simpa [Nat.blt_eq] using hb
 have hbytes:inf.bytes*q≤281474976710656:=by
  rw [hby,Nat.mul_comm];have h1':((q*b:Nat):Int)≤281474976710656:=by rw [Int.natCast_mul];exact h1
  omega
 have hqb:=Nat.le_mul_of_pos_left q hb';have h63:q≤maxLen:=by rw [hby] at hbytes;simp only [maxLen];omega
 obtain ⟨w',hr,hown,hg⟩:=run_make_full (P:=P) w 0 t e inf zz C.size hu qQ hz hsz k k' q hbytes h63 (Nat.zero_le _);have aFo:zz.cells=(C.enc z).toArray:=by rw [←hzc]
 rw [aFo,Lu] at hown;refine Al (v:=.slice (some ⟨w.heap.size,0,none⟩) q q) (w':=w') ?_ ⟨some ⟨w.heap.size,0,none⟩,q,by simp,?_⟩
 ·unfold execOp;simp only [ho,K.ev hx,K.ev hy,Sem.run_bind,hr];rfl
 ·have hlen:(List.replicate ((q:Int)).toNat z).length=q:=by simp
  rw [hlen];simp only [Int.toNat_natCast];refine (M.far ((Below.refl base w).grown hg M.sz fun k hk=>by cases hk) (fun k o hk _=>(hg.block k (Array.getElem?_eq_some_iff.1 hk).1 (by simp)).trans hk) fun i e g h hf=>hg.block g (M.G9 i e g h hf) (by simp)).cons hown fun g hf=>?_
  simp [kH.foot] at hf
  subst hf;exact ⟨M.sz,fun i e' h he=>by have:=M.G9 i e' _ h he;omega⟩
theorem Vf {b s:Nat} (ho:o.op = .makeSlice t x y) (ht:JS P t e s b=true) (hb:Nat.blt 0 b=true) (hz:(iU P e).isSome=true) (hs:s=C.size) (K:Kd D a N l) (hx:g7 l x=some (.int k 0)) (hy:g7 l y=some (.int k' n)) (M:Mem base W w L) (hm:0≤n∧n*b≤281474976710656) :
  Ac P o a w fun v w'=>∃A' c',v = .slice A' ([]:List α).length c'∧Mem base W w' (.row e s A' ([]:List α).length c' (C.all [])::L):=by
 obtain ⟨h0,h1⟩:=hm;subst hs;obtain ⟨hu,inf,qQ,hsz,hby⟩:=lA ht;obtain ⟨_,hz⟩:=Option.isSome_iff_exists.1 hz;simp only [iU,Option.bind_eq_some_iff,Option.map_eq_some_iff] at hz;obtain ⟨inf',Om,zz,hz,hzc⟩:=hz;obtain rfl:inf=inf':=Option.some.inj (qQ.symm.trans Om);obtain ⟨q,rfl⟩:∃q:Nat,n=q:=⟨n.toNat,by omega⟩
 have hb':0<b:=by simpa [Nat.blt_eq] using hb
 have hbytes:inf.bytes*q≤281474976710656:=by
  rw [hby,Nat.mul_comm];have h1':((q*b:Nat):Int)≤281474976710656:=by rw [Int.natCast_mul];exact h1
  omega
 have hqb:=Nat.le_mul_of_pos_left q hb';have h63:q≤maxLen:=by rw [hby] at hbytes;simp only [maxLen];omega
 obtain ⟨w',hr,hown,hg⟩:=run_make_own (P:=P) w 0 t e inf zz C.size hu qQ hz hsz k k' q hbytes h63 (Nat.zero_le _);refine Al (v:=.slice (some ⟨w.heap.size,0,none⟩) 0 q) (w':=w') ?_ ⟨some ⟨w.heap.size,0,none⟩,q,by simp,?_⟩
 ·unfold execOp;simp only [ho,K.ev hx,K.ev hy,Sem.run_bind,hr];rfl
 ·refine (M.far ((Below.refl base w).grown hg M.sz fun k hk=>by cases hk) (fun k o hk _=>(hg.block k (Array.getElem?_eq_some_iff.1 hk).1 (by simp)).trans hk) fun i e g h hf=>hg.block g (M.G9 i e g h hf) (by simp)).cons hown fun g hf=>?_
  simp [kH.foot] at hf
  subst hf;exact ⟨M.sz,fun i e' h he=>by have:=M.G9 i e' _ h he;omega⟩
theorem Cx (g off:Nat) (t:TypeId):∀(vs:List Value) (i:Nat) (cur:Array Value) (w:World),w.heap[g]? = some (.cells cur t (0,0))→off+i+vs.length≤cur.size→(∀v∈vs,v.oneCell'=true) →
  ∃w' cur',(storeCells ⟨g,off,none⟩ vs i).run P w = .ok () w'∧w'.heap[g]? = some (.cells cur' t (0,0))∧cur'.size=cur.size ∧
   (∀j,cur'[j]? = if off+i≤j∧j<off+i+vs.length then vs[j-(off+i)]? else cur[j]?)∧(∀k,k≠g→w'.heap[k]? = w.heap[k]?)∧w'.os=w.os∧w'.tape=w.tape∧w'.output=w.output∧w'.heap.size=w.heap.size
 | [],i,cur,w,h,_,_=>by
  refine ⟨w,cur,rfl,h,rfl,fun j=>?_,fun _ _=>rfl,rfl,rfl,rfl,rfl⟩;rw [if_neg (by simp)]
 | v::vs,i,cur,w,h,hl,h1=>by
  simp only [List.length_cons] at hl
  have hadd:(⟨g,off,none⟩:Addr).add i=⟨g,off+i,none⟩:=by unfold Addr.add;split <;> simp_all
  have hB:g9 w g t cur:=h;have hc:w.cell? ⟨g,off+i,none⟩=some cur[off+i]:=by rw [hB.cell];exact Array.getElem?_eq_getElem (by omega)
  have hst:(store ⟨g,off+i,none⟩ v).run P w = .ok () (w.setCell ⟨g,off+i,none⟩ v):=by
   rw [run_store P w _ v .plain (h1 v (by simp)),hc]
   simp [hB.frozen]
  obtain ⟨w',cur',h2,h3,h4,h5,h6,h7,h8,h9,h10⟩:=Cx g off t vs (i+1) (cur.setIfInBounds (off+i) v) (w.setCell ⟨g,off+i,none⟩ v) (hB.yO (off+i) v rfl) (by simp;omega) (fun v hv=>h1 v (by simp [hv]));refine ⟨w',cur',?_,h3,by simpa using h4,fun j=>?_,fun k hk=>(h6 k hk).trans (Below.heap_setCell w _ v k hk),h7,h8,h9,by rw [h10];simp [World.setCell]⟩
  ·unfold storeCells;rw [Sem.run_bind,hadd,hst];exact h2
  ·rw [h5 j];simp only [List.length_cons]
   by_cases hj:off+i=j
   ·subst hj;rw [if_neg (by omega),if_pos (by omega),Array.getElem?_setIfInBounds_self_of_lt (by omega),Nat.sub_self]
    rfl
   ·by_cases hj2:off+(i+1)≤j∧j<off+(i+1)+vs.length
    ·rw [if_pos hj2,if_pos (by omega),show j-(off+i)=(j-(off+(i+1)))+1 by omega]
     simp
    ·rw [if_neg hj2,if_neg (by omega)]
     simp [hj]
theorem gG {el:α} {q s:Nat} (ho:o.op = .store t x y) (hsz:(P.info? t).map (·.size)=some s) (hs:s=C.size) (hq:q=C.size) (K:Kd D a N l) (hx:g7 l x=some (.pointer (some ((UM A).add (n.toNat*q))))) (hy:g7 l y=some v) (hv:v.cells=(C.enc el).toArray)
  (i:Nat) (M:Mem base W w L) (hi:L[i]? = some (.row e s A xs.length c (C.all xs))) (hset:vU xs n el=some ys) :
  Ac P o a w fun _ w'=>Mem base W w' (L.set i (.row e s A ys.length c (C.all ys))):=by
 subst hq hs;obtain ⟨h0,hlt,rfl⟩:=LY hset;obtain ⟨hxl,hrow⟩:=M.has i _ hi
 rcases hrow with ⟨_,h00⟩ | ⟨g,cap,cur,hvv,_,hh,hnc,hcm,hcs,htk⟩
 ·omega
 injection hvv with hA _ hcap
 subst hcap;have hmul:=Nat.mul_le_mul_right C.size hlt;have aGi:=Nat.mul_le_mul_right C.size hnc;rw [Nat.succ_mul] at hmul;obtain ⟨w',cur',h2,h3,h4,h5,h6,h7,h8,h9,h10⟩:=Cx (P:=P) g (n.toNat*C.size) e (C.enc el) 0 cur w hh (by rw [C.len];omega) (C.one el);rw [C.len] at h5
 have hrun:(execOp a.eval o).run P w = .ok .skip w':=by
  simp only [Option.map_eq_some_iff] at hsz;obtain ⟨inf,qQ,hsz⟩:=hsz;have hcl:(C.enc el).length=inf.size:=by rw [C.len,hsz]
  unfold execOp
  simp [ho,K.ev hx,K.ev hy,Instr.storeAt,Instr.sureAddr,storeVar,hv,sizeOf,typeInfo,qQ,hcl,JT hA,h2]
 refine Hc hrun (M.turn i hi ⟨h7,h8,h9,by omega,fun k hk=>h6 k fun hkg=>?_⟩ ?_ (fun j _ hj=>h6 j fun hjg=>hj (by simp [kH.foot,hA,hjg])) (fun g' hg'=>.inl hg'))
 ·have:=M.up i _ g hi (by simp [kH.foot,hA])
  omega
 ·refine ⟨by rw [uK.wZ],.inr ⟨g,c,cur',by rw [hA],Nat.zero_le _,h3,by simpa using hnc,hcm,by rw [h4,hcs],?_⟩⟩;refine uK.Yv C el xs n.toNat _ hlt (by simp [h4,hcs];rw [Nat.min_eq_left hnc]) fun j=>?_
  rw [List.length_set];rw [List.getElem?_take]
  by_cases hj:j<xs.length*C.size
  ·rw [if_pos hj];simp only [Array.getElem?_toList,Nat.add_zero] at h5 ⊢;rw [h5 j]
   split
   ·rfl
   ·rw [←htk,List.getElem?_take,if_pos hj];simp
  ·rw [if_neg hj,if_neg (by omega),List.getElem?_eq_none (by rw [uK.wZ];omega)]
def iD (P:Program) (f:FuncId):Bool:=match P.funcs[f]? with
 | some fn=>fn.body.isSome&&fn.name != "runtime.NumGoroutine"
 | none=>false
theorem dX {f:FuncId} {cap vs:List Value} {args:Array Operand} {ts:Array TypeId} (ho:o.op = .call { callee:=.value x,args:=args,argTypes:=ts }) (hf:iD P f=true) (K:Kd D a N l) (hx:g7 l x=some (.func (.func f) #[] cap.toArray)) (hargs:args.toList.map (g7 l)=vs.map some)
  (h:Calls P f (vs++cap).toArray w fun e w'=>∃v,e = .returned v∧post v w'):Ac P o a w post:=by
 have hE:args.map a.eval=vs.toArray:=by
  apply Array.ext'
  simp only [Array.toList_map]
  have:∀(xs:List Operand) (vs:List Value),xs.map (g7 l)=vs.map some→xs.map a.eval=vs:=by
   intro xs
   induction xs with
   | nil=>intro vs h;cases vs <;> simp_all
   | cons x xs ih=>
    intro vs h;cases vs with
    | nil=>simp at h
    | cons v vs=>simp only [List.map_cons,List.cons.injEq] at h ⊢;exact ⟨K.ev h.1,ih vs h.2⟩
  exact this _ _ hargs
 have hrun:(execOp a.eval o).run P w = .ok (.enter f (vs++cap).toArray) w:=by
  unfold iD at hf
  split at hf
  ·rename_i fn hfn
   simp only [Bool.and_eq_true,bne_iff_ne,ne_eq] at hf;obtain ⟨b,hb⟩:=Option.isSome_iff_exists.1 hf.1;unfold execOp
   simp [ho,resolve,K.ev hx,hE,Deferred.ofValue,invoke,callFunc,hfn,hb,hf.2]
  ·cases hf
 intro K' Q hK;unfold Oper.wp;rw [hrun,Oper.upon_enter];refine h.mono ?_;rintro e w' ⟨v,rfl,hp⟩;exact hK v w' hp
variable {ops:Array Oper} {Q:Exit→Act→World→Prop} {R:Act→World→Prop} {rest:List Oper} {d:Nat} {f:List Nat} {mk:Nat}
theorem Yw (K:Kd D a N l) (hw:Region.wanted o (yielded ops a.tmps)=true) (hd:o.dst=some d) (hN:Nat.blt d N=true) (hr:Rd P (fun w=>Mem base W w L) a o v) (M:Mem base W w L) (k:∀a',Kd D a' N ((d,v)::l)→wpList P ops Q rest a' w):wpList P ops Q (o::rest) a w:=by
 refine wpList_step fun Kc hK=>?_
 rw [if_pos hw];unfold Oper.wp;rw [hr w M];refine hK _ _ ?_;have:=K.put (d:=o.dst) (by rw [hd];exact hN) v;rw [hd] at this ⊢;exact k _ this
theorem aFp (K:Kd D a N l) (hw:Region.wanted o (yielded ops a.tmps)=false) (hd:o.dst=some d) (hN:Nat.blt d N=true) (k:∀a',Kd D a' N ((d,undef)::l)→wpList P ops Q rest a' w):wpList P ops Q (o::rest) a w:=by
 refine wpList_skip hw ?_;have:=K.put (d:=o.dst) (by rw [hd];exact hN) undef;rw [hd] at this ⊢;exact k _ this
theorem aBM (K:Kd D a N l) (hw:Region.wanted o (yielded ops a.tmps)=true) (hd:o.dst=some d) (hN:Nat.blt d N=true) (h:Ac P o a w post) (k:∀v a' w',post v w'→Kd D a' N ((d,v)::l)→wpList P ops Q rest a' w'):wpList P ops Q (o::rest) a w:=by
 refine wpList_step fun Kc hK=>?_
 rw [if_pos hw];refine h _ _ fun v w' hp=>hK _ _ ?_
 have:=K.put (d:=o.dst) (by rw [hd];exact hN) v;rw [hd] at this ⊢;exact k v _ w' hp this
theorem aBN (K:Kd D a N l) (hw:Region.wanted o (yielded ops a.tmps)=true) (hd:o.dst=none) (h:Ac P o a w post) (k:∀v a' w',post v w'→Kd D a' N l→wpList P ops Q rest a' w'):wpList P ops Q (o::rest) a w:=by
 refine wpList_step fun Kc hK=>?_
 rw [if_pos hw];refine h _ _ fun v w' hp=>hK _ _ ?_
 rw [hd];exact k v _ w' hp K
theorem aBO (K:Kd D a N l) (hw:Region.wanted o (yielded ops a.tmps)=true) (hd:o.dst=some d) (hN:Nat.blt d N=true) (hr:Rd P S a o v) (k:∀a',Kd D a' N ((d,v)::l)→nU P ops S R (marked f rest) a' w):nU P ops S R (marked (0::f) (o::rest)) a w:=by
 refine ⟨v,.inl ⟨hw,hr⟩,?_⟩;have:=K.put (d:=o.dst) (by rw [hd];exact hN) v;rw [hd] at this ⊢;exact k _ this
theorem aFq (K:Kd D a N l) (hw:Region.wanted o (yielded ops a.tmps)=false) (hd:o.dst=some d) (hN:Nat.blt d N=true) (k:∀a',Kd D a' N ((d,undef)::l)→nU P ops S R (marked f rest) a' w):nU P ops S R (marked (0::f) (o::rest)) a w:=by
 refine ⟨undef,.inr ⟨hw,rfl⟩,?_⟩;have:=K.put (d:=o.dst) (by rw [hd];exact hN) undef;rw [hd] at this ⊢;exact k _ this
theorem aBP (K:Kd D a N l) (hw:Region.wanted o (yielded ops a.tmps)=true) (hd:o.dst=some d) (hN:Nat.blt d N=true) (h:Ac P o a w post) (k:∀v a' w',post v w'→Kd D a' N ((d,v)::l)→S w'∧nU P ops S R (marked f rest) a' w'):nU P ops S R (marked (1::f) (o::rest)) a w:=by
 refine GA (n:=true) hw fun Kc hK=>h _ _ fun v w' hp=>?_
 have:=K.put (d:=o.dst) (by rw [hd];exact hN) v;rw [hd] at this ⊢;obtain ⟨h1,h2⟩:=k v _ w' hp this;exact hK _ _ (fun _=>h1) h2
theorem D3 (K:Kd D a N l) (hw:Region.wanted o (yielded ops a.tmps)=true) (hd:o.dst=none) (h:Ac P o a w post) (k:∀v a' w',post v w'→Kd D a' N l→S w'∧nU P ops S R (marked f rest) a' w'):nU P ops S R (marked (1::f) (o::rest)) a w:=by
 refine GA (n:=true) hw fun Kc hK=>h _ _ fun v w' hp=>?_
 rw [hd];obtain ⟨h1,h2⟩:=k v _ w' hp K;exact hK _ _ (fun _=>h1) h2
theorem aDi (K:Kd D a N l) (hw:Region.wanted o (yielded ops a.tmps)=true) (hd:o.dst=none) (h:Ac P o a w post) (k:∀v a' w',post v w'→Kd D a' N l→nU P ops S R (marked f rest) a' w'):nU P ops S R (marked (2::f) (o::rest)) a w:=by
 refine GA (n:=false) hw fun Kc hK=>h _ _ fun v w' hp=>?_
 rw [hd];exact hK _ _ (fun h=>by cases h) (k v _ w' hp K)
theorem L2 (h:R a w):nU P ops S R (marked f []) a w:=h
theorem kU {p q:Code} {b:Bool} (K:Kd D a N l) (hc:g7 l x=some (.bool b)) (ht:b=true→p.wp P Q a w) (hf:b=false→q.wp P Q a w):(Code.cond x p q).wp P Q a w:=wp_cond_split (K.ev hc) ht hf
theorem Vg {p:Code} {I:Nat→Act→World→Prop} (n:Nat) (h0:I n a w) (hz:∀a w,¬I 0 a w) (round:∀n a w,I (n+1) a w→p.wp P (Exit.then (I n) Q) a w):(Code.loop p).wp P Q a w:=by
 intro b k cs
 have key:∀n a w,I n a w→∃e a' w',Q e a' w'∧Arrives P (lone (b.at a (.code p :: .inLoop p::k)) cs w) b k cs e a' w':=by
  intro n
  induction n with
  | zero=>intro a w h;exact absurd h (hz a w)
  | succ n ih=>
   intro a w hI;obtain ⟨e,a₁,w₁,hq,harr⟩:=round n a w hI b (.inLoop p::k) cs;cases e with
   | normal=>
    obtain ⟨e₂,a₂,w₂,hq₂,harr₂⟩:=ih a₁ w₁ hq;exact ⟨e₂,a₂,w₂,hq₂,.of_steps (Steps.trans harr (.one step_inLoop)) harr₂⟩
   | exit id=>exact ⟨_,a₁,w₁,hq,.pass (x:=.inLoop p) rfl (fun _ _=>.inl (by simp)) harr⟩
   | goto l=>exact ⟨_,a₁,w₁,hq,.pass (x:=.inLoop p) rfl (fun _ _=>.inl (by simp)) harr⟩
   | ret=>exact ⟨_,a₁,w₁,hq,.pass (x:=.inLoop p) rfl (fun _ _=>.inl (by simp)) harr⟩
   | panic ch=>exact ⟨_,a₁,w₁,hq,.pass (x:=.inLoop p) rfl (fun _ _=>.inl (by simp)) harr⟩
   | outgrown=>exact ⟨_,a₁,w₁,hq,.pass (x:=.inLoop p) rfl (fun _ _=>.inl (by simp)) harr⟩
 obtain ⟨e,a',w',hq,harr⟩:=key n a w h0;exact ⟨e,a',w',hq,.of_steps (.one step_loop) harr⟩
theorem hU {fn:Func} {code:Code} {fid:FuncId} {args:Array Value} {Rp:Ending→World→Prop} (hf:P.funcs[fid]? = some fn) (hb:fn.body=some code) (hN:fn.ntmps=N) (hs:Nat.ble args.size N=true)
  (h:∀a,Kn a N (G8 0 args.toList)→code.wp P (bodyPost P fn Rp) a w):Calls P fid args w Rp:=by
 refine calls_of_wp hf hb ?_;rw [hN];exact h _ (Kd.start args N hs)
def Vh (tmps:Array Value):ResultVar→Sem Value
 | .tmp t=>pure (tmps.getD t undef)
 | .cell a t=>do loadVar t (←asAddr (tmps.getD a undef))
theorem uP (fn:Func) (tmps:Array Value):results fn tmps=(do let vs ←fn.results.mapM (Vh tmps);pure (if h:vs.size=1 then vs[0] else .tuple vs)):=rfl
def yB (P:Program) (a:Act) (w:World) (r:ResultVar) (v:Value):Prop:=(Vh a.tmps r).run P w = .ok v w
theorem dC (K:Kd D a N l) {s:Nat} (h:yJ l s=some v):yB P a w (.tmp s) v:=by
 show (pure (a.tmps.getD s undef):Sem Value).run P w=_;rw [K.get s v h];rfl
theorem aU (K:Kd D a N l) {s n:Nat} (h:yJ l s=some (.pointer (some ⟨g,0,none⟩))) (ht:DH P t n=true) (hb:g9 w g t' cs.toArray) (hn:cs.length=n):yB P a w (.cell s t) (.agg cs.toArray):=by
 obtain ⟨d,hu,hd,hi⟩:=Cp ht;show (do loadVar t (←asAddr (a.tmps.getD s undef)):Sem Value).run P w=_;rw [K.get s _ h];have hl:=run_loadVar_row (P:=P) w g t' t cs.toArray (0,0) d hb hu (by cases d <;> simp_all) (by rw [hi];simp [hn])
 simp [asAddr,hl]
theorem dI (K:Kd D a N l) {s:Nat} (h:yJ l s=some (.pointer (some ⟨g,0,none⟩))) (ht:Ju P t=true) (hb:g9 w g t' cs.toArray) (hv:cs[0]? = some v):yB P a w (.cell s t) v:=by
 have hc:w.cell? ⟨g,0,none⟩=some v:=by rw [hb.cell];simpa using hv
 show (do loadVar t (←asAddr (a.tmps.getD s undef)):Sem Value).run P w=_;rw [K.get s _ h]
 simp [asAddr,loadVar,Sem.run_bind,(AY ht w).1,run_load,hc]
theorem DI {fn:Func} {Rp:Ending→World→Prop} (K:Kn a N l) (hr:fn.results = #[]) (h:Rp (.returned (.tuple #[])) w):bodyPost P fn Rp .ret a w:=
 ⟨K.defs,.tuple #[],by rw [uP,hr];simp,h⟩
theorem qC {fn:Func} {Rp:Ending→World→Prop} {r1:ResultVar} {v1:Value} (K:Kn a N l) (hr:fn.results = #[r1]) (h1:yB P a w r1 v1) (h:Rp (.returned v1) w):bodyPost P fn Rp .ret a w:=by
 refine ⟨K.defs,v1,?_,h⟩;unfold yB at h1;rw [uP,hr];simp [h1]
theorem Ki {fn:Func} {Rp:Ending→World→Prop} {r1 r2:ResultVar} {v1 v2:Value} (K:Kn a N l) (hr:fn.results = #[r1,r2]) (h1:yB P a w r1 v1) (h2:yB P a w r2 v2) (h:Rp (.returned (.tuple #[v1,v2])) w):bodyPost P fn Rp .ret a w:=by
 refine ⟨K.defs,.tuple #[v1,v2],?_,h⟩;unfold yB at h1 h2;rw [uP,hr];simp [h1,h2]
theorem GC {fn:Func} {Rp:Ending→World→Prop} {r1 r2 r3:ResultVar} {v1 v2 v3:Value} (K:Kn a N l) (hr:fn.results = #[r1,r2,r3]) (h1:yB P a w r1 v1) (h2:yB P a w r2 v2) (h3:yB P a w r3 v3) (h:Rp (.returned (.tuple #[v1,v2,v3])) w):bodyPost P fn Rp .ret a w:=by
 refine ⟨K.defs,.tuple #[v1,v2,v3],?_,h⟩;unfold yB at h1 h2 h3;rw [uP,hr];simp [h1,h2,h3]
theorem wG {fn:Func} {Rp:Ending→World→Prop} (h:bodyPost P fn Rp .ret a w):bodyPost P fn Rp .normal a w:=h
end
section
variable {P:Program} {S:World→Prop} {D:List Deferred} {a:Act} {w:World} {N:Nat} {l:List (Nat × Value)} {o:Oper} {v v':Value} {x:Operand} {k:IntKind} {m n:Int} {b b':Bool} {ops:Array Oper} {Q:Exit→Act→World→Prop} {K:Act→World→Prop} {y:Code} {id id':Nat}
theorem P6 (he:m=n) (h:Rd P S a o (.int k m)):Rd P S a o (.int k n):=he ▸ h
theorem D4 (he:b=b') (h:Rd P S a o (.bool b)):Rd P S a o (.bool b'):=he ▸ h
theorem Kd.UN {s:Nat} (K:Kd D a N l) (h:yJ l s=some (.bool b)) (hb:b=b'):Kd D a N ((s,.bool b')::l):=K.sub fun t v ht=>by
 simp only [yJ] at ht
 by_cases hst:s=t
 ·subst hst;simp at ht;rw [h,hb,ht]
 ·rw [Vb hst] at ht;exact ht
theorem kO {p q:Code} (K:Kd D a N l) (hc:g7 l x=some (.bool true)) (h:p.wp P Q a w):(Code.cond x p q).wp P Q a w:=wp_cond (K.ev hc) h
theorem Hd {p q:Code} (K:Kd D a N l) (hc:g7 l x=some (.bool false)) (h:q.wp P Q a w):(Code.cond x p q).wp P Q a w:=wp_cond (K.ev hc) h
theorem aI {ol:List Oper} (h:wpList P ol.toArray Q ol a w):(Code.region id ol.toArray false).wp P Q a w:=wp_region_lit h
theorem aE (h:K a w):Exit.then K Q .normal a w:=h
theorem tV (h:Q (.exit id) a w):Exit.then K Q (.exit id) a w:=h
theorem qD (h:Q .ret a w):Exit.then K Q .ret a w:=h
theorem iA (h:Q .normal a w):Exit.inBlock id Q .normal a w:=h
theorem Ah (h:Q .ret a w):Exit.inBlock id Q .ret a w:=h
theorem Gb (h:Q .normal a w):Exit.inBlock id Q (.exit id) a w:=by simp only [Exit.inBlock,if_true];exact h
theorem aDj (hne:id'≠id) (h:Q (.exit id') a w):Exit.inBlock id Q (.exit id') a w:=by simp only [Exit.inBlock,if_neg hne];exact h
theorem Tw {St Rt:Type} {Rel:St→Act→World→Prop} {kk:St→Option Rt} {lf:(St→Option Rt)→Nat→St→Option Rt} {r:Rt} {p:Code} {n:Nat} {st:St}
  (h:lf kk n st=some r) (hz:∀kk st,lf kk 0 st=none) (h0:Rel st a w) (hk:∀st a w,Rel st a w→kk st=some r→Q (.exit id) a w)
  (round:∀(kk:St→Option Rt) n st a w,(∀st a w,Rel st a w→kk st=some r→Q (.exit id) a w)→Rel st a w→lf kk (n+1) st=some r→p.wp P (Exit.then (fun a w=>∃st,Rel st a w∧lf kk n st=some r) Q) a w):(Code.loop p).wp P Q a w:=by
 refine Vg (I:=fun n a w=>∃st,Rel st a w∧lf kk n st=some r) n ⟨st,h0,h⟩ (fun a w ⟨st,_,h⟩=>by rw [hz] at h;cases h) ?_;rintro n a w ⟨st,hr,h⟩;exact round kk n st a w hk hr h
theorem Mem.cap {base:Nat} {W:World} {L:List kH} {e s n c:Nat} {A:Option Addr} {xs:List Value} (M:Mem base W w L) (i:Nat) (h:L[i]? = some (.row e s A n c xs)):n≤c:=by
 rcases (M.has i _ h).2 with ⟨hv,h0⟩ | ⟨g,cap,cur,hv,_,_,hnc,_⟩
 ·omega
 ·injection hv with _ _ e3;omega
end
section
variable {base:Nat} {W w:World} {L:List kH} {g:Nat} {t:TypeId} {cs:List Value} {α:Type} {C:uK α} {xs:List α}
theorem Mem.aF (e s:Nat) (C:uK α) (M:Mem base W w L):Mem base W w (.row e s none ([]:List α).length 0 (C.all [])::L):=
 M.cons (show kH.holds w (.row e s none 0 0 []) from ⟨by simp,.inl ⟨rfl,rfl⟩⟩) fun g hg=>by simp [kH.foot] at hg
end
section
variable {P:Program} {S:World→Prop} {D:List Deferred} {a:Act} {N:Nat} {l:List (Nat × Value)} {o:Oper} {x:Operand} {t t':TypeId} {g off:Nat} {cs:List Value} {k:IntKind} {n e:Int} {q:Nat} {es:List Int}
theorem He (ho:o.op = .load t x) (ht:Ju P t=true) (K:Kd D a N l) (hx:g7 l x=some (.pointer (some ((⟨g,off,none⟩:Addr).add (n.toNat*q))))) (hb:∀w,S w→g9 w g t' cs.toArray) (hq:q=1) (hc:(cs.drop off).take es.length=es.map (.int k)) (hv:idx es n=some e):Rd P S a o (.int k e):=by
 obtain ⟨h0,h1,h2⟩:=wF hv;refine aBK ho ht K hx hb hq ?_;unfold idx;rw [if_pos h0];have:((cs.drop off).take es.length)[n.toNat]? = some (.int k e):=by rw [hc];simp [h2]
 rw [List.getElem?_take,if_pos h1] at this;exact this
end
def cI (k:IntKind):uK Int:=⟨fun x=>[.int k x],1,fun _=>rfl,fun _ u h=>by simp at h;subst h;rfl,by omega⟩
def cS:uK (List UInt8):=⟨fun x=>[.string (bs x)],1,fun _=>rfl,fun _ u h=>by simp at h;subst h;rfl,by omega⟩
def fA:uK (Int × Int):=⟨fun x=>[.int .i64 x.1,.int .i64 x.2],2,fun _=>rfl,fun _ u h=>by simp at h;rcases h with rfl | rfl <;> rfl,by omega⟩
def aV:uK (Int × Int × Int):=⟨fun x=>[.int .i64 x.1,.int .i64 x.2.1,.int .i64 x.2.2],3,fun _=>rfl,fun _ u h=>by simp at h;rcases h with rfl | rfl | rfl <;> rfl,by omega⟩
def aFr:uK (Bool × Bool × Bool):=⟨fun x=>[.bool x.1,.bool x.2.1,.bool x.2.2],3,fun _=>rfl,fun _ u h=>by simp at h;rcases h with rfl | rfl | rfl <;> rfl,by omega⟩
section
variable {P:Program} {S:World→Prop} {base:Nat} {W w:World} {L:List kH} {D:List Deferred} {a:Act} {N:Nat} {l:List (Nat × Value)} {o:Oper} {v v':Value} {x y ix:Operand} {k:IntKind} {m n:Int} {b b':Bool} {t e t':TypeId} {s s':List UInt8}
  {α:Type} {C:uK α} {cs:List Value} {es:List α} {el:α} {g:Nat} {xs:List α}
theorem rdv (he:v'=v) (h:Rd P S a o v'):Rd P S a o v:=he ▸ h
theorem Yx (ht:P.underlying t=some .bool) (ho:o.op = .binOp .eql t x y t') (K:Kd D a N l) (hx:g7 l x=some (.bool b)) (hy:g7 l y=some (.bool b')):Rd P S a o (.bool (decide (b=b'))):=
 pR ho K hx hy fun w=>by rw [Sem.run_bind];simp [eqGuard,run_eql_bool (P:=P) w t b b' ht];cases b <;> cases b' <;> rfl
theorem GD {len:Nat} (ho:o.op = .index t x ix) (ht:P.underlying t=some (.array len e)) (he:Ju P e=true) (K:Kd D a N l) (hx:g7 l x=some (.agg cs.toArray)) (hi:g7 l ix=some (.int k n)) (hc:C.all es=cs) (hn:idx es n=some el) (hv:C.enc el=[v]) (hl:es.length=len:=by rfl):Rd P S a o v:=fun w _=>by
 obtain ⟨h0,hlt,hel⟩:=wF hn;have hsz:C.size=1:=by have:=C.len el;rw [hv] at this;simpa using this.symm
 have hg:=uK.yR C es n.toNat 0 el v hel (by rw [hv];rfl);rw [hc,hsz] at hg;simp only [Nat.mul_one,Nat.add_zero] at hg;have h1:n<len:=by omega
 unfold execOp
 simp [ho,K.ev hx,K.ev hi,Instr.index,asIntOf,run_underlying ht,h0,h1,(AY he w).2,part,(AY he w).1,hg]
theorem Yy {len s:Nat} (ho:o.op = .index t x ix) (ht:P.underlying t=some (.array len e)) (he:DH P e s=true) (hs:s=C.size) (K:Kd D a N l) (hx:g7 l x=some (.agg cs.toArray)) (hi:g7 l ix=some (.int k n)) (hc:C.all es=cs) (hn:idx es n=some el) (hl:es.length=len:=by rfl):Rd P S a o (.agg (C.enc el).toArray):=fun w _=>by
 obtain ⟨h0,hlt,hel⟩:=wF hn;obtain ⟨d,hu,hd,hsz⟩:=Cp he;subst hs;simp only [Option.map_eq_some_iff] at hsz;obtain ⟨i,qQ,hsz⟩:=hsz
 have hagg:(isAgg e).run P w = .ok true w:=by
  unfold isAgg;rw [Sem.run_bind,run_underlying hu w]
  cases d <;> simp_all
 have h1:n<len:=by omega
 have hex:(cs.drop (n.toNat*C.size)).take C.size=C.enc el:=by
  subst hc
  apply List.ext_getElem?
  intro j;rw [List.getElem?_take]
  split
  ·rename_i hj
   rw [List.getElem?_drop];have hu:(C.enc el)[j]? = some ((C.enc el)[j]'(by rw [C.len];exact hj)):=List.getElem?_eq_getElem _;rw [uK.yR C es n.toNat j el _ hel hu,hu]
  ·rw [List.getElem?_eq_none (by rw [C.len];omega)]
 unfold execOp
 simp [ho,K.ev hx,K.ev hi,Instr.index,asIntOf,run_underlying ht,h0,h1,sizeOf,typeInfo,qQ,hsz,part,hagg,hex]
theorem Mem.Yz {W w:World} (h:Below W.heap.size W w):Mem W.heap.size W w []:=⟨h,yP.below h,Nat.le_refl _,fun i e he=>by simp at he,fun i e g he=>by simp at he,fun i j e e' g he=>by simp at he⟩
theorem Mem.jM {s n:Nat} (M:Mem base W w L) (i:Nat) (h:L[i]? = some (.blk g e cs)) (C:uK α) (xs:List α) (hx:C.all xs=cs) (hn:xs.length=n) (hs:s=C.size) (hm:n≤maxLen:=by decide):Mem base W w (L.set i (.row e s (some ⟨g,0,none⟩) xs.length n (C.all xs))):=by
 subst hs hn;have hB:=M.aL h;refine M.turn i h (Below.refl _ _) ?_ (fun _ _ _=>rfl) (fun g' hg'=>.inl (by simpa [kH.foot] using hg'));refine ⟨by rw [uK.wZ],.inr ⟨g,xs.length,cs.toArray,rfl,Nat.zero_le _,hB,Nat.le_refl _,hm,by simp [←hx,uK.wZ],?_⟩⟩;rw [←hx,List.take_of_length_le (by simp [uK.wZ])]
theorem R6 {xs ys:Array Value} {r:Bool} (hm:P.eqGuardType P.depth t=false) (ho:o.op = .binOp .neq t x y t') (K:Kd D a N l) (hx:g7 l x=some (.agg xs)) (hy:g7 l y=some (.agg ys))
  (h:∀w,(Op.equalIn 10000 t (.agg xs) (.agg ys)).run P w = .ok r w):Rd P S a o (.bool (!r)):=
 pR ho K hx hy fun w=>by
  rw [Sem.run_bind,run_eqGuard_agg (P:=P) w .neq t x y xs ys hm,Result.andThen_ok,run_neq_struct (P:=P) w t xs ys,h w];rfl
variable {ops:Array Oper} {Q:Exit→Act→World→Prop} {R:Act→World→Prop} {rest:List Oper} {d:Nat} {f:List Nat}
theorem oU (K:Kd D a N l) (hw:Region.wanted o (yielded ops a.tmps)=false) (hd:o.dst=some d) (hN:Nat.blt d N=true) (hS:S w) (k:∀a',Kd D a' N ((d,undef)::l)→nU P ops S R (marked f rest) a' w):nU P ops S R (marked (1::f) (o::rest)) a w:=by
 have:=K.put (d:=o.dst) (by rw [hd];exact hN) undef;refine Tu (n:=true) hw (fun _=>hS) ?_;rw [hd] at this ⊢;exact k _ this
theorem eE (K:Kd D a N l) (hw:Region.wanted o (yielded ops a.tmps)=true) (hd:o.dst=some d) (hN:Nat.blt d N=true) (hr:Rd P (fun w=>Mem base W w L) a o v) (M:Mem base W w L) (hS:S w) (k:∀a',Kd D a' N ((d,v)::l)→nU P ops S R (marked f rest) a' w):nU P ops S R (marked (1::f) (o::rest)) a w:=
 aBP K hw hd hN (post:=fun v' w'=>v'=v∧w'=w) (Al (hr w M) ⟨rfl,rfl⟩) fun v' a' w' hp K'=>by obtain ⟨rfl,rfl⟩:=hp;exact ⟨hS,k a' K'⟩
theorem iE {α:Type} {xs ys:List α} {i:Int} {x:α} (h:vU xs i x=some ys):xs.length=ys.length:=by
 obtain ⟨_,_,rfl⟩:=LY h;simp
theorem Ai {fid:FuncId} {cap vs:List Value} {args:Array Operand} {ts:Array TypeId} (K:Kd D a N l) (hw:Region.wanted o (yielded ops a.tmps)=true) (hd:o.dst=some d) (hN:Nat.blt d N=true)
  (ho:o.op = .call { callee:=.value x,args:=args,argTypes:=ts }) (hf:iD P fid=true) (hx:g7 l x=some (.func (.func fid) #[] cap.toArray)) (hargs:args.toList.map (g7 l)=vs.map some)
  (h:Calls P fid (vs++cap).toArray w fun e w'=>∃v,e = .returned v∧∀a',Kd D a' N ((d,v)::l)→wpList P ops Q rest a' w'):wpList P ops Q (o::rest) a w:=
 aBM K hw hd hN (dX ho hf K hx hargs h) fun _ a' _ hp K'=>hp a' K'
theorem Vi {fid:FuncId} {cap vs:List Value} {args:Array Operand} {ts:Array TypeId} (K:Kd D a N l) (hw:Region.wanted o (yielded ops a.tmps)=true) (hd:o.dst=some d) (hN:Nat.blt d N=true)
  (ho:o.op = .call { callee:=.value x,args:=args,argTypes:=ts }) (hf:iD P fid=true) (hx:g7 l x=some (.func (.func fid) #[] cap.toArray)) (hargs:args.toList.map (g7 l)=vs.map some)
  (h:Calls P fid (vs++cap).toArray w fun e w'=>∃v,e = .returned v∧∀a',Kd D a' N ((d,v)::l)→S w'∧nU P ops S R (marked f rest) a' w'):nU P ops S R (marked (1::f) (o::rest)) a w:=
 aBP K hw hd hN (dX ho hf K hx hargs h) fun _ a' _ hp K'=>hp a' K'
end
end
section
open Go.ChangeAt Go.ChangeShapes Go.Deep Go.Joins Go.RowKit Go.WideShapes
theorem peel {cs a:List Value} {i k:Nat} (hk:k=a.length) (h:(cs.drop i).take k=a):cs.drop i=a++cs.drop (i+k):=by
 subst hk
 conv=>lhs;rw [←List.take_append_drop a.length (cs.drop i),h,List.drop_drop]
theorem On {cs:List Value} {k:Nat} (h:cs.length=k):cs.drop k=[]:=List.drop_of_length_le (by omega)
section
variable {H:Type} {enc:TypeId × Value→H} {P:Program}
variable {W:World} {base:Nat} {sp:Nat→Bool} {held:Bool} {r:Reach} {b0:Nat} {t:TypeId} {v:Value} {d:DataW H} {p:List MemPlace}
theorem Qo {fs:Array Field} (ht:P.underlying t=some (.struct fs)) (hv:Value.okWide P W r b0 t v) (h:DataW.Trod enc P W base sp held t v d p):∃cs:List Value,v = .agg cs.toArray∧∃n y,DataW.trod enc P W base sp held n t cs=some y:=by
 obtain ⟨cs,rfl,_⟩:=okWide_struct ht hv;obtain ⟨fuel,hf⟩:=h;exact ⟨cs.toList,by simp,fuel,_,hf⟩
theorem YA {k:IntKind} (ht:P.underlying t=some (.int k)) (hv:Value.okWide P W r b0 t v) (h:DataW.Trod enc P W base sp held t v d p):∃u,v=u∧∃n y,DataW.trod enc P W base sp held n t [u]=some y:=by
 obtain ⟨s,rfl⟩:=okWide_int ht hv;obtain ⟨fuel,hf⟩:=h;exact ⟨_,rfl,fuel,_,hf⟩
end
section
variable {H:Type} {enc:TypeId × Value→H} {W:World} {base:Nat} {sp:Nat→Bool} {held:Bool}
theorem ct3:Tryz.prog.cellsOf 3=1:=by kernel_rfl
theorem ot3 (n:Nat) (cs:List Value) (y) (h:DataW.trod enc Tryz.prog W base sp held n 3 cs=some y):∃(x0:Int),cs=[.int .i64 x0]∧wf64 x0:=by
 obtain ⟨z,rfl,_,wz⟩:=DataW.trod_int Tryz.underlying3 h;exact ⟨z,rfl,Ym wz⟩
theorem aDk:Tryz.prog.cellsOf 23=4:=by kernel_rfl
theorem aFs (n:Nat) (cs:List Value) (y) (h:DataW.trod enc Tryz.prog W base sp held n 23 cs=some y):∃(x0:Int) (x1:Int) (x2:Int) (x3:Int),cs=[.int .i64 x0,.int .i64 x1,.int .i64 x2,.int .i64 x3]∧wf64 x0∧wf64 x1∧wf64 x2∧wf64 x3:=by
 obtain ⟨ys,m,_,_,hl,hyl,hf⟩:=DataW.trod_struct Tryz.underlying23 h;obtain ⟨aBQ,e0,aBR⟩:=ot3 _ _ _ ((hf 0 _ rfl).trans (List.getElem?_eq_getElem (show 0<ys.length by rw [hyl];decide)));change List.take (Tryz.prog.cellsOf 3) (List.drop 0 cs)=_ at e0;rw [ct3] at e0;obtain ⟨aBS,e1,aBT⟩:=ot3 _ _ _ ((hf 1 _ rfl).trans (List.getElem?_eq_getElem (show 1<ys.length by rw [hyl];decide)));change List.take (Tryz.prog.cellsOf 3) (List.drop 1 cs)=_ at e1;rw [ct3] at e1;obtain ⟨aBU,e2,aBV⟩:=ot3 _ _ _ ((hf 2 _ rfl).trans (List.getElem?_eq_getElem (show 2<ys.length by rw [hyl];decide)));change List.take (Tryz.prog.cellsOf 3) (List.drop 2 cs)=_ at e2;rw [ct3] at e2;obtain ⟨aBW,e3,aBX⟩:=ot3 _ _ _ ((hf 3 _ rfl).trans (List.getElem?_eq_getElem (show 3<ys.length by rw [hyl];decide)));change List.take (Tryz.prog.cellsOf 3) (List.drop 3 cs)=_ at e3;rw [ct3] at e3;have hcs:cs=_:=List.drop_zero.symm.trans ((peel (i:=0) (k:=1) rfl e0).trans (congrArg _ ((peel (i:=1) (k:=1) rfl e1).trans (congrArg _ ((peel (i:=2) (k:=1) rfl e2).trans (congrArg _ ((peel (i:=3) (k:=1) rfl e3).trans (congrArg _ (On (k:=4) (hl.trans aDk))))))))));exact ⟨aBQ,aBS,aBU,aBW,hcs,aBR,aBT,aBV,aBX⟩
theorem ct4:Tryz.prog.cellsOf 4=1:=by kernel_rfl
theorem ot4 (n:Nat) (cs:List Value) (y) (h:DataW.trod enc Tryz.prog W base sp held n 4 cs=some y):∃(x0:Bool),cs=[.bool x0]∧True:=by
 obtain ⟨z,rfl,_⟩:=DataW.trod_bool Tryz.underlying4 h;exact ⟨z,rfl,trivial⟩
theorem aFt:Tryz.prog.cellsOf 25=7:=by kernel_rfl
theorem aFu (n:Nat) (cs:List Value) (y) (h:DataW.trod enc Tryz.prog W base sp held n 25 cs=some y):∃(x0:Int) (x1:Int) (x2:Int) (x3:Int) (x4:Int) (x5:Int) (x6:Bool),cs=[.int .i64 x0,.int .i64 x1,.int .i64 x2,.int .i64 x3,.int .i64 x4,.int .i64 x5,.bool x6]∧wf64 x0∧wf64 x1∧wf64 x2∧wf64 x3∧wf64 x4∧wf64 x5∧True:=by
 obtain ⟨ys,m,_,_,hl,hyl,hf⟩:=DataW.trod_struct Tryz.underlying25 h;obtain ⟨aBQ,e0,aBR⟩:=ot3 _ _ _ ((hf 0 _ rfl).trans (List.getElem?_eq_getElem (show 0<ys.length by rw [hyl];decide)));change List.take (Tryz.prog.cellsOf 3) (List.drop 0 cs)=_ at e0;rw [ct3] at e0;obtain ⟨aBS,aFv,aFw,aFx,e1,aBT,aFy,aFz,aFA⟩:=aFs _ _ _ ((hf 1 _ rfl).trans (List.getElem?_eq_getElem (show 1<ys.length by rw [hyl];decide)));change List.take (Tryz.prog.cellsOf 23) (List.drop 1 cs)=_ at e1;rw [aDk] at e1;obtain ⟨aBU,e2,aBV⟩:=ot3 _ _ _ ((hf 2 _ rfl).trans (List.getElem?_eq_getElem (show 2<ys.length by rw [hyl];decide)));change List.take (Tryz.prog.cellsOf 3) (List.drop 5 cs)=_ at e2;rw [ct3] at e2;obtain ⟨aBW,e3,aBX⟩:=ot4 _ _ _ ((hf 3 _ rfl).trans (List.getElem?_eq_getElem (show 3<ys.length by rw [hyl];decide)));change List.take (Tryz.prog.cellsOf 4) (List.drop 6 cs)=_ at e3;rw [ct4] at e3;have hcs:cs=_:=List.drop_zero.symm.trans ((peel (i:=0) (k:=1) rfl e0).trans (congrArg _ ((peel (i:=1) (k:=4) rfl e1).trans (congrArg _ ((peel (i:=5) (k:=1) rfl e2).trans (congrArg _ ((peel (i:=6) (k:=1) rfl e3).trans (congrArg _ (On (k:=7) (hl.trans aFt))))))))));exact ⟨aBQ,aBS,aFv,aFw,aFx,aBU,aBW,hcs,aBR,aBT,aFy,aFz,aFA,aBV,aBX⟩
end
end
section
open Go
def nB (n:Int):List UInt8:=[UInt8.ofNat ((n/16777216)%256).toNat,UInt8.ofNat ((n/65536)%256).toNat,UInt8.ofNat ((n/256)%256).toNat,UInt8.ofNat (n%256).toNat]
def v32 (a b c d:UInt8):Int:=if (a.toNat:Int)<128 then (a.toNat:Int)*16777216+b.toNat*65536+c.toNat*256+d.toNat else (a.toNat:Int)*16777216+b.toNat*65536+c.toNat*256+d.toNat-4294967296
def Dr:List UInt8→Option (Int × List UInt8)
 | a::b::c::d::t=>some (v32 a b c d,t)
 | _=>none
def rdC (s:List UInt8):Option (Nat × List UInt8):=(Dr s).bind fun p=>if 0≤p.1∧p.1≤p.2.length then some (p.1.toNat,p.2) else none
def Vj (s:List UInt8):Option (List UInt8 × List UInt8):=(rdC s).bind fun p=>some (p.2.take p.1,p.2.drop p.1)
def Tx (s:List UInt8):Option ((Int × Int) × List UInt8):=(Dr s).bind fun p=>(Dr p.2).bind fun q=>some ((p.1,q.1),q.2)
def Kj {α:Type} (f:List UInt8→Option (α × List UInt8)):Nat→List UInt8→Option (List α × List UInt8)
 | 0,s=>some ([],s)
 | n+1,s=>(f s).bind fun p=>(Kj f n p.2).bind fun q=>some (p.1::q.1,q.2)
def Oo {α:Type} (f:List UInt8→Option (α × List UInt8)) (s:List UInt8):Option (List α × List UInt8):=(rdC s).bind fun p=>Kj f p.1 p.2
def is32 (n:Int):Prop:=-2147483648≤n∧n<2147483648
def tB (s:List UInt8):List UInt8:=nB s.length++s
def pB (p:Int × Int):List UInt8:=nB p.1++nB p.2
def lB {α:Type} (g:α→List UInt8) (l:List α):List UInt8:=nB l.length++(l.map g).flatten
theorem R7 {a:UInt8} {n:Nat} (h:n=a.toNat):UInt8.ofNat n=a:=by rw [h];exact UInt8.ofNat_toNat
theorem d5 {s t:List UInt8} {n:Int} (h:Dr s=some (n,t)):s=nB n++t∧is32 n:=by
 rcases s with _ | ⟨a,_ | ⟨b,_ | ⟨c,_ | ⟨d,s⟩⟩⟩⟩
 ·cases h
 ·cases h
 ·cases h
 ·cases h
 have h':some (v32 a b c d,s)=some (n,t):=h
 injection h' with h'
 injection h' with h1 h2
 subst h1 h2;have ha:=a.toNat_lt;have hb:=b.toNat_lt;have hc:=c.toNat_lt;have hd:=d.toNat_lt
 have hv:∃m:Int,v32 a b c d=m∧(m=(a.toNat:Int)*16777216+b.toNat*65536+c.toNat*256+d.toNat∧(a.toNat:Int)<128∨m=(a.toNat:Int)*16777216+b.toNat*65536+c.toNat*256+d.toNat-4294967296∧¬(a.toNat:Int)<128):=by
  refine ⟨_,rfl,?_⟩;unfold v32
  by_cases q:(a.toNat:Int)<128
  ·rw [if_pos q];exact .inl ⟨rfl,q⟩
  ·rw [if_neg q];exact .inr ⟨rfl,q⟩
 obtain ⟨m,hm,hq⟩:=hv;rw [hm];unfold is32;refine ⟨?_,by omega⟩;have e1:UInt8.ofNat ((m/16777216)%256).toNat=a:=R7 (by omega);have e2:UInt8.ofNat ((m/65536)%256).toNat=b:=R7 (by omega);have e3:UInt8.ofNat ((m/256)%256).toNat=c:=R7 (by omega);have e4:UInt8.ofNat (m%256).toNat=d:=R7 (by omega);unfold nB;rw [e1,e2,e3,e4];rfl
theorem R8 {s t:List UInt8} {n:Nat} (h:rdC s=some (n,t)):s=nB n++t∧n<2147483648∧n≤t.length:=by
 unfold rdC at h;obtain ⟨⟨m,u⟩,h1,h2⟩:=aB h;dsimp only at h2
 split at h2
 ·rename_i hh
  obtain ⟨e1,e2⟩:=d5 h1;unfold is32 at e2
  injection h2 with h2
  injection h2 with h3 h4
  subst h3 h4;rw [e1,show ((m.toNat:Nat):Int)=m by omega];exact ⟨rfl,by omega,by omega⟩
 ·cases h2
theorem R9 {s x t:List UInt8} (h:Vj s=some (x,t)):s=tB x++t∧x.length<2147483648:=by
 unfold Vj at h;obtain ⟨⟨n,u⟩,h1,h2⟩:=aB h;obtain ⟨e1,e2,e3⟩:=R8 h1
 injection h2 with h2
 injection h2 with h3 h4
 subst h3 h4
 dsimp only
 have hl:(u.take n).length=n:=by rw [List.length_take];omega
 unfold tB;rw [hl,List.append_assoc,List.take_append_drop];exact ⟨e1,e2⟩
theorem YB {s t:List UInt8} {p:Int × Int} (h:Tx s=some (p,t)):s=pB p++t∧is32 p.1∧is32 p.2:=by
 unfold Tx at h;obtain ⟨⟨n,u⟩,h1,h2⟩:=aB h;obtain ⟨⟨m,v⟩,h3,h4⟩:=aB h2
 injection h4 with h4
 injection h4 with h5 h6
 subst h5 h6;obtain ⟨e1,e2⟩:=d5 h1;obtain ⟨e3,e4⟩:=d5 h3;unfold pB;dsimp only at e3 ⊢;rw [e1,e3,List.append_assoc];exact ⟨rfl,e2,e4⟩
section
variable {α:Type} {f:List UInt8→Option (α × List UInt8)} {g:α→List UInt8} {Q:α→Prop}
theorem Sa (hf:∀s x t,f s=some (x,t)→s=g x++t∧Q x):∀(n:Nat) (s:List UInt8) (l:List α) (t:List UInt8),Kj f n s=some (l,t)→s=(l.map g).flatten++t∧l.length=n∧∀x∈l,Q x
 | 0,s,l,t,h=>by
  injection h with h
  injection h with h1 h2
  subst h1 h2;exact ⟨rfl,rfl,fun x hx=>by cases hx⟩
 | n+1,s,l,t,h=>by
  unfold Kj at h;obtain ⟨⟨x,u⟩,h1,h2⟩:=aB h;obtain ⟨⟨m,v⟩,h3,h4⟩:=aB h2
  injection h4 with h4
  injection h4 with h5 h6
  subst h5 h6;obtain ⟨e1,e2⟩:=hf _ _ _ h1;obtain ⟨e3,e4,e5⟩:=Sa hf n _ _ _ h3;dsimp only at e3 ⊢;refine ⟨by rw [e1,e3,List.map_cons,List.flatten_cons,List.append_assoc],by rw [List.length_cons,e4],fun y hy=>?_⟩
  rcases List.mem_cons.1 hy with rfl | hy
  ·exact e2
  ·exact e5 y hy
theorem AZ (hf:∀s x t,f s=some (x,t)→s=g x++t∧Q x) {s:List UInt8} {l:List α} {t:List UInt8} (h:Oo f s=some (l,t)):s=lB g l++t∧l.length<2147483648∧∀x∈l,Q x:=by
 unfold Oo at h;obtain ⟨⟨n,u⟩,h1,h2⟩:=aB h;obtain ⟨e1,e2,e3⟩:=R8 h1;obtain ⟨e4,e5,e6⟩:=Sa hf _ _ _ _ h2;dsimp only at e4 e5;unfold lB;rw [e1,e4,e5,List.append_assoc];exact ⟨rfl,e2,e6⟩
end
abbrev aDl:=Int × Int × Int × Int × Int × List Int × List (List UInt8) × Int × Int × Int × Int × Int × Int × List (Int × Int) × Int × Int × Int × Int × Int × Int × Int × Int × Int × Int × Int × Int × List (Int × Int) × Int
def Vk:List UInt8:=[100,97,114,107]
def aDm (W H D K R:Int) (Ls:List Int) (St:List (List UInt8)) (ph b0 b1 b2 b3 w:Int) (sp:List (Int × Int)) (g0 g1 g2 m0 m1 m2 m3 m4 m5 m6 m7 m8:Int) (cv:List (Int × Int)) (am:Int):List UInt8:=
 tB Vk++(nB W++(nB H++(nB D++(nB K++(nB R++(lB nB Ls++(lB tB St++(nB ph++(nB b0++(nB b1++(nB b2++(nB b3++(nB w++(lB pB sp++(nB g0++(nB g1++(nB g2++(nB m0++(nB m1++(nB m2++(nB m3++(nB m4++(nB m5++(nB m6++(nB m7++(nB m8++(lB pB cv++(nB am++[]))))))))))))))))))))))))))))
def Vl (s:List UInt8):Option (aDl × List UInt8):=
 (Vj s).bind fun p0=>if p0.1≠Vk then none else
 (Dr p0.2).bind fun W=>(Dr W.2).bind fun H=>(Dr H.2).bind fun D=>(Dr D.2).bind fun K=>(Dr K.2).bind fun R=>(Oo Dr R.2).bind fun Ls=>(Oo Vj Ls.2).bind fun St=>
 (Dr St.2).bind fun ph=>(Dr ph.2).bind fun b0=>(Dr b0.2).bind fun b1=>(Dr b1.2).bind fun b2=>(Dr b2.2).bind fun b3=>(Dr b3.2).bind fun w=>(Oo Tx w.2).bind fun sp=>
 (Dr sp.2).bind fun g0=>(Dr g0.2).bind fun g1=>(Dr g1.2).bind fun g2=>(Dr g2.2).bind fun m0=>(Dr m0.2).bind fun m1=>(Dr m1.2).bind fun m2=>(Dr m2.2).bind fun m3=>(Dr m3.2).bind fun m4=>(Dr m4.2).bind fun m5=>(Dr m5.2).bind fun m6=>(Dr m6.2).bind fun m7=>(Dr m7.2).bind fun m8=>
 (Oo Tx m8.2).bind fun cv=>(Dr cv.2).bind fun am=>
 some ((W.1,H.1,D.1,K.1,R.1,Ls.1,St.1,ph.1,b0.1,b1.1,b2.1,b3.1,w.1,sp.1,g0.1,g1.1,g2.1,m0.1,m1.1,m2.1,m3.1,m4.1,m5.1,m6.1,m7.1,m8.1,cv.1,am.1),am.2)
section
variable (W H D K R:Int) (Ls:List Int) (St:List (List UInt8)) (ph b0 b1 b2 b3 w:Int) (sp:List (Int × Int)) (g0 g1 g2 m0 m1 m2 m3 m4 m5 m6 m7 m8:Int) (cv:List (Int × Int)) (am:Int)
def aDn:Prop:=(is32 W∧is32 H∧is32 D∧is32 K∧is32 R)∧(Ls.length<2147483648∧∀x∈Ls,is32 x)∧(St.length<2147483648∧∀x∈St,x.length<2147483648)∧(is32 ph∧is32 b0∧is32 b1∧is32 b2∧is32 b3∧is32 w)∧(sp.length<2147483648∧∀x∈sp,is32 x.1∧is32 x.2) ∧
 (is32 g0∧is32 g1∧is32 g2)∧(is32 m0∧is32 m1∧is32 m2∧is32 m3∧is32 m4∧is32 m5∧is32 m6∧is32 m7∧is32 m8)∧(cv.length<2147483648∧∀x∈cv,is32 x.1∧is32 x.2)∧is32 am
theorem YC {s t:List UInt8} (h:Vl s=some ((W,H,D,K,R,Ls,St,ph,b0,b1,b2,b3,w,sp,g0,g1,g2,m0,m1,m2,m3,m4,m5,m6,m7,m8,cv,am),t)) (ht:t=[]):s=aDm W H D K R Ls St ph b0 b1 b2 b3 w sp g0 g1 g2 m0 m1 m2 m3 m4 m5 m6 m7 m8 cv am∧aDn W H D K R Ls St ph b0 b1 b2 b3 w sp g0 g1 g2 m0 m1 m2 m3 m4 m5 m6 m7 m8 cv am:=by
 subst ht;unfold Vl at h;obtain ⟨⟨p,s0⟩,e0,h⟩:=aB h;dsimp only at h
 split at h
 ·cases h
 rename_i hp
 have hp:=Classical.not_not.1 hp;subst hp;obtain ⟨⟨_,s1⟩,e1,h⟩:=aB h;obtain ⟨⟨_,s2⟩,e2,h⟩:=aB h;obtain ⟨⟨_,s3⟩,e3,h⟩:=aB h;obtain ⟨⟨_,s4⟩,e4,h⟩:=aB h;obtain ⟨⟨_,s5⟩,e5,h⟩:=aB h;obtain ⟨⟨_,s6⟩,e6,h⟩:=aB h;obtain ⟨⟨_,s7⟩,e7,h⟩:=aB h;obtain ⟨⟨_,s8⟩,e8,h⟩:=aB h;obtain ⟨⟨_,s9⟩,e9,h⟩:=aB h;obtain ⟨⟨_,s10⟩,e10,h⟩:=aB h;obtain ⟨⟨_,s11⟩,e11,h⟩:=aB h;obtain ⟨⟨_,s12⟩,e12,h⟩:=aB h;obtain ⟨⟨_,s13⟩,e13,h⟩:=aB h;obtain ⟨⟨_,s14⟩,e14,h⟩:=aB h;obtain ⟨⟨_,s15⟩,e15,h⟩:=aB h;obtain ⟨⟨_,s16⟩,e16,h⟩:=aB h;obtain ⟨⟨_,s17⟩,e17,h⟩:=aB h;obtain ⟨⟨_,s18⟩,e18,h⟩:=aB h;obtain ⟨⟨_,s19⟩,e19,h⟩:=aB h;obtain ⟨⟨_,s20⟩,e20,h⟩:=aB h;obtain ⟨⟨_,s21⟩,e21,h⟩:=aB h;obtain ⟨⟨_,s22⟩,e22,h⟩:=aB h;obtain ⟨⟨_,s23⟩,e23,h⟩:=aB h;obtain ⟨⟨_,s24⟩,e24,h⟩:=aB h;obtain ⟨⟨_,s25⟩,e25,h⟩:=aB h;obtain ⟨⟨_,s26⟩,e26,h⟩:=aB h;obtain ⟨⟨_,s27⟩,e27,h⟩:=aB h;obtain ⟨⟨_,s28⟩,e28,h⟩:=aB h
 injection h with h
 simp only [Prod.mk.injEq] at h;obtain ⟨⟨rfl,rfl,rfl,rfl,rfl,rfl,rfl,rfl,rfl,rfl,rfl,rfl,rfl,rfl,rfl,rfl,rfl,rfl,rfl,rfl,rfl,rfl,rfl,rfl,rfl,rfl,rfl,rfl⟩,rfl⟩:=h;have hN:∀s x t,Dr s=some (x,t)→s=nB x++t∧is32 x:=fun s x t q=>d5 q
 have hT:∀s x t,Vj s=some (x,t)→s=tB x++t∧x.length<2147483648:=fun s x t q=>R9 q
 have hP:∀s x t,Tx s=some (x,t)→s=pB x++t∧(is32 x.1∧is32 x.2):=fun s x t q=>YB q
 dsimp only at *;refine ⟨?_,⟨(d5 e1).2,(d5 e2).2,(d5 e3).2,(d5 e4).2,(d5 e5).2⟩,(AZ hN e6).2,(AZ hT e7).2,⟨(d5 e8).2,(d5 e9).2,(d5 e10).2,(d5 e11).2,(d5 e12).2,(d5 e13).2⟩,(AZ hP e14).2,⟨(d5 e15).2,(d5 e16).2,(d5 e17).2⟩,⟨(d5 e18).2,(d5 e19).2,(d5 e20).2,(d5 e21).2,(d5 e22).2,(d5 e23).2,(d5 e24).2,(d5 e25).2,(d5 e26).2⟩,(AZ hP e27).2,(d5 e28).2⟩;unfold aDm;rw [(R9 e0).1]
 rw [(d5 e1).1,(d5 e2).1,(d5 e3).1,(d5 e4).1,(d5 e5).1,(AZ hN e6).1,(AZ hT e7).1,(d5 e8).1,(d5 e9).1,(d5 e10).1,(d5 e11).1,(d5 e12).1,(d5 e13).1,(AZ hP e14).1,
  (d5 e15).1,(d5 e16).1,(d5 e17).1,(d5 e18).1,(d5 e19).1,(d5 e20).1,(d5 e21).1,(d5 e22).1,(d5 e23).1,(d5 e24).1,(d5 e25).1,(d5 e26).1,(AZ hP e27).1,(d5 e28).1]
end
def Vm (W x y v:Int):Nat→Int→List (Int × Int)
 | 0,_=>[]
 | k+1,u=>if u≤x+1∧u<W then (if u≠x∨v≠y then (u,v)::Vm W x y v k (u+1) else Vm W x y v k (u+1)) else []
def Ty (W H x y:Int):Nat→Int→List (Int × Int)
 | 0,_=>[]
 | k+1,v=>if v≤y+1∧v<H then Vm W x y v 4 (max (x-1) 0)++Ty W H x y k (v+1) else []
def jH (W H x y:Int):List (Int × Int):=Ty W H x y 4 (max (y-1) 0)
abbrev YD (W H:Int):={ q:Int × Int // 0≤q.1∧q.1<W∧0≤q.2∧q.2<H }
def Oq (W H:Int) (P:List Int) (x y:Int):Prop:=0≤x∧x<W∧W≤64∧0≤y∧y<H∧H≤64∧(P.length:Int)=W*H
instance (W H:Int) (P:List Int) (x y:Int):Decidable (Oq W H P x y):=by unfold Oq;infer_instance
theorem Tz {p:Prop} [Decidable p] {α:Type} {x:Option α} {r:α} (h:cond (decide p) x none=some r):p∧x=some r:=by
 by_cases hp:p
 ·rw [decide_eq_true hp] at h;exact ⟨hp,h⟩
 ·rw [decide_eq_false hp] at h;cases h
end
section
def mY {α:Type} (xs:List α):Option Unit:=match xs with | []=>none | _=>some ()
def Ds (xs ys:List UInt8):Option (List UInt8):=if xs.length+ys.length≤9223372036854775807 then some (xs++ys) else none
theorem TA {xs ys zs:List UInt8} (h:Ds xs ys=some zs):zs=xs++ys∧xs.length+ys.length≤9223372036854775807:=by
 unfold Ds at h
 split at h
 ·rename_i h0;exact ⟨(Option.some.inj h).symm,h0⟩
 ·cases h
def toB (ns:List Int):List UInt8:=ns.map fun n=>UInt8.ofNat n.toNat
def oV (s:List UInt8):List Int:=s.map fun b=>(b.toNat:Int)
def uQ (N:Nat) (s cutset:List UInt8):Option (List UInt8):=if s.length≤9223372036854775807∧cutset.length<4294967281∧cutset.all (fun b=>decide (b.toNat<128))=true then some (Go.Lib.trimS s cutset) else none
def qF (N:Nat) (s substr:List UInt8):Option Int:=match substr with
 | [c]=>some ((Go.Lib.countByte s c:Nat):Int)
 | _=>none
def pS (N:Nat) (s substr:List UInt8):Option Bool:=match substr with
 | [c]=>some (decide (0≤Go.Lib.indexByte s c))
 | _=>none
def Bb:Nat→Nat→List UInt8
 | 0,_=>[]
 | k+1,u=>if u<10 then [UInt8.ofNat (48+u)] else Bb k (u/10)++[UInt8.ofNat (48+u%10)]
theorem MS:∀(k u:Nat),u<10^(k+1)→Bb (k+1) u=Go.Lib.decDigits u
 | 0,u,h=>by
  unfold Bb;rw [Go.Lib.decDigits,if_pos (by omega),dif_pos (by omega)]
 | k+1,u,h=>by
  unfold Bb;rw [Go.Lib.decDigits]
  by_cases q:u<10
  ·rw [if_pos q,dif_pos q]
  ·rw [if_neg q,dif_neg q,MS k (u/10) (by rw [Nat.pow_succ] at h;omega)]
def Sb (n:Int):List UInt8:=if n<0 then 45::Bb 20 n.natAbs else Bb 20 n.toNat
theorem Vo {n:Int} (h:-9223372036854775808≤n∧n≤9223372036854775807):Sb n=Go.Lib.itoa n:=by
 unfold Sb Go.Lib.itoa;have e:(10:Nat)^20=100000000000000000000:=by decide
 rw [MS 19 n.natAbs (by rw [e];omega),MS 19 n.toNat (by rw [e];omega)]
def iV (N:Nat) (i:Int):Option (List UInt8):=if -9223372036854775808≤i∧i≤9223372036854775807 then some (Sb i) else none
def Sc {β:Type} (s:List UInt8) (ok no:Int→Option β):Option β:=if s.length≤281474976710656 then (match Go.Lib.atoiAll s with
 | .ok v=>ok v
 | .range=>no (Go.Lib.atoiSat s)
 | _=>no 0) else none
theorem Ou {β:Type} {s:List UInt8} {ok no:Int→Option β} {r:β} (h:Sc s ok no=some r):(∃n,Go.Lib.atoiAll s = .ok n∧s.length≤281474976710656∧ok n=some r)∨∃n,(Go.Lib.atoiAll s = Go.Lib.atoiAll []∧n=0∨Go.Lib.atoiAll s = .range∧n=Go.Lib.atoiSat s)∧s.length≤281474976710656∧no n=some r:=by
 unfold Sc at h
 split at h
 ·rename_i hl
  rcases e : Go.Lib.atoiAll s with v | _ | _ <;> rw [e] at h
  ·exact .inl ⟨v, rfl, hl, h⟩
  ·exact .inr ⟨0, .inl ⟨rfl, rfl⟩, hl, h⟩
  ·exact .inr ⟨_, .inr ⟨rfl, rfl⟩, hl, h⟩
 ·cases h
def lH (N:Nat) (s substr:List UInt8):Option Int:=match substr with
 | [c]=>some (Go.Lib.indexByte s c)
 | _=>none
def Cq {α β:Type} (q:Option α) (n:Option β) (k:α→Option β):Option β:=match q with
 | none=>n
 | some x=>k x
theorem eF {α β:Type} {n:Option β} {k:α→Option β} {r:Option β} (h:Cq none n k=r):n=r:=h
theorem eG {α β:Type} {x:α} {n:Option β} {k:α→Option β} {r:Option β} (h:Cq (some x) n k=r):k x=r:=h
def Ob (xs ys:List UInt8):Option (List UInt8):=if xs.length+ys.length≤140737488355328 then some (xs++ys) else none
theorem Vp {xs ys zs:List UInt8} (h:Ob xs ys=some zs):zs=xs++ys∧xs.length+ys.length≤140737488355328:=by
 unfold Ob at h
 split at h
 ·rename_i h0;exact ⟨(Option.some.inj h).symm,h0⟩
 ·cases h
def YE (xs:List UInt8) (y:Int):Option (List UInt8):=if xs.length+1≤140737488355328∧0≤y∧y<256 then some (xs++[UInt8.ofNat y.toNat]) else none
theorem Vq {xs zs:List UInt8} {y:Int} (h:YE xs y=some zs):zs=xs++[UInt8.ofNat y.toNat]∧xs.length+1≤140737488355328∧0≤y∧y<256:=by
 unfold YE at h
 split at h
 ·rename_i h0;exact ⟨(Option.some.inj h).symm,h0⟩
 ·cases h
end
end Go.Proofs.YtpmnfhifmmfglabGreatDoor
