/- Texts of the claim RestPictures, joined and made small by a program. -/
import Derived.Carry
import Derived.Deep.DeepHandedRow
import Derived.Deep.SlicePairs
import Derived.Deep.Slices
import Derived.Lib.AtoiAll
import Derived.Lib.Bytealg
import Derived.Lib.IndexMore
import Derived.Lib.ItoaNum
import Derived.Lib.LaidTab
import Derived.Lib.SlTrimSet
import Derived.Lib.SmallJoins
import Derived.Maps.OwnSet
import Derived.OpenShut
import Derived.ProofKit
import Derived.SizedLaws
import Derived.Stop.LaidErr
import Derived.Test.YtpmnfhifmmfglacGreatDoorCards
import Derived.Test.YtpmnfhifmmfglacGreatDoorRows
import Derived.Test.YtpmnfhifmmfglacGreatDoorTie
import Derived.Test.YtpmnfhifmmfglacGreatDoorRestPicturesK1
import Derived.Test.YtpmnfhifmmfglacGreatDoorRestPicturesK3
set_option linter.unusedVariables false
set_option linter.unusedSimpArgs false
set_option linter.unusedSectionVars false
set_option maxRecDepth 100000
set_option maxHeartbeats 8000000
namespace Go.Proofs.YtpmnfhifmmfglacGreatDoor
section
open Go.ChangeAt Go.ChangeShapes Go.Deep Go.Joins Go.RowKit Go.WideShapes
theorem Tryz.own:ownKnob Tryz.prog.godebug=none:=by kernel_rfl
theorem Tryz.laid:laidOutB Tryz.prog=true:=by kernel_rfl
def Tv:DataW Unit→List Value
 | .lit (.int k n)=>[.int k n]
 | _=>[]
def aDW:DataW Unit→List Value
 | .agg ds=>ds.flatMap Tv
 | d=>Tv d
def cellsOf:DataW Unit→List Value
 | .agg ds=>ds.flatMap aDW
 | d=>Tv d
def wf64 (x:Int):Prop:=-9223372036854775808≤x∧x≤9223372036854775807
theorem aA4 {x:Int} (h:(Lit.int .i64 x).wf=true):wf64 x:=by
 simp [Lit.wf,IntKind.min,IntKind.max,IntKind.signed,IntKind.bits] at h
 exact h
section
variable {H:Type} {enc:TypeId × Value→H} {P:Program}
theorem O6 (hl:laidOutB P=true) {W W':World} (hb:Below W.heap.size W W'):∀{ts:List TypeId} {vs:List Value} {ds:List (DataW H)} {ps:List MemPlace},
  ts.all (fun t=>P.readableRec t&&decide (t<P.types.size))=true→DataW.TrodAll enc P W 0 (fun _=>true) true ts vs ds ps→(∀x∈ps,x.block<W.heap.size) →
  DataW.TrodAll enc P W' 0 (fun b=>decide (b<W.heap.size)) true ts vs ds ps
 | [],[],[],_,_,h,_=>h
 | t::ts,v::vs,d::ds,ps,ht,h,hp=>by
  obtain ⟨p,q,h1,h2,rfl⟩:=h;simp only [List.all_cons,Bool.and_eq_true,decide_eq_true_eq] at ht;exact ⟨p,q,Below.trod hl ht.1.1 ht.1.2 h1 hb (fun x hx=>hp x (List.mem_append_left _ hx)),O6 hl hb (by simpa using ht.2) h2 (fun x hx=>hp x (List.mem_append_right _ hx)),rfl⟩
 | [],_::_,_,_,_,h,_=>by cases h
 | [],[],_::_,_,_,h,_=>by cases h
 | _::_,[],_,_,_,h,_=>by cases h
 | _::_,_::_,[],_,_,h,_=>by cases h
theorem aA5 {f:Func} {s:ChangeSpec} {apart fresh handsOn:Bool} {W W':World} {args:Array Value} {ds:List (DataW H)} {before:List MemPlace} {tb:TypeId}
  (hl:laidOutB P=true) (hts:f.params.toList.all (fun t=>P.readableRec t&&decide (t<P.types.size))=true) (hr:f.resultTypes = #[tb]) (hb:P.underlying tb=some .bool)
  (hv:s.vars=[]) (hW:DataW.Whole enc P f.params.toList s.vars apart W args.toList ds [] before)
  (h1:(s.fn H ds).results=[.lit (.bool true)]) (h2:(s.fn H ds).args=ds) (h3:(s.fn H ds).vars=[]) (hbel:Below W.heap.size W W') :
  s.post enc P f apart fresh handsOn false W args (.bool true) W':=by
 obtain ⟨p,q,hA,hq,rfl,_,_⟩:=id hW;rw [hv] at hq;obtain ⟨_,rfl⟩:=trodVars_none hq;have hlt:∀x∈p++[],x.block<W.heap.size:=fun x hx=>hW.lt x hx
 refine ⟨ds,[],p++[],[],p,[],hW,?_,?_,?_,?_,fun h=>by cases h⟩
 ·rw [List.append_nil,h1,hr];exact trodAll_mk1 (shut_bool hb true)
 ·rw [List.append_nil,h2];exact O6 hl hbel hts hA (fun x hx=>hlt x (by simpa using hx))
 ·rw [List.append_nil,h3,hv]
  rfl
 ·exact World.keptBut_mono (fun x hx=>⟨hx,Or.inr (Or.inl (by simpa using hx))⟩) (hbel.frame (·∈p++[]))
end
theorem Le {H:Type} {d:DataW H}:∀{l:List (DataW H)},d∈l→Rows.uptoBulk d≤Rows.uptoBulkAll l
 | [],h=>by cases h
 | x::r,h=>by
  simp only [Rows.uptoBulkAll]
  rcases List.mem_cons.1 h with e | e
  ·subst e;omega
  ·have:=Le e;omega
end
section
open Go.RowKit
theorem XQ {d s:Nat} (h:d≠s):Nat.beq d s=false:=by
 cases hb:Nat.beq d s with
 | true=>exact absurd (Nat.eq_of_beq_eq_true hb) h
 | false=>rfl
def Cd:List (Nat × Value)→Nat→Option Value
 | [],_=>none
 | (i,v)::l,j=>bif Nat.beq i j then some v else Cd l j
structure Kd (D:List Deferred) (a:Act) (N:Nat) (l:List (Nat × Value)):Prop where
 defs:a.defers=D
 size:a.tmps.size=N
 get:∀s v,Cd l s=some v→a.tmps.getD s undef=v
abbrev Kn (a:Act) (N:Nat) (l:List (Nat × Value)):Prop:=Kd [] a N l
def aFP (d:Option Nat) (v:Value) (l:List (Nat × Value)):List (Nat × Value):=
 match d with
 | some d=>(d,v)::l
 | none=>l
def Pa (d:Option Nat) (N:Nat):Bool:=
 match d with
 | some d=>Nat.blt d N
 | none=>true
def kX (l:List (Nat × Value)):Operand→Option Value
 | .tmp t=>Cd l t
 | .const v=>some v
 | .global g=>some (.pointer (some ⟨g,0,none⟩))
 | .func f=>some (.func (.func f) #[] #[])
section
variable {D:List Deferred} {a:Act} {N:Nat} {l l':List (Nat × Value)} {d:Option Nat} {v:Value}
theorem Kd.put (K:Kd D a N l) (hd:Pa d N=true) (v:Value):Kd D (a.put d v) N (aFP d v l):=by
 cases d with
 | none=>exact K
 | some d=>
  have hlt:d<N:=by simpa [Pa,Nat.blt_eq] using hd
  refine ⟨K.defs,by simp [Act.put,K.size],fun s u hs=>?_⟩;simp only [aFP,Cd] at hs
  by_cases h:d=s
  ·subst h
   simp at hs
   subst hs
   simp [Act.put,K.size,hlt]
  ·have h0:=XQ h;rw [h0] at hs;have:=K.get s u hs;simp only [Act.put];rw [←this]
   simp [h]
theorem Kd.ev (K:Kd D a N l) {x:Operand} {v:Value} (h:kX l x=some v):a.eval x=v:=by
 cases x with
 | tmp t=>exact K.get t v h
 | const u=>exact Option.some.inj h
 | global g=>exact Option.some.inj h
 | func f=>exact Option.some.inj h
theorem Kd.sub (K:Kd D a N l) (h:∀s v,Cd l' s=some v→Cd l s=some v):Kd D a N l':=⟨K.defs,K.size,fun s v hs=>K.get s v (h s v hs)⟩
def Pb (l:List (Nat × Value)):List Nat→List (Nat × Value)
 | []=>[]
 | s::ss=>match Cd l s with
  | some v=>(s,v)::Pb l ss
  | none=>Pb l ss
theorem Lh (l:List (Nat × Value)):∀ss s v,Cd (Pb l ss) s=some v→Cd l s=some v
 | [],s,v,h=>by simp [Pb,Cd] at h
 | t::ss,s,v,h=>by
  unfold Pb at h
  split at h
  ·rename_i u hu
   simp only [Cd] at h
   by_cases hts:t=s
   ·subst hts;simp at h;rw [hu,h]
   ·have h0:=XQ hts;rw [h0] at h;exact Lh l ss s v h
  ·exact Lh l ss s v h
theorem Kd.pick (K:Kd D a N l) (ss:List Nat):Kd D a N (Pb l ss):=K.sub (Lh l ss)
def L1:Nat→List Value→List (Nat × Value)
 | _,[]=>[]
 | i,v::vs=>(i,v)::L1 (i+1) vs
theorem Pc:∀(vs:List Value) (i s:Nat) (v:Value),Cd (L1 i vs) s=some v→i≤s∧vs[s-i]? = some v
 | [],_,_,_,h=>by simp [L1,Cd] at h
 | u::vs,i,s,v,h=>by
  simp only [L1,Cd] at h
  by_cases his:i=s
  ·subst his;simp at h;simp [h]
  ·have h0:=XQ his;rw [h0] at h;obtain ⟨h1,h2⟩:=Pc vs (i+1) s v h;refine ⟨by omega,?_⟩;obtain ⟨m,rfl⟩:∃m,s=i+1+m:=⟨s-(i+1),by omega⟩
   rw [show i+1+m-i=m+1 by omega];rw [show i+1+m-(i+1)=m by omega] at h2
   simpa using h2
theorem Kd.start (args:Array Value) (N:Nat) (h:Nat.ble args.size N=true) :
  Kn { tmps:=args++Array.replicate (N-args.size) undef,defers:=[] } N (L1 0 args.toList):=by
 have h':args.size≤N:=by simpa using h
 refine ⟨rfl,by simp;omega,fun s v hs=>?_⟩;obtain ⟨_,h2⟩:=Pc _ _ _ _ hs;simp only [Nat.sub_zero,Array.getElem?_toList] at h2;have hlt:s<args.size:=(Array.getElem?_eq_some_iff.1 h2).1;have h3:=(Array.getElem?_eq_some_iff.1 h2).2
 simp [Array.getElem?_append,hlt,h3]
theorem aB {o:Oper} {y:Nat→Option Bool} (h:o.guard=none):Region.wanted o y=true:=by simp [Region.wanted,h]
theorem Kd.yes (K:Kd D a N l) {ops:Array Oper} {o:Oper} {j s:Nat} {b:Bool} (h:o.guard=some (j,b)) (hj:(ops[j]?).bind (·.dst)=some s) (hs:Cd l s=some (.bool b)) :
  Region.wanted o (yielded ops a.tmps)=true:=by
 have:=K.get s _ hs
 have h2:a.tmps[s]? = some (.bool b):=by
  cases hq:a.tmps[s]? with
  | none=>simp [hq,undef] at this
  | some v=>simp [hq] at this;rw [this]
 simp [Region.wanted,h,yielded,hj,h2]
theorem Kd.no (K:Kd D a N l) {ops:Array Oper} {o:Oper} {j s:Nat} {b c:Bool} (h:o.guard=some (j,b)) (hj:(ops[j]?).bind (·.dst)=some s) (hs:Cd l s=some (.bool c)) (hbc:(c==b)=false) :
  Region.wanted o (yielded ops a.tmps)=false:=by
 have:=K.get s _ hs
 have h2:a.tmps[s]? = some (.bool c):=by
  cases hq:a.tmps[s]? with
  | none=>simp [hq,undef] at this
  | some v=>simp [hq] at this;rw [this]
 simp [Region.wanted,h,yielded,hj,h2]
 cases c <;> cases b <;> simp_all
theorem Kd.nou (K:Kd D a N l) {ops:Array Oper} {o:Oper} {j s:Nat} {b:Bool} (h:o.guard=some (j,b)) (hj:(ops[j]?).bind (·.dst)=some s) (hs:Cd l s=some undef) :
  Region.wanted o (yielded ops a.tmps)=false:=by
 have:=K.get s _ hs
 simp [Region.wanted,h,yielded,hj]
 cases hq:a.tmps[s]? with
 | none=>simp
 | some v=>
  simp [hq] at this
  subst this
  simp [undef]
end
inductive pY where
 | blk (g:Nat) (t:TypeId) (cs:List Value)
 | row (e:TypeId) (s:Nat) (A:Option Addr) (n c:Nat) (xs:List Value)
 | ML (g:Nat) (t:TypeId) (A:Option Addr) (n c:Nat)
 | Ru (P:Program) (k e:TypeId) (g:Nat) (m:List (List UInt8 × Int))
 | frz (g:Nat) (cs:List Value)
 | rwm (e:TypeId) (A:Option Addr) (n c:Nat) (xs:List Value)
def SMap (P:Program) (k e:TypeId) (w:World) (g:Nat) (m:List (List UInt8 × Int)):Prop:=
 ∃D:DataW Unit,w.ownsMap P k (plainElem P e) g m.length D∧∀s:List UInt8,Maps.has D (.string s)=(Jt m s).isSome∧∀z,D.atKey (.string s) z=(match Jt m s with | some v=>.lit (.int .i64 v) | none=>z)
theorem SMap.lt {P:Program} {k e:TypeId} {w:World} {g:Nat} {m:List (List UInt8 × Int)} (h:SMap P k e w g m):g<w.heap.size:=by
 obtain ⟨D,h,_⟩:=h;exact h.lt
theorem SMap.keep {P:Program} {k e:TypeId} {w w':World} {g:Nat} {m:List (List UInt8 × Int)} (h:SMap P k e w g m) (hk:w'.heap[g]? = w.heap[g]?):SMap P k e w' g m:=by
 obtain ⟨D,⟨es,clock,hb,r⟩,h2⟩:=h;exact ⟨D,⟨es,clock,hk.trans hb,r⟩,h2⟩
def pY.holds (w:World):pY→Prop
 | .blk g t cs=>jM w g t cs.toArray
 | .row e s A n c xs=>w.ownsRow 0 e s (.slice A n c) n xs
 | .ML g t A n c=>∃p,(p=none∨p=some ⟨g,0,none⟩)∧jM w g t #[.pointer p,.slice A n c]
 | .Ru P k e g m=>SMap P k e w g m
 | .frz g cs=>∃arr t q,w.heap[g]? = some (.cells arr t q)∧∀(j:Nat) (u:Value),cs[j]? = some u→arr[j]? = some u
 | .rwm e A n c xs=>∃g cur fz,A=some ⟨g,0,none⟩∧w.heap[g]? = some (.cells cur e fz)∧(fz.2≤fz.1∨cur.size≤fz.1)∧xs.length=n∧n≤c∧c≤maxLen∧cur.size=c∧cur.toList.take n=xs
def pY.foot:pY→Option Nat
 | .blk g _ _=>some g
 | .row _ _ A _ _ _=>A.map (·.block)
 | .ML g _ _ _ _=>some g
 | .Ru _ _ _ g _=>some g
 | .frz g _=>some g
 | .rwm _ A _ _ _=>A.map (·.block)
def pY.UW:pY→Bool
 | .Ru ..=>false
 | _=>true
def aA8:Obj→Bool
 | .cells ..=>true
 | _=>false
def BJ (W w:World):Prop:=∀(k:Nat) (o:Obj),W.heap[k]? = some o→aA8 o=false→w.heap[k]? = some o
theorem BJ.refl (W:World):BJ W W:=fun _ _ h _=>h
theorem BJ.trans {A B C:World} (h:BJ A B) (k:BJ B C):BJ A C:=fun i o hi ho=>k i o (h i o hi ho) ho
theorem BJ.below {W w:World} (h:Below W.heap.size W w):BJ W w:=fun k o hk _=>(h.block k (Array.getElem?_eq_some_iff.1 hk).1).trans hk
theorem BJ.but {W w:World} {g:Option Nat} (h:∀k,k<W.heap.size→g≠some k→w.heap[k]? = W.heap[k]?) (hg:∀k o,g=some k→W.heap[k]? = some o→aA8 o=true):BJ W w:=fun k o hk ho=>by
 by_cases e:g=some k
 ·rw [hg k o e hk] at ho;cases ho
 ·exact (h k (Array.getElem?_eq_some_iff.1 hk).1 e).trans hk
structure Mem (base:Nat) (W w:World) (L:List pY):Prop where
 low:Below base W w
 UX:BJ W w
 bs:base≤W.heap.size
 has:∀(i:Nat) (e:pY),L[i]? = some e→pY.holds w e
 up:∀(i:Nat) (e:pY) (g:Nat),L[i]? = some e→e.foot=some g→base≤g
 one:∀(i j:Nat) (e e':pY) (g:Nat),L[i]? = some e→L[j]? = some e'→e.foot=some g→e'.foot=some g→i=j
section
variable {base B:Nat} {W w w':World} {L L':List pY} {e:pY} {g:Nat} {t:TypeId} {cs:List Value}
theorem pY.lt (h:pY.holds w e) (hf:pY.foot e=some g):g<w.heap.size:=by
 cases e with
 | blk g' t cs=>simp [pY.foot] at hf;subst hf;exact jM.lt h
 | row e s A n c xs=>
  cases A with
  | none=>simp [pY.foot] at hf
  | some ad=>
   simp [pY.foot] at hf
   exact (World.ownsRow.lt h g (by simp [Value.ownBlock,hf])).2
 | ML g' t A n c=>
  obtain ⟨p,_,h⟩:=h
  simp [pY.foot] at hf;subst hf;exact jM.lt h
 | Ru P k e g' m=>simp [pY.foot] at hf;subst hf;exact SMap.lt h
 | frz g' cs=>
  obtain ⟨arr,t,q,h,_⟩:=h
  simp [pY.foot] at hf;subst hf;exact lt_of_block h
 | rwm e A n c xs=>
  obtain ⟨g',cur,fz,rfl,h,_⟩:=h
  simp [pY.foot] at hf;subst hf;exact lt_of_block h
theorem pY.isC (h:pY.holds w e) (hc:e.UW=true) (hf:pY.foot e=some g) {o:Obj} (ho:w.heap[g]? = some o):aA8 o=true:=by
 cases e with
 | blk g' t cs=>
  simp [pY.foot] at hf;subst hf
  have h':w.heap[g']? = some (.cells cs.toArray t):=h;rw [h'] at ho;cases ho;rfl
 | row e s A n c xs=>
  obtain ⟨h1,h2⟩:=h
  rcases h2 with ⟨hA,_⟩ | ⟨g',cap,cur,hv,hg,hh,r⟩
  ·cases hA;simp [pY.foot] at hf
  ·injection hv with e1 _ _
   simp [pY.foot,e1] at hf
   subst hf;rw [hh] at ho;cases ho;rfl
 | ML g' t A n c=>
  obtain ⟨p,_,h⟩:=h
  simp [pY.foot] at hf;subst hf
  have h':w.heap[g']? = some (.cells #[.pointer p,.slice A n c] t):=h;rw [h'] at ho;cases ho;rfl
 | Ru P k e g' m=>cases hc
 | frz g' cs=>
  obtain ⟨arr,t,q,h,_⟩:=h
  simp [pY.foot] at hf;subst hf
  rw [h] at ho;cases ho;rfl
 | rwm e A n c xs=>
  obtain ⟨g',cur,fz,rfl,h,_⟩:=h
  simp [pY.foot] at hf;subst hf
  rw [h] at ho;cases ho;rfl
theorem pY.keep (h:pY.holds w e) (hk:∀g,e.foot=some g→w'.heap[g]? = w.heap[g]?):pY.holds w' e:=by
 cases e with
 | blk g' t cs=>exact (hk g' rfl).trans h
 | row e s A n c xs=>
  obtain ⟨h1,h2⟩:=h;refine ⟨h1,?_⟩
  rcases h2 with h2 | ⟨g',cap,cur,hv,hg,hh,r⟩
  ·exact .inl h2
  ·refine .inr ⟨g',cap,cur,hv,hg,?_,r⟩
   injection hv with e1 _ _
   rw [hk g' (by simp [pY.foot,e1])];exact hh
 | ML g' t A n c=>
  obtain ⟨p,h1,h⟩:=h;exact ⟨p,h1,(hk g' rfl).trans h⟩
 | Ru P k e g' m=>exact SMap.keep h (hk g' rfl)
 | frz g' cs=>
  obtain ⟨arr,t,q,h,h2⟩:=h;exact ⟨arr,t,q,(hk g' rfl).trans h,h2⟩
 | rwm e A n c xs=>
  obtain ⟨g',cur,fz,hA,h,r⟩:=h;exact ⟨g',cur,fz,hA,(hk g' (by simp [pY.foot,hA])).trans h,r⟩
theorem Mem.start (w:World):Mem w.heap.size w w []:=⟨Below.refl _ _,BJ.refl _,Nat.le_refl _,fun _ _ h=>by simp at h,fun _ _ _ h=>by simp at h,fun _ _ _ _ _ h=>by simp at h⟩
theorem Mem.sz (M:Mem base W w L):base≤w.heap.size:=Nat.le_trans M.bs M.low.size
theorem Mem.drew (M:Mem base W w L):Mem base W w.drew L:=⟨M.low.drew,M.UX,M.bs,fun i e h=>pY.keep (M.has i e h) fun _ _=>rfl,M.up,M.one⟩
theorem Mem.Mv (M:Mem base W w L):∀(i:Nat) (e:pY) (g:Nat),L[i]? = some e→e.foot=some g→g<w.heap.size:=fun i _ _ h hf=>pY.lt (M.has i _ h) hf
theorem Mem.far (M:Mem base W w L) (hb:Below base w w') (ho:BJ w w') (hk:∀(i:Nat) (e:pY) (g:Nat),L[i]? = some e→e.foot=some g→w'.heap[g]? = w.heap[g]?):Mem base W w' L:=
 ⟨M.low.trans hb,M.UX.trans ho,M.bs,fun i e h=>pY.keep (M.has i e h) fun g hg=>hk i e g h hg,M.up,M.one⟩
theorem Mem.below (M:Mem base W w L) (hb:Below w.heap.size w w'):Mem base W w' L:=
 M.far (hb.mono M.sz) (BJ.below hb) fun i e g h hg=>hb.block g (M.Mv i e g h hg)
theorem Mem.cons (M:Mem base W w L) (h:pY.holds w e) (hf:∀g,e.foot=some g→base≤g∧∀(i:Nat) (e':pY),L[i]? = some e'→e'.foot≠some g):Mem base W w (e::L):=by
 refine ⟨M.low,M.UX,M.bs,?_,?_,?_⟩
 ·rintro (_ | i) e' h'
  ·simp at h';subst h';exact h
  ·exact M.has i e' (by simpa using h')
 ·rintro (_ | i) e' g h' hg
  ·simp at h';subst h';exact (hf g hg).1
  ·exact M.up i e' g (by simpa using h') hg
 ·rintro (_ | i) (_ | j) e1 e2 g h1 h2 g1 g2
  ·rfl
  ·simp at h1 h2;subst h1;exact absurd g2 ((hf g g1).2 j e2 h2)
  ·simp at h1 h2;subst h2;exact absurd g1 ((hf g g2).2 i e1 h1)
  ·simp at h1 h2;rw [M.one i j e1 e2 g h1 h2 g1 g2]
theorem Mem.call (M:Mem base W w L) (M':Mem w.heap.size w w' L'):Mem base W w' (L'++L):=by
 have M1:=M.below M'.low;refine ⟨M1.low,M1.UX,M.bs,?_,?_,?_⟩
 ·intro i e h;rw [List.getElem?_append] at h
  split at h
  ·exact M'.has i e h
  ·exact M1.has _ e h
 ·intro i e g h hg;rw [List.getElem?_append] at h
  split at h
  ·have:=M'.up i e g h hg;have:=M.sz;omega
  ·exact M1.up _ e g h hg
 ·intro i j e e' g h h' hg hg';rw [List.getElem?_append] at h h'
  split at h <;> split at h'
  ·exact M'.one i j e e' g h h' hg hg'
  ·have:=M'.up i e g h hg;have:=M.Mv _ e' g h' hg';omega
  ·have:=M'.up j e' g h' hg';have:=M.Mv _ e g h hg;omega
  ·have:=M1.one _ _ e e' g h h' hg hg';omega
theorem Mem.new (M:Mem base W w L) (t:TypeId) (cs:List Value):Mem base W (w.alloc (.cells cs.toArray t)) (.blk w.heap.size t cs::L):=by
 refine (M.below ((Below.refl _ _).alloc (Nat.le_refl _) _)).cons (jM.new w t cs.toArray) fun g hg=>?_
 simp [pY.foot] at hg
 subst hg;exact ⟨M.sz,fun i e' h he=>by have:=M.Mv i e' _ h he;omega⟩
theorem Mem.tail (M:Mem base W w (e::L)):Mem base W w L:=
 ⟨M.low,M.UX,M.bs,fun i e h=>M.has (i+1) e (by simpa using h),fun i e g h=>M.up (i+1) e g (by simpa using h),fun i j e e' g h h' k k'=>by have:=M.one (i+1) (j+1) e e' g (by simpa using h) (by simpa using h') k k';omega⟩
def Li:pY:=.row 0 0 none 0 0 []
def XR (L:List pY) (is:List Nat):List pY:=is.map fun i=>L.getD i Li
theorem P5 (w:World):pY.holds w Li:=⟨by simp,.inl ⟨rfl,rfl⟩⟩
theorem Mem.pick (M:Mem base W w L) (is:List Nat) (h:is.Nodup):Mem base W w (XR L is):=by
 have key:∀(i:Nat) (e:pY),(XR L is)[i]? = some e→∃j,is[i]? = some j∧(L[j]? = some e∨(L[j]? = none∧e=Li)):=by
  intro i e he;simp only [XR,List.getElem?_map,Option.map_eq_some_iff] at he;obtain ⟨j,hj,rfl⟩:=he;refine ⟨j,hj,?_⟩
  cases hq:L[j]? <;> simp [hq]
 refine ⟨M.low,M.UX,M.bs,?_,?_,?_⟩
 ·intro i e he;obtain ⟨j,_,h | ⟨_,rfl⟩⟩:=key i e he
  ·exact M.has j e h
  ·exact P5 w
 ·intro i e g he hg;obtain ⟨j,_,h | ⟨_,rfl⟩⟩:=key i e he
  ·exact M.up j e g h hg
  ·simp [Li,pY.foot] at hg
 ·intro i i' e e' g he he' hg hg';obtain ⟨j,hj,h1 | ⟨_,rfl⟩⟩:=key i e he
  ·obtain ⟨j',hj',h2 | ⟨_,rfl⟩⟩:=key i' e' he'
   ·have:=M.one j j' e e' g h1 h2 hg hg';subst this;exact (List.getElem?_inj (List.getElem?_eq_some_iff.1 hj).1 h).1 (hj.trans hj'.symm)
   ·simp [Li,pY.foot] at hg'
  ·simp [Li,pY.foot] at hg
theorem Mem.aCX (M:Mem base W w L) (i:Nat) {e e':pY} (hi:L[i]? = some e) (hb:Below base w w') (hh:pY.holds w' e')
  (hk:∀k,k<w.heap.size→e.foot≠some k→w'.heap[k]? = w.heap[k]?) (hf:∀g,e'.foot=some g→e.foot=some g∨w.heap.size≤g) (ho:BJ W w'):Mem base W w' (L.set i e'):=by
 have hlt:i<L.length:=(List.getElem?_eq_some_iff.1 hi).1;refine ⟨M.low.trans hb,ho,M.bs,?_,?_,?_⟩
 ·intro j f h;rw [List.getElem?_set] at h
  by_cases hij:i=j
  ·rw [if_pos hij,if_pos hlt] at h;cases h;exact hh
  ·rw [if_neg hij] at h;refine pY.keep (M.has j f h) fun g hg=>hk g (M.Mv j f g h hg) fun he=>hij (M.one i j e f g hi h he hg)
 ·intro j f g h hg;rw [List.getElem?_set] at h
  by_cases hij:i=j
  ·rw [if_pos hij,if_pos hlt] at h;cases h
   rcases hf g hg with h0 | h0
   ·exact M.up i e g hi h0
   ·have:=M.sz;omega
  ·rw [if_neg hij] at h;exact M.up j f g h hg
 ·intro j k f f' g h h' hg hg';rw [List.getElem?_set] at h h'
  by_cases hij:i=j <;> by_cases hik:i=k
  ·omega
  ·rw [if_pos hij,if_pos hlt] at h;cases h;rw [if_neg hik] at h'
   rcases hf g hg with h0 | h0
   ·exact absurd (M.one i k e f' g hi h' h0 hg') hik
   ·have:=M.Mv k f' g h' hg';omega
  ·rw [if_neg hij] at h;rw [if_pos hik,if_pos hlt] at h';cases h'
   rcases hf g hg' with h0 | h0
   ·exact absurd (M.one i j e f g hi h h0 hg) hij
   ·have:=M.Mv j f g h hg;omega
  ·rw [if_neg hij] at h;rw [if_neg hik] at h';exact M.one j k f f' g h h' hg hg'
theorem Mem.turn (M:Mem base W w L) (i:Nat) {e e':pY} (hi:L[i]? = some e) (hb:Below base w w') (hh:pY.holds w' e')
  (hk:∀k,k<w.heap.size→e.foot≠some k→w'.heap[k]? = w.heap[k]?) (hf:∀g,e'.foot=some g→e.foot=some g∨w.heap.size≤g) (hc:e.UW=true:=by rfl):Mem base W w' (L.set i e'):=
 M.aCX i hi hb hh hk hf (M.UX.trans (BJ.but hk fun k o hk' ho=>pY.isC (M.has i e hi) hc hk' ho))
theorem Mem.bN (M:Mem base W w L) {i:Nat} (h:L[i]? = some (.blk g t cs)):jM w g t cs.toArray:=M.has i _ h
theorem Mem.cell (M:Mem base W w L) {i:Nat} (h:L[i]? = some (.blk g t cs)) {k:Nat} {v:Value} (hk:cs[k]? = some v):w.cell? ⟨g,k,none⟩=some v:=by
 rw [(M.bN h).cell k];simpa using hk
theorem Mem.set (M:Mem base W w L) (i:Nat) (h:L[i]? = some (.blk g t cs)) (k:Nat) (v:Value):Mem base W (w.setCell ⟨g,k,none⟩ v) (L.set i (.blk g t (cs.set k v))):=by
 have hup:=M.up i _ g h rfl;refine M.turn i h ((Below.refl _ _).setCell (by show base≤g;exact hup) v) ?_ (fun j _ hj=>?_) (fun g' hg'=>.inl hg')
 ·exact (M.bN h).BI k v (by simp)
 ·exact Below.heap_setCell w _ v j fun e=>hj (by simp [pY.foot,e])
theorem Mem.setRow (M:Mem base W w L) (i:Nat) (h:L[i]? = some (.blk g t cs)) (cs':List Value):Mem base W (w.setRow g cs'.toArray) (L.set i (.blk g t cs')):=by
 have hup:=M.up i _ g h rfl;refine M.turn i h ⟨rfl,rfl,rfl,by simp,fun k hk=>setRow_other w g k _ (by omega)⟩ ?_ (fun j _ hj=>?_) (fun g' hg'=>.inl hg')
 ·exact setRow_heap w g _ _ t (0,0) (M.bN h)
 ·exact setRow_other w g j _ fun e=>hj (by simp [pY.foot,e])
end
section
variable (P:Program)
def Fg (t:TypeId) (n:Nat):Bool:=(match P.underlying t with | some (.struct _) | some (.array _ _)=>true | _=>false)&&(P.info? t).map (·.size)==some n
def OL (t:TypeId):Bool:=(match P.underlying t with | some (.struct _) | some (.array _ _) | none=>false | _=>true)&&(P.info? t).map (·.size)==some 1
def pZ (t:TypeId):Option (List Value):=(P.info? t).bind fun i=>i.zero.map (·.cells.toList)
def Ni (t e s b:Nat):Bool:=(match P.underlying t with | some (.slice e')=>e'==e | _=>false)&&(P.info? e).map (fun i=>(i.size,i.bytes))==some (s,b)
def Ga (t:TypeId) (f:Nat):Option Nat:=match P.underlying t with
 | some (.struct fs)=>match fs[f]? with
  | some fl=>match P.info? fl.type with
   | some i=>if i.size=0 then none else some fl.offset
   | none=>none
  | none=>none
 | _=>none
end
section
variable {P:Program} {S:World→Prop} {D:List Deferred} {a:Act} {N:Nat} {l:List (Nat × Value)} {o:Oper} {x y c:Operand} {v u:Value} {t e t':TypeId} {m n:Int} {k k':IntKind} {b b':Bool}
theorem Ep {n:Nat} (h:Fg P t n=true):∃d,P.underlying t=some d∧(match d with | .struct _ | .array _ _=>true | _=>false)=true∧(P.info? t).map (·.size)=some n:=by
 simp only [Fg,Bool.and_eq_true,beq_iff_eq] at h;obtain ⟨h1,h2⟩:=h
 split at h1
 ·rename_i fs hq;exact ⟨_,hq,rfl,h2⟩
 ·rename_i p q hq;exact ⟨_,hq,rfl,h2⟩
 ·cases h1
theorem BL (h:OL P t=true) (w:World):(isAgg t).run P w = .ok false w∧(sizeOf t).run P w = .ok 1 w:=by
 simp only [OL,Bool.and_eq_true,beq_iff_eq] at h;obtain ⟨h1,h2⟩:=h;cases hq:P.underlying t with
 | none=>simp [hq] at h1
 | some d=>
  have h2':=h2;simp only [Option.map_eq_some_iff] at h2';obtain ⟨i,hi,hs⟩:=h2';refine ⟨?_,by simp [sizeOf,typeInfo,hi,hs]⟩;unfold isAgg;rw [Sem.run_bind,run_underlying hq w]
  cases d <;> simp_all
theorem p8 {s b:Nat} (h:Ni P t e s b=true):P.underlying t=some (.slice e)∧∃i,P.info? e=some i∧i.size=s∧i.bytes=b:=by
 simp only [Ni,Bool.and_eq_true,beq_iff_eq,Option.map_eq_some_iff,Prod.mk.injEq] at h;obtain ⟨h1,i,h2,h3,h4⟩:=h
 split at h1
 ·rename_i e' hq
  simp at h1;subst h1
  exact ⟨hq,i,h2,h3,h4⟩
 ·cases h1
def Rd (P:Program) (S:World→Prop) (a:Act) (o:Oper) (v:Value):Prop:=∀w,S w→(execOp a.eval o).run P w = .ok (.value v) w
theorem bX (ho:o.op = .move x) (K:Kd D a N l) (hx:kX l x=some v):Rd P S a o v:=fun w _=>by
 unfold execOp;simp only [ho,K.ev hx];rfl
theorem vU (ho:o.op = .assign x) (K:Kd D a N l) (hx:kX l x=some v):Rd P S a o v:=fun w _=>by
 unfold execOp;simp only [ho,K.ev hx];rfl
theorem iM (ho:o.op = .pick c x y) (K:Kd D a N l) (hc:kX l c=some (.bool true)) (hx:kX l x=some v):Rd P S a o v:=fun w _=>by
 unfold execOp;simp [ho,K.ev hc,K.ev hx,asBool]
theorem kG (ho:o.op = .pick c x y) (K:Kd D a N l) (hc:kX l c=some (.bool false)) (hy:kX l y=some v):Rd P S a o v:=fun w _=>by
 unfold execOp;simp [ho,K.ev hc,K.ev hy,asBool]
theorem uG {op:BinOp} (ho:o.op = .binOp op t x y t') (K:Kd D a N l) (hx:kX l x=some u) (hy:kX l y=some v) {r:Value} (h:∀w,(do eqGuard op t x y u v;binOp op t u v:Sem Value).run P w = .ok r w):Rd P S a o r:=fun w _=>by
 unfold execOp;simp only [ho,K.ev hx,K.ev hy,Sem.run_bind];have:=h w;simp only [Sem.run_bind] at this;rw [this];rfl
theorem Ad (ho:o.op = .binOp .add t x y t') (K:Kd D a N l) (hx:kX l x=some (.int k m)) (hy:kX l y=some (.int k n)):Rd P S a o (.int k (k.wrap (m+n))):=
 uG ho K hx hy fun w=>by simp [eqGuard,binOp,Op.intArith]
theorem GS (ho:o.op = .binOp .sub t x y t') (K:Kd D a N l) (hx:kX l x=some (.int k m)) (hy:kX l y=some (.int k n)):Rd P S a o (.int k (k.wrap (m-n))):=
 uG ho K hx hy fun w=>by simp [eqGuard,binOp,Op.intArith]
theorem Es (ho:o.op = .binOp .mul t x y t') (K:Kd D a N l) (hx:kX l x=some (.int k m)) (hy:kX l y=some (.int k n)):Rd P S a o (.int k (k.wrap (m*n))):=
 uG ho K hx hy fun w=>by simp [eqGuard,binOp,Op.intArith]
theorem gX (ho:o.op = .binOp .quo t x y t') (K:Kd D a N l) (hx:kX l x=some (.int k m)) (hy:kX l y=some (.int k n)) (hn:n≠0):Rd P S a o (.int k (k.wrap (m.tdiv n))):=
 uG ho K hx hy fun w=>by simp [eqGuard,binOp,Op.intDiv,hn]
theorem pX (ho:o.op = .binOp .rem t x y t') (K:Kd D a N l) (hx:kX l x=some (.int k m)) (hy:kX l y=some (.int k n)) (hn:n≠0):Rd P S a o (.int k (m.tmod n)):=
 uG ho K hx hy fun w=>by simp [eqGuard,binOp,Op.intDiv,hn]
theorem CB (ho:o.op = .binOp .lss t x y t') (K:Kd D a N l) (hx:kX l x=some (.int k m)) (hy:kX l y=some (.int k n)):Rd P S a o (.bool (decide (m<n))):=
 uG ho K hx hy fun w=>by simp [eqGuard,binOp,Op.intCmp]
theorem Nj (ho:o.op = .binOp .leq t x y t') (K:Kd D a N l) (hx:kX l x=some (.int k m)) (hy:kX l y=some (.int k n)):Rd P S a o (.bool (decide (m≤n))):=
 uG ho K hx hy fun w=>by simp [eqGuard,binOp,Op.intCmp]
theorem Lj (ho:o.op = .binOp .gtr t x y t') (K:Kd D a N l) (hx:kX l x=some (.int k m)) (hy:kX l y=some (.int k n)):Rd P S a o (.bool (decide (n<m))):=
 uG ho K hx hy fun w=>by simp [eqGuard,binOp,Op.intCmp]
theorem Nk (ho:o.op = .binOp .geq t x y t') (K:Kd D a N l) (hx:kX l x=some (.int k m)) (hy:kX l y=some (.int k n)):Rd P S a o (.bool (decide (n≤m))):=
 uG ho K hx hy fun w=>by simp [eqGuard,binOp,Op.intCmp]
theorem CC (ho:o.op = .binOp .eql t x y t') (K:Kd D a N l) (hx:kX l x=some (.int k m)) (hy:kX l y=some (.int k n)):Rd P S a o (.bool (decide (m=n))):=
 uG ho K hx hy fun w=>by simp [eqGuard,binOp,Op.intCmp];rfl
theorem Nl (ho:o.op = .binOp .neq t x y t') (K:Kd D a N l) (hx:kX l x=some (.int k m)) (hy:kX l y=some (.int k n)):Rd P S a o (.bool (!decide (m=n))):=
 uG ho K hx hy fun w=>by simp [eqGuard,binOp,Op.intCmp];rfl
theorem H5 (ho:o.op = .binOp .and t x y t') (K:Kd D a N l) (hx:kX l x=some (.int k m)) (hy:kX l y=some (.int k n)):Rd P S a o (.int k (Eg k m n)):=
 uG ho K hx hy fun w=>by simp [eqGuard,binOp,Op.intBits,Eg]
theorem XS (ho:o.op = .binOp .or t x y t') (K:Kd D a N l) (hx:kX l x=some (.int k m)) (hy:kX l y=some (.int k n)):Rd P S a o (.int k (Ty k m n)):=
 uG ho K hx hy fun w=>by simp [eqGuard,binOp,Op.intBits,Ty]
theorem aDX (ho:o.op = .binOp .xor t x y t') (K:Kd D a N l) (hx:kX l x=some (.int k m)) (hy:kX l y=some (.int k n)):Rd P S a o (.int k (P4 k m n)):=
 uG ho K hx hy fun w=>by simp [eqGuard,binOp,Op.intBits,P4]
theorem AT (ho:o.op = .binOp .shl t x y t') (K:Kd D a N l) (hx:kX l x=some (.int k m)) (hy:kX l y=some (.int k' n)) (hn:0≤n):Rd P S a o (.int k (wN k m n)):=
 uG ho K hx hy fun w=>by simp [eqGuard,binOp,Op.shift,show ¬n<0 by omega,wN]
theorem vV (ho:o.op = .binOp .shr t x y t') (K:Kd D a N l) (hx:kX l x=some (.int k m)) (hy:kX l y=some (.int k' n)) (hn:0≤n):Rd P S a o (.int k (rL k m n)):=
 uG ho K hx hy fun w=>by simp [eqGuard,binOp,Op.shift,show ¬n<0 by omega,rL]
theorem rd_not (ho:o.op = .unOp .not t x) (K:Kd D a N l) (hx:kX l x=some (.bool b)):Rd P S a o (.bool (!b)):=fun w _=>by
 unfold execOp;simp [ho,K.ev hx,Op.unary]
theorem TA (ho:o.op = .unOp .neg t x) (K:Kd D a N l) (hx:kX l x=some (.int k m)):Rd P S a o (.int k (k.wrap (0-m))):=fun w _=>by
 unfold execOp;simp [ho,K.ev hx,Op.unary,Op.intArith]
theorem J4 (ho:o.op = .convert t t' x) (hs:(P.underlying t).isSome=true) (hd:P.underlying t'=some (.int k')) (K:Kd D a N l) (hx:kX l x=some (.int k m)):Rd P S a o (.int k' (k'.wrap m)):=fun w _=>by
 obtain ⟨d,hs⟩:=Option.isSome_iff_exists.1 hs;unfold execOp;simp [ho,K.ev hx,convert,run_underlying hs,run_underlying hd,Conv.intToInt]
theorem Et {i:Nat} {vs:Array Value} (ho:o.op = .extract x i) (K:Kd D a N l) (hx:kX l x=some (.tuple vs)) (hi:vs[i]? = some v):Rd P S a o v:=fun w _=>by
 unfold execOp;simp [ho,K.ev hx,Instr.extract,hi]
theorem UY {fn:Fn} {cap:Array Operand} (ho:o.op = .makeFunc fn #[] cap) (K:Kd D a N l) {vs:List Value} (h:cap.toList.map (kX l)=vs.map some):Rd P S a o (.func fn #[] vs.toArray):=fun w _=>by
 unfold execOp
 have:cap.map a.eval=vs.toArray:=by
  apply Array.ext'
  simp only [Array.toList_map]
  have:∀(xs:List Operand) (vs:List Value),xs.map (kX l)=vs.map some→xs.map a.eval=vs:=by
   intro xs
   induction xs with
   | nil=>intro vs h;cases vs <;> simp_all
   | cons x xs ih=>
    intro vs h;cases vs with
    | nil=>simp at h
    | cons v vs=>simp only [List.map_cons,List.cons.injEq] at h ⊢;exact ⟨K.ev h.1,ih vs h.2⟩
  exact this _ _ h
 simp [ho,this,Instr.makeFunc]
theorem H6 (ho:o.op = .nilCheck x) (K:Kd D a N l) {ad:Addr} (hx:kX l x=some (.pointer (some ad))):Rd P S a o (.pointer (some ad)):=fun w _=>by
 unfold execOp;simp [ho,K.ev hx]
theorem AU (ho:o.op = .call { callee:=.builtin .len,args:=#[x],argTypes:=#[t] }) (h:∃e,P.underlying t=some (.slice e)) (K:Kd D a N l) {A:Option Addr} {n c:Nat} (hx:kX l x=some (.slice A n c)):Rd P S a o (.int .i64 n):=fun w _=>by
 obtain ⟨e,h⟩:=h;unfold execOp;simp [ho,resolve,invoke,builtin,K.ev hx,Builtin.len_,run_underlying h,goInt]
theorem aA9 (ho:o.op = .call { callee:=.builtin .len,args:=#[x],argTypes:=#[t] }) (h:P.underlying t=some .string) (K:Kd D a N l) {s:ByteArray} (hx:kX l x=some (.string s)):Rd P S a o (.int .i64 s.size):=fun w _=>by
 unfold execOp;simp [ho,resolve,invoke,builtin,K.ev hx,Builtin.len_,run_underlying h,goInt]
theorem H7 {ts:Array TypeId} (ho:o.op = .call { callee:=.builtin .max,args:=#[x,y],argTypes:=ts }) (K:Kd D a N l) (hx:kX l x=some (.int k m)) (hy:kX l y=some (.int k' n)):Rd P S a o (.int k (max m n)):=fun w _=>by
 unfold execOp;simp [ho,resolve,invoke,builtin,K.ev hx,K.ev hy,run_max_int2];omega
theorem H8 {ts:Array TypeId} (ho:o.op = .call { callee:=.builtin .min,args:=#[x,y],argTypes:=ts }) (K:Kd D a N l) (hx:kX l x=some (.int k m)) (hy:kX l y=some (.int k' n)):Rd P S a o (.int k (min m n)):=fun w _=>by
 unfold execOp;simp [ho,resolve,invoke,builtin,K.ev hx,K.ev hy,run_min_int2];omega
theorem aBa {z:Operand} {k'':IntKind} {q:Int} {ts:Array TypeId} (ho:o.op = .call { callee:=.builtin .max,args:=#[x,y,z],argTypes:=ts }) (K:Kd D a N l) (hx:kX l x=some (.int k m)) (hy:kX l y=some (.int k' n)) (hz:kX l z=some (.int k'' q)):Rd P S a o (.int k (max (max m n) q)):=fun w _=>by
 unfold execOp;simp [ho,resolve,invoke,builtin,K.ev hx,K.ev hy,K.ev hz,run_max_int3];omega
theorem aBb {z:Operand} {k'':IntKind} {q:Int} {ts:Array TypeId} (ho:o.op = .call { callee:=.builtin .min,args:=#[x,y,z],argTypes:=ts }) (K:Kd D a N l) (hx:kX l x=some (.int k m)) (hy:kX l y=some (.int k' n)) (hz:kX l z=some (.int k'' q)):Rd P S a o (.int k (min (min m n) q)):=fun w _=>by
 unfold execOp;simp [ho,resolve,invoke,builtin,K.ev hx,K.ev hy,K.ev hz,run_min_int3];omega
theorem cP {f off:Nat} {ad:Addr} (ho:o.op = .fieldAddr t x f) (ht:Ga P t f=some off) (K:Kd D a N l) (hx:kX l x=some (.pointer (some ad))):Rd P S a o (.pointer (some (ad.add off))):=fun w _=>by
 unfold Ga at ht
 split at ht
 ·rename_i fs hu
  split at ht
  ·rename_i fl hf
   split at ht
   ·rename_i i hi
    split at ht
    ·cases ht
    ·rename_i hs
     cases ht;unfold execOp
     simp [ho,K.ev hx,Instr.fieldAt,run_underlying hu,hf,Instr.sureAddr,fieldPlace,sizeOf,typeInfo,hi,hs]
   ·cases ht
  ·cases ht
 ·cases ht
end
structure yB (α:Type) where
 enc:α→List Value
 size:Nat
 len:∀x,(enc x).length=size
 one:∀x,∀u∈enc x,u.oneCell'=true
 pos:0<size
def yB.all {α:Type} (C:yB α) (xs:List α):List Value:=xs.flatMap C.enc
section
variable {α:Type} {C:yB α} {w w' W:World} {A:Option Addr} {xs ys:List α}
theorem yB.AM (C:yB α):∀xs:List α,(C.all xs).length=xs.length*C.size
 | []=>by simp [yB.all]
 | x::xs=>by
  have:=yB.AM C xs;simp only [yB.all,List.flatMap_cons,List.length_append,C.len,List.length_cons,Nat.add_mul,Nat.one_mul] at this ⊢
  omega
theorem yB.BM (C:yB α):∀(xs:List α) (i j:Nat) (x:α) (u:Value),xs[i]? = some x→(C.enc x)[j]? = some u→(C.all xs)[i*C.size+j]? = some u
 | [],i,j,x,u,h,_=>by simp at h
 | y::xs,0,j,x,u,h,hu=>by
  simp at h;subst h
  have hj:j<(C.enc y).length:=(List.getElem?_eq_some_iff.1 hu).1;simp only [yB.all,List.flatMap_cons,Nat.zero_mul,Nat.zero_add];rw [List.getElem?_append_left hj];exact hu
 | y::xs,i+1,j,x,u,h,hu=>by
  have:=yB.BM C xs i j x u (by simpa using h) hu;simp only [yB.all,List.flatMap_cons] at this ⊢;rw [List.getElem?_append_right (by rw [C.len,Nat.add_mul];omega),C.len];rw [show (i+1)*C.size+j-C.size=i*C.size+j by rw [Nat.add_mul];omega];exact this
theorem yB.MM (C:yB α):∀(xs:List α) (k:Nat) (u:Value),(C.all xs)[k]? = some u→∃i j x,k=i*C.size+j∧xs[i]? = some x∧(C.enc x)[j]? = some u
 | [],k,u,h=>by simp [yB.all] at h
 | y::xs,k,u,h=>by
  simp only [yB.all,List.flatMap_cons,List.getElem?_append] at h
  split at h
  ·exact ⟨0,k,y,by simp,by simp,h⟩
  ·rename_i hk
   rw [C.len] at h hk;obtain ⟨i,j,x,h1,h2,h3⟩:=yB.MM C xs (k-C.size) u h;exact ⟨i+1,j,x,by rw [Nat.add_mul];omega,by simpa using h2,h3⟩
theorem yB.aBd (C:yB α) (xs:List α):∀u∈C.all xs,u.oneCell'=true:=fun u hu=>by
 obtain ⟨x,_,h⟩:=List.mem_flatMap.1 hu;exact C.one x u h
theorem yB.all_append (C:yB α) (xs ys:List α):C.all (xs++ys)=C.all xs++C.all ys:=by simp [yB.all]
theorem yB.aBe (C:yB α) (x:α):∀(xs:List α) (i:Nat) (ws:List Value),i<xs.length→ws.length=xs.length*C.size →
  (∀j,ws[j]? = if i*C.size≤j∧j<i*C.size+C.size then (C.enc x)[j-i*C.size]? else (C.all xs)[j]?)→ws=C.all (xs.set i x):=by
 intro xs i ws hi hl h
 apply List.ext_getElem?
 intro k;have hL:(C.all (xs.set i x)).length=xs.length*C.size:=by rw [yB.AM];simp
 rw [h k]
 by_cases hk:k<xs.length*C.size
 ·have hk2:k<(C.all (xs.set i x)).length:=by omega
  obtain ⟨u,hu⟩:∃u,(C.all (xs.set i x))[k]? = some u:=⟨_,List.getElem?_eq_getElem hk2⟩
  obtain ⟨i',j,y,rfl,hy,hu'⟩:=yB.MM C _ k u hu;have hj:j<C.size:=by have:=(List.getElem?_eq_some_iff.1 hu').1;rw [C.len] at this;exact this
  rw [hu];rw [List.getElem?_set] at hy
  by_cases hii:i=i'
  ·subst hii;rw [if_pos rfl,if_pos hi] at hy;cases hy;rw [if_pos ⟨by omega,by omega⟩,show i*C.size+j-i*C.size=j by omega];exact hu'
  ·rw [if_neg hii] at hy
   have hno:¬(i*C.size≤i'*C.size+j∧i'*C.size+j<i*C.size+C.size):=by
    rintro ⟨h1,h2⟩
    rcases Nat.lt_or_gt_of_ne hii with hlt | hlt
    ·have:=Nat.mul_le_mul_right C.size (show i+1≤i' from hlt);rw [Nat.add_mul] at this;omega
    ·have:=Nat.mul_le_mul_right C.size (show i'+1≤i from hlt);rw [Nat.add_mul] at this;omega
   rw [if_neg hno];exact yB.BM C xs i' j y u hy hu'
 ·rw [List.getElem?_eq_none (show (C.all (xs.set i x)).length≤k by omega)];have hb:=Nat.mul_le_mul_right C.size (show i+1≤xs.length from hi);rw [Nat.add_mul] at hb;rw [if_neg (by omega),List.getElem?_eq_none (by rw [yB.AM];omega)]
def SL (w:World) (C:yB α) (A:Option Addr) (xs:List α):Prop:=
 0<xs.length→∃b o,A=some ⟨b,o,none⟩∧∀j u,(C.all xs)[j]? = some u→w.cell? ⟨b,o+j,none⟩=some u
def Xs (A:Option Addr):Addr:=A.getD ⟨0,0,none⟩
theorem SL.lt (h:SL w C A xs) (hn:0<xs.length):∃b o,A=some ⟨b,o,none⟩∧b<w.heap.size∧∀j u,(C.all xs)[j]? = some u→w.cell? ⟨b,o+j,none⟩=some u:=by
 obtain ⟨b,o,hA,hc⟩:=h hn;refine ⟨b,o,hA,?_,hc⟩;have h0:0<(C.all xs).length:=by rw [yB.AM];exact Nat.mul_pos hn C.pos
 exact block_lt_of_cell (hc 0 _ (List.getElem?_eq_getElem h0))
theorem SL.below (h:SL w C A xs) (hb:Below w.heap.size w w'):SL w' C A xs:=fun hn=>by
 obtain ⟨b,o,hA,hlt,hc⟩:=h.lt hn;exact ⟨b,o,hA,fun j u hu=>(hb.cell (p:=⟨b,o+j,none⟩) hlt).trans (hc j u hu)⟩
theorem SL.nil:SL w C A []:=fun h=>absurd h (by simp)
theorem SL.el (h:SL w C A xs) {i:Nat} {x:α} (hx:xs[i]? = some x) {j:Nat} {u:Value} (hu:(C.enc x)[j]? = some u) :
  ∃b o,A=some ⟨b,o,none⟩∧w.cell? ⟨b,o+(i*C.size+j),none⟩=some u:=by
 have hi:i<xs.length:=(List.getElem?_eq_some_iff.1 hx).1;obtain ⟨b,o,hA,hc⟩:=h (by omega);exact ⟨b,o,hA,hc _ _ (yB.BM C xs i j x u hx hu)⟩
theorem SL.sub (h:SL w C A xs) (c lo hi:Nat) (h1:lo≤hi) (h2:hi≤xs.length) (h3:xs.length≤c):SL w C (if c=lo then A else A.map (·.add (lo*C.size))) ((xs.take hi).drop lo):=fun hn=>by
 simp at hn
 obtain ⟨b,o,hA,hc⟩:=h (by omega);rw [if_neg (by omega)];refine ⟨b,o+lo*C.size,?_,fun j u hu=>?_⟩
 ·rw [hA];simp only [Option.map_some,Addr.add];split <;> simp_all
 ·obtain ⟨i,j',x,rfl,hx,hu'⟩:=yB.MM C _ j u hu;rw [List.getElem?_drop,List.getElem?_take] at hx
  split at hx
  ·have:=hc _ _ (yB.BM C xs (lo+i) j' x u hx hu');rw [Nat.add_mul] at this;rw [show o+lo*C.size+(i*C.size+j')=o+(lo*C.size+i*C.size+j') by omega];exact this
  ·cases hx
end
section
variable {P:Program} {base:Nat} {W w:World} {L:List pY} {S:World→Prop} {D:List Deferred} {a:Act} {N:Nat} {l:List (Nat × Value)} {o:Oper} {x y ix:Operand} {v u:Value} {t e t':TypeId} {m n:Int} {k k':IntKind}
  {g off:Nat} {cs ds:List Value} {α:Type} {C:yB α} {A:Option Addr} {c:Nat} {xs ys:List α}
theorem sD (i:Nat) (h:L[i]? = some (.blk g t cs)):∀w,Mem base W w L→jM w g t cs.toArray:=fun _ M=>M.bN h
theorem Du (h:jM W g t cs.toArray):∀w,Mem W.heap.size W w L→jM w g t cs.toArray:=fun _ M=>h.below M.low h.lt
theorem bE (h:SL W C A xs):∀w,Mem W.heap.size W w L→SL w C A xs:=fun _ M=>h.below M.low
theorem aFQ {s n:Nat} (h:pY.holds w (.row e s A n c (C.all xs))) (hs:s=C.size):SL w C A xs:=fun hn=>by
 subst hs;have hlen:=h.1;rw [yB.AM] at hlen;have hnn:n=xs.length:=(Nat.eq_of_mul_eq_mul_right C.pos hlen).symm
 rcases h.2 with ⟨hv,h0⟩ | ⟨g,cap,cur,hv,hg,hh,hnc,_,hsz,htk⟩
 ·omega
 ·injection hv with e1 _ _
  refine ⟨g,0,e1,fun j u hu=>?_⟩;rw [Nat.zero_add,cell_of_row w g j cur e (0,0) hh];rw [←htk,List.getElem?_take] at hu
  split at hu
  ·simpa using hu
  ·cases hu
theorem hF (i:Nat) {s n:Nat} (h:L[i]? = some (.row e s A n c (C.all xs))) (hs:s=C.size):∀w,Mem base W w L→SL w C A xs:=fun _ M=>aFQ (M.has i _ h) hs
theorem Eu {n:Nat} (ho:o.op = .load t x) (ht:Fg P t n=true) (K:Kd D a N l) (hx:kX l x=some (.pointer (some ⟨g,off,none⟩))) (hb:∀w,S w→jM w g t' cs.toArray) (hs:(cs.drop off).take n=ds) (hn:ds.length=n) :
  Rd P S a o (.agg ds.toArray):=fun w hS=>by
 obtain ⟨d,hu,hd,hi⟩:=Ep ht;have hB:=hb w hS;subst hs
 have hl:(loadCells ⟨g,off,none⟩ ((cs.drop off).take n).length).run P w = .ok ((cs.drop off).take n).toArray w:=
  run_loadCells_list (P:=P) w ⟨g,off,none⟩ ((cs.drop off).take n) (fun j v hv=>by
   have hadd:(⟨g,off,none⟩:Addr).add j=⟨g,off+j,none⟩:=by unfold Addr.add;split <;> simp_all
   rw [hadd,hB.cell];rw [List.getElem?_take] at hv
   split at hv
   ·simpa using hv
   ·cases hv)
 rw [hn] at hl
 have hagg:(isAgg t).run P w = .ok true w:=by
  unfold isAgg;rw [Sem.run_bind,run_underlying hu w]
  cases d <;> simp_all
 simp only [Option.map_eq_some_iff] at hi;obtain ⟨i,hi,hsz⟩:=hi;unfold execOp
 simp [ho,K.ev hx,Instr.loadAt,Instr.sureAddr,loadVar,Sem.run_bind,hagg,sizeOf,typeInfo,hi,hsz,hl]
theorem gY (ho:o.op = .load t x) (ht:OL P t=true) (K:Kd D a N l) (hx:kX l x=some (.pointer (some ⟨g,off,none⟩))) (hb:∀w,S w→jM w g t' cs.toArray) (hv:cs[off]? = some v):Rd P S a o v:=fun w hS=>by
 have hc:w.cell? ⟨g,off,none⟩=some v:=by rw [(hb w hS).cell];simpa using hv
 unfold execOp
 simp [ho,K.ev hx,Instr.loadAt,Instr.sureAddr,loadVar,Sem.run_bind,(BL ht w).1,run_load,hc]
theorem aDY (ho:o.op = .load t x) (ht:OL P t=true) (K:Kd D a N l) {q:Nat} (hx:kX l x=some (.pointer (some ((⟨g,off,none⟩:Addr).add (n.toNat*q))))) (hb:∀w,S w→jM w g t' cs.toArray) (hq:q=1) (hv:idx (cs.drop off) n=some v):Rd P S a o v:=fun w hS=>by
 subst hq;obtain ⟨_,_,h3⟩:=Ao hv;rw [List.getElem?_drop] at h3
 have hadd:(⟨g,off,none⟩:Addr).add n.toNat=⟨g,off+n.toNat,none⟩:=by unfold Addr.add;split <;> simp_all
 have hc:w.cell? ⟨g,off+n.toNat,none⟩=some v:=by rw [(hb w hS).cell];simpa using h3
 unfold execOp
 simp [ho,K.ev hx,hadd,Instr.loadAt,Instr.sureAddr,loadVar,Sem.run_bind,(BL ht w).1,run_load,hc]
theorem MN {b o':Nat} (hA:A=some ⟨b,o',none⟩) (j:Nat):(Xs A).add j=⟨b,o'+j,none⟩:=by
 subst hA;unfold Xs Addr.add;split <;> simp_all
theorem XT {b o':Nat} (hA:A=some ⟨b,o',none⟩) (i j:Nat):((Xs A).add i).add j=⟨b,o'+(i+j),none⟩:=by
 rw [MN hA];unfold Addr.add;split <;> simp_all <;> omega
theorem mL {el:α} {q s:Nat} (ho:o.op = .load t x) (ht:Fg P t s=true) (K:Kd D a N l) (hx:kX l x=some (.pointer (some ((Xs A).add (n.toNat*q))))) (hs:s=C.size) (hq:q=C.size) (hb:∀w,S w→SL w C A xs) (hi:idx xs n=some el):Rd P S a o (.agg (C.enc el).toArray):=fun w hS=>by
 subst hq hs;obtain ⟨d,hu,hd,hsz⟩:=Ep ht;obtain ⟨h0,hlt,hel⟩:=Ao hi;obtain ⟨b,o',hA,hc⟩:=hb w hS (by omega)
 have hl:(loadCells ⟨b,o'+n.toNat*C.size,none⟩ (C.enc el).length).run P w = .ok (C.enc el).toArray w:=
  run_loadCells_list (P:=P) w ⟨b,o'+n.toNat*C.size,none⟩ (C.enc el) (fun j v hv=>by
   have hadd:(⟨b,o'+n.toNat*C.size,none⟩:Addr).add j=⟨b,o'+n.toNat*C.size+j,none⟩:=by unfold Addr.add;split <;> simp_all
   rw [hadd,Nat.add_assoc]
   exact hc _ _ (yB.BM C xs _ j el v hel hv))
 rw [C.len] at hl
 have hagg:(isAgg t).run P w = .ok true w:=by
  unfold isAgg;rw [Sem.run_bind,run_underlying hu w]
  cases d <;> simp_all
 simp only [Option.map_eq_some_iff] at hsz;obtain ⟨i,hi',hsz⟩:=hsz;unfold execOp
 simp [ho,K.ev hx,MN hA,Instr.loadAt,Instr.sureAddr,loadVar,Sem.run_bind,hagg,sizeOf,typeInfo,hi',hsz,hl]
theorem fM {el:α} {q:Nat} (ho:o.op = .load t x) (ht:OL P t=true) (K:Kd D a N l) (hx:kX l x=some (.pointer (some ((Xs A).add (n.toNat*q))))) (hq:q=C.size) (hb:∀w,S w→SL w C A xs) (hi:idx xs n=some el) (hu:(C.enc el)[0]? = some u):Rd P S a o u:=fun w hS=>by
 subst hq;obtain ⟨h0,hlt,hel⟩:=Ao hi;obtain ⟨b,o',hA,hc⟩:=(hb w hS).el hel hu;unfold execOp;simp only [Nat.add_zero] at hc
 simp [ho,K.ev hx,MN hA,Instr.loadAt,Instr.sureAddr,loadVar,Sem.run_bind,(BL ht w).1,run_load,hc]
theorem sQ {el:α} {q f:Nat} (ho:o.op = .load t x) (ht:OL P t=true) (K:Kd D a N l) (hx:kX l x=some (.pointer (some (((Xs A).add (n.toNat*q)).add f)))) (hq:q=C.size) (hb:∀w,S w→SL w C A xs) (hi:idx xs n=some el) (hu:(C.enc el)[f]? = some u):Rd P S a o u:=fun w hS=>by
 subst hq;obtain ⟨h0,hlt,hel⟩:=Ao hi;obtain ⟨b,o',hA,hc⟩:=(hb w hS).el hel hu;unfold execOp
 simp [ho,K.ev hx,XT hA,Instr.loadAt,Instr.sureAddr,loadVar,Sem.run_bind,(BL ht w).1,run_load,hc]
theorem fP {el:α} {b s:Nat} (ho:o.op = .indexAddr t x ix) (ht:Ni P t e s b=true) (K:Kd D a N l) (hx:kX l x=some (.slice A xs.length c)) (hi:kX l ix=some (.int k n)) (hb:∀w,S w→SL w C A xs) (he:idx xs n=some el):Rd P S a o (.pointer (some ((Xs A).add (n.toNat*s)))):=fun w hS=>by
 obtain ⟨hu,i,wJ,hs,_⟩:=p8 ht;obtain ⟨h0,hlt,hel⟩:=Ao he;obtain ⟨b',o',hA,hc⟩:=hb w hS (by omega);have h1:n<xs.length:=by omega
 unfold execOp;subst hA
 simp [ho,K.ev hx,K.ev hi,Instr.indexAt,asIntOf,run_underlying hu,sizeOf,typeInfo,wJ,hs,h0,h1,Xs]
theorem dL {len s:Nat} (ho:o.op = .indexAddr t x ix) (ht:P.underlying t=some (.array len e)) (hsz:(P.info? e).map (·.size)=some s) (K:Kd D a N l) {ad:Addr} (hx:kX l x=some (.pointer (some ad))) (hi:kX l ix=some (.int k n)) (h0:0≤n) (h1:n<len):Rd P S a o (.pointer (some (ad.add (n.toNat*s)))):=fun w hS=>by
 simp only [Option.map_eq_some_iff] at hsz;obtain ⟨i,wJ,hs⟩:=hsz;unfold execOp
 simp [ho,K.ev hx,K.ev hi,Instr.indexAt,Instr.sureAddr,asIntOf,run_underlying ht,sizeOf,typeInfo,wJ,hs,h0,h1]
theorem aDZ {s:ByteArray} (ho:o.op = .index t x ix) (ht:P.underlying t=some .string) (K:Kd D a N l) (hx:kX l x=some (.string s)) (hi:kX l ix=some (.int k n)) {b:UInt8} (he:idx s.data.toList n=some b):Rd P S a o (.int .u8 b.toNat):=fun w hS=>by
 obtain ⟨h0,hlt,hel⟩:=Ao he;have hlt':n.toNat<s.size:=by simpa using hlt
 have hb:s[n.toNat]=b:=by
  have:=(List.getElem?_eq_some_iff.1 hel).2
  simp at this;exact this
 unfold execOp
 simp [ho,K.ev hx,K.ev hi,Instr.index,asIntOf,run_underlying ht,h0,hlt',hb]
theorem bG {parts:Array (Nat × Operand)} {vs:List (Nat × Value)} (ho:o.op = .build t parts) (K:Kd D a N l) (hp:parts.toList.map (fun p=>(kX l p.2).map (fun v=>(p.1,v)))=vs.map some) (hb:P.built t vs=some cs.toArray):Rd P S a o (.agg cs.toArray):=fun w _=>by
 have hE:(parts.map fun (i,x)=>(i,a.eval x)).toList=vs:=by
  simp only [Array.toList_map]
  have:∀(ps:List (Nat × Operand)) (vs:List (Nat × Value)),ps.map (fun p=>(kX l p.2).map (fun v=>(p.1,v)))=vs.map some→ps.map (fun p=>(p.1,a.eval p.2))=vs:=by
   intro ps
   induction ps with
   | nil=>intro vs h;cases vs <;> simp_all
   | cons p ps ih=>
    intro vs h;cases vs with
    | nil=>simp at h
    | cons v vs=>
     simp only [List.map_cons,List.cons.injEq] at h ⊢;refine ⟨?_,ih vs h.2⟩;obtain ⟨u,hu,hv⟩:=Option.map_eq_some_iff.1 h.1;rw [K.ev hu,hv]
  exact this _ _ hp
 have hr:=run_build (P:=P) w t (parts.map fun (i,x)=>(i,a.eval x)) cs.toArray (by rw [hE];exact hb);unfold execOp;simp only [ho,Sem.run_bind,hr];rfl
def Rv (A:Option Addr) (c:Nat) (p:Int) (s:Nat):Option Addr:=if c=p.toNat then A else A.map (·.add (p.toNat*s))
theorem BN {p q:Int} (h:Tz xs p q=some ys) (hc:xs.length≤c) (w:World) (R:SL w C A xs):SL w C (Rv A c p C.size) ys:=by
 obtain ⟨h0,h1,h2,rfl⟩:=Nh h;exact R.sub c p.toNat q.toNat (by omega) (by omega) hc
theorem yC {p q:Int} (h:Tz xs p q=some ys) (hc:xs.length≤c):ys.length≤c-p.toNat:=by
 obtain ⟨h0,h1,h2,rfl⟩:=Nh h
 simp;omega
theorem Ap {b s:Nat} {lo hi:Option Operand} {p q:Int} (ho:o.op = .slice t x lo hi none) (ht:Ni P t e s b=true) (hs:s=C.size) (K:Kd D a N l) (hx:kX l x=some (.slice A xs.length c)) (hc:xs.length≤c)
  (hlo:(match lo with | some z=>kX l z=some (.int k p) | none=>p=0)) (hhi:(match hi with | some z=>kX l z=some (.int k' q) | none=>q=xs.length)) (hy:Tz xs p q=some ys) :
  Rd P S a o (.slice (Rv A c p C.size) ys.length (c-p.toNat)):=fun w _=>by
 obtain ⟨h0,h1,h2,rfl⟩:=Nh hy;obtain ⟨hu,i,wJ,hsz,_⟩:=p8 ht;subst hs;have hlen:((xs.take q.toNat).drop p.toNat).length=q.toNat-p.toNat:=by simp;omega
 rw [hlen];have hqc:q≤c:=by omega
 have h0q:0≤q:=by omega
 unfold execOp Rv;cases lo with
 | none=>
  simp only at hlo;subst hlo;cases hi with
  | none=>
   simp only at hhi;subst hhi
   simp [ho,K.ev hx,Instr.sliceAt,Instr.slice,Instr.sliceBounds,run_underlying hu,sizeOf,typeInfo,wJ]
  | some z=>
   simp only at hhi
   simp [ho,K.ev hx,K.ev hhi,Instr.sliceAt,Instr.slice,Instr.sliceBounds,Instr.sliceBound,asIntOf,run_underlying hu,sizeOf,typeInfo,wJ,h0q,hqc]
 | some z'=>
  simp only at hlo;cases hi with
  | none=>
   simp only at hhi;subst hhi
   simp [ho,K.ev hx,K.ev hlo,Instr.sliceAt,Instr.slice,Instr.sliceBounds,Instr.sliceBound,asIntOf,run_underlying hu,sizeOf,typeInfo,wJ,hsz,h0,h1]
  | some z=>
   simp only at hhi
   simp [ho,K.ev hx,K.ev hlo,K.ev hhi,Instr.sliceAt,Instr.slice,Instr.sliceBounds,Instr.sliceBound,asIntOf,run_underlying hu,sizeOf,typeInfo,wJ,hsz,h0,h0q,hqc]
   intro hcon
   omega
end
section
variable {P:Program} {base:Nat} {W w:World} {L:List pY} {S:World→Prop} {D:List Deferred} {a:Act} {N:Nat} {l:List (Nat × Value)} {o:Oper} {x y ix:Operand} {v u:Value} {t e t':TypeId} {m n:Int} {k k':IntKind}
  {g off:Nat} {cs ds:List Value} {α:Type} {C:yB α} {A:Option Addr} {c:Nat} {xs ys zs:List α} {post:Value→World→Prop}
def Ac (P:Program) (o:Oper) (a:Act) (w:World) (post:Value→World→Prop):Prop:=
 ∀(K:Act→World→Prop) (Q:Exit→Act→World→Prop),(∀v w',post v w'→K (a.put o.dst v) w')→o.wp P a w K Q
theorem Dv {w':World} (h:(execOp a.eval o).run P w = .ok (.value v) w') (hp:post v w'):Ac P o a w post:=fun K Q hK=>by
 unfold Oper.wp;rw [h];exact hK _ _ hp
theorem MO {w':World} (h:(execOp a.eval o).run P w = .ok .skip w') (hp:post undef w'):Ac P o a w post:=fun K Q hK=>by
 unfold Oper.wp;rw [h];exact hK _ _ hp
theorem Ju (ho:o.op = .box t x) (K:Kd D a N l) (hx:kX l x=some v) (hc:v.cells=cs.toArray) (M:Mem base W w L) :
  Ac P o a w fun v w'=>∃g,v = .pointer (some ⟨g,0,none⟩)∧Mem base W w' (.blk g t cs::L):=by
 refine Dv (v:=.pointer (some ⟨w.heap.size,0,none⟩)) (w':=w.alloc (.cells cs.toArray t)) ?_ ⟨_,rfl,M.new t cs⟩;unfold execOp
 simp [ho,K.ev hx,Instr.box,newVar,newRow,hc]
theorem eK (ho:o.op = .alloc t) (hz:pZ P t=some cs) (M:Mem base W w L) :
  Ac P o a w fun v w'=>∃g,v = .pointer (some ⟨g,0,none⟩)∧Mem base W w' (.blk g t cs::L):=by
 refine Dv (v:=.pointer (some ⟨w.heap.size,0,none⟩)) (w':=w.alloc (.cells cs.toArray t)) ?_ ⟨_,rfl,M.new t cs⟩;simp only [pZ,Option.bind_eq_some_iff,Option.map_eq_some_iff] at hz;obtain ⟨i,hi,z,hz,hcs⟩:=hz;have hc:z.cells=cs.toArray:=by rw [←hcs]
 unfold execOp
 simp [ho,Instr.alloc,zeroValue,typeInfo,hi,hz,newVar,newRow,hc]
theorem dK {b s len:Nat} {parts:Array (Nat × Operand)} {vs:List (Nat × Value)} (ho:o.op = .buildSlice t len parts) (ht:Ni P t e s b=true) (hz:pZ P e=some ds) (K:Kd D a N l)
    (hp:parts.toList.map (fun p=>(kX l p.2).map (fun v=>(p.1,v)))=vs.map some) (hf:Instr.fill (fun i=>some (i*s,s)) ((Array.range (len*s)).map (ds.toArray[· % ds.toArray.size]!)) vs=some cs.toArray) (hl:Nat.ble (len*s) 1000=true) (hpos:Nat.blt 0 (len*s)=true) (M:Mem base W w L) :
    Ac P o a w fun v w'=>∃g,v = .slice (some ⟨g,0,none⟩) len len∧Mem base W w' (.blk g e cs::L):=by
  refine Dv (v:=.slice (some ⟨w.heap.size,0,none⟩) len len) (w':=w.alloc (.cells cs.toArray e)) ?_ ⟨_,rfl,M.new e cs⟩
  obtain ⟨hu,i,wJ,hsz,_⟩:=p8 ht
  simp only [pZ,Option.bind_eq_some_iff,Option.map_eq_some_iff] at hz
  obtain ⟨i',hi',z,hz,hcs⟩:=hz
  obtain rfl:i=i':=Option.some.inj (wJ.symm.trans hi')
  have hc:z.cells=ds.toArray:=by rw [←hcs]
  have hE:(parts.map fun (i,x)=>(i,a.eval x)).toList=vs:=by
    simp only [Array.toList_map]
    have:∀(ps:List (Nat × Operand)) (vs:List (Nat × Value)),ps.map (fun p=>(kX l p.2).map (fun v=>(p.1,v)))=vs.map some→ps.map (fun p=>(p.1,a.eval p.2))=vs:=by
      intro ps
      induction ps with
      | nil=>intro vs h;cases vs <;> simp_all
      | cons p ps ih=>
        intro vs h
        cases vs with
        | nil=>simp at h
        | cons v vs=>
          simp only [List.map_cons,List.cons.injEq] at h ⊢
          refine ⟨?_,ih vs h.2⟩
          obtain ⟨u,hu,hv⟩:=Option.map_eq_some_iff.1 h.1
          rw [K.ev hu,hv]
    exact this _ _ hp
  have hl':¬16777216<len*s:=by have:=Nat.le_of_ble_eq_true hl;omega
  have hpos':¬len*s=0:=by have:0<len*s:=by simpa [Nat.blt_eq] using hpos
                          omega
  have hl'':¬(len*s>2^24):=by omega
  unfold execOp
  simp only [ho,Instr.buildSlice,Sem.run_bind,run_underlying hu,Result.andThen_ok,sizeOf,typeInfo,run_program,wJ,hsz,hE,if_neg hl'',if_neg hpos',zeroValue,hz,hc,hf,newRow,Sem.run_pure,run_newObj_alloc]
theorem bM (ho:o.op = .store t x y) (ht:OL P t=true) (K:Kd D a N l) (hx:kX l x=some (.pointer (some ⟨g,off,none⟩))) (hy:kX l y=some v) (h1:v.oneCell'=true) (i:Nat) (M:Mem base W w L) (hi:L[i]? = some (.blk g t' cs)) (hlt:Nat.blt off cs.length=true) :
  Ac P o a w fun _ w'=>Mem base W w' (L.set i (.blk g t' (cs.set off v))):=by
 refine MO (w':=w.setCell ⟨g,off,none⟩ v) ?_ (M.set i hi off v);have hlt':off<cs.length:=by simpa [Nat.blt_eq] using hlt
 have hc:w.cell? ⟨g,off,none⟩=some cs[off]:=M.cell hi (List.getElem?_eq_getElem hlt');have hfz:w.frozen? ⟨g,off,none⟩=false:=(M.bN hi).frozen off
 have hcell:v.cells = #[v]:=by cases v <;> first | rfl | (simp [Value.oneCell'] at h1)
 unfold execOp;have hst:=run_store P w ⟨g,off,none⟩ v .plain h1
 simp [ho,K.ev hx,K.ev hy,Instr.storeAt,Instr.sureAddr,storeVar,Sem.run_bind,(BL ht w).2,hcell,storeCells,Addr.add,hst,hc,hfz]
theorem bF {n:Nat} (ho:o.op = .store t x y) (ht:Fg P t n=true) (K:Kd D a N l) (hx:kX l x=some (.pointer (some ⟨g,0,none⟩))) (hy:kX l y=some (.agg ds.toArray)) (h1:ds.all (·.oneCell')=true) (i:Nat) (M:Mem base W w L) (hi:L[i]? = some (.blk g t' cs)) (hn:ds.length=n) (hl:cs.length=n) :
  Ac P o a w fun _ w'=>Mem base W w' (L.set i (.blk g t' ds)):=by
 refine MO (w':=w.setRow g ds.toArray) ?_ (M.setRow i hi ds);obtain ⟨d,_,_,hsz⟩:=Ep ht;have hr:=run_storeVar_row (P:=P) w g t' t cs.toArray ds.toArray (M.bN hi) (by simpa [hn] using hsz) (by simp [hn,hl]) (by simpa using h1);unfold execOp
 simp [ho,K.ev hx,K.ev hy,Instr.storeAt,Instr.sureAddr,hr]
theorem Mem.grown {n c' s:Nat} {vs:List Value} (M:Mem base W w L) (i:Nat) (hi:L[i]? = some (.row e s A n c vs)) {w':World} (hg:w.grownBy w' (A.map (·.block))) {g n':Nat} {vs':List Value}
  (ho:w'.ownsRow 0 e s (.slice (some ⟨g,0,none⟩) n' c') n' vs') (hw:A.map (·.block)=some g∨w.heap.size≤g):Mem base W w' (L.set i (.row e s (some ⟨g,0,none⟩) n' c' vs')):=by
 refine M.turn i hi ((Below.refl base w).grown hg M.sz fun k hk=>M.up i _ k hi hk) ho (fun j hj hne=>hg.block j hj fun h=>hne (by simpa [pY.foot] using h.symm)) fun g' hg'=>?_
 simp [pY.foot] at hg'
 subst hg';exact hw
theorem jZ {b s:Nat} (ho:o.op = .call { callee:=.builtin .append,args:=#[x,y],argTypes:=#[t,t] }) (ht:Ni P t e s b=true) (hb:Nat.blt 0 b=true) (hz:pZ P e=some ds) (hdl:ds.length=s) (hs:s=C.size) (K:Kd D a N l)
    (hx:kX l x=some (.slice A xs.length c)) {B:Option Addr} {c':Nat} (hy:kX l y=some (.slice B ys.length c')) (i:Nat) (M:Mem base W w L) (hi:L[i]? = some (.row e s A xs.length c (C.all xs))) (R:SL w C B ys) (hlen:app b xs ys=some zs) :
    Ac P o a w fun v w'=>∃A' c'',v = .slice A' zs.length c''∧Mem base W w' (L.set i (.row e s A' zs.length c'' (C.all zs))):=by
  obtain ⟨rfl,hbytes⟩:=RE hlen
  subst hs
  obtain ⟨hu,inf,wJ,hsz,hby⟩:=p8 ht
  simp only [pZ,Option.bind_eq_some_iff,Option.map_eq_some_iff] at hz
  obtain ⟨inf',RF,z,hz,hzc⟩:=hz
  obtain rfl:inf=inf':=Option.some.inj (wJ.symm.trans RF)
  have hown:=M.has i _ hi
  have hb':0<b:=by simpa [Nat.blt_eq] using hb
  by_cases hm:0<ys.length
  · obtain ⟨bb,oo,hB,hc⟩:=R hm
    intro K' Q hK'
    have h63:xs.length+ys.length≤maxLen:=by
      have:=Nat.le_mul_of_pos_right (xs.length+ys.length) hb'
      simp only [maxLen];omega
    refine wp_append_lies w x y t ho 0 e inf z C.size b hu wJ hz hsz hby (by rw [←Array.length_toList,hzc,hdl]) C.pos (.slice A xs.length c) xs.length (C.all xs) (K.ev hx) hown ⟨bb,oo,none⟩ ys.length c' (C.all ys) (by rw [K.ev hy,hB]) (by rw [yB.AM])
      (fun j u hu=>by have hadd:(⟨bb,oo,none⟩:Addr).add j=⟨bb,oo+j,none⟩:=by { unfold Addr.add;split <;> simp_all }
                      rw [hadd];exact hc j u hu) (C.aBd ys) hm h63 hbytes (Nat.zero_le _) _ rfl ?_
    intro g cap w' h2 h3 h4 h5
    refine hK' _ _ ⟨some ⟨g,0,none⟩,cap,by rw [List.length_append],?_⟩
    have h3':w.grownBy w' (A.map (·.block)):=by
      cases A with
      | none=>exact h3
      | some ad=>exact h3
    refine M.grown i hi h3' ?_ ?_
    · rw [yB.all_append,List.length_append];exact h2
    · rcases h4 with h4 | h4
      · left
        cases A with
        | none=>simp [Value.ownBlock] at h4
        | some ad=>simpa [Value.ownBlock] using h4
      · right;omega
  · have hy0:ys=[]:=List.eq_nil_of_length_eq_zero (by omega)
    subst hy0
    have hnc:xs.length≤c:=by
      rcases hown.2 with ⟨_,h0⟩ | ⟨g',cap',cur,hv,_,_,hnc,_⟩
      · omega
      · injection hv with _ _ e3;omega
    have hr:(Builtin.append_ #[t,t] o.type #[.slice A xs.length c,.slice B 0 c']).run P w = .ok (.slice A xs.length c) w:=by
      cases A <;> cases B <;> simp [Builtin.append_,run_underlying hu,sizeOf,typeInfo,wJ,Builtin.lenOf,hnc,Builtin.firstCells,loadCells,loadCellsFrom,storeCells]
    refine Dv (v:=.slice A xs.length c) (w':=w) ?_ ⟨A,c,by simp,?_⟩
    · unfold execOp
      simp only [ho,resolve,invoke,builtin,Sem.run_bind,Sem.run_pure,Result.andThen_ok,List.map_toArray,List.map_cons,List.map_nil,K.ev hx,K.ev hy,List.length_nil]
      rw [hr];rfl
    · have:L.set i (.row e C.size A (xs++[]).length c (C.all (xs++[])))=L:=by
        rw [List.append_nil]
        obtain ⟨hlt,he⟩:=List.getElem?_eq_some_iff.1 hi
        rw [←he];exact List.set_getElem_self hlt
      rw [this];exact M
end
section
variable {P:Program} {base:Nat} {W w:World} {L:List pY} {S:World→Prop} {D:List Deferred} {a:Act} {N:Nat} {l:List (Nat × Value)} {o:Oper} {x y ix:Operand} {v u:Value} {t e t':TypeId} {m n:Int} {k k':IntKind}
  {g off:Nat} {cs ds:List Value} {α:Type} {C:yB α} {A:Option Addr} {c:Nat} {xs ys zs:List α} {post:Value→World→Prop}
theorem OQ (C:yB α) (z:α) (n:Nat):(madeCells (C.enc z).toArray (n*C.size)).toList=C.all (List.replicate n z):=by
 apply List.ext_getElem?
 intro j
 by_cases hj:j<n*C.size
 ·have hm:j%C.size<C.size:=Nat.mod_lt _ C.pos;have hl:(C.enc z).length=C.size:=C.len z
  have h1:(C.all (List.replicate n z))[j]? = (C.enc z)[j%C.size]?:=by
   have hu:(C.enc z)[j%C.size]? = some ((C.enc z)[j%C.size]'(by omega)):=List.getElem?_eq_getElem (by omega);have hd:j/C.size<n:=Nat.div_lt_of_lt_mul (by rw [Nat.mul_comm];exact hj);have:=yB.BM C (List.replicate n z) (j/C.size) (j%C.size) z _ (by simp [hd]) hu;rw [Nat.div_add_mod'] at this;rw [this,hu]
  rw [h1]
  simp [madeCells,hj,hl,List.getElem?_eq_getElem (show j%C.size<(C.enc z).length by omega)]
 ·rw [List.getElem?_eq_none (by simp [size_madeCells];omega),List.getElem?_eq_none (by rw [yB.AM];simp;omega)]
theorem q8 {b s:Nat} {z:α} (ho:o.op = .makeSlice t x y) (ht:Ni P t e s b=true) (hb:Nat.blt 0 b=true) (hz:pZ P e=some (C.enc z)) (hs:s=C.size) (K:Kd D a N l) (hx:kX l x=some (.int k n)) (hy:kX l y=some (.int k' n)) (M:Mem base W w L) (hm:mk b n z=some ys) :
  Ac P o a w fun v w'=>∃A' c',v = .slice A' ys.length c'∧Mem base W w' (.row e s A' ys.length c' (C.all ys)::L):=by
 obtain ⟨h0,h1,rfl⟩:=aA7 hm;subst hs;obtain ⟨hu,inf,wJ,hsz,hby⟩:=p8 ht;simp only [pZ,Option.bind_eq_some_iff,Option.map_eq_some_iff] at hz;obtain ⟨inf',RF,zz,hz,hzc⟩:=hz;obtain rfl:inf=inf':=Option.some.inj (wJ.symm.trans RF);obtain ⟨q,rfl⟩:∃q:Nat,n=q:=⟨n.toNat,by omega⟩
 have hb':0<b:=by simpa [Nat.blt_eq] using hb
 have hbytes:inf.bytes*q≤281474976710656:=by
  rw [hby,Nat.mul_comm];have h1':((q*b:Nat):Int)≤281474976710656:=by rw [Int.natCast_mul];exact h1
  omega
 have hqb:=Nat.le_mul_of_pos_left q hb';have h63:q≤maxLen:=by rw [hby] at hbytes;simp only [maxLen];omega
 obtain ⟨w',hr,hown,hg⟩:=run_make_full (P:=P) w 0 t e inf zz C.size hu wJ hz hsz k k' q hbytes h63 (Nat.zero_le _);have aHJ:zz.cells=(C.enc z).toArray:=by rw [←hzc]
 rw [aHJ,OQ] at hown;refine Dv (v:=.slice (some ⟨w.heap.size,0,none⟩) q q) (w':=w') ?_ ⟨some ⟨w.heap.size,0,none⟩,q,by simp,?_⟩
 ·unfold execOp;simp only [ho,K.ev hx,K.ev hy,Sem.run_bind,hr];rfl
 ·have hlen:(List.replicate ((q:Int)).toNat z).length=q:=by simp
  rw [hlen];simp only [Int.toNat_natCast];refine (M.far ((Below.refl base w).grown hg M.sz fun k hk=>by cases hk) (fun k o hk _=>(hg.block k (Array.getElem?_eq_some_iff.1 hk).1 (by simp)).trans hk) fun i e g h hf=>hg.block g (M.Mv i e g h hf) (by simp)).cons hown fun g hf=>?_
  simp [pY.foot] at hf
  subst hf;exact ⟨M.sz,fun i e' h he=>by have:=M.Mv i e' _ h he;omega⟩
theorem RG {b s:Nat} (ho:o.op = .makeSlice t x y) (ht:Ni P t e s b=true) (hb:Nat.blt 0 b=true) (hz:(pZ P e).isSome=true) (hs:s=C.size) (K:Kd D a N l) (hx:kX l x=some (.int k 0)) (hy:kX l y=some (.int k' n)) (M:Mem base W w L) (hm:0≤n∧n*b≤281474976710656) :
  Ac P o a w fun v w'=>∃A' c',v = .slice A' ([]:List α).length c'∧Mem base W w' (.row e s A' ([]:List α).length c' (C.all [])::L):=by
 obtain ⟨h0,h1⟩:=hm;subst hs;obtain ⟨hu,inf,wJ,hsz,hby⟩:=p8 ht;obtain ⟨_,hz⟩:=Option.isSome_iff_exists.1 hz;simp only [pZ,Option.bind_eq_some_iff,Option.map_eq_some_iff] at hz;obtain ⟨inf',RF,zz,hz,hzc⟩:=hz;obtain rfl:inf=inf':=Option.some.inj (wJ.symm.trans RF);obtain ⟨q,rfl⟩:∃q:Nat,n=q:=⟨n.toNat,by omega⟩
 have hb':0<b:=by simpa [Nat.blt_eq] using hb
 have hbytes:inf.bytes*q≤281474976710656:=by
  rw [hby,Nat.mul_comm];have h1':((q*b:Nat):Int)≤281474976710656:=by rw [Int.natCast_mul];exact h1
  omega
 have hqb:=Nat.le_mul_of_pos_left q hb';have h63:q≤maxLen:=by rw [hby] at hbytes;simp only [maxLen];omega
 obtain ⟨w',hr,hown,hg⟩:=run_make_own (P:=P) w 0 t e inf zz C.size hu wJ hz hsz k k' q hbytes h63 (Nat.zero_le _);refine Dv (v:=.slice (some ⟨w.heap.size,0,none⟩) 0 q) (w':=w') ?_ ⟨some ⟨w.heap.size,0,none⟩,q,by simp,?_⟩
 ·unfold execOp;simp only [ho,K.ev hx,K.ev hy,Sem.run_bind,hr];rfl
 ·refine (M.far ((Below.refl base w).grown hg M.sz fun k hk=>by cases hk) (fun k o hk _=>(hg.block k (Array.getElem?_eq_some_iff.1 hk).1 (by simp)).trans hk) fun i e g h hf=>hg.block g (M.Mv i e g h hf) (by simp)).cons hown fun g hf=>?_
  simp [pY.foot] at hf
  subst hf;exact ⟨M.sz,fun i e' h he=>by have:=M.Mv i e' _ h he;omega⟩
theorem Ev (g off:Nat) (t:TypeId):∀(vs:List Value) (i:Nat) (cur:Array Value) (w:World),w.heap[g]? = some (.cells cur t (0,0))→off+i+vs.length≤cur.size→(∀v∈vs,v.oneCell'=true) →
  ∃w' cur',(storeCells ⟨g,off,none⟩ vs i).run P w = .ok () w'∧w'.heap[g]? = some (.cells cur' t (0,0))∧cur'.size=cur.size ∧
   (∀j,cur'[j]? = if off+i≤j∧j<off+i+vs.length then vs[j-(off+i)]? else cur[j]?)∧(∀k,k≠g→w'.heap[k]? = w.heap[k]?)∧w'.os=w.os∧w'.tape=w.tape∧w'.output=w.output∧w'.heap.size=w.heap.size
 | [],i,cur,w,h,_,_=>by
  refine ⟨w,cur,rfl,h,rfl,fun j=>?_,fun _ _=>rfl,rfl,rfl,rfl,rfl⟩;rw [if_neg (by simp)]
 | v::vs,i,cur,w,h,hl,h1=>by
  simp only [List.length_cons] at hl
  have hadd:(⟨g,off,none⟩:Addr).add i=⟨g,off+i,none⟩:=by unfold Addr.add;split <;> simp_all
  have hB:jM w g t cur:=h;have hc:w.cell? ⟨g,off+i,none⟩=some cur[off+i]:=by rw [hB.cell];exact Array.getElem?_eq_getElem (by omega)
  have hst:(store ⟨g,off+i,none⟩ v).run P w = .ok () (w.setCell ⟨g,off+i,none⟩ v):=by
   rw [run_store P w _ v .plain (h1 v (by simp)),hc]
   simp [hB.frozen]
  obtain ⟨w',cur',h2,h3,h4,h5,h6,h7,h8,h9,h10⟩:=Ev g off t vs (i+1) (cur.setIfInBounds (off+i) v) (w.setCell ⟨g,off+i,none⟩ v) (hB.BI (off+i) v rfl) (by simp;omega) (fun v hv=>h1 v (by simp [hv]));refine ⟨w',cur',?_,h3,by simpa using h4,fun j=>?_,fun k hk=>(h6 k hk).trans (Below.heap_setCell w _ v k hk),h7,h8,h9,by rw [h10];simp [World.setCell]⟩
  ·unfold storeCells;rw [Sem.run_bind,hadd,hst];exact h2
  ·rw [h5 j];simp only [List.length_cons]
   by_cases hj:off+i=j
   ·subst hj;rw [if_neg (by omega),if_pos (by omega),Array.getElem?_setIfInBounds_self_of_lt (by omega),Nat.sub_self]
    rfl
   ·by_cases hj2:off+(i+1)≤j∧j<off+(i+1)+vs.length
    ·rw [if_pos hj2,if_pos (by omega),show j-(off+i)=(j-(off+(i+1)))+1 by omega]
     simp
    ·rw [if_neg hj2,if_neg (by omega)]
     simp [hj]
theorem gA {el:α} {q s:Nat} (ho:o.op = .store t x y) (hsz:(P.info? t).map (·.size)=some s) (hs:s=C.size) (hq:q=C.size) (K:Kd D a N l) (hx:kX l x=some (.pointer (some ((Xs A).add (n.toNat*q))))) (hy:kX l y=some v) (hv:v.cells=(C.enc el).toArray)
  (i:Nat) (M:Mem base W w L) (hi:L[i]? = some (.row e s A xs.length c (C.all xs))) (hset:yK xs n el=some ys) :
  Ac P o a w fun _ w'=>Mem base W w' (L.set i (.row e s A ys.length c (C.all ys))):=by
 subst hq hs;obtain ⟨h0,hlt,rfl⟩:=O9 hset;obtain ⟨hxl,hrow⟩:=M.has i _ hi
 rcases hrow with ⟨_,h00⟩ | ⟨g,cap,cur,hvv,_,hh,hnc,hcm,hcs,htk⟩
 ·omega
 injection hvv with hA _ hcap
 subst hcap;have hmul:=Nat.mul_le_mul_right C.size hlt;have aJA:=Nat.mul_le_mul_right C.size hnc;rw [Nat.succ_mul] at hmul;obtain ⟨w',cur',h2,h3,h4,h5,h6,h7,h8,h9,h10⟩:=Ev (P:=P) g (n.toNat*C.size) e (C.enc el) 0 cur w hh (by rw [C.len];omega) (C.one el);rw [C.len] at h5
 have hrun:(execOp a.eval o).run P w = .ok .skip w':=by
  simp only [Option.map_eq_some_iff] at hsz;obtain ⟨inf,wJ,hsz⟩:=hsz;have hcl:(C.enc el).length=inf.size:=by rw [C.len,hsz]
  unfold execOp
  simp [ho,K.ev hx,K.ev hy,Instr.storeAt,Instr.sureAddr,storeVar,hv,sizeOf,typeInfo,wJ,hcl,MN hA,h2]
 refine MO hrun (M.turn i hi ⟨h7,h8,h9,by omega,fun k hk=>h6 k fun hkg=>?_⟩ ?_ (fun j _ hj=>h6 j fun hjg=>hj (by simp [pY.foot,hA,hjg])) (fun g' hg'=>.inl hg'))
 ·have:=M.up i _ g hi (by simp [pY.foot,hA])
  omega
 ·refine ⟨by rw [yB.AM],.inr ⟨g,c,cur',by rw [hA],Nat.zero_le _,h3,by simpa using hnc,hcm,by rw [h4,hcs],?_⟩⟩;refine yB.aBe C el xs n.toNat _ hlt (by simp [h4,hcs];rw [Nat.min_eq_left hnc]) fun j=>?_
  rw [List.length_set];rw [List.getElem?_take]
  by_cases hj:j<xs.length*C.size
  ·rw [if_pos hj];simp only [Array.getElem?_toList,Nat.add_zero] at h5 ⊢;rw [h5 j]
   split
   ·rfl
   ·rw [←htk,List.getElem?_take,if_pos hj];simp
  ·rw [if_neg hj,if_neg (by omega),List.getElem?_eq_none (by rw [yB.AM];omega)]
def kY (P:Program) (f:FuncId):Bool:=match P.funcs[f]? with
 | some fn=>fn.body.isSome&&fn.name != "runtime.NumGoroutine"
 | none=>false
theorem gZ {f:FuncId} {cap vs:List Value} {args:Array Operand} {ts:Array TypeId} (ho:o.op = .call { callee:=.value x,args:=args,argTypes:=ts }) (hf:kY P f=true) (K:Kd D a N l) (hx:kX l x=some (.func (.func f) #[] cap.toArray)) (hargs:args.toList.map (kX l)=vs.map some)
  (h:Calls P f (vs++cap).toArray w fun e w'=>∃v,e = .returned v∧post v w'):Ac P o a w post:=by
 have hE:args.map a.eval=vs.toArray:=by
  apply Array.ext'
  simp only [Array.toList_map]
  have:∀(xs:List Operand) (vs:List Value),xs.map (kX l)=vs.map some→xs.map a.eval=vs:=by
   intro xs
   induction xs with
   | nil=>intro vs h;cases vs <;> simp_all
   | cons x xs ih=>
    intro vs h;cases vs with
    | nil=>simp at h
    | cons v vs=>simp only [List.map_cons,List.cons.injEq] at h ⊢;exact ⟨K.ev h.1,ih vs h.2⟩
  exact this _ _ hargs
 have hrun:(execOp a.eval o).run P w = .ok (.enter f (vs++cap).toArray) w:=by
  unfold kY at hf
  split at hf
  ·rename_i fn hfn
   simp only [Bool.and_eq_true,bne_iff_ne,ne_eq] at hf;obtain ⟨b,hb⟩:=Option.isSome_iff_exists.1 hf.1;unfold execOp
   simp [ho,resolve,K.ev hx,hE,Deferred.ofValue,invoke,callFunc,hfn,hb,hf.2]
  ·cases hf
 intro K' Q hK;unfold Oper.wp;rw [hrun,Oper.upon_enter];refine h.mono ?_;rintro e w' ⟨v,rfl,hp⟩;exact hK v w' hp
variable {ops:Array Oper} {Q:Exit→Act→World→Prop} {R:Act→World→Prop} {rest:List Oper} {d:Nat} {f:List Nat} {mk:Nat}
theorem aD0 (K:Kd D a N l) (hw:Region.wanted o (yielded ops a.tmps)=true) (hd:o.dst=some d) (hN:Nat.blt d N=true) (hr:Rd P (fun w=>Mem base W w L) a o v) (M:Mem base W w L) (k:∀a',Kd D a' N ((d,v)::l)→wpList P ops Q rest a' w):wpList P ops Q (o::rest) a w:=by
 refine wpList_step fun Kc hK=>?_
 rw [if_pos hw];unfold Oper.wp;rw [hr w M];refine hK _ _ ?_;have:=K.put (d:=o.dst) (by rw [hd];exact hN) v;rw [hd] at this ⊢;exact k _ this
theorem aHK (K:Kd D a N l) (hw:Region.wanted o (yielded ops a.tmps)=false) (hd:o.dst=some d) (hN:Nat.blt d N=true) (k:∀a',Kd D a' N ((d,undef)::l)→wpList P ops Q rest a' w):wpList P ops Q (o::rest) a w:=by
 refine wpList_skip hw ?_;have:=K.put (d:=o.dst) (by rw [hd];exact hN) undef;rw [hd] at this ⊢;exact k _ this
theorem aD1 (K:Kd D a N l) (hw:Region.wanted o (yielded ops a.tmps)=true) (hd:o.dst=some d) (hN:Nat.blt d N=true) (h:Ac P o a w post) (k:∀v a' w',post v w'→Kd D a' N ((d,v)::l)→wpList P ops Q rest a' w'):wpList P ops Q (o::rest) a w:=by
 refine wpList_step fun Kc hK=>?_
 rw [if_pos hw];refine h _ _ fun v w' hp=>hK _ _ ?_
 have:=K.put (d:=o.dst) (by rw [hd];exact hN) v;rw [hd] at this ⊢;exact k v _ w' hp this
theorem aHL (K:Kd D a N l) (hw:Region.wanted o (yielded ops a.tmps)=true) (hd:o.dst=none) (h:Ac P o a w post) (k:∀v a' w',post v w'→Kd D a' N l→wpList P ops Q rest a' w'):wpList P ops Q (o::rest) a w:=by
 refine wpList_step fun Kc hK=>?_
 rw [if_pos hw];refine h _ _ fun v w' hp=>hK _ _ ?_
 rw [hd];exact k v _ w' hp K
theorem aD2 (K:Kd D a N l) (hw:Region.wanted o (yielded ops a.tmps)=true) (hd:o.dst=some d) (hN:Nat.blt d N=true) (hr:Rd P S a o v) (k:∀a',Kd D a' N ((d,v)::l)→rT P ops S R (marked f rest) a' w):rT P ops S R (marked (0::f) (o::rest)) a w:=by
 refine ⟨v,.inl ⟨hw,hr⟩,?_⟩;have:=K.put (d:=o.dst) (by rw [hd];exact hN) v;rw [hd] at this ⊢;exact k _ this
theorem aHM (K:Kd D a N l) (hw:Region.wanted o (yielded ops a.tmps)=false) (hd:o.dst=some d) (hN:Nat.blt d N=true) (k:∀a',Kd D a' N ((d,undef)::l)→rT P ops S R (marked f rest) a' w):rT P ops S R (marked (0::f) (o::rest)) a w:=by
 refine ⟨undef,.inr ⟨hw,rfl⟩,?_⟩;have:=K.put (d:=o.dst) (by rw [hd];exact hN) undef;rw [hd] at this ⊢;exact k _ this
theorem aD3 (K:Kd D a N l) (hw:Region.wanted o (yielded ops a.tmps)=true) (hd:o.dst=some d) (hN:Nat.blt d N=true) (h:Ac P o a w post) (k:∀v a' w',post v w'→Kd D a' N ((d,v)::l)→S w'∧rT P ops S R (marked f rest) a' w'):rT P ops S R (marked (1::f) (o::rest)) a w:=by
 refine Jr (n:=true) hw fun Kc hK=>h _ _ fun v w' hp=>?_
 have:=K.put (d:=o.dst) (by rw [hd];exact hN) v;rw [hd] at this ⊢;obtain ⟨h1,h2⟩:=k v _ w' hp this;exact hK _ _ (fun _=>h1) h2
theorem Gb (K:Kd D a N l) (hw:Region.wanted o (yielded ops a.tmps)=true) (hd:o.dst=none) (h:Ac P o a w post) (k:∀v a' w',post v w'→Kd D a' N l→S w'∧rT P ops S R (marked f rest) a' w'):rT P ops S R (marked (1::f) (o::rest)) a w:=by
 refine Jr (n:=true) hw fun Kc hK=>h _ _ fun v w' hp=>?_
 rw [hd];obtain ⟨h1,h2⟩:=k v _ w' hp K;exact hK _ _ (fun _=>h1) h2
theorem aFR (K:Kd D a N l) (hw:Region.wanted o (yielded ops a.tmps)=true) (hd:o.dst=none) (h:Ac P o a w post) (k:∀v a' w',post v w'→Kd D a' N l→rT P ops S R (marked f rest) a' w'):rT P ops S R (marked (2::f) (o::rest)) a w:=by
 refine Jr (n:=false) hw fun Kc hK=>h _ _ fun v w' hp=>?_
 rw [hd];exact hK _ _ (fun h=>by cases h) (k v _ w' hp K)
theorem Pd (h:R a w):rT P ops S R (marked f []) a w:=h
theorem s9 {p q:Code} {b:Bool} (K:Kd D a N l) (hc:kX l x=some (.bool b)) (ht:b=true→p.wp P Q a w) (hf:b=false→q.wp P Q a w):(Code.cond x p q).wp P Q a w:=wp_cond_split (K.ev hc) ht hf
theorem aD4 {p:Code} {I:Nat→Act→World→Prop} (n:Nat) (h0:I n a w) (hz:∀a w,¬I 0 a w) (round:∀n a w,I (n+1) a w→p.wp P (Exit.then (I n) Q) a w):(Code.loop p).wp P Q a w:=by
 intro b k cs
 have key:∀n a w,I n a w→∃e a' w',Q e a' w'∧Arrives P (lone (b.at a (.code p :: .inLoop p::k)) cs w) b k cs e a' w':=by
  intro n
  induction n with
  | zero=>intro a w h;exact absurd h (hz a w)
  | succ n ih=>
   intro a w hI;obtain ⟨e,a₁,w₁,hq,harr⟩:=round n a w hI b (.inLoop p::k) cs;cases e with
   | normal=>
    obtain ⟨e₂,a₂,w₂,hq₂,harr₂⟩:=ih a₁ w₁ hq;exact ⟨e₂,a₂,w₂,hq₂,.of_steps (Steps.trans harr (.one step_inLoop)) harr₂⟩
   | exit id=>exact ⟨_,a₁,w₁,hq,.pass (x:=.inLoop p) rfl (fun _ _=>.inl (by simp)) harr⟩
   | goto l=>exact ⟨_,a₁,w₁,hq,.pass (x:=.inLoop p) rfl (fun _ _=>.inl (by simp)) harr⟩
   | ret=>exact ⟨_,a₁,w₁,hq,.pass (x:=.inLoop p) rfl (fun _ _=>.inl (by simp)) harr⟩
   | panic ch=>exact ⟨_,a₁,w₁,hq,.pass (x:=.inLoop p) rfl (fun _ _=>.inl (by simp)) harr⟩
   | outgrown=>exact ⟨_,a₁,w₁,hq,.pass (x:=.inLoop p) rfl (fun _ _=>.inl (by simp)) harr⟩
 obtain ⟨e,a',w',hq,harr⟩:=key n a w h0;exact ⟨e,a',w',hq,.of_steps (.one step_loop) harr⟩
theorem uR {fn:Func} {code:Code} {fid:FuncId} {args:Array Value} {Rp:Ending→World→Prop} (hf:P.funcs[fid]? = some fn) (hb:fn.body=some code) (hN:fn.ntmps=N) (hs:Nat.ble args.size N=true)
  (h:∀a,Kn a N (L1 0 args.toList)→code.wp P (bodyPost P fn Rp) a w):Calls P fid args w Rp:=by
 refine calls_of_wp hf hb ?_;rw [hN];exact h _ (Kd.start args N hs)
def XU (tmps:Array Value):ResultVar→Sem Value
 | .tmp t=>pure (tmps.getD t undef)
 | .cell a t=>do loadVar t (←asAddr (tmps.getD a undef))
theorem Dg (fn:Func) (tmps:Array Value):results fn tmps=(do let vs ←fn.results.mapM (XU tmps);pure (if h:vs.size=1 then vs[0] else .tuple vs)):=rfl
def Fk (P:Program) (a:Act) (w:World) (r:ResultVar) (v:Value):Prop:=(XU a.tmps r).run P w = .ok v w
theorem f7 (K:Kd D a N l) {s:Nat} (h:Cd l s=some v):Fk P a w (.tmp s) v:=by
 show (pure (a.tmps.getD s undef):Sem Value).run P w=_;rw [K.get s v h];rfl
theorem gB (K:Kd D a N l) {s n:Nat} (h:Cd l s=some (.pointer (some ⟨g,0,none⟩))) (ht:Fg P t n=true) (hb:jM w g t' cs.toArray) (hn:cs.length=n):Fk P a w (.cell s t) (.agg cs.toArray):=by
 obtain ⟨d,hu,hd,hi⟩:=Ep ht;show (do loadVar t (←asAddr (a.tmps.getD s undef)):Sem Value).run P w=_;rw [K.get s _ h];have hl:=run_loadVar_row (P:=P) w g t' t cs.toArray (0,0) d hb hu (by cases d <;> simp_all) (by rw [hi];simp [hn])
 simp [asAddr,hl]
theorem uI (K:Kd D a N l) {s:Nat} (h:Cd l s=some (.pointer (some ⟨g,0,none⟩))) (ht:OL P t=true) (hb:jM w g t' cs.toArray) (hv:cs[0]? = some v):Fk P a w (.cell s t) v:=by
 have hc:w.cell? ⟨g,0,none⟩=some v:=by rw [hb.cell];simpa using hv
 show (do loadVar t (←asAddr (a.tmps.getD s undef)):Sem Value).run P w=_;rw [K.get s _ h]
 simp [asAddr,loadVar,Sem.run_bind,(BL ht w).1,run_load,hc]
theorem aD5 {fn:Func} {Rp:Ending→World→Prop} (K:Kn a N l) (hr:fn.results = #[]) (h:Rp (.returned (.tuple #[])) w):bodyPost P fn Rp .ret a w:=
 ⟨K.defs,.tuple #[],by rw [Dg,hr];simp,h⟩
theorem vK {fn:Func} {Rp:Ending→World→Prop} {r1:ResultVar} {v1:Value} (K:Kn a N l) (hr:fn.results = #[r1]) (h1:Fk P a w r1 v1) (h:Rp (.returned v1) w):bodyPost P fn Rp .ret a w:=by
 refine ⟨K.defs,v1,?_,h⟩;unfold Fk at h1;rw [Dg,hr];simp [h1]
theorem We {fn:Func} {Rp:Ending→World→Prop} {r1 r2:ResultVar} {v1 v2:Value} (K:Kn a N l) (hr:fn.results = #[r1,r2]) (h1:Fk P a w r1 v1) (h2:Fk P a w r2 v2) (h:Rp (.returned (.tuple #[v1,v2])) w):bodyPost P fn Rp .ret a w:=by
 refine ⟨K.defs,.tuple #[v1,v2],?_,h⟩;unfold Fk at h1 h2;rw [Dg,hr];simp [h1,h2]
theorem Mw {fn:Func} {Rp:Ending→World→Prop} {r1 r2 r3:ResultVar} {v1 v2 v3:Value} (K:Kn a N l) (hr:fn.results = #[r1,r2,r3]) (h1:Fk P a w r1 v1) (h2:Fk P a w r2 v2) (h3:Fk P a w r3 v3) (h:Rp (.returned (.tuple #[v1,v2,v3])) w):bodyPost P fn Rp .ret a w:=by
 refine ⟨K.defs,.tuple #[v1,v2,v3],?_,h⟩;unfold Fk at h1 h2 h3;rw [Dg,hr];simp [h1,h2,h3]
theorem XV {fn:Func} {Rp:Ending→World→Prop} (h:bodyPost P fn Rp .ret a w):bodyPost P fn Rp .normal a w:=h
end
section
variable {P:Program} {S:World→Prop} {D:List Deferred} {a:Act} {w:World} {N:Nat} {l:List (Nat × Value)} {o:Oper} {v v':Value} {x:Operand} {k:IntKind} {m n:Int} {b b':Bool} {ops:Array Oper} {Q:Exit→Act→World→Prop} {K:Act→World→Prop} {y:Code} {id id':Nat}
theorem RH (he:m=n) (h:Rd P S a o (.int k m)):Rd P S a o (.int k n):=he ▸ h
theorem Tj (he:b=b') (h:Rd P S a o (.bool b)):Rd P S a o (.bool b'):=he ▸ h
theorem Kd.reb {s:Nat} (K:Kd D a N l) (h:Cd l s=some (.bool b)) (hb:b=b'):Kd D a N ((s,.bool b')::l):=K.sub fun t v ht=>by
 simp only [Cd] at ht
 by_cases hst:s=t
 ·subst hst;simp at ht;rw [h,hb,ht]
 ·rw [XQ hst] at ht;exact ht
theorem aBf {p q:Code} (K:Kd D a N l) (hc:kX l x=some (.bool true)) (h:p.wp P Q a w):(Code.cond x p q).wp P Q a w:=wp_cond (K.ev hc) h
theorem aBg {p q:Code} (K:Kd D a N l) (hc:kX l x=some (.bool false)) (h:q.wp P Q a w):(Code.cond x p q).wp P Q a w:=wp_cond (K.ev hc) h
theorem dQ {ol:List Oper} (h:wpList P ol.toArray Q ol a w):(Code.region id ol.toArray false).wp P Q a w:=wp_region_lit h
theorem aM (h:K a w):Exit.then K Q .normal a w:=h
theorem XW (h:Q (.exit id) a w):Exit.then K Q (.exit id) a w:=h
theorem wO (h:Q .ret a w):Exit.then K Q .ret a w:=h
theorem tV (h:Q .normal a w):Exit.inBlock id Q .normal a w:=h
theorem Cx (h:Q .ret a w):Exit.inBlock id Q .ret a w:=h
theorem aCY (h:Q .normal a w):Exit.inBlock id Q (.exit id) a w:=by simp only [Exit.inBlock,if_true];exact h
theorem aFS (hne:id'≠id) (h:Q (.exit id') a w):Exit.inBlock id Q (.exit id') a w:=by simp only [Exit.inBlock,if_neg hne];exact h
theorem aFT {St Rt:Type} {Rel:St→Act→World→Prop} {kk:St→Option Rt} {lf:(St→Option Rt)→Nat→St→Option Rt} {r:Rt} {p:Code} {n:Nat} {st:St}
  (h:lf kk n st=some r) (hz:∀kk st,lf kk 0 st=none) (h0:Rel st a w) (hk:∀st a w,Rel st a w→kk st=some r→Q (.exit id) a w)
  (round:∀(kk:St→Option Rt) n st a w,(∀st a w,Rel st a w→kk st=some r→Q (.exit id) a w)→Rel st a w→lf kk (n+1) st=some r→p.wp P (Exit.then (fun a w=>∃st,Rel st a w∧lf kk n st=some r) Q) a w):(Code.loop p).wp P Q a w:=by
 refine aD4 (I:=fun n a w=>∃st,Rel st a w∧lf kk n st=some r) n ⟨st,h0,h⟩ (fun a w ⟨st,_,h⟩=>by rw [hz] at h;cases h) ?_;rintro n a w ⟨st,hr,h⟩;exact round kk n st a w hk hr h
theorem Mem.cap {base:Nat} {W:World} {L:List pY} {e s n c:Nat} {A:Option Addr} {xs:List Value} (M:Mem base W w L) (i:Nat) (h:L[i]? = some (.row e s A n c xs)):n≤c:=by
 rcases (M.has i _ h).2 with ⟨hv,h0⟩ | ⟨g,cap,cur,hv,_,_,hnc,_⟩
 ·omega
 ·injection hv with _ _ e3;omega
end
section
variable {base:Nat} {W w:World} {L:List pY} {g:Nat} {t:TypeId} {cs:List Value} {α:Type} {C:yB α} {xs:List α}
theorem Mem.aK (e s:Nat) (C:yB α) (M:Mem base W w L):Mem base W w (.row e s none ([]:List α).length 0 (C.all [])::L):=
 M.cons (show pY.holds w (.row e s none 0 0 []) from ⟨by simp,.inl ⟨rfl,rfl⟩⟩) fun g hg=>by simp [pY.foot] at hg
end
section
variable {P:Program} {S:World→Prop} {D:List Deferred} {a:Act} {N:Nat} {l:List (Nat × Value)} {o:Oper} {x:Operand} {t t':TypeId} {g off:Nat} {cs:List Value} {k:IntKind} {n e:Int} {q:Nat} {es:List Int}
theorem pT (ho:o.op = .load t x) (ht:OL P t=true) (K:Kd D a N l) (hx:kX l x=some (.pointer (some ((⟨g,off,none⟩:Addr).add (n.toNat*q))))) (hb:∀w,S w→jM w g t' cs.toArray) (hq:q=1) (hc:(cs.drop off).take es.length=es.map (.int k)) (hv:idx es n=some e):Rd P S a o (.int k e):=by
 obtain ⟨h0,h1,h2⟩:=Ao hv;refine aDY ho ht K hx hb hq ?_;unfold idx;rw [if_pos h0];have:((cs.drop off).take es.length)[n.toNat]? = some (.int k e):=by rw [hc];simp [h2]
 rw [List.getElem?_take,if_pos h1] at this;exact this
end
def cI (k:IntKind):yB Int:=⟨fun x=>[.int k x],1,fun _=>rfl,fun _ u h=>by simp at h;subst h;rfl,by omega⟩
def cS:yB (List UInt8):=⟨fun x=>[.string (bs x)],1,fun _=>rfl,fun _ u h=>by simp at h;subst h;rfl,by omega⟩
def hG:yB (Int × Int):=⟨fun x=>[.int .i64 x.1,.int .i64 x.2],2,fun _=>rfl,fun _ u h=>by simp at h;rcases h with rfl | rfl <;> rfl,by omega⟩
def aN:yB (Int × Int × Int):=⟨fun x=>[.int .i64 x.1,.int .i64 x.2.1,.int .i64 x.2.2],3,fun _=>rfl,fun _ u h=>by simp at h;rcases h with rfl | rfl | rfl <;> rfl,by omega⟩
def aHN:yB (Bool × Bool × Bool):=⟨fun x=>[.bool x.1,.bool x.2.1,.bool x.2.2],3,fun _=>rfl,fun _ u h=>by simp at h;rcases h with rfl | rfl | rfl <;> rfl,by omega⟩
section
variable {P:Program} {S:World→Prop} {base:Nat} {W w:World} {L:List pY} {D:List Deferred} {a:Act} {N:Nat} {l:List (Nat × Value)} {o:Oper} {v v':Value} {x y ix:Operand} {k:IntKind} {m n:Int} {b b':Bool} {t e t':TypeId} {s s':List UInt8}
  {α:Type} {C:yB α} {cs:List Value} {es:List α} {el:α} {g:Nat} {xs:List α}
theorem rdv (he:v'=v) (h:Rd P S a o v'):Rd P S a o v:=he ▸ h
theorem MP (ht:P.underlying t=some .bool) (ho:o.op = .binOp .eql t x y t') (K:Kd D a N l) (hx:kX l x=some (.bool b)) (hy:kX l y=some (.bool b')):Rd P S a o (.bool (decide (b=b'))):=
 uG ho K hx hy fun w=>by rw [Sem.run_bind];simp [eqGuard,run_eql_bool (P:=P) w t b b' ht];cases b <;> cases b' <;> rfl
theorem P6 {len:Nat} (ho:o.op = .index t x ix) (ht:P.underlying t=some (.array len e)) (he:OL P e=true) (K:Kd D a N l) (hx:kX l x=some (.agg cs.toArray)) (hi:kX l ix=some (.int k n)) (hc:C.all es=cs) (hn:idx es n=some el) (hv:C.enc el=[v]) (hl:es.length=len:=by rfl):Rd P S a o v:=fun w _=>by
 obtain ⟨h0,hlt,hel⟩:=Ao hn;have hsz:C.size=1:=by have:=C.len el;rw [hv] at this;simpa using this.symm
 have hg:=yB.BM C es n.toNat 0 el v hel (by rw [hv];rfl);rw [hc,hsz] at hg;simp only [Nat.mul_one,Nat.add_zero] at hg;have h1:n<len:=by omega
 unfold execOp
 simp [ho,K.ev hx,K.ev hi,Instr.index,asIntOf,run_underlying ht,h0,h1,(BL he w).2,part,(BL he w).1,hg]
theorem aBh {len s:Nat} (ho:o.op = .index t x ix) (ht:P.underlying t=some (.array len e)) (he:Fg P e s=true) (hs:s=C.size) (K:Kd D a N l) (hx:kX l x=some (.agg cs.toArray)) (hi:kX l ix=some (.int k n)) (hc:C.all es=cs) (hn:idx es n=some el) (hl:es.length=len:=by rfl):Rd P S a o (.agg (C.enc el).toArray):=fun w _=>by
 obtain ⟨h0,hlt,hel⟩:=Ao hn;obtain ⟨d,hu,hd,hsz⟩:=Ep he;subst hs;simp only [Option.map_eq_some_iff] at hsz;obtain ⟨i,wJ,hsz⟩:=hsz
 have hagg:(isAgg e).run P w = .ok true w:=by
  unfold isAgg;rw [Sem.run_bind,run_underlying hu w]
  cases d <;> simp_all
 have h1:n<len:=by omega
 have hex:(cs.drop (n.toNat*C.size)).take C.size=C.enc el:=by
  subst hc
  apply List.ext_getElem?
  intro j;rw [List.getElem?_take]
  split
  ·rename_i hj
   rw [List.getElem?_drop];have hu:(C.enc el)[j]? = some ((C.enc el)[j]'(by rw [C.len];exact hj)):=List.getElem?_eq_getElem _;rw [yB.BM C es n.toNat j el _ hel hu,hu]
  ·rw [List.getElem?_eq_none (by rw [C.len];omega)]
 unfold execOp
 simp [ho,K.ev hx,K.ev hi,Instr.index,asIntOf,run_underlying ht,h0,h1,sizeOf,typeInfo,wJ,hsz,part,hagg,hex]
theorem Mem.aBi {W w:World} (h:Below W.heap.size W w):Mem W.heap.size W w []:=⟨h,BJ.below h,Nat.le_refl _,fun i e he=>by simp at he,fun i e g he=>by simp at he,fun i j e e' g he=>by simp at he⟩
theorem Mem.oI {s n:Nat} (M:Mem base W w L) (i:Nat) (h:L[i]? = some (.blk g e cs)) (C:yB α) (xs:List α) (hx:C.all xs=cs) (hn:xs.length=n) (hs:s=C.size) (hm:n≤maxLen:=by decide):Mem base W w (L.set i (.row e s (some ⟨g,0,none⟩) xs.length n (C.all xs))):=by
 subst hs hn;have hB:=M.bN h;refine M.turn i h (Below.refl _ _) ?_ (fun _ _ _=>rfl) (fun g' hg'=>.inl (by simpa [pY.foot] using hg'));refine ⟨by rw [yB.AM],.inr ⟨g,xs.length,cs.toArray,rfl,Nat.zero_le _,hB,Nat.le_refl _,hm,by simp [←hx,yB.AM],?_⟩⟩;rw [←hx,List.take_of_length_le (by simp [yB.AM])]
theorem aBj {xs ys:Array Value} {r:Bool} (hm:P.eqGuardType P.depth t=false) (ho:o.op = .binOp .eql t x y t') (K:Kd D a N l) (hx:kX l x=some (.agg xs)) (hy:kX l y=some (.agg ys))
  (h:∀w,(Op.equalIn 10000 t (.agg xs) (.agg ys)).run P w = .ok r w):Rd P S a o (.bool r):=
 uG ho K hx hy fun w=>by
  rw [Sem.run_bind,run_eqGuard_agg (P:=P) w .eql t x y xs ys hm,Result.andThen_ok,run_eql_struct (P:=P) w t xs ys,h w];rfl
theorem IF {xs ys:Array Value} {r:Bool} (hm:P.eqGuardType P.depth t=false) (ho:o.op = .binOp .neq t x y t') (K:Kd D a N l) (hx:kX l x=some (.agg xs)) (hy:kX l y=some (.agg ys))
  (h:∀w,(Op.equalIn 10000 t (.agg xs) (.agg ys)).run P w = .ok r w):Rd P S a o (.bool (!r)):=
 uG ho K hx hy fun w=>by
  rw [Sem.run_bind,run_eqGuard_agg (P:=P) w .neq t x y xs ys hm,Result.andThen_ok,run_neq_struct (P:=P) w t xs ys,h w];rfl
variable {ops:Array Oper} {Q:Exit→Act→World→Prop} {R:Act→World→Prop} {rest:List Oper} {d:Nat} {f:List Nat}
theorem jV (K:Kd D a N l) (hw:Region.wanted o (yielded ops a.tmps)=false) (hd:o.dst=some d) (hN:Nat.blt d N=true) (hS:S w) (k:∀a',Kd D a' N ((d,undef)::l)→rT P ops S R (marked f rest) a' w):rT P ops S R (marked (1::f) (o::rest)) a w:=by
 have:=K.put (d:=o.dst) (by rw [hd];exact hN) undef;refine Wd (n:=true) hw (fun _=>hS) ?_;rw [hd] at this ⊢;exact k _ this
theorem bH (K:Kd D a N l) (hw:Region.wanted o (yielded ops a.tmps)=true) (hd:o.dst=some d) (hN:Nat.blt d N=true) (hr:Rd P (fun w=>Mem base W w L) a o v) (M:Mem base W w L) (hS:S w) (k:∀a',Kd D a' N ((d,v)::l)→rT P ops S R (marked f rest) a' w):rT P ops S R (marked (1::f) (o::rest)) a w:=
 aD3 K hw hd hN (post:=fun v' w'=>v'=v∧w'=w) (Dv (hr w M) ⟨rfl,rfl⟩) fun v' a' w' hp K'=>by obtain ⟨rfl,rfl⟩:=hp;exact ⟨hS,k a' K'⟩
theorem jB {α:Type} {xs ys:List α} {i:Int} {x:α} (h:yK xs i x=some ys):xs.length=ys.length:=by
 obtain ⟨_,_,rfl⟩:=O9 h;simp
theorem H9 {fid:FuncId} {cap vs:List Value} {args:Array Operand} {ts:Array TypeId} (K:Kd D a N l) (hw:Region.wanted o (yielded ops a.tmps)=true) (hd:o.dst=some d) (hN:Nat.blt d N=true)
  (ho:o.op = .call { callee:=.value x,args:=args,argTypes:=ts }) (hf:kY P fid=true) (hx:kX l x=some (.func (.func fid) #[] cap.toArray)) (hargs:args.toList.map (kX l)=vs.map some)
  (h:Calls P fid (vs++cap).toArray w fun e w'=>∃v,e = .returned v∧∀a',Kd D a' N ((d,v)::l)→wpList P ops Q rest a' w'):wpList P ops Q (o::rest) a w:=
 aD1 K hw hd hN (gZ ho hf K hx hargs h) fun _ a' _ hp K'=>hp a' K'
theorem XX {fid:FuncId} {cap vs:List Value} {args:Array Operand} {ts:Array TypeId} (K:Kd D a N l) (hw:Region.wanted o (yielded ops a.tmps)=true) (hd:o.dst=some d) (hN:Nat.blt d N=true)
  (ho:o.op = .call { callee:=.value x,args:=args,argTypes:=ts }) (hf:kY P fid=true) (hx:kX l x=some (.func (.func fid) #[] cap.toArray)) (hargs:args.toList.map (kX l)=vs.map some)
  (h:Calls P fid (vs++cap).toArray w fun e w'=>∃v,e = .returned v∧∀a',Kd D a' N ((d,v)::l)→S w'∧rT P ops S R (marked f rest) a' w'):rT P ops S R (marked (1::f) (o::rest)) a w:=
 aD3 K hw hd hN (gZ ho hf K hx hargs h) fun _ a' _ hp K'=>hp a' K'
end
end
section
open Go.ChangeAt Go.ChangeShapes Go.Deep Go.Joins Go.RowKit Go.WideShapes
theorem UZ {α:Type} (Q:Nat→α→Prop):∀n,(∀i,i<n→∃x,Q i x)→∃xs:List α,xs.length=n∧∀i x,xs[i]? = some x→Q i x
 | 0,_=>⟨[],rfl,fun i x h=>by simp at h⟩
 | n+1,h=>by
  obtain ⟨xs,hl,hx⟩:=UZ Q n fun i hi=>h i (by omega)
  obtain ⟨y,hy⟩:=h n (by omega);refine ⟨xs++[y],by simp [hl],fun i x hi=>?_⟩;rw [List.getElem?_append] at hi
  split at hi
  ·exact hx i x hi
  ·rename_i hlt
   have:i=n:=by
    have:=(List.getElem?_eq_some_iff.1 hi).1
    simp at this;omega
   subst this;rw [hl,Nat.sub_self] at hi
   simp at hi
   subst hi;exact hy
theorem peel {cs a:List Value} {i k:Nat} (hk:k=a.length) (h:(cs.drop i).take k=a):cs.drop i=a++cs.drop (i+k):=by
 subst hk
 conv=>lhs;rw [←List.take_append_drop a.length (cs.drop i),h,List.drop_drop]
theorem Aq {cs:List Value} {k:Nat} (h:cs.length=k):cs.drop k=[]:=List.drop_of_length_le (by omega)
section
variable {H:Type} {enc:TypeId × Value→H} {P:Program}
theorem Gc {α:Type} {C:yB α} {Q:α→Prop} {W:World} {base:Nat} {sp:Nat→Bool} {held:Bool} {fuel:Nat} {cs:List Value} {x:DataW H × List MemPlace} {t e:TypeId} (ht:P.underlying t=some (.slice e)) (hC:P.cellsOf e=C.size)
  (hel:∀n cs' y,DataW.trod enc P W base sp held n e cs'=some y→∃el:α,cs'=C.enc el∧Q el) (h:DataW.trod enc P W base sp held fuel t cs=some x) :
  ∃(A:Option Addr) (n c:Nat) (xs:List α),n=xs.length∧cs=[.slice A n c]∧SL W C A xs∧n≤c∧c≤maxLen∧∀y∈xs,Q y:=by
 rcases open_slice ht h with ⟨rfl,_⟩ | ⟨a,len,cap,m,n,D,Pl,hcs,hb,hl,hm,hmm,hx,hi⟩
 ·exact ⟨none,0,0,[],rfl,rfl,SL.nil,Nat.le_refl _,Nat.zero_le _,fun y hy=>by cases hy⟩
 ·rw [hC] at hi
  have hlm:len≤m:=by rw [hmm];split <;> omega
  obtain ⟨xs,hxl,hxs⟩:=UZ (fun i (el:α)=>(∀j u,(C.enc el)[j]? = some u→W.cell? ((a.add (i*C.size)).add j)=some u)∧Q el) len fun i hlt=>by
   obtain ⟨cs',hc,ht'⟩:=hi i (by omega);obtain ⟨el,rfl,hq⟩:=hel _ _ _ ht';obtain ⟨_,hcl,hat⟩:=World.cells?_some hc;refine ⟨el,fun j u hu=>?_,hq⟩;have hj:j<C.size:=by have:=(List.getElem?_eq_some_iff.1 hu).1;rw [C.len] at this;exact this
   rw [hat j hj,hu]
  refine ⟨some a,len,cap,xs,hxl.symm,hcs,fun hn=>?_,hl,hm,fun y hy=>?_⟩
  ·obtain ⟨b,o,s⟩:=a
   have hs:s=none:=by
    have hx0:xs[0]? = some xs[0]:=List.getElem?_eq_getElem hn;have hl0:0<(C.enc xs[0]).length:=by rw [C.len];exact C.pos
    have:=(hxs 0 _ hx0).1 0 _ (List.getElem?_eq_getElem hl0);simp only [Nat.zero_mul,Addr.add,if_true] at this;cases s with
    | none=>rfl
    | some s=>
     unfold World.cell? at this
     split at this
     ·simp at this
     ·cases this
   subst hs;refine ⟨b,o,rfl,fun j u hu=>?_⟩;obtain ⟨i,j',el,rfl,aHO,hu'⟩:=yB.MM C xs j u hu;have:=(hxs i el aHO).1 j' u hu'
   have hadd:((⟨b,o,none⟩:Addr).add (i*C.size)).add j'=⟨b,o+(i*C.size+j'),none⟩:=by
    have h1:∀(p q:Nat),(⟨b,p,none⟩:Addr).add q=⟨b,p+q,none⟩:=fun p q=>by unfold Addr.add;split <;> simp_all
    rw [h1,h1,Nat.add_assoc]
   rw [hadd] at this;exact this
  ·obtain ⟨i,hi',he⟩:=List.getElem_of_mem hy;exact (hxs i y (by rw [←he];exact List.getElem?_eq_getElem hi')).2
variable {W:World} {base:Nat} {sp:Nat→Bool} {held:Bool} {r:Reach} {b0:Nat} {t:TypeId} {v:Value} {d:DataW H} {p:List MemPlace}
theorem Fl {fs:Array Field} (ht:P.underlying t=some (.struct fs)) (hv:Value.okWide P W r b0 t v) (h:DataW.Trod enc P W base sp held t v d p):∃cs:List Value,v = .agg cs.toArray∧∃n y,DataW.trod enc P W base sp held n t cs=some y∧y.1=d:=by
 obtain ⟨cs,rfl,_⟩:=okWide_struct ht hv;obtain ⟨fuel,hf⟩:=h;exact ⟨cs.toList,by simp,fuel,_,hf,rfl⟩
theorem RJ {H:Type}:∀l:List (DataW H),l.length≤Rows.uptoBulkAll l
 | []=>Nat.zero_le _
 | d::l=>by
  have:=RJ l
  have h1:1≤Rows.uptoBulk d:=by
   unfold Rows.uptoBulk
   split <;> omega
  simp only [Rows.uptoBulkAll,List.length_cons]
  omega
theorem yL {e:TypeId} {cs:List Value} {A:Option Addr} {m c n:Nat} {y:DataW H × List MemPlace} (ht:P.underlying t=some (.slice e)) (hc:cs=[.slice A m c]) (h:DataW.trod enc P W base sp held n t cs=some y):m≤Rows.uptoBulk y.1:=by
 subst hc
 rcases DataW.trod_slice ht h with ⟨q,_⟩ | ⟨a,len,cap,elems,rest,k,rfl,q,rfl,_,_,_,hl,_⟩
 ·have q1:=(List.cons.inj q).1
  injection q1 with _ q2 _
  omega
 ·have q1:=(List.cons.inj q).1
  injection q1 with _ q2 _
  have h3:=RJ (elems.map (·.1));rw [List.length_map] at h3;simp only [Rows.uptoBulk]
  omega
theorem tL {fs:Array Field} {cs:List Value} {n i:Nat} {f:Field} {y:DataW H × List MemPlace} (ht:P.underlying t=some (.struct fs)) (h:DataW.trod enc P W base sp held n t cs=some y) (hf:fs[i]? = some f):∃m yi,DataW.trod enc P W base sp held m f.type ((cs.drop f.offset).take (P.cellsOf f.type))=some yi∧Rows.uptoBulk yi.1≤Rows.uptoBulk y.1:=by
 obtain ⟨xs,m,rfl,rfl,_,hl,hp⟩:=DataW.trod_struct ht h;have hi:=(Array.getElem?_eq_some_iff.1 hf).1;have h2:=hp i f hf;rw [List.getElem?_eq_getElem (by omega)] at h2;refine ⟨m,xs[i]'(by omega),h2,?_⟩;have h3:=Le (d:=(xs[i]'(by omega)).1) (l:=xs.map (·.1)) (List.mem_map.2 ⟨_,List.getElem_mem _,rfl⟩);simp only [Rows.uptoBulk]
 omega
theorem GT {ds:List (DataW H)} {d:DataW H} (hk:Rows.uptoSmall H ds=true) (hm:d∈ds):Rows.uptoBulk d≤1048576:=by
 have h1:Rows.uptoBulkAll ds≤1048576:=of_decide_eq_true hk;have h2:=Le hm
 omega
theorem aBk {k:IntKind} (ht:P.underlying t=some (.int k)) (hv:Value.okWide P W r b0 t v) (h:DataW.Trod enc P W base sp held t v d p):∃u,v=u∧∃n y,DataW.trod enc P W base sp held n t [u]=some y:=by
 obtain ⟨s,rfl⟩:=okWide_int ht hv;obtain ⟨fuel,hf⟩:=h;exact ⟨_,rfl,fuel,_,hf⟩
end
section
variable {H:Type} {enc:TypeId × Value→H} {W:World} {base:Nat} {sp:Nat→Bool} {held:Bool}
theorem Ia:Tryz.prog.cellsOf 3=1:=by kernel_rfl
theorem HT (n:Nat) (cs:List Value) (y) (h:DataW.trod enc Tryz.prog W base sp held n 3 cs=some y):∃(x0:Int),cs=[.int .i64 x0]∧wf64 x0:=by
 obtain ⟨z,rfl,_,wz⟩:=DataW.trod_int Tryz.underlying3 h;exact ⟨z,rfl,aA4 wz⟩
theorem aBl:Tryz.prog.cellsOf 29=1:=by kernel_rfl
theorem aFU (n:Nat) (cs:List Value) (y) (h:DataW.trod enc Tryz.prog W base sp held n 29 cs=some y):∃(x0:List Int) (A0:Option Addr) (c0:Nat),cs=[.slice A0 x0.length c0]∧(SL W (cI .i64) A0 x0∧x0.length≤c0∧c0≤maxLen∧∀y∈x0,wf64 y):=by
 obtain ⟨A,n,c,xs,rfl,rfl,hr,hnc,hc,hq⟩:=Gc (C:=(cI .i64)) (Q:=fun y=>wf64 y) Tryz.underlying29 (by kernel_rfl) (fun n cs' y h=>by
  obtain ⟨ex0,rfl,ef0⟩:=HT n cs' y h
  exact ⟨ex0,rfl,ef0⟩) h
 exact ⟨xs,A,c,rfl,hr,hnc,hc,hq⟩
theorem ot9 (n:Nat) (cs:List Value) (y) (h:DataW.trod enc Tryz.prog W base sp held n 9 cs=some y):∃(x0:List UInt8),cs=[.string (bs x0)]∧x0.length≤maxLen:=by
 obtain ⟨z,rfl,_,wz⟩:=DataW.trod_string Tryz.underlying9 h;exact ⟨z.data.toList,rfl,by simpa using wz⟩
theorem aFV:Tryz.prog.cellsOf 35=1:=by kernel_rfl
theorem aHP (n:Nat) (cs:List Value) (y) (h:DataW.trod enc Tryz.prog W base sp held n 35 cs=some y):∃(x0:List (List UInt8)) (A0:Option Addr) (c0:Nat),cs=[.slice A0 x0.length c0]∧(SL W cS A0 x0∧x0.length≤c0∧c0≤maxLen∧∀y∈x0,y.length≤maxLen):=by
 obtain ⟨A,n,c,xs,rfl,rfl,hr,hnc,hc,hq⟩:=Gc (C:=cS) (Q:=fun y=>y.length≤maxLen) Tryz.underlying35 (by kernel_rfl) (fun n cs' y h=>by
  obtain ⟨ex0,rfl,ef0⟩:=ot9 n cs' y h
  exact ⟨ex0,rfl,ef0⟩) h
 exact ⟨xs,A,c,rfl,hr,hnc,hc,hq⟩
theorem aFW:Tryz.prog.cellsOf 22=4:=by kernel_rfl
theorem aHQ (n:Nat) (cs:List Value) (y) (h:DataW.trod enc Tryz.prog W base sp held n 22 cs=some y):∃(x0:Int) (x1:Int) (x2:Int) (x3:Int),cs=[.int .i64 x0,.int .i64 x1,.int .i64 x2,.int .i64 x3]∧wf64 x0∧wf64 x1∧wf64 x2∧wf64 x3:=by
 obtain ⟨ys,m,_,_,hl,hyl,hf⟩:=DataW.trod_array Tryz.underlying22 h;obtain ⟨GU,e0,GV⟩:=HT _ _ _ ((hf 0 (by decide)).trans (List.getElem?_eq_getElem (show 0<ys.length by rw [hyl];decide)));change List.take (Tryz.prog.cellsOf 3) (List.drop (0*Tryz.prog.cellsOf 3) cs)=_ at e0;rw [Ia] at e0;obtain ⟨GW,e1,GX⟩:=HT _ _ _ ((hf 1 (by decide)).trans (List.getElem?_eq_getElem (show 1<ys.length by rw [hyl];decide)));change List.take (Tryz.prog.cellsOf 3) (List.drop (1*Tryz.prog.cellsOf 3) cs)=_ at e1;rw [Ia] at e1;obtain ⟨Jv,e2,Jw⟩:=HT _ _ _ ((hf 2 (by decide)).trans (List.getElem?_eq_getElem (show 2<ys.length by rw [hyl];decide)));change List.take (Tryz.prog.cellsOf 3) (List.drop (2*Tryz.prog.cellsOf 3) cs)=_ at e2;rw [Ia] at e2;obtain ⟨TB,e3,TC⟩:=HT _ _ _ ((hf 3 (by decide)).trans (List.getElem?_eq_getElem (show 3<ys.length by rw [hyl];decide)));change List.take (Tryz.prog.cellsOf 3) (List.drop (3*Tryz.prog.cellsOf 3) cs)=_ at e3;rw [Ia] at e3;have hcs:cs=_:=List.drop_zero.symm.trans ((peel (i:=0) (k:=1) rfl e0).trans (congrArg _ ((peel (i:=1) (k:=1) rfl e1).trans (congrArg _ ((peel (i:=2) (k:=1) rfl e2).trans (congrArg _ ((peel (i:=3) (k:=1) rfl e3).trans (congrArg _ (Aq (k:=4) (hl.trans aFW))))))))));exact ⟨GU,GW,Jv,TB,hcs,GV,GX,Jw,TC⟩
theorem aHR:Tryz.prog.cellsOf 92=2:=by kernel_rfl
theorem aHS (n:Nat) (cs:List Value) (y) (h:DataW.trod enc Tryz.prog W base sp held n 92 cs=some y):∃(x0:Int) (x1:Int),cs=[.int .i64 x0,.int .i64 x1]∧wf64 x0∧wf64 x1:=by
 obtain ⟨ys,m,_,_,hl,hyl,hf⟩:=DataW.trod_struct Tryz.underlying92 h;obtain ⟨GU,e0,GV⟩:=HT _ _ _ ((hf 0 _ rfl).trans (List.getElem?_eq_getElem (show 0<ys.length by rw [hyl];decide)));change List.take (Tryz.prog.cellsOf 3) (List.drop 0 cs)=_ at e0;rw [Ia] at e0;obtain ⟨GW,e1,GX⟩:=HT _ _ _ ((hf 1 _ rfl).trans (List.getElem?_eq_getElem (show 1<ys.length by rw [hyl];decide)));change List.take (Tryz.prog.cellsOf 3) (List.drop 1 cs)=_ at e1;rw [Ia] at e1;have hcs:cs=_:=List.drop_zero.symm.trans ((peel (i:=0) (k:=1) rfl e0).trans (congrArg _ ((peel (i:=1) (k:=1) rfl e1).trans (congrArg _ (Aq (k:=2) (hl.trans aHR))))));exact ⟨GU,GW,hcs,GV,GX⟩
theorem aD6:Tryz.prog.cellsOf 23=1:=by kernel_rfl
theorem aHT (n:Nat) (cs:List Value) (y) (h:DataW.trod enc Tryz.prog W base sp held n 23 cs=some y):∃(x0:List (Int × Int)) (A0:Option Addr) (c0:Nat),cs=[.slice A0 x0.length c0]∧(SL W hG A0 x0∧x0.length≤c0∧c0≤maxLen∧∀y∈x0,wf64 y.1∧wf64 y.2):=by
 obtain ⟨A,n,c,xs,rfl,rfl,hr,hnc,hc,hq⟩:=Gc (C:=hG) (Q:=fun y=>wf64 y.1∧wf64 y.2) Tryz.underlying23 (by kernel_rfl) (fun n cs' y h=>by
  obtain ⟨ex0,ex1,rfl,ef0,ef1⟩:=aHS n cs' y h
  exact ⟨(ex0,ex1),rfl,ef0,ef1⟩) h
 exact ⟨xs,A,c,rfl,hr,hnc,hc,hq⟩
theorem aFX:Tryz.prog.cellsOf 24=3:=by kernel_rfl
theorem aHU (n:Nat) (cs:List Value) (y) (h:DataW.trod enc Tryz.prog W base sp held n 24 cs=some y):∃(x0:Int) (x1:Int) (x2:Int),cs=[.int .i64 x0,.int .i64 x1,.int .i64 x2]∧wf64 x0∧wf64 x1∧wf64 x2:=by
 obtain ⟨ys,m,_,_,hl,hyl,hf⟩:=DataW.trod_array Tryz.underlying24 h;obtain ⟨GU,e0,GV⟩:=HT _ _ _ ((hf 0 (by decide)).trans (List.getElem?_eq_getElem (show 0<ys.length by rw [hyl];decide)));change List.take (Tryz.prog.cellsOf 3) (List.drop (0*Tryz.prog.cellsOf 3) cs)=_ at e0;rw [Ia] at e0;obtain ⟨GW,e1,GX⟩:=HT _ _ _ ((hf 1 (by decide)).trans (List.getElem?_eq_getElem (show 1<ys.length by rw [hyl];decide)));change List.take (Tryz.prog.cellsOf 3) (List.drop (1*Tryz.prog.cellsOf 3) cs)=_ at e1;rw [Ia] at e1;obtain ⟨Jv,e2,Jw⟩:=HT _ _ _ ((hf 2 (by decide)).trans (List.getElem?_eq_getElem (show 2<ys.length by rw [hyl];decide)));change List.take (Tryz.prog.cellsOf 3) (List.drop (2*Tryz.prog.cellsOf 3) cs)=_ at e2;rw [Ia] at e2;have hcs:cs=_:=List.drop_zero.symm.trans ((peel (i:=0) (k:=1) rfl e0).trans (congrArg _ ((peel (i:=1) (k:=1) rfl e1).trans (congrArg _ ((peel (i:=2) (k:=1) rfl e2).trans (congrArg _ (Aq (k:=3) (hl.trans aFX))))))));exact ⟨GU,GW,Jv,hcs,GV,GX,Jw⟩
theorem aFY:Tryz.prog.cellsOf 25=9:=by kernel_rfl
theorem aHV (n:Nat) (cs:List Value) (y) (h:DataW.trod enc Tryz.prog W base sp held n 25 cs=some y):∃(x0:Int) (x1:Int) (x2:Int) (x3:Int) (x4:Int) (x5:Int) (x6:Int) (x7:Int) (x8:Int),cs=[.int .i64 x0,.int .i64 x1,.int .i64 x2,.int .i64 x3,.int .i64 x4,.int .i64 x5,.int .i64 x6,.int .i64 x7,.int .i64 x8]∧wf64 x0∧wf64 x1∧wf64 x2∧wf64 x3∧wf64 x4∧wf64 x5∧wf64 x6∧wf64 x7∧wf64 x8:=by
 obtain ⟨ys,m,_,_,hl,hyl,hf⟩:=DataW.trod_array Tryz.underlying25 h;obtain ⟨GU,e0,GV⟩:=HT _ _ _ ((hf 0 (by decide)).trans (List.getElem?_eq_getElem (show 0<ys.length by rw [hyl];decide)));change List.take (Tryz.prog.cellsOf 3) (List.drop (0*Tryz.prog.cellsOf 3) cs)=_ at e0;rw [Ia] at e0;obtain ⟨GW,e1,GX⟩:=HT _ _ _ ((hf 1 (by decide)).trans (List.getElem?_eq_getElem (show 1<ys.length by rw [hyl];decide)));change List.take (Tryz.prog.cellsOf 3) (List.drop (1*Tryz.prog.cellsOf 3) cs)=_ at e1;rw [Ia] at e1;obtain ⟨Jv,e2,Jw⟩:=HT _ _ _ ((hf 2 (by decide)).trans (List.getElem?_eq_getElem (show 2<ys.length by rw [hyl];decide)));change List.take (Tryz.prog.cellsOf 3) (List.drop (2*Tryz.prog.cellsOf 3) cs)=_ at e2;rw [Ia] at e2;obtain ⟨TB,e3,TC⟩:=HT _ _ _ ((hf 3 (by decide)).trans (List.getElem?_eq_getElem (show 3<ys.length by rw [hyl];decide)));change List.take (Tryz.prog.cellsOf 3) (List.drop (3*Tryz.prog.cellsOf 3) cs)=_ at e3;rw [Ia] at e3;obtain ⟨XY,e4,XZ⟩:=HT _ _ _ ((hf 4 (by decide)).trans (List.getElem?_eq_getElem (show 4<ys.length by rw [hyl];decide)));change List.take (Tryz.prog.cellsOf 3) (List.drop (4*Tryz.prog.cellsOf 3) cs)=_ at e4;rw [Ia] at e4;obtain ⟨X0,e5,X1⟩:=HT _ _ _ ((hf 5 (by decide)).trans (List.getElem?_eq_getElem (show 5<ys.length by rw [hyl];decide)));change List.take (Tryz.prog.cellsOf 3) (List.drop (5*Tryz.prog.cellsOf 3) cs)=_ at e5;rw [Ia] at e5;obtain ⟨X2,e6,X3⟩:=HT _ _ _ ((hf 6 (by decide)).trans (List.getElem?_eq_getElem (show 6<ys.length by rw [hyl];decide)));change List.take (Tryz.prog.cellsOf 3) (List.drop (6*Tryz.prog.cellsOf 3) cs)=_ at e6;rw [Ia] at e6;obtain ⟨X4,e7,X5⟩:=HT _ _ _ ((hf 7 (by decide)).trans (List.getElem?_eq_getElem (show 7<ys.length by rw [hyl];decide)));change List.take (Tryz.prog.cellsOf 3) (List.drop (7*Tryz.prog.cellsOf 3) cs)=_ at e7;rw [Ia] at e7;obtain ⟨aHW,e8,aHX⟩:=HT _ _ _ ((hf 8 (by decide)).trans (List.getElem?_eq_getElem (show 8<ys.length by rw [hyl];decide)));change List.take (Tryz.prog.cellsOf 3) (List.drop (8*Tryz.prog.cellsOf 3) cs)=_ at e8;rw [Ia] at e8;have hcs:cs=_:=List.drop_zero.symm.trans ((peel (i:=0) (k:=1) rfl e0).trans (congrArg _ ((peel (i:=1) (k:=1) rfl e1).trans (congrArg _ ((peel (i:=2) (k:=1) rfl e2).trans (congrArg _ ((peel (i:=3) (k:=1) rfl e3).trans (congrArg _ ((peel (i:=4) (k:=1) rfl e4).trans (congrArg _ ((peel (i:=5) (k:=1) rfl e5).trans (congrArg _ ((peel (i:=6) (k:=1) rfl e6).trans (congrArg _ ((peel (i:=7) (k:=1) rfl e7).trans (congrArg _ ((peel (i:=8) (k:=1) rfl e8).trans (congrArg _ (Aq (k:=9) (hl.trans aFY))))))))))))))))))));exact ⟨GU,GW,Jv,TB,XY,X0,X2,X4,aHW,hcs,GV,GX,Jw,TC,XZ,X1,X3,X5,aHX⟩
theorem aHY:Tryz.prog.cellsOf 47=2:=by kernel_rfl
theorem aHZ (n:Nat) (cs:List Value) (y) (h:DataW.trod enc Tryz.prog W base sp held n 47 cs=some y):∃(x0:Int) (x1:Int),cs=[.int .i64 x0,.int .i64 x1]∧wf64 x0∧wf64 x1:=by
 obtain ⟨ys,m,_,_,hl,hyl,hf⟩:=DataW.trod_struct Tryz.underlying47 h;obtain ⟨GU,e0,GV⟩:=HT _ _ _ ((hf 0 _ rfl).trans (List.getElem?_eq_getElem (show 0<ys.length by rw [hyl];decide)));change List.take (Tryz.prog.cellsOf 3) (List.drop 0 cs)=_ at e0;rw [Ia] at e0;obtain ⟨GW,e1,GX⟩:=HT _ _ _ ((hf 1 _ rfl).trans (List.getElem?_eq_getElem (show 1<ys.length by rw [hyl];decide)));change List.take (Tryz.prog.cellsOf 3) (List.drop 1 cs)=_ at e1;rw [Ia] at e1;have hcs:cs=_:=List.drop_zero.symm.trans ((peel (i:=0) (k:=1) rfl e0).trans (congrArg _ ((peel (i:=1) (k:=1) rfl e1).trans (congrArg _ (Aq (k:=2) (hl.trans aHY))))));exact ⟨GU,GW,hcs,GV,GX⟩
theorem aD7:Tryz.prog.cellsOf 26=1:=by kernel_rfl
theorem aH0 (n:Nat) (cs:List Value) (y) (h:DataW.trod enc Tryz.prog W base sp held n 26 cs=some y):∃(x0:List (Int × Int)) (A0:Option Addr) (c0:Nat),cs=[.slice A0 x0.length c0]∧(SL W hG A0 x0∧x0.length≤c0∧c0≤maxLen∧∀y∈x0,wf64 y.1∧wf64 y.2):=by
 obtain ⟨A,n,c,xs,rfl,rfl,hr,hnc,hc,hq⟩:=Gc (C:=hG) (Q:=fun y=>wf64 y.1∧wf64 y.2) Tryz.underlying26 (by kernel_rfl) (fun n cs' y h=>by
  obtain ⟨ex0,ex1,rfl,ef0,ef1⟩:=aHZ n cs' y h
  exact ⟨(ex0,ex1),rfl,ef0,ef1⟩) h
 exact ⟨xs,A,c,rfl,hr,hnc,hc,hq⟩
theorem aBm:Tryz.prog.cellsOf 28=21:=by kernel_rfl
theorem aFZ (n:Nat) (cs:List Value) (y) (h:DataW.trod enc Tryz.prog W base sp held n 28 cs=some y):∃(x0:Int) (x1:Int) (x2:Int) (x3:Int) (x4:Int) (x5:Int) (x6:List (Int × Int)) (A6:Option Addr) (c6:Nat) (x7:Int) (x8:Int) (x9:Int) (x10:Int) (P7:Int) (OR:Int) (Wf:Int) (x14:Int) (Wg:Int) (x16:Int) (x17:Int) (x18:Int) (x19:List (Int × Int)) (A19:Option Addr) (c19:Nat) (x20:Int),cs=[.int .i64 x0,.int .i64 x1,.int .i64 x2,.int .i64 x3,.int .i64 x4,.int .i64 x5,.slice A6 x6.length c6,.int .i64 x7,.int .i64 x8,.int .i64 x9,.int .i64 x10,.int .i64 P7,.int .i64 OR,.int .i64 Wf,.int .i64 x14,.int .i64 Wg,.int .i64 x16,.int .i64 x17,.int .i64 x18,.slice A19 x19.length c19,.int .i64 x20]∧wf64 x0∧wf64 x1∧wf64 x2∧wf64 x3∧wf64 x4∧wf64 x5∧(SL W hG A6 x6∧x6.length≤c6∧c6≤maxLen∧∀y∈x6,wf64 y.1∧wf64 y.2)∧wf64 x7∧wf64 x8∧wf64 x9∧wf64 x10∧wf64 P7∧wf64 OR∧wf64 Wf∧wf64 x14∧wf64 Wg∧wf64 x16∧wf64 x17∧wf64 x18∧(SL W hG A19 x19∧x19.length≤c19∧c19≤maxLen∧∀y∈x19,wf64 y.1∧wf64 y.2)∧wf64 x20:=by
 obtain ⟨ys,m,_,_,hl,hyl,hf⟩:=DataW.trod_struct Tryz.underlying28 h;obtain ⟨GU,e0,GV⟩:=HT _ _ _ ((hf 0 _ rfl).trans (List.getElem?_eq_getElem (show 0<ys.length by rw [hyl];decide)));change List.take (Tryz.prog.cellsOf 3) (List.drop 0 cs)=_ at e0;rw [Ia] at e0;obtain ⟨GW,aH1,aH2,aH3,e1,GX,aH4,aH5,aH6⟩:=aHQ _ _ _ ((hf 1 _ rfl).trans (List.getElem?_eq_getElem (show 1<ys.length by rw [hyl];decide)));change List.take (Tryz.prog.cellsOf 22) (List.drop 1 cs)=_ at e1;rw [aFW] at e1;obtain ⟨Jv,e2,Jw⟩:=HT _ _ _ ((hf 2 _ rfl).trans (List.getElem?_eq_getElem (show 2<ys.length by rw [hyl];decide)));change List.take (Tryz.prog.cellsOf 3) (List.drop 5 cs)=_ at e2;rw [Ia] at e2;obtain ⟨TB,aH7,aH8,e3,TC⟩:=aHT _ _ _ ((hf 3 _ rfl).trans (List.getElem?_eq_getElem (show 3<ys.length by rw [hyl];decide)));change List.take (Tryz.prog.cellsOf 23) (List.drop 6 cs)=_ at e3;rw [aD6] at e3;obtain ⟨XY,aH9,aIa,e4,XZ,aIb,aIc⟩:=aHU _ _ _ ((hf 4 _ rfl).trans (List.getElem?_eq_getElem (show 4<ys.length by rw [hyl];decide)));change List.take (Tryz.prog.cellsOf 24) (List.drop 7 cs)=_ at e4;rw [aFX] at e4;obtain ⟨X0,aId,aIe,aIf,aIg,aIh,aIi,aIj,aIk,e5,X1,aIl,aIm,aIn,aIo,aIp,aIq,aIr,aIs⟩:=aHV _ _ _ ((hf 5 _ rfl).trans (List.getElem?_eq_getElem (show 5<ys.length by rw [hyl];decide)));change List.take (Tryz.prog.cellsOf 25) (List.drop 10 cs)=_ at e5;rw [aFY] at e5;obtain ⟨X2,aD8,aD9,e6,X3⟩:=aH0 _ _ _ ((hf 6 _ rfl).trans (List.getElem?_eq_getElem (show 6<ys.length by rw [hyl];decide)));change List.take (Tryz.prog.cellsOf 26) (List.drop 19 cs)=_ at e6;rw [aD7] at e6;obtain ⟨X4,e7,X5⟩:=HT _ _ _ ((hf 7 _ rfl).trans (List.getElem?_eq_getElem (show 7<ys.length by rw [hyl];decide)));change List.take (Tryz.prog.cellsOf 3) (List.drop 20 cs)=_ at e7;rw [Ia] at e7;have hcs:cs=_:=List.drop_zero.symm.trans ((peel (i:=0) (k:=1) rfl e0).trans (congrArg _ ((peel (i:=1) (k:=4) rfl e1).trans (congrArg _ ((peel (i:=5) (k:=1) rfl e2).trans (congrArg _ ((peel (i:=6) (k:=1) rfl e3).trans (congrArg _ ((peel (i:=7) (k:=3) rfl e4).trans (congrArg _ ((peel (i:=10) (k:=9) rfl e5).trans (congrArg _ ((peel (i:=19) (k:=1) rfl e6).trans (congrArg _ ((peel (i:=20) (k:=1) rfl e7).trans (congrArg _ (Aq (k:=21) (hl.trans aBm))))))))))))))))));exact ⟨GU,GW,aH1,aH2,aH3,Jv,TB,aH7,aH8,XY,aH9,aIa,X0,aId,aIe,aIf,aIg,aIh,aIi,aIj,aIk,X2,aD8,aD9,X4,hcs,GV,GX,aH4,aH5,aH6,Jw,TC,XZ,aIb,aIc,X1,aIl,aIm,aIn,aIo,aIp,aIq,aIr,aIs,X3,X5⟩
theorem aIt:Tryz.prog.cellsOf 37=28:=by kernel_rfl
theorem aIu (n:Nat) (cs:List Value) (y) (h:DataW.trod enc Tryz.prog W base sp held n 37 cs=some y):∃(x0:Int) (x1:Int) (x2:Int) (x3:Int) (x4:Int) (x5:List Int) (A5:Option Addr) (c5:Nat) (x6:List (List UInt8)) (A6:Option Addr) (c6:Nat) (x7:Int) (x8:Int) (x9:Int) (x10:Int) (P7:Int) (OR:Int) (Wf:List (Int × Int)) (Rw:Option Addr) (c13:Nat) (x14:Int) (Wg:Int) (x16:Int) (x17:Int) (x18:Int) (x19:Int) (x20:Int) (x21:Int) (Tk:Int) (x23:Int) (x24:Int) (x25:Int) (x26:List (Int × Int)) (X6:Option Addr) (Xt:Nat) (x27:Int),cs=[.int .i64 x0,.int .i64 x1,.int .i64 x2,.int .i64 x3,.int .i64 x4,.slice A5 x5.length c5,.slice A6 x6.length c6,.int .i64 x7,.int .i64 x8,.int .i64 x9,.int .i64 x10,.int .i64 P7,.int .i64 OR,.slice Rw Wf.length c13,.int .i64 x14,.int .i64 Wg,.int .i64 x16,.int .i64 x17,.int .i64 x18,.int .i64 x19,.int .i64 x20,.int .i64 x21,.int .i64 Tk,.int .i64 x23,.int .i64 x24,.int .i64 x25,.slice X6 x26.length Xt,.int .i64 x27]∧wf64 x0∧wf64 x1∧wf64 x2∧wf64 x3∧wf64 x4∧(SL W (cI .i64) A5 x5∧x5.length≤c5∧c5≤maxLen∧∀y∈x5,wf64 y)∧(SL W cS A6 x6∧x6.length≤c6∧c6≤maxLen∧∀y∈x6,y.length≤maxLen)∧wf64 x7∧wf64 x8∧wf64 x9∧wf64 x10∧wf64 P7∧wf64 OR∧(SL W hG Rw Wf∧Wf.length≤c13∧c13≤maxLen∧∀y∈Wf,wf64 y.1∧wf64 y.2)∧wf64 x14∧wf64 Wg∧wf64 x16∧wf64 x17∧wf64 x18∧wf64 x19∧wf64 x20∧wf64 x21∧wf64 Tk∧wf64 x23∧wf64 x24∧wf64 x25∧(SL W hG X6 x26∧x26.length≤Xt∧Xt≤maxLen∧∀y∈x26,wf64 y.1∧wf64 y.2)∧wf64 x27:=by
 obtain ⟨ys,m,_,_,hl,hyl,hf⟩:=DataW.trod_struct Tryz.underlying37 h;obtain ⟨GU,e0,GV⟩:=HT _ _ _ ((hf 0 _ rfl).trans (List.getElem?_eq_getElem (show 0<ys.length by rw [hyl];decide)));change List.take (Tryz.prog.cellsOf 3) (List.drop 0 cs)=_ at e0;rw [Ia] at e0;obtain ⟨GW,e1,GX⟩:=HT _ _ _ ((hf 1 _ rfl).trans (List.getElem?_eq_getElem (show 1<ys.length by rw [hyl];decide)));change List.take (Tryz.prog.cellsOf 3) (List.drop 1 cs)=_ at e1;rw [Ia] at e1;obtain ⟨Jv,e2,Jw⟩:=HT _ _ _ ((hf 2 _ rfl).trans (List.getElem?_eq_getElem (show 2<ys.length by rw [hyl];decide)));change List.take (Tryz.prog.cellsOf 3) (List.drop 2 cs)=_ at e2;rw [Ia] at e2;obtain ⟨TB,e3,TC⟩:=HT _ _ _ ((hf 3 _ rfl).trans (List.getElem?_eq_getElem (show 3<ys.length by rw [hyl];decide)));change List.take (Tryz.prog.cellsOf 3) (List.drop 3 cs)=_ at e3;rw [Ia] at e3;obtain ⟨XY,e4,XZ⟩:=HT _ _ _ ((hf 4 _ rfl).trans (List.getElem?_eq_getElem (show 4<ys.length by rw [hyl];decide)));change List.take (Tryz.prog.cellsOf 3) (List.drop 4 cs)=_ at e4;rw [Ia] at e4;obtain ⟨X0,aIv,aIw,e5,X1⟩:=aFU _ _ _ ((hf 5 _ rfl).trans (List.getElem?_eq_getElem (show 5<ys.length by rw [hyl];decide)));change List.take (Tryz.prog.cellsOf 29) (List.drop 5 cs)=_ at e5;rw [aBl] at e5;obtain ⟨X2,aD8,aD9,e6,X3⟩:=aHP _ _ _ ((hf 6 _ rfl).trans (List.getElem?_eq_getElem (show 6<ys.length by rw [hyl];decide)));change List.take (Tryz.prog.cellsOf 35) (List.drop 6 cs)=_ at e6;rw [aFV] at e6;obtain ⟨X4,aIx,aIy,aIz,aIA,aIB,aIC,aID,aIE,aIF,aIG,aIH,aF0,aF1,aF2,aF3,aF4,aF5,aF6,aF7,aF8,aF9,aGa,aGb,aGc,e7,X5,aII,aIJ,aIK,aIL,aIM,aIN,aIO,aIP,aIQ,aGd,aGe,aGf,aGg,aGh,aGi,aGj,aGk,aGl,aGm,aGn⟩:=aFZ _ _ _ ((hf 7 _ rfl).trans (List.getElem?_eq_getElem (show 7<ys.length by rw [hyl];decide)));change List.take (Tryz.prog.cellsOf 28) (List.drop 7 cs)=_ at e7;rw [aBm] at e7;have hcs:cs=_:=List.drop_zero.symm.trans ((peel (i:=0) (k:=1) rfl e0).trans (congrArg _ ((peel (i:=1) (k:=1) rfl e1).trans (congrArg _ ((peel (i:=2) (k:=1) rfl e2).trans (congrArg _ ((peel (i:=3) (k:=1) rfl e3).trans (congrArg _ ((peel (i:=4) (k:=1) rfl e4).trans (congrArg _ ((peel (i:=5) (k:=1) rfl e5).trans (congrArg _ ((peel (i:=6) (k:=1) rfl e6).trans (congrArg _ ((peel (i:=7) (k:=21) rfl e7).trans (congrArg _ (Aq (k:=28) (hl.trans aIt))))))))))))))))));exact ⟨GU,GW,Jv,TB,XY,X0,aIv,aIw,X2,aD8,aD9,X4,aIx,aIy,aIz,aIA,aIB,aIC,aID,aIE,aIF,aIG,aIH,aF0,aF1,aF2,aF3,aF4,aF5,aF6,aF7,aF8,aF9,aGa,aGb,aGc,hcs,GV,GX,Jw,TC,XZ,X1,X3,X5,aII,aIJ,aIK,aIL,aIM,aIN,aIO,aIP,aIQ,aGd,aGe,aGf,aGg,aGh,aGi,aGj,aGk,aGl,aGm,aGn⟩
theorem aIR:Tryz.prog.cellsOf 31=3:=by kernel_rfl
theorem aIS (n:Nat) (cs:List Value) (y) (h:DataW.trod enc Tryz.prog W base sp held n 31 cs=some y):∃(x0:Int) (x1:Int) (x2:List Int) (A2:Option Addr) (c2:Nat),cs=[.int .i64 x0,.int .i64 x1,.slice A2 x2.length c2]∧wf64 x0∧wf64 x1∧(SL W (cI .i64) A2 x2∧x2.length≤c2∧c2≤maxLen∧∀y∈x2,wf64 y):=by
 obtain ⟨ys,m,_,_,hl,hyl,hf⟩:=DataW.trod_struct Tryz.underlying31 h;obtain ⟨GU,e0,GV⟩:=HT _ _ _ ((hf 0 _ rfl).trans (List.getElem?_eq_getElem (show 0<ys.length by rw [hyl];decide)));change List.take (Tryz.prog.cellsOf 3) (List.drop 0 cs)=_ at e0;rw [Ia] at e0;obtain ⟨GW,e1,GX⟩:=HT _ _ _ ((hf 1 _ rfl).trans (List.getElem?_eq_getElem (show 1<ys.length by rw [hyl];decide)));change List.take (Tryz.prog.cellsOf 3) (List.drop 1 cs)=_ at e1;rw [Ia] at e1;obtain ⟨Jv,aEa,aEb,e2,Jw⟩:=aFU _ _ _ ((hf 2 _ rfl).trans (List.getElem?_eq_getElem (show 2<ys.length by rw [hyl];decide)));change List.take (Tryz.prog.cellsOf 29) (List.drop 2 cs)=_ at e2;rw [aBl] at e2;have hcs:cs=_:=List.drop_zero.symm.trans ((peel (i:=0) (k:=1) rfl e0).trans (congrArg _ ((peel (i:=1) (k:=1) rfl e1).trans (congrArg _ ((peel (i:=2) (k:=1) rfl e2).trans (congrArg _ (Aq (k:=3) (hl.trans aIR))))))));exact ⟨GU,GW,Jv,aEa,aEb,hcs,GV,GX,Jw⟩
theorem aIT:Tryz.prog.cellsOf 42=3:=by kernel_rfl
theorem aIU (n:Nat) (cs:List Value) (y) (h:DataW.trod enc Tryz.prog W base sp held n 42 cs=some y):∃(x0:Int) (x1:Int) (x2:Int),cs=[.int .i64 x0,.int .i64 x1,.int .i64 x2]∧wf64 x0∧wf64 x1∧wf64 x2:=by
 obtain ⟨ys,m,_,_,hl,hyl,hf⟩:=DataW.trod_struct Tryz.underlying42 h;obtain ⟨GU,e0,GV⟩:=HT _ _ _ ((hf 0 _ rfl).trans (List.getElem?_eq_getElem (show 0<ys.length by rw [hyl];decide)));change List.take (Tryz.prog.cellsOf 3) (List.drop 0 cs)=_ at e0;rw [Ia] at e0;obtain ⟨GW,e1,GX⟩:=HT _ _ _ ((hf 1 _ rfl).trans (List.getElem?_eq_getElem (show 1<ys.length by rw [hyl];decide)));change List.take (Tryz.prog.cellsOf 3) (List.drop 1 cs)=_ at e1;rw [Ia] at e1;obtain ⟨Jv,e2,Jw⟩:=HT _ _ _ ((hf 2 _ rfl).trans (List.getElem?_eq_getElem (show 2<ys.length by rw [hyl];decide)));change List.take (Tryz.prog.cellsOf 3) (List.drop 2 cs)=_ at e2;rw [Ia] at e2;have hcs:cs=_:=List.drop_zero.symm.trans ((peel (i:=0) (k:=1) rfl e0).trans (congrArg _ ((peel (i:=1) (k:=1) rfl e1).trans (congrArg _ ((peel (i:=2) (k:=1) rfl e2).trans (congrArg _ (Aq (k:=3) (hl.trans aIT))))))));exact ⟨GU,GW,Jv,hcs,GV,GX,Jw⟩
theorem aGo:Tryz.prog.cellsOf 32=1:=by kernel_rfl
theorem aIV (n:Nat) (cs:List Value) (y) (h:DataW.trod enc Tryz.prog W base sp held n 32 cs=some y):∃(x0:List (Int × Int × Int)) (A0:Option Addr) (c0:Nat),cs=[.slice A0 x0.length c0]∧(SL W aN A0 x0∧x0.length≤c0∧c0≤maxLen∧∀y∈x0,wf64 y.1∧wf64 y.2.1∧wf64 y.2.2):=by
 obtain ⟨A,n,c,xs,rfl,rfl,hr,hnc,hc,hq⟩:=Gc (C:=aN) (Q:=fun y=>wf64 y.1∧wf64 y.2.1∧wf64 y.2.2) Tryz.underlying32 (by kernel_rfl) (fun n cs' y h=>by
  obtain ⟨ex0,ex1,ex2,rfl,ef0,ef1,ef2⟩:=aIU n cs' y h
  exact ⟨(ex0,ex1,ex2),rfl,ef0,ef1,ef2⟩) h
 exact ⟨xs,A,c,rfl,hr,hnc,hc,hq⟩
theorem aIW:Tryz.prog.cellsOf 34=3:=by kernel_rfl
theorem aIX (n:Nat) (cs:List Value) (y) (h:DataW.trod enc Tryz.prog W base sp held n 34 cs=some y):∃(x0:Int) (x1:Int) (x2:List (Int × Int × Int)) (A2:Option Addr) (c2:Nat),cs=[.int .i64 x0,.int .i64 x1,.slice A2 x2.length c2]∧wf64 x0∧wf64 x1∧(SL W aN A2 x2∧x2.length≤c2∧c2≤maxLen∧∀y∈x2,wf64 y.1∧wf64 y.2.1∧wf64 y.2.2):=by
 obtain ⟨ys,m,_,_,hl,hyl,hf⟩:=DataW.trod_struct Tryz.underlying34 h;obtain ⟨GU,e0,GV⟩:=HT _ _ _ ((hf 0 _ rfl).trans (List.getElem?_eq_getElem (show 0<ys.length by rw [hyl];decide)));change List.take (Tryz.prog.cellsOf 3) (List.drop 0 cs)=_ at e0;rw [Ia] at e0;obtain ⟨GW,e1,GX⟩:=HT _ _ _ ((hf 1 _ rfl).trans (List.getElem?_eq_getElem (show 1<ys.length by rw [hyl];decide)));change List.take (Tryz.prog.cellsOf 3) (List.drop 1 cs)=_ at e1;rw [Ia] at e1;obtain ⟨Jv,aEa,aEb,e2,Jw⟩:=aIV _ _ _ ((hf 2 _ rfl).trans (List.getElem?_eq_getElem (show 2<ys.length by rw [hyl];decide)));change List.take (Tryz.prog.cellsOf 32) (List.drop 2 cs)=_ at e2;rw [aGo] at e2;have hcs:cs=_:=List.drop_zero.symm.trans ((peel (i:=0) (k:=1) rfl e0).trans (congrArg _ ((peel (i:=1) (k:=1) rfl e1).trans (congrArg _ ((peel (i:=2) (k:=1) rfl e2).trans (congrArg _ (Aq (k:=3) (hl.trans aIW))))))));exact ⟨GU,GW,Jv,aEa,aEb,hcs,GV,GX,Jw⟩
end
end
section
open Go
def X7 (W x y v:Int):Nat→Int→List (Int × Int)
 | 0,_=>[]
 | k+1,u=>if u≤x+1∧u<W then (if u≠x∨v≠y then (u,v)::X7 W x y v k (u+1) else X7 W x y v k (u+1)) else []
def Wh (W H x y:Int):Nat→Int→List (Int × Int)
 | 0,_=>[]
 | k+1,v=>if v≤y+1∧v<H then X7 W x y v 4 (max (x-1) 0)++Wh W H x y k (v+1) else []
def lG (W H x y:Int):List (Int × Int):=Wh W H x y 4 (max (y-1) 0)
abbrev InP (W H:Int):={ q:Int × Int // 0≤q.1∧q.1<W∧0≤q.2∧q.2<H }
def RK (W H:Int) (P:List Int) (x y:Int):Prop:=0≤x∧x<W∧W≤64∧0≤y∧y<H∧H≤64∧(P.length:Int)=W*H
instance (W H:Int) (P:List Int) (x y:Int):Decidable (RK W H P x y):=by unfold RK;infer_instance
theorem Wi {p:Prop} [Decidable p] {α:Type} {x:Option α} {r:α} (h:cond (decide p) x none=some r):p∧x=some r:=by
 by_cases hp:p
 ·rw [decide_eq_true hp] at h;exact ⟨hp,h⟩
 ·rw [decide_eq_false hp] at h;cases h
end
section
def qP {α:Type} (xs:List α):Option Unit:=match xs with | []=>none | _=>some ()
def Wj (xs ys:List UInt8):Option (List UInt8):=if xs.length+ys.length≤9223372036854775807 then some (xs++ys) else none
theorem Wk {xs ys zs:List UInt8} (h:Wj xs ys=some zs):zs=xs++ys∧xs.length+ys.length≤9223372036854775807:=by
 unfold Wj at h
 split at h
 ·rename_i h0;exact ⟨(Option.some.inj h).symm,h0⟩
 ·cases h
def toB (ns:List Int):List UInt8:=ns.map fun n=>UInt8.ofNat n.toNat
def Cc (s:List UInt8):List Int:=s.map fun b=>(b.toNat:Int)
def yM (N:Nat) (s cutset:List UInt8):Option (List UInt8):=if s.length≤9223372036854775807∧cutset.length<4294967281∧cutset.all (fun b=>decide (b.toNat<128))=true then some (Go.Lib.trimS s cutset) else none
def uJ (N:Nat) (s substr:List UInt8):Option Int:=match substr with
 | [c]=>some ((Go.Lib.countByte s c:Nat):Int)
 | _=>none
def U0 (xs ys:List UInt8):Option (List UInt8):=if xs.length+ys.length≤140737488355328 then some (xs++ys) else none
theorem X9 {xs ys zs:List UInt8} (h:U0 xs ys=some zs):zs=xs++ys∧xs.length+ys.length≤140737488355328:=by
 unfold U0 at h
 split at h
 ·rename_i h0;exact ⟨(Option.some.inj h).symm,h0⟩
 ·cases h
end
end Go.Proofs.YtpmnfhifmmfglacGreatDoor
