/- Texts of the claim RestPictures, joined and made small by a program. -/
import Derived.BigQuiet
import Derived.Deep.AppendLies
import Derived.Deep.DeepMust
import Derived.Deep.QuietTactic
import Derived.Handy
import Derived.Lib.Hide
import Derived.Maps.AppendAt
import Derived.Orders
import Derived.Tactics
import Derived.WalkKit
import Derived.WalkLawsBesides
import Derived.WalkSpells
set_option linter.unusedVariables false
set_option linter.unusedSimpArgs false
set_option linter.unusedSectionVars false
set_option maxRecDepth 100000
set_option maxHeartbeats 8000000
namespace Go.Proofs.YtpmnfhifmmfglacGreatDoor
section
open Go.RowKit
theorem XK {a b:Int} (h:a=b):Ending.returned (.int .i64 a) = .returned (.int .i64 b):=by rw [h]
theorem UT {a b:Bool} (h:a=b):Ending.returned (.bool a) = .returned (.bool b):=by rw [h]
def RV (w:World) (B s:Nat) (A:Option Addr) (n:Nat) (xs:List Value):Prop:=
 xs.length=n*s∧(0<n→∃b o,A=some ⟨b,o,none⟩∧B≤b∧b<w.heap.size∧∀j u,xs[j]? = some u→w.cell? ⟨b,o+j,none⟩=some u)
def VI (xs:List Int):List Value:=xs.map (.int .i64)
def RI (w:World) (B:Nat) (A:Option Addr) (n:Nat) (xs:List Int):Prop:=RV w B 1 A n (VI xs)
section
variable {w w':World} {B B' s n:Nat} {A:Option Addr} {vs:List Value} {xs:List Int}
theorem RV.below (h:RV w B s A n vs) (hb:Below B' w w') (hB:w.heap.size≤B'):RV w' B s A n vs:=
 ⟨h.1,fun hn=>by
  obtain ⟨b,o,hA,h1,h2,hc⟩:=h.2 hn;refine ⟨b,o,hA,h1,Nat.lt_of_lt_of_le h2 hb.size,fun j u hu=>?_⟩
  exact (hb.cell (p:=⟨b,o+j,none⟩) (by show b<B';omega)).trans (hc j u hu)⟩
theorem RV.base (h:RV w B s A n vs) (hB:B'≤B):RV w B' s A n vs:=
 ⟨h.1,fun hn=>by
  obtain ⟨b,o,hA,h1,h2,hc⟩:=h.2 hn
  exact ⟨b,o,hA,by omega,h2,hc⟩⟩
theorem RV.BI (h:RV w B s A n vs) {p:Addr} (hp:p.block<B) (u:Value):RV (w.setCell p u) B s A n vs:=
 ⟨h.1,fun hn=>by
  obtain ⟨b,o,hA,h1,h2,hc⟩:=h.2 hn;refine ⟨b,o,hA,h1,by simpa [World.setCell] using h2,fun j x hx=>?_⟩;rw [World.cell?_of_block (w:=w) (a:=⟨b,o+j,none⟩) (Below.heap_setCell w p u b (by omega))]
  exact hc j x hx⟩
theorem RV.alloc (h:RV w B s A n vs) (o:Obj):RV (w.alloc o) B s A n vs:=h.below (B':=w.heap.size) ((Below.refl _ _).alloc (Nat.le_refl _) o) (Nat.le_refl _)
theorem RV.drew (h:RV w B s A n vs):RV w.drew B s A n vs:=h
theorem RV.nil:RV w B s A 0 []:=⟨by simp,fun h=>absurd h (by omega)⟩
theorem RI.len (h:RI w B A n xs):xs.length=n:=by
 have:=h.1;simp [VI] at this;omega
theorem RI.below (h:RI w B A n xs) (hb:Below B' w w') (hB:w.heap.size≤B'):RI w' B A n xs:=RV.below h hb hB
theorem RI.base (h:RI w B A n xs) (hB:B'≤B):RI w B' A n xs:=RV.base h hB
theorem RI.BI (h:RI w B A n xs) {p:Addr} (hp:p.block<B) (u:Value):RI (w.setCell p u) B A n xs:=RV.BI h hp u
theorem RI.alloc (h:RI w B A n xs) (o:Obj):RI (w.alloc o) B A n xs:=RV.alloc h o
theorem RI.nil:RI w B A 0 []:=RV.nil
theorem RI.at_ (h:RI w B A n xs) (k:Nat) (hk:k<n) :
  ∃b o x,A=some ⟨b,o,none⟩∧b<w.heap.size∧xs[k]? = some x∧w.cell? ⟨b,o+k,none⟩=some (.int .i64 x):=by
 obtain ⟨b,o,hA,_,hb,hc⟩:=h.2 (by omega);have hl:k<xs.length:=by rw [h.len];exact hk
 exact ⟨b,o,xs[k],hA,hb,List.getElem?_eq_getElem hl,hc k _ (by simp [VI,List.getElem?_eq_getElem hl])⟩
end
def jM (w:World) (g:Nat) (t:TypeId) (cs:Array Value):Prop:=w.heap[g]? = some (.cells cs t (0,0))
section
variable {w w':World} {g B:Nat} {t:TypeId} {cs cs':Array Value}
theorem jM.cell (h:jM w g t cs) (i:Nat):w.cell? ⟨g,i,none⟩=cs[i]?:=cell_of_row w g i cs t (0,0) h
theorem jM.frozen (h:jM w g t cs) (i:Nat):w.frozen? ⟨g,i,none⟩=false:=by
 unfold jM at h
 simp [World.frozen?,h]
theorem jM.lt (h:jM w g t cs):g<w.heap.size:=lt_of_block h
theorem jM.new (w:World) (t:TypeId) (cs:Array Value):jM (w.alloc (.cells cs t)) w.heap.size t cs:=heap_alloc_new w _
theorem jM.newAt (hg:g=w.heap.size):jM (w.alloc (.cells cs t)) g t cs:=by rw [hg];exact jM.new w t cs
theorem jM.alloc (h:jM w g t cs) (o:Obj):jM (w.alloc o) g t cs:=(Below.heap_alloc w o g h.lt).trans h
theorem jM.below (h:jM w g t cs) (hb:Below B w w') (hg:g<B):jM w' g t cs:=(hb.block g hg).trans h
theorem jM.drew (h:jM w g t cs):jM w.drew g t cs:=h
theorem jM.BI (h:jM w g t cs) (i:Nat) (u:Value) (hc:cs'=cs.setIfInBounds i u):jM (w.setCell ⟨g,i,none⟩ u) g t cs':=by
 subst hc;unfold jM at h ⊢
 simp [World.setCell,Array.getElem?_modify,h]
theorem jM.far (h:jM w g t cs) {p:Addr} (hp:g≠p.block) (u:Value):jM (w.setCell p u) g t cs:=(Below.heap_setCell w p u g hp).trans h
theorem jM.c1 {a:Value} (h:jM w g t #[a]):w.cell? ⟨g,0,none⟩=some a∧w.frozen? ⟨g,0,none⟩=false:=⟨h.cell 0,h.frozen 0⟩
theorem jM.c2 {a b:Value} (h:jM w g t #[a,b]):w.cell? ⟨g,0,none⟩=some a∧w.cell? ⟨g,1,none⟩=some b:=⟨h.cell 0,h.cell 1⟩
theorem jM.c3 {a b c:Value} (h:jM w g t #[a,b,c]):w.cell? ⟨g,0,none⟩=some a∧w.cell? ⟨g,1,none⟩=some b∧w.cell? ⟨g,2,none⟩=some c:=⟨h.cell 0,h.cell 1,h.cell 2⟩
theorem jM.f3 (h:jM w g t cs):w.frozen? ⟨g,0,none⟩=false∧w.frozen? ⟨g,1,none⟩=false∧w.frozen? ⟨g,2,none⟩=false:=⟨h.frozen 0,h.frozen 1,h.frozen 2⟩
end
section
variable {w wx:World} {B:Nat} {a:Addr} {v:Value} {o:Obj}
theorem Tu (hb:Below B w wx) (h:w.cell? a=some v) (ha:a.block<B):wx.cell? a=some v:=(hb.cell ha).trans h
theorem aDV {v:Bool} (hb:Below B w wx) (h:w.frozen? a=v) (ha:a.block<B):wx.frozen? a=v:=(hb.frozen ha).trans h
theorem UU (h:w.cell? a=some v):(w.alloc o).cell? a=some v:=by
 rw [World.cell?_alloc_lt w o a (block_lt_of_cell h)];exact h
end
theorem I7 {α:Type} (p:α→Bool) (xs:List α) (k:Nat) (x:α) (hx:xs[k]? = some x) (h:(xs.take k).all p=true) (hp:p x=true):(xs.take (k+1)).all p=true:=by
 rw [List.take_add_one,hx];simp [h,hp]
theorem JZ {α:Type} (p:α→Bool) (xs:List α) (k:Nat) (x:α) (hx:xs[k]? = some x) (hp:p x=false):xs.all p=false:=by
 rw [List.all_eq_false];exact ⟨x,List.mem_of_getElem? hx,by simp [hp]⟩
theorem I8 {α:Type} (p:α→Bool) (xs:List α) (k:Nat) (hk:xs.length≤k) (h:(xs.take k).all p=true):xs.all p=true:=by
 rwa [List.take_of_length_le hk] at h
theorem AL {P:Program} {fn:Func} {p q:Tmp} {ty:TypeId} (h:fn.results = #[.cell p ty,.tmp q]) (tmps:Array Value) (w:World) (g:Nat) (t:TypeId) (cs:Array Value) (d:TypeDesc)
  (hp:tmps.getD p undef = .pointer (some ⟨g,0,none⟩)) (hg:jM w g t cs)
  (hu:P.underlying ty=some d) (hd:(match d with | .struct _ | .array _ _=>true | _=>false)=true) (hi:(P.info? ty).map (·.size)=some cs.size) :
  (results fn tmps).run P w = .ok (.tuple #[.agg cs,tmps.getD q undef]) w:=by
 have hp':tmps[p]?.getD undef = .pointer (some ⟨g,0,none⟩):=by simpa using hp
 simp [results,h,hp',asAddr,run_loadVar_row w g t ty cs (0,0) d hg hu hd hi]
end
section
open Go
section
variable {P:Program} {ops:Array Oper} {Q:Exit→Act→World→Prop} {S:World→Prop}
def Fj:Exit→Act→World→Prop:=fun _ _ _=>False
def AS (P:Program) (ops:Array Oper) (S:World→Prop) (o:Oper) (v:Value) (a:Act):Prop:=
 (Region.wanted o (yielded ops a.tmps)=true∧∀w,S w→(execOp a.eval o).run P w = .ok (.value v) w) ∨
 (Region.wanted o (yielded ops a.tmps)=false∧v=undef)
theorem AS.same {o:Oper} {v:Value} {a a':Act} (hy:AS P ops S o v a) (he:execOp a'.eval o=execOp a.eval o)
  (hw:Region.wanted o (yielded ops a'.tmps)=Region.wanted o (yielded ops a.tmps)):AS P ops S o v a':=by
 unfold AS at *;rw [he,hw];exact hy
theorem AS.uniq {o:Oper} {v u:Value} {a:Act} {w:World} (hS:S w) (h:AS P ops S o v a) (h':AS P ops S o u a):v=u:=by
 rcases h with ⟨h1,h2⟩ | ⟨h1,h2⟩ <;> rcases h' with ⟨h3,h4⟩ | ⟨h3,h4⟩
 ·have:=(h2 w hS).symm.trans (h4 w hS)
  injection this with e _
  injection e
 ·rw [h1] at h3;cases h3
 ·rw [h1] at h3;cases h3
 ·rw [h2,h4]
theorem AS.run {i:Nat} {o:Oper} {v:Value} {a:Act} (hi:ops[i]? = some o) (hy:AS P ops S o v a) {w:World} (hS:S w) {K:Act→World→Prop}
  (h:K (a.put o.dst v) w):wpOp P ops Q i K a w:=by
 unfold Go.wpOp;simp only [hi]
 rcases hy with ⟨hw,hv⟩ | ⟨hw,rfl⟩
 ·simp only [hw,if_true,Oper.wp,hv w hS,Oper.upon];exact .inl h
 ·simp only [hw,Bool.false_eq_true,if_false];exact h
theorem yJ {p:Prop} (h:LetsOut Fj):p:=by
 obtain ⟨_,_,h⟩:=h;exact h.elim
theorem Wc {j:Nat} {K:Act→World→Prop} {a:Act} {w:World} (h:wpOp P ops Fj j K a w):∃a' w',K a' w':=by
 unfold wpOp at h
 split at h
 ·exact ⟨_,_,h⟩
 ·split at h
  ·rcases h with h | ⟨_,h⟩
   ·unfold Oper.wp at h
    generalize (execOp a.eval _).run P w=r at h
    cases r with
    | ok n w'=>
     cases n <;> simp only [Oper.upon] at h
     case value=>exact ⟨_,_,h⟩
     case skip=>exact ⟨_,_,h⟩
     case defer=>exact ⟨_,_,h⟩
     case enter f args=>
      obtain ⟨e,w',_,hR,_⟩:=h [];cases e with
      | returned v=>exact ⟨_,_,hR⟩
      | panicked c=>exact hR.elim
      | outgrown=>exact yJ hR
     case row row args=>
      obtain ⟨v,w',hR,_⟩:=h default [];exact ⟨_,_,hR⟩
     all_goals exact h.elim
    | halt x w'=>cases x <;> simp only [Oper.upon] at h <;> exact h.elim
   ·exact yJ h
  ·exact ⟨_,_,h⟩
theorem RB {j:Nat} {oi oj:Oper} {v:Value} (hj:ops[j]? = some oj) (hap:oi.apart ops oj=true)
  (hsj:∀cs b,oj.op≠.select cs b) {K:Act→World→Prop} {a:Act} {w:World}
  (h:wpOp P ops Fj j (fun a' w'=>K (a'.put oi.dst v) w') a w):wpOp P ops Fj j K (a.put oi.dst v) w:=by
 obtain ⟨h1,h2,h3⟩:=Oper.apart_spec hap;unfold wpOp at *;simp only [hj] at *;rw [wanted_put oj a oi.dst v h1]
 split
 ·rename_i hw
  simp only [hw,if_true] at h
  rcases h with h | ⟨_,hl⟩
  case inr=>exact yJ hl
  refine .inl ?_;unfold Oper.wp at *;rw [execOp_put oj hsj a oi.dst v h1]
  generalize (execOp a.eval oj).run P w=r at *
  cases r with
  | ok n w'=>
   cases n <;> simp only [Oper.upon] at h ⊢
   case value u=>rw [Act.put_comm a v u h2];exact h
   case skip=>rw [Act.put_comm a v undef h2];exact h
   case defer d=>rw [Act.put_defers,Act.put_comm _ v undef h2];exact h
   case enter f args=>
    refine Calls.mono h fun e w'' he=>?_
    cases e with
    | returned u=>show K _ _;rw [Act.put_comm a v u h2];exact he
    | panicked c=>exact he
    | outgrown=>exact he
   case row row args=>exact Rows.mono h fun u w'' he=>by rw [Act.put_comm a v u h2];exact he
  | halt x w'=>cases x <;> simp only [Oper.upon] at h ⊢;exact h
 ·rename_i hw
  simp only [hw] at h;rw [Act.put_comm a v undef h2];exact h
theorem Tw {j:Nat} {oi oj:Oper} {v:Value} (hj:ops[j]? = some oj) (hap:oi.apart ops oj=true)
  (hsi:∀cs b,oi.op≠.select cs b) (hsj:∀cs b,oj.op≠.select cs b) {K:Act→World→Prop} {a:Act} {w:World}
  (hy:AS P ops S oi v a) (h:wpOp P ops Fj j K (a.put oi.dst v) w) :
  wpOp P ops Fj j (fun a' w'=>AS P ops S oi v a'∧K (a'.put oi.dst v) w') a w:=by
 obtain ⟨h1,h2,h3⟩:=Oper.apart_spec hap
 have keep:∀(a:Act),AS P ops S oi v a→∀u,AS P ops S oi v (a.put oj.dst u):=fun a hy u=>
  hy.same (execOp_put oi hsi a oj.dst u h3) (wanted_put oi a oj.dst u h3)
 have keepD:∀d,AS P ops S oi v { a with defers:=d::a.defers }:=fun d=>hy.same rfl rfl
 unfold wpOp at *;simp only [hj] at *;rw [wanted_put oj a oi.dst v h1] at h
 split
 ·rename_i hw
  simp only [hw,if_true] at h
  rcases h with h | ⟨_,hl⟩
  case inr=>exact yJ hl
  refine .inl ?_;unfold Oper.wp at *;rw [execOp_put oj hsj a oi.dst v h1] at h
  generalize (execOp a.eval oj).run P w=r at *
  cases r with
  | ok n w'=>
   cases n <;> simp only [Oper.upon] at h ⊢
   case value u=>exact ⟨keep a hy u,by rw [←Act.put_comm a v u h2];exact h⟩
   case skip=>exact ⟨keep a hy _,by rw [←Act.put_comm a v undef h2];exact h⟩
   case defer d=>
    refine ⟨keep _ (keepD d) _,?_⟩;rw [←Act.put_comm _ v undef h2,←Act.put_defers];exact h
   case enter f args=>
    refine Calls.mono h fun e w'' he=>?_
    cases e with
    | returned u=>exact ⟨keep a hy u,by rw [←Act.put_comm a v u h2];exact he⟩
    | panicked c=>exact he
    | outgrown=>exact he
   case row row args=>exact Rows.mono h fun u w'' he=>⟨keep a hy u,by rw [←Act.put_comm a v u h2];exact he⟩
  | halt x w'=>cases x <;> simp only [Oper.upon] at h ⊢;exact h
 ·rename_i hw
  simp only [hw] at h;exact ⟨keep a hy _,by rw [←Act.put_comm a v undef h2];exact h⟩
def Lf (P:Program) (ops:Array Oper) (S:World→Prop) (vM need:Nat→Bool) (R:Act→World→Prop):List Nat→Act→World→Prop
 | [],a,w=>R a w
 | i::l,a,w=>∃o,ops[i]? = some o ∧
  if vM i then ∃v,AS P ops S o v a∧Lf P ops S vM need R l (a.put o.dst v) w
  else wpOp P ops Fj i (fun a' w'=>(need i=true→S w')∧Lf P ops S vM need R l a' w') a w
variable {vM need:Nat→Bool} {R:Act→World→Prop}
theorem Lg {i:Nat} {oi:Oper} (hi:ops[i]? = some oi) (hr:vM i=true) (hsel:∀(j:Nat) (o:Oper) cs b,ops[j]? = some o→o.op≠.select cs b) :
  ∀(pre:List Nat) (post:List Nat) (a:Act) (w:World),S w→(∀j∈pre,∀oj,ops[j]? = some oj→oi.apart ops oj=true) →
   (∀j∈pre,vM j=false→need j=true) →
   Lf P ops S vM need R (pre++i::post) a w→∃v,AS P ops S oi v a∧Lf P ops S vM need R (pre++post) (a.put oi.dst v) w
 | [],post,a,w,_,_,_,h=>by
  obtain ⟨o,ho,h⟩:=h;have:o=oi:=Option.some.inj (ho.symm.trans hi);subst this;rw [if_pos hr] at h;exact h
 | j::pre,post,a,w,hS,hap,hnd,h=>by
  obtain ⟨oj,hj,h⟩:=h;have aFM:=hap j (List.mem_cons_self ..) oj hj;obtain ⟨h1,h2,h3⟩:=Oper.apart_spec aFM;have aFN:∀k∈pre,∀ok,ops[k]? = some ok→oi.apart ops ok=true:=fun k hk=>hap k (List.mem_cons_of_mem _ hk)
  have hnd':∀k∈pre,vM k=false→need k=true:=fun k hk=>hnd k (List.mem_cons_of_mem _ hk)
  by_cases Tx:vM j=true
  ·rw [if_pos Tx] at h;obtain ⟨u,hu,h⟩:=h;obtain ⟨v,hv,h⟩:=Lg hi hr hsel pre post (a.put oj.dst u) w hS aFN hnd' h;have hv':AS P ops S oi v a:=hv.same (execOp_put oi (fun cs b=>hsel i oi cs b hi) a oj.dst u h3).symm (wanted_put oi a oj.dst u h3).symm;refine ⟨v,hv',oj,hj,?_⟩;rw [if_pos Tx];refine ⟨u,hu.same (execOp_put oj (fun cs b=>hsel j oj cs b hj) a oi.dst v h1) (wanted_put oj a oi.dst v h1),?_⟩;rw [Act.put_comm a v u h2];exact h
  ·have aHH:vM j=false:=by simpa using Tx
   rw [if_neg Tx] at h
   have hK:∀a' w',((need j=true→S w')∧Lf P ops S vM need R (pre++i::post) a' w')→S w'∧∃v,AS P ops S oi v a'∧Lf P ops S vM need R (pre++post) (a'.put oi.dst v) w':=fun a' w' hh=>
    have hS':=hh.1 (hnd j (List.mem_cons_self ..) aHH)
    ⟨hS',Lg hi hr hsel pre post a' w' hS' aFN hnd' hh.2⟩
   have hback:∀{a':Act} {v:Value},(∃(a0:Act) (u:Value),a'=a0.put oj.dst u∧execOp a0.eval oi=execOp a.eval oi∧Region.wanted oi (yielded ops a0.tmps)=Region.wanted oi (yielded ops a.tmps))→AS P ops S oi v a'→AS P ops S oi v a:=by
    rintro a' v ⟨a0,u,rfl,he,hw⟩ hy;exact hy.same ((execOp_put oi (fun cs b=>hsel i oi cs b hi) a0 oj.dst u h3).trans he).symm ((wanted_put oi a0 oj.dst u h3).trans hw).symm
   have XL:wpOp P ops Fj j (fun a' w'=>(∃(a0:Act) (u:Value),a'=a0.put oj.dst u∧execOp a0.eval oi=execOp a.eval oi∧Region.wanted oi (yielded ops a0.tmps)=Region.wanted oi (yielded ops a.tmps)) ∧
     ((need j=true→S w')∧Lf P ops S vM need R (pre++i::post) a' w')) a w:=by
    unfold wpOp at h ⊢;simp only [hj] at h ⊢
    split
    ·rename_i hw
     rw [if_pos hw] at h
     rcases h with h | ⟨_,hl⟩
     case inr=>exact yJ hl
     refine .inl ?_;unfold Oper.wp at *
     generalize (execOp a.eval oj).run P w=r at *
     cases r with
     | ok n w'=>
      cases n <;> simp only [Oper.upon] at h ⊢
      case value u=>exact ⟨⟨a,u,rfl,rfl,rfl⟩,h⟩
      case skip=>exact ⟨⟨a,undef,rfl,rfl,rfl⟩,h⟩
      case defer d=>exact ⟨⟨{ a with defers:=d::a.defers },undef,rfl,rfl,rfl⟩,h⟩
      case enter f args=>
       refine Calls.mono h fun e w'' he=>?_
       cases e with
       | returned u=>exact ⟨⟨a,u,rfl,rfl,rfl⟩,he⟩
       | panicked c=>exact he
       | outgrown=>exact yJ he
      case row row args=>exact Rows.mono h fun u w'' he=>⟨⟨a,u,rfl,rfl,rfl⟩,he⟩
     | halt x w'=>cases x <;> simp only [Oper.upon] at h ⊢;exact h
    ·rename_i hw
     rw [if_neg hw] at h;exact ⟨⟨a,undef,rfl,rfl,rfl⟩,h⟩
   obtain ⟨a1,w1,hb1,hk1⟩:=Wc XL;obtain ⟨_,v,hv1,_⟩:=hK a1 w1 hk1;have hv:AS P ops S oi v a:=hback hb1 hv1;refine ⟨v,hv,oj,hj,?_⟩;rw [if_neg Tx];refine RB hj aFM (fun cs b=>hsel j oj cs b hj) (wpOp_mono ?_ XL);rintro a' w' ⟨hb,hk⟩;obtain ⟨hS',v',hv',hrest⟩:=hK a' w' hk;have:v=v':=AS.uniq hS hv (hback hb hv');subst this;exact ⟨fun _=>hS',hrest⟩
theorem O7 {i:Nat} {oi:Oper} (hi:ops[i]? = some oi) (hr:vM i=false) (hsel:∀(j:Nat) (o:Oper) cs b,ops[j]? = some o→o.op≠.select cs b) :
  ∀(pre:List Nat) (post:List Nat) (a:Act) (w:World),(∀j∈pre,vM j=true)→(∀j∈pre,∀oj,ops[j]? = some oj→oj.apart ops oi=true) →
   Lf P ops S vM need R (pre++i::post) a w→wpOp P ops Fj i (fun a' w'=>(need i=true→S w')∧Lf P ops S vM need R (pre++post) a' w') a w
 | [],post,a,w,_,_,h=>by
  obtain ⟨o,ho,h⟩:=h;rw [if_neg (by simp [hr])] at h;exact h
 | j::pre,post,a,w,aFO,hap,h=>by
  obtain ⟨oj,hj,h⟩:=h;have Tx:=aFO j (List.mem_cons_self ..);rw [if_pos Tx] at h;obtain ⟨v,hv,h⟩:=h;have h2:=O7 hi hr hsel pre post (a.put oj.dst v) w (fun k hk=>aFO k (List.mem_cons_of_mem _ hk)) (fun k hk=>hap k (List.mem_cons_of_mem _ hk)) h;have h3:=Tw hi (hap j (List.mem_cons_self ..) oj hj) (fun cs b=>hsel j oj cs b hj) (fun cs b=>hsel i oi cs b hi) hv h2;refine wpOp_mono ?_ h3;rintro a' w' ⟨hy,hn,hk⟩;refine ⟨hn,oj,hj,?_⟩;rw [if_pos Tx];exact ⟨v,hy,hk⟩
def waits (ops:Array Oper) (i j:Nat):Bool:=
 match ops[i]? with
 | some o=>o.after.any fun e=>Region.binds .any e&&e.on==j
 | none=>false
theorem Ng {i j:Nat} (h:waits ops i j=true):∃o,ops[i]? = some o∧∃e∈o.after,Region.binds .any e=true∧e.on=j:=by
 unfold waits at h
 split at h
 ·rename_i o ho
  obtain ⟨e,he,hb⟩:=Array.any_eq_true'.1 h;simp only [Bool.and_eq_true,beq_iff_eq] at hb;exact ⟨o,ho,e,he,hb⟩
 ·cases h
def P0 (ops:Array Oper) (vM:Nat→Bool) (i:Nat):Bool:=
 (List.range ops.size).any fun r=>vM r&&r != i && !(waits ops i r)
theorem CA (m j:Nat):(Array.replicate m false).getD j false=false:=by
 rcases Nat.lt_or_ge j m with h | h
 ·simp [h]
 ·simp [h]
def UV (ops:Array Oper):Bool:=
 (List.range ops.size).all fun i=>match ops[i]? with
  | some o=>o.after.all fun e=>!Region.binds .any e||decide (e.on<i)
  | none=>false
def J0 (ops:Array Oper) (vM:Nat→Bool) (i j:Nat):Bool:=
 match ops[i]?,ops[j]? with
 | some oi,some oj=>waits ops i j||((!vM i||oi.apart ops oj)&&(!vM j||oj.apart ops oi)&&(vM i||vM j||(List.range i).any fun k=>decide (j<k) && !vM k))
 | _,_=>false
def RC (ops:Array Oper) (vM need:Nat→Bool):Bool:=
 Region.noSelect ops&&UV ops&&((List.range ops.size).all fun i=>(List.range i).all fun j=>J0 ops vM i j) &&
 (List.range ops.size).all fun i=>vM i||need i || !P0 ops vM i
theorem XM {i:Nat} {K:Act→World→Prop} {a:Act} {w:World} (h:wpOp P ops Fj i K a w):wpOp P ops Q i K a w:=by
  unfold wpOp at *
  split
  · rename_i h0
    simp only [h0] at h
    exact h
  · rename_i o ho
    simp only [ho] at h
    split
    · rename_i hw
      rw [if_pos hw] at h
      rcases h with h | ⟨_,hl⟩
      case inr=>exact yJ hl
      refine .inl ?_
      unfold Oper.wp at *
      generalize (execOp a.eval o).run P w=r at *
      cases r with
      | ok n w'=>
        cases n <;> simp only [Oper.upon] at h ⊢ <;> first
          | exact h
          | (refine Calls.mono h fun e w'' he=>?_
             cases e with
             | returned u=>exact he
             | panicked c=>exact he.elim
             | outgrown=>exact yJ he)
      | halt x w'=>cases x <;> simp only [Oper.upon] at h ⊢;exact h.elim
    · rename_i hw
      rw [if_neg hw] at h
      exact h
def q9 (ops:Array Oper) (listed:Array Bool):List Nat:=(List.range ops.size).filter fun i=>!listed.getD i true
theorem Ef (listed:Array Bool):(q9 ops listed).Pairwise (· < ·):=List.Pairwise.filter _ List.pairwise_lt_range
theorem vS {listed:Array Bool} {i:Nat}:i∈q9 ops listed↔i<ops.size∧listed.getD i true=false:=by
 simp [q9]
theorem O8 {listed:Array Bool} {i:Nat} (hs:listed.size=ops.size) (hi:i<ops.size):q9 ops (listed.setIfInBounds i true)=(q9 ops listed).filter (· != i):=by
 unfold q9;rw [List.filter_filter];refine List.filter_congr fun j _=>?_
 by_cases hij:i=j
 ·subst hij;have:i<listed.size:=by omega
  simp [this]
 ·have hij':j≠i:=fun e=>hij e.symm
  rw [getD_set_ne true hij]
  simp [hij']
theorem P1 {l:List Nat} {i:Nat} (hl:l.Pairwise (· < ·)) (hi:i∈l):∃pre post,l=pre++i::post∧l.filter (· != i)=pre++post∧∀j∈pre,j<i:=by
 obtain ⟨pre,post,rfl⟩:=List.append_of_mem hi;rw [List.pairwise_append] at hl;obtain ⟨_,h2,h3⟩:=hl;rw [List.pairwise_cons] at h2;have hpre:∀j∈pre,j<i:=fun j hj=>h3 j hj i (List.mem_cons_self ..)
 refine ⟨pre,post,rfl,?_,hpre⟩;rw [List.filter_append,List.filter_cons];have e1:pre.filter (· != i)=pre:=List.filter_eq_self.2 fun j hj=>by have:=hpre j hj;simp;omega
 have e2:post.filter (· != i)=post:=List.filter_eq_self.2 fun j hj=>by have:=h2.1 j hj;simp;omega
 simp [e1,e2]
def Closed (ops:Array Oper) (listed:Array Bool):Prop:=∀i,listed.getD i false=true→∀j,waits ops i j=true→listed.getD j false=true
theorem IE {listed:Array Bool} {j:Nat} (hj:j<listed.size):listed.getD j true=listed.getD j false:=by simp [hj]
theorem Df {listed:Array Bool} {i j:Nat} (hr:i∈Region.ready .any ops listed) (hw:waits ops i j=true):listed.getD j false=true:=by
 obtain ⟨_,o,ho,hall⟩:=mem_ready.1 hr;obtain ⟨o',ho',e,he,hb,hon⟩:=Ng hw;have:o'=o:=Option.some.inj (ho'.symm.trans ho);subst this;rw [←hon];exact hall e he hb
theorem P2 {listed:Array Bool} (hc:Closed ops listed)
  (hp:∀i<ops.size,∀j<i,J0 ops vM i j=true) :
  ∀(d i j:Nat),i-j=d→j<i→i<ops.size→vM i=false→vM j=false→(∀k,waits ops i k=true→listed.getD k false=true)→listed.getD j false=true:=by
 intro d
 induction d using Nat.strongRecOn with
 | _ d ih=>
  intro i j hd hji hi MK Tx hwi;have h:=hp i hi j hji;unfold J0 at h
  split at h
  ·rename_i oi oj hoi hoj
   simp only [Bool.or_eq_true,Bool.and_eq_true,MK,Tx,Bool.false_eq_true,false_or] at h
   rcases h with h | ⟨_,h⟩
   ·exact hwi j h
   ·obtain ⟨k,hk,hk2⟩:=List.any_eq_true.1 h;simp only [Bool.and_eq_true,decide_eq_true_eq,Bool.not_eq_true'] at hk2;have hki:=List.mem_range.1 hk;have hkl:=ih (i-k) (by omega) i k rfl hki hi MK hk2.2 hwi;exact ih (k-j) (by omega) k j rfl hk2.1 (by omega) hk2.2 Tx (fun m hm=>hc k hkl m hm)
  ·cases h
theorem LZ (hok:RC ops vM need=true):∀(fuel:Nat) (listed:Array Bool) (a:Act) (w:World),listed.size=ops.size→Closed ops listed→(q9 ops listed).length=fuel →
  (∀r∈q9 ops listed,vM r=true→S w)→Lf P ops S vM need (Q .normal) (q9 ops listed) a w→wpAny P .any ops Q fuel listed a w:=by
 simp only [RC,Bool.and_eq_true] at hok;obtain ⟨⟨⟨XN,hback⟩,J1⟩,XO⟩:=hok;have hsel:=Region.noSelect_spec XN;have hp:∀i<ops.size,∀j<i,J0 ops vM i j=true:=fun i hi j hj=>List.all_eq_true.1 (List.all_eq_true.1 J1 i (List.mem_range.2 hi)) j (List.mem_range.2 hj)
 have hbk:∀i o,ops[i]? = some o→∀e∈o.after,Region.binds .any e=true→e.on<i:=fun i o ho e he hb=>by
  have hi:i<ops.size:=(Array.getElem?_eq_some_iff.1 ho).1;have h:=List.all_eq_true.1 hback i (List.mem_range.2 hi);simp only [ho] at h;have h2:=Array.all_eq_true_iff_forall_mem.1 h e he
  simpa [hb] using h2
 have hnd:∀i<ops.size,vM i=false→∀r<ops.size,vM r=true→waits ops i r=false→need i=true:=fun i hi MK r hr hrr hw=>by
  have h:=List.all_eq_true.1 XO i (List.mem_range.2 hi);simp only [MK,Bool.false_or,Bool.or_eq_true,Bool.not_eq_true'] at h;refine h.resolve_right fun h0=>?_
  have:P0 ops vM i=true:=by
   refine List.any_eq_true.2 ⟨r,List.mem_range.2 hr,?_⟩;have:r≠i:=fun e=>by subst e;rw [MK] at hrr;cases hrr
   simp [hrr,hw,this]
  rw [this] at h0;cases h0
 intro fuel
 induction fuel with
 | zero=>
  intro listed a w hs hc hlen _ h;have hnil:q9 ops listed=[]:=List.eq_nil_of_length_eq_zero hlen;rw [hnil] at h;refine ⟨?_,h⟩;refine List.eq_nil_iff_forall_not_mem.2 fun i hi=>?_
  obtain ⟨h0,o,ho,_⟩:=mem_ready.1 hi;have:i∈q9 ops listed:=vS.2 ⟨(Array.getElem?_eq_some_iff.1 ho).1,h0⟩;rw [hnil] at this;cases this
 | succ fuel ih=>
  intro listed a w hs hc hlen hS h;refine ⟨fun h0=>?_,fun i hi=>?_⟩
  ·exfalso
   match hr:q9 ops listed,hlen with
   | i0::rest,_=>
    have hm0:i0∈q9 ops listed:=by rw [hr];exact List.mem_cons_self ..
    obtain ⟨hlt,hun⟩:=vS.1 hm0;have J2:=Ef (ops:=ops) listed;rw [hr,List.pairwise_cons] at J2
    have:i0∈Region.ready .any ops listed:=by
     refine mem_ready.2 ⟨hun,ops[i0],Array.getElem?_eq_getElem hlt,fun e he hb=>?_⟩;have hlt2:=hbk i0 _ (Array.getElem?_eq_getElem hlt) e he hb;cases hl:listed.getD e.on false with
     | true=>rfl
     | false=>
      have hm:e.on∈q9 ops listed:=vS.2 ⟨by omega,by rw [IE (by omega)];exact hl⟩;rw [hr] at hm
      rcases List.mem_cons.1 hm with hm | hm
      ·omega
      ·have:=J2.1 _ hm;omega
    rw [h0] at this;cases this
  ·obtain ⟨hun,oi,hoi,hall⟩:=mem_ready.1 hi;have hilt:i<ops.size:=(Array.getElem?_eq_some_iff.1 hoi).1;obtain ⟨pre,post,Mu,hfil,hpre⟩:=P1 (Ef (ops:=ops) listed) (vS.2 ⟨hilt,hun⟩);have J3:q9 ops (listed.setIfInBounds i true)=pre++post:=by rw [O8 hs hilt,hfil]
   have hlen':(q9 ops (listed.setIfInBounds i true)).length=fuel:=by
    rw [J3];rw [Mu] at hlen;simp at hlen ⊢;omega
   have hs':(listed.setIfInBounds i true).size=ops.size:=by simpa using hs
   have hc':Closed ops (listed.setIfInBounds i true):=by
    intro k hk j hj
    by_cases hik:i=k
    ·subst hik;exact getD_set_true (Df hi hj)
    ·rw [getD_set_ne false hik] at hk;exact getD_set_true (hc k hk j hj)
   have aA6:∀j∈pre++post,j<ops.size∧listed.getD j false=false:=fun j hj=>by
    have:j∈q9 ops listed:=by
     rw [Mu];rcases List.mem_append.1 hj with h | h
     ·exact List.mem_append_left _ h
     ·exact List.mem_append_right _ (List.mem_cons_of_mem _ h)
    obtain ⟨h1,h2⟩:=vS.1 this;exact ⟨h1,by rw [←IE (by omega)];exact h2⟩
   have hnw:∀j∈pre++post,waits ops i j=false:=fun j hj=>by
    cases hw:waits ops i j with
    | false=>rfl
    | true=>
     have:=Df hi hw;rw [(aA6 j hj).2] at this;cases this
   have hpp:∀j∈pre,∀oj,ops[j]? = some oj→((vM i=true→oi.apart ops oj=true)∧(vM j=true→oj.apart ops oi=true)):=fun j hj oj hoj=>by
    have hh:=hp i hilt j (hpre j hj);unfold J0 at hh;simp only [hoi,hoj,hnw j (List.mem_append_left _ hj),Bool.false_or,Bool.and_eq_true,Bool.or_eq_true,Bool.not_eq_true'] at hh;refine ⟨fun hr=>?_,fun hr=>?_⟩
    ·rcases hh.1.1 with h0 | h0
     ·rw [hr] at h0;cases h0
     ·exact h0
    ·rcases hh.1.2 with h0 | h0
     ·rw [hr] at h0;cases h0
     ·exact h0
   rw [Mu] at h hS;cases MK:vM i with
   | true=>
    have hSw:S w:=hS i (by simp) MK
    have aHI:∀j∈pre,vM j=false→need j=true:=fun j hj Tx=>by
     refine hnd j (aA6 j (List.mem_append_left _ hj)).1 Tx i hilt MK ?_;cases hw:waits ops j i with
     | false=>rfl
     | true=>
      obtain ⟨o,ho,e,he,hb,hon⟩:=Ng hw;have:=hbk j o ho e he hb;have:=hpre j hj
      omega
    obtain ⟨v,hv,hrest⟩:=Lg hoi MK hsel pre post a w hSw (fun j hj oj hoj=>(hpp j hj oj hoj).1 MK) aHI h;refine hv.run hoi hSw (ih _ _ _ hs' hc' hlen' ?_ (by rw [J3];exact hrest));exact fun _ _ _=>hSw
   | false=>
    have aCW:∀j∈pre,vM j=true:=fun j hj=>by
     cases Tx:vM j with
     | true=>rfl
     | false=>
      have:=P2 hc hp (i-j) i j rfl (hpre j hj) hilt MK Tx (fun k hk=>Df hi hk);rw [(aA6 j (List.mem_append_left _ hj)).2] at this;cases this
    have h2:=O7 hoi MK hsel pre post a w aCW (fun j hj oj hoj=>(hpp j hj oj hoj).2 (aCW j hj)) h;refine XM (wpOp_mono ?_ h2);rintro a' w' ⟨hn,hk⟩;refine ih _ _ _ hs' hc' hlen' ?_ (by rw [J3];exact hk);intro r hr hrr;rw [J3] at hr;exact hn (hnd i hilt MK r (aA6 r hr).1 hrr (hnw r hr))
theorem OO {id:Nat} {a:Act} {w:World} (S:World→Prop) (vM need:Nat→Bool) (hm:P.follows .mixedOrders=true) (hok:RC ops vM need=true)
  (hS:S w.drew) (h:Lf P ops S vM need (Q .normal) (List.range ops.size) a w.drew):(Code.region id ops true).wp P Q a w:=by
 refine wp_region_any hm ?_
 have Mu:q9 ops (Array.replicate ops.size false)=List.range ops.size:=by
  unfold q9;refine List.filter_eq_self.2 fun i hi=>?_
  have:=List.mem_range.1 hi
  simp [this]
 refine LZ hok ops.size (Array.replicate ops.size false) a _ (by simp) ?_ (by rw [Mu];simp) (fun _ _ _=>hS) (by rw [Mu];exact h);intro i hi;rw [CA] at hi;cases hi
def rT (P:Program) (ops:Array Oper) (S:World→Prop) (R:Act→World→Prop):List (Oper × Bool × Bool)→Act→World→Prop
 | [],a,w=>R a w
 | (o,true,_)::l,a,w=>∃v,AS P ops S o v a∧rT P ops S R l (a.put o.dst v) w
 | (o,false,n)::l,a,w=>if Region.wanted o (yielded ops a.tmps) then o.wp P a w (fun a' w'=>(n=true→S w')∧rT P ops S R l a' w') Fj else (n=true→S w)∧rT P ops S R l (a.put o.dst undef) w
theorem Jo (vM need:Nat→Bool):∀(l:List (Oper × Bool × Bool)) (k:Nat) (a:Act) (w:World),(∀j x,l[j]? = some x→ops[k+j]? = some x.1∧vM (k+j)=x.2.1∧need (k+j)=x.2.2) →
  rT P ops S R l a w→Lf P ops S vM need R (List.range' k l.length) a w
 | [],k,a,w,_,h=>h
 | (o,r,n)::l,k,a,w,hl,h=>by
  obtain ⟨h1,h2,h3⟩:=hl 0 (o,r,n) rfl;simp only [Nat.add_zero] at h1 h2 h3;have ih:=fun a' w'=>Jo vM need l (k+1) a' w' (fun j x hj=>by have:=hl (j+1) x (by simpa using hj);simpa [Nat.add_assoc,Nat.add_comm 1 j] using this)
  simp only [List.length_cons,List.range'_succ];refine ⟨o,h1,?_⟩;rw [h2];cases r with
  | true=>
   obtain ⟨v,hv,hk⟩:=h;exact ⟨v,hv,ih _ _ hk⟩
  | false=>
   simp only [Bool.false_eq_true,if_false];unfold wpOp;simp only [h1,h3];simp only [rT] at h
   split
   ·rename_i hw
    rw [if_pos hw] at h;exact .inl (Oper.wp_mono (fun a' w' hh=>⟨hh.1,ih _ _ hh.2⟩) h)
   ·rename_i hw
    rw [if_neg hw] at h;exact ⟨h.1,ih _ _ h.2⟩
def P3 (f:List Nat) (i:Nat):Nat:=f.getD i 0
def sY (f:List Nat) (i:Nat):Bool:=P3 f i==0
def nA (f:List Nat) (i:Nat):Bool:=P3 f i==1
def marked (f:List Nat):List Oper→List (Oper × Bool × Bool)
 | []=>[]
 | o::l=>(o,f.headD 0==0,f.headD 0==1)::marked f.tail l
theorem Jp:∀(f:List Nat) (l:List Oper) (j:Nat) (x:Oper × Bool × Bool),(marked f l)[j]? = some x→l[j]? = some x.1∧sY f j=x.2.1∧nA f j=x.2.2
 | f,[],j,x,h=>by simp [marked] at h
 | f,o::l,0,x,h=>by
  simp only [marked,List.getElem?_cons_zero,Option.some.injEq] at h;subst h
  refine ⟨rfl,?_,?_⟩ <;> cases f <;> rfl
 | f,o::l,j+1,x,h=>by
  simp only [marked,List.getElem?_cons_succ] at h;obtain ⟨h1,h2,h3⟩:=Jp f.tail l j x h;refine ⟨by simpa using h1,?_,?_⟩
  ·rw [←h2];cases f <;> simp [sY,P3]
  ·rw [←h3];cases f <;> simp [nA,P3]
theorem Jq:∀(f:List Nat) (l:List Oper),(marked f l).length=l.length
 | _,[]=>rfl
 | f,o::l=>by simp [marked,Jq f.tail l]
theorem aF {id:Nat} {a:Act} {w:World} {l:List Oper} (S:World→Prop) (f:List Nat) (hm:P.follows .mixedOrders=true) (hok:RC l.toArray (sY f) (nA f)=true)
  (hS:S w.drew) (h:rT P l.toArray S (Q .normal) (marked f l) a w.drew):(Code.region id l.toArray true).wp P Q a w:=by
 refine OO S (sY f) (nA f) hm hok hS ?_;have h2:=Jo (ops:=l.toArray) (sY f) (nA f) (marked f l) 0 a w.drew (fun j x hj=>by simpa using Jp f l j x hj) h;rw [Jq] at h2
 simpa [List.range_eq_range'] using h2
variable {o:Oper} {n:Bool} {l:List (Oper × Bool × Bool)} {a:Act} {w:World}
theorem XP (h:R a w):rT P ops S R [] a w:=h
theorem vT {v:Value} (hg:Region.wanted o (yielded ops a.tmps)=true) (hv:∀w',S w'→(execOp a.eval o).run P w' = .ok (.value v) w') (h:rT P ops S R l (a.put o.dst v) w):rT P ops S R ((o,true,n)::l) a w:=
 ⟨v,.inl ⟨hg,hv⟩,h⟩
theorem Jr (hg:Region.wanted o (yielded ops a.tmps)=true) (h:∀K:Act→World→Prop,(∀a' w',(n=true→S w')→rT P ops S R l a' w'→K a' w')→o.wp P a w K Fj):rT P ops S R ((o,false,n)::l) a w:=by
 simp only [rT,hg,if_true];exact h _ fun a' w' h1 h2=>⟨h1,h2⟩
theorem Wd (hg:Region.wanted o (yielded ops a.tmps)=false) (hS:n=true→S w) (h:rT P ops S R l (a.put o.dst undef) w):rT P ops S R ((o,false,n)::l) a w:=by
 simp only [rT,hg,Bool.false_eq_true,if_false];exact ⟨hS,h⟩
end
end
section
def Jy (x:Int):Bool:=decide (0≤x)&&decide (x≤65535)
def xQ (W H:Int):Prop:=1≤W∧W≤64∧1≤H∧H≤64
instance (W H:Int):Decidable (xQ W H):=by unfold xQ;infer_instance
def bW (W H:Int) (xs:List Int):Bool:=decide (xQ W H)&&decide ((xs.length:Int)=W*H)&&xs.all Jy
theorem X8 {x:Int} (h:Jy x=true):0≤x∧x≤65535:=by simpa [Jy] using h
theorem rU {W H:Int} {xs:List Int}:bW W H xs=true↔xQ W H∧(xs.length:Int)=W*H∧xs.all Jy=true:=by
 simp [bW,and_assoc]
theorem RL {W H:Int} (h:xQ W H):0≤W*H∧W*H≤4096:=by
 obtain ⟨h1,h2,h3,h4⟩:=h;exact ⟨Int.mul_nonneg (by omega) (by omega),Int.mul_le_mul h2 h4 (by omega) (by omega)⟩
end
end Go.Proofs.YtpmnfhifmmfglacGreatDoor
