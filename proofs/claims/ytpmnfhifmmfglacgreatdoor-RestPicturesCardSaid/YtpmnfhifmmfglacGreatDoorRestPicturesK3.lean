/- Texts of the claim RestPictures, joined and made small by a program. -/
import Derived.DeepKeys4
import Derived.IntWalk
import Derived.KernelRfl
import Derived.Laws.Wrap64
import Derived.Maps.OwnOps
import Derived.Test.YtpmnfhifmmfglacGreatDoorRows
import Derived.WideKeyEntry
import Derived.Test.YtpmnfhifmmfglacGreatDoorRestPicturesK1
import Derived.Test.YtpmnfhifmmfglacGreatDoorRestPicturesK2
set_option linter.unusedVariables false
set_option linter.unusedSimpArgs false
set_option linter.unusedSectionVars false
set_option maxRecDepth 100000
set_option maxHeartbeats 8000000
namespace Go.Proofs.YtpmnfhifmmfglacGreatDoor
section
open Go
theorem mK (n:Nat) (h:0<n):∃m,n=m+1:=⟨n-1,by omega⟩
def Eg (k:IntKind) (m n:Int):Int:=k.wrap (BitVec.ofInt k.bits m &&& BitVec.ofInt k.bits n).toNat
def Ty (k:IntKind) (m n:Int):Int:=k.wrap (BitVec.ofInt k.bits m ||| BitVec.ofInt k.bits n).toNat
def P4 (k:IntKind) (m n:Int):Int:=k.wrap (BitVec.ofInt k.bits m ^^^ BitVec.ofInt k.bits n).toNat
def wN (k:IntKind) (m n:Int):Int:=k.wrap (m*2^(min n.toNat k.bits))
def rL (k:IntKind) (m n:Int):Int:=m.fdiv (2^(min n.toNat k.bits))
def idx {α:Type} (xs:List α) (i:Int):Option α:=if 0≤i then xs[i.toNat]? else none
def Tz {α:Type} (xs:List α) (lo hi:Int):Option (List α):=if 0≤lo∧lo≤hi∧hi≤xs.length then some ((xs.take hi.toNat).drop lo.toNat) else none
def yK {α:Type} (xs:List α) (i:Int) (x:α):Option (List α):=if 0≤i∧i<xs.length then some (xs.set i.toNat x) else none
def app {α:Type} (b:Nat) (xs ys:List α):Option (List α):=if (xs.length+ys.length)*b≤140737488355328 then some (xs++ys) else none
def mk {α:Type} (b:Nat) (n:Int) (z:α):Option (List α):=if 0≤n∧n*b≤281474976710656 then some (List.replicate n.toNat z) else none
theorem aA {α β:Type} {e:Option α} {f:α→Option β} {r:β} (h:e.bind f=some r):∃x,e=some x∧f x=some r:=by
 cases e with
 | none=>cases h
 | some x=>exact ⟨x,rfl,h⟩
theorem dG {α β:Type} {e:α} {f:α→Option β} {r:β} (h:(some e).bind f=some r):∃x,e=x∧f x=some r:=⟨e,rfl,h⟩
theorem oT {β:Type} {b:Bool} {x y r:β} (hb:b=true) (h:cond b x y=r):x=r:=by subst hb;exact h
theorem jY {β:Type} {b:Bool} {x y r:β} (hb:b=false) (h:cond b x y=r):y=r:=by subst hb;exact h
theorem Ao {α:Type} {xs:List α} {i:Int} {x:α} (h:idx xs i=some x):0≤i∧i.toNat<xs.length∧xs[i.toNat]? = some x:=by
 unfold idx at h
 split at h
 ·rename_i h0;exact ⟨h0,(List.getElem?_eq_some_iff.1 h).1,h⟩
 ·cases h
def bs (l:List UInt8):ByteArray:=⟨l.toArray⟩
def nz (n:Int):Option Unit:=if n=0 then none else some ()
def nn (n:Int):Option Unit:=if 0≤n then some () else none
def inr (i:Int) (n:Nat):Option Unit:=if 0≤i∧i<n then some () else none
def mok (b:Nat) (n:Int):Option Unit:=if 0≤n∧n*b≤281474976710656 then some () else none
theorem dJ {n:Int} {u:Unit} (h:nz n=some u):n≠0:=by unfold nz at h;split at h;cases h;assumption
theorem t6 {n:Int} {u:Unit} (h:nn n=some u):0≤n:=by unfold nn at h;split at h;assumption;cases h
theorem mN {i:Int} {n:Nat} {u:Unit} (h:inr i n=some u):0≤i∧i<n:=by unfold inr at h;split at h;assumption;cases h
theorem RD {b:Nat} {n:Int} {u:Unit} (h:mok b n=some u):0≤n∧n*b≤281474976710656:=by unfold mok at h;split at h;assumption;cases h
section
variable {α:Type} {xs ys zs:List α} {n:Int} {b:Nat} {z el:α}
theorem Nh {p q:Int} (h:Tz xs p q=some ys):0≤p∧p≤q∧q≤xs.length∧ys=(xs.take q.toNat).drop p.toNat:=by
 unfold Tz at h
 split at h
 ·rename_i hh;exact ⟨hh.1,hh.2.1,hh.2.2,(Option.some.inj h).symm⟩
 ·cases h
theorem RE {b:Nat} {zs:List α} (h:app b xs ys=some zs):zs=xs++ys∧(xs.length+ys.length)*b≤140737488355328:=by
 unfold app at h
 split at h
 ·rename_i h0;exact ⟨(Option.some.inj h).symm,h0⟩
 ·cases h
theorem aA7 {b:Nat} {z:α} (h:mk b n z=some ys):0≤n∧n*b≤281474976710656∧ys=List.replicate n.toNat z:=by
 unfold mk at h
 split at h
 ·rename_i h0;exact ⟨h0.1,h0.2,(Option.some.inj h).symm⟩
 ·cases h
theorem O9 {el:α} (h:yK xs n el=some ys):0≤n∧n.toNat<xs.length∧ys=xs.set n.toNat el:=by
 unfold yK at h
 split at h
 ·rename_i h0;exact ⟨h0.1,by omega,(Option.some.inj h).symm⟩
 ·cases h
end
def OP:List UInt8:=List.append (List.append [0,1,2,2,3,3,3,3,4,4,4,4,4,4,4,4,5,5,5,5,5,5,5,5,5,5,5,5,5,5,5,5,6,6,6,6,6,6,6,6,6,6,6,6,6,6,6,6,6,6,6,6,6,6,6,6,6,6,6,6,6,6,6,6] [7,7,7,7,7,7,7,7,7,7,7,7,7,7,7,7,7,7,7,7,7,7,7,7,7,7,7,7,7,7,7,7,7,7,7,7,7,7,7,7,7,7,7,7,7,7,7,7,7,7,7,7,7,7,7,7,7,7,7,7,7,7,7,7]) (List.append [8,8,8,8,8,8,8,8,8,8,8,8,8,8,8,8,8,8,8,8,8,8,8,8,8,8,8,8,8,8,8,8,8,8,8,8,8,8,8,8,8,8,8,8,8,8,8,8,8,8,8,8,8,8,8,8,8,8,8,8,8,8,8,8] [8,8,8,8,8,8,8,8,8,8,8,8,8,8,8,8,8,8,8,8,8,8,8,8,8,8,8,8,8,8,8,8,8,8,8,8,8,8,8,8,8,8,8,8,8,8,8,8,8,8,8,8,8,8,8,8,8,8,8,8,8,8,8,8])
def F9 {α:Type} (xs ys:List α):Option Unit:=if xs.length=ys.length then some () else none
theorem Js {α:Type} {xs ys:List α} {u:Unit} (h:F9 xs ys=some u):xs.length=ys.length:=by unfold F9 at h;split at h;assumption;cases h
def Jt:List (List UInt8 × Int)→List UInt8→Option Int
 | [],_=>none
 | (k,v)::m,s=>if k=s then some v else Jt m s
def Lk (x:Int) (k:Nat):Int:=[x-2,x+2,x,x].getD k 0
def FO (y:Int) (k:Nat):Int:=[y,y,y-2,y+2].getD k 0
def HU (W H:Int) (f:Int→Int→Int) (x y:Int) (k:Nat):Prop:=0≤Lk x k∧Lk x k<W∧0≤FO y k∧FO y k<H∧f (Lk x k) (FO y k)=0
instance (W H:Int) (f:Int→Int→Int) (x y:Int) (k:Nat):Decidable (HU W H f x y k):=by unfold HU;infer_instance
def Fm (W:Int) (xs:List Int) (x y:Int) (k:Nat):Int:=xs.getD (FO y k*W+Lk x k).toNat 0
def Aa (W H:Int) (f:Int→Int→Int) (xs:List Int) (x y:Int):Nat→Int
 | 0=>0
 | k+1=>Aa W H f xs x y k+if HU W H f x y k then Fm W xs x y k else 0
def uE (W H:Int) (f:Int→Int→Int) (x y:Int):Nat→Int
 | 0=>0
 | k+1=>uE W H f x y k+if HU W H f x y k then 1 else 0
def zN (W H:Int) (f:Int→Int→Int) (xs:List Int) (v x y:Int):Int:=
 if f x y=0 then v else if uE W H f x y 4=0 then 0 else Aa W H f xs x y 4/uE W H f x y 4
def gC (W H:Int) (s:Int × Int):Bool:=decide (0≤s.1)&&decide (s.1<W)&&decide (0≤s.2)&&decide (s.2<H)
def cntF (l:List (Int × Int)) (x y:Int):Int:=(l.count (x,y):Nat)
def sO (W H:Int) (l:List (Int × Int)) (xs:List Int) (k:Nat):Int:=min (zN W H (cntF l) xs (xs.getD k 0) ((k:Int)%W) ((k:Int)/W)) 65535
def gJ (N:Nat) (W H:Int) (P:List Int) (l:List (Int × Int)):Option (Int × Int × List Int × Int):=
 if 9223372036854775807<P.length then none
 else if bW W H P=false then some (0,0,[],1)
 else if 64<l.length then some (0,0,[],2)
 else if l.all (gC W H)=false then some (0,0,[],3)
 else some (W,H,(List.range P.length).map (sO W H l P),0)
end
section
open Go.ChangeMaps Go.RowKit Go.WideMaps
def s8 (x y:Int):Value:=.agg #[.int .i64 x,.int .i64 y]
def Ry (x:Int):Prop:=-9223372036854775808≤x∧x≤9223372036854775807
theorem LR {x y x' y':Int} (h:s8 x y=s8 x' y'):x=x'∧y=y':=by
 simpa [s8] using h
theorem Tryz.laidOut:laidOutB Tryz.prog=true:=by kernel_rfl
theorem Tryz.rowSpot:(92:TypeId)<Tryz.prog.types.size:=of_decide_eq_true (by kernel_rfl)
theorem Tryz.lawSpot:KeyLaw Tryz.prog 92:=deep_law_laid Tryz.laidOut (m:=2) (by omega) Tryz.rowSpot (by kernel_rfl) (by rw [Tryz.underlying92])
theorem Tryz.keySpot:Tryz.prog.keyType 92=true:=by kernel_rfl
theorem Tryz.cellsSpot:Tryz.prog.cellsOf 92=2:=by kernel_rfl
theorem Tryz.cellsInt:Tryz.prog.cellsOf 3=1:=by kernel_rfl
theorem Tryz.typesTwo:2≤Tryz.prog.types.size:=of_decide_eq_true (by kernel_rfl)
theorem N2 (x y:Int) (hx:Ry x) (hy:Ry y):∃l,keyOf Tryz.prog 92 (s8 x y)=some l:=by
 have wx:(Lit.int .i64 x).wf=true:=WalkArith.wf_i64 hx;have wy:(Lit.int .i64 y).wf=true:=WalkArith.wf_i64 hy;obtain ⟨m,hm⟩:∃m,Tryz.prog.types.size=m+2:=⟨Tryz.prog.types.size-2,by have:=Tryz.typesTwo;omega⟩
 have hf:(s8 x y).formed Tryz.prog 92=true:=by
  simp [s8,Value.formed,Tryz.underlying92,Tryz.cellsSpot]
 have hl:Tryz.prog.keyLits (Tryz.prog.types.size+1) 92 (s8 x y).cells.toList=some [.int .i64 x,.int .i64 y]:=by
  rw [hm]
  simp [s8,Value.cells,Program.keyLits,Tryz.underlying92,Tryz.underlying3,Tryz.cellsSpot,Tryz.cellsInt,wx,wy]
 unfold keyOf;simp only [Tryz.underlying92,Tryz.keySpot,hf,Bool.and_self,if_true,hl];exact ⟨_,rfl⟩
def z6 (w:World) (B n:Nat) (f:Int→Int→Int):Prop:=
 ∃es clock,w.heap[B]? = some (.map es clock)∧es.size≤n ∧
  (∀e∈es.toList,∃x y,Ry x∧Ry y∧e.key=s8 x y∧e.val = .int .i64 (f x y)∧e.born<clock) ∧
  (es.toList.map (·.born)).Nodup∧(es.toList.map (·.key)).Nodup∧∀x y,(∀e∈es.toList,e.key≠s8 x y)→f x y=0
section
variable {w:World} {B n:Nat} {f:Int→Int→Int}
theorem z6.lt (h:z6 w B n f):B<w.heap.size:=by
 obtain ⟨es,clock,hb,_⟩:=h;exact lt_of_block hb
theorem z6.heap {w':World} (h:z6 w B n f) (hb:w'.heap[B]? = w.heap[B]?):z6 w' B n f:=by
 obtain ⟨es,clock,h1,h2⟩:=h;exact ⟨es,clock,hb.trans h1,h2⟩
theorem z6.below {w':World} {B':Nat} (h:z6 w B n f) (hb:Below B' w w') (hB:B<B'):z6 w' B n f:=h.heap (hb.block B hB)
theorem z6.alloc (h:z6 w B n f) (o:Obj):z6 (w.alloc o) B n f:=h.heap (Below.heap_alloc w o B h.lt)
theorem z6.drew (h:z6 w B n f):z6 w.drew B n f:=h
theorem z6.BI (h:z6 w B n f) {p:Addr} (hp:B≠p.block) (u:Value):z6 (w.setCell p u) B n f:=h.heap (Below.heap_setCell w p u B hp)
theorem z6.mono {m:Nat} (h:z6 w B n f) (hn:n≤m):z6 w B m f:=by
 obtain ⟨es,clock,h1,h2,h3⟩:=h;exact ⟨es,clock,h1,by omega,h3⟩
theorem z6.made (w:World):z6 (w.alloc (.map #[] 0)) w.heap.size 0 (fun _ _=>0):=
 ⟨#[],0,heap_alloc_new w _,by simp,by simp,by simp,by simp,fun _ _ _=>rfl⟩
theorem VY {es:Array MapEntry} {clock:Nat} (h:∀e∈es.toList,∃x y,Ry x∧Ry y∧e.key=s8 x y∧e.val = .int .i64 (f x y)∧e.born<clock) :
  ∀e∈es.toList,∃l,keyOf Tryz.prog 92 e.key=some l:=fun e he=>by
 obtain ⟨x,y,hx,hy,hk,_⟩:=h e he;rw [hk];exact N2 x y hx hy
theorem z6.lookup (h:z6 w B n f) (x y:Int) (hx:Ry x) (hy:Ry y) :
  (Instr.lookup 173 (.map (some B)) (s8 x y) false).run Tryz.prog w = .ok (.int .i64 (f x y)) w:=by
 obtain ⟨es,clock,hb,_,hes,_,_,h0⟩:=h;obtain ⟨l,hl⟩:=N2 x y hx hy
 rcases Tryz.lawSpot.find w hl es.toList (VY hes) with ⟨h1,h2⟩ | ⟨j,e0,h1,h2,h3⟩
 ·rw [h0 x y h2]
  simp [Instr.lookup,run_underlying Tryz.underlying173,MapKept.run_getObj_map hb,Tryz.lawSpot.check w _ hl,h1,Result.andThen]
 ·obtain ⟨x',y',_,_,hk,hv,_⟩:=hes e0 (List.mem_of_getElem? h2);obtain ⟨rfl,rfl⟩:=LR (hk.symm.trans h3)
  simp [Instr.lookup,run_underlying Tryz.underlying173,MapKept.run_getObj_map hb,Tryz.lawSpot.check w _ hl,h1,hv,Result.andThen]
def Kx (f:Int→Int→Int) (x y v:Int):Int→Int→Int:=fun a b=>if a=x∧b=y then v else f a b
theorem z6.bump (h:z6 w B n f) (x y:Int) (hx:Ry x) (hy:Ry y) :
  ∃(v0:Value) (st:Nat) (o1:Obj),(Instr.mapEntry 173 (.map (some B)) (s8 x y)).run Tryz.prog w = .ok (.tuple #[v0,goInt st]) (setBlock w B o1) ∧
   (∀w2:World,w2.heap[B]? = some o1→(Instr.lookup 173 (.map (some B)) (s8 x y) false).run Tryz.prog w2 = .ok (.int .i64 (f x y)) w2) ∧
   ∀(w2:World) (v:Int),w2.heap[B]? = some o1→∃o2,(Instr.entryStore 173 (.map (some B)) (goInt st) (.int .i64 v)).run Tryz.prog w2 = .ok () (setBlock w2 B o2) ∧
    ∀w3:World,w3.heap[B]? = some o2→z6 w3 B (n+1) (Kx f x y v):=by
 obtain ⟨es,clock,hb,hn,hes,hborn,hkey,h0⟩:=h;obtain ⟨l,hl⟩:=N2 x y hx hy;have hkeys:=VY hes
 rcases Tryz.lawSpot.find w hl es.toList hkeys with ⟨h1,h2⟩ | ⟨j,e0,h1,h2,h3⟩
 ·have hf0:=h0 x y h2;refine ⟨.int .i64 0,clock,.map (es.push ⟨s8 x y,.int .i64 0,clock⟩) (clock+1),?_,?_,?_⟩
  ·simp [Instr.mapEntry,run_underlying Tryz.underlying173,MapKept.run_getObj_map hb,Tryz.lawSpot.check w false hl,h1,MapKept.run_setObj_map _ hb,Result.andThen,setBlock]
  ·intro w2 hw2
   have aE9:∀e∈(es.push ⟨s8 x y,.int .i64 0,clock⟩).toList,∃l,keyOf Tryz.prog 92 e.key=some l:=fun e he=>by
    rw [Array.toList_push] at he
    rcases List.mem_append.1 he with he | he
    ·exact hkeys e he
    ·rw [List.mem_singleton] at he;subst he;exact ⟨l,hl⟩
   rcases Tryz.lawSpot.find w2 hl _ aE9 with ⟨_,g2⟩ | ⟨j,e0,g1,g2,g3⟩
   ·exact absurd rfl (g2 ⟨s8 x y,.int .i64 0,clock⟩ (by simp))
   ·have he0:e0.val = .int .i64 0:=by
     have hm:=List.mem_of_getElem? g2;rw [Array.toList_push] at hm
     rcases List.mem_append.1 hm with hm | hm
     ·exact absurd g3 (h2 e0 hm)
     ·rw [List.mem_singleton] at hm;subst hm;rfl
    rw [hf0];rw [Array.toList_push] at g1
    simp [Instr.lookup,run_underlying Tryz.underlying173,MapKept.run_getObj_map hw2,Tryz.lawSpot.check w2 _ hl,g1,he0,Result.andThen]
  ·intro w2 v hw2
   have hidx:(es.push ⟨s8 x y,.int .i64 0,clock⟩).findIdx? (fun e=>((e.born:Nat):Int)==((clock:Nat):Int))=some es.size:=by
    rw [WideElems.findIdx_arr]
    have:=WideElems.findIdx_born (l:=(es.push ⟨s8 x y,.int .i64 0,clock⟩).toList) (j:=es.size) (e0:=⟨s8 x y,.int .i64 0,clock⟩) (by
     simp only [Array.toList_push,List.map_append,List.map_cons,List.map_nil];refine List.nodup_append.2 ⟨hborn,by simp,fun a ha c hc e1=>?_⟩;simp only [List.mem_singleton] at hc;obtain ⟨z,hz,rfl⟩:=List.mem_map.1 ha;obtain ⟨_,_,_,_,_,_,hlt⟩:=hes z hz
     omega) (by simp)
    exact this
   have hmod:(es.push ⟨s8 x y,.int .i64 0,clock⟩).modify es.size (fun e=>{ e with val:=.int .i64 v })=es.push ⟨s8 x y,.int .i64 v,clock⟩:=by
    apply Array.ext'
    rw [Array.toList_modify,Array.toList_push,Array.toList_push,←Array.length_toList,WideElems.modify_last]
   refine ⟨.map (es.push ⟨s8 x y,.int .i64 v,clock⟩) (clock+1),?_,?_⟩
   ·simp [Instr.entryStore,MapKept.run_getObj_map hw2,asInt,asIntOf,goInt,hidx,hmod,MapKept.run_setObj_map _ hw2,Result.andThen,setBlock]
   ·intro w3 hw3;refine ⟨_,_,hw3,by simp;omega,?_,?_,?_,?_⟩
    ·intro e he;rw [Array.toList_push] at he
     rcases List.mem_append.1 he with he1 | he
     ·obtain ⟨a,b,ha,hb',hk,hv,hlt⟩:=hes e he1;refine ⟨a,b,ha,hb',hk,?_,by omega⟩;have hne:¬(a=x∧b=y):=by rintro ⟨rfl,rfl⟩;exact h2 e he1 hk
      rw [hv,Kx,if_neg hne]
     ·rw [List.mem_singleton] at he;subst he;exact ⟨x,y,hx,hy,rfl,by simp [Kx],by simp⟩
    ·simp only [Array.toList_push,List.map_append,List.map_cons,List.map_nil];refine List.nodup_append.2 ⟨hborn,by simp,fun a ha c hc e1=>?_⟩;simp only [List.mem_singleton] at hc;obtain ⟨z,hz,rfl⟩:=List.mem_map.1 ha;obtain ⟨_,_,_,_,_,_,hlt⟩:=hes z hz
     omega
    ·simp only [Array.toList_push,List.map_append,List.map_cons,List.map_nil];refine List.nodup_append.2 ⟨hkey,by simp,fun a ha c hc e1=>?_⟩;simp only [List.mem_singleton] at hc;obtain ⟨z,hz,rfl⟩:=List.mem_map.1 ha;exact h2 z hz (e1.trans hc)
    ·intro a b hab;rw [Array.toList_push] at hab;have hne:¬(a=x∧b=y):=by rintro ⟨rfl,rfl⟩;exact hab _ (List.mem_append_right _ (List.mem_singleton.2 rfl)) rfl
     rw [Kx,if_neg hne];exact h0 a b fun e he=>hab e (List.mem_append_left _ he)
 ·have hj:es[j]? = some e0:=by simpa using h2
  have hm0:=List.mem_of_getElem? h2;obtain ⟨x',y',_,_,hk,hv,aJm⟩:=hes e0 hm0;obtain ⟨rfl,rfl⟩:=LR (hk.symm.trans h3)
  have hsame:es.modify j (fun e=>{ e with key:=s8 x' y' })=es:=by
   apply Array.ext'
   rw [Array.toList_modify,modify_eq_set _ _ _ _ h2];have:({ e0 with key:=s8 x' y' }:MapEntry)=e0:=by rw [←hk]
   rw [this];exact WideElems.set_self _ _ _ h2
  refine ⟨e0.val,e0.born,.map es clock,?_,?_,?_⟩
  ·simp [Instr.mapEntry,run_underlying Tryz.underlying173,MapKept.run_getObj_map hb,Tryz.lawSpot.check w false hl,h1,hj,h3,Tryz.lawSpot.stays w hl,hsame,MapKept.run_setObj_map _ hb,Result.andThen,setBlock]
  ·intro w2 hw2;exact z6.lookup (n:=n) ⟨es,clock,hw2,hn,hes,hborn,hkey,h0⟩ x' y' hx hy
  ·intro w2 v hw2
   have hidx:es.findIdx? (fun e=>((e.born:Nat):Int)==((e0.born:Nat):Int))=some j:=by
    rw [WideElems.findIdx_arr];exact WideElems.findIdx_born hborn h2
   refine ⟨.map (es.modify j fun e=>{ e with val:=.int .i64 v }) clock,?_,?_⟩
   ·simp [Instr.entryStore,MapKept.run_getObj_map hw2,asInt,asIntOf,goInt,hidx,MapKept.run_setObj_map _ hw2,Result.andThen,setBlock]
   ·intro w3 hw3
    have hl3:(es.modify j fun e=>{ e with val:=.int .i64 v }).toList=es.toList.set j { e0 with val:=.int .i64 v }:=by
     rw [Array.toList_modify,modify_eq_set _ _ _ _ h2]
    have hjlt:j<es.toList.length:=(List.getElem?_eq_some_iff.1 h2).1
    have aCK:(es.toList.set j { e0 with val:=.int .i64 v }).map (·.key)=es.toList.map (·.key):=by
     rw [List.map_set];exact WideElems.set_self _ _ _ (by rw [List.getElem?_map,h2];rfl)
    have aAt:(es.toList.set j { e0 with val:=.int .i64 v }).map (·.born)=es.toList.map (·.born):=by
     rw [List.map_set];exact WideElems.set_self _ _ _ (by rw [List.getElem?_map,h2];rfl)
    refine ⟨_,_,hw3,by simp;omega,?_,?_,?_,?_⟩
    ·intro e he;rw [hl3] at he;obtain ⟨i,hi⟩:=List.mem_iff_getElem?.1 he;rw [List.getElem?_set] at hi
     by_cases hij:j=i
     ·subst hij;rw [if_pos rfl,if_pos hjlt] at hi;obtain rfl:=Option.some.inj hi;exact ⟨x',y',hx,hy,hk,by simp [Kx],aJm⟩
     ·rw [if_neg hij] at hi;obtain ⟨a,b,ha,hb',hka,hva,hlt⟩:=hes e (List.mem_of_getElem? hi);refine ⟨a,b,ha,hb',hka,?_,hlt⟩
      have hne:¬(a=x'∧b=y'):=by
       rintro ⟨rfl,rfl⟩;have g1:(es.toList.map (·.key))[j]? = some e0.key:=by rw [List.getElem?_map,h2];rfl
       have g2:(es.toList.map (·.key))[i]? = some e0.key:=by rw [List.getElem?_map,hi,hk,←hka];rfl
       exact hij ((List.getElem?_inj (by rw [List.length_map];exact hjlt) hkey).1 (g1.trans g2.symm))
      rw [hva,Kx,if_neg hne]
    ·rw [hl3,aAt];exact hborn
    ·rw [hl3,aCK];exact hkey
    ·intro a b hab;rw [hl3] at hab
     have hne:¬(a=x'∧b=y'):=by
      rintro ⟨rfl,rfl⟩;exact hab { e0 with val:=.int .i64 v } (List.mem_iff_getElem?.2 ⟨j,by rw [List.getElem?_set,if_pos rfl,if_pos hjlt]⟩) hk
     rw [Kx,if_neg hne];refine h0 a b fun e he hke=>?_
     obtain ⟨i,hi⟩:=List.mem_iff_getElem?.1 he
     have hij:j≠i:=by
      rintro rfl;rw [h2] at hi;obtain rfl:=Option.some.inj hi;obtain ⟨rfl,rfl⟩:=LR (hk.symm.trans hke);exact hne ⟨rfl,rfl⟩
     exact hab e (List.mem_iff_getElem?.2 ⟨i,by rw [List.getElem?_set_ne hij];exact hi⟩) hke
end
end
section
open Go.RowKit
theorem aFa (x:Int) (k:Nat) (hk:k<4) (h:0≤x∧x≤64):-2≤Lk x k∧Lk x k≤66:=by
 match k,hk with
 | 0,_=>simp [Lk];omega
 | 1,_=>simp [Lk];omega
 | 2,_=>simp [Lk];omega
 | 3,_=>simp [Lk];omega
theorem aFb (y:Int) (k:Nat) (hk:k<4) (h:0≤y∧y≤64):-2≤FO y k∧FO y k≤66:=by
 match k,hk with
 | 0,_=>simp [FO];omega
 | 1,_=>simp [FO];omega
 | 2,_=>simp [FO];omega
 | 3,_=>simp [FO];omega
theorem aAu (x y:Int) (k:Nat) (hk:k<4) (wx:World) :
  (Instr.index 175 (.agg #[.int .i64 (x-2),.int .i64 y,.int .i64 (x+2),.int .i64 y,.int .i64 x,.int .i64 (y-2),.int .i64 x,.int .i64 (y+2)]) (.int .i64 (k:Int))).run Tryz.prog wx = .ok (s8 (Lk x k) (FO y k)) wx:=by
 have h0:(Instr.index 175 (.agg #[.int .i64 (x-2),.int .i64 y,.int .i64 (x+2),.int .i64 y,.int .i64 x,.int .i64 (y-2),.int .i64 x,.int .i64 (y+2)]) (.int .i64 0)).run Tryz.prog wx = .ok (s8 (x-2) y) wx:=by kernel_rfl
 have h1:(Instr.index 175 (.agg #[.int .i64 (x-2),.int .i64 y,.int .i64 (x+2),.int .i64 y,.int .i64 x,.int .i64 (y-2),.int .i64 x,.int .i64 (y+2)]) (.int .i64 1)).run Tryz.prog wx = .ok (s8 (x+2) y) wx:=by kernel_rfl
 have h2:(Instr.index 175 (.agg #[.int .i64 (x-2),.int .i64 y,.int .i64 (x+2),.int .i64 y,.int .i64 x,.int .i64 (y-2),.int .i64 x,.int .i64 (y+2)]) (.int .i64 2)).run Tryz.prog wx = .ok (s8 x (y-2)) wx:=by kernel_rfl
 have h3:(Instr.index 175 (.agg #[.int .i64 (x-2),.int .i64 y,.int .i64 (x+2),.int .i64 y,.int .i64 x,.int .i64 (y-2),.int .i64 x,.int .i64 (y+2)]) (.int .i64 3)).run Tryz.prog wx = .ok (s8 x (y+2)) wx:=by kernel_rfl
 rcases (show k=0∨k=1∨k=2∨k=3 by omega) with rfl | rfl | rfl | rfl
 ·exact h0
 ·exact h1
 ·exact h2
 ·exact h3
theorem aAv (W:Int) (xs:List Int) (x y:Int) (k:Nat) (hxs:∀(k:Nat) (v:Int),xs[k]? = some v→0≤v∧v≤65535):0≤Fm W xs x y k∧Fm W xs x y k≤65535:=by
 unfold Fm;rw [List.getD_eq_getElem?_getD];cases h:xs[(FO y k*W+Lk x k).toNat]? with
 | none=>simp
 | some v=>simpa using hxs _ v h
theorem SK (W H:Int) (f:Int→Int→Int) (xs:List Int) (x y:Int) (hxs:∀(k:Nat) (v:Int),xs[k]? = some v→0≤v∧v≤65535):∀k:Nat,0≤Aa W H f xs x y k∧Aa W H f xs x y k≤65535*k
 | 0=>by simp [Aa]
 | k+1=>by
  have h1:=SK W H f xs x y hxs k;have h2:=aAv W xs x y k hxs;simp only [Aa]
  split <;> omega
theorem SM (W H:Int) (f:Int→Int→Int) (x y:Int):∀k:Nat,0≤uE W H f x y k∧uE W H f x y k≤k
 | 0=>by simp [uE]
 | k+1=>by
  have h1:=SM W H f x y k;simp only [uE]
  split <;> omega
theorem SN (W H v x y:Int) (A:Option Addr) (n c B mB mn gp:Nat) (f:Int→Int→Int) (xs:List Int) (w:World) (hR:RI w 0 A n xs) (hx:0≤x∧x≤64) (hy:0≤y∧y≤64)
  (hW:1≤W∧W≤64) (hH:1≤H∧H≤64) (hn:(n:Int)=W*H) (hxs:∀(k:Nat) (v:Int),xs[k]? = some v→0≤v∧v≤65535)
  (kM:z6 w mB mn f) (kB:jM w B 173 #[.map (some mB)]) (kP:jM w gp 31 #[.int .i64 W,.int .i64 H,.slice A n c]) :
  Calls Tryz.prog 112 #[.int .i64 v,.int .i64 x,.int .i64 y,.pointer (some ⟨B,0,none⟩),.pointer (some ⟨gp,0,none⟩)] w fun e w'=>
   e = .returned (.int .i64 (zN W H f xs v x y))∧Below w.heap.size w w':=by
 have hlk:=kM.lookup x y (by unfold Ry;omega) (by unfold Ry;omega);unfold s8 at hlk;obtain ⟨b0,_⟩:=kB.c1
 by_cases h0:f x y=0
 ·have HV:Hid (zN W H f xs v x y=v):=by show _=_;rw [zN,if_pos h0]
  have hb:(f x y==0)=true:=by simp [h0]
  clear h0 hR hxs kM kB kP hn
  go_enter Tryz.func112,Tryz.ntmps112
  go_wp2
  go_ret
  exact ⟨XK HV.out.symm,Below.refl _ _⟩
 ·have hb:(f x y==0)=false:=by simp [h0]
  have HV:Hid (zN W H f xs v x y=if uE W H f x y 4=0 then 0 else Aa W H f xs x y 4/uE W H f x y 4):=by show _=_;rw [zN,if_neg h0]
  have KM:=Lib.hid kM;have KB:=Lib.hid kB;have KP:=Lib.hid kP;have HR:=Lib.hid hR;have HX:=Lib.hid hxs;have HN:=Lib.hid hn;clear h0 hR hxs kM kB kP hn
  go_enter Tryz.func112,Tryz.ntmps112
  go_wp2_with fail
  go_loopw [9,10,37] (fun s t i wr=>∃k:Nat,k≤4∧i = .int .i64 k∧s = .int .i64 (Aa W H f xs x y k)∧t = .int .i64 (uE W H f x y k)∧Below w.heap.size w wr) (fun _ _ i _=>4-(intOf i).toNat)
  case atStart=>exact ⟨0,by omega,rfl,rfl,rfl,Below.refl _ _⟩
  case round=>
   obtain ⟨k,hk,rfl,rfl,rfl,hbel⟩:=hrel;have kM:=KM.out.below hbel KM.out.lt;have kB:=KB.out.below hbel KB.out.lt;have kP:=KP.out.below hbel KP.out.lt;obtain ⟨b1,_⟩:=kB.c1;obtain ⟨p0,p1,p2⟩:=kP.c3;have hgp:=kP.lt;have hBl:=kB.lt;have hsb:=SK W H f xs x y HX.out k;have hcb:=SM W H f x y k
   by_cases hlt:k<4
   ·have hix:=aAu x y k hlt;unfold s8 at hix;have hX:=aFa x k hlt hx;have hY:=aFb y k hlt hy
    have hl:∀cs:Array Value,(Instr.lookup 173 (.map (some mB)) (.agg #[.int .i64 (Lk x k),.int .i64 (FO y k)]) false).run Tryz.prog (wr.alloc (.cells cs 92)) = .ok (.int .i64 (f (Lk x k) (FO y k))) (wr.alloc (.cells cs 92)):=fun cs=>
     (kM.alloc (.cells cs 92)).lookup (Lk x k) (FO y k) (by unfold Ry;omega) (by unfold Ry;omega)
    have HS:Hid (Aa W H f xs x y (k+1)=Aa W H f xs x y k+if HU W H f x y k then Fm W xs x y k else 0):=rfl;have HC:Hid (uE W H f x y (k+1)=uE W H f x y k+if HU W H f x y k then 1 else 0):=rfl;have HSZ:=Lib.hid hbel;clear kM kB kP hbel
    by_cases hok:HU W H f x y k
    ·have HK:=Lib.hid hok;obtain ⟨o1,o2,o3,o4,o5⟩:=hok;have o5':(f (Lk x k) (FO y k)==0)=true:=by simp [o5]
     clear o5;obtain ⟨hW1,hW2⟩:=hW;obtain ⟨hH1,hH2⟩:=hH;have hm0:0≤FO y k*W:=Int.mul_nonneg (by omega) (by omega)
     have hm1:FO y k*W+W≤H*W:=by
      have:(FO y k+1)*W≤H*W:=Int.mul_le_mul_of_nonneg_right (by omega) (by omega);rw [Int.add_mul] at this;omega
     have hm2:H*W≤64*64:=Int.mul_le_mul hH2 hW2 (by omega) (by omega);have hm3:FO y k*W+Lk x k<n:=by rw [HN.out,Int.mul_comm W H];omega
     obtain ⟨b,o,sv,rfl,hbs,hsv,hcc⟩:=HR.out.at_ (FO y k*W+Lk x k).toNat (by omega);have aJO:=(HSZ.out.cell (p:=⟨b,o+(FO y k*W+Lk x k).toNat,none⟩) hbs).trans hcc;have hbl:b<wr.heap.size:=Nat.lt_of_lt_of_le hbs HSZ.out.size;have aJP:=HX.out _ sv hsv;have HSV:Hid (Fm W xs x y k=sv):=by show _=_;rw [Fm,List.getD_eq_getElem?_getD,hsv];rfl
     have hm4:FO y k*W≤4096:=by omega
     clear hcc hsv hm1
     generalize hX0:Lk x k=X at *
     generalize hY0:FO y k=Y at *
     clear hX0 hY0
     go_wp2
     go_roundw
     case rel=>exact ⟨k+1,by omega,by go_num,by rw [HS.out,if_pos HK.out,HSV.out],by rw [HC.out,if_pos HK.out],HSZ.out.alloc HSZ.out.size _⟩
     case measure=>simp [intOf];omega
    ·have HK:=Lib.hid hok;unfold HU at hok
     generalize hX0:Lk x k=X at *
     generalize hY0:FO y k=Y at *
     clear hX0 hY0
     by_cases hz:f X Y=0
     ·have o5':(f X Y==0)=true:=by simp [hz]
      have hok':¬(0≤X∧X<W∧0≤Y∧Y<H):=fun hh=>hok ⟨hh.1,hh.2.1,hh.2.2.1,hh.2.2.2,hz⟩
      clear hok hz
      go_wp2
      all_goals
       go_roundw
       case rel=>exact ⟨k+1,by omega,by go_num,by rw [HS.out,if_neg HK.out,Int.add_zero],by rw [HC.out,if_neg HK.out,Int.add_zero],HSZ.out.alloc HSZ.out.size _⟩
       case measure=>simp [intOf];omega
     ·have o5':(f X Y==0)=false:=by simp [hz]
      clear hok hz
      go_wp2
      all_goals
       go_roundw
       case rel=>exact ⟨k+1,by omega,by go_num,by rw [HS.out,if_neg HK.out,Int.add_zero],by rw [HC.out,if_neg HK.out,Int.add_zero],HSZ.out.alloc HSZ.out.size _⟩
       case measure=>simp [intOf];omega
   ·obtain rfl:k=4:=by omega
    have HSZ:=Lib.hid hbel;clear kM kB kP hbel
    by_cases hc0:uE W H f x y 4=0
    ·have hc1:(uE W H f x y 4==0)=true:=by simp [hc0]
     have HC0:=Lib.hid hc0;clear hc0
     go_wp2
     go_ret
     exact ⟨XK (by rw [HV.out,if_pos HC0.out]),HSZ.out⟩
    ·have hc1:(uE W H f x y 4==0)=false:=by simp [hc0]
     have hc2:1≤uE W H f x y 4:=by omega
     have HC0:=Lib.hid hc0;clear hc0
     go_wp2
     go_ret
     exact ⟨XK (by rw [HV.out,if_neg HC0.out]),HSZ.out⟩
end
section
open Go.ChangeMaps Go.RowKit
def RS (w:World) (B:Nat) (A:Option Addr) (n:Nat) (l:List (Int × Int)):Prop:=
 l.length=n∧(0<n→∃b o,A=some ⟨b,o,none⟩∧B≤b∧b<w.heap.size∧∀(k:Nat) x y,l[k]? = some (x,y)→w.cell? ⟨b,o+k*2,none⟩=some (.int .i64 x)∧w.cell? ⟨b,o+k*2+1,none⟩=some (.int .i64 y))
theorem RS.below {w w':World} {B B' n:Nat} {A:Option Addr} {l:List (Int × Int)} (h:RS w B A n l) (hb:Below B' w w') (hB:w.heap.size≤B'):RS w' B A n l:=
 ⟨h.1,fun hn=>by
  obtain ⟨b,o,hA,h1,h2,hc⟩:=h.2 hn;refine ⟨b,o,hA,h1,Nat.lt_of_lt_of_le h2 hb.size,fun k x y hu=>?_⟩;obtain ⟨c1,c2⟩:=hc k x y hu
  exact ⟨(hb.cell (p:=⟨b,o+k*2,none⟩) (by show b<B';omega)).trans c1,(hb.cell (p:=⟨b,o+k*2+1,none⟩) (by show b<B';omega)).trans c2⟩⟩
theorem RS.at_ {w:World} {B n:Nat} {A:Option Addr} {l:List (Int × Int)} (h:RS w B A n l) (k:Nat) (hk:k<n) :
  ∃b o x y,A=some ⟨b,o,none⟩∧b<w.heap.size∧l[k]? = some (x,y)∧w.cell? ⟨b,o+k*2,none⟩=some (.int .i64 x)∧w.cell? ⟨b,o+k*2+1,none⟩=some (.int .i64 y):=by
 obtain ⟨b,o,hA,_,hb,hc⟩:=h.2 (by omega);have hl:k<l.length:=by rw [h.1];exact hk
 have e:l[k]? = some (l[k].1,l[k].2):=List.getElem?_eq_getElem hl;obtain ⟨c1,c2⟩:=hc k _ _ e;exact ⟨b,o,_,_,hA,hb,e,c1,c2⟩
theorem RS.nil {w:World} {B:Nat} {A:Option Addr}:RS w B A 0 []:=⟨rfl,fun h=>absurd h (by omega)⟩
theorem aCL (l:List (Int × Int)) (x y:Int):0≤cntF l x y∧cntF l x y≤l.length:=by
 have:=List.count_le_length (a:=(x,y)) (l:=l);unfold cntF;omega
theorem Xi {l:List (Int × Int)} {k:Nat} {x y:Int} (h:l[k]? = some (x,y)):cntF (l.take (k+1))=Kx (cntF (l.take k)) x y (cntF (l.take k) x y+1):=by
 funext a b
 unfold Kx cntF;rw [List.take_add_one,h,List.count_append]
 by_cases hab:a=x∧b=y
 ·obtain ⟨rfl,rfl⟩:=hab
  simp
 ·rw [if_neg hab];have:(x,y)≠(a,b):=by intro e;injection e with e1 e2;exact hab ⟨e1.symm,e2.symm⟩
  simp [this]
theorem Iu {w:World} {b i:Nat} (o:Obj) (h:i≠b):(setBlock w b o).heap[i]? = w.heap[i]?:=by
 simp [setBlock,Array.getElem?_setIfInBounds_ne (Ne.symm h)]
theorem JS {w:World} {b:Nat} (o:Obj) (h:b<w.heap.size):(setBlock w b o).heap[b]? = some o:=by
 simp [setBlock,h]
theorem Iv {B:Nat} {a w:World} (h:Below B a w) {b:Nat} (hb:B≤b) (o:Obj):Below B a (setBlock w b o):=
 h.trans ⟨rfl,rfl,rfl,by simp [setBlock],fun k hk=>Iu o (by omega)⟩
theorem aAw {w:World} {b:Nat} (o:Obj) {a:Addr} {v:Value} (h:a.block≠b) (hc:w.cell? a=some v):(setBlock w b o).cell? a=some v:=
 (World.cell?_of_block (Iu o h)).trans hc
theorem jM.setB {w:World} {g:Nat} {t:TypeId} {cs:Array Value} (h:jM w g t cs) {b:Nat} (hb:g≠b) (o:Obj):jM (setBlock w b o) g t cs:=(Iu o hb).trans h
theorem Uz (args:Array Value) (wx:World):(callFunc 112 args).run Tryz.prog wx = .ok (.enter 112 args) wx:=by kernel_rfl
def vG (m:Nat) (H:Int) (n:Nat) (l:List (Int × Int)) (xs:List Int) (w:World) (e:Ending) (w':World):Prop:=
 if l.all (gC m H)=true then ∃A' c',e = .returned (.tuple #[.agg #[.int .i64 m,.int .i64 H,.slice A' n c'],.int .i64 0])∧(RI w' w.heap.size A' n ((List.range n).map (sO m H l xs))∧OI w' w.heap.size A' n c' ((List.range n).map (sO m H l xs)))∧Below w.heap.size w w'
 else e = .returned (.tuple #[Kw,.int .i64 3])∧Below w.heap.size w w'
theorem vG.no {m:Nat} {H:Int} {n:Nat} {l:List (Int × Int)} {xs:List Int} {w w':World} (h:l.all (gC m H)=false) (hb:Below w.heap.size w w'):vG m H n l xs w (.returned (.tuple #[Kw,.int .i64 3])) w':=by
 unfold vG;rw [if_neg (by rw [h];exact Bool.false_ne_true)];exact ⟨rfl,hb⟩
theorem vG.yes {m:Nat} {H:Int} {n:Nat} {l:List (Int × Int)} {xs:List Int} {w w':World} {A':Option Addr} {c':Nat} (h:l.all (gC m H)=true) (hr:RI w' w.heap.size A' n ((List.range n).map (sO m H l xs))) (ho:OI w' w.heap.size A' n c' ((List.range n).map (sO m H l xs))) (hb:Below w.heap.size w w') :
  vG m H n l xs w (.returned (.tuple #[.agg #[.int .i64 m,.int .i64 H,.slice A' n c'],.int .i64 0])) w':=by
 unfold vG;rw [if_pos h];exact ⟨A',c',rfl,⟨hr,ho⟩,hb⟩
section
variable (W H:Int) (A A2:Option Addr) (n c n2 c2:Nat) (xs:List Int) (l:List (Int × Int)) (w:World)
theorem SO (h:RI w 0 A n xs) (hs:RS w 0 A2 n2 l) (hn:n≤maxLen) (hf:bW W H xs=false) :
  Calls Tryz.prog 36 #[.agg #[.int .i64 W,.int .i64 H,.slice A n c],.slice A2 n2 c2] w fun e w'=>
   e = .returned (.tuple #[Kw,.int .i64 1])∧Below w.heap.size w w':=by
 have HR:=Lib.hid h;have HS:=Lib.hid hs;have HF:=Lib.hid hf;have HN:=Lib.hid hn;clear h hs hf hn;have hmm:=@run_makeMap Tryz.prog
 go_enter Tryz.func36,Tryz.ntmps36
 go_wp2_with fail
 refine (N1 _ _ _ _ _ _ _ (HR.out.below (B':=w.heap.size) (by go_grown) (Nat.le_refl _)) HN.out).mono ?_;rintro e w1 ⟨rfl,hb⟩;rw [HF.out];have r:=(show jM w1 (w.heap.size+1) 31 #[.int .i64 0,.int .i64 0,.slice none 0 0] from (jM.newAt (by simp)).below hb (by simp))
 have p:=(show jM w1 w.heap.size 31 #[.int .i64 W,.int .i64 H,.slice A n c] from ((jM.newAt (by simp)).alloc _).below hb (by simp <;> omega))
 obtain ⟨r0,r1,r2⟩:=r.c3;obtain ⟨f0,f1,f2⟩:=r.f3;obtain ⟨p0,p1,p2⟩:=p.c3;have KR:=Lib.hid r;have KP:=Lib.hid p;have hB:Hid (Below w.heap.size w w1):=(show Below w.heap.size w _ by go_grown).trans (hb.mono (by simp <;> omega));have hsz:w.heap.size+2≤w1.heap.size:=by have:=hb.size;simp at this;omega
 clear r p hb;clear HS
 go_wp2
 exact bodyPost_ret (AL rfl _ _ (w.heap.size+1) 31 _ _ (by rfl) (((KR.out.BI 0 _ rfl).BI 1 _ rfl).BI 2 _ rfl) Tryz.underlying31 rfl (by kernel_rfl)) rfl ⟨rfl,((hB.out.setCell (by simp <;> omega) _).setCell (by simp <;> omega) _).setCell (by simp <;> omega) _⟩
theorem SQ (h:RI w 0 A n xs) (hs:RS w 0 A2 n2 l) (hn:n≤maxLen) (hf:bW W H xs=true) (hm:64<n2) :
  Calls Tryz.prog 36 #[.agg #[.int .i64 W,.int .i64 H,.slice A n c],.slice A2 n2 c2] w fun e w'=>
   e = .returned (.tuple #[Kw,.int .i64 2])∧Below w.heap.size w w':=by
 have HR:=Lib.hid h;have HS:=Lib.hid hs;have HF:=Lib.hid hf;have HN:=Lib.hid hn;clear h hs hf hn;have hmm:=@run_makeMap Tryz.prog
 go_enter Tryz.func36,Tryz.ntmps36
 go_wp2_with fail
 refine (N1 _ _ _ _ _ _ _ (HR.out.below (B':=w.heap.size) (by go_grown) (Nat.le_refl _)) HN.out).mono ?_;rintro e w1 ⟨rfl,hb⟩;rw [HF.out];have r:=(show jM w1 (w.heap.size+1) 31 #[.int .i64 0,.int .i64 0,.slice none 0 0] from (jM.newAt (by simp)).below hb (by simp))
 have p:=(show jM w1 w.heap.size 31 #[.int .i64 W,.int .i64 H,.slice A n c] from ((jM.newAt (by simp)).alloc _).below hb (by simp <;> omega))
 obtain ⟨r0,r1,r2⟩:=r.c3;obtain ⟨f0,f1,f2⟩:=r.f3;obtain ⟨p0,p1,p2⟩:=p.c3;have KR:=Lib.hid r;have KP:=Lib.hid p;have hB:Hid (Below w.heap.size w w1):=(show Below w.heap.size w _ by go_grown).trans (hb.mono (by simp <;> omega));have hsz:w.heap.size+2≤w1.heap.size:=by have:=hb.size;simp at this;omega
 clear r p hb;clear HS
 go_wp2
 exact bodyPost_ret (AL rfl _ _ (w.heap.size+1) 31 _ _ (by rfl) (((KR.out.BI 0 _ rfl).BI 1 _ rfl).BI 2 _ rfl) Tryz.underlying31 rfl (by kernel_rfl)) rfl ⟨rfl,((hB.out.setCell (by simp <;> omega) _).setCell (by simp <;> omega) _).setCell (by simp <;> omega) _⟩
theorem SR (m:Nat) (h:RI w 0 A n xs) (hs:RS w 0 A2 n2 l) (hn:n≤maxLen) (hf:bW m H xs=true) (hm:n2≤64) :
  Calls Tryz.prog 36 #[.agg #[.int .i64 m,.int .i64 H,.slice A n c],.slice A2 n2 c2] w fun e w'=>
   vG m H n l xs w e w':=by
 obtain ⟨hside,hlen,hall⟩:=rU.1 hf;have HSD:=Lib.hid hside;have aJQ:1≤m∧m≤64∧1≤H∧H≤64:=by unfold xQ at hside;omega
 have HLN:=Lib.hid hlen;have HAL:=Lib.hid hall;clear hside hlen hall;have HR:=Lib.hid h;have HS:=Lib.hid hs;have HF:=Lib.hid hf;have HN:=Lib.hid hn;clear h hs hf hn;have hmm:=@run_makeMap Tryz.prog
 go_enter Tryz.func36,Tryz.ntmps36
 go_wp2_with fail
 refine (N1 _ _ _ _ _ _ _ (HR.out.below (B':=w.heap.size) (by go_grown) (Nat.le_refl _)) HN.out).mono ?_;rintro e w1 ⟨rfl,hb⟩;rw [HF.out];have r:=(show jM w1 (w.heap.size+1) 31 #[.int .i64 0,.int .i64 0,.slice none 0 0] from (jM.newAt (by simp)).below hb (by simp))
 have p:=(show jM w1 w.heap.size 31 #[.int .i64 m,.int .i64 H,.slice A n c] from ((jM.newAt (by simp)).alloc _).below hb (by simp <;> omega))
 obtain ⟨r0,r1,r2⟩:=r.c3;obtain ⟨f0,f1,f2⟩:=r.f3;obtain ⟨p0,p1,p2⟩:=p.c3;have KR:=Lib.hid r;have KP:=Lib.hid p;have hB:Hid (Below w.heap.size w w1):=(show Below w.heap.size w _ by go_grown).trans (hb.mono (by simp <;> omega));have hsz:w.heap.size+2≤w1.heap.size:=by have:=hb.size;simp at this;omega
 clear r p hb
 go_wp2_with fail
 go_loopw [20] (fun i wr=>∃k:Nat,k≤n2∧i = .int .i64 k∧jM wr w.heap.size 31 #[.int .i64 m,.int .i64 H,.slice A n c]∧jM wr (w.heap.size+1) 31 #[.int .i64 0,.int .i64 0,.slice none 0 0] ∧
  jM wr (w1.heap.size+1) 173 #[.map (some w1.heap.size)]∧z6 wr w1.heap.size k (cntF (l.take k))∧(l.take k).all (gC m H)=true∧Below w.heap.size w wr∧w1.heap.size+2≤wr.heap.size) (fun i _=>n2-(intOf i).toNat)
 case atStart=>
  refine ⟨0,Nat.zero_le _,rfl,(KP.out.alloc _).alloc _,(KR.out.alloc _).alloc _,jM.newAt (by simp),?_,rfl,(hB.out.alloc (by omega) _).alloc (by simp;omega) _,by simp⟩;have e:cntF (l.take 0)=fun _ _=>0:=by funext a b;simp [cntF]
  rw [e];exact (z6.made w1).alloc _
 case round=>
  clear p0 p1 p2 r0 r1 r2 f0 f1 f2;obtain ⟨k,hk,rfl,q0,q1,q2,q3,hal,hbel,hsz2⟩:=hrel;obtain ⟨p0,p1,p2⟩:=q0.c3;obtain ⟨r0,r1,r2⟩:=q1.c3;obtain ⟨f0,f1,f2⟩:=q1.f3;obtain ⟨m0,_⟩:=q2.c1;have Q0:=Lib.hid q0;have Q1:=Lib.hid q1;have Q2:=Lib.hid q2;have Q3:=Lib.hid q3;have HA:=Lib.hid hal;have HB:=Lib.hid hbel
  by_cases hlt:k<n2
  ·obtain ⟨b,o,x,y,rfl,hbs,hxy,d0,d1⟩:=HS.out.at_ k hlt;have d0':=(hbel.cell (p:=⟨b,o+k*2,none⟩) hbs).trans d0;have d1':=(hbel.cell (p:=⟨b,o+k*2+1,none⟩) hbs).trans d1;have hbl:b<wr.heap.size:=Nat.lt_of_lt_of_le hbs hbel.size;have HXY:=Lib.hid hxy;have z0:w.heap.size<wr.heap.size:=by omega
   have z1:w.heap.size+1<wr.heap.size:=by omega
   have z2:w1.heap.size<wr.heap.size:=by omega
   have z3:w1.heap.size+1<wr.heap.size:=by omega
   clear q0 q1 q2 q3 hal hbel d0 d1 hxy
   by_cases hok:0≤x∧x<m∧0≤y∧y<H
   ·have HYO:Hid (gC m H (x,y)=true):=by show _=_;simp [gC,hok]
    obtain ⟨o1,o2,o3,o4⟩:=hok;have hcb:=aCL (l.take k) x y;have hcl:(l.take k).length≤k:=List.length_take_le _ _;obtain ⟨v0,st,TG,hE,hL,hSt⟩:=z6.bump (w:=(wr.alloc (.cells #[.int .i64 x,.int .i64 y] 92)).drew) ((Q3.out.alloc _).drew) x y (by unfold Ry;omega) (by unfold Ry;omega);have hL0:=z6.lookup (w:=(wr.alloc (.cells #[.int .i64 x,.int .i64 y] 92)).drew) ((Q3.out.alloc _).drew) x y (by unfold Ry;omega) (by unfold Ry;omega);unfold s8 at hE hL hL0;have HE:=Lib.hid hE;have HL:=Lib.hid hL;have HL0:=Lib.hid hL0;have HST:=Lib.hid hSt;clear hE hL hL0 hSt;have ew:IntKind.i64.wrap (cntF (l.take k) x y+1)=cntF (l.take k) x y+1:=IntWalk.i64_in _ (by omega)
    go_wp2_with fail
    have lt1:w1.heap.size<(wr.alloc (.cells #[.int .i64 x,.int .i64 y] 92)).drew.heap.size:=by simp;omega
    have M1:∀w',(w'=(wr.alloc (.cells #[.int .i64 x,.int .i64 y] 92)).drew∨w'=setBlock (wr.alloc (.cells #[.int .i64 x,.int .i64 y] 92)).drew w1.heap.size TG)→w'.cell? ⟨w1.heap.size+1,0,none⟩=some (.map (some w1.heap.size)):=by
     rintro w' (rfl | rfl)
     ·exact UU m0
     ·exact aAw _ (by simp) (UU m0)
    have M2:∀w',(w'=(wr.alloc (.cells #[.int .i64 x,.int .i64 y] 92)).drew∨w'=setBlock (wr.alloc (.cells #[.int .i64 x,.int .i64 y] 92)).drew w1.heap.size TG)→w'.cell? ⟨wr.heap.size,0,none⟩=some (.int .i64 x):=by
     rintro w' (rfl | rfl)
     ·exact (jM.new wr 92 #[.int .i64 x,.int .i64 y]).c2.1
     ·exact aAw _ (by simp;omega) (jM.new wr 92 #[.int .i64 x,.int .i64 y]).c2.1
    have M3:∀w',(w'=(wr.alloc (.cells #[.int .i64 x,.int .i64 y] 92)).drew∨w'=setBlock (wr.alloc (.cells #[.int .i64 x,.int .i64 y] 92)).drew w1.heap.size TG)→w'.cell? ⟨wr.heap.size,1,none⟩=some (.int .i64 y):=by
     rintro w' (rfl | rfl)
     ·exact (jM.new wr 92 #[.int .i64 x,.int .i64 y]).c2.2
     ·exact aAw _ (by simp;omega) (jM.new wr 92 #[.int .i64 x,.int .i64 y]).c2.2
    have M4:∀w',(w'=(wr.alloc (.cells #[.int .i64 x,.int .i64 y] 92)).drew∨w'=setBlock (wr.alloc (.cells #[.int .i64 x,.int .i64 y] 92)).drew w1.heap.size TG)→(Instr.lookup 173 (.map (some w1.heap.size)) (.agg #[.int .i64 x,.int .i64 y]) false).run Tryz.prog w' = .ok (.int .i64 (cntF (l.take k) x y)) w':=by
     rintro w' (rfl | rfl)
     ·exact HL0.out
     ·exact HL.out _ (JS _ lt1)
    refine aF (fun w'=>w'=(wr.alloc (.cells #[.int .i64 x,.int .i64 y] 92)).drew∨w'=setBlock (wr.alloc (.cells #[.int .i64 x,.int .i64 y] 92)).drew w1.heap.size TG) [0,0,0,0,1,0,2] (by kernel_rfl) (by kernel_rfl) (Or.inl rfl) ?_;simp only [marked,List.headD_cons,List.tail_cons,beq_self_eq_true,Nat.reduceBEq]
    (apply vT (by rfl);(case hv=>(intro w' hS;conv=>lhs;simp [go_sem, *]));simp only [Act.put,List.setIfInBounds_toArray,List.set_cons_succ,List.set_cons_zero])
    (apply vT (by rfl);(case hv=>(intro w' hS;conv=>lhs;simp [go_sem, *]));simp only [Act.put,List.setIfInBounds_toArray,List.set_cons_succ,List.set_cons_zero])
    (apply vT (by rfl);(case hv=>(intro w' hS;conv=>lhs;simp [go_sem, *]));simp only [Act.put,List.setIfInBounds_toArray,List.set_cons_succ,List.set_cons_zero])
    (apply vT (by rfl);(case hv=>(intro w' hS;conv=>lhs;simp [go_sem, *]));simp only [Act.put,List.setIfInBounds_toArray,List.set_cons_succ,List.set_cons_zero])
    (apply Jr (by rfl);intro K hK)
    have hE:=HE.out
    go_simp
    refine hK _ _ (fun _=>Or.inr rfl) ?_;clear hK K hE
    (apply vT (by rfl);(case hv=>(intro w' hS;conv=>lhs;simp [go_sem, *]));simp only [Act.put,List.setIfInBounds_toArray,List.set_cons_succ,List.set_cons_zero])
    (apply Jr (by rfl);intro K hK)
    obtain ⟨ob2,hS2,hM2⟩:=HST.out (setBlock (wr.alloc (.cells #[.int .i64 x,.int .i64 y] 92)).drew w1.heap.size TG) (cntF (l.take k) x y+1) (JS _ lt1);have hS3:(Instr.entryStore 173 (.map (some w1.heap.size)) (.int .i64 (st:Int)) (.int .i64 (cntF (l.take k) x y+1))).run Tryz.prog (setBlock (wr.alloc (.cells #[.int .i64 x,.int .i64 y] 92)).drew w1.heap.size TG) = .ok () (setBlock (setBlock (wr.alloc (.cells #[.int .i64 x,.int .i64 y] 92)).drew w1.heap.size TG) w1.heap.size ob2):=hS2;have HM2:=Lib.hid hM2;clear hS2 hM2
    go_simp
    refine hK _ _ (fun h=>by cases h) ?_;clear hK K;refine XP ?_;clear M1 M2 M3 M4
    go_wp2
    go_roundw
    case rel=>
     refine ⟨k+1,by omega,by go_num,((Q0.out.alloc _).drew.setB (by omega) _).setB (by omega) _,((Q1.out.alloc _).drew.setB (by omega) _).setB (by omega) _,((Q2.out.alloc _).drew.setB (by omega) _).setB (by omega) _,?_,I7 _ l k (x,y) HXY.out HA.out HYO.out,Iv (Iv ((HB.out.alloc (by omega) _).drew) (by omega) _) (by omega) _,by simp [setBlock];omega⟩;rw [Xi HXY.out];exact HM2.out _ (JS _ (by simp [setBlock];omega))
    case measure=>simp [intOf];omega
   ·have HNO:Hid (l.all (gC m H)=false):=by
     refine JZ _ l k (x,y) HXY.out ?_;simp only [gC,Bool.and_eq_false_iff,decide_eq_false_iff_not]
     omega
    go_wp2
    all_goals exact bodyPost_ret (AL rfl _ _ (w.heap.size+1) 31 _ _ (by rfl) ((((Q1.out.BI 0 _ rfl).BI 1 _ rfl).BI 2 _ rfl).alloc _) Tryz.underlying31 rfl (by kernel_rfl)) rfl (vG.no HNO.out ((((HB.out.setCell (by simp <;> omega) _).setCell (by simp <;> omega) _).setCell (by simp <;> omega) _).alloc (by simp <;> omega) _))
  ·obtain rfl:k=n2:=by omega
   have aJn:Hid (l.all (gC m H)=true):=I8 _ l k (by have:=HS.out.1;omega) hal;clear q0 q1 q2 q3 hal hbel;have HQ:Hid (Below w.heap.size w wr∧z6 wr w1.heap.size k (cntF l)):=⟨HB.out,by have:=Q3.out;rwa [List.take_of_length_le (by have:=HS.out.1;omega)] at this⟩
   have HKK:Hid (n≤4096∧(n:Int)=m*H∧∀j:Nat,j<n→0≤(j:Int)%m∧(j:Int)%m≤64∧0≤(j:Int)/m∧(j:Int)/m≤64):=by
    have hl2:=HR.out.len;have hl3:=HLN.out;obtain ⟨g1,g2⟩:=RL HSD.out;refine ⟨by omega,by omega,fun j hj=>?_⟩;have g3:=Int.emod_nonneg (j:Int) (show (m:Int)≠0 by omega);have g4:=Int.emod_lt_of_pos (j:Int) (show 0<(m:Int) by omega);have g5:0≤(j:Int)/m:=Int.ediv_nonneg (by omega) (by omega);have g6:(j:Int)/m<H:=Int.ediv_lt_of_lt_mul (by omega) (by rw [Int.mul_comm];omega)
    omega
   have HAV:Hid (∀(j:Nat) (v:Int),xs[j]? = some v→0≤v∧v≤65535):=fun j v hv=>X8 (List.all_eq_true.1 HAL.out v (List.mem_of_getElem? hv))
   go_wp2_with fail
   obtain ⟨hn4,hnm,hkk⟩:=HKK.out;refine (aAs 112 ⟨w1.heap.size+1,0,none⟩ ⟨w.heap.size,0,none⟩ (zN m H (cntF l) xs) m H A n c xs _ (HR.out.below HQ.out.1 (Nat.le_refl _)) hn4 (by omega) (by omega) Uz ?_).mono ?_
   ·intro j v wx hv hbx;have hj:j<n:=by rw [←HR.out.len];exact (List.getElem?_eq_some_iff.1 hv).1
    obtain ⟨x0,x1,y0,y1⟩:=hkk j hj;exact SN m H v _ _ A n c _ _ k _ (cntF l) xs wx ((HR.out.below HQ.out.1 (Nat.le_refl _)).below hbx (Nat.le_refl _)) ⟨x0,x1⟩ ⟨y0,y1⟩ (by omega) (by omega) hnm HAV.out (HQ.out.2.below hbx HQ.out.2.lt) (Q2.out.below hbx Q2.out.lt) (Q0.out.below hbx Q0.out.lt)
   ·rintro e w2 ⟨A',c',rfl,⟨MK,hoi⟩,hb2⟩;have r':=Q1.out.below hb2 Q1.out.lt;have HB2:=Lib.hid hb2;have HRI:=Lib.hid MK;have HOI:=Lib.hid hoi;obtain ⟨r0',r1',r2'⟩:=r'.c3;obtain ⟨f0',f1',f2'⟩:=r'.f3;have KR':=Lib.hid r';clear r' hb2 MK hoi
    go_wp2
    refine bodyPost_ret (AL rfl _ _ (w.heap.size+1) 31 _ _ (by rfl) (((KR'.out.BI 0 _ rfl).BI 1 _ rfl).BI 2 _ rfl) Tryz.underlying31 rfl (by kernel_rfl)) rfl ?_;exact (vG.yes aJn.out ((((HRI.out.BI (by simp <;> omega) _).BI (by simp <;> omega) _).BI (by simp <;> omega) _).base (by omega)) ((((HOI.out.BI (by simp <;> omega) _).BI (by simp <;> omega) _).BI (by simp <;> omega) _).base (by omega)) ((((HQ.out.1.trans (HB2.out.mono (by omega))).setCell (by simp <;> omega) _).setCell (by simp <;> omega) _).setCell (by simp <;> omega) _))
end
end
end Go.Proofs.YtpmnfhifmmfglacGreatDoor
