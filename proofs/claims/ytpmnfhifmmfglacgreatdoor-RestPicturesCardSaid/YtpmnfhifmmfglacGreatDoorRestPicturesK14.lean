/- Texts of the claim RestPictures, joined and made small by a program. -/
import Derived.Test.YtpmnfhifmmfglacGreatDoorRestPicturesK5
import Derived.Test.YtpmnfhifmmfglacGreatDoorRestPicturesK9
import Derived.Test.YtpmnfhifmmfglacGreatDoorRestPicturesK10
import Derived.Test.YtpmnfhifmmfglacGreatDoorRestPicturesK11
import Derived.Test.YtpmnfhifmmfglacGreatDoorRestPicturesK12
import Derived.Test.YtpmnfhifmmfglacGreatDoorRestPicturesK13
set_option linter.unusedVariables false
set_option linter.unusedSimpArgs false
set_option linter.unusedSectionVars false
set_option maxRecDepth 100000
set_option maxHeartbeats 8000000
namespace Go.Proofs.YtpmnfhifmmfglacGreatDoor
section
open Go.RowKit
section
variable {base:Nat} {W w:World} {L:List pY} {D:List Deferred} {a:Act} {N:Nat} {l:List (Nat × Value)} {ops:Array Oper} {Q:Exit→Act→World→Prop} {rest:List Oper} {o:Oper} {x y ix:Operand} {t t' e:TypeId} {g off n:Nat} {cs ds:List Value} {v:Value} {α:Type} {C:yB α} {A:Option Addr} {c:Nat} {xs:List α} {el:α} {q:Nat}
theorem lcQZq9 (ho:o.op = .load t x:=by exact rfl) (ht:OL Tryz.prog t=true:=by exact LO.out) (hx:kX l x=some (.pointer (some ⟨g,off,none⟩)):=by exact rfl) (hb:∀w,Mem base W w L→jM w g t' cs.toArray:=by first | exact sD 0 rfl | exact sD 1 rfl | exact sD 2 rfl | exact sD 3 rfl | exact sD 4 rfl | exact sD 5 rfl | exact sD 6 rfl | exact sD 7 rfl | exact sD 8 rfl | exact sD 9 rfl | exact sD 10 rfl | exact sD 11 rfl | exact sD 12 rfl | exact sD 13 rfl | exact sD 14 rfl | exact sD 15 rfl | exact sD 16 rfl | exact sD 17 rfl | exact sD 18 rfl | exact sD 19 rfl | exact sD 20 rfl | exact sD 21 rfl | exact sD 22 rfl | exact sD 23 rfl | exact sD 24 rfl | exact sD 25 rfl | exact sD 26 rfl | exact sD 27 rfl | exact sD 28 rfl | exact sD 29 rfl | exact Du (by assumption)) (hv:cs[off]? = some v:=by exact rfl):∀a,Kd D a N l→Rd Tryz.prog (fun w=>Mem base W w L) a o v:=fun a K=>gY ho ht K hx hb hv
theorem laQZq9 (ho:o.op = .load t x:=by exact rfl) (ht:Fg Tryz.prog t n=true:=by exact LP.out) (hx:kX l x=some (.pointer (some ⟨g,off,none⟩)):=by exact rfl) (hb:∀w,Mem base W w L→jM w g t' cs.toArray:=by first | exact sD 0 rfl | exact sD 1 rfl | exact sD 2 rfl | exact sD 3 rfl | exact sD 4 rfl | exact sD 5 rfl | exact sD 6 rfl | exact sD 7 rfl | exact sD 8 rfl | exact sD 9 rfl | exact sD 10 rfl | exact sD 11 rfl | exact sD 12 rfl | exact sD 13 rfl | exact sD 14 rfl | exact sD 15 rfl | exact sD 16 rfl | exact sD 17 rfl | exact sD 18 rfl | exact sD 19 rfl | exact sD 20 rfl | exact sD 21 rfl | exact sD 22 rfl | exact sD 23 rfl | exact sD 24 rfl | exact sD 25 rfl | exact sD 26 rfl | exact sD 27 rfl | exact sD 28 rfl | exact sD 29 rfl | exact Du (by assumption)) (hs:Seg cs off n ds:=by repeat (first | exact Seg.nil | apply Seg.cons | apply Seg.skip)):∀a,Kd D a N l→Rd Tryz.prog (fun w=>Mem base W w L) a o (.agg ds.toArray):=fun a K=>Eu ho ht K hx hb hs.eq.1 hs.eq.2
theorem rfQZq9 {fn:Fn} {cap:Array Operand} {vs:List Value} (ho:o.op = .makeFunc fn #[] cap:=by exact rfl) (h:Evs l cap.toList vs:=by repeat (first | exact Evs.nil | apply Evs.cons | exact rfl)):∀a,Kd D a N l→Rd Tryz.prog (fun w=>Mem base W w L) a o (.func fn #[] vs.toArray):=fun a K=>UY ho K h.eq
theorem rxQZq9 {i:Nat} {vs:List Value} (K:Kd D a N l) (ho:o.op = .extract x i:=by exact rfl) (hx:kX l x=some (.tuple vs.toArray):=by exact rfl) (hi:vs[i]? = some v:=by exact rfl):Rd Tryz.prog (fun w=>Mem base W w L) a o v:=Et ho K hx (by simpa using hi)
theorem aJKZq9 {k:IntKind} {m n:Int} (h:∀a,Kd D a N l→Rd Tryz.prog (fun w=>Mem base W w L) a o (.int k m)) (he:m=n:=by assumption):∀a,Kd D a N l→Rd Tryz.prog (fun w=>Mem base W w L) a o (.int k n):=fun a K=>RH he (h a K)
theorem rdQZq9 (h:∀a,Kd D a N l→Rd Tryz.prog (fun w=>Mem base W w L) a o v:=by
   first
   | exact fun a K=>bX rfl K rfl
   | exact fun a K=>cP rfl GR.out K rfl
   | exact lcQZq9
   | exact fun a K=>vU rfl K rfl
   | exact fun a K=>H6 rfl K rfl
   | exact fun a K=>AU rfl UnI.out K rfl
   | exact fun a K=>rxQZq9 K
   | exact fun a K=>Ad rfl K rfl rfl
   | exact fun a K=>GS rfl K rfl rfl
   | exact fun a K=>Es rfl K rfl rfl
   | exact fun a K=>CB rfl K rfl rfl
   | exact fun a K=>CC rfl K rfl rfl
   | exact fun a K=>Nl rfl K rfl rfl
   | exact fun a K=>Lj rfl K rfl rfl
   | exact fun a K=>Nj rfl K rfl rfl
   | exact fun a K=>Nk rfl K rfl rfl
   | exact fun a K=>rd_not rfl K rfl
   | exact fun a K=>iM rfl K rfl rfl
   | exact fun a K=>kG rfl K rfl rfl
   | exact fun a K=>H8 rfl K rfl rfl
   | exact fun a K=>H7 rfl K rfl rfl
   | exact fun a K=>H5 rfl K rfl rfl
   | exact laQZq9
   | exact fun a K=>bG rfl K (vs:=[]) rfl ON.out
   | exact rfQZq9
   | exact fun a K=>J4 rfl rfl IkI.out K rfl):∀a,Kd D a N l→Rd Tryz.prog (fun w=>Mem base W w L) a o v:=h
theorem stQZq9 {d:Nat} (hd:o.dst=some d:=by exact rfl) (hN:Nat.blt d N=true:=by exact rfl) (h:Stp Tryz.prog ops (fun w=>Mem base W w L) D N l o v:=by
 first
 | exact .yes (fun a K=>aB rfl) rdQZq9
 | exact .no (fun a K=>K.no rfl rfl rfl rfl) rfl
 | exact .yes (fun a K=>K.yes rfl rfl rfl) rdQZq9
 | exact .no (fun a K=>K.nou rfl rfl rfl) rfl):SxQ base W L D N ops l o d v:=⟨hd,hN,h⟩
variable {d:Nat} {p p':Code} {id id':Nat} {K':Act→World→Prop} {f:List Nat} {R:Act→World→Prop} {b:Bool}
theorem DYZq9 (M:Mem base W w L) (k:Ct n (∀a,Kd D a N ((d,v)::l)→wpList Tryz.prog ops Q rest a w)) (h:SxQ base W L D N ops l o d v:=by exact stQZq9):Ct (n+1) (∀a,Kd D a N l→wpList Tryz.prog ops Q (o::rest) a w):=⟨oS M k.out h.1 h.2.1 h.2.2⟩
theorem DZZq9 (k:Ct n (∀a,Kd D a N ((d,v)::l)→rT Tryz.prog ops (fun w=>Mem base W w L) R (marked f rest) a w)) (h:SxQ base W L D N ops l o d v:=by exact stQZq9):Ct (n+1) (∀a,Kd D a N l→rT Tryz.prog ops (fun w=>Mem base W w L) R (marked (0::f) (o::rest)) a w):=⟨PH k.out h.1 h.2.1 h.2.2⟩
theorem D0Zq9 (k:Ct n (∀a,Kd D a N ((d,v)::l)→rT Tryz.prog ops (fun w=>Mem base W w L) R (marked [] rest) a w)) (h:SxQ base W L D N ops l o d v:=by exact stQZq9):Ct (n+1) (∀a,Kd D a N l→rT Tryz.prog ops (fun w=>Mem base W w L) R (marked [] (o::rest)) a w):=⟨PH (f:=[]) k.out h.1 h.2.1 h.2.2⟩
theorem D1Zq9 (k:Ct n (∀a,Kd D a N l→R a w)) {S:World→Prop}:Ct (n+1) (∀a,Kd D a N l→rT Tryz.prog ops S R (marked f []) a w):=⟨k.1⟩
theorem AhZq9 (k:Ct n (∀a,Kd D a N l→Q .normal a w)):Ct (n+1) (∀a,Kd D a N l→wpList Tryz.prog ops Q [] a w):=⟨k.1⟩
theorem D2Zq9 (k:Ct n (∀a,Kd D a N l→K' a w)):Ct (n+1) (∀a,Kd D a N l→Exit.then K' Q .normal a w):=⟨k.1⟩
theorem D3Zq9 (k:Ct n (∀a,Kd D a N l→Q .ret a w)):Ct (n+1) (∀a,Kd D a N l→Exit.then K' Q .ret a w):=⟨k.1⟩
theorem D4Zq9 (k:Ct n (∀a,Kd D a N l→Q (.exit id) a w)):Ct (n+1) (∀a,Kd D a N l→Exit.then K' Q (.exit id) a w):=⟨k.1⟩
theorem D5Zq9 (k:Ct n (∀a,Kd D a N l→Q .normal a w)):Ct (n+1) (∀a,Kd D a N l→Exit.inBlock id Q .normal a w):=⟨k.1⟩
theorem D6Zq9 (k:Ct n (∀a,Kd D a N l→Q .ret a w)):Ct (n+1) (∀a,Kd D a N l→Exit.inBlock id Q .ret a w):=⟨k.1⟩
theorem D7Zq9 (k:Ct n (∀a,Kd D a N l→Q .normal a w)):Ct (n+1) (∀a,Kd D a N l→Exit.inBlock id Q (.exit id) a w):=⟨fun a K=>aCY (k.1 a K)⟩
theorem D8Zq9 (hne:id'≠id) (k:Ct n (∀a,Kd D a N l→Q (.exit id') a w)):Ct (n+1) (∀a,Kd D a N l→Exit.inBlock id Q (.exit id') a w):=⟨fun a K=>aFS hne (k.1 a K)⟩
theorem AiZq9 (k:Ct n (∀a,Kd D a N l→p.wp Tryz.prog (Exit.then (p'.wp Tryz.prog Q) Q) a w)):Ct (n+1) (∀a,Kd D a N l→(Code.seq p p').wp Tryz.prog Q a w):=⟨fun a K=>wp_seq (k.1 a K)⟩
theorem AjZq9 {ol:List Oper} (k:Ct n (∀a,Kd D a N l→wpList Tryz.prog ol.toArray Q ol a w)):Ct (n+1) (∀a,Kd D a N l→(Code.region id ol.toArray false).wp Tryz.prog Q a w):=⟨fun a K=>dQ (k.1 a K)⟩
theorem vPZq9 (k:Ct n (∀a,Kd D a N l→Q .normal a w)):Ct (n+1) (∀a,Kd D a N l→Code.skip.wp Tryz.prog Q a w):=⟨fun a K=>wp_skip (k.1 a K)⟩
theorem AkZq9 (k:Ct n (∀a,Kd D a N l→Q .normal a w)):Ct (n+1) (∀a,Kd D a N l→(Code.label id).wp Tryz.prog Q a w):=⟨fun a K=>wp_label (k.1 a K)⟩
theorem AlZq9 (k:Ct n (∀a,Kd D a N l→Q .ret a w)):Ct (n+1) (∀a,Kd D a N l→Code.ret.wp Tryz.prog Q a w):=⟨fun a K=>wp_ret (k.1 a K)⟩
theorem vQZq9 (k:Ct n (∀a,Kd D a N l→Q (.exit id) a w)):Ct (n+1) (∀a,Kd D a N l→(Code.exit id).wp Tryz.prog Q a w):=⟨fun a K=>wp_exit (k.1 a K)⟩
theorem AmZq9 (k:Ct n (∀a,Kd D a N l→p.wp Tryz.prog (Exit.inBlock id Q) a w)):Ct (n+1) (∀a,Kd D a N l→(Code.block id p).wp Tryz.prog Q a w):=⟨fun a K=>wp_block (k.1 a K)⟩
theorem D9Zq9 (hc:kX l x=some (.bool true)) (k:Ct n (∀a,Kd D a N l→p.wp Tryz.prog Q a w)):Ct (n+1) (∀a,Kd D a N l→(Code.cond x p p').wp Tryz.prog Q a w):=⟨fun a K=>aBf K hc (k.1 a K)⟩
theorem EaZq9 (hc:kX l x=some (.bool false)) (k:Ct n (∀a,Kd D a N l→p'.wp Tryz.prog Q a w)):Ct (n+1) (∀a,Kd D a N l→(Code.cond x p p').wp Tryz.prog Q a w):=⟨fun a K=>aBg K hc (k.1 a K)⟩
theorem EbZq9 {O:Exit→Act→World→Prop} {i:Nat} {rem:List Nat} {m:Nat} (k:Ct n (∀a,Kd D a N ((d,v)::l)→DI Tryz.prog O ops (fun w=>Mem base W w L) (sY f) (nA f) R m rem a w)) (ho:ops[i]? = some o:=by exact rfl) (h:SxQ base W L D N ops l o d v:=by exact stQZq9) (hc:((i::rem).elem i&&sY f i&&Sv ops (i::rem) i&&(i::rem).erase i==rem)=true:=by kernel_rfl):Ct (n+1) (∀a,Kd D a N l→DI Tryz.prog O ops (fun w=>Mem base W w L) (sY f) (nA f) R (m+1) (i::rem) a w):=⟨fun a K=>by
 cases h.2.2 with
 | yes hw hr=>exact jR i rem hc ho K (hw a K) h.1 h.2.1 (hr a K) k.1
 | no hw hv=>subst hv;exact aI7 i rem hc ho K (hw a K) h.1 h.2.1 k.1⟩
theorem EcZq9 {O:Exit→Act→World→Prop} {S:World→Prop} (k:Ct n (∀a,Kd D a N l→R a w)):Ct (n+1) (∀a,Kd D a N l→DI Tryz.prog O ops S (sY f) (nA f) R 0 [] a w):=⟨fun a K=>VL (k.1 a K)⟩
theorem gcEZq9 (hc:kX l x=some (.bool b)) (k1:b=true→∀a,Kd D a N l→p.wp Tryz.prog Q a w) (k2:b=false→∀a,Kd D a N l→p'.wp Tryz.prog Q a w):Ct 0 (∀a,Kd D a N l→(Code.cond x p p').wp Tryz.prog Q a w):=⟨fun a K=>s9 K hc (fun hb=>k1 hb a K) (fun hb=>k2 hb a K)⟩
theorem gkEZq9 {G:Act→Prop} (s:Nat) (hs:Cd l s=some (.bool b)) (k1:b=true→∀a,Kd D a N ((s,.bool true)::l)→G a) (k2:b=false→∀a,Kd D a N ((s,.bool false)::l)→G a):Ct 0 (∀a,Kd D a N l→G a):=⟨fun a K=>by
 rcases Bool.eq_false_or_eq_true b with hb | hb
 · exact k1 hb a (K.reb hs hb)
 · exact k2 hb a (K.reb hs hb)⟩
theorem gEZq9 {fn:Func} {code:Code} {fid:FuncId} {args:Array Value} {Rp:Ending→World→Prop} (hf:Tryz.prog.funcs[fid]? = some fn) (hN:fn.ntmps=N) (k:Mem w.heap.size w w []→∀a,Kn a N (L1 0 args.toList)→code.wp Tryz.prog (bodyPost Tryz.prog fn Rp) a w) (hb:fn.body=some code:=by exact rfl) (hs:Nat.ble args.size N=true:=by exact rfl):Calls Tryz.prog fid args w Rp:=uR hf hb hN hs (k (Mem.start w))
theorem MEZq9 (M:Mem base W w L) (K:Kd D a N l) (i:Nat) (ho:o.op = .store t x y:=by exact rfl) (ht:Fg Tryz.prog t n=true:=by exact LP.out) (hx:kX l x=some (.pointer (some ⟨g,0,none⟩)):=by exact rfl) (hi:L[i]? = some (.blk g t' cs):=by exact rfl) (hy:kX l y=some (.agg ds.toArray):=by exact rfl) (h1:ds.all (·.oneCell')=true:=by exact rfl) (hn:ds.length=n:=by exact rfl) (hl:cs.length=n:=by exact rfl):Ac Tryz.prog o a w fun _ w'=>Mem base W w' (L.set i (.blk g t' ds)):=bF ho ht K hx hy h1 i M hi hn hl
theorem MFZq9 (M:Mem base W w L) (K:Kd D a N l) (i:Nat) (ho:o.op = .store t x y:=by exact rfl) (ht:OL Tryz.prog t=true:=by exact LO.out) (hx:kX l x=some (.pointer (some ⟨g,off,none⟩)):=by exact rfl) (hi:L[i]? = some (.blk g t' cs):=by exact rfl) (hy:kX l y=some v:=by exact rfl) (h1:v.oneCell'=true:=by exact rfl) (hl:Nat.blt off cs.length=true:=by exact rfl):Ac Tryz.prog o a w fun _ w'=>Mem base W w' (L.set i (.blk g t' (cs.set off v))):=bM ho ht K hx hy h1 i M hi hl
theorem aJhZq9 (M:Mem base W w L) (K:Kd D a N l) (ho:o.op = .box t x:=by exact rfl) (hx:kX l x=some (.agg ds.toArray):=by exact rfl) (hc:(Value.agg ds.toArray).cells=ds.toArray:=by exact rfl):Ac Tryz.prog o a w fun v w'=>∃g,v = .pointer (some ⟨g,0,none⟩)∧Mem base W w' (.blk g t ds::L):=Ju ho K hx hc M
theorem aJiZq9 (M:Mem base W w L) (K:Kd D a N l) (ho:o.op = .box t x:=by exact rfl) (hx:kX l x=some v:=by exact rfl) (hc:v.cells=[v].toArray:=by exact rfl):Ac Tryz.prog o a w fun v' w'=>∃g,v' = .pointer (some ⟨g,0,none⟩)∧Mem base W w' (.blk g t [v]::L):=Ju ho K hx hc M
theorem gfEZq9 {post:Value→World→Prop} {fi:FuncId} {vs:List Value} {args:Array Operand} {ts:Array TypeId} (X:Calls Tryz.prog fi vs.toArray w fun e w'=>∃v,e = .returned v∧post v w') (k:∀v w',post v w'→∀a,Kd D a N ((d,v)::l)→wpList Tryz.prog ops Q rest a w') (hf:kY Tryz.prog fi=true:=by exact nX.out) (hd:o.dst=some d:=by exact rfl) (hN:Nat.blt d N=true:=by exact rfl) (ho:o.op = .call { callee:=.value x,args:=args,argTypes:=ts }:=by exact rfl) (hx:kX l x=some (.func (.func fi) #[] #[]):=by exact rfl) (hargs:args.toList.map (kX l)=vs.map some:=by exact rfl) (hw:∀a,Kd D a N l→Region.wanted o (yielded ops a.tmps)=true:=by first | exact fun a K=>aB rfl | exact fun a K=>K.yes rfl rfl rfl):∀a,Kd D a N l→wpList Tryz.prog ops Q (o::rest) a w:=fun a K=>aD1 K (hw a K) hd hN (sC hf K X ho hx hargs) fun v a w' hp K=>k v w' hp a K
end
theorem aGZq9 (n:Nat) {q p:Prop} (k:q) (H:Hq q→Ct n p:=by
 intro k
 (repeat (first
 | with_reducible (first | refine AhZq9 ?_ | refine D2Zq9 ?_ | refine D3Zq9 ?_ | refine D4Zq9 ?_ | refine AiZq9 ?_ | refine AjZq9 ?_ | refine vPZq9 ?_ | refine AmZq9 ?_ | refine AlZq9 ?_ | refine D5Zq9 ?_ | refine D6Zq9 ?_ | refine D7Zq9 ?_ | refine vQZq9 ?_ | refine AkZq9 ?_ | refine D1Zq9 ?_)
 | refine D8Zq9 (by decide) ?_
 | refine DYZq9 M ?_
 | refine D0Zq9 ?_
 | refine DZZq9 ?_
 | refine EbZq9 ?_
 | refine EcZq9 ?_
 | refine D9Zq9 rfl ?_
 | refine EaZq9 rfl ?_))
 exact (⟨k.out⟩:Ct 0 _)):p:=(H ⟨k⟩).out
theorem gnEZq9 {base:Nat} {W w:World} {L:List pY} {D:List Deferred} {N:Nat} {l:List (Nat × Value)} {ops:Array Oper} {Q:Exit→Act→World→Prop} {rest:List Oper} {o:Oper} {d:Nat} {k:IntKind} {m n:Int} (hx:m=n) (M:Mem base W w L) (kk:∀a,Kd D a N ((d,.int k n)::l)→wpList Tryz.prog ops Q rest a w) (hr:∀a,Kd D a N l→Rd Tryz.prog (fun w=>Mem base W w L) a o (.int k m):=by intro a K;exact (by first | exact vU rfl K rfl | exact Ad rfl K rfl rfl | exact GS rfl K rfl rfl | exact Es rfl K rfl rfl | exact J4 rfl rfl IkI.out K rfl | exact H5 rfl K rfl rfl | exact bX rfl K rfl | exact rxQZq9 K | exact H8 rfl K rfl rfl | exact H7 rfl K rfl rfl)) (hw:∀a,Kd D a N l→Region.wanted o (yielded ops a.tmps)=true:=by first | exact fun a K=>aB rfl | exact fun a K=>K.yes rfl rfl rfl) (hd:o.dst=some d:=by exact rfl) (hN:Nat.blt d N=true:=by exact rfl):∀a,Kd D a N l→wpList Tryz.prog ops Q (o::rest) a w:=bQ (fun a K=>RH hx (hr a K)) M kk hw hd hN
theorem nSZq9 (n:Nat) {e x:Int} (hx:e=x) {q p:Prop} (k:q) (H:e=x→Hq q→Ct n p:=by
 intro hx k
 (repeat (first
 | with_reducible (first | refine AhZq9 ?_ | refine D2Zq9 ?_ | refine D3Zq9 ?_ | refine D4Zq9 ?_ | refine AiZq9 ?_ | refine AjZq9 ?_ | refine vPZq9 ?_ | refine AmZq9 ?_ | refine AlZq9 ?_ | refine D5Zq9 ?_ | refine D6Zq9 ?_ | refine D7Zq9 ?_ | refine vQZq9 ?_ | refine AkZq9 ?_ | refine D1Zq9 ?_)
 | refine D8Zq9 (by decide) ?_
 | refine DYZq9 M ?_
 | refine D0Zq9 ?_
 | refine DZZq9 ?_
 | refine EbZq9 ?_
 | refine EcZq9 ?_
 | refine D9Zq9 rfl ?_
 | refine EaZq9 rfl ?_))
 refine (⟨?_⟩:Ct 0 _)
 exact gnEZq9 hx M k.out):p:=(H hx ⟨k⟩).out
theorem aJjZq9 {base:Nat} {W w:World} {L:List pY} {D:List Deferred} {N:Nat} {l:List (Nat × Value)} {ops:Array Oper} {rest:List Oper} {R:Act→World→Prop} {o:Oper} {d:Nat} {k:IntKind} {m n:Int} (hx:m=n) (kk:∀a,Kd D a N ((d,.int k n)::l)→rT Tryz.prog ops (fun w=>Mem base W w L) R (marked [] rest) a w) (hr:∀a,Kd D a N l→Rd Tryz.prog (fun w=>Mem base W w L) a o (.int k m):=by intro a K;exact (by first | exact vU rfl K rfl | exact Ad rfl K rfl rfl | exact GS rfl K rfl rfl | exact Es rfl K rfl rfl | exact J4 rfl rfl IkI.out K rfl | exact H5 rfl K rfl rfl | exact bX rfl K rfl | exact rxQZq9 K | exact H8 rfl K rfl rfl | exact H7 rfl K rfl rfl)) (hw:∀a,Kd D a N l→Region.wanted o (yielded ops a.tmps)=true:=by first | exact fun a K=>aB rfl | exact fun a K=>K.yes rfl rfl rfl) (hd:o.dst=some d:=by exact rfl) (hN:Nat.blt d N=true:=by exact rfl):∀a,Kd D a N l→rT Tryz.prog ops (fun w=>Mem base W w L) R (marked [] (o::rest)) a w:=eC (f:=[]) (fun a K=>RH hx (hr a K)) kk hw hd hN
theorem aJkZq9 {base:Nat} {W w:World} {L:List pY} {D:List Deferred} {N:Nat} {l:List (Nat × Value)} {ops:Array Oper} {rest:List Oper} {f:List Nat} {R:Act→World→Prop} {o:Oper} {d:Nat} {k:IntKind} {m n:Int} (hx:m=n) (kk:∀a,Kd D a N ((d,.int k n)::l)→rT Tryz.prog ops (fun w=>Mem base W w L) R (marked f rest) a w) (hr:∀a,Kd D a N l→Rd Tryz.prog (fun w=>Mem base W w L) a o (.int k m):=by intro a K;exact (by first | exact vU rfl K rfl | exact Ad rfl K rfl rfl | exact GS rfl K rfl rfl | exact Es rfl K rfl rfl | exact J4 rfl rfl IkI.out K rfl | exact H5 rfl K rfl rfl | exact bX rfl K rfl | exact rxQZq9 K | exact H8 rfl K rfl rfl | exact H7 rfl K rfl rfl)) (hw:∀a,Kd D a N l→Region.wanted o (yielded ops a.tmps)=true:=by first | exact fun a K=>aB rfl | exact fun a K=>K.yes rfl rfl rfl) (hd:o.dst=some d:=by exact rfl) (hN:Nat.blt d N=true:=by exact rfl):∀a,Kd D a N l→rT Tryz.prog ops (fun w=>Mem base W w L) R (marked (0::f) (o::rest)) a w:=eC (f:=f) (fun a K=>RH hx (hr a K)) kk hw hd hN
theorem gmQZq9 (n:Nat) {e x:Int} (hx:e=x) {q p:Prop} (k:q) (H:e=x→Hq q→Ct n p:=by
 intro hx k
 (repeat (first
 | with_reducible (first | refine AhZq9 ?_ | refine D2Zq9 ?_ | refine D3Zq9 ?_ | refine D4Zq9 ?_ | refine AiZq9 ?_ | refine AjZq9 ?_ | refine vPZq9 ?_ | refine AmZq9 ?_ | refine AlZq9 ?_ | refine D5Zq9 ?_ | refine D6Zq9 ?_ | refine D7Zq9 ?_ | refine vQZq9 ?_ | refine AkZq9 ?_ | refine D1Zq9 ?_)
 | refine D8Zq9 (by decide) ?_
 | refine DYZq9 M ?_
 | refine D0Zq9 ?_
 | refine DZZq9 ?_
 | refine EbZq9 ?_
 | refine EcZq9 ?_
 | refine D9Zq9 rfl ?_
 | refine EaZq9 rfl ?_))
 refine (⟨?_⟩:Ct 0 _)
 first | exact aJjZq9 hx k.out | exact aJkZq9 hx k.out):p:=(H hx ⟨k⟩).out
theorem UvZq9 (n:Nat) {q p:Prop} (k:q) (H:Hq q→Ct n p:=by
 intro k
 (repeat (first
 | with_reducible (first | refine AhZq9 ?_ | refine D2Zq9 ?_ | refine D3Zq9 ?_ | refine D4Zq9 ?_ | refine AiZq9 ?_ | refine AjZq9 ?_ | refine vPZq9 ?_ | refine AmZq9 ?_ | refine AlZq9 ?_ | refine D5Zq9 ?_ | refine D6Zq9 ?_ | refine D7Zq9 ?_ | refine vQZq9 ?_ | refine AkZq9 ?_ | refine D1Zq9 ?_)
 | refine D8Zq9 (by decide) ?_
 | refine DYZq9 M ?_
 | refine D0Zq9 ?_
 | refine DZZq9 ?_
 | refine EbZq9 ?_
 | refine EcZq9 ?_
 | refine D9Zq9 rfl ?_
 | refine EaZq9 rfl ?_))
 refine (⟨?_⟩:Ct 0 _)
 intro a K
 refine aF (fun w=>Mem _ _ w _) [] (by kernel_rfl) (by kernel_rfl) M.drew ?_
 revert a;exact k.out):p:=(H ⟨k⟩).out
theorem dSZq9 (n:Nat) {b:Bool} {β:Type} {s t r:β} (h:cond b s t=r) {q1 q2 p:Prop} (k1:b=true→s=r→q1) (k2:b=false→t=r→q2) (H:Hq (b=true→q1)→Hq (b=false→q2)→Ct n p:=by
 intro k1 k2
 (repeat (first
 | with_reducible (first | refine AhZq9 ?_ | refine D2Zq9 ?_ | refine D3Zq9 ?_ | refine D4Zq9 ?_ | refine AiZq9 ?_ | refine AjZq9 ?_ | refine vPZq9 ?_ | refine AmZq9 ?_ | refine AlZq9 ?_ | refine D5Zq9 ?_ | refine D6Zq9 ?_ | refine D7Zq9 ?_ | refine vQZq9 ?_ | refine AkZq9 ?_ | refine D1Zq9 ?_)
 | refine D8Zq9 (by decide) ?_
 | refine DYZq9 M ?_
 | refine D0Zq9 ?_
 | refine DZZq9 ?_
 | refine EbZq9 ?_
 | refine EcZq9 ?_
 | refine D9Zq9 rfl ?_
 | refine EaZq9 rfl ?_))
 exact gcEZq9 rfl k1.out k2.out):p:=(H ⟨fun hb=>k1 hb (oT hb h)⟩ ⟨fun hb=>k2 hb (jY hb h)⟩).out
theorem gkSZq9 {s:Nat} {D:List Deferred} {N:Nat} {l:List (Nat × Value)} {b:Bool} {G:Act→Prop} (_:Bx s) (k1:b=true→∀a,Kd D a N ((s,.bool true)::l)→G a) (k2:b=false→∀a,Kd D a N ((s,.bool false)::l)→G a) (hs:Cd l s=some (.bool b)):Ct 0 (∀a,Kd D a N l→G a):=gkEZq9 s hs k1 k2
theorem mFZq9 (n s:Nat) {b:Bool} {β:Type} {x t r:β} (h:cond b x t=r) {q1 q2 p:Prop} (k1:b=true→x=r→q1) (k2:b=false→t=r→q2) (H:Bx s→Hq (b=true→q1)→Hq (b=false→q2)→Ct n p:=by
 intro S0 k1 k2
 (repeat (first
 | with_reducible (first | refine AhZq9 ?_ | refine D2Zq9 ?_ | refine D3Zq9 ?_ | refine D4Zq9 ?_ | refine AiZq9 ?_ | refine AjZq9 ?_ | refine vPZq9 ?_ | refine AmZq9 ?_ | refine AlZq9 ?_ | refine D5Zq9 ?_ | refine D6Zq9 ?_ | refine D7Zq9 ?_ | refine vQZq9 ?_ | refine AkZq9 ?_ | refine D1Zq9 ?_)
 | refine D8Zq9 (by decide) ?_
 | refine DYZq9 M ?_
 | refine D0Zq9 ?_
 | refine DZZq9 ?_
 | refine EbZq9 ?_
 | refine EcZq9 ?_
 | refine D9Zq9 rfl ?_
 | refine EaZq9 rfl ?_))
 exact gkSZq9 S0 k1.out k2.out rfl):p:=(H ⟨⟩ ⟨fun hb=>k1 hb (oT hb h)⟩ ⟨fun hb=>k2 hb (jY hb h)⟩).out
theorem jEZq9 (n:Nat) {Y q p:Prop} (X:Y) (k:q) (H:Y→Hq q→Ct n p:=by
 intro X k
 (repeat (first
 | with_reducible (first | refine AhZq9 ?_ | refine D2Zq9 ?_ | refine D3Zq9 ?_ | refine D4Zq9 ?_ | refine AiZq9 ?_ | refine AjZq9 ?_ | refine vPZq9 ?_ | refine AmZq9 ?_ | refine AlZq9 ?_ | refine D5Zq9 ?_ | refine D6Zq9 ?_ | refine D7Zq9 ?_ | refine vQZq9 ?_ | refine AkZq9 ?_ | refine D1Zq9 ?_)
 | refine D8Zq9 (by decide) ?_
 | refine DYZq9 M ?_
 | refine D0Zq9 ?_
 | refine DZZq9 ?_
 | refine EbZq9 ?_
 | refine EcZq9 ?_
 | refine D9Zq9 rfl ?_
 | refine EaZq9 rfl ?_))
 refine (⟨?_⟩:Ct 0 _)
 refine gfEZq9 X ?_
 first | (rintro _ w ⟨rfl,Z⟩;have M:=M.call Z;clear Z;revert w;exact k.out) | (rintro _ w ⟨A,c,rfl,Z⟩;have M:=M.call Z;clear Z;revert w;revert A c;exact k.out) | (rintro _ w ⟨A,c,A2,c2,rfl,Z⟩;have M:=M.call Z;clear Z;revert w;revert A c A2 c2;exact k.out) | (rintro _ w ⟨A,c,A2,c2,A3,c3,rfl,Z⟩;have M:=M.call Z;clear Z;revert w;revert A c A2 c2 A3 c3;exact k.out) | (rintro _ w ⟨A,c,A2,c2,A3,c3,A4,c4,rfl,Z⟩;have M:=M.call Z;clear Z;revert w;revert A c A2 c2 A3 c3 A4 c4;exact k.out)):p:=(H X ⟨k⟩).out
theorem fKZq9 (n:Nat) {q p:Prop} (k:q) (H:Hq q→Ct n p:=by
 intro k
 (repeat (first
 | with_reducible (first | refine AhZq9 ?_ | refine D2Zq9 ?_ | refine D3Zq9 ?_ | refine D4Zq9 ?_ | refine AiZq9 ?_ | refine AjZq9 ?_ | refine vPZq9 ?_ | refine AmZq9 ?_ | refine AlZq9 ?_ | refine D5Zq9 ?_ | refine D6Zq9 ?_ | refine D7Zq9 ?_ | refine vQZq9 ?_ | refine AkZq9 ?_ | refine D1Zq9 ?_)
 | refine D8Zq9 (by decide) ?_
 | refine DYZq9 M ?_
 | refine D0Zq9 ?_
 | refine DZZq9 ?_
 | refine EbZq9 ?_
 | refine EcZq9 ?_
 | refine D9Zq9 rfl ?_
 | refine EaZq9 rfl ?_))
 refine (⟨?_⟩:Ct 0 _)
 intro a K
 first | (refine sN K (aJiZq9 M K) ?_;rintro _ a w ⟨g,rfl,M⟩ K;revert a;revert w;revert g;exact k.out) | (refine sN K (aJhZq9 M K) ?_;rintro _ a w ⟨g,rfl,M⟩ K;revert a;revert w;revert g;exact k.out) | (refine sN K (eK rfl Is.out M) ?_;rintro _ a w ⟨g,rfl,M⟩ K;revert a;revert w;revert g;exact k.out)):p:=(H ⟨k⟩).out
theorem fLZq9 (n:Nat) {q p:Prop} (k:q) (H:Hq q→Ct n p:=by
 intro k
 (repeat (first
 | with_reducible (first | refine AhZq9 ?_ | refine D2Zq9 ?_ | refine D3Zq9 ?_ | refine D4Zq9 ?_ | refine AiZq9 ?_ | refine AjZq9 ?_ | refine vPZq9 ?_ | refine AmZq9 ?_ | refine AlZq9 ?_ | refine D5Zq9 ?_ | refine D6Zq9 ?_ | refine D7Zq9 ?_ | refine vQZq9 ?_ | refine AkZq9 ?_ | refine D1Zq9 ?_)
 | refine D8Zq9 (by decide) ?_
 | refine DYZq9 M ?_
 | refine D0Zq9 ?_
 | refine DZZq9 ?_
 | refine EbZq9 ?_
 | refine EcZq9 ?_
 | refine D9Zq9 rfl ?_
 | refine EaZq9 rfl ?_))
 refine (⟨?_⟩:Ct 0 _)
 intro a K
 first | refine CO K (MEZq9 M K 0) ?_ | refine CO K (MFZq9 M K 0) ?_ | refine CO K (MEZq9 M K 1) ?_ | refine CO K (MFZq9 M K 1) ?_ | refine CO K (MEZq9 M K 2) ?_ | refine CO K (MFZq9 M K 2) ?_ | refine CO K (MEZq9 M K 3) ?_ | refine CO K (MFZq9 M K 3) ?_ | refine CO K (MEZq9 M K 4) ?_ | refine CO K (MFZq9 M K 4) ?_ | refine CO K (MEZq9 M K 5) ?_ | refine CO K (MFZq9 M K 5) ?_ | refine CO K (MEZq9 M K 6) ?_ | refine CO K (MFZq9 M K 6) ?_ | refine CO K (MEZq9 M K 7) ?_ | refine CO K (MFZq9 M K 7) ?_ | refine CO K (MEZq9 M K 8) ?_ | refine CO K (MFZq9 M K 8) ?_ | refine CO K (MEZq9 M K 9) ?_ | refine CO K (MFZq9 M K 9) ?_ | refine CO K (MEZq9 M K 10) ?_ | refine CO K (MFZq9 M K 10) ?_ | refine CO K (MEZq9 M K 11) ?_ | refine CO K (MFZq9 M K 11) ?_
 rintro _ a w M K;revert a;revert w;exact k.out):p:=(H ⟨k⟩).out
theorem EdZq9 {p:Prop} (h:p:=by first | exact f7 K rfl | exact gB K rfl LP.out (M.bN (i:=0) rfl) rfl | exact uI K rfl LO.out (M.bN (i:=0) rfl) rfl | exact gB K rfl LP.out (M.bN (i:=1) rfl) rfl | exact uI K rfl LO.out (M.bN (i:=1) rfl) rfl | exact gB K rfl LP.out (M.bN (i:=2) rfl) rfl | exact uI K rfl LO.out (M.bN (i:=2) rfl) rfl | exact gB K rfl LP.out (M.bN (i:=3) rfl) rfl | exact uI K rfl LO.out (M.bN (i:=3) rfl) rfl | exact gB K rfl LP.out (M.bN (i:=4) rfl) rfl | exact uI K rfl LO.out (M.bN (i:=4) rfl) rfl | exact gB K rfl LP.out (M.bN (i:=5) rfl) rfl | exact uI K rfl LO.out (M.bN (i:=5) rfl) rfl | exact gB K rfl LP.out (M.bN (i:=6) rfl) rfl | exact uI K rfl LO.out (M.bN (i:=6) rfl) rfl | exact gB K rfl LP.out (M.bN (i:=7) rfl) rfl | exact uI K rfl LO.out (M.bN (i:=7) rfl) rfl | exact gB K rfl LP.out (M.bN (i:=8) rfl) rfl | exact uI K rfl LO.out (M.bN (i:=8) rfl) rfl | exact gB K rfl LP.out (M.bN (i:=9) rfl) rfl | exact uI K rfl LO.out (M.bN (i:=9) rfl) rfl | exact gB K rfl LP.out (M.bN (i:=10) rfl) rfl | exact uI K rfl LO.out (M.bN (i:=10) rfl) rfl | exact gB K rfl LP.out (M.bN (i:=11) rfl) rfl | exact gB K rfl LP.out (M.bN (i:=12) rfl) rfl | exact gB K rfl LP.out (M.bN (i:=13) rfl) rfl | exact gB K rfl LP.out (M.bN (i:=14) rfl) rfl | exact gB K rfl LP.out (M.bN (i:=15) rfl) rfl | exact gB K rfl LP.out (M.bN (i:=16) rfl) rfl | exact gB K rfl LP.out (M.bN (i:=17) rfl) rfl | exact gB K rfl LP.out (M.bN (i:=18) rfl) rfl | exact gB K rfl LP.out (M.bN (i:=19) rfl) rfl | exact gB K rfl LP.out (M.bN (i:=20) rfl) rfl | exact gB K rfl LP.out (M.bN (i:=21) rfl) rfl | exact gB K rfl LP.out (M.bN (i:=22) rfl) rfl | exact gB K rfl LP.out (M.bN (i:=23) rfl) rfl | exact gB K rfl LP.out (M.bN (i:=24) rfl) rfl | exact gB K rfl LP.out (M.bN (i:=25) rfl) rfl | exact gB K rfl LP.out (M.bN (i:=26) rfl) rfl | exact gB K rfl LP.out (M.bN (i:=27) rfl) rfl | exact gB K rfl LP.out (M.bN (i:=28) rfl) rfl | exact gB K rfl LP.out (M.bN (i:=29) rfl) rfl | exact uI K rfl LO.out (M.bN (i:=11) rfl) rfl | exact uI K rfl LO.out (M.bN (i:=12) rfl) rfl | exact uI K rfl LO.out (M.bN (i:=13) rfl) rfl | exact uI K rfl LO.out (M.bN (i:=14) rfl) rfl | exact uI K rfl LO.out (M.bN (i:=15) rfl) rfl | exact uI K rfl LO.out (M.bN (i:=16) rfl) rfl | exact uI K rfl LO.out (M.bN (i:=17) rfl) rfl | exact uI K rfl LO.out (M.bN (i:=18) rfl) rfl | exact uI K rfl LO.out (M.bN (i:=19) rfl) rfl | exact uI K rfl LO.out (M.bN (i:=20) rfl) rfl | exact uI K rfl LO.out (M.bN (i:=21) rfl) rfl | exact uI K rfl LO.out (M.bN (i:=22) rfl) rfl | exact uI K rfl LO.out (M.bN (i:=23) rfl) rfl | exact uI K rfl LO.out (M.bN (i:=24) rfl) rfl | exact uI K rfl LO.out (M.bN (i:=25) rfl) rfl | exact uI K rfl LO.out (M.bN (i:=26) rfl) rfl | exact uI K rfl LO.out (M.bN (i:=27) rfl) rfl | exact uI K rfl LO.out (M.bN (i:=28) rfl) rfl | exact uI K rfl LO.out (M.bN (i:=29) rfl) rfl):p:=h
theorem aJZq9 (n:Nat) {Y p:Prop} (X:Y) (H:Y→Ct n p:=by
 intro X
 (repeat (first
 | with_reducible (first | refine AhZq9 ?_ | refine D2Zq9 ?_ | refine D3Zq9 ?_ | refine D4Zq9 ?_ | refine AiZq9 ?_ | refine AjZq9 ?_ | refine vPZq9 ?_ | refine AmZq9 ?_ | refine AlZq9 ?_ | refine D5Zq9 ?_ | refine D6Zq9 ?_ | refine D7Zq9 ?_ | refine vQZq9 ?_ | refine AkZq9 ?_ | refine D1Zq9 ?_)
 | refine D8Zq9 (by decide) ?_
 | refine DYZq9 M ?_
 | refine D0Zq9 ?_
 | refine DZZq9 ?_
 | refine EbZq9 ?_
 | refine EcZq9 ?_
 | refine D9Zq9 rfl ?_
 | refine EaZq9 rfl ?_))
 refine (⟨?_⟩:Ct 0 _)
 intro a K
 cases h
 first | exact vK K rfl EdZq9  ⟨_,rfl,rfl,X⟩ | exact vK K rfl EdZq9  ⟨_,rfl,_,_,rfl,X⟩ | exact vK K rfl EdZq9  ⟨_,rfl,_,_,_,_,rfl,X⟩ | exact vK K rfl EdZq9  ⟨_,rfl,_,_,_,_,_,_,rfl,X⟩ | exact vK K rfl EdZq9  ⟨_,rfl,_,_,_,_,_,_,_,_,rfl,X⟩):p:=(H X).out
theorem eGZq9 (n:Nat) {Y p:Prop} (X:Y) (H:Y→Ct n p:=by
 intro X
 (repeat (first
 | with_reducible (first | refine AhZq9 ?_ | refine D2Zq9 ?_ | refine D3Zq9 ?_ | refine D4Zq9 ?_ | refine AiZq9 ?_ | refine AjZq9 ?_ | refine vPZq9 ?_ | refine AmZq9 ?_ | refine AlZq9 ?_ | refine D5Zq9 ?_ | refine D6Zq9 ?_ | refine D7Zq9 ?_ | refine vQZq9 ?_ | refine AkZq9 ?_ | refine D1Zq9 ?_)
 | refine D8Zq9 (by decide) ?_
 | refine DYZq9 M ?_
 | refine D0Zq9 ?_
 | refine DZZq9 ?_
 | refine EbZq9 ?_
 | refine EcZq9 ?_
 | refine D9Zq9 rfl ?_
 | refine EaZq9 rfl ?_))
 refine (⟨?_⟩:Ct 0 _)
 intro a K
 cases h
 first | exact We K rfl EdZq9 EdZq9  ⟨_,rfl,rfl,X⟩ | exact We K rfl EdZq9 EdZq9  ⟨_,rfl,_,_,rfl,X⟩ | exact We K rfl EdZq9 EdZq9  ⟨_,rfl,_,_,_,_,rfl,X⟩ | exact We K rfl EdZq9 EdZq9  ⟨_,rfl,_,_,_,_,_,_,rfl,X⟩ | exact We K rfl EdZq9 EdZq9  ⟨_,rfl,_,_,_,_,_,_,_,_,rfl,X⟩):p:=(H X).out
theorem aJLZq9 (n:Nat) {Y p:Prop} (X:Y) (H:Y→Ct n p:=by
 intro X
 (repeat (first
 | with_reducible (first | refine AhZq9 ?_ | refine D2Zq9 ?_ | refine D3Zq9 ?_ | refine D4Zq9 ?_ | refine AiZq9 ?_ | refine AjZq9 ?_ | refine vPZq9 ?_ | refine AmZq9 ?_ | refine AlZq9 ?_ | refine D5Zq9 ?_ | refine D6Zq9 ?_ | refine D7Zq9 ?_ | refine vQZq9 ?_ | refine AkZq9 ?_ | refine D1Zq9 ?_)
 | refine D8Zq9 (by decide) ?_
 | refine DYZq9 M ?_
 | refine D0Zq9 ?_
 | refine DZZq9 ?_
 | refine EbZq9 ?_
 | refine EcZq9 ?_
 | refine D9Zq9 rfl ?_
 | refine EaZq9 rfl ?_))
 refine (⟨?_⟩:Ct 0 _)
 intro a K
 cases h
 first | exact Mw K rfl EdZq9 EdZq9 EdZq9  ⟨_,rfl,rfl,X⟩ | exact Mw K rfl EdZq9 EdZq9 EdZq9  ⟨_,rfl,_,_,rfl,X⟩ | exact Mw K rfl EdZq9 EdZq9 EdZq9  ⟨_,rfl,_,_,_,_,rfl,X⟩ | exact Mw K rfl EdZq9 EdZq9 EdZq9  ⟨_,rfl,_,_,_,_,_,_,rfl,X⟩ | exact Mw K rfl EdZq9 EdZq9 EdZq9  ⟨_,rfl,_,_,_,_,_,_,_,_,rfl,X⟩):p:=(H X).out
theorem aJMZq9 (n:Nat) {Y p:Prop} (X:Y) (H:Y→Ct n p:=by
 intro X
 (repeat (first
 | with_reducible (first | refine AhZq9 ?_ | refine D2Zq9 ?_ | refine D3Zq9 ?_ | refine D4Zq9 ?_ | refine AiZq9 ?_ | refine AjZq9 ?_ | refine vPZq9 ?_ | refine AmZq9 ?_ | refine AlZq9 ?_ | refine D5Zq9 ?_ | refine D6Zq9 ?_ | refine D7Zq9 ?_ | refine vQZq9 ?_ | refine AkZq9 ?_ | refine D1Zq9 ?_)
 | refine D8Zq9 (by decide) ?_
 | refine DYZq9 M ?_
 | refine D0Zq9 ?_
 | refine DZZq9 ?_
 | refine EbZq9 ?_
 | refine EcZq9 ?_
 | refine D9Zq9 rfl ?_
 | refine EaZq9 rfl ?_))
 refine (⟨?_⟩:Ct 0 _)
 intro a K
 cases h
 first | exact aCI K rfl EdZq9 EdZq9 EdZq9 EdZq9  ⟨_,rfl,rfl,X⟩ | exact aCI K rfl EdZq9 EdZq9 EdZq9 EdZq9  ⟨_,rfl,_,_,rfl,X⟩ | exact aCI K rfl EdZq9 EdZq9 EdZq9 EdZq9  ⟨_,rfl,_,_,_,_,rfl,X⟩ | exact aCI K rfl EdZq9 EdZq9 EdZq9 EdZq9  ⟨_,rfl,_,_,_,_,_,_,rfl,X⟩ | exact aCI K rfl EdZq9 EdZq9 EdZq9 EdZq9  ⟨_,rfl,_,_,_,_,_,_,_,_,rfl,X⟩):p:=(H X).out
theorem mRZq9 (n:Nat) {S:Type} (st:S) {Y p:Prop} (X:Y) (H:(∀{p q:S→Prop},p st→q st→∃s,p s∧q s)→Y→Ct n p:=by
 intro wt X
 (repeat (first
 | with_reducible (first | refine AhZq9 ?_ | refine D2Zq9 ?_ | refine D3Zq9 ?_ | refine D4Zq9 ?_ | refine AiZq9 ?_ | refine AjZq9 ?_ | refine vPZq9 ?_ | refine AmZq9 ?_ | refine AlZq9 ?_ | refine D5Zq9 ?_ | refine D6Zq9 ?_ | refine D7Zq9 ?_ | refine vQZq9 ?_ | refine AkZq9 ?_ | refine D1Zq9 ?_)
 | refine D8Zq9 (by decide) ?_
 | refine DYZq9 M ?_
 | refine D0Zq9 ?_
 | refine DZZq9 ?_
 | refine EbZq9 ?_
 | refine EcZq9 ?_
 | refine D9Zq9 rfl ?_
 | refine EaZq9 rfl ?_))
 refine (⟨?_⟩:Ct 0 _)
 intro a K
 first | exact wt ⟨K.to,X⟩ h | exact wt ⟨_,_,K.to,X⟩ h | exact wt ⟨_,_,_,_,K.to,X⟩ h | exact wt ⟨_,_,_,_,_,_,K.to,X⟩ h | exact wt ⟨_,_,_,_,_,_,_,_,K.to,X⟩ h | exact wt ⟨_,_,_,_,_,_,_,_,_,_,K.to,X⟩ h):p:=(H (fun hp hq=>⟨st,hp,hq⟩) X).out
theorem pIZq9 (n:Nat) {F Y p:Prop} (f:F) (X:Y) (H:F→Y→Ct n p:=by
 intro f X
 (repeat (first
 | with_reducible (first | refine AhZq9 ?_ | refine D2Zq9 ?_ | refine D3Zq9 ?_ | refine D4Zq9 ?_ | refine AiZq9 ?_ | refine AjZq9 ?_ | refine vPZq9 ?_ | refine AmZq9 ?_ | refine AlZq9 ?_ | refine D5Zq9 ?_ | refine D6Zq9 ?_ | refine D7Zq9 ?_ | refine vQZq9 ?_ | refine AkZq9 ?_ | refine D1Zq9 ?_)
 | refine D8Zq9 (by decide) ?_
 | refine DYZq9 M ?_
 | refine D0Zq9 ?_
 | refine DZZq9 ?_
 | refine EbZq9 ?_
 | refine EcZq9 ?_
 | refine D9Zq9 rfl ?_
 | refine EaZq9 rfl ?_))
 refine (⟨?_⟩:Ct 0 _)
 intro a K
 first | exact f _ _ ⟨K.to,X⟩ h | exact f _ _ ⟨_,_,K.to,X⟩ h | exact f _ _ ⟨_,_,_,_,K.to,X⟩ h | exact f _ _ ⟨_,_,_,_,_,_,K.to,X⟩ h | exact f _ _ ⟨_,_,_,_,_,_,_,_,K.to,X⟩ h | exact f _ _ ⟨_,_,_,_,_,_,_,_,_,_,K.to,X⟩ h):p:=(H f X).out
theorem sPZq9 (n id:Nat) {S:Type} (Rel:S→Act→World→Prop) {Y q1 q2 p:Prop} (X:Y) (k1:q1) (k2:q2) (H:LpT Rel id→Y→Hq q1→Hq q2→Ct n p:=by
 intro lp X k1 k2
 (repeat (first
 | with_reducible (first | refine AhZq9 ?_ | refine D2Zq9 ?_ | refine D3Zq9 ?_ | refine D4Zq9 ?_ | refine AiZq9 ?_ | refine AjZq9 ?_ | refine vPZq9 ?_ | refine AmZq9 ?_ | refine AlZq9 ?_ | refine D5Zq9 ?_ | refine D6Zq9 ?_ | refine D7Zq9 ?_ | refine vQZq9 ?_ | refine AkZq9 ?_ | refine D1Zq9 ?_)
 | refine D8Zq9 (by decide) ?_
 | refine DYZq9 M ?_
 | refine D0Zq9 ?_
 | refine DZZq9 ?_
 | refine EbZq9 ?_
 | refine EcZq9 ?_
 | refine D9Zq9 rfl ?_
 | refine EaZq9 rfl ?_))
 refine (⟨?_⟩:Ct 0 _)
 intro a K
 refine lp h (fun _ _=>rfl) ?_ k1.out k2.out
 first | exact ⟨K.to,X⟩ | exact ⟨_,_,K.to,X⟩ | exact ⟨_,_,_,_,K.to,X⟩ | exact ⟨_,_,_,_,_,_,K.to,X⟩ | exact ⟨_,_,_,_,_,_,_,_,K.to,X⟩ | exact ⟨_,_,_,_,_,_,_,_,_,_,K.to,X⟩):p:=(H (fun h hz h0 hk rd=>aFT h hz h0 hk rd) X ⟨k1⟩ ⟨k2⟩).out
theorem Eo (N:Nat) (da Fq Fr Fs Ft dc:Int) (dd:List (Int × Int)) (Add:Option Addr) (MI:Nat) (Fu Fv Fw Gd Ge df2 Gf Gg Gh Gi Gj Gk:Int) (dg:List (Int × Int)) (Nd:Option Addr) (Nf:Nat) (dh vO Ab:Int) (xU:List Int) (pP:Option Addr) (kW:Nat) (p2 My Mz:Int) (G1:List (Int × Int × Int)) (DR:Option Addr) (DS:Nat) (Nt Nu zB BW BX:Int) (zW:List Int) (xN:Option Addr) (xO:Nat) (tT:List (List UInt8)) (tM:Option Addr) (tN:Nat) (pA nB nC nD nE pB:Int) (mD:List (Int × Int)) (nT:Option Addr) (nU:Nat) (nF nG nH lM lN lO lP lQ lR lS lT lU:Int) (mE:List (Int × Int)) (nV:Option Addr) (nW:Nat) (nI:Int) (w0:World) (Rz:SL w0 hG Add dd) (Tt:dd.length≤MI) (Rc:SL w0 hG Nd dg) (S3:dg.length≤Nf) (rR:SL w0 (cI .i64) pP xU) (mJ:xU.length≤kW) (LW:SL w0 aN DR G1) (OA:G1.length≤DS) (LX:SL w0 (cI .i64) xN zW) (LY:zW.length≤xO) (IC:SL w0 cS tM tT) (ID:tT.length≤tN) (DT:SL w0 hG nT mD) (DU:mD.length≤nU) (DV:SL w0 hG nV mE) (DW:mE.length≤nW) (r:Bool) (h:pU N da Fq Fr Fs Ft dc dd Fu Fv Fw Gd Ge df2 Gf Gg Gh Gi Gj Gk dg dh vO Ab xU p2 My Mz G1 Nt Nu zB BW BX zW tT pA nB nC nD nE pB mD nF nG nH lM lN lO lP lQ lR lS lT lU mE nI=some r) :
  Calls Tryz.prog 3 #[.agg #[I da,I Fq,I Fr,I Fs,I Ft,I dc,.slice Add dd.length MI,I Fu,I Fv,I Fw,I Gd,I Ge,I df2,I Gf,I Gg,I Gh,I Gi,I Gj,I Gk,.slice Nd dg.length Nf,I dh],.agg #[I vO,I Ab,.slice pP xU.length kW],I p2,.agg #[I My,I Mz,.slice DR G1.length DS],.agg #[I Nt,I Nu,I zB,I BW,I BX,.slice xN zW.length xO,.slice tM tT.length tN,I pA,I nB,I nC,I nD,I nE,I pB,.slice nT mD.length nU,I nF,I nG,I nH,I lM,I lN,I lO,I lP,I lQ,I lR,I lS,I lT,I lU,.slice nV mE.length nW,I nI]] w0 fun e w'=>∃v,e = .returned v∧v = .bool r∧Mem w0.heap.size w0 w' []:=by
 refine gEZq9 Tryz.func3 Tryz.ntmps3 ?_;intro M;unfold pU at h;refine fKZq9 2 ?_;intro gW w M;refine fKZq9 0 ?_;intro gH w M;refine fKZq9 0 ?_;intro lJ w M;refine fKZq9 0 ?_;intro sL w M;refine aGZq9 5 ?_;intro a K;refine sN K (vF (C:=(cI .i64)) rfl g9 rfl K M) ?_;clear K M;rintro _ a w ⟨gs,rfl,M⟩ K;revert a;obtain ⟨l2,uH,h⟩:=aA h;refine aGZq9 2 ?_;intro a K;refine sN K (jZ (C:=(cI .i64)) (xs:=([]:List Int)) (ys:=xU) rfl g9 rfl z3 rfl rfl K rfl rfl 0 M rfl ((bE rR) _ M) uH) ?_;clear K M;rintro _ a w ⟨A,c,rfl,M⟩ K;revert a;refine aGZq9 5 ?_;intro a K;refine sN K (vF (C:=aN) rfl kZ rfl K M) ?_;clear K M;rintro _ a w ⟨gs2,rfl,M⟩ K;revert a;obtain ⟨l3,Hc,h⟩:=aA h;refine aGZq9 2 ?_;intro a K;refine sN K (jZ (C:=aN) (xs:=([]:List (Int × Int × Int))) (ys:=G1) rfl kZ rfl z42 rfl rfl K rfl rfl 0 M rfl ((bE LW) _ M) Hc) ?_;clear K M;rintro _ a w ⟨A2,c2,rfl,M⟩ K;revert a;obtain ⟨r2,eR,h⟩:=aA h;refine jEZq9 8 (F2 eR ((bE Rz) _ M) Tt ((bE Rc) _ M) S3 ((bE rR) _ M) mJ) ?_;intro A3 c3 w M;refine fKZq9 3 ?_;intro Do w M;refine fLZq9 0 ?_;intro w M;refine sPZq9 10 0 (fun (⟨BF,i⟩:List (Int × Int × Int) × Int) a w=>Kn a 218 [(2,I p2),(5,.pointer (some ⟨gW,0,none⟩)),(6,.pointer (some ⟨gH,0,none⟩)),(8,.pointer (some ⟨lJ,0,none⟩)),(9,.pointer (some ⟨sL,0,none⟩)),(11,.slice A l2.length c),(12,.slice A2 l3.length c2),(13,.pointer (some ⟨Do,0,none⟩)),(14,I r2.2.2.2),(15,I i)]∧Mem w0.heap.size w0 w [.blk Do 34 [I r2.1,I r2.2.1,.slice A3 BF.length c3],.row 42 3 A3 BF.length c3 (aN.all BF),.row 42 3 A2 l3.length c2 (aN.all l3),.row 3 1 A l2.length c ((cI .i64).all l2),.blk sL 37 [I Nt,I Nu,I zB,I BW,I BX,.slice xN zW.length xO,.slice tM tT.length tN,I pA,I nB,I nC,I nD,I nE,I pB,.slice nT mD.length nU,I nF,I nG,I nH,I lM,I lN,I lO,I lP,I lQ,I lR,I lS,I lT,I lU,.slice nV mE.length nW,I nI],.blk lJ 34 [I My,I Mz,.slice DR G1.length DS],.blk gH 31 [I vO,I Ab,.slice pP xU.length kW],.blk gW 28 [I da,I Fq,I Fr,I Fs,I Ft,I dc,.slice Add dd.length MI,I Fu,I Fv,I Fw,I Gd,I Ge,I df2,I Gf,I Gg,I Gh,I Gi,I Gj,I Gk,.slice Nd dg.length Nf,I dh]]) (M.pick [0,1,2,3,4,5,6,7] aD) ?_ ?_
 ·clear M h;rintro ⟨aIY,i2⟩ a w ⟨K,M⟩ h;try dsimp only at h
  revert a;obtain ⟨r3,kU,h⟩:=aA h;refine jEZq9 5 (Mj kU ((bE LW) _ M) OA) ?_;intro A4 c4 w M;refine fKZq9 3 ?_;intro JT w M;refine fLZq9 0 ?_;intro w M;refine sPZq9 10 2 (fun (⟨Ka,i3⟩:List (Int × Int × Int) × Int) a w=>Kn a 218 [(2,I p2),(5,.pointer (some ⟨gW,0,none⟩)),(6,.pointer (some ⟨gH,0,none⟩)),(8,.pointer (some ⟨lJ,0,none⟩)),(9,.pointer (some ⟨sL,0,none⟩)),(11,.slice A l2.length c),(12,.slice A2 l3.length c2),(14,I r2.2.2.2),(16,.pointer (some ⟨JT,0,none⟩)),(17,I r3.2.2.2),(18,I i3)]∧Mem w0.heap.size w0 w [.blk JT 34 [I r3.1,I r3.2.1,.slice A4 Ka.length c4],.row 42 3 A4 Ka.length c4 (aN.all Ka),.row 42 3 A2 l3.length c2 (aN.all l3),.row 3 1 A l2.length c ((cI .i64).all l2),.blk sL 37 [I Nt,I Nu,I zB,I BW,I BX,.slice xN zW.length xO,.slice tM tT.length tN,I pA,I nB,I nC,I nD,I nE,I pB,.slice nT mD.length nU,I nF,I nG,I nH,I lM,I lN,I lO,I lP,I lQ,I lR,I lS,I lT,I lU,.slice nV mE.length nW,I nI],.blk lJ 34 [I My,I Mz,.slice DR G1.length DS],.blk gH 31 [I vO,I Ab,.slice pP xU.length kW],.blk gW 28 [I da,I Fq,I Fr,I Fs,I Ft,I dc,.slice Add dd.length MI,I Fu,I Fv,I Fw,I Gd,I Ge,I df2,I Gf,I Gg,I Gh,I Gi,I Gj,I Gk,.slice Nd dg.length Nf,I dh]]) (M.pick [0,1,4,5,6,7,8,9] aD) ?_ ?_
  ·clear M h;rintro ⟨BG,i4⟩ a w ⟨K,M⟩ h;try dsimp only at h
   revert a;obtain ⟨r4,qJ,h⟩:=aA h;refine jEZq9 6 (Ok qJ ((bE LX) _ M) LY ((bE IC) _ M) ID ((bE DT) _ M) DU ((bE DV) _ M) DW ((bE rR) _ M) mJ) ?_;intro A5 c5 A6 c6 A7 c7 A8 c8 w M;refine fKZq9 3 ?_;intro Re w M;refine fLZq9 0 ?_;intro w M;refine sPZq9 10 4 (fun (⟨FV,i5⟩:List Int × Int) a w=>Kn a 218 [(2,I p2),(5,.pointer (some ⟨gW,0,none⟩)),(6,.pointer (some ⟨gH,0,none⟩)),(8,.pointer (some ⟨lJ,0,none⟩)),(9,.pointer (some ⟨sL,0,none⟩)),(11,.slice A l2.length c),(12,.slice A2 l3.length c2),(14,I r2.2.2.2),(17,I r3.2.2.2),(19,.pointer (some ⟨Re,0,none⟩)),(20,I r4.2.2.2.2.2.2.2.2.2.2.2.2.2.2.2.2.2.2.2.2.2.2.2.2.2.2.2.2),(21,I i5)]∧Mem w0.heap.size w0 w [.blk Re 37 [I r4.1,I r4.2.1,I r4.2.2.1,I r4.2.2.2.1,I r4.2.2.2.2.1,.slice A5 FV.length c5,.slice A6 r4.2.2.2.2.2.2.1.length c6,I r4.2.2.2.2.2.2.2.1,I r4.2.2.2.2.2.2.2.2.1,I r4.2.2.2.2.2.2.2.2.2.1,I r4.2.2.2.2.2.2.2.2.2.2.1,I r4.2.2.2.2.2.2.2.2.2.2.2.1,I r4.2.2.2.2.2.2.2.2.2.2.2.2.1,.slice A7 r4.2.2.2.2.2.2.2.2.2.2.2.2.2.1.length c7,I r4.2.2.2.2.2.2.2.2.2.2.2.2.2.2.1,I r4.2.2.2.2.2.2.2.2.2.2.2.2.2.2.2.1,I r4.2.2.2.2.2.2.2.2.2.2.2.2.2.2.2.2.1,I r4.2.2.2.2.2.2.2.2.2.2.2.2.2.2.2.2.2.1,I r4.2.2.2.2.2.2.2.2.2.2.2.2.2.2.2.2.2.2.1,I r4.2.2.2.2.2.2.2.2.2.2.2.2.2.2.2.2.2.2.2.1,I r4.2.2.2.2.2.2.2.2.2.2.2.2.2.2.2.2.2.2.2.2.1,I r4.2.2.2.2.2.2.2.2.2.2.2.2.2.2.2.2.2.2.2.2.2.1,I r4.2.2.2.2.2.2.2.2.2.2.2.2.2.2.2.2.2.2.2.2.2.2.1,I r4.2.2.2.2.2.2.2.2.2.2.2.2.2.2.2.2.2.2.2.2.2.2.2.1,I r4.2.2.2.2.2.2.2.2.2.2.2.2.2.2.2.2.2.2.2.2.2.2.2.2.1,I r4.2.2.2.2.2.2.2.2.2.2.2.2.2.2.2.2.2.2.2.2.2.2.2.2.2.1,.slice A8 r4.2.2.2.2.2.2.2.2.2.2.2.2.2.2.2.2.2.2.2.2.2.2.2.2.2.2.1.length c8,I r4.2.2.2.2.2.2.2.2.2.2.2.2.2.2.2.2.2.2.2.2.2.2.2.2.2.2.2.1],.row 3 1 A5 FV.length c5 ((cI .i64).all FV),.row 9 1 A6 r4.2.2.2.2.2.2.1.length c6 (cS.all r4.2.2.2.2.2.2.1),.row 92 2 A7 r4.2.2.2.2.2.2.2.2.2.2.2.2.2.1.length c7 (hG.all r4.2.2.2.2.2.2.2.2.2.2.2.2.2.1),.row 47 2 A8 r4.2.2.2.2.2.2.2.2.2.2.2.2.2.2.2.2.2.2.2.2.2.2.2.2.2.2.1.length c8 (hG.all r4.2.2.2.2.2.2.2.2.2.2.2.2.2.2.2.2.2.2.2.2.2.2.2.2.2.2.1),.row 42 3 A2 l3.length c2 (aN.all l3),.row 3 1 A l2.length c ((cI .i64).all l2),.blk sL 37 [I Nt,I Nu,I zB,I BW,I BX,.slice xN zW.length xO,.slice tM tT.length tN,I pA,I nB,I nC,I nD,I nE,I pB,.slice nT mD.length nU,I nF,I nG,I nH,I lM,I lN,I lO,I lP,I lQ,I lR,I lS,I lT,I lU,.slice nV mE.length nW,I nI],.blk lJ 34 [I My,I Mz,.slice DR G1.length DS],.blk gH 31 [I vO,I Ab,.slice pP xU.length kW],.blk gW 28 [I da,I Fq,I Fr,I Fs,I Ft,I dc,.slice Add dd.length MI,I Fu,I Fv,I Fw,I Gd,I Ge,I df2,I Gf,I Gg,I Gh,I Gi,I Gj,I Gk,.slice Nd dg.length Nf,I dh]]) (M.pick [0,1,2,3,4,7,8,9,10,11,12] aD) ?_ ?_
   ·clear M h;rintro ⟨MQ,i6⟩ a w ⟨K,M⟩ h;try dsimp only at h
    revert a;refine sPZq9 9 6 (fun (⟨sA,i7⟩:List (Int × Int) × Int) a w=>Kn a 218 [(2,I p2),(5,.pointer (some ⟨gW,0,none⟩)),(6,.pointer (some ⟨gH,0,none⟩)),(8,.pointer (some ⟨lJ,0,none⟩)),(9,.pointer (some ⟨sL,0,none⟩)),(11,.slice A l2.length c),(12,.slice A2 l3.length c2),(14,I r2.2.2.2),(17,I r3.2.2.2),(19,.pointer (some ⟨Re,0,none⟩)),(20,I r4.2.2.2.2.2.2.2.2.2.2.2.2.2.2.2.2.2.2.2.2.2.2.2.2.2.2.2.2),(22,I i7)]∧Mem w0.heap.size w0 w [.blk Re 37 [I r4.1,I r4.2.1,I r4.2.2.1,I r4.2.2.2.1,I r4.2.2.2.2.1,.slice A5 MQ.length c5,.slice A6 r4.2.2.2.2.2.2.1.length c6,I r4.2.2.2.2.2.2.2.1,I r4.2.2.2.2.2.2.2.2.1,I r4.2.2.2.2.2.2.2.2.2.1,I r4.2.2.2.2.2.2.2.2.2.2.1,I r4.2.2.2.2.2.2.2.2.2.2.2.1,I r4.2.2.2.2.2.2.2.2.2.2.2.2.1,.slice A7 r4.2.2.2.2.2.2.2.2.2.2.2.2.2.1.length c7,I r4.2.2.2.2.2.2.2.2.2.2.2.2.2.2.1,I r4.2.2.2.2.2.2.2.2.2.2.2.2.2.2.2.1,I r4.2.2.2.2.2.2.2.2.2.2.2.2.2.2.2.2.1,I r4.2.2.2.2.2.2.2.2.2.2.2.2.2.2.2.2.2.1,I r4.2.2.2.2.2.2.2.2.2.2.2.2.2.2.2.2.2.2.1,I r4.2.2.2.2.2.2.2.2.2.2.2.2.2.2.2.2.2.2.2.1,I r4.2.2.2.2.2.2.2.2.2.2.2.2.2.2.2.2.2.2.2.2.1,I r4.2.2.2.2.2.2.2.2.2.2.2.2.2.2.2.2.2.2.2.2.2.1,I r4.2.2.2.2.2.2.2.2.2.2.2.2.2.2.2.2.2.2.2.2.2.2.1,I r4.2.2.2.2.2.2.2.2.2.2.2.2.2.2.2.2.2.2.2.2.2.2.2.1,I r4.2.2.2.2.2.2.2.2.2.2.2.2.2.2.2.2.2.2.2.2.2.2.2.2.1,I r4.2.2.2.2.2.2.2.2.2.2.2.2.2.2.2.2.2.2.2.2.2.2.2.2.2.1,.slice A8 sA.length c8,I r4.2.2.2.2.2.2.2.2.2.2.2.2.2.2.2.2.2.2.2.2.2.2.2.2.2.2.2.1],.row 3 1 A5 MQ.length c5 ((cI .i64).all MQ),.row 9 1 A6 r4.2.2.2.2.2.2.1.length c6 (cS.all r4.2.2.2.2.2.2.1),.row 92 2 A7 r4.2.2.2.2.2.2.2.2.2.2.2.2.2.1.length c7 (hG.all r4.2.2.2.2.2.2.2.2.2.2.2.2.2.1),.row 47 2 A8 sA.length c8 (hG.all sA),.row 42 3 A2 l3.length c2 (aN.all l3),.row 3 1 A l2.length c ((cI .i64).all l2),.blk sL 37 [I Nt,I Nu,I zB,I BW,I BX,.slice xN zW.length xO,.slice tM tT.length tN,I pA,I nB,I nC,I nD,I nE,I pB,.slice nT mD.length nU,I nF,I nG,I nH,I lM,I lN,I lO,I lP,I lQ,I lR,I lS,I lT,I lU,.slice nV mE.length nW,I nI],.blk lJ 34 [I My,I Mz,.slice DR G1.length DS],.blk gH 31 [I vO,I Ab,.slice pP xU.length kW],.blk gW 28 [I da,I Fq,I Fr,I Fs,I Ft,I dc,.slice Add dd.length MI,I Fu,I Fv,I Fw,I Gd,I Ge,I df2,I Gf,I Gg,I Gh,I Gi,I Gj,I Gk,.slice Nd dg.length Nf,I dh]]) (M.pick [0,1,2,3,4,5,6,7,8,9,10] aD) ?_ ?_
    ·clear M h;rintro ⟨OT,i8⟩ a w ⟨K,M⟩ h;try dsimp only at h
     revert a;obtain ⟨r5,tH,h⟩:=aA h;refine jEZq9 5 (Jh tH ((bE rR) _ M) mJ) ?_;intro A9 c9 w M;refine fKZq9 3 ?_;intro O3 w M;refine fLZq9 0 ?_;intro w M;refine sPZq9 10 8 (fun (⟨wW,i9⟩:List (Int × Int × Int) × Int) a w=>Kn a 218 [(2,I p2),(5,.pointer (some ⟨gW,0,none⟩)),(6,.pointer (some ⟨gH,0,none⟩)),(8,.pointer (some ⟨lJ,0,none⟩)),(9,.pointer (some ⟨sL,0,none⟩)),(11,.slice A l2.length c),(12,.slice A2 l3.length c2),(14,I r2.2.2.2),(17,I r3.2.2.2),(20,I r4.2.2.2.2.2.2.2.2.2.2.2.2.2.2.2.2.2.2.2.2.2.2.2.2.2.2.2.2),(23,.pointer (some ⟨O3,0,none⟩)),(24,I r5.2.2.2),(25,I i9)]∧Mem w0.heap.size w0 w [.blk O3 34 [I r5.1,I r5.2.1,.slice A9 wW.length c9],.row 42 3 A9 wW.length c9 (aN.all wW),.row 42 3 A2 l3.length c2 (aN.all l3),.row 3 1 A l2.length c ((cI .i64).all l2),.blk sL 37 [I Nt,I Nu,I zB,I BW,I BX,.slice xN zW.length xO,.slice tM tT.length tN,I pA,I nB,I nC,I nD,I nE,I pB,.slice nT mD.length nU,I nF,I nG,I nH,I lM,I lN,I lO,I lP,I lQ,I lR,I lS,I lT,I lU,.slice nV mE.length nW,I nI],.blk lJ 34 [I My,I Mz,.slice DR G1.length DS],.blk gH 31 [I vO,I Ab,.slice pP xU.length kW],.blk gW 28 [I da,I Fq,I Fr,I Fs,I Ft,I dc,.slice Add dd.length MI,I Fu,I Fv,I Fw,I Gd,I Ge,I df2,I Gf,I Gg,I Gh,I Gi,I Gj,I Gk,.slice Nd dg.length Nf,I dh]]) (M.pick [0,1,7,8,9,10,11,12] aD) ?_ ?_
     ·clear M h;rintro ⟨Bi,Ld⟩ a w ⟨K,M⟩ h;try dsimp only at h
      revert a;obtain ⟨r6,w6,h⟩:=aA h;refine jEZq9 7 (F2 w6 ((bE Rz) _ M) Tt ((bE Rc) _ M) S3 ((bE rR) _ M) mJ) ?_;intro XB c10 w M;refine fKZq9 3 ?_;intro aHh w M;refine fLZq9 0 ?_;intro w M;obtain ⟨r7,CT,h⟩:=aA h;refine jEZq9 6 (Mj CT ((bE LW) _ M) OA) ?_;intro A11 c11 w M;refine fKZq9 3 ?_;intro Ds w M;refine fLZq9 0 ?_;intro w M;obtain ⟨r8,DL,h⟩:=aA h;refine jEZq9 7 (Ok DL ((bE LX) _ M) LY ((bE IC) _ M) ID ((bE DT) _ M) DU ((bE DV) _ M) DW ((bE rR) _ M) mJ) ?_;intro A12 c12 Rw c13 A14 c14 A15 c15 w M;refine fKZq9 3 ?_;intro Ee w M;refine fLZq9 0 ?_;intro w M;obtain ⟨r9,E8,h⟩:=aA h;refine jEZq9 7 (Hi E8 ((bE LX) _ M) LY ((bE IC) _ M) ID ((bE DT) _ M) DU ((bE DV) _ M) DW ((bE rR) _ M) mJ) ?_;intro A16 c16 A17 c17 A18 c18 A19 c19 w M;refine fKZq9 3 ?_;intro KO w M;refine fLZq9 0 ?_;intro w M;refine mFZq9 10 153 h ?_ ?_
      ·intro hb h;exact aJZq9 46 (M.pick [] aD)
      intro hb h;refine mFZq9 5 158 h ?_ ?_
      ·intro hb h;exact aJZq9 41 (M.pick [] aD)
      intro hb h;refine mFZq9 5 163 h ?_ ?_
      ·intro hb h;exact aJZq9 36 (M.pick [] aD)
      intro hb h;refine mFZq9 5 168 h ?_ ?_
      ·intro hb h;exact aJZq9 31 (M.pick [] aD)
      intro hb h;obtain ⟨Di,B6,h⟩:=aA h;refine jEZq9 3 (BC B6 ((bE rR) _ M) mJ ((hF (C:=(cI .i64)) 17 rfl rfl) _ M) (M.cap 17 rfl)) ?_;intro w M;refine mFZq9 3 175 h ?_ ?_
      ·intro hb h;exact aJZq9 24 (M.pick [] aD)
      intro hb h;refine aGZq9 2 ?_;refine bQ (fun _ K=>bG rfl K (vs:=[(2,.slice DR G1.length DS)]) (cs:=[I 0,I 0,.slice DR G1.length DS]) rfl aE) M ?_;refine aGZq9 1 ?_;refine bQ (fun _ K=>bG rfl K (vs:=[(2,.slice A2 l3.length c2)]) (cs:=[I 0,I 0,.slice A2 l3.length c2]) rfl aE) M ?_;obtain ⟨yP,AJ,h⟩:=aA h;refine jEZq9 0 (mS AJ ((bE LW) _ M) OA ((hF (C:=aN) 16 rfl rfl) _ M) (M.cap 16 rfl)) ?_;intro w M;refine mFZq9 3 184 h ?_ ?_
      ·intro hb h;exact aJZq9 15 (M.pick [] aD)
      intro hb h;obtain ⟨Ae,Dp,h⟩:=aA h;refine jEZq9 2 (GG Dp ((hF (C:=(cI .i64)) 6 rfl rfl) _ M) (M.cap 6 rfl) ((hF (C:=cS) 7 rfl rfl) _ M) (M.cap 7 rfl) ((hF (C:=hG) 8 rfl rfl) _ M) (M.cap 8 rfl) ((hF (C:=hG) 9 rfl rfl) _ M) (M.cap 9 rfl) ((hF (C:=(cI .i64)) 1 rfl rfl) _ M) (M.cap 1 rfl) ((hF (C:=cS) 2 rfl rfl) _ M) (M.cap 2 rfl) ((hF (C:=hG) 3 rfl rfl) _ M) (M.cap 3 rfl) ((hF (C:=hG) 4 rfl rfl) _ M) (M.cap 4 rfl)) ?_;intro w M;refine dSZq9 4 h ?_ ?_
      ·intro hb h;exact aJZq9 7 (M.pick [] aD)
      intro hb h;refine aGZq9 4 ?_;intro a K;refine aF (fun w=>Mem _ _ w _) [0,0,0,0,0,0,1,1,1,1,1,1,1,1,0,1,1,0,0,0] aE aE M.drew ?_;replace M:=M.drew;revert a;refine mFZq9 3 192 h ?_ ?_
      ·intro hb h;obtain ⟨DX,Dq,h⟩:=aA h;refine aGZq9 3 ?_;intro a K;refine nY K (sC aDh K (Hj Dq ((bE Rz) _ M) Tt ((bE Rc) _ M) S3 ((bE rR) _ M) mJ)) ?_;clear K;rintro _ a w ⟨A20,c20,rfl,Zq⟩ K;replace M:=M.call Zq;clear Zq;refine ⟨M.pick [1,2,3,4,5,6,7,8,9,10,11,12,13,14,15,16,17,18,19,20,21,22] aD,?_⟩;obtain ⟨Ll,E9,h⟩:=aA h;refine nY K (sC SB K (mS E9 ((hF (C:=aN) 14 rfl rfl) _ M) (M.cap 14 rfl) ((hF (C:=aN) 0 rfl rfl) _ M) (M.cap 0 rfl))) ?_;clear K;rintro _ a w ⟨rfl,Zq⟩ K;replace M:=M.call Zq;clear Zq;refine ⟨M.pick [1,2,3,4,5,6,7,8,9,10,11,12,13,14,15,16,17,18,19,20,21,22] aD,?_⟩;refine bH K (K.yes rfl rfl rfl) rfl rfl (rd_not rfl K rfl) M (M.pick [1,2,3,4,5,6,7,8,9,10,11,12,13,14,15,16,17,18,19,20,21,22] aD) ?_;clear K;intro a K;refine bH K (aB rfl) rfl rfl (iM rfl K rfl rfl) M (M.pick [1,2,3,4,5,6,7,8,9,10,11,12,13,14,15,16,17,18,19,20,21,22] aD) ?_;clear K;intro a K;refine bH K (aB rfl) rfl rfl (bX rfl K rfl) M (M.pick [1,2,3,4,5,6,7,8,9,10,11,12,13,14,15,16,17,18,19,20,21,22] aD) ?_;clear K;intro a K;revert a;refine mFZq9 0 200 h ?_ ?_
       ·intro hb h;intro a K;iterate 3 (refine jV K (K.no rfl rfl rfl rfl) rfl rfl (M.pick [1,2,3,4,5,6,7,8,9,10,11,12,13,14,15,16,17,18,19,20,21,22] aD) ?_;clear K;intro a K)
        revert a;refine aGZq9 1 ?_;intro a K;iterate 2 (refine jV K (K.nou rfl rfl rfl) rfl rfl (M.pick [1,2,3,4,5,6,7,8,9,10,11,12,13,14,15,16,17,18,19,20,21,22] aD) ?_;clear K;intro a K)
        revert a;exact aJZq9 13 (M.pick [] aD)
       intro hb h;intro a K;refine bH K (K.yes rfl rfl rfl) rfl rfl (bX rfl K rfl) M (M.pick [1,2,3,4,5,6,7,8,9,10,11,12,13,14,15,16,17,18,19,20,21,22] aD) ?_;clear K;intro a K;refine bH K (K.yes rfl rfl rfl) rfl rfl (CC rfl K rfl rfl) M (M.pick [1,2,3,4,5,6,7,8,9,10,11,12,13,14,15,16,17,18,19,20,21,22] aD) ?_;clear K;intro a K;refine bH K (K.yes rfl rfl rfl) rfl rfl (bX rfl K rfl) M (M.pick [1,2,3,4,5,6,7,8,9,10,11,12,13,14,15,16,17,18,19,20,21,22] aD) ?_;clear K;intro a K;revert a;refine mFZq9 0 203 h ?_ ?_
       ·intro hb h;refine aGZq9 1 ?_;intro a K;refine bH K (K.yes rfl rfl rfl) rfl rfl (Eu rfl uU K rfl (sD 20 rfl) rfl rfl) M (M.pick [1,2,3,4,5,6,7,8,9,10,11,12,13,14,15,16,17,18,19,20,21,22] aD) ?_;clear K;intro a K;obtain ⟨GZ,GC,h⟩:=aA h;refine nY K (sC SB K (mS GC ((hF (C:=aN) 12 rfl rfl) _ M) (M.cap 12 rfl) ((bE LW) _ M) OA)) ?_;clear K;rintro _ a w ⟨rfl,Zq⟩ K;replace M:=M.call Zq;clear Zq;refine ⟨M.pick [1,2,3,4,5,6,7,8,9,10,11,12,13,14,15,16,17,18,19,20,21,22] aD,?_⟩;revert a;refine dSZq9 5 h ?_ ?_
        ·intro hb h;exact aJZq9 7 (M.pick [] aD)
        intro hb h;obtain ⟨r16,GD,h⟩:=aA h;refine jEZq9 4 (sB GD) ?_;intro w M;refine mFZq9 1 211 h ?_ ?_
        ·intro hb h;obtain ⟨Qb,KN,h⟩:=aA h;refine jEZq9 3 (mG KN ((bE rR) _ M) mJ) ?_;intro w M;refine bQ (fun _ K=>MP bo4 rfl K rfl rfl) M ?_;exact aJZq9 5 (M.pick [] aD)
        intro hb h;exact aJZq9 10 (M.pick [] aD)
       intro hb h;refine aGZq9 1 ?_;intro a K;iterate 2 (refine jV K (K.no rfl rfl rfl rfl) rfl rfl (M.pick [1,2,3,4,5,6,7,8,9,10,11,12,13,14,15,16,17,18,19,20,21,22] aD) ?_;clear K;intro a K)
       revert a;obtain ⟨TE,Oi,h⟩:=aA h;refine jEZq9 10 (sB Oi) ?_;intro w M;refine mFZq9 1 211 h ?_ ?_
       ·intro hb h;obtain ⟨Yg,Tb,h⟩:=aA h;refine jEZq9 3 (mG Tb ((bE rR) _ M) mJ) ?_;intro w M;refine bQ (fun _ K=>MP bo4 rfl K rfl rfl) M ?_;exact aJZq9 5 (M.pick [] aD)
       intro hb h;exact aJZq9 10 (M.pick [] aD)
      intro hb h;refine aGZq9 3 ?_;intro a K;iterate 3 (refine jV K (K.no rfl rfl rfl rfl) rfl rfl (M.pick [0,1,2,3,4,5,6,7,8,9,10,11,12,13,14,15,16,17,18,19,20,21] aD) ?_;clear K;intro a K)
      refine bH K (aB rfl) rfl rfl (kG rfl K rfl rfl) M (M.pick [0,1,2,3,4,5,6,7,8,9,10,11,12,13,14,15,16,17,18,19,20,21] aD) ?_;clear K;intro a K;refine bH K (aB rfl) rfl rfl (bX rfl K rfl) M (M.pick [0,1,2,3,4,5,6,7,8,9,10,11,12,13,14,15,16,17,18,19,20,21] aD) ?_;clear K;intro a K;refine bH K (K.yes rfl rfl rfl) rfl rfl (bX rfl K rfl) M (M.pick [0,1,2,3,4,5,6,7,8,9,10,11,12,13,14,15,16,17,18,19,20,21] aD) ?_;clear K;intro a K;refine bH K (K.yes rfl rfl rfl) rfl rfl (CC rfl K rfl rfl) M (M.pick [0,1,2,3,4,5,6,7,8,9,10,11,12,13,14,15,16,17,18,19,20,21] aD) ?_;clear K;intro a K;refine bH K (K.yes rfl rfl rfl) rfl rfl (bX rfl K rfl) M (M.pick [0,1,2,3,4,5,6,7,8,9,10,11,12,13,14,15,16,17,18,19,20,21] aD) ?_;clear K;intro a K;revert a;refine mFZq9 0 203 h ?_ ?_
      ·intro hb h;refine aGZq9 1 ?_;intro a K;refine bH K (K.yes rfl rfl rfl) rfl rfl (Eu rfl uU K rfl (sD 19 rfl) rfl rfl) M (M.pick [0,1,2,3,4,5,6,7,8,9,10,11,12,13,14,15,16,17,18,19,20,21] aD) ?_;clear K;intro a K;obtain ⟨HW,Ol,h⟩:=aA h;refine nY K (sC SB K (mS Ol ((hF (C:=aN) 11 rfl rfl) _ M) (M.cap 11 rfl) ((bE LW) _ M) OA)) ?_;clear K;rintro _ a w ⟨rfl,Zq⟩ K;replace M:=M.call Zq;clear Zq;refine ⟨M.pick [0,1,2,3,4,5,6,7,8,9,10,11,12,13,14,15,16,17,18,19,20,21] aD,?_⟩;revert a;refine dSZq9 5 h ?_ ?_
       ·intro hb h;exact aJZq9 7 (M.pick [] aD)
       intro hb h;obtain ⟨r21,Tc,h⟩:=aA h;refine jEZq9 4 (sB Tc) ?_;intro w M;refine mFZq9 1 211 h ?_ ?_
       ·intro hb h;obtain ⟨Wm,Td,h⟩:=aA h;refine jEZq9 3 (mG Td ((bE rR) _ M) mJ) ?_;intro w M;refine bQ (fun _ K=>MP bo4 rfl K rfl rfl) M ?_;exact aJZq9 5 (M.pick [] aD)
       intro hb h;exact aJZq9 10 (M.pick [] aD)
      intro hb h;refine aGZq9 1 ?_;intro a K;iterate 2 (refine jV K (K.no rfl rfl rfl rfl) rfl rfl (M.pick [0,1,2,3,4,5,6,7,8,9,10,11,12,13,14,15,16,17,18,19,20,21] aD) ?_;clear K;intro a K)
      revert a;obtain ⟨Jz,Om,h⟩:=aA h;refine jEZq9 10 (sB Om) ?_;intro w M;refine mFZq9 1 211 h ?_ ?_
      ·intro hb h;obtain ⟨r24,Tg,h⟩:=aA h;refine jEZq9 3 (mG Tg ((bE rR) _ M) mJ) ?_;intro w M;refine bQ (fun _ K=>MP bo4 rfl K rfl rfl) M ?_;exact aJZq9 5 (M.pick [] aD)
      intro hb h;exact aJZq9 10 (M.pick [] aD)
     clear M h;rintro kk fuel ⟨wW,i9⟩ a w hk5 ⟨K,M⟩ h;unfold iU at h;revert a;refine dSZq9 10 h ?_ ?_
     ·intro hb h;refine aGZq9 8 ?_;refine bQ (fun _ K=>bG rfl K (vs:=[(2,I (-1))]) (cs:=[I 0,I 0,I (-1)]) rfl aE) M ?_;obtain ⟨e10,E3,h⟩:=aA h;refine bQ (fun _ K=>fP rfl kZ K rfl rfl (hF (C:=aN) 1 rfl rfl) E3) M ?_;obtain ⟨Qe,aDH,h⟩:=aA h;intro a K;refine CO K (gA (el:=(0,0,(-1))) rfl Ir rfl rfl K rfl rfl rfl 1 M rfl aDH) ?_;have M0:=M;clear K M;rintro _ a w M K;have hl:=jB aDH;try rw [hl] at M
      try rw [hl] at K
      clear hl;clear M0;revert a;obtain ⟨P7,hx,h⟩:=dG h;refine nSZq9 6 hx ?_;exact mRZq9 2 (Qe,P7) (M.pick [0,1,2,3,4,5,6,7] aD)
     intro hb h;exact pIZq9 3 (hk5 (wW,i9)) (M.pick [0,1,2,3,4,5,6,7] aD)
    clear M h;rintro kk fuel ⟨sA,i7⟩ a w hk4 ⟨K,M⟩ h;unfold iV at h;revert a;refine dSZq9 11 h ?_ ?_
    ·intro hb h;refine aGZq9 9 ?_;refine bQ (fun _ K=>bG rfl K (vs:=[(0,I (-1))]) (cs:=[I (-1),I 0]) rfl aE) M ?_;obtain ⟨e8,Br,h⟩:=aA h;refine bQ (fun _ K=>fP rfl Ag K rfl rfl (hF (C:=hG) 4 rfl rfl) Br) M ?_;obtain ⟨Xw,aDI,h⟩:=aA h;intro a K;refine CO K (gA (el:=((-1),0)) rfl aJa rfl rfl K rfl rfl rfl 4 M rfl aDI) ?_;have M0:=M;clear K M;rintro _ a w M K;have hl:=jB aDI;try rw [hl] at M
     try rw [hl] at K
     clear hl;clear M0;revert a;obtain ⟨x9,hx,h⟩:=dG h;refine nSZq9 6 hx ?_;exact mRZq9 2 (Xw,x9) (M.pick [0,1,2,3,4,5,6,7,8,9,10] aD)
    intro hb h;exact pIZq9 3 (hk4 (sA,i7)) (M.pick [0,1,2,3,4,5,6,7,8,9,10] aD)
   clear M h;rintro kk fuel ⟨FV,i5⟩ a w hk3 ⟨K,M⟩ h;unfold iW at h;revert a;refine dSZq9 10 h ?_ ?_
   ·intro hb h;obtain ⟨e6,Iw,h⟩:=aA h;refine aGZq9 8 ?_;refine bQ (fun _ K=>fP rfl g9 K rfl rfl (hF (C:=(cI .i64)) 1 rfl rfl) Iw) M ?_;obtain ⟨l9,aHD,h⟩:=aA h;intro a K;refine CO K (gA (el:=(-1)) rfl uF rfl rfl K rfl rfl rfl 1 M rfl aHD) ?_;have M0:=M;clear K M;rintro _ a w M K;have hl:=jB aHD;try rw [hl] at M
    try rw [hl] at K
    clear hl;clear M0;revert a;obtain ⟨x7,hx,h⟩:=dG h;refine nSZq9 6 hx ?_;exact mRZq9 2 (l9,x7) (M.pick [0,1,2,3,4,5,6,7,8,9,10] aD)
   intro hb h;exact pIZq9 3 (hk3 (FV,i5)) (M.pick [0,1,2,3,4,5,6,7,8,9,10] aD)
  clear M h;rintro kk fuel ⟨Ka,i3⟩ a w hk2 ⟨K,M⟩ h;unfold iX at h;revert a;refine dSZq9 10 h ?_ ?_
  ·intro hb h;refine aGZq9 8 ?_;refine bQ (fun _ K=>bG rfl K (vs:=[(1,I (-1))]) (cs:=[I 0,I (-1),I 0]) rfl aE) M ?_;obtain ⟨e4,qR,h⟩:=aA h;refine bQ (fun _ K=>fP rfl kZ K rfl rfl (hF (C:=aN) 1 rfl rfl) qR) M ?_;obtain ⟨l7,w5,h⟩:=aA h;intro a K;refine CO K (gA (el:=(0,(-1),0)) rfl Ir rfl rfl K rfl rfl rfl 1 M rfl w5) ?_;have M0:=M;clear K M;rintro _ a w M K;have hl:=jB w5;try rw [hl] at M
   try rw [hl] at K
   clear hl;clear M0;revert a;obtain ⟨x5,hx,h⟩:=dG h;refine nSZq9 6 hx ?_;exact mRZq9 2 (l7,x5) (M.pick [0,1,2,3,4,5,6,7] aD)
  intro hb h;exact pIZq9 3 (hk2 (Ka,i3)) (M.pick [0,1,2,3,4,5,6,7] aD)
 clear M h;rintro kk fuel ⟨BF,i⟩ a w hk1 ⟨K,M⟩ h;unfold iY at h;revert a;refine dSZq9 10 h ?_ ?_
 ·intro hb h;refine aGZq9 8 ?_;refine bQ (fun _ K=>bG rfl K (vs:=[(0,I (-1))]) (cs:=[I (-1),I 0,I 0]) rfl aE) M ?_;obtain ⟨e2,lV,h⟩:=aA h;refine bQ (fun _ K=>fP rfl kZ K rfl rfl (hF (C:=aN) 1 rfl rfl) lV) M ?_;obtain ⟨l5,wK,h⟩:=aA h;intro a K;refine CO K (gA (el:=((-1),0,0)) rfl Ir rfl rfl K rfl rfl rfl 1 M rfl wK) ?_;have M0:=M;clear K M;rintro _ a w M K;have hl:=jB wK;try rw [hl] at M
  try rw [hl] at K
  clear hl;clear M0;revert a;obtain ⟨x3,hx,h⟩:=dG h;refine nSZq9 6 hx ?_;exact mRZq9 2 (l5,x3) (M.pick [0,1,2,3,4,5,6,7] aD)
 intro hb h;exact pIZq9 3 (hk1 (BF,i)) (M.pick [0,1,2,3,4,5,6,7] aD)
end
end Go.Proofs.YtpmnfhifmmfglacGreatDoor
