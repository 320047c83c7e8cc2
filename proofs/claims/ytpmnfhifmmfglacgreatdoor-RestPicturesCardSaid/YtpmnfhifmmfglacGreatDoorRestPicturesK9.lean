/- Texts of the claim RestPictures, joined and made small by a program. -/
import Derived.LoopIn
import Derived.LoopNIn
import Derived.OwnWalkIn
import Derived.RangeFuncBound
import Derived.RangeFuncCalls
import Derived.RangeFuncFrom
import Derived.RangeFuncLeaves
import Derived.RangeFuncNested
import Derived.Shelf.Abstract
import Derived.Shelf.RegionOpen
import Derived.TacticsInMore
import Derived.Test.YtpmnfhifmmfglacGreatDoorChecked
import Derived.Test.YtpmnfhifmmfglacGreatDoorRows
import Derived.WalkKit
import Derived.Test.YtpmnfhifmmfglacGreatDoorRestPicturesK1
import Derived.Test.YtpmnfhifmmfglacGreatDoorRestPicturesK3
import Derived.Test.YtpmnfhifmmfglacGreatDoorRestPicturesK4
import Derived.Test.YtpmnfhifmmfglacGreatDoorRestPicturesK5
import Derived.Test.YtpmnfhifmmfglacGreatDoorRestPicturesK8
set_option linter.unusedVariables false
set_option linter.unusedSimpArgs false
set_option linter.unusedSectionVars false
set_option maxRecDepth 100000
set_option maxHeartbeats 8000000
namespace Go.Proofs.YtpmnfhifmmfglacGreatDoor
section
open Go.RowKit
theorem z1:pZ Tryz.prog 1=some [.nilFunc]:=by kernel_rfl
theorem z2:pZ Tryz.prog 2=some [.int .i64 0]:=by kernel_rfl
theorem jO:OL Tryz.prog 3=true:=by kernel_rfl
theorem z3:pZ Tryz.prog 3=some [.int .i64 0]:=by kernel_rfl
theorem ik3:Tryz.prog.underlying 3=some (.int .i64):=by kernel_rfl
theorem uF:(Tryz.prog.info? 3).map (·.size)=some 1:=by kernel_rfl
theorem bo4:Tryz.prog.underlying 4=some .bool:=by kernel_rfl
theorem z4:pZ Tryz.prog 4=some [.bool false]:=by kernel_rfl
theorem sc5:OL Tryz.prog 5=true:=by kernel_rfl
theorem z5:pZ Tryz.prog 5=some [.int .u8 0]:=by kernel_rfl
theorem Xz:Tryz.prog.underlying 5=some (.int .u8):=by kernel_rfl
theorem zu5:(Tryz.prog.info? 5).bind (·.zero)=some (.int .u8 0):=by kernel_rfl
theorem sz5:(Tryz.prog.info? 5).map (·.size)=some 1:=by kernel_rfl
theorem sc9:OL Tryz.prog 9=true:=by kernel_rfl
theorem z9:pZ Tryz.prog 9=some [.string (bs ([]:List UInt8))]:=by kernel_rfl
theorem I3:Tryz.prog.underlying 9=some .string:=by kernel_rfl
theorem sz9:(Tryz.prog.info? 9).map (·.size)=some 1:=by kernel_rfl
theorem z20:pZ Tryz.prog 20=some [.nilIface]:=by kernel_rfl
theorem z21:pZ Tryz.prog 21=some [.int .i32 0]:=by kernel_rfl
theorem aGL:Fg Tryz.prog 22 4=true:=by kernel_rfl
theorem OX:Tryz.prog.underlying 22=some (.array 4 3):=by kernel_rfl
theorem ZS:OL Tryz.prog 23=true:=by kernel_rfl
theorem Gv:Ni Tryz.prog 23 92 2 16=true:=by kernel_rfl
theorem aCG:∃e,Tryz.prog.underlying 23=some (.slice e):=⟨_,(p8 Gv).1⟩
theorem aGM:Fg Tryz.prog 24 3=true:=by kernel_rfl
theorem pO:Tryz.prog.underlying 24=some (.array 3 3):=by kernel_rfl
theorem OY:Tryz.prog.underlying 25=some (.array 9 3):=by kernel_rfl
theorem aGN:OL Tryz.prog 26=true:=by kernel_rfl
theorem Ag:Ni Tryz.prog 26 47 2 16=true:=by kernel_rfl
theorem aE2:∃e,Tryz.prog.underlying 26=some (.slice e):=⟨_,(p8 Ag).1⟩
theorem aE3:Fg Tryz.prog 28 21=true:=by kernel_rfl
theorem VN:Ga Tryz.prog 28 0=some 0:=by kernel_rfl
theorem VO:Ga Tryz.prog 28 1=some 1:=by kernel_rfl
theorem VP:Ga Tryz.prog 28 2=some 5:=by kernel_rfl
theorem Na:Ga Tryz.prog 28 3=some 6:=by kernel_rfl
theorem QU:Ga Tryz.prog 28 4=some 7:=by kernel_rfl
theorem VQ:Ga Tryz.prog 28 5=some 10:=by kernel_rfl
theorem VR:Ga Tryz.prog 28 7=some 20:=by kernel_rfl
theorem Iq:OL Tryz.prog 29=true:=by kernel_rfl
theorem g9:Ni Tryz.prog 29 3 1 8=true:=by kernel_rfl
theorem Um:∃e,Tryz.prog.underlying 29=some (.slice e):=⟨_,(p8 g9).1⟩
theorem Cw:Fg Tryz.prog 31 3=true:=by kernel_rfl
theorem z31:pZ Tryz.prog 31=some [.int .i64 0,.int .i64 0,.slice none 0 0]:=by kernel_rfl
theorem G8:Ga Tryz.prog 31 0=some 0:=by kernel_rfl
theorem aE4:fdT Tryz.prog 31 2=some (29,2):=by kernel_rfl
theorem FA:Ga Tryz.prog 31 2=some 2:=by kernel_rfl
theorem QV:OL Tryz.prog 32=true:=by kernel_rfl
theorem kZ:Ni Tryz.prog 32 42 3 24=true:=by kernel_rfl
theorem NX:∃e,Tryz.prog.underlying 32=some (.slice e):=⟨_,(p8 kZ).1⟩
theorem uU:Fg Tryz.prog 34 3=true:=by kernel_rfl
theorem z34:pZ Tryz.prog 34=some [.int .i64 0,.int .i64 0,.slice none 0 0]:=by kernel_rfl
theorem VS:Ga Tryz.prog 34 2=some 2:=by kernel_rfl
theorem AH:Ni Tryz.prog 35 9 1 16=true:=by kernel_rfl
theorem aI8:∃e,Tryz.prog.underlying 35=some (.slice e):=⟨_,(p8 AH).1⟩
theorem aGO:Fg Tryz.prog 37 28=true:=by kernel_rfl
theorem z37:pZ Tryz.prog 37=some [.int .i64 0,.int .i64 0,.int .i64 0,.int .i64 0,.int .i64 0,.slice none 0 0,.slice none 0 0,.int .i64 0,.int .i64 0,.int .i64 0,.int .i64 0,.int .i64 0,.int .i64 0,.slice none 0 0,.int .i64 0,.int .i64 0,.int .i64 0,.int .i64 0,.int .i64 0,.int .i64 0,.int .i64 0,.int .i64 0,.int .i64 0,.int .i64 0,.int .i64 0,.int .i64 0,.slice none 0 0,.int .i64 0]:=by kernel_rfl
theorem QW:Ga Tryz.prog 37 0=some 0:=by kernel_rfl
theorem QX:Ga Tryz.prog 37 4=some 4:=by kernel_rfl
theorem xV:Fg Tryz.prog 42 3=true:=by kernel_rfl
theorem z42:pZ Tryz.prog 42=some [.int .i64 0,.int .i64 0,.int .i64 0]:=by kernel_rfl
theorem Db:Ga Tryz.prog 42 0=some 0:=by kernel_rfl
theorem Dc:Ga Tryz.prog 42 1=some 1:=by kernel_rfl
theorem Dd:Ga Tryz.prog 42 2=some 2:=by kernel_rfl
theorem aGP:(Tryz.prog).eqGuardType (Tryz.prog).depth 42=false:=by kernel_rfl
theorem aDf (x0 y0 x1 y1 x2 y2:Int) (w:World):(Op.equalIn 10000 42 (.agg #[.int .i64 x0,.int .i64 x1,.int .i64 x2]) (.agg #[.int .i64 y0,.int .i64 y1,.int .i64 y2])).run Tryz.prog w = .ok (decide (x0=y0)&&decide (x1=y1)&&decide (x2=y2)) w:=by
 have hp:Tryz.prog.stoodInHeld 42=false:=by kernel_rfl
 have ht:Tryz.prog.underlying 42=some (.struct (Tryz.prog.fieldsOf 42)):=by kernel_rfl
 rw [run_equalIn_agg (d:=9999) _ _ _ _ ht hp]
 by_cases h0:x0=y0 <;> by_cases h1:x1=y1 <;> by_cases h2:x2=y2 <;> simp [Program.fieldsOf,Tryz.underlying42,go_sem,Op.eqFields,h0,h1,h2]
theorem Ir:(Tryz.prog.info? 42).map (·.size)=some 3:=by kernel_rfl
theorem z46:pZ Tryz.prog 46=some [.int .i64 0,.int .i64 0]:=by kernel_rfl
theorem JO:Fg Tryz.prog 47 2=true:=by kernel_rfl
theorem z47:pZ Tryz.prog 47=some [.int .i64 0,.int .i64 0]:=by kernel_rfl
theorem aI9:(Tryz.prog).eqGuardType (Tryz.prog).depth 47=false:=by kernel_rfl
theorem aGQ (x0 y0 x1 y1:Int) (w:World):(Op.equalIn 10000 47 (.agg #[.int .i64 x0,.int .i64 x1]) (.agg #[.int .i64 y0,.int .i64 y1])).run Tryz.prog w = .ok (decide (x0=y0)&&decide (x1=y1)) w:=by
 have hp:Tryz.prog.stoodInHeld 47=false:=by kernel_rfl
 have ht:Tryz.prog.underlying 47=some (.struct (Tryz.prog.fieldsOf 47)):=by kernel_rfl
 rw [run_equalIn_agg (d:=9999) _ _ _ _ ht hp]
 by_cases h0:x0=y0 <;> by_cases h1:x1=y1 <;> simp [Program.fieldsOf,Tryz.underlying47,go_sem,Op.eqFields,h0,h1]
theorem aJa:(Tryz.prog.info? 47).map (·.size)=some 2:=by kernel_rfl
theorem z51:pZ Tryz.prog 51=some [.nilFunc]:=by kernel_rfl
theorem z70:pZ Tryz.prog 70=some [.nilFunc]:=by kernel_rfl
theorem z72:pZ Tryz.prog 72=some [.nilFunc]:=by kernel_rfl
theorem aGR:Fg Tryz.prog 83 3=true:=by kernel_rfl
theorem aJb:Tryz.prog.underlying 84=some (.array 9 83):=by kernel_rfl
theorem Un:Fg Tryz.prog 92 2=true:=by kernel_rfl
theorem z92:pZ Tryz.prog 92=some [.int .i64 0,.int .i64 0]:=by kernel_rfl
theorem aJc:(Tryz.prog).eqGuardType (Tryz.prog).depth 92=false:=by kernel_rfl
theorem aGS (x0 y0 x1 y1:Int) (w:World):(Op.equalIn 10000 92 (.agg #[.int .i64 x0,.int .i64 x1]) (.agg #[.int .i64 y0,.int .i64 y1])).run Tryz.prog w = .ok (decide (x0=y0)&&decide (x1=y1)) w:=by
 have hp:Tryz.prog.stoodInHeld 92=false:=by kernel_rfl
 have ht:Tryz.prog.underlying 92=some (.struct (Tryz.prog.fieldsOf 92)):=by kernel_rfl
 rw [run_equalIn_agg (d:=9999) _ _ _ _ ht hp]
 by_cases h0:x0=y0 <;> by_cases h1:x1=y1 <;> simp [Program.fieldsOf,Tryz.underlying92,go_sem,Op.eqFields,h0,h1]
theorem ZT:Ni Tryz.prog 94 96 2 16=true:=by kernel_rfl
theorem aJd:∃e,Tryz.prog.underlying 94=some (.slice e):=⟨_,(p8 ZT).1⟩
theorem aGT:Fg Tryz.prog 96 2=true:=by kernel_rfl
theorem z96:pZ Tryz.prog 96=some [.int .i64 0,.int .i64 0]:=by kernel_rfl
theorem aCH:Tryz.prog.underlying 96=some (.array 2 3):=by kernel_rfl
theorem z105:pZ Tryz.prog 105=some [.nilFunc]:=by kernel_rfl
theorem z116:pZ Tryz.prog 116=some [.nilFunc]:=by kernel_rfl
theorem ZU:OL Tryz.prog 123=true:=by kernel_rfl
theorem tX:Ni Tryz.prog 123 5 1 1=true:=by kernel_rfl
theorem aGU:∃e,Tryz.prog.underlying 123=some (.slice e):=⟨_,(p8 tX).1⟩
theorem z124:pZ Tryz.prog 124=some [.slice none 0 0]:=by kernel_rfl
theorem z127:pZ Tryz.prog 127=some [.nilFunc]:=by kernel_rfl
theorem z138:pZ Tryz.prog 138=some [.int .i64 0,.int .i64 0,.int .i64 0,.int .i64 0,.int .i64 0]:=by kernel_rfl
theorem z139:pZ Tryz.prog 139=some [.nilFunc]:=by kernel_rfl
theorem z146:pZ Tryz.prog 146=some [.pointer none]:=by kernel_rfl
theorem z164:pZ Tryz.prog 164=some [.nilFunc]:=by kernel_rfl
theorem Jc:Ni Tryz.prog 210 212 1 16=true:=by kernel_rfl
theorem aDg:∃e,Tryz.prog.underlying 210=some (.slice e):=⟨_,(p8 Jc).1⟩
theorem z212:pZ Tryz.prog 212=some [.nilIface]:=by kernel_rfl
theorem aGV:Tryz.prog.underlying 227=some (.array 8 3):=by kernel_rfl
theorem aJe:(Tryz.prog).eqGuardType (Tryz.prog).depth 22=false:=by kernel_rfl
theorem aGW (x0 y0 x1 y1 x2 y2 x3 y3:Int) (w:World):(Op.equalIn 10000 22 (.agg #[.int .i64 x0,.int .i64 x1,.int .i64 x2,.int .i64 x3]) (.agg #[.int .i64 y0,.int .i64 y1,.int .i64 y2,.int .i64 y3])).run Tryz.prog w = .ok (decide ([x0,x1,x2,x3]=[y0,y1,y2,y3])) w:=ZR OX ik3 uF [x0,x1,x2,x3] [y0,y1,y2,y3] rfl rfl w
theorem aJf:(Tryz.prog).eqGuardType (Tryz.prog).depth 24=false:=by kernel_rfl
theorem aGX (x0 y0 x1 y1 x2 y2:Int) (w:World):(Op.equalIn 10000 24 (.agg #[.int .i64 x0,.int .i64 x1,.int .i64 x2]) (.agg #[.int .i64 y0,.int .i64 y1,.int .i64 y2])).run Tryz.prog w = .ok (decide ([x0,x1,x2]=[y0,y1,y2])) w:=ZR pO ik3 uF [x0,x1,x2] [y0,y1,y2] rfl rfl w
theorem aJg:(Tryz.prog).eqGuardType (Tryz.prog).depth 25=false:=by kernel_rfl
theorem aGY (x0 y0 x1 y1 x2 y2 x3 y3 x4 y4 x5 y5 x6 y6 x7 y7 x8 y8:Int) (w:World):(Op.equalIn 10000 25 (.agg #[.int .i64 x0,.int .i64 x1,.int .i64 x2,.int .i64 x3,.int .i64 x4,.int .i64 x5,.int .i64 x6,.int .i64 x7,.int .i64 x8]) (.agg #[.int .i64 y0,.int .i64 y1,.int .i64 y2,.int .i64 y3,.int .i64 y4,.int .i64 y5,.int .i64 y6,.int .i64 y7,.int .i64 y8])).run Tryz.prog w = .ok (decide ([x0,x1,x2,x3,x4,x5,x6,x7,x8]=[y0,y1,y2,y3,y4,y5,y6,y7,y8])) w:=ZR OY ik3 uF [x0,x1,x2,x3,x4,x5,x6,x7,x8] [y0,y1,y2,y3,y4,y5,y6,y7,y8] rfl rfl w
theorem SB:kY Tryz.prog 15=true:=by kernel_rfl
theorem aDh:kY Tryz.prog 17=true:=by kernel_rfl
theorem ZV:kY Tryz.prog 35=true:=by kernel_rfl
theorem ZW:kY Tryz.prog 37=true:=by kernel_rfl
theorem ZX:kY Tryz.prog 42=true:=by kernel_rfl
theorem ZY:kY Tryz.prog 43=true:=by kernel_rfl
theorem ZZ:kY Tryz.prog 44=true:=by kernel_rfl
theorem aDi:kY Tryz.prog 47=true:=by kernel_rfl
theorem aDj:kY Tryz.prog 48=true:=by kernel_rfl
theorem aDk:kY Tryz.prog 49=true:=by kernel_rfl
theorem aDl:kY Tryz.prog 50=true:=by kernel_rfl
theorem aDm:kY Tryz.prog 54=true:=by kernel_rfl
theorem PK:kY Tryz.prog 60=true:=by kernel_rfl
theorem SC:kY Tryz.prog 64=true:=by kernel_rfl
theorem VT:kY Tryz.prog 65=true:=by kernel_rfl
theorem Z0:kY Tryz.prog 66=true:=by kernel_rfl
theorem SD:kY Tryz.prog 67=true:=by kernel_rfl
theorem SE:kY Tryz.prog 68=true:=by kernel_rfl
theorem SF:kY Tryz.prog 69=true:=by kernel_rfl
theorem SG:kY Tryz.prog 70=true:=by kernel_rfl
theorem VU:kY Tryz.prog 71=true:=by kernel_rfl
theorem aDn:kY Tryz.prog 72=true:=by kernel_rfl
theorem Z1:kY Tryz.prog 74=true:=by kernel_rfl
theorem NY:kY Tryz.prog 95=true:=by kernel_rfl
theorem aDo:kY Tryz.prog 98=true:=by kernel_rfl
theorem LM:kY Tryz.prog 105=true:=by kernel_rfl
theorem JP:kY Tryz.prog 107=true:=by kernel_rfl
theorem Z2:kY Tryz.prog 108=true:=by kernel_rfl
theorem Uo:kY Tryz.prog 113=true:=by kernel_rfl
theorem QY:kY Tryz.prog 114=true:=by kernel_rfl
theorem QZ:kY Tryz.prog 116=true:=by kernel_rfl
theorem E2:kY Tryz.prog 117=true:=by kernel_rfl
theorem Z3:kY Tryz.prog 120=true:=by kernel_rfl
theorem Z4:kY Tryz.prog 126=true:=by kernel_rfl
theorem Z5:kY Tryz.prog 128=true:=by kernel_rfl
theorem Q4:kY Tryz.prog 132=true:=by kernel_rfl
theorem JQ:kY Tryz.prog 138=true:=by kernel_rfl
theorem Up:kY Tryz.prog 139=true:=by kernel_rfl
theorem B5:kY Tryz.prog 141=true:=by kernel_rfl
theorem LN:kY Tryz.prog 142=true:=by kernel_rfl
theorem Q5:kY Tryz.prog 143=true:=by kernel_rfl
theorem Z6:kY Tryz.prog 150=true:=by kernel_rfl
theorem Z7:kY Tryz.prog 158=true:=by kernel_rfl
theorem Z8:kY Tryz.prog 159=true:=by kernel_rfl
theorem Q6:kY Tryz.prog 161=true:=by kernel_rfl
theorem Z9:kY Tryz.prog 164=true:=by kernel_rfl
theorem aAa:kY Tryz.prog 165=true:=by kernel_rfl
theorem aAb:kY Tryz.prog 166=true:=by kernel_rfl
theorem aAc:kY Tryz.prog 171=true:=by kernel_rfl
theorem aAd:kY Tryz.prog 174=true:=by kernel_rfl
theorem aAe:kY Tryz.prog 175=true:=by kernel_rfl
theorem aAf:kY Tryz.prog 192=true:=by kernel_rfl
theorem aAg:kY Tryz.prog 193=true:=by kernel_rfl
theorem aAh:kY Tryz.prog 209=true:=by kernel_rfl
theorem aAi:kY Tryz.prog 265=true:=by kernel_rfl
theorem Uq:kY Tryz.prog 267=true:=by kernel_rfl
theorem aAj:kY Tryz.prog 268=true:=by kernel_rfl
theorem aAk:kY Tryz.prog 269=true:=by kernel_rfl
theorem Ur:kY Tryz.prog 271=true:=by kernel_rfl
theorem aAl:kY Tryz.prog 272=true:=by kernel_rfl
theorem aAm:kY Tryz.prog 273=true:=by kernel_rfl
theorem Q7:kY Tryz.prog 275=true:=by kernel_rfl
theorem aAn:kY Tryz.prog 276=true:=by kernel_rfl
theorem Us:kY Tryz.prog 278=true:=by kernel_rfl
theorem aAo:kY Tryz.prog 279=true:=by kernel_rfl
theorem Ut:kY Tryz.prog 281=true:=by kernel_rfl
theorem aAp:kY Tryz.prog 282=true:=by kernel_rfl
theorem Q8:kY Tryz.prog 284=true:=by kernel_rfl
theorem Uu:kY Tryz.prog 285=true:=by kernel_rfl
theorem cc9:Program.concrete Tryz.prog 9=true:=by kernel_rfl
theorem aGZ:Program.concrete Tryz.prog 203=true:=by kernel_rfl
theorem aG0:Program.concrete Tryz.prog 204=true:=by kernel_rfl
theorem aG1:Program.concrete Tryz.prog 205=true:=by kernel_rfl
theorem aG2:Program.concrete Tryz.prog 206=true:=by kernel_rfl
theorem aG3:Program.concrete Tryz.prog 207=true:=by kernel_rfl
theorem aG4:Program.concrete Tryz.prog 208=true:=by kernel_rfl
theorem aG5:Program.concrete Tryz.prog 209=true:=by kernel_rfl
theorem aG6:∀v w,(method (Tryz.prog.types.size+Made.depth) 203 v "darkslide/line.work").run Tryz.prog w = .ok (265,v) w:=by
 intro v w
 kernel_rfl
theorem aG7:∀v w,(method (Tryz.prog.types.size+Made.depth) 204 v "darkslide/line.work").run Tryz.prog w = .ok (268,v) w:=by
 intro v w
 kernel_rfl
theorem aG8:∀v w,(method (Tryz.prog.types.size+Made.depth) 205 v "darkslide/line.work").run Tryz.prog w = .ok (269,v) w:=by
 intro v w
 kernel_rfl
theorem aG9:∀v w,(method (Tryz.prog.types.size+Made.depth) 206 v "darkslide/line.work").run Tryz.prog w = .ok (272,v) w:=by
 intro v w
 kernel_rfl
theorem aHa:∀v w,(method (Tryz.prog.types.size+Made.depth) 207 v "darkslide/line.work").run Tryz.prog w = .ok (273,v) w:=by
 intro v w
 kernel_rfl
theorem aHb:∀v w,(method (Tryz.prog.types.size+Made.depth) 208 v "darkslide/line.work").run Tryz.prog w = .ok (279,v) w:=by
 intro v w
 kernel_rfl
theorem aHc:∀v w,(method (Tryz.prog.types.size+Made.depth) 209 v "darkslide/line.work").run Tryz.prog w = .ok (282,v) w:=by
 intro v w
 kernel_rfl
theorem aE {p:Prop} (h:p:=by kernel_rfl):p:=h
theorem aD {p:Prop} (h:p:=by decide):p:=h
abbrev qQ:=@wpList_nil
theorem Rx (b:Bool):b=true∨b=false:=Bool.eq_false_or_eq_true b
theorem sC {P:Program} {D:List Deferred} {a:Act} {w:World} {N:Nat} {l:List (Nat × Value)} {o:Oper} {x:Operand} {post:Value→World→Prop} {f:FuncId} {vs:List Value} {args:Array Operand} {ts:Array TypeId} (hf:kY P f=true) (K:Kd D a N l) (h:Calls P f vs.toArray w fun e w'=>∃v,e = .returned v∧post v w') (ho:o.op = .call { callee:=.value x,args:=args,argTypes:=ts }:=by exact rfl) (hx:kX l x=some (.func (.func f) #[] #[]):=by exact rfl) (hargs:args.toList.map (kX l)=vs.map some:=by exact rfl):Ac P o a w post:=gZ (cap:=[]) ho hf K hx hargs (by rw [List.append_nil];exact h)

structure Ct (n:Nat) (p:Prop):Prop where
 out:p
structure Hq (p:Prop):Prop where
 out:p
inductive KS (l:List (Nat × Value)):List (Nat × Value)→Prop where
 | nil:KS l []
 | cons {s:Nat} {v:Value} {t:List (Nat × Value)} (h:Cd l s=some v) (k:KS l t):KS l ((s,v)::t)
inductive Seg:List Value→Nat→Nat→List Value→Prop where
 | nil {l:List Value}:Seg l 0 0 []
 | cons {v:Value} {l r:List Value} {n:Nat} (h:Seg l 0 n r):Seg (v::l) 0 (n+1) (v::r)
 | skip {v:Value} {l r:List Value} {o n:Nat} (h:Seg l o n r):Seg (v::l) (o+1) n r
theorem Seg.eq:∀{l:List Value} {o n:Nat} {r:List Value},Seg l o n r→(l.drop o).take n=r∧r.length=n
 | _,_,_,_,.nil=>⟨rfl,rfl⟩
 | _,_,_,_,.cons h=>by have:=h.eq;simp at this;simp [this]
 | _,_,_,_,.skip h=>by have:=h.eq;simpa using this
theorem KS.get {l:List (Nat × Value)}:∀{t:List (Nat × Value)},KS l t→∀s v,Cd t s=some v→Cd l s=some v
 | _,.nil,s,v,h=>by cases h
 | (s0,v0)::t,.cons h0 k,s,v,h=>by
  simp only [Cd] at h
  by_cases e:s0=s
  · subst e;simp at h;rw [h0,h]
  · rw [XQ e] at h;exact k.get s v h
theorem Kd.to {D:List Deferred} {a:Act} {N:Nat} {l l':List (Nat × Value)} (K:Kd D a N l) (h:KS l l':=by repeat (first | exact KS.nil | refine KS.cons rfl ?_)):Kd D a N l':=K.sub h.get

class GR (t f:Nat) (off:outParam Nat):Prop where
 out:Ga Tryz.prog t f=some off
class LO (t:Nat):Prop where
 out:OL Tryz.prog t=true
class LP (t:Nat) (n:outParam Nat):Prop where
 out:Fg Tryz.prog t n=true
class UnI (t:Nat):Prop where
 out:∃e,Tryz.prog.underlying t=some (.slice e)
class Is (t:Nat) (cs:outParam (List Value)):Prop where
 out:pZ Tryz.prog t=some cs
class nX (f:Nat):Prop where
 out:kY Tryz.prog f=true
class SlI (t:Nat) (e s b:outParam Nat):Prop where
 out:Ni Tryz.prog t e s b=true
class IkI (t:Nat) (k:outParam IntKind):Prop where
 out:Tryz.prog.underlying t=some (.int k)
class StI (t:Nat):Prop where
 out:Tryz.prog.underlying t=some .string
section
variable {base:Nat} {W w:World} {L:List pY} {D:List Deferred} {a:Act} {N:Nat} {l:List (Nat × Value)} {ops:Array Oper} {Q:Exit→Act→World→Prop} {rest:List Oper} {o:Oper} {x y ix:Operand} {t t' e:TypeId} {g off n:Nat} {cs ds:List Value} {v:Value} {α:Type} {C:yB α} {A:Option Addr} {c:Nat} {xs:List α} {el:α} {q:Nat}
theorem lcQ (ho:o.op = .load t x:=by exact rfl) (ht:OL Tryz.prog t=true:=by exact LO.out) (hx:kX l x=some (.pointer (some ⟨g,off,none⟩)):=by exact rfl) (hb:∀w,Mem base W w L→jM w g t' cs.toArray:=by first | exact sD 0 rfl | exact sD 1 rfl | exact sD 2 rfl | exact sD 3 rfl | exact sD 4 rfl | exact sD 5 rfl | exact sD 6 rfl | exact sD 7 rfl | exact sD 8 rfl | exact sD 9 rfl | exact sD 10 rfl | exact sD 11 rfl | exact Du (by assumption)) (hv:cs[off]? = some v:=by exact rfl):∀a,Kd D a N l→Rd Tryz.prog (fun w=>Mem base W w L) a o v:=fun a K=>gY ho ht K hx hb hv
theorem laQ (ho:o.op = .load t x:=by exact rfl) (ht:Fg Tryz.prog t n=true:=by exact LP.out) (hx:kX l x=some (.pointer (some ⟨g,off,none⟩)):=by exact rfl) (hb:∀w,Mem base W w L→jM w g t' cs.toArray:=by first | exact sD 0 rfl | exact sD 1 rfl | exact sD 2 rfl | exact sD 3 rfl | exact sD 4 rfl | exact sD 5 rfl | exact sD 6 rfl | exact sD 7 rfl | exact sD 8 rfl | exact sD 9 rfl | exact sD 10 rfl | exact sD 11 rfl | exact Du (by assumption)) (hs:Seg cs off n ds:=by repeat (first | exact Seg.nil | apply Seg.cons | apply Seg.skip)):∀a,Kd D a N l→Rd Tryz.prog (fun w=>Mem base W w L) a o (.agg ds.toArray):=fun a K=>Eu ho ht K hx hb hs.eq.1 hs.eq.2
class ON (t:Nat) (cs:outParam (List Value)):Prop where
 out:Tryz.prog.built t []=some cs.toArray
inductive Evs (l:List (Nat × Value)):List Operand→List Value→Prop where
 | nil:Evs l [] []
 | cons {x:Operand} {v:Value} {xs:List Operand} {vs:List Value} (h:kX l x=some v) (k:Evs l xs vs):Evs l (x::xs) (v::vs)
theorem Evs.eq {l:List (Nat × Value)}:∀{xs:List Operand} {vs:List Value},Evs l xs vs→xs.map (kX l)=vs.map some
 | _,_,.nil=>rfl
 | _,_,.cons h k=>by simp [h,k.eq]
theorem rfQ {fn:Fn} {cap:Array Operand} {vs:List Value} (ho:o.op = .makeFunc fn #[] cap:=by exact rfl) (h:Evs l cap.toList vs:=by repeat (first | exact Evs.nil | apply Evs.cons | exact rfl)):∀a,Kd D a N l→Rd Tryz.prog (fun w=>Mem base W w L) a o (.func fn #[] vs.toArray):=fun a K=>UY ho K h.eq
theorem rxQ {i:Nat} {vs:List Value} (K:Kd D a N l) (ho:o.op = .extract x i:=by exact rfl) (hx:kX l x=some (.tuple vs.toArray):=by exact rfl) (hi:vs[i]? = some v:=by exact rfl):Rd Tryz.prog (fun w=>Mem base W w L) a o v:=Et ho K hx (by simpa using hi)
theorem aJK {k:IntKind} {m n:Int} (h:∀a,Kd D a N l→Rd Tryz.prog (fun w=>Mem base W w L) a o (.int k m)) (he:m=n:=by assumption):∀a,Kd D a N l→Rd Tryz.prog (fun w=>Mem base W w L) a o (.int k n):=fun a K=>RH he (h a K)
def SxQ (base:Nat) (W:World) (L:List pY) (D:List Deferred) (N:Nat) (ops:Array Oper) (l:List (Nat × Value)) (o:Oper) (d:Nat) (v:Value):Prop:=o.dst=some d∧Nat.blt d N=true∧Stp Tryz.prog ops (fun w=>Mem base W w L) D N l o v
theorem rdQ (h:∀a,Kd D a N l→Rd Tryz.prog (fun w=>Mem base W w L) a o v:=by
   first
   | exact fun a K=>bX rfl K rfl
   | exact fun a K=>cP rfl GR.out K rfl
   | exact lcQ
   | exact fun a K=>vU rfl K rfl
   | exact fun a K=>H6 rfl K rfl
   | exact fun a K=>AU rfl UnI.out K rfl
   | exact fun a K=>rxQ K
   | exact fun a K=>Ad rfl K rfl rfl
   | exact fun a K=>GS rfl K rfl rfl
   | exact fun a K=>Es rfl K rfl rfl
   | exact fun a K=>CB rfl K rfl rfl
   | exact fun a K=>CC rfl K rfl rfl
   | exact fun a K=>Nl rfl K rfl rfl
   | exact fun a K=>Lj rfl K rfl rfl
   | exact fun a K=>Nj rfl K rfl rfl
   | exact fun a K=>Nk rfl K rfl rfl
   | exact fun a K=>rd_not rfl K rfl
   | exact fun a K=>iM rfl K rfl rfl
   | exact fun a K=>kG rfl K rfl rfl
   | exact fun a K=>H8 rfl K rfl rfl
   | exact fun a K=>H7 rfl K rfl rfl
   | exact fun a K=>H5 rfl K rfl rfl
   | exact laQ
   | exact fun a K=>bG rfl K (vs:=[]) rfl ON.out
   | exact rfQ
   | exact fun a K=>J4 rfl rfl IkI.out K rfl):∀a,Kd D a N l→Rd Tryz.prog (fun w=>Mem base W w L) a o v:=h
theorem stQ {d:Nat} (hd:o.dst=some d:=by exact rfl) (hN:Nat.blt d N=true:=by exact rfl) (h:Stp Tryz.prog ops (fun w=>Mem base W w L) D N l o v:=by
 first
 | exact .yes (fun a K=>aB rfl) rdQ
 | exact .no (fun a K=>K.no rfl rfl rfl rfl) rfl
 | exact .yes (fun a K=>K.yes rfl rfl rfl) rdQ
 | exact .no (fun a K=>K.nou rfl rfl rfl) rfl):SxQ base W L D N ops l o d v:=⟨hd,hN,h⟩
variable {d:Nat} {p p':Code} {id id':Nat} {K':Act→World→Prop} {f:List Nat} {R:Act→World→Prop} {b:Bool}
theorem DY (M:Mem base W w L) (k:Ct n (∀a,Kd D a N ((d,v)::l)→wpList Tryz.prog ops Q rest a w)) (h:SxQ base W L D N ops l o d v:=by exact stQ):Ct (n+1) (∀a,Kd D a N l→wpList Tryz.prog ops Q (o::rest) a w):=⟨oS M k.out h.1 h.2.1 h.2.2⟩
theorem DZ (k:Ct n (∀a,Kd D a N ((d,v)::l)→rT Tryz.prog ops (fun w=>Mem base W w L) R (marked f rest) a w)) (h:SxQ base W L D N ops l o d v:=by exact stQ):Ct (n+1) (∀a,Kd D a N l→rT Tryz.prog ops (fun w=>Mem base W w L) R (marked (0::f) (o::rest)) a w):=⟨PH k.out h.1 h.2.1 h.2.2⟩
theorem D0 (k:Ct n (∀a,Kd D a N ((d,v)::l)→rT Tryz.prog ops (fun w=>Mem base W w L) R (marked [] rest) a w)) (h:SxQ base W L D N ops l o d v:=by exact stQ):Ct (n+1) (∀a,Kd D a N l→rT Tryz.prog ops (fun w=>Mem base W w L) R (marked [] (o::rest)) a w):=⟨PH (f:=[]) k.out h.1 h.2.1 h.2.2⟩
theorem D1 (k:Ct n (∀a,Kd D a N l→R a w)) {S:World→Prop}:Ct (n+1) (∀a,Kd D a N l→rT Tryz.prog ops S R (marked f []) a w):=⟨k.1⟩
theorem Ah (k:Ct n (∀a,Kd D a N l→Q .normal a w)):Ct (n+1) (∀a,Kd D a N l→wpList Tryz.prog ops Q [] a w):=⟨k.1⟩
theorem D2 (k:Ct n (∀a,Kd D a N l→K' a w)):Ct (n+1) (∀a,Kd D a N l→Exit.then K' Q .normal a w):=⟨k.1⟩
theorem D3 (k:Ct n (∀a,Kd D a N l→Q .ret a w)):Ct (n+1) (∀a,Kd D a N l→Exit.then K' Q .ret a w):=⟨k.1⟩
theorem D4 (k:Ct n (∀a,Kd D a N l→Q (.exit id) a w)):Ct (n+1) (∀a,Kd D a N l→Exit.then K' Q (.exit id) a w):=⟨k.1⟩
theorem D5 (k:Ct n (∀a,Kd D a N l→Q .normal a w)):Ct (n+1) (∀a,Kd D a N l→Exit.inBlock id Q .normal a w):=⟨k.1⟩
theorem D6 (k:Ct n (∀a,Kd D a N l→Q .ret a w)):Ct (n+1) (∀a,Kd D a N l→Exit.inBlock id Q .ret a w):=⟨k.1⟩
theorem D7 (k:Ct n (∀a,Kd D a N l→Q .normal a w)):Ct (n+1) (∀a,Kd D a N l→Exit.inBlock id Q (.exit id) a w):=⟨fun a K=>aCY (k.1 a K)⟩
theorem D8 (hne:id'≠id) (k:Ct n (∀a,Kd D a N l→Q (.exit id') a w)):Ct (n+1) (∀a,Kd D a N l→Exit.inBlock id Q (.exit id') a w):=⟨fun a K=>aFS hne (k.1 a K)⟩
theorem Ai (k:Ct n (∀a,Kd D a N l→p.wp Tryz.prog (Exit.then (p'.wp Tryz.prog Q) Q) a w)):Ct (n+1) (∀a,Kd D a N l→(Code.seq p p').wp Tryz.prog Q a w):=⟨fun a K=>wp_seq (k.1 a K)⟩
theorem Aj {ol:List Oper} (k:Ct n (∀a,Kd D a N l→wpList Tryz.prog ol.toArray Q ol a w)):Ct (n+1) (∀a,Kd D a N l→(Code.region id ol.toArray false).wp Tryz.prog Q a w):=⟨fun a K=>dQ (k.1 a K)⟩
theorem vP (k:Ct n (∀a,Kd D a N l→Q .normal a w)):Ct (n+1) (∀a,Kd D a N l→Code.skip.wp Tryz.prog Q a w):=⟨fun a K=>wp_skip (k.1 a K)⟩
theorem Ak (k:Ct n (∀a,Kd D a N l→Q .normal a w)):Ct (n+1) (∀a,Kd D a N l→(Code.label id).wp Tryz.prog Q a w):=⟨fun a K=>wp_label (k.1 a K)⟩
theorem Al (k:Ct n (∀a,Kd D a N l→Q .ret a w)):Ct (n+1) (∀a,Kd D a N l→Code.ret.wp Tryz.prog Q a w):=⟨fun a K=>wp_ret (k.1 a K)⟩
theorem vQ (k:Ct n (∀a,Kd D a N l→Q (.exit id) a w)):Ct (n+1) (∀a,Kd D a N l→(Code.exit id).wp Tryz.prog Q a w):=⟨fun a K=>wp_exit (k.1 a K)⟩
theorem Am (k:Ct n (∀a,Kd D a N l→p.wp Tryz.prog (Exit.inBlock id Q) a w)):Ct (n+1) (∀a,Kd D a N l→(Code.block id p).wp Tryz.prog Q a w):=⟨fun a K=>wp_block (k.1 a K)⟩
theorem D9 (hc:kX l x=some (.bool true)) (k:Ct n (∀a,Kd D a N l→p.wp Tryz.prog Q a w)):Ct (n+1) (∀a,Kd D a N l→(Code.cond x p p').wp Tryz.prog Q a w):=⟨fun a K=>aBf K hc (k.1 a K)⟩
theorem Ea (hc:kX l x=some (.bool false)) (k:Ct n (∀a,Kd D a N l→p'.wp Tryz.prog Q a w)):Ct (n+1) (∀a,Kd D a N l→(Code.cond x p p').wp Tryz.prog Q a w):=⟨fun a K=>aBg K hc (k.1 a K)⟩
theorem Eb {O:Exit→Act→World→Prop} {i:Nat} {rem:List Nat} {m:Nat} (k:Ct n (∀a,Kd D a N ((d,v)::l)→DI Tryz.prog O ops (fun w=>Mem base W w L) (sY f) (nA f) R m rem a w)) (ho:ops[i]? = some o:=by exact rfl) (h:SxQ base W L D N ops l o d v:=by exact stQ) (hc:((i::rem).elem i&&sY f i&&Sv ops (i::rem) i&&(i::rem).erase i==rem)=true:=by kernel_rfl):Ct (n+1) (∀a,Kd D a N l→DI Tryz.prog O ops (fun w=>Mem base W w L) (sY f) (nA f) R (m+1) (i::rem) a w):=⟨fun a K=>by
 cases h.2.2 with
 | yes hw hr=>exact jR i rem hc ho K (hw a K) h.1 h.2.1 (hr a K) k.1
 | no hw hv=>subst hv;exact aI7 i rem hc ho K (hw a K) h.1 h.2.1 k.1⟩
theorem Ec {O:Exit→Act→World→Prop} {S:World→Prop} (k:Ct n (∀a,Kd D a N l→R a w)):Ct (n+1) (∀a,Kd D a N l→DI Tryz.prog O ops S (sY f) (nA f) R 0 [] a w):=⟨fun a K=>VL (k.1 a K)⟩
theorem gcE (hc:kX l x=some (.bool b)) (k1:b=true→∀a,Kd D a N l→p.wp Tryz.prog Q a w) (k2:b=false→∀a,Kd D a N l→p'.wp Tryz.prog Q a w):Ct 0 (∀a,Kd D a N l→(Code.cond x p p').wp Tryz.prog Q a w):=⟨fun a K=>s9 K hc (fun hb=>k1 hb a K) (fun hb=>k2 hb a K)⟩
theorem gkE {G:Act→Prop} (s:Nat) (hs:Cd l s=some (.bool b)) (k1:b=true→∀a,Kd D a N ((s,.bool true)::l)→G a) (k2:b=false→∀a,Kd D a N ((s,.bool false)::l)→G a):Ct 0 (∀a,Kd D a N l→G a):=⟨fun a K=>by
 rcases Bool.eq_false_or_eq_true b with hb | hb
 · exact k1 hb a (K.reb hs hb)
 · exact k2 hb a (K.reb hs hb)⟩
theorem gE {fn:Func} {code:Code} {fid:FuncId} {args:Array Value} {Rp:Ending→World→Prop} (hf:Tryz.prog.funcs[fid]? = some fn) (hN:fn.ntmps=N) (k:Mem w.heap.size w w []→∀a,Kn a N (L1 0 args.toList)→code.wp Tryz.prog (bodyPost Tryz.prog fn Rp) a w) (hb:fn.body=some code:=by exact rfl) (hs:Nat.ble args.size N=true:=by exact rfl):Calls Tryz.prog fid args w Rp:=uR hf hb hN hs (k (Mem.start w))
theorem ME (M:Mem base W w L) (K:Kd D a N l) (i:Nat) (ho:o.op = .store t x y:=by exact rfl) (ht:Fg Tryz.prog t n=true:=by exact LP.out) (hx:kX l x=some (.pointer (some ⟨g,0,none⟩)):=by exact rfl) (hi:L[i]? = some (.blk g t' cs):=by exact rfl) (hy:kX l y=some (.agg ds.toArray):=by exact rfl) (h1:ds.all (·.oneCell')=true:=by exact rfl) (hn:ds.length=n:=by exact rfl) (hl:cs.length=n:=by exact rfl):Ac Tryz.prog o a w fun _ w'=>Mem base W w' (L.set i (.blk g t' ds)):=bF ho ht K hx hy h1 i M hi hn hl
theorem MF (M:Mem base W w L) (K:Kd D a N l) (i:Nat) (ho:o.op = .store t x y:=by exact rfl) (ht:OL Tryz.prog t=true:=by exact LO.out) (hx:kX l x=some (.pointer (some ⟨g,off,none⟩)):=by exact rfl) (hi:L[i]? = some (.blk g t' cs):=by exact rfl) (hy:kX l y=some v:=by exact rfl) (h1:v.oneCell'=true:=by exact rfl) (hl:Nat.blt off cs.length=true:=by exact rfl):Ac Tryz.prog o a w fun _ w'=>Mem base W w' (L.set i (.blk g t' (cs.set off v))):=bM ho ht K hx hy h1 i M hi hl
theorem Mem.nQ (M:Mem base W w L):Mem base W w []:=M.pick [] (by decide)
theorem Mem.oQ {e:pY} (M:Mem base W w (e::L)):Mem base W w [e]:=M.pick [0] (by decide)
theorem aJh (M:Mem base W w L) (K:Kd D a N l) (ho:o.op = .box t x:=by exact rfl) (hx:kX l x=some (.agg ds.toArray):=by exact rfl) (hc:(Value.agg ds.toArray).cells=ds.toArray:=by exact rfl):Ac Tryz.prog o a w fun v w'=>∃g,v = .pointer (some ⟨g,0,none⟩)∧Mem base W w' (.blk g t ds::L):=Ju ho K hx hc M
theorem aJi (M:Mem base W w L) (K:Kd D a N l) (ho:o.op = .box t x:=by exact rfl) (hx:kX l x=some v:=by exact rfl) (hc:v.cells=[v].toArray:=by exact rfl):Ac Tryz.prog o a w fun v' w'=>∃g,v' = .pointer (some ⟨g,0,none⟩)∧Mem base W w' (.blk g t [v]::L):=Ju ho K hx hc M
theorem gfE {post:Value→World→Prop} {fi:FuncId} {vs:List Value} {args:Array Operand} {ts:Array TypeId} (X:Calls Tryz.prog fi vs.toArray w fun e w'=>∃v,e = .returned v∧post v w') (k:∀v w',post v w'→∀a,Kd D a N ((d,v)::l)→wpList Tryz.prog ops Q rest a w') (hf:kY Tryz.prog fi=true:=by exact nX.out) (hd:o.dst=some d:=by exact rfl) (hN:Nat.blt d N=true:=by exact rfl) (ho:o.op = .call { callee:=.value x,args:=args,argTypes:=ts }:=by exact rfl) (hx:kX l x=some (.func (.func fi) #[] #[]):=by exact rfl) (hargs:args.toList.map (kX l)=vs.map some:=by exact rfl) (hw:∀a,Kd D a N l→Region.wanted o (yielded ops a.tmps)=true:=by first | exact fun a K=>aB rfl | exact fun a K=>K.yes rfl rfl rfl):∀a,Kd D a N l→wpList Tryz.prog ops Q (o::rest) a w:=fun a K=>aD1 K (hw a K) hd hN (sC hf K X ho hx hargs) fun v a w' hp K=>k v w' hp a K
end
theorem aG (n:Nat) {q p:Prop} (k:q) (H:Hq q→Ct n p:=by
 intro k
 (repeat (first
 | with_reducible (first | refine Ah ?_ | refine D2 ?_ | refine D3 ?_ | refine D4 ?_ | refine Ai ?_ | refine Aj ?_ | refine vP ?_ | refine Am ?_ | refine Al ?_ | refine D5 ?_ | refine D6 ?_ | refine D7 ?_ | refine vQ ?_ | refine Ak ?_ | refine D1 ?_)
 | refine D8 (by decide) ?_
 | refine DY M ?_
 | refine D0 ?_
 | refine DZ ?_
 | refine Eb ?_
 | refine Ec ?_
 | refine D9 rfl ?_
 | refine Ea rfl ?_))
 exact (⟨k.out⟩:Ct 0 _)):p:=(H ⟨k⟩).out
theorem gnE {base:Nat} {W w:World} {L:List pY} {D:List Deferred} {N:Nat} {l:List (Nat × Value)} {ops:Array Oper} {Q:Exit→Act→World→Prop} {rest:List Oper} {o:Oper} {d:Nat} {k:IntKind} {m n:Int} (hx:m=n) (M:Mem base W w L) (kk:∀a,Kd D a N ((d,.int k n)::l)→wpList Tryz.prog ops Q rest a w) (hr:∀a,Kd D a N l→Rd Tryz.prog (fun w=>Mem base W w L) a o (.int k m):=by intro a K;exact (by first | exact vU rfl K rfl | exact Ad rfl K rfl rfl | exact GS rfl K rfl rfl | exact Es rfl K rfl rfl | exact J4 rfl rfl IkI.out K rfl | exact H5 rfl K rfl rfl | exact bX rfl K rfl | exact rxQ K | exact H8 rfl K rfl rfl | exact H7 rfl K rfl rfl)) (hw:∀a,Kd D a N l→Region.wanted o (yielded ops a.tmps)=true:=by first | exact fun a K=>aB rfl | exact fun a K=>K.yes rfl rfl rfl) (hd:o.dst=some d:=by exact rfl) (hN:Nat.blt d N=true:=by exact rfl):∀a,Kd D a N l→wpList Tryz.prog ops Q (o::rest) a w:=bQ (fun a K=>RH hx (hr a K)) M kk hw hd hN
theorem nS (n:Nat) {e x:Int} (hx:e=x) {q p:Prop} (k:q) (H:e=x→Hq q→Ct n p:=by
 intro hx k
 (repeat (first
 | with_reducible (first | refine Ah ?_ | refine D2 ?_ | refine D3 ?_ | refine D4 ?_ | refine Ai ?_ | refine Aj ?_ | refine vP ?_ | refine Am ?_ | refine Al ?_ | refine D5 ?_ | refine D6 ?_ | refine D7 ?_ | refine vQ ?_ | refine Ak ?_ | refine D1 ?_)
 | refine D8 (by decide) ?_
 | refine DY M ?_
 | refine D0 ?_
 | refine DZ ?_
 | refine Eb ?_
 | refine Ec ?_
 | refine D9 rfl ?_
 | refine Ea rfl ?_))
 refine (⟨?_⟩:Ct 0 _)
 exact gnE hx M k.out):p:=(H hx ⟨k⟩).out
theorem aJj {base:Nat} {W w:World} {L:List pY} {D:List Deferred} {N:Nat} {l:List (Nat × Value)} {ops:Array Oper} {rest:List Oper} {R:Act→World→Prop} {o:Oper} {d:Nat} {k:IntKind} {m n:Int} (hx:m=n) (kk:∀a,Kd D a N ((d,.int k n)::l)→rT Tryz.prog ops (fun w=>Mem base W w L) R (marked [] rest) a w) (hr:∀a,Kd D a N l→Rd Tryz.prog (fun w=>Mem base W w L) a o (.int k m):=by intro a K;exact (by first | exact vU rfl K rfl | exact Ad rfl K rfl rfl | exact GS rfl K rfl rfl | exact Es rfl K rfl rfl | exact J4 rfl rfl IkI.out K rfl | exact H5 rfl K rfl rfl | exact bX rfl K rfl | exact rxQ K | exact H8 rfl K rfl rfl | exact H7 rfl K rfl rfl)) (hw:∀a,Kd D a N l→Region.wanted o (yielded ops a.tmps)=true:=by first | exact fun a K=>aB rfl | exact fun a K=>K.yes rfl rfl rfl) (hd:o.dst=some d:=by exact rfl) (hN:Nat.blt d N=true:=by exact rfl):∀a,Kd D a N l→rT Tryz.prog ops (fun w=>Mem base W w L) R (marked [] (o::rest)) a w:=eC (f:=[]) (fun a K=>RH hx (hr a K)) kk hw hd hN
theorem aJk {base:Nat} {W w:World} {L:List pY} {D:List Deferred} {N:Nat} {l:List (Nat × Value)} {ops:Array Oper} {rest:List Oper} {f:List Nat} {R:Act→World→Prop} {o:Oper} {d:Nat} {k:IntKind} {m n:Int} (hx:m=n) (kk:∀a,Kd D a N ((d,.int k n)::l)→rT Tryz.prog ops (fun w=>Mem base W w L) R (marked f rest) a w) (hr:∀a,Kd D a N l→Rd Tryz.prog (fun w=>Mem base W w L) a o (.int k m):=by intro a K;exact (by first | exact vU rfl K rfl | exact Ad rfl K rfl rfl | exact GS rfl K rfl rfl | exact Es rfl K rfl rfl | exact J4 rfl rfl IkI.out K rfl | exact H5 rfl K rfl rfl | exact bX rfl K rfl | exact rxQ K | exact H8 rfl K rfl rfl | exact H7 rfl K rfl rfl)) (hw:∀a,Kd D a N l→Region.wanted o (yielded ops a.tmps)=true:=by first | exact fun a K=>aB rfl | exact fun a K=>K.yes rfl rfl rfl) (hd:o.dst=some d:=by exact rfl) (hN:Nat.blt d N=true:=by exact rfl):∀a,Kd D a N l→rT Tryz.prog ops (fun w=>Mem base W w L) R (marked (0::f) (o::rest)) a w:=eC (f:=f) (fun a K=>RH hx (hr a K)) kk hw hd hN
theorem gmQ (n:Nat) {e x:Int} (hx:e=x) {q p:Prop} (k:q) (H:e=x→Hq q→Ct n p:=by
 intro hx k
 (repeat (first
 | with_reducible (first | refine Ah ?_ | refine D2 ?_ | refine D3 ?_ | refine D4 ?_ | refine Ai ?_ | refine Aj ?_ | refine vP ?_ | refine Am ?_ | refine Al ?_ | refine D5 ?_ | refine D6 ?_ | refine D7 ?_ | refine vQ ?_ | refine Ak ?_ | refine D1 ?_)
 | refine D8 (by decide) ?_
 | refine DY M ?_
 | refine D0 ?_
 | refine DZ ?_
 | refine Eb ?_
 | refine Ec ?_
 | refine D9 rfl ?_
 | refine Ea rfl ?_))
 refine (⟨?_⟩:Ct 0 _)
 first | exact aJj hx k.out | exact aJk hx k.out):p:=(H hx ⟨k⟩).out
theorem Uv (n:Nat) {q p:Prop} (k:q) (H:Hq q→Ct n p:=by
 intro k
 (repeat (first
 | with_reducible (first | refine Ah ?_ | refine D2 ?_ | refine D3 ?_ | refine D4 ?_ | refine Ai ?_ | refine Aj ?_ | refine vP ?_ | refine Am ?_ | refine Al ?_ | refine D5 ?_ | refine D6 ?_ | refine D7 ?_ | refine vQ ?_ | refine Ak ?_ | refine D1 ?_)
 | refine D8 (by decide) ?_
 | refine DY M ?_
 | refine D0 ?_
 | refine DZ ?_
 | refine Eb ?_
 | refine Ec ?_
 | refine D9 rfl ?_
 | refine Ea rfl ?_))
 refine (⟨?_⟩:Ct 0 _)
 intro a K
 refine aF (fun w=>Mem _ _ w _) [] (by kernel_rfl) (by kernel_rfl) M.drew ?_
 revert a;exact k.out):p:=(H ⟨k⟩).out
theorem dS (n:Nat) {b:Bool} {β:Type} {s t r:β} (h:cond b s t=r) {q1 q2 p:Prop} (k1:b=true→s=r→q1) (k2:b=false→t=r→q2) (H:Hq (b=true→q1)→Hq (b=false→q2)→Ct n p:=by
 intro k1 k2
 (repeat (first
 | with_reducible (first | refine Ah ?_ | refine D2 ?_ | refine D3 ?_ | refine D4 ?_ | refine Ai ?_ | refine Aj ?_ | refine vP ?_ | refine Am ?_ | refine Al ?_ | refine D5 ?_ | refine D6 ?_ | refine D7 ?_ | refine vQ ?_ | refine Ak ?_ | refine D1 ?_)
 | refine D8 (by decide) ?_
 | refine DY M ?_
 | refine D0 ?_
 | refine DZ ?_
 | refine Eb ?_
 | refine Ec ?_
 | refine D9 rfl ?_
 | refine Ea rfl ?_))
 exact gcE rfl k1.out k2.out):p:=(H ⟨fun hb=>k1 hb (oT hb h)⟩ ⟨fun hb=>k2 hb (jY hb h)⟩).out
structure Bx {α:Type} (x:α):Prop
theorem gkS {s:Nat} {D:List Deferred} {N:Nat} {l:List (Nat × Value)} {b:Bool} {G:Act→Prop} (_:Bx s) (k1:b=true→∀a,Kd D a N ((s,.bool true)::l)→G a) (k2:b=false→∀a,Kd D a N ((s,.bool false)::l)→G a) (hs:Cd l s=some (.bool b)):Ct 0 (∀a,Kd D a N l→G a):=gkE s hs k1 k2
theorem mF (n s:Nat) {b:Bool} {β:Type} {x t r:β} (h:cond b x t=r) {q1 q2 p:Prop} (k1:b=true→x=r→q1) (k2:b=false→t=r→q2) (H:Bx s→Hq (b=true→q1)→Hq (b=false→q2)→Ct n p:=by
 intro S0 k1 k2
 (repeat (first
 | with_reducible (first | refine Ah ?_ | refine D2 ?_ | refine D3 ?_ | refine D4 ?_ | refine Ai ?_ | refine Aj ?_ | refine vP ?_ | refine Am ?_ | refine Al ?_ | refine D5 ?_ | refine D6 ?_ | refine D7 ?_ | refine vQ ?_ | refine Ak ?_ | refine D1 ?_)
 | refine D8 (by decide) ?_
 | refine DY M ?_
 | refine D0 ?_
 | refine DZ ?_
 | refine Eb ?_
 | refine Ec ?_
 | refine D9 rfl ?_
 | refine Ea rfl ?_))
 exact gkS S0 k1.out k2.out rfl):p:=(H ⟨⟩ ⟨fun hb=>k1 hb (oT hb h)⟩ ⟨fun hb=>k2 hb (jY hb h)⟩).out
theorem jE (n:Nat) {Y q p:Prop} (X:Y) (k:q) (H:Y→Hq q→Ct n p:=by
 intro X k
 (repeat (first
 | with_reducible (first | refine Ah ?_ | refine D2 ?_ | refine D3 ?_ | refine D4 ?_ | refine Ai ?_ | refine Aj ?_ | refine vP ?_ | refine Am ?_ | refine Al ?_ | refine D5 ?_ | refine D6 ?_ | refine D7 ?_ | refine vQ ?_ | refine Ak ?_ | refine D1 ?_)
 | refine D8 (by decide) ?_
 | refine DY M ?_
 | refine D0 ?_
 | refine DZ ?_
 | refine Eb ?_
 | refine Ec ?_
 | refine D9 rfl ?_
 | refine Ea rfl ?_))
 refine (⟨?_⟩:Ct 0 _)
 refine gfE X ?_
 first | (rintro _ w ⟨rfl,Z⟩;have M:=M.call Z;clear Z;revert w;exact k.out) | (rintro _ w ⟨A,c,rfl,Z⟩;have M:=M.call Z;clear Z;revert w;revert A c;exact k.out) | (rintro _ w ⟨A,c,A2,c2,rfl,Z⟩;have M:=M.call Z;clear Z;revert w;revert A c A2 c2;exact k.out) | (rintro _ w ⟨A,c,A2,c2,A3,c3,rfl,Z⟩;have M:=M.call Z;clear Z;revert w;revert A c A2 c2 A3 c3;exact k.out) | (rintro _ w ⟨A,c,A2,c2,A3,c3,A4,c4,rfl,Z⟩;have M:=M.call Z;clear Z;revert w;revert A c A2 c2 A3 c3 A4 c4;exact k.out)):p:=(H X ⟨k⟩).out
theorem fK (n:Nat) {q p:Prop} (k:q) (H:Hq q→Ct n p:=by
 intro k
 (repeat (first
 | with_reducible (first | refine Ah ?_ | refine D2 ?_ | refine D3 ?_ | refine D4 ?_ | refine Ai ?_ | refine Aj ?_ | refine vP ?_ | refine Am ?_ | refine Al ?_ | refine D5 ?_ | refine D6 ?_ | refine D7 ?_ | refine vQ ?_ | refine Ak ?_ | refine D1 ?_)
 | refine D8 (by decide) ?_
 | refine DY M ?_
 | refine D0 ?_
 | refine DZ ?_
 | refine Eb ?_
 | refine Ec ?_
 | refine D9 rfl ?_
 | refine Ea rfl ?_))
 refine (⟨?_⟩:Ct 0 _)
 intro a K
 first | (refine sN K (aJi M K) ?_;rintro _ a w ⟨g,rfl,M⟩ K;revert a;revert w;revert g;exact k.out) | (refine sN K (aJh M K) ?_;rintro _ a w ⟨g,rfl,M⟩ K;revert a;revert w;revert g;exact k.out) | (refine sN K (eK rfl Is.out M) ?_;rintro _ a w ⟨g,rfl,M⟩ K;revert a;revert w;revert g;exact k.out)):p:=(H ⟨k⟩).out
theorem fL (n:Nat) {q p:Prop} (k:q) (H:Hq q→Ct n p:=by
 intro k
 (repeat (first
 | with_reducible (first | refine Ah ?_ | refine D2 ?_ | refine D3 ?_ | refine D4 ?_ | refine Ai ?_ | refine Aj ?_ | refine vP ?_ | refine Am ?_ | refine Al ?_ | refine D5 ?_ | refine D6 ?_ | refine D7 ?_ | refine vQ ?_ | refine Ak ?_ | refine D1 ?_)
 | refine D8 (by decide) ?_
 | refine DY M ?_
 | refine D0 ?_
 | refine DZ ?_
 | refine Eb ?_
 | refine Ec ?_
 | refine D9 rfl ?_
 | refine Ea rfl ?_))
 refine (⟨?_⟩:Ct 0 _)
 intro a K
 first | refine CO K (ME M K 0) ?_ | refine CO K (MF M K 0) ?_ | refine CO K (ME M K 1) ?_ | refine CO K (MF M K 1) ?_ | refine CO K (ME M K 2) ?_ | refine CO K (MF M K 2) ?_ | refine CO K (ME M K 3) ?_ | refine CO K (MF M K 3) ?_ | refine CO K (ME M K 4) ?_ | refine CO K (MF M K 4) ?_ | refine CO K (ME M K 5) ?_ | refine CO K (MF M K 5) ?_ | refine CO K (ME M K 6) ?_ | refine CO K (MF M K 6) ?_ | refine CO K (ME M K 7) ?_ | refine CO K (MF M K 7) ?_ | refine CO K (ME M K 8) ?_ | refine CO K (MF M K 8) ?_ | refine CO K (ME M K 9) ?_ | refine CO K (MF M K 9) ?_ | refine CO K (ME M K 10) ?_ | refine CO K (MF M K 10) ?_ | refine CO K (ME M K 11) ?_ | refine CO K (MF M K 11) ?_
 rintro _ a w M K;revert a;revert w;exact k.out):p:=(H ⟨k⟩).out
theorem Ed {p:Prop} (h:p:=by first | exact f7 K rfl | exact gB K rfl LP.out (M.bN (i:=0) rfl) rfl | exact uI K rfl LO.out (M.bN (i:=0) rfl) rfl | exact gB K rfl LP.out (M.bN (i:=1) rfl) rfl | exact uI K rfl LO.out (M.bN (i:=1) rfl) rfl | exact gB K rfl LP.out (M.bN (i:=2) rfl) rfl | exact uI K rfl LO.out (M.bN (i:=2) rfl) rfl | exact gB K rfl LP.out (M.bN (i:=3) rfl) rfl | exact uI K rfl LO.out (M.bN (i:=3) rfl) rfl | exact gB K rfl LP.out (M.bN (i:=4) rfl) rfl | exact uI K rfl LO.out (M.bN (i:=4) rfl) rfl | exact gB K rfl LP.out (M.bN (i:=5) rfl) rfl | exact uI K rfl LO.out (M.bN (i:=5) rfl) rfl | exact gB K rfl LP.out (M.bN (i:=6) rfl) rfl | exact uI K rfl LO.out (M.bN (i:=6) rfl) rfl | exact gB K rfl LP.out (M.bN (i:=7) rfl) rfl | exact uI K rfl LO.out (M.bN (i:=7) rfl) rfl | exact gB K rfl LP.out (M.bN (i:=8) rfl) rfl | exact uI K rfl LO.out (M.bN (i:=8) rfl) rfl | exact gB K rfl LP.out (M.bN (i:=9) rfl) rfl | exact uI K rfl LO.out (M.bN (i:=9) rfl) rfl | exact gB K rfl LP.out (M.bN (i:=10) rfl) rfl | exact uI K rfl LO.out (M.bN (i:=10) rfl) rfl | exact gB K rfl LP.out (M.bN (i:=11) rfl) rfl | exact uI K rfl LO.out (M.bN (i:=11) rfl) rfl):p:=h
theorem aJ (n:Nat) {Y p:Prop} (X:Y) (H:Y→Ct n p:=by
 intro X
 (repeat (first
 | with_reducible (first | refine Ah ?_ | refine D2 ?_ | refine D3 ?_ | refine D4 ?_ | refine Ai ?_ | refine Aj ?_ | refine vP ?_ | refine Am ?_ | refine Al ?_ | refine D5 ?_ | refine D6 ?_ | refine D7 ?_ | refine vQ ?_ | refine Ak ?_ | refine D1 ?_)
 | refine D8 (by decide) ?_
 | refine DY M ?_
 | refine D0 ?_
 | refine DZ ?_
 | refine Eb ?_
 | refine Ec ?_
 | refine D9 rfl ?_
 | refine Ea rfl ?_))
 refine (⟨?_⟩:Ct 0 _)
 intro a K
 cases h
 first | exact vK K rfl Ed  ⟨_,rfl,rfl,X⟩ | exact vK K rfl Ed  ⟨_,rfl,_,_,rfl,X⟩ | exact vK K rfl Ed  ⟨_,rfl,_,_,_,_,rfl,X⟩ | exact vK K rfl Ed  ⟨_,rfl,_,_,_,_,_,_,rfl,X⟩ | exact vK K rfl Ed  ⟨_,rfl,_,_,_,_,_,_,_,_,rfl,X⟩):p:=(H X).out
theorem eG (n:Nat) {Y p:Prop} (X:Y) (H:Y→Ct n p:=by
 intro X
 (repeat (first
 | with_reducible (first | refine Ah ?_ | refine D2 ?_ | refine D3 ?_ | refine D4 ?_ | refine Ai ?_ | refine Aj ?_ | refine vP ?_ | refine Am ?_ | refine Al ?_ | refine D5 ?_ | refine D6 ?_ | refine D7 ?_ | refine vQ ?_ | refine Ak ?_ | refine D1 ?_)
 | refine D8 (by decide) ?_
 | refine DY M ?_
 | refine D0 ?_
 | refine DZ ?_
 | refine Eb ?_
 | refine Ec ?_
 | refine D9 rfl ?_
 | refine Ea rfl ?_))
 refine (⟨?_⟩:Ct 0 _)
 intro a K
 cases h
 first | exact We K rfl Ed Ed  ⟨_,rfl,rfl,X⟩ | exact We K rfl Ed Ed  ⟨_,rfl,_,_,rfl,X⟩ | exact We K rfl Ed Ed  ⟨_,rfl,_,_,_,_,rfl,X⟩ | exact We K rfl Ed Ed  ⟨_,rfl,_,_,_,_,_,_,rfl,X⟩ | exact We K rfl Ed Ed  ⟨_,rfl,_,_,_,_,_,_,_,_,rfl,X⟩):p:=(H X).out
theorem aJL (n:Nat) {Y p:Prop} (X:Y) (H:Y→Ct n p:=by
 intro X
 (repeat (first
 | with_reducible (first | refine Ah ?_ | refine D2 ?_ | refine D3 ?_ | refine D4 ?_ | refine Ai ?_ | refine Aj ?_ | refine vP ?_ | refine Am ?_ | refine Al ?_ | refine D5 ?_ | refine D6 ?_ | refine D7 ?_ | refine vQ ?_ | refine Ak ?_ | refine D1 ?_)
 | refine D8 (by decide) ?_
 | refine DY M ?_
 | refine D0 ?_
 | refine DZ ?_
 | refine Eb ?_
 | refine Ec ?_
 | refine D9 rfl ?_
 | refine Ea rfl ?_))
 refine (⟨?_⟩:Ct 0 _)
 intro a K
 cases h
 first | exact Mw K rfl Ed Ed Ed  ⟨_,rfl,rfl,X⟩ | exact Mw K rfl Ed Ed Ed  ⟨_,rfl,_,_,rfl,X⟩ | exact Mw K rfl Ed Ed Ed  ⟨_,rfl,_,_,_,_,rfl,X⟩ | exact Mw K rfl Ed Ed Ed  ⟨_,rfl,_,_,_,_,_,_,rfl,X⟩ | exact Mw K rfl Ed Ed Ed  ⟨_,rfl,_,_,_,_,_,_,_,_,rfl,X⟩):p:=(H X).out
theorem aJM (n:Nat) {Y p:Prop} (X:Y) (H:Y→Ct n p:=by
 intro X
 (repeat (first
 | with_reducible (first | refine Ah ?_ | refine D2 ?_ | refine D3 ?_ | refine D4 ?_ | refine Ai ?_ | refine Aj ?_ | refine vP ?_ | refine Am ?_ | refine Al ?_ | refine D5 ?_ | refine D6 ?_ | refine D7 ?_ | refine vQ ?_ | refine Ak ?_ | refine D1 ?_)
 | refine D8 (by decide) ?_
 | refine DY M ?_
 | refine D0 ?_
 | refine DZ ?_
 | refine Eb ?_
 | refine Ec ?_
 | refine D9 rfl ?_
 | refine Ea rfl ?_))
 refine (⟨?_⟩:Ct 0 _)
 intro a K
 cases h
 first | exact aCI K rfl Ed Ed Ed Ed  ⟨_,rfl,rfl,X⟩ | exact aCI K rfl Ed Ed Ed Ed  ⟨_,rfl,_,_,rfl,X⟩ | exact aCI K rfl Ed Ed Ed Ed  ⟨_,rfl,_,_,_,_,rfl,X⟩ | exact aCI K rfl Ed Ed Ed Ed  ⟨_,rfl,_,_,_,_,_,_,rfl,X⟩ | exact aCI K rfl Ed Ed Ed Ed  ⟨_,rfl,_,_,_,_,_,_,_,_,rfl,X⟩):p:=(H X).out
theorem mR (n:Nat) {S:Type} (st:S) {Y p:Prop} (X:Y) (H:(∀{p q:S→Prop},p st→q st→∃s,p s∧q s)→Y→Ct n p:=by
 intro wt X
 (repeat (first
 | with_reducible (first | refine Ah ?_ | refine D2 ?_ | refine D3 ?_ | refine D4 ?_ | refine Ai ?_ | refine Aj ?_ | refine vP ?_ | refine Am ?_ | refine Al ?_ | refine D5 ?_ | refine D6 ?_ | refine D7 ?_ | refine vQ ?_ | refine Ak ?_ | refine D1 ?_)
 | refine D8 (by decide) ?_
 | refine DY M ?_
 | refine D0 ?_
 | refine DZ ?_
 | refine Eb ?_
 | refine Ec ?_
 | refine D9 rfl ?_
 | refine Ea rfl ?_))
 refine (⟨?_⟩:Ct 0 _)
 intro a K
 first | exact wt ⟨K.to,X⟩ h | exact wt ⟨_,_,K.to,X⟩ h | exact wt ⟨_,_,_,_,K.to,X⟩ h | exact wt ⟨_,_,_,_,_,_,K.to,X⟩ h | exact wt ⟨_,_,_,_,_,_,_,_,K.to,X⟩ h | exact wt ⟨_,_,_,_,_,_,_,_,_,_,K.to,X⟩ h):p:=(H (fun hp hq=>⟨st,hp,hq⟩) X).out
theorem pI (n:Nat) {F Y p:Prop} (f:F) (X:Y) (H:F→Y→Ct n p:=by
 intro f X
 (repeat (first
 | with_reducible (first | refine Ah ?_ | refine D2 ?_ | refine D3 ?_ | refine D4 ?_ | refine Ai ?_ | refine Aj ?_ | refine vP ?_ | refine Am ?_ | refine Al ?_ | refine D5 ?_ | refine D6 ?_ | refine D7 ?_ | refine vQ ?_ | refine Ak ?_ | refine D1 ?_)
 | refine D8 (by decide) ?_
 | refine DY M ?_
 | refine D0 ?_
 | refine DZ ?_
 | refine Eb ?_
 | refine Ec ?_
 | refine D9 rfl ?_
 | refine Ea rfl ?_))
 refine (⟨?_⟩:Ct 0 _)
 intro a K
 first | exact f _ _ ⟨K.to,X⟩ h | exact f _ _ ⟨_,_,K.to,X⟩ h | exact f _ _ ⟨_,_,_,_,K.to,X⟩ h | exact f _ _ ⟨_,_,_,_,_,_,K.to,X⟩ h | exact f _ _ ⟨_,_,_,_,_,_,_,_,K.to,X⟩ h | exact f _ _ ⟨_,_,_,_,_,_,_,_,_,_,K.to,X⟩ h):p:=(H f X).out
def LpT {St:Type} (Rel:St→Act→World→Prop) (id:Nat):Prop:=∀{Rt:Type} {P:Program} {Q:Exit→Act→World→Prop} {a:Act} {w:World} {kk:St→Option Rt} {lf:(St→Option Rt)→Nat→St→Option Rt} {r:Rt} {p:Code} {n:Nat} {st:St}
 (_:lf kk n st=some r) (_:∀kk st,lf kk 0 st=none) (_:Rel st a w) (_:∀st a w,Rel st a w→kk st=some r→Q (.exit id) a w)
 (_:∀(kk:St→Option Rt) n st a w,(∀st a w,Rel st a w→kk st=some r→Q (.exit id) a w)→Rel st a w→lf kk (n+1) st=some r→p.wp P (Exit.then (fun a w=>∃st,Rel st a w∧lf kk n st=some r) Q) a w),(Code.loop p).wp P Q a w
theorem sP (n id:Nat) {S:Type} (Rel:S→Act→World→Prop) {Y q1 q2 p:Prop} (X:Y) (k1:q1) (k2:q2) (H:LpT Rel id→Y→Hq q1→Hq q2→Ct n p:=by
 intro lp X k1 k2
 (repeat (first
 | with_reducible (first | refine Ah ?_ | refine D2 ?_ | refine D3 ?_ | refine D4 ?_ | refine Ai ?_ | refine Aj ?_ | refine vP ?_ | refine Am ?_ | refine Al ?_ | refine D5 ?_ | refine D6 ?_ | refine D7 ?_ | refine vQ ?_ | refine Ak ?_ | refine D1 ?_)
 | refine D8 (by decide) ?_
 | refine DY M ?_
 | refine D0 ?_
 | refine DZ ?_
 | refine Eb ?_
 | refine Ec ?_
 | refine D9 rfl ?_
 | refine Ea rfl ?_))
 refine (⟨?_⟩:Ct 0 _)
 intro a K
 refine lp h (fun _ _=>rfl) ?_ k1.out k2.out
 first | exact ⟨K.to,X⟩ | exact ⟨_,_,K.to,X⟩ | exact ⟨_,_,_,_,K.to,X⟩ | exact ⟨_,_,_,_,_,_,K.to,X⟩ | exact ⟨_,_,_,_,_,_,_,_,K.to,X⟩ | exact ⟨_,_,_,_,_,_,_,_,_,_,K.to,X⟩):p:=(H (fun h hz h0 hk rd=>aFT h hz h0 hk rd) X ⟨k1⟩ ⟨k2⟩).out
instance:GR 28 0 0:=⟨VN⟩
instance:GR 28 1 1:=⟨VO⟩
instance:GR 28 2 5:=⟨VP⟩
instance:GR 28 3 6:=⟨Na⟩
instance:GR 28 4 7:=⟨QU⟩
instance:GR 28 5 10:=⟨VQ⟩
instance:GR 28 6 19:=⟨aE⟩
instance:GR 28 7 20:=⟨VR⟩
instance:GR 31 0 0:=⟨G8⟩
instance:GR 31 1 1:=⟨aE⟩
instance:GR 31 2 2:=⟨FA⟩
instance:GR 34 0 0:=⟨aE⟩
instance:GR 34 1 1:=⟨aE⟩
instance:GR 34 2 2:=⟨VS⟩
instance:GR 37 0 0:=⟨QW⟩
instance:GR 37 1 1:=⟨aE⟩
instance:GR 37 2 2:=⟨aE⟩
instance:GR 37 3 3:=⟨aE⟩
instance:GR 37 4 4:=⟨QX⟩
instance:GR 37 5 5:=⟨aE⟩
instance:GR 37 6 6:=⟨aE⟩
instance:GR 37 7 7:=⟨aE⟩
instance:GR 42 0 0:=⟨Db⟩
instance:GR 42 1 1:=⟨Dc⟩
instance:GR 42 2 2:=⟨Dd⟩
instance:GR 47 0 0:=⟨aE⟩
instance:GR 47 1 1:=⟨aE⟩
instance:GR 83 0 0:=⟨aE⟩
instance:GR 83 1 1:=⟨aE⟩
instance:GR 83 2 2:=⟨aE⟩
instance:GR 92 0 0:=⟨aE⟩
instance:GR 92 1 1:=⟨aE⟩
instance:GR 203 0 0:=⟨aE⟩
instance:GR 204 0 0:=⟨aE⟩
instance:GR 205 0 0:=⟨aE⟩
instance:GR 206 0 0:=⟨aE⟩
instance:GR 207 0 0:=⟨aE⟩
instance:GR 208 0 0:=⟨aE⟩
instance:GR 209 0 0:=⟨aE⟩
instance:UnI 23:=⟨aCG⟩
instance:UnI 26:=⟨aE2⟩
instance:UnI 29:=⟨Um⟩
instance:UnI 32:=⟨NX⟩
instance:UnI 35:=⟨aI8⟩
instance:UnI 94:=⟨aJd⟩
instance:UnI 123:=⟨aGU⟩
instance:UnI 210:=⟨aDg⟩
instance:LO 3:=⟨jO⟩
instance:LO 4:=⟨aE⟩
instance:LO 5:=⟨sc5⟩
instance:LO 9:=⟨sc9⟩
instance:LO 23:=⟨ZS⟩
instance:LO 26:=⟨aGN⟩
instance:LO 29:=⟨Iq⟩
instance:LO 32:=⟨QV⟩
instance:LO 35:=⟨aE⟩
instance:LO 88:=⟨aE⟩
instance:LO 123:=⟨ZU⟩
instance:LO 212:=⟨aE⟩
instance:LO 316:=⟨aE⟩
instance:LP 22 4:=⟨aGL⟩
instance:LP 24 3:=⟨aGM⟩
instance:LP 25 9:=⟨aE⟩
instance:LP 28 21:=⟨aE3⟩
instance:LP 31 3:=⟨Cw⟩
instance:LP 34 3:=⟨uU⟩
instance:LP 37 28:=⟨aGO⟩
instance:LP 42 3:=⟨xV⟩
instance:LP 47 2:=⟨JO⟩
instance:LP 83 3:=⟨aGR⟩
instance:LP 84 27:=⟨aE⟩
instance:LP 92 2:=⟨Un⟩
instance:LP 96 2:=⟨aGT⟩
instance:Is 1 [.nilFunc]:=⟨z1⟩
instance:Is 2 [.int .i64 0]:=⟨z2⟩
instance:Is 3 [.int .i64 0]:=⟨z3⟩
instance:Is 4 [.bool false]:=⟨z4⟩
instance:Is 5 [.int .u8 0]:=⟨z5⟩
instance:Is 9 [.string (bs ([]:List UInt8))]:=⟨z9⟩
instance:Is 20 [.nilIface]:=⟨z20⟩
instance:Is 21 [.int .i32 0]:=⟨z21⟩
instance:Is 24 [.int .i64 0,.int .i64 0,.int .i64 0]:=⟨aE⟩
instance:Is 28 [.int .i64 0,.int .i64 0,.int .i64 0,.int .i64 0,.int .i64 0,.int .i64 0,.slice none 0 0,.int .i64 0,.int .i64 0,.int .i64 0,.int .i64 0,.int .i64 0,.int .i64 0,.int .i64 0,.int .i64 0,.int .i64 0,.int .i64 0,.int .i64 0,.int .i64 0,.slice none 0 0,.int .i64 0]:=⟨aE⟩
instance:Is 31 [.int .i64 0,.int .i64 0,.slice none 0 0]:=⟨z31⟩
instance:Is 34 [.int .i64 0,.int .i64 0,.slice none 0 0]:=⟨z34⟩
instance:Is 37 [.int .i64 0,.int .i64 0,.int .i64 0,.int .i64 0,.int .i64 0,.slice none 0 0,.slice none 0 0,.int .i64 0,.int .i64 0,.int .i64 0,.int .i64 0,.int .i64 0,.int .i64 0,.slice none 0 0,.int .i64 0,.int .i64 0,.int .i64 0,.int .i64 0,.int .i64 0,.int .i64 0,.int .i64 0,.int .i64 0,.int .i64 0,.int .i64 0,.int .i64 0,.int .i64 0,.slice none 0 0,.int .i64 0]:=⟨z37⟩
instance:Is 42 [.int .i64 0,.int .i64 0,.int .i64 0]:=⟨z42⟩
instance:Is 46 [.int .i64 0,.int .i64 0]:=⟨z46⟩
instance:Is 47 [.int .i64 0,.int .i64 0]:=⟨z47⟩
instance:Is 51 [.nilFunc]:=⟨z51⟩
instance:Is 70 [.nilFunc]:=⟨z70⟩
instance:Is 72 [.nilFunc]:=⟨z72⟩
instance:Is 83 [.bool false,.bool false,.bool false]:=⟨aE⟩
instance:Is 84 [.bool false,.bool false,.bool false,.bool false,.bool false,.bool false,.bool false,.bool false,.bool false,.bool false,.bool false,.bool false,.bool false,.bool false,.bool false,.bool false,.bool false,.bool false,.bool false,.bool false,.bool false,.bool false,.bool false,.bool false,.bool false,.bool false,.bool false]:=⟨aE⟩
instance:Is 88 [.nilFunc]:=⟨aE⟩
instance:Is 92 [.int .i64 0,.int .i64 0]:=⟨z92⟩
instance:Is 96 [.int .i64 0,.int .i64 0]:=⟨z96⟩
instance:Is 105 [.nilFunc]:=⟨z105⟩
instance:Is 116 [.nilFunc]:=⟨z116⟩
instance:Is 124 [.slice none 0 0]:=⟨z124⟩
instance:Is 127 [.nilFunc]:=⟨z127⟩
instance:Is 138 [.int .i64 0,.int .i64 0,.int .i64 0,.int .i64 0,.int .i64 0]:=⟨z138⟩
instance:Is 139 [.nilFunc]:=⟨z139⟩
instance:Is 146 [.pointer none]:=⟨z146⟩
instance:Is 164 [.nilFunc]:=⟨z164⟩
instance:Is 212 [.nilIface]:=⟨z212⟩
instance:Is 316 [.nilFunc]:=⟨aE⟩
instance:ON 27 [.int .i64 0,.int .i64 0,.int .i64 0,.int .i64 0,.int .i64 0,.int .i64 0,.slice none 0 0,.int .i64 0,.int .i64 0,.int .i64 0,.int .i64 0,.int .i64 0,.int .i64 0,.int .i64 0,.int .i64 0,.int .i64 0,.int .i64 0,.int .i64 0,.int .i64 0,.slice none 0 0,.int .i64 0]:=⟨by kernel_rfl⟩
instance:ON 28 [.int .i64 0,.int .i64 0,.int .i64 0,.int .i64 0,.int .i64 0,.int .i64 0,.slice none 0 0,.int .i64 0,.int .i64 0,.int .i64 0,.int .i64 0,.int .i64 0,.int .i64 0,.int .i64 0,.int .i64 0,.int .i64 0,.int .i64 0,.int .i64 0,.int .i64 0,.slice none 0 0,.int .i64 0]:=⟨by kernel_rfl⟩
instance:ON 30 [.int .i64 0,.int .i64 0,.slice none 0 0]:=⟨by kernel_rfl⟩
instance:ON 31 [.int .i64 0,.int .i64 0,.slice none 0 0]:=⟨by kernel_rfl⟩
instance:ON 33 [.int .i64 0,.int .i64 0,.slice none 0 0]:=⟨by kernel_rfl⟩
instance:ON 34 [.int .i64 0,.int .i64 0,.slice none 0 0]:=⟨by kernel_rfl⟩
instance:ON 36 [.int .i64 0,.int .i64 0,.int .i64 0,.int .i64 0,.int .i64 0,.slice none 0 0,.slice none 0 0,.int .i64 0,.int .i64 0,.int .i64 0,.int .i64 0,.int .i64 0,.int .i64 0,.slice none 0 0,.int .i64 0,.int .i64 0,.int .i64 0,.int .i64 0,.int .i64 0,.int .i64 0,.int .i64 0,.int .i64 0,.int .i64 0,.int .i64 0,.int .i64 0,.int .i64 0,.slice none 0 0,.int .i64 0]:=⟨by kernel_rfl⟩
instance:ON 37 [.int .i64 0,.int .i64 0,.int .i64 0,.int .i64 0,.int .i64 0,.slice none 0 0,.slice none 0 0,.int .i64 0,.int .i64 0,.int .i64 0,.int .i64 0,.int .i64 0,.int .i64 0,.slice none 0 0,.int .i64 0,.int .i64 0,.int .i64 0,.int .i64 0,.int .i64 0,.int .i64 0,.int .i64 0,.int .i64 0,.int .i64 0,.int .i64 0,.int .i64 0,.int .i64 0,.slice none 0 0,.int .i64 0]:=⟨by kernel_rfl⟩
instance:ON 46 [.int .i64 0,.int .i64 0]:=⟨by kernel_rfl⟩
instance:ON 47 [.int .i64 0,.int .i64 0]:=⟨by kernel_rfl⟩
instance:ON 82 [.bool false,.bool false,.bool false]:=⟨by kernel_rfl⟩
instance:ON 83 [.bool false,.bool false,.bool false]:=⟨by kernel_rfl⟩
instance:ON 92 [.int .i64 0,.int .i64 0]:=⟨by kernel_rfl⟩
instance:ON 202 [.int .i64 0,.int .i64 0,.int .i64 0,.int .i64 0,.int .i64 0,.int .i64 0,.slice none 0 0,.int .i64 0,.int .i64 0,.int .i64 0,.int .i64 0,.int .i64 0,.int .i64 0,.int .i64 0,.int .i64 0,.int .i64 0,.int .i64 0,.int .i64 0,.int .i64 0,.slice none 0 0,.int .i64 0]:=⟨by kernel_rfl⟩
instance:ON 203 [.int .i64 0,.int .i64 0,.int .i64 0,.int .i64 0,.int .i64 0,.int .i64 0,.slice none 0 0,.int .i64 0,.int .i64 0,.int .i64 0,.int .i64 0,.int .i64 0,.int .i64 0,.int .i64 0,.int .i64 0,.int .i64 0,.int .i64 0,.int .i64 0,.int .i64 0,.slice none 0 0,.int .i64 0]:=⟨by kernel_rfl⟩
instance:ON 204 [.int .i64 0,.int .i64 0,.int .i64 0,.int .i64 0,.int .i64 0,.int .i64 0,.slice none 0 0,.int .i64 0,.int .i64 0,.int .i64 0,.int .i64 0,.int .i64 0,.int .i64 0,.int .i64 0,.int .i64 0,.int .i64 0,.int .i64 0,.int .i64 0,.int .i64 0,.slice none 0 0,.int .i64 0]:=⟨by kernel_rfl⟩
instance:ON 205 [.int .i64 0,.int .i64 0,.int .i64 0,.int .i64 0,.int .i64 0,.int .i64 0,.slice none 0 0,.int .i64 0,.int .i64 0,.int .i64 0,.int .i64 0,.int .i64 0,.int .i64 0,.int .i64 0,.int .i64 0,.int .i64 0,.int .i64 0,.int .i64 0,.int .i64 0,.slice none 0 0,.int .i64 0]:=⟨by kernel_rfl⟩
instance:ON 206 [.int .i64 0,.int .i64 0,.int .i64 0,.int .i64 0,.int .i64 0,.int .i64 0,.slice none 0 0,.int .i64 0,.int .i64 0,.int .i64 0,.int .i64 0,.int .i64 0,.int .i64 0,.int .i64 0,.int .i64 0,.int .i64 0,.int .i64 0,.int .i64 0,.int .i64 0,.slice none 0 0,.int .i64 0]:=⟨by kernel_rfl⟩
instance:ON 207 [.int .i64 0,.int .i64 0,.int .i64 0,.int .i64 0,.int .i64 0,.int .i64 0,.slice none 0 0,.int .i64 0,.int .i64 0,.int .i64 0,.int .i64 0,.int .i64 0,.int .i64 0,.int .i64 0,.int .i64 0,.int .i64 0,.int .i64 0,.int .i64 0,.int .i64 0,.slice none 0 0,.int .i64 0]:=⟨by kernel_rfl⟩
instance:ON 208 [.int .i64 0,.int .i64 0,.int .i64 0,.int .i64 0,.int .i64 0,.int .i64 0,.slice none 0 0,.int .i64 0,.int .i64 0,.int .i64 0,.int .i64 0,.int .i64 0,.int .i64 0,.int .i64 0,.int .i64 0,.int .i64 0,.int .i64 0,.int .i64 0,.int .i64 0,.slice none 0 0,.int .i64 0]:=⟨by kernel_rfl⟩
instance:ON 209 [.int .i64 0,.int .i64 0,.int .i64 0,.int .i64 0,.int .i64 0,.int .i64 0,.slice none 0 0,.int .i64 0,.int .i64 0,.int .i64 0,.int .i64 0,.int .i64 0,.int .i64 0,.int .i64 0,.int .i64 0,.int .i64 0,.int .i64 0,.int .i64 0,.int .i64 0,.slice none 0 0,.int .i64 0]:=⟨by kernel_rfl⟩
instance:nX 9:=⟨aE⟩
instance:nX 10:=⟨aE⟩
instance:nX 11:=⟨aE⟩
instance:nX 12:=⟨aE⟩
instance:nX 13:=⟨aE⟩
instance:nX 14:=⟨aE⟩
instance:nX 15:=⟨SB⟩
instance:nX 16:=⟨aE⟩
instance:nX 17:=⟨aDh⟩
instance:nX 18:=⟨aE⟩
instance:nX 19:=⟨aE⟩
instance:nX 35:=⟨ZV⟩
instance:nX 36:=⟨aE⟩
instance:nX 37:=⟨ZW⟩
instance:nX 38:=⟨aE⟩
instance:nX 39:=⟨aE⟩
instance:nX 40:=⟨aE⟩
instance:nX 41:=⟨aE⟩
instance:nX 42:=⟨ZX⟩
instance:nX 43:=⟨ZY⟩
instance:nX 44:=⟨ZZ⟩
instance:nX 45:=⟨aE⟩
instance:nX 46:=⟨aE⟩
instance:nX 47:=⟨aDi⟩
instance:nX 48:=⟨aDj⟩
instance:nX 49:=⟨aDk⟩
instance:nX 50:=⟨aDl⟩
instance:nX 51:=⟨aE⟩
instance:nX 52:=⟨aE⟩
instance:nX 53:=⟨aE⟩
instance:nX 54:=⟨aDm⟩
instance:nX 55:=⟨aE⟩
instance:nX 56:=⟨aE⟩
instance:nX 57:=⟨aE⟩
instance:nX 58:=⟨aE⟩
instance:nX 59:=⟨aE⟩
instance:nX 60:=⟨PK⟩
instance:nX 61:=⟨aE⟩
instance:nX 62:=⟨aE⟩
instance:nX 63:=⟨aE⟩
instance:nX 64:=⟨SC⟩
instance:nX 65:=⟨VT⟩
instance:nX 66:=⟨Z0⟩
instance:nX 67:=⟨SD⟩
instance:nX 68:=⟨SE⟩
instance:nX 69:=⟨SF⟩
instance:nX 70:=⟨SG⟩
instance:nX 71:=⟨VU⟩
instance:nX 72:=⟨aDn⟩
instance:nX 73:=⟨aE⟩
instance:nX 74:=⟨Z1⟩
instance:nX 95:=⟨NY⟩
instance:nX 98:=⟨aDo⟩
instance:nX 100:=⟨aE⟩
instance:nX 105:=⟨LM⟩
instance:nX 107:=⟨JP⟩
instance:nX 108:=⟨Z2⟩
instance:nX 109:=⟨aE⟩
instance:nX 110:=⟨aE⟩
instance:nX 111:=⟨aE⟩
instance:nX 113:=⟨Uo⟩
instance:nX 114:=⟨QY⟩
instance:nX 115:=⟨aE⟩
instance:nX 116:=⟨QZ⟩
instance:nX 117:=⟨E2⟩
instance:nX 118:=⟨aE⟩
instance:nX 119:=⟨aE⟩
instance:nX 120:=⟨Z3⟩
instance:nX 121:=⟨aE⟩
instance:nX 122:=⟨aE⟩
instance:nX 123:=⟨aE⟩
instance:nX 124:=⟨aE⟩
instance:nX 125:=⟨aE⟩
instance:nX 126:=⟨Z4⟩
instance:nX 127:=⟨aE⟩
instance:nX 128:=⟨Z5⟩
instance:nX 129:=⟨aE⟩
instance:nX 130:=⟨aE⟩
instance:nX 131:=⟨aE⟩
instance:nX 132:=⟨Q4⟩
instance:nX 133:=⟨aE⟩
instance:nX 134:=⟨aE⟩
instance:nX 135:=⟨aE⟩
instance:nX 136:=⟨aE⟩
instance:nX 137:=⟨aE⟩
instance:nX 138:=⟨JQ⟩
instance:nX 139:=⟨Up⟩
instance:nX 140:=⟨aE⟩
instance:nX 141:=⟨B5⟩
instance:nX 142:=⟨LN⟩
instance:nX 143:=⟨Q5⟩
instance:nX 144:=⟨aE⟩
instance:nX 150:=⟨Z6⟩
instance:nX 157:=⟨aE⟩
instance:nX 158:=⟨Z7⟩
instance:nX 159:=⟨Z8⟩
instance:nX 160:=⟨aE⟩
instance:nX 161:=⟨Q6⟩
instance:nX 162:=⟨aE⟩
instance:nX 163:=⟨aE⟩
instance:nX 164:=⟨Z9⟩
instance:nX 165:=⟨aAa⟩
instance:nX 166:=⟨aAb⟩
instance:nX 168:=⟨aE⟩
instance:nX 169:=⟨aE⟩
instance:nX 170:=⟨aE⟩
instance:nX 171:=⟨aAc⟩
instance:nX 172:=⟨aE⟩
instance:nX 173:=⟨aE⟩
instance:nX 174:=⟨aAd⟩
instance:nX 175:=⟨aAe⟩
instance:nX 190:=⟨aE⟩
instance:nX 191:=⟨aE⟩
instance:nX 192:=⟨aAf⟩
instance:nX 193:=⟨aAg⟩
instance:nX 194:=⟨aE⟩
instance:nX 195:=⟨aE⟩
instance:nX 196:=⟨aE⟩
instance:nX 209:=⟨aAh⟩
instance:nX 265:=⟨aAi⟩
instance:nX 266:=⟨aE⟩
instance:nX 267:=⟨Uq⟩
instance:nX 268:=⟨aAj⟩
instance:nX 269:=⟨aAk⟩
instance:nX 270:=⟨aE⟩
instance:nX 271:=⟨Ur⟩
instance:nX 272:=⟨aAl⟩
instance:nX 273:=⟨aAm⟩
instance:nX 274:=⟨aE⟩
instance:nX 275:=⟨Q7⟩
instance:nX 276:=⟨aAn⟩
instance:nX 277:=⟨aE⟩
instance:nX 278:=⟨Us⟩
instance:nX 279:=⟨aAo⟩
instance:nX 280:=⟨aE⟩
instance:nX 281:=⟨Ut⟩
instance:nX 282:=⟨aAp⟩
instance:nX 283:=⟨aE⟩
instance:nX 284:=⟨Q8⟩
instance:nX 285:=⟨Uu⟩
instance:SlI 23 92 2 16:=⟨Gv⟩
instance:SlI 26 47 2 16:=⟨Ag⟩
instance:SlI 29 3 1 8:=⟨g9⟩
instance:SlI 32 42 3 24:=⟨kZ⟩
instance:SlI 35 9 1 16:=⟨AH⟩
instance:SlI 94 96 2 16:=⟨ZT⟩
instance:SlI 123 5 1 1:=⟨tX⟩
instance:SlI 210 212 1 16:=⟨Jc⟩
instance:IkI 3 .i64:=⟨ik3⟩
instance:IkI 5 .u8:=⟨Xz⟩
instance:IkI 154 .u64:=⟨aE⟩
instance:IkI 189 .u16:=⟨aE⟩
instance:StI 9:=⟨I3⟩
theorem It {N:Nat} {w0:World} {r:List (Int × Int)} (h:zA N  = some r) :
  Calls Tryz.prog 144 #[] w0 fun e w'=>∃v,e = .returned v∧∃A0 c0,v = .slice A0 r.length c0∧Mem w0.heap.size w0 w' [.row 47 2 A0 r.length c0 (hG.all r)]:=by
 refine gE Tryz.func144 Tryz.ntmps144 ?_;intro M;unfold zA at h;refine aG 8 ?_;refine bQ (fun _ K=>bG rfl K (vs:=[(0,I 65535),(1,I 65535)]) (cs:=[I 65535,I 65535]) rfl aE) M ?_;intro a K;refine sN K (dK rfl Ag z47 K (vs:=[(0,.agg #[I 0,I 0]),(1,.agg #[I 65535,I 65535])]) (cs:=[I 0,I 0,I 65535,I 65535]) rfl aE rfl rfl M) ?_;have M0:=M;clear K M;rintro _ a w ⟨gs,rfl,M⟩ K;replace M:=M.oI 0 rfl hG ([(0,0),(65535,65535)]:List (Int × Int)) (n:=2) rfl rfl rfl;clear M0;revert a;exact aJ 4 (M.pick [0] aD)
theorem uV {N:Nat} {w0:World} {r:Int × Int × Int × Int × Int × Int × List (Int × Int) × Int × Int × Int × Int × Int × Int × Int × Int × Int × Int × Int × Int × List (Int × Int) × Int} (h:pN N  = some r) :
  Calls Tryz.prog 72 #[] w0 fun e w'=>∃v,e = .returned v∧∃A6 c6 A19 c19,v = .agg #[I r.1,I r.2.1,I r.2.2.1,I r.2.2.2.1,I r.2.2.2.2.1,I r.2.2.2.2.2.1,.slice A6 r.2.2.2.2.2.2.1.length c6,I r.2.2.2.2.2.2.2.1,I r.2.2.2.2.2.2.2.2.1,I r.2.2.2.2.2.2.2.2.2.1,I r.2.2.2.2.2.2.2.2.2.2.1,I r.2.2.2.2.2.2.2.2.2.2.2.1,I r.2.2.2.2.2.2.2.2.2.2.2.2.1,I r.2.2.2.2.2.2.2.2.2.2.2.2.2.1,I r.2.2.2.2.2.2.2.2.2.2.2.2.2.2.1,I r.2.2.2.2.2.2.2.2.2.2.2.2.2.2.2.1,I r.2.2.2.2.2.2.2.2.2.2.2.2.2.2.2.2.1,I r.2.2.2.2.2.2.2.2.2.2.2.2.2.2.2.2.2.1,I r.2.2.2.2.2.2.2.2.2.2.2.2.2.2.2.2.2.2.1,.slice A19 r.2.2.2.2.2.2.2.2.2.2.2.2.2.2.2.2.2.2.2.1.length c19,I r.2.2.2.2.2.2.2.2.2.2.2.2.2.2.2.2.2.2.2.2]∧Mem w0.heap.size w0 w' [.row 92 2 A6 r.2.2.2.2.2.2.1.length c6 (hG.all r.2.2.2.2.2.2.1),.row 47 2 A19 r.2.2.2.2.2.2.2.2.2.2.2.2.2.2.2.2.2.2.2.1.length c19 (hG.all r.2.2.2.2.2.2.2.2.2.2.2.2.2.2.2.2.2.2.2.1)]:=by
 refine gE Tryz.func72 Tryz.ntmps72 ?_;intro M;unfold pN at h;refine fK 2 ?_;intro gW w M;refine aG 4 ?_;refine bQ (fun _ K=>bG rfl K (vs:=[(0,I 256),(1,I 256),(2,I 256)]) (cs:=[I 256,I 256,I 256]) rfl aE) M ?_;refine bQ (fun _ K=>bG rfl K (vs:=[(0,I 4096),(1,I 0),(2,I 0),(3,I 0),(4,I 4096),(5,I 0),(6,I 0),(7,I 0),(8,I 4096)]) (cs:=[I 4096,I 0,I 0,I 0,I 4096,I 0,I 0,I 0,I 4096]) rfl aE) M ?_;obtain ⟨r2,eR,h⟩:=aA h;refine jE 0 (It eR) ?_;intro A c w M;refine bQ (fun _ K=>bG rfl K (vs:=[(2,I 65535),(4,.agg #[I 256,I 256,I 256]),(5,.agg #[I 4096,I 0,I 0,I 0,I 4096,I 0,I 0,I 0,I 4096]),(6,.slice A r2.length c),(7,I 64)]) (cs:=[I 0,I 0,I 0,I 0,I 0,I 65535,.slice none (([]:List (Int × Int))).length 0,I 256,I 256,I 256,I 4096,I 0,I 0,I 0,I 4096,I 0,I 0,I 0,I 4096,.slice A r2.length c,I 64]) rfl aE) M ?_;refine fL 0 ?_;intro w M;exact aJ 3 (((Mem.aK 92 2 hG M)).pick [0,1] aD)
theorem An {N:Nat} {w0:World} {r:Int × Int × List Int} (h:s6 N  = some r) :
  Calls Tryz.prog 73 #[] w0 fun e w'=>∃v,e = .returned v∧∃A2 c2,v = .agg #[I r.1,I r.2.1,.slice A2 r.2.2.length c2]∧Mem w0.heap.size w0 w' [.row 3 1 A2 r.2.2.length c2 ((cI .i64).all r.2.2)]:=by
 refine gE Tryz.func73 Tryz.ntmps73 ?_;intro M;unfold s6 at h;refine fK 2 ?_;intro gW w M;refine aG 4 ?_;refine bQ (fun _ K=>bG rfl K (vs:=[(0,I 2),(1,I 12)]) (cs:=[I 2,I 12,.slice none ([]:List Int).length 0]) rfl aE) M ?_;refine fK 0 ?_;intro xK w M;refine fL 0 ?_;intro w M;refine aG 9 ?_;replace M:=Mem.aK 3 1 (cI .i64) M;refine sP 0 0 (fun (⟨eI,i⟩:List Int × Int) a w=>∃(A:Option Addr) (c:Nat),Kn a 17 [(0,.pointer (some ⟨gW,0,none⟩)),(1,.pointer (some ⟨xK,0,none⟩)),(2,I i)]∧Mem w0.heap.size w0 w [.row 3 1 A eI.length c ((cI .i64).all eI),.blk xK 31 [I 2,I 12,.slice A eI.length c],.blk gW 31 [I 0,I 0,.slice none ([]:List Int).length 0]]) (M.pick [0,1,2] aD) ?_ ?_
 ·clear M h;rintro ⟨aGr,i4⟩ a w ⟨A4,c4,K,M⟩ h;try dsimp only at h
  revert a;refine fL 5 ?_;intro w M;exact aJ 3 (M.pick [0] aD)
 clear M h;rintro kk fuel ⟨eI,i⟩ a w hk1 ⟨A,c,K,M⟩ h;unfold wX at h;revert a;refine dS 7 h ?_ ?_
 ·intro hb h;refine aG 9 ?_;refine bQ (fun _ K=>pX rfl K rfl rfl aD) M ?_;intro a K;refine sN K (dK rfl g9 z3 K (vs:=[(0,I (Int.tmod (IntKind.i64.wrap (i*1000)) 7919))]) (cs:=[I (Int.tmod (IntKind.i64.wrap (i*1000)) 7919)]) rfl aE rfl rfl M) ?_;have M0:=M;clear K M;rintro _ a w ⟨gs2,rfl,M⟩ K;replace M:=M.oI 0 rfl (cI .i64) ([Int.tmod (IntKind.i64.wrap (i*1000)) 7919]:List Int) (n:=1) rfl rfl rfl;clear M0;obtain ⟨aEn,aE5,h⟩:=aA h;refine sN K (jZ (C:=(cI .i64)) (xs:=eI) (ys:=([Int.tmod (IntKind.i64.wrap (i*1000)) 7919]:List Int)) rfl g9 rfl z3 rfl rfl K rfl rfl 1 M rfl ((hF (C:=(cI .i64)) 0 rfl rfl) _ M) aE5) ?_;clear K M;rintro _ a w ⟨A3,c3,rfl,M⟩ K;revert a;refine fL 1 ?_;intro w M;obtain ⟨i3,hx,h⟩:=dG h;refine nS 6 hx ?_;exact mR 2 (aEn,i3) (M.pick [1,2,3] aD)
 intro hb h;exact pI 3 (hk1 (eI,i)) (M.pick [0,1,2] aD)
theorem pC {N:Nat} {s:List (Int × Int × Int)} {H4:Option Addr} {Jd:Nat} {w0:World} {r:List (Int × Int × Int)} (h:iN N s=some r) (L9:SL w0 aN H4 s) (XA:s.length≤Jd) :
  Calls Tryz.prog 114 #[.slice H4 s.length Jd] w0 fun e w'=>∃v,e = .returned v∧∃A0 c0,v = .slice A0 r.length c0∧Mem w0.heap.size w0 w' [.row 42 3 A0 r.length c0 (aN.all r)]:=by
 refine gE Tryz.func114 Tryz.ntmps114 ?_;intro M;unfold iN at h;refine aG 9 ?_
 by_cases hA:(H4).isNone=true
 ·have hs:=SL.Kp L9 hA;replace h:some ([]:List (Int × Int × Int))=some r:=by rw [hs] at h;exact h
  clear hs;refine bQ (fun _ K=>Tj (b':=true) hA (Bw rfl NX K rfl rfl)) M ?_;exact aJ 10 (((Mem.aK 42 3 aN M)).pick [0] aD)
 refine bQ (fun _ K=>Tj (b':=false) ((Bool.not_eq_true _).mp hA) (Bw rfl NX K rfl rfl)) M ?_;refine aG 7 ?_;intro a K;refine sN K (vF (C:=aN) rfl kZ rfl K M) ?_;clear K M;rintro _ a w ⟨gs,rfl,M⟩ K;revert a;obtain ⟨l2,uH,h⟩:=aA h;refine aG 1 ?_;intro a K;refine sN K (jZ (C:=aN) (xs:=([]:List (Int × Int × Int))) (ys:=s) rfl kZ rfl z42 rfl rfl K rfl rfl 0 M rfl ((bE L9) _ M) uH) ?_;clear K M;rintro _ a w ⟨A,c,rfl,M⟩ K;revert a;exact aJ 4 (M.pick [0] aD)
theorem BH {N:Nat} {s:List (Int × Int)} {H4:Option Addr} {Jd:Nat} {w0:World} {r:List (Int × Int)} (h:jN N s=some r) (L9:SL w0 hG H4 s) (XA:s.length≤Jd) :
  Calls Tryz.prog 49 #[.slice H4 s.length Jd] w0 fun e w'=>∃v,e = .returned v∧∃A0 c0,v = .slice A0 r.length c0∧Mem w0.heap.size w0 w' [.row 92 2 A0 r.length c0 (hG.all r)]:=by
 refine gE Tryz.func49 Tryz.ntmps49 ?_;intro M;unfold jN at h;refine aG 9 ?_
 by_cases hA:(H4).isNone=true
 ·have hs:=SL.Kp L9 hA;replace h:some ([]:List (Int × Int))=some r:=by rw [hs] at h;exact h
  clear hs;refine bQ (fun _ K=>Tj (b':=true) hA (Bw rfl aCG K rfl rfl)) M ?_;exact aJ 10 (((Mem.aK 92 2 hG M)).pick [0] aD)
 refine bQ (fun _ K=>Tj (b':=false) ((Bool.not_eq_true _).mp hA) (Bw rfl aCG K rfl rfl)) M ?_;refine aG 7 ?_;intro a K;refine sN K (vF (C:=hG) rfl Gv rfl K M) ?_;clear K M;rintro _ a w ⟨gs,rfl,M⟩ K;revert a;obtain ⟨l2,uH,h⟩:=aA h;refine aG 1 ?_;intro a K;refine sN K (jZ (C:=hG) (xs:=([]:List (Int × Int))) (ys:=s) rfl Gv rfl z92 rfl rfl K rfl rfl 0 M rfl ((bE L9) _ M) uH) ?_;clear K M;rintro _ a w ⟨A,c,rfl,M⟩ K;revert a;exact aJ 4 (M.pick [0] aD)
theorem AI {N:Nat} {s:List (Int × Int)} {H4:Option Addr} {Jd:Nat} {w0:World} {r:List (Int × Int)} (h:iO N s=some r) (L9:SL w0 hG H4 s) (XA:s.length≤Jd) :
  Calls Tryz.prog 50 #[.slice H4 s.length Jd] w0 fun e w'=>∃v,e = .returned v∧∃A0 c0,v = .slice A0 r.length c0∧Mem w0.heap.size w0 w' [.row 47 2 A0 r.length c0 (hG.all r)]:=by
 refine gE Tryz.func50 Tryz.ntmps50 ?_;intro M;unfold iO at h;refine aG 9 ?_
 by_cases hA:(H4).isNone=true
 ·have hs:=SL.Kp L9 hA;replace h:some ([]:List (Int × Int))=some r:=by rw [hs] at h;exact h
  clear hs;refine bQ (fun _ K=>Tj (b':=true) hA (Bw rfl aE2 K rfl rfl)) M ?_;exact aJ 10 (((Mem.aK 47 2 hG M)).pick [0] aD)
 refine bQ (fun _ K=>Tj (b':=false) ((Bool.not_eq_true _).mp hA) (Bw rfl aE2 K rfl rfl)) M ?_;refine aG 7 ?_;intro a K;refine sN K (vF (C:=hG) rfl Ag rfl K M) ?_;clear K M;rintro _ a w ⟨gs,rfl,M⟩ K;revert a;obtain ⟨l2,uH,h⟩:=aA h;refine aG 1 ?_;intro a K;refine sN K (jZ (C:=hG) (xs:=([]:List (Int × Int))) (ys:=s) rfl Ag rfl z47 rfl rfl K rfl rfl 0 M rfl ((bE L9) _ M) uH) ?_;clear K M;rintro _ a w ⟨A,c,rfl,M⟩ K;revert a;exact aJ 4 (M.pick [0] aD)
theorem Je {N:Nat} {gD jA:Int} {eI:List Int} {dW:Option Addr} {dX:Nat} {w0:World} {r:Bool} (h:xI N gD jA eI=some r) (jW:SL w0 (cI .i64) dW eI) (rF:eI.length≤dX) :
  Calls Tryz.prog 110 #[.agg #[I gD,I jA,.slice dW eI.length dX]] w0 fun e w'=>∃v,e = .returned v∧v = .bool r∧Mem w0.heap.size w0 w' []:=by
 refine gE Tryz.func110 Tryz.ntmps110 ?_;intro M;unfold xI at h;refine fK 2 ?_;intro xK w M;refine mF 10 8 h ?_ ?_
 ·intro hb h;exact aJ 35 (M.pick [] aD)
 intro hb h;refine mF 5 13 h ?_ ?_
 ·intro hb h;exact aJ 30 (M.pick [] aD)
 intro hb h;refine mF 5 18 h ?_ ?_
 ·intro hb h;exact aJ 25 (M.pick [] aD)
 intro hb h;refine mF 5 23 h ?_ ?_
 ·intro hb h;exact aJ 20 (M.pick [] aD)
 intro hb h;refine dS 12 h ?_ ?_
 ·intro hb h;exact aJ 7 (M.pick [] aD)
 intro hb h;refine sP 12 0 (fun (i:Int) a w=>Kn a 48 [(35,.slice dW eI.length dX),(36,I (eI.length:Int)),(37,I i)]∧Mem w0.heap.size w0 w []) M.nQ ?_ ?_
 ·clear M h;rintro i2 a w ⟨K,M⟩ h;try dsimp only at h
  revert a;exact aJ 8 (M.pick [] aD)
 clear M h;rintro kk fuel i a w hk1 ⟨K,M⟩ h;unfold tO at h;revert a;refine dS 6 h ?_ ?_
 ·intro hb h;obtain ⟨e2,lV,h⟩:=aA h;refine aG 6 ?_;refine bQ (fun _ K=>fP rfl g9 K rfl rfl (bE jW) lV) M ?_;refine bQ (fun _ K=>fM rfl jO K rfl rfl (bE jW) lV rfl) M ?_;refine mF 8 43 h ?_ ?_
  ·intro hb h;exact aJ 17 (M.pick [] aD)
  intro hb h;refine dS 5 h ?_ ?_
  ·intro hb h;exact aJ 11 (M.pick [] aD)
  intro hb h;exact mR 8 (IntKind.i64.wrap (i+1)) M.nQ
 intro hb h;exact pI 3 (hk1 i) M.nQ
theorem Gw {N:Nat} {n x2 y Tl Tm Tn Ya v1:Int} {uC G9:Nat} {w0:World} {r:Int} (h:vX N n x2 y Tl Tm Tn Ya v1=some r) (wZ:jM w0 uC 22 #[I Tl,I Tm,I Tn,I Ya]) (NZ:jM w0 G9 3 #[I v1]) :
  Calls Tryz.prog 267 #[I n,I x2,I y,.pointer (some ⟨uC,0,none⟩),.pointer (some ⟨G9,0,none⟩)] w0 fun e w'=>∃v,e = .returned v∧v=I r∧Mem w0.heap.size w0 w' []:=by
 refine gE Tryz.func267 Tryz.ntmps267 ?_;intro M;unfold vX at h;refine aG 9 ?_;refine bQ (fun _ K=>AT rfl K rfl rfl aD) M ?_;refine aG 2 ?_;refine bQ (fun _ K=>XS rfl K rfl rfl) M ?_;obtain ⟨_,h0,h⟩:=aA h;have h0:=mN h0;refine bQ (fun _ K=>dL rfl OX uF K rfl rfl h0.1 h0.2) M ?_;obtain ⟨e,IR,h⟩:=aA h;refine bQ (fun _ K=>pT rfl jO K rfl (Du wZ) rfl rfl IR) M ?_;obtain ⟨_,h0,h⟩:=aA h;have h0:=dJ h0;refine aG 13 ?_;refine bQ (fun _ K=>gX rfl K rfl rfl h0) M ?_;exact aJ 4 (M.pick [] aD)
theorem Dn {N:Nat} {gD jA:Int} {eI:List Int} {dW:Option Addr} {dX:Nat} {AV AW AX AY CD:Int} {Bz BA:Nat} {w0:World} {r:Int × Int × List Int} (h:oM N gD jA eI AV AW AX AY CD=some r) (jW:SL w0 (cI .i64) dW eI) (rF:eI.length≤dX) (Jf:jM w0 Bz 22 #[I AV,I AW,I AX,I AY]) (Jg:jM w0 BA 3 #[I CD]) :
  Calls Tryz.prog 111 #[.agg #[I gD,I jA,.slice dW eI.length dX],.func (.func 267) #[] #[.pointer (some ⟨Bz,0,none⟩),.pointer (some ⟨BA,0,none⟩)]] w0 fun e w'=>∃v,e = .returned v∧∃A2 c2,v = .agg #[I r.1,I r.2.1,.slice A2 r.2.2.length c2]∧Mem w0.heap.size w0 w' [.row 3 1 A2 r.2.2.length c2 ((cI .i64).all r.2.2)]:=by
 refine gE Tryz.func111 Tryz.ntmps111 ?_;intro M;unfold oM at h;refine fK 2 ?_;intro xK w M;refine fK 0 ?_;intro gW w M;refine aG 3 ?_;intro a K;refine jU (fun w=>Mem _ _ w _) [0,0,0,0,0,0,0,1,0,1,2] 11 [0,1,2,3,4,5,6,7,8,9,10] aE aE aE rfl M.drew ?_;replace M:=M.drew;revert a;obtain ⟨x2,hx,h⟩:=dG h;refine aG 6 ?_;intro a K;refine jR 6 [7,8,9,10] aE rfl K (aB rfl) rfl rfl (RH hx (AU rfl Um K rfl)) ?_;clear K;intro a K;refine gS [7,9] aE ⟨?_,?_,trivial⟩
 ·obtain ⟨l2,uH,h⟩:=aA h;refine kD [8,9,10] aE rfl K (aB rfl) rfl rfl (q8 (C:=(cI .i64)) (z:=0) rfl g9 rfl z3 rfl K rfl rfl M uH) ?_;clear K M;rintro _ a w ⟨A,c,rfl,M⟩ K;refine ⟨fun _=>M.pick [1,2] aD,?_⟩;refine jR 8 [9,10] aE rfl K (aB rfl) rfl rfl (bG rfl K (vs:=[(0,I gD),(1,I jA),(2,.slice A l2.length c)]) (cs:=[I gD,I jA,.slice A l2.length c]) rfl aE) ?_;clear K;intro a K;refine gS [9] aE ⟨?_,trivial⟩;refine kD [10] aE rfl K (aB rfl) rfl rfl (eK rfl z31 M) ?_;clear K M;rintro _ a w ⟨nJ,rfl,M⟩ K;refine ⟨fun _=>M.pick [2,3] aD,?_⟩;refine gS [10] aE ⟨?_,trivial⟩;refine vL [] aE rfl K (aB rfl) rfl (bF rfl Cw K rfl (ds:=[I gD,I jA,.slice A l2.length c]) rfl rfl 0 M rfl rfl rfl) ?_;clear K M;rintro _ a w M K;refine ⟨fun h=>absurd h aD,?_⟩;revert a;refine sP 12 0 (fun (⟨bO,i⟩:List Int × Int) a w=>Kn a 43 [(1,.func (.func 267) #[] #[.pointer (some ⟨Bz,0,none⟩),.pointer (some ⟨BA,0,none⟩)]),(2,.pointer (some ⟨xK,0,none⟩)),(4,.pointer (some ⟨gW,0,none⟩)),(5,.pointer (some ⟨nJ,0,none⟩)),(18,.slice dW eI.length dX),(19,I (eI.length:Int)),(20,I i)]∧Mem w0.heap.size w0 w [.blk nJ 31 [I gD,I jA,.slice A bO.length c],.row 3 1 A bO.length c ((cI .i64).all bO),.blk gW 31 [I 0,I 0,.slice none ([]:List Int).length 0],.blk xK 31 [I gD,I jA,.slice dW eI.length dX]]) (M.pick [0,1,2,3] aD) ?_ ?_
  ·clear M h;rintro ⟨sG,i2⟩ a w ⟨K,M⟩ h;try dsimp only at h
   revert a;refine fL 5 ?_;intro w M;exact aJ 3 (M.pick [1] aD)
  clear M h;rintro kk fuel ⟨bO,i⟩ a w hk1 ⟨K,M⟩ h;unfold fH at h;revert a;refine dS 6 h ?_ ?_
  ·intro hb h;obtain ⟨e3,k8,h⟩:=aA h;refine aG 7 ?_;refine bQ (fun _ K=>fP rfl g9 K rfl rfl (bE jW) k8) M ?_;refine bQ (fun _ K=>fM rfl jO K rfl rfl (bE jW) k8 rfl) M ?_;refine aG 4 ?_;intro a K;refine aF (fun w=>Mem _ _ w _) [0,0,0,0,0,0,0,0,0,0,0,0,0,1,0,0,2] aE aE M.drew ?_;replace M:=M.drew;revert a;obtain ⟨_,h0,h⟩:=aA h;have h0:=dJ h0;refine aG 8 ?_;refine eC (fun _ K=>pX rfl K rfl rfl h0) ?_;obtain ⟨_,h0,h⟩:=aA h;have h0:=dJ h0;refine aG 3 ?_;refine eC (fun _ K=>gX rfl K rfl rfl h0) ?_;obtain ⟨r3,kU,h⟩:=aA h;intro a K;refine nY K (gZ (vs:=[I e3,I (Int.tmod i gD),I (IntKind.i64.wrap (Int.tdiv i gD))]) (cap:=[.pointer (some ⟨Bz,0,none⟩),.pointer (some ⟨BA,0,none⟩)]) rfl Uq K rfl rfl (Gw kU (Du Jf _ M) (Du Jg _ M))) ?_;clear K;rintro _ a w ⟨rfl,Zq⟩ K;replace M:=M.call Zq;clear Zq;refine ⟨M.pick [0,1,2,3] aD,?_⟩;revert a;obtain ⟨e4,qR,h⟩:=aA h;refine aG 1 ?_;refine eC (fun _ K=>eB rfl g9 K rfl rfl ((hF (C:=(cI .i64)) 1 rfl rfl) _ M) qR) ?_;obtain ⟨l4,zZ,h⟩:=aA h;intro a K;refine AP K (gA (el:=min r3 65535) rfl uF rfl rfl K rfl rfl rfl 1 M rfl zZ) ?_;have M0:=M;clear K M;rintro _ a w M K;have hl:=jB zZ;try rw [hl] at M
   try rw [hl] at K
   clear hl;clear M0;revert a;exact mR 8 (l4,IntKind.i64.wrap (i+1)) (M.pick [0,1,2,3] aD)
  intro hb h;exact pI 3 (hk1 (bO,i)) (M.pick [0,1,2,3] aD)
 ·refine kD [7,8,10] aE rfl K (aB rfl) rfl rfl (eK rfl z31 M) ?_;clear K M;rintro _ a w ⟨sK,rfl,M⟩ K;refine ⟨fun _=>M.pick [1,2] aD,?_⟩;refine gS [7] aE ⟨?_,trivial⟩;obtain ⟨l5,wK,h⟩:=aA h;refine kD [8,10] aE rfl K (aB rfl) rfl rfl (q8 (C:=(cI .i64)) (z:=0) rfl g9 rfl z3 rfl K rfl rfl M wK) ?_;clear K M;rintro _ a w ⟨A2,c2,rfl,M⟩ K;refine ⟨fun _=>M.pick [2,3] aD,?_⟩;refine jR 8 [10] aE rfl K (aB rfl) rfl rfl (bG rfl K (vs:=[(0,I gD),(1,I jA),(2,.slice A2 l5.length c2)]) (cs:=[I gD,I jA,.slice A2 l5.length c2]) rfl aE) ?_;clear K;intro a K;refine gS [10] aE ⟨?_,trivial⟩;refine vL [] aE rfl K (aB rfl) rfl (bF rfl Cw K rfl (ds:=[I gD,I jA,.slice A2 l5.length c2]) rfl rfl 1 M rfl rfl rfl) ?_;clear K M;rintro _ a w M K;refine ⟨fun h=>absurd h aD,?_⟩;revert a;refine sP 12 0 (fun (⟨eW,i3⟩:List Int × Int) a w=>Kn a 43 [(1,.func (.func 267) #[] #[.pointer (some ⟨Bz,0,none⟩),.pointer (some ⟨BA,0,none⟩)]),(2,.pointer (some ⟨xK,0,none⟩)),(4,.pointer (some ⟨gW,0,none⟩)),(5,.pointer (some ⟨sK,0,none⟩)),(18,.slice dW eI.length dX),(19,I (eI.length:Int)),(20,I i3)]∧Mem w0.heap.size w0 w [.row 3 1 A2 eW.length c2 ((cI .i64).all eW),.blk sK 31 [I gD,I jA,.slice A2 eW.length c2],.blk gW 31 [I 0,I 0,.slice none ([]:List Int).length 0],.blk xK 31 [I gD,I jA,.slice dW eI.length dX]]) (M.pick [0,1,2,3] aD) ?_ ?_
  ·clear M h;rintro ⟨oA,i4⟩ a w ⟨K,M⟩ h;try dsimp only at h
   revert a;refine fL 5 ?_;intro w M;exact aJ 3 (M.pick [0] aD)
  clear M h;rintro kk fuel ⟨eW,i3⟩ a w hk1 ⟨K,M⟩ h;unfold fH at h;revert a;refine dS 6 h ?_ ?_
  ·intro hb h;obtain ⟨e7,zE,h⟩:=aA h;refine aG 7 ?_;refine bQ (fun _ K=>fP rfl g9 K rfl rfl (bE jW) zE) M ?_;refine bQ (fun _ K=>fM rfl jO K rfl rfl (bE jW) zE rfl) M ?_;refine aG 4 ?_;intro a K;refine aF (fun w=>Mem _ _ w _) [0,0,0,0,0,0,0,0,0,0,0,0,0,1,0,0,2] aE aE M.drew ?_;replace M:=M.drew;revert a;obtain ⟨_,h0,h⟩:=aA h;have h0:=dJ h0;refine aG 8 ?_;refine eC (fun _ K=>pX rfl K rfl rfl h0) ?_;obtain ⟨_,h0,h⟩:=aA h;have h0:=dJ h0;refine aG 3 ?_;refine eC (fun _ K=>gX rfl K rfl rfl h0) ?_;obtain ⟨r5,tH,h⟩:=aA h;intro a K;refine nY K (gZ (vs:=[I e7,I (Int.tmod i3 gD),I (IntKind.i64.wrap (Int.tdiv i3 gD))]) (cap:=[.pointer (some ⟨Bz,0,none⟩),.pointer (some ⟨BA,0,none⟩)]) rfl Uq K rfl rfl (Gw tH (Du Jf _ M) (Du Jg _ M))) ?_;clear K;rintro _ a w ⟨rfl,Zq⟩ K;replace M:=M.call Zq;clear Zq;refine ⟨M.pick [0,1,2,3] aD,?_⟩;revert a;obtain ⟨e8,Br,h⟩:=aA h;refine aG 1 ?_;refine eC (fun _ K=>eB rfl g9 K rfl rfl ((hF (C:=(cI .i64)) 0 rfl rfl) _ M) Br) ?_;obtain ⟨l7,w5,h⟩:=aA h;intro a K;refine AP K (gA (el:=min r5 65535) rfl uF rfl rfl K rfl rfl rfl 0 M rfl w5) ?_;have M0:=M;clear K M;rintro _ a w M K;have hl:=jB w5;try rw [hl] at M
   try rw [hl] at K
   clear hl;clear M0;revert a;exact mR 8 (l7,IntKind.i64.wrap (i3+1)) (M.pick [0,1,2,3] aD)
  intro hb h;exact pI 3 (hk1 (eW,i3)) (M.pick [0,1,2,3] aD)
theorem N0 {N:Nat} {gD jA:Int} {eI:List Int} {dW:Option Addr} {dX:Nat} {tA tB tD tE white:Int} {w0:World} {r:Int × Int × List Int × Int} (h:vY N gD jA eI tA tB tD tE white=some r) (jW:SL w0 (cI .i64) dW eI) (rF:eI.length≤dX) :
  Calls Tryz.prog 266 #[.agg #[I gD,I jA,.slice dW eI.length dX],.agg #[I tA,I tB,I tD,I tE],I white] w0 fun e w'=>∃v,e = .returned v∧∃A2 c2,v = .tuple #[.agg #[I r.1,I r.2.1,.slice A2 r.2.2.1.length c2],I r.2.2.2]∧Mem w0.heap.size w0 w' [.row 3 1 A2 r.2.2.1.length c2 ((cI .i64).all r.2.2.1)]:=by
 refine gE Tryz.func266 Tryz.ntmps266 ?_;intro M;unfold vY at h;refine fK 2 ?_;intro xK w M;refine fK 0 ?_;intro Ha w M;refine fK 0 ?_;intro VV w M;refine fK 0 ?_;intro gW w M;obtain ⟨r2,eR,h⟩:=aA h;refine jE 7 (Je eR ((bE jW) _ M) rF) ?_;intro w M;refine dS 3 h ?_ ?_
 ·intro hb h;refine fL 3 ?_;intro w M;exact eG 5 (((Mem.aK 3 1 (cI .i64) M)).pick [0] aD)
 intro hb h;refine sP 10 0 (fun (i:Int) a w=>Kn a 34 [(3,.pointer (some ⟨xK,0,none⟩)),(4,.pointer (some ⟨Ha,0,none⟩)),(5,.pointer (some ⟨VV,0,none⟩)),(6,.pointer (some ⟨gW,0,none⟩)),(14,.agg #[I tA,I tB,I tD,I tE]),(15,I i)]∧Mem w0.heap.size w0 w [.blk gW 31 [I 0,I 0,.slice none ([]:List Int).length 0],.blk VV 3 [I white],.blk Ha 22 [I tA,I tB,I tD,I tE],.blk xK 31 [I gD,I jA,.slice dW eI.length dX]]) (M.pick [0,1,2,3] aD) ?_ ?_
 ·clear M h;rintro i2 a w ⟨K,M⟩ h;try dsimp only at h
  revert a;obtain ⟨r3,kU,h⟩:=aA h;refine jE 6 (Dn kU ((bE jW) _ M) rF (M.bN (i:=2) rfl) (M.bN (i:=1) rfl)) ?_;intro A c w M;refine fL 0 ?_;intro w M;exact eG 4 (M.pick [0] aD)
 clear M h;rintro kk fuel i a w hk1 ⟨K,M⟩ h;unfold mO at h;revert a;refine dS 6 h ?_ ?_
 ·intro hb h;obtain ⟨e2,lV,h⟩:=aA h;refine aG 6 ?_;refine bQ (fun _ K=>P6 (C:=(cI .i64)) (es:=[tA,tB,tD,tE]) rfl OX jO K rfl rfl rfl lV rfl) M ?_;refine mF 8 20 h ?_ ?_
  ·intro hb h;refine fL 14 ?_;intro w M;exact eG 9 (((Mem.aK 3 1 (cI .i64) M)).pick [0] aD)
  intro hb h;refine mF 5 25 h ?_ ?_
  ·intro hb h;refine fL 9 ?_;intro w M;exact eG 9 (((Mem.aK 3 1 (cI .i64) M)).pick [0] aD)
  intro hb h;refine dS 5 h ?_ ?_
  ·intro hb h;refine fL 3 ?_;intro w M;exact eG 9 (((Mem.aK 3 1 (cI .i64) M)).pick [0] aD)
  intro hb h;exact mR 8 (IntKind.i64.wrap (i+1)) (M.pick [0,1,2,3] aD)
 intro hb h;exact pI 3 (hk1 i) (M.pick [0,1,2,3] aD)
theorem Hk {N:Nat} {phase x2 y:Int} {w0:World} {r:Int} (h:sR N phase x2 y=some r) :
  Calls Tryz.prog 162 #[I phase,I x2,I y] w0 fun e w'=>∃v,e = .returned v∧v=I r∧Mem w0.heap.size w0 w' []:=by
 refine gE Tryz.func162 Tryz.ntmps162 ?_;intro M;unfold sR at h;refine aG 13 ?_;refine bQ (fun _ K=>vV rfl K rfl rfl aD) M ?_;exact aJ 7 (M.pick [] aD)
theorem Hl {N:Nat} {n x2 y Tl Tm Tn v1:Int} {uC G9:Nat} {w0:World} {r:Int} (h:w9 N n x2 y Tl Tm Tn v1=some r) (wZ:jM w0 uC 24 #[I Tl,I Tm,I Tn]) (NZ:jM w0 G9 3 #[I v1]) :
  Calls Tryz.prog 271 #[I n,I x2,I y,.pointer (some ⟨uC,0,none⟩),.pointer (some ⟨G9,0,none⟩)] w0 fun e w'=>∃v,e = .returned v∧v=I r∧Mem w0.heap.size w0 w' []:=by
 refine gE Tryz.func271 Tryz.ntmps271 ?_;intro M;unfold w9 at h;obtain ⟨r2,eR,h⟩:=aA h;refine jE 11 (Hk eR) ?_;intro w M;obtain ⟨_,h0,h⟩:=aA h;have h0:=mN h0;refine bQ (fun _ K=>dL rfl pO uF K rfl rfl h0.1 h0.2) M ?_;obtain ⟨e,IR,h⟩:=aA h;refine bQ (fun _ K=>pT rfl jO K rfl (Du wZ) rfl rfl IR) M ?_;refine aG 1 ?_;refine bQ (fun _ K=>vV rfl K rfl rfl aD) M ?_;exact aJ 4 (M.pick [] aD)
theorem DJ {N:Nat} {gD jA:Int} {eI:List Int} {dW:Option Addr} {dX:Nat} {CE CF CG Ew:Int} {CP CQ:Nat} {w0:World} {r:Int × Int × List Int} (h:pE N gD jA eI CE CF CG Ew=some r) (jW:SL w0 (cI .i64) dW eI) (rF:eI.length≤dX) (Kq:jM w0 CP 24 #[I CE,I CF,I CG]) (Kr:jM w0 CQ 3 #[I Ew]) :
  Calls Tryz.prog 111 #[.agg #[I gD,I jA,.slice dW eI.length dX],.func (.func 271) #[] #[.pointer (some ⟨CP,0,none⟩),.pointer (some ⟨CQ,0,none⟩)]] w0 fun e w'=>∃v,e = .returned v∧∃A2 c2,v = .agg #[I r.1,I r.2.1,.slice A2 r.2.2.length c2]∧Mem w0.heap.size w0 w' [.row 3 1 A2 r.2.2.length c2 ((cI .i64).all r.2.2)]:=by
 refine gE Tryz.func111 Tryz.ntmps111 ?_;intro M;unfold pE at h;refine fK 2 ?_;intro xK w M;refine fK 0 ?_;intro gW w M;refine aG 3 ?_;intro a K;refine jU (fun w=>Mem _ _ w _) [0,0,0,0,0,0,0,1,0,1,2] 11 [0,1,2,3,4,5,6,7,8,9,10] aE aE aE rfl M.drew ?_;replace M:=M.drew;revert a;obtain ⟨x2,hx,h⟩:=dG h;refine aG 6 ?_;intro a K;refine jR 6 [7,8,9,10] aE rfl K (aB rfl) rfl rfl (RH hx (AU rfl Um K rfl)) ?_;clear K;intro a K;refine gS [7,9] aE ⟨?_,?_,trivial⟩
 ·obtain ⟨l2,uH,h⟩:=aA h;refine kD [8,9,10] aE rfl K (aB rfl) rfl rfl (q8 (C:=(cI .i64)) (z:=0) rfl g9 rfl z3 rfl K rfl rfl M uH) ?_;clear K M;rintro _ a w ⟨A,c,rfl,M⟩ K;refine ⟨fun _=>M.pick [1,2] aD,?_⟩;refine jR 8 [9,10] aE rfl K (aB rfl) rfl rfl (bG rfl K (vs:=[(0,I gD),(1,I jA),(2,.slice A l2.length c)]) (cs:=[I gD,I jA,.slice A l2.length c]) rfl aE) ?_;clear K;intro a K;refine gS [9] aE ⟨?_,trivial⟩;refine kD [10] aE rfl K (aB rfl) rfl rfl (eK rfl z31 M) ?_;clear K M;rintro _ a w ⟨nJ,rfl,M⟩ K;refine ⟨fun _=>M.pick [2,3] aD,?_⟩;refine gS [10] aE ⟨?_,trivial⟩;refine vL [] aE rfl K (aB rfl) rfl (bF rfl Cw K rfl (ds:=[I gD,I jA,.slice A l2.length c]) rfl rfl 0 M rfl rfl rfl) ?_;clear K M;rintro _ a w M K;refine ⟨fun h=>absurd h aD,?_⟩;revert a;refine sP 12 0 (fun (⟨bO,i⟩:List Int × Int) a w=>Kn a 43 [(1,.func (.func 271) #[] #[.pointer (some ⟨CP,0,none⟩),.pointer (some ⟨CQ,0,none⟩)]),(2,.pointer (some ⟨xK,0,none⟩)),(4,.pointer (some ⟨gW,0,none⟩)),(5,.pointer (some ⟨nJ,0,none⟩)),(18,.slice dW eI.length dX),(19,I (eI.length:Int)),(20,I i)]∧Mem w0.heap.size w0 w [.blk nJ 31 [I gD,I jA,.slice A bO.length c],.row 3 1 A bO.length c ((cI .i64).all bO),.blk gW 31 [I 0,I 0,.slice none ([]:List Int).length 0],.blk xK 31 [I gD,I jA,.slice dW eI.length dX]]) (M.pick [0,1,2,3] aD) ?_ ?_
  ·clear M h;rintro ⟨sG,i2⟩ a w ⟨K,M⟩ h;try dsimp only at h
   revert a;refine fL 5 ?_;intro w M;exact aJ 3 (M.pick [1] aD)
  clear M h;rintro kk fuel ⟨bO,i⟩ a w hk1 ⟨K,M⟩ h;unfold fZ at h;revert a;refine dS 6 h ?_ ?_
  ·intro hb h;obtain ⟨e3,k8,h⟩:=aA h;refine aG 7 ?_;refine bQ (fun _ K=>fP rfl g9 K rfl rfl (bE jW) k8) M ?_;refine bQ (fun _ K=>fM rfl jO K rfl rfl (bE jW) k8 rfl) M ?_;refine aG 4 ?_;intro a K;refine aF (fun w=>Mem _ _ w _) [0,0,0,0,0,0,0,0,0,0,0,0,0,1,0,0,2] aE aE M.drew ?_;replace M:=M.drew;revert a;obtain ⟨_,h0,h⟩:=aA h;have h0:=dJ h0;refine aG 8 ?_;refine eC (fun _ K=>pX rfl K rfl rfl h0) ?_;obtain ⟨_,h0,h⟩:=aA h;have h0:=dJ h0;refine aG 3 ?_;refine eC (fun _ K=>gX rfl K rfl rfl h0) ?_;obtain ⟨r3,kU,h⟩:=aA h;intro a K;refine nY K (gZ (vs:=[I e3,I (Int.tmod i gD),I (IntKind.i64.wrap (Int.tdiv i gD))]) (cap:=[.pointer (some ⟨CP,0,none⟩),.pointer (some ⟨CQ,0,none⟩)]) rfl Ur K rfl rfl (Hl kU (Du Kq _ M) (Du Kr _ M))) ?_;clear K;rintro _ a w ⟨rfl,Zq⟩ K;replace M:=M.call Zq;clear Zq;refine ⟨M.pick [0,1,2,3] aD,?_⟩;revert a;obtain ⟨e4,qR,h⟩:=aA h;refine aG 1 ?_;refine eC (fun _ K=>eB rfl g9 K rfl rfl ((hF (C:=(cI .i64)) 1 rfl rfl) _ M) qR) ?_;obtain ⟨l4,zZ,h⟩:=aA h;intro a K;refine AP K (gA (el:=min r3 65535) rfl uF rfl rfl K rfl rfl rfl 1 M rfl zZ) ?_;have M0:=M;clear K M;rintro _ a w M K;have hl:=jB zZ;try rw [hl] at M
   try rw [hl] at K
   clear hl;clear M0;revert a;exact mR 8 (l4,IntKind.i64.wrap (i+1)) (M.pick [0,1,2,3] aD)
  intro hb h;exact pI 3 (hk1 (bO,i)) (M.pick [0,1,2,3] aD)
 ·refine kD [7,8,10] aE rfl K (aB rfl) rfl rfl (eK rfl z31 M) ?_;clear K M;rintro _ a w ⟨sK,rfl,M⟩ K;refine ⟨fun _=>M.pick [1,2] aD,?_⟩;refine gS [7] aE ⟨?_,trivial⟩;obtain ⟨l5,wK,h⟩:=aA h;refine kD [8,10] aE rfl K (aB rfl) rfl rfl (q8 (C:=(cI .i64)) (z:=0) rfl g9 rfl z3 rfl K rfl rfl M wK) ?_;clear K M;rintro _ a w ⟨A2,c2,rfl,M⟩ K;refine ⟨fun _=>M.pick [2,3] aD,?_⟩;refine jR 8 [10] aE rfl K (aB rfl) rfl rfl (bG rfl K (vs:=[(0,I gD),(1,I jA),(2,.slice A2 l5.length c2)]) (cs:=[I gD,I jA,.slice A2 l5.length c2]) rfl aE) ?_;clear K;intro a K;refine gS [10] aE ⟨?_,trivial⟩;refine vL [] aE rfl K (aB rfl) rfl (bF rfl Cw K rfl (ds:=[I gD,I jA,.slice A2 l5.length c2]) rfl rfl 1 M rfl rfl rfl) ?_;clear K M;rintro _ a w M K;refine ⟨fun h=>absurd h aD,?_⟩;revert a;refine sP 12 0 (fun (⟨eW,i3⟩:List Int × Int) a w=>Kn a 43 [(1,.func (.func 271) #[] #[.pointer (some ⟨CP,0,none⟩),.pointer (some ⟨CQ,0,none⟩)]),(2,.pointer (some ⟨xK,0,none⟩)),(4,.pointer (some ⟨gW,0,none⟩)),(5,.pointer (some ⟨sK,0,none⟩)),(18,.slice dW eI.length dX),(19,I (eI.length:Int)),(20,I i3)]∧Mem w0.heap.size w0 w [.row 3 1 A2 eW.length c2 ((cI .i64).all eW),.blk sK 31 [I gD,I jA,.slice A2 eW.length c2],.blk gW 31 [I 0,I 0,.slice none ([]:List Int).length 0],.blk xK 31 [I gD,I jA,.slice dW eI.length dX]]) (M.pick [0,1,2,3] aD) ?_ ?_
  ·clear M h;rintro ⟨oA,i4⟩ a w ⟨K,M⟩ h;try dsimp only at h
   revert a;refine fL 5 ?_;intro w M;exact aJ 3 (M.pick [0] aD)
  clear M h;rintro kk fuel ⟨eW,i3⟩ a w hk1 ⟨K,M⟩ h;unfold fZ at h;revert a;refine dS 6 h ?_ ?_
  ·intro hb h;obtain ⟨e7,zE,h⟩:=aA h;refine aG 7 ?_;refine bQ (fun _ K=>fP rfl g9 K rfl rfl (bE jW) zE) M ?_;refine bQ (fun _ K=>fM rfl jO K rfl rfl (bE jW) zE rfl) M ?_;refine aG 4 ?_;intro a K;refine aF (fun w=>Mem _ _ w _) [0,0,0,0,0,0,0,0,0,0,0,0,0,1,0,0,2] aE aE M.drew ?_;replace M:=M.drew;revert a;obtain ⟨_,h0,h⟩:=aA h;have h0:=dJ h0;refine aG 8 ?_;refine eC (fun _ K=>pX rfl K rfl rfl h0) ?_;obtain ⟨_,h0,h⟩:=aA h;have h0:=dJ h0;refine aG 3 ?_;refine eC (fun _ K=>gX rfl K rfl rfl h0) ?_;obtain ⟨r5,tH,h⟩:=aA h;intro a K;refine nY K (gZ (vs:=[I e7,I (Int.tmod i3 gD),I (IntKind.i64.wrap (Int.tdiv i3 gD))]) (cap:=[.pointer (some ⟨CP,0,none⟩),.pointer (some ⟨CQ,0,none⟩)]) rfl Ur K rfl rfl (Hl tH (Du Kq _ M) (Du Kr _ M))) ?_;clear K;rintro _ a w ⟨rfl,Zq⟩ K;replace M:=M.call Zq;clear Zq;refine ⟨M.pick [0,1,2,3] aD,?_⟩;revert a;obtain ⟨e8,Br,h⟩:=aA h;refine aG 1 ?_;refine eC (fun _ K=>eB rfl g9 K rfl rfl ((hF (C:=(cI .i64)) 0 rfl rfl) _ M) Br) ?_;obtain ⟨l7,w5,h⟩:=aA h;intro a K;refine AP K (gA (el:=min r5 65535) rfl uF rfl rfl K rfl rfl rfl 0 M rfl w5) ?_;have M0:=M;clear K M;rintro _ a w M K;have hl:=jB w5;try rw [hl] at M
   try rw [hl] at K
   clear hl;clear M0;revert a;exact mR 8 (l7,IntKind.i64.wrap (i3+1)) (M.pick [0,1,2,3] aD)
  intro hb h;exact pI 3 (hk1 (eW,i3)) (M.pick [0,1,2,3] aD)
theorem OZ {N:Nat} {gD jA:Int} {eI:List Int} {dW:Option Addr} {dX:Nat} {phase vZ v6 v7:Int} {w0:World} {r:Int × Int × List Int × Int} (h:xJ N gD jA eI phase vZ v6 v7=some r) (jW:SL w0 (cI .i64) dW eI) (rF:eI.length≤dX) :
  Calls Tryz.prog 270 #[.agg #[I gD,I jA,.slice dW eI.length dX],I phase,.agg #[I vZ,I v6,I v7]] w0 fun e w'=>∃v,e = .returned v∧∃A2 c2,v = .tuple #[.agg #[I r.1,I r.2.1,.slice A2 r.2.2.1.length c2],I r.2.2.2]∧Mem w0.heap.size w0 w' [.row 3 1 A2 r.2.2.1.length c2 ((cI .i64).all r.2.2.1)]:=by
 refine gE Tryz.func270 Tryz.ntmps270 ?_;intro M;unfold xJ at h;refine fK 2 ?_;intro xK w M;refine fK 0 ?_;intro VW w M;refine fK 0 ?_;intro Ks w M;refine fK 0 ?_;intro gW w M;obtain ⟨r2,eR,h⟩:=aA h;refine jE 7 (Je eR ((bE jW) _ M) rF) ?_;intro w M;refine dS 3 h ?_ ?_
 ·intro hb h;refine fL 3 ?_;intro w M;exact eG 5 (((Mem.aK 3 1 (cI .i64) M)).pick [0] aD)
 intro hb h;refine sP 10 0 (fun (i:Int) a w=>Kn a 37 [(3,.pointer (some ⟨xK,0,none⟩)),(4,.pointer (some ⟨VW,0,none⟩)),(5,.pointer (some ⟨Ks,0,none⟩)),(6,.pointer (some ⟨gW,0,none⟩)),(14,.agg #[I vZ,I v6,I v7]),(15,I i)]∧Mem w0.heap.size w0 w [.blk gW 31 [I 0,I 0,.slice none ([]:List Int).length 0],.blk Ks 24 [I vZ,I v6,I v7],.blk VW 3 [I phase],.blk xK 31 [I gD,I jA,.slice dW eI.length dX]]) (M.pick [0,1,2,3] aD) ?_ ?_
 ·clear M h;rintro i2 a w ⟨K,M⟩ h;try dsimp only at h
  revert a;obtain ⟨r3,kU,h⟩:=aA h;refine jE 6 (DJ kU ((bE jW) _ M) rF (M.bN (i:=1) rfl) (M.bN (i:=2) rfl)) ?_;intro A c w M;refine fL 0 ?_;intro w M;exact eG 4 (M.pick [0] aD)
 clear M h;rintro kk fuel i a w hk1 ⟨K,M⟩ h;unfold nZ at h;revert a;refine dS 6 h ?_ ?_
 ·intro hb h;obtain ⟨e2,lV,h⟩:=aA h;refine aG 6 ?_;refine bQ (fun _ K=>P6 (C:=(cI .i64)) (es:=[vZ,v6,v7]) rfl pO jO K rfl rfl rfl lV rfl) M ?_;refine mF 8 20 h ?_ ?_
  ·intro hb h;refine fL 17 ?_;intro w M;exact eG 9 (((Mem.aK 3 1 (cI .i64) M)).pick [0] aD)
  intro hb h;refine mF 4 24 h ?_ ?_
  ·intro hb h;refine fL 13 ?_;intro w M;exact eG 9 (((Mem.aK 3 1 (cI .i64) M)).pick [0] aD)
  intro hb h;refine mF 4 28 h ?_ ?_
  ·intro hb h;refine fL 9 ?_;intro w M;exact eG 9 (((Mem.aK 3 1 (cI .i64) M)).pick [0] aD)
  intro hb h;refine dS 5 h ?_ ?_
  ·intro hb h;refine fL 3 ?_;intro w M;exact eG 9 (((Mem.aK 3 1 (cI .i64) M)).pick [0] aD)
  intro hb h;exact mR 8 (IntKind.i64.wrap (i+1)) (M.pick [0,1,2,3] aD)
 intro hb h;exact pI 3 (hk1 i) (M.pick [0,1,2,3] aD)
theorem DK {N:Nat} {phase x2 y:Int} {w0:World} {r:Int × Int} (h:pG N phase x2 y=some r) :
  Calls Tryz.prog 116 #[I phase,I x2,I y] w0 fun e w'=>∃v,e = .returned v∧v = .tuple #[I r.1,I r.2]∧Mem w0.heap.size w0 w' []:=by
 refine gE Tryz.func116 Tryz.ntmps116 ?_;intro M;unfold pG at h;refine mF 12 10 h ?_ ?_
 ·intro hb h;exact eG 22 (M.pick [] aD)
 intro hb h;refine mF 4 14 h ?_ ?_
 ·intro hb h;exact eG 18 (M.pick [] aD)
 intro hb h;refine mF 4 18 h ?_ ?_
 ·intro hb h;exact eG 14 (M.pick [] aD)
 intro hb h;refine dS 5 h ?_ ?_
 ·intro hb h;exact eG 8 (M.pick [] aD)
 intro hb h;obtain ⟨r2,eR,h⟩:=aA h;refine jE 9 (Hk eR) ?_;intro w M;exact eG 5 (M.pick [] aD)
end
section
open Go.RowKit Go.Shelf
attribute [local go_sem] Oper.semAt_some
abbrev O0 (W H:Int) (q:InP W H):Array Value:=#[.int .i64 q.1.1,.int .i64 q.1.2]
def VX (L:List Nat) (A B:World):Prop:=∀k∈L,k<A.heap.size→B.heap[k]? = A.heap[k]?
theorem O1 (n:Nat) (hn:1≤n) (W H x y:Int) (A:Option Addr) (m c gp gx gy:Nat) (hW:W≤64) (hH:H≤64) (hx:0≤x∧x<W) (hy:0≤y∧y<H) (w:World)
  (bp:jM w gp 31 #[.int .i64 W,.int .i64 H,.slice A m c]) (bx:jM w gx 3 #[.int .i64 x]) (by_:jM w gy 3 #[.int .i64 y]) :
  SeqStopsK Fence.wide n Tryz.prog 171 #[.pointer (some ⟨gy,0,none⟩),.pointer (some ⟨gp,0,none⟩),.pointer (some ⟨gx,0,none⟩)] (O0 W H) (VX [gp,gx,gy])
   (fun xs=>xs.map (·.1)=lG W H x y) (fun _=>True) (lG W H x y).length w:=fun l J Jx W0 hb0 hJ hJx hY h0=>by
 have bp0:jM W0 gp 31 #[.int .i64 W,.int .i64 H,.slice A m c]:=bp.below hb0 bp.lt;have bx0:jM W0 gx 3 #[.int .i64 x]:=bx.below hb0 bx.lt;have by0:jM W0 gy 3 #[.int .i64 y]:=by_.below hb0 by_.lt;refine callsIn_of_wp Tryz.func171 rfl trivial ?_ rfl;simp only [Tryz.ntmps171,List.size_toArray,List.length_cons,List.length_nil,Nat.reduceAdd,Nat.reduceSub,Array.replicate_succ,Array.replicate_zero,List.push_toArray,List.append_toArray,List.nil_append,List.cons_append];have cy0:W0.cell? ⟨gy,0,none⟩=some (.int .i64 y):=by0.c1.1;have m1:IntKind.i64.wrap (y-1)=y-1:=IntWalk.i64_in _ (by omega);have m2:IntKind.i64.wrap (x-1)=x-1:=IntWalk.i64_in _ (by omega);have m3:IntKind.i64.wrap (y+1)=y+1:=IntWalk.i64_in _ (by omega);have m4:IntKind.i64.wrap (x+1)=x+1:=IntWalk.i64_in _ (by omega);have hst:∀v:Int,v=max (y-1) 0→∃(pre:List (InP W H)) (k:Nat),pre.map (·.1)++Wh W H x y k v=lG W H x y∧y+1-v<k∧0≤v∧v≤64∧J pre W0:=fun v hv=>⟨[],4,by subst hv;rfl,by omega,by omega,by omega,h0⟩
 clear hb0 bp bx by_ h0
 gi_wp2
 all_goals
  gi_loopw [5] (fun a wr=>∃(v:Int) (pre:List (InP W H)) (k:Nat),a = .int .i64 v∧pre.map (·.1)++Wh W H x y k v=lG W H x y∧y+1-v<k∧0≤v∧v≤64∧J pre wr ∧
    jM wr gp 31 #[.int .i64 W,.int .i64 H,.slice A m c]∧jM wr gx 3 #[.int .i64 x]∧jM wr gy 3 #[.int .i64 y]) (fun a _=>70-(intOf a).toNat)
  case atStart=>
   obtain ⟨pre,k,h1,h2,h3,h4,h5⟩:=hst _ rfl;exact ⟨max (y-1) 0,pre,k,congrArg (Value.int .i64) (by omega),h1,h2,h3,h4,h5,bp0,bx0,by0⟩
  case round=>
   obtain ⟨v,pre,k,rfl,h1,h2,h3,h4,hJs,bp1,bx1,by1⟩:=hrel;have cy1:wr.cell? ⟨gy,0,none⟩=some (.int .i64 y):=by1.c1.1;have cx1:wr.cell? ⟨gx,0,none⟩=some (.int .i64 x):=bx1.c1.1;obtain ⟨cp0,cp1,cp2⟩:=bp1.c3;have m5:IntKind.i64.wrap (v+1)=v+1:=IntWalk.i64_in _ (by omega)
   by_cases hv:v≤y+1∧v<H
   ·obtain ⟨k,rfl⟩:∃q,k=q+1:=⟨k-1,by omega⟩
    rw [Wh,if_pos hv] at h1;obtain ⟨hv1,hv2⟩:=hv;have aHd:∃(Kt:List (InP W H)) (j:Nat),Kt.map (·.1)++(X7 W x y v j (max (x-1) 0)++Wh W H x y k (v+1))=lG W H x y∧x+1-max (x-1) 0<j∧J Kt wr:=⟨pre,4,h1,by omega,hJs⟩
    clear h1 hJs hst cy0 bp0 bx0 by0
    gi_wp2
    all_goals
     gi_loopw [6] (fun b wr2=>∃(u:Int) (Kt:List (InP W H)) (j:Nat),b = .int .i64 u∧Kt.map (·.1)++(X7 W x y v j u++Wh W H x y k (v+1))=lG W H x y∧x+1-u<j∧0≤u∧u≤64∧J Kt wr2 ∧
       jM wr2 gp 31 #[.int .i64 W,.int .i64 H,.slice A m c]∧jM wr2 gx 3 #[.int .i64 x]∧jM wr2 gy 3 #[.int .i64 y]) (fun b _=>70-(intOf b).toNat)
     case atStart=>
      obtain ⟨Kt,j,h5,h6,h7⟩:=aHd;exact ⟨max (x-1) 0,Kt,j,congrArg (Value.int .i64) (by omega),h5,h6,by omega,by omega,h7,bp1,bx1,by1⟩
     case round=>
      clear aHd cy1 cx1 cp0 cp1 cp2 bp1 bx1 by1;obtain ⟨u,Kt,j,rfl,h5,h6,h7,h8,hJ2,bp2,bx2,by2⟩:=hrel;have cy2:=by2.c1.1;have cx2:=bx2.c1.1;obtain ⟨cp0,cp1,cp2⟩:=bp2.c3;have m6:IntKind.i64.wrap (u+1)=u+1:=IntWalk.i64_in _ (by omega)
      by_cases hu:u≤x+1∧u<W
      ·obtain ⟨j,rfl⟩:∃q,j=q+1:=⟨j-1,by omega⟩
       rw [X7,if_pos hu] at h5;obtain ⟨hu1,hu2⟩:=hu
       by_cases hne:u≠x∨v≠y
       ·rw [if_pos hne] at h5;have hlen:Kt.length<(lG W H x y).length:=by rw [←h5];simp
        obtain ⟨fn,tmps,assign,body,hyl,hR⟩:=hY Kt ⟨(u,v),h7,hu2,h3,hv2⟩ _ hJ2 hlen;dsimp only [O0] at hyl;have h5':(Kt++[(⟨(u,v),h7,hu2,h3,hv2⟩:InP W H)]).map (·.1)++(X7 W x y v j (u+1)++Wh W H x y k (v+1))=lG W H x y:=by rw [←h5];simp
        clear h5 hJ2
        by_cases hux:u=x
        ·have hvy:¬v=y:=by omega
         subst hux
         gi_wp2
         all_goals
          refine hR.mono ?_;rintro e W3 (⟨rfl,hJ3,hk3⟩ | ⟨rfl,hJx3⟩)
          ·have bp3:jM W3 gp 31 _:=(hk3 gp (by simp) bp2.lt).trans bp2;have bx3:jM W3 gx 3 _:=(hk3 gx (by simp) bx2.lt).trans bx2;have by3:jM W3 gy 3 _:=(hk3 gy (by simp) by2.lt).trans by2;clear cy2 cx2 cp0 cp1 cp2 bp2 bx2 by2 hk3
           gi_wp2
           refine ⟨⟨_,_,j,rfl,h5',by omega,by omega,by omega,hJ3,bp3,bx3,by3⟩,by simp [intOf];omega⟩
          ·gi_wp2
           refine bodyPost_ret (results_none rfl _ _ _) rfl ?_;exact ⟨⟨_,rfl⟩,.inr ⟨_,trivial,hJx3⟩⟩
        ·gi_wp2
         all_goals
          refine hR.mono ?_;rintro e W3 (⟨rfl,hJ3,hk3⟩ | ⟨rfl,hJx3⟩)
          ·have bp3:jM W3 gp 31 _:=(hk3 gp (by simp) bp2.lt).trans bp2;have bx3:jM W3 gx 3 _:=(hk3 gx (by simp) bx2.lt).trans bx2;have by3:jM W3 gy 3 _:=(hk3 gy (by simp) by2.lt).trans by2;clear cy2 cx2 cp0 cp1 cp2 bp2 bx2 by2 hk3
           gi_wp2
           refine ⟨⟨_,_,j,rfl,h5',by omega,by omega,by omega,hJ3,bp3,bx3,by3⟩,by simp [intOf];omega⟩
          ·gi_wp2
           refine bodyPost_ret (results_none rfl _ _ _) rfl ?_;exact ⟨⟨_,rfl⟩,.inr ⟨_,trivial,hJx3⟩⟩
       ·rw [if_neg hne] at h5;obtain ⟨rfl,rfl⟩:u=x∧v=y:=by omega
        gi_wp2
        all_goals
         refine ⟨fun _ h=>(by cases h),?_⟩
         gi_wp2
         refine ⟨⟨_,Kt,j,rfl,h5,by omega,by omega,by omega,hJ2,bp2,bx2,by2⟩,by simp [intOf];omega⟩
      ·have hend:Kt.map (·.1)++Wh W H x y k (v+1)=lG W H x y:=by
        cases j with
        | zero=>simpa [X7] using h5
        | succ j=>rw [X7,if_neg hu] at h5;simpa using h5
       clear h5
       gi_wp2
       all_goals exact ⟨⟨_,Kt,k,rfl,hend,by omega,by omega,by omega,hJ2,bp2,bx2,by2⟩,by simp [intOf];omega⟩
   ·have hend:pre.map (·.1)=lG W H x y:=by
     cases k with
     | zero=>simpa [Wh] using h1
     | succ k=>rw [Wh,if_neg hv] at h1;simpa using h1
    clear h1
    gi_wp2
    all_goals
     go_end0
     exact ⟨⟨_,rfl⟩,.inl ⟨pre,hend,hJs⟩⟩
end
section
open Go.RowKit
section
variable {P:Program} {ops:Array Oper} {Q:Exit→Act→World→Prop} {a:Act} {w:World} {o:Oper} {lp n:Nat}
def Nb (ops:Array Oper):Bool:=ops.all fun o=>match o.op with | .defer _=>false | _=>true
theorem aHe {row:String} {args:Array Value} {R:Value→World→Prop} (h:Rows P row args w R):RowsIn (Fence.wide.inRound lp) n P row args w R:=
 fun c cs _=>let ⟨v,w',r,s⟩:=h c cs;⟨v,w',r,stepsIn_wide.2 s⟩
theorem aE6 (hnd:∀c,o.op≠.defer c) {nx nx':Act→World→Prop} (hn:∀a w,nx a w→nx' a w) (h:o.wp P a w nx Q):o.wpIn (Fence.wide.inRound lp) n P a w nx' Q:=by
 refine ⟨fun f _=>trivial,?_⟩;have hs:Oper.semAt (Fence.wide.inRound lp).round a.eval o=execOp a.eval o:=Oper.semAt_some lp _ _ hnd;rw [hs];unfold Oper.wp at h
 generalize (execOp a.eval o).run P w=res at h
 have hd:∀k:Nat,(Fence.wide.inRound lp).depth.isSome=true→1≤k:=fun _ h=>by simp [Fence.wide] at h
 match res,h with
 | .ok (.value v) w',h=>exact hn _ _ h
 | .ok .skip w',h=>exact hn _ _ h
 | .ok (.defer d) w',h=>exact hn _ _ h
 | .ok (.enter f args) w',h=>
  refine ⟨hd _,CallsIn.inRound lp (callsIn_wide.2 (Calls.mono h ?_))⟩;intro e w'' he;cases e with
  | returned v=>exact hn _ _ he
  | panicked c=>exact he
  | outgrown=>exact he
 | .ok (.row row args) w',h=>
  refine ⟨hd _,?_⟩;have:=aHe (lp:=lp) (n:=n-1) h;exact this.mono fun v w'' hv=>hn _ _ hv
 | .halt (.panic v) w',h=>exact h
 | .ok (.round ..) w',h=>exact h.elim
theorem Ku (hnd:∀(i:Nat) (o:Oper),ops[i]? = some o→∀c,o.op≠.defer c) (hq:¬LetsOut Q):∀(l:List Nat) (a:Act) (w:World),wpOps P ops Q l a w→wpOpsIn (Fence.wide.inRound lp) n P ops Q l a w
 | [],a,w,h=>h
 | i::rest,a,w,h=>by
  unfold wpOps at h;unfold wpOpsIn;cases ho:ops[i]? with
  | none=>simp only [ho] at h ⊢;exact Ku hnd hq rest a w h
  | some o=>
   simp only [ho] at h ⊢
   by_cases hw:Region.wanted o (yielded ops a.tmps)=true
   ·rw [if_pos hw] at h ⊢
    rcases h with h | ⟨_,h⟩
    ·exact aE6 (hnd i o ho) (fun a w h=>Ku hnd hq rest a w h) h
    ·exact absurd h hq
   ·rw [if_neg hw] at h ⊢;exact ⟨fun f _=>trivial,Ku hnd hq rest _ w h⟩
theorem Kv {ops:Array Oper} (h:Nb ops=true) (i:Nat) (o:Oper) (ho:ops[i]? = some o):∀c,o.op≠.defer c:=by
 intro c e;unfold Nb at h;obtain ⟨hi,he⟩:=Array.getElem?_eq_some_iff.1 ho;have:=Array.all_eq_true.1 h i hi;rw [he,e] at this;cases this
theorem LQ {id:Nat} {ol:List Oper} (hnd:Nb ol.toArray=true) (hq:¬LetsOut Q) (h:wpList P ol.toArray Q ol a w):(Code.region id ol.toArray false).wpIn (Fence.wide.inRound lp) n P Q a w:=by
 refine wpIn_region (Ku (Kv hnd) hq _ a w ?_);have:=wpOps_eq_wpList (P:=P) (ops:=ol.toArray) (Q:=Q) ol 0 (by simp);rw [List.range_eq_range',show ol.toArray.size=ol.length by simp,this];exact h
theorem Q9 {id:Nat} {l:List Oper} (S:World→Prop) (f:List Nat) (hm:P.follows .mixedOrders=true) (hok:RC l.toArray (sY f) (nA f)=true) (hnd:Nb l.toArray=true) (hq:¬LetsOut Q)
  (hS:S w.drew) (h:rT P l.toArray S (Q .normal) (marked f l) a w.drew):(Code.region id l.toArray true).wpIn (Fence.wide.inRound lp) n P Q a w:=by
 refine wpIn_region_draw fun t=>Ku (Kv hnd) hq _ a _ ?_
 simp only [Region.schedule,hm,Bool.true_or,if_true];refine wpAny_sound l.toArray.size t _ a _ ?_;have h2:=Jo (ops:=l.toArray) (sY f) (nA f) (marked f l) 0 a w.drew (fun j x hj=>by simpa using Jp f l j x hj) h;rw [Jq] at h2;have h3:Lf P l.toArray S (sY f) (nA f) (Q .normal) (List.range l.toArray.size) a w.drew:=by simpa [List.range_eq_range'] using h2
 have Mu:q9 l.toArray (Array.replicate l.toArray.size false)=List.range l.toArray.size:=by
  unfold q9;refine List.filter_eq_self.2 fun i hi=>?_
  have:=List.mem_range.1 hi
  simp at this
  simp [this]
 refine LZ hok l.toArray.size (Array.replicate l.toArray.size false) a _ (by simp) ?_ (by rw [Mu];simp) (fun _ _ _=>hS) (by rw [Mu];exact h3);intro i hi;rw [CA] at hi;cases hi
theorem MG {α:Type} {C:yB α} {W0 W:World} {L:List pY} {A:Option Addr} {xs:List α} (hb:Below W0.heap.size W0 W) (h:SL W0 C A xs):∀w,Mem W0.heap.size W w L→SL w C A xs:=fun _ M=>h.below (hb.trans M.low)
theorem Mem.back {b:Nat} {W V w:World} {L L':List pY} (M:Mem b W V L) (M':Mem b V w L'):Mem b W w L':=⟨M.low.trans M'.low,M.UX.trans M'.UX,M.bs,M'.has,M'.up,M'.one⟩
theorem aCJ (o:Obj):aA8 o=o.isCells:=by cases o <;> rfl
theorem Mem.others {b:Nat} {W w:World} {L:List pY} (M:Mem b W w L):KeepsOthers W w:=⟨M.low.size,fun k o hk ho=>M.UX k o hk (by rw [aCJ];exact ho)⟩
theorem Nc {L L':List pY} (hf:L'.map pY.foot=L.map pY.foot) {i:Nat} {e:pY} (h:L'[i]? = some e):∃e0,L[i]? = some e0∧e0.foot=e.foot:=by
 have h1:(L'.map pY.foot)[i]? = some e.foot:=by rw [List.getElem?_map,h];rfl
 rw [hf,List.getElem?_map,Option.map_eq_some_iff] at h1;exact h1
theorem Mem.round {b:Nat} {W w V:World} {L L':List pY} (M:Mem b W w L) (hf:L'.map pY.foot=L.map pY.foot) (hb:Below b W V) (has:∀(i:Nat) (e:pY),L'[i]? = some e→pY.holds V e):Mem b V V L':=
  ⟨Below.refl _ _,BJ.refl _,Nat.le_trans M.bs hb.size,has,
   fun i e g h hg=>by obtain ⟨e0,h0,h1⟩:=Nc hf h;exact M.up i e0 g h0 (h1.trans hg),
   fun i j e e' g h h' hg hg'=>by
     obtain ⟨e0,h0,h1⟩:=Nc hf h
     obtain ⟨e0',h0',h1'⟩:=Nc hf h'
     exact M.one i j e0 e0' g h0 h0' (h1.trans hg) (h1'.trans hg')⟩
theorem Xg {β:Type} {b B:Nat} {W w:World} (f:β→List pY) {L:List pY} (M:Mem b W w L) (hB:w.heap.size=B) (hf:∀s,(f s).map pY.foot=L.map pY.foot) :
  OwnFrom B (fun (s:β) V=>Below b W V∧∀(i:Nat) (e:pY),(f s)[i]? = some e→pY.holds V e):=fun s V V' row hs hg hr=>by
 obtain ⟨h1,h2⟩:=hs;refine ⟨h1.grown hg (Nat.le_trans M.bs h1.size) (fun k hk=>by have:=(hr k hk).1;have:=M.sz;omega),fun i e h=>pY.keep (h2 i e h) fun g hg'=>hg.block g ?_ fun e2=>?_⟩
 ·exact pY.lt (h2 i e h) hg'
 ·have h3:=(hr g e2.symm).1;obtain ⟨e0,h0,h1'⟩:=Nc (hf s) h;have:=M.Mv i e0 g h0 (h1'.trans hg')
  omega
theorem Kd.ps2 {D:List Deferred} {N:Nat} {l:List (Nat × Value)} {i j:Nat} {u v:Value} (K:Kd D a N l) (hi:Nat.blt i N=true) (hj:Nat.blt j N=true) :
  Kn { tmps:=(#[i,j].zip #[u,v]).foldl (fun t (p,v)=>t.setIfInBounds p v) a.tmps,defers:=[] } N ((j,v)::(i,u)::l):=by
 have h1:=(K.put (d:=some i) (by simpa [Pa] using hi) u).put (d:=some j) (by simpa [Pa] using hj) v;have e:(#[i,j].zip #[u,v]).foldl (fun t (p,v)=>t.setIfInBounds p v) a.tmps=((a.put (some i) u).put (some j) v).tmps:=by simp [Act.put]
 exact ⟨rfl,by show Array.size _=N;rw [e];exact h1.size,fun s v hs=>by show Array.getD _ s undef=v;rw [e];exact h1.get s v hs⟩
theorem Kd.mark {N:Nat} {l:List (Nat × Value)} (K:Kn a N l) (d:Deferred):Kd [d] { a with defers:=d::a.defers } N l:=⟨by show d::a.defers=[d];rw [K.defs],K.size,K.get⟩
theorem aDp {ol:List Oper} {x:Operand} (ho:o.op = .assign x) (hg:o.guard=none) (h:wpList P ops Q ol (a.put o.dst (a.eval x)) w):wpList P ops Q (o::ol) a w:=by
 have hw:Region.wanted o (yielded ops a.tmps)=true:=by simp [Region.wanted,hg]
 simp only [wpList,hw,if_true];refine .inl ?_;show o.upon P a _ Q ((execOp a.eval o).run P w);have:(execOp a.eval o).run P w = .ok (.value (a.eval x)) w:=by unfold execOp;simp [ho]
 rw [this];exact h
theorem aAq {fn:Func} {Rp:Ending→World→Prop} {D N:Nat} {l:List (Nat × Value)} {r1:ResultVar} {v1:Value} (K:Kd [{ target:=.collected D,args:=#[] }] a N l) (hK:w.heap[D]? = some (.deferred (some []))) (hr:fn.results = #[r1])
  (h1:Fk P a (w.putObj D (.deferred none)) r1 v1) (h:Rp (.returned v1) (w.putObj D (.deferred none))):bodyPostM Fence.wide n P fn Rp .ret a w:=by
 show LeavesInM Fence.wide n P fn a.tmps Rp a.defers .returning w;rw [K.defs];refine ⟨by simp,.inl ⟨_,_,rfl,run_takeDeferred hK,?_⟩⟩;refine ⟨v1,?_,h⟩;unfold Fk at h1;rw [Dg,hr];simp [h1]
theorem Mem.aE7 {b:Nat} {W w:World} {L:List pY} (M:Mem b W w L) {D:Nat} (hb:b≤D) (hK:w.heap[D]? = some (.deferred (some []))) {i g:Nat} {t:TypeId} {cs:List Value} (h:L[i]? = some (.blk g t cs)):jM (w.putObj D (.deferred none)) g t cs.toArray:=by
 have hne:g≠D:=fun e=>by
  have h1:w.heap[g]? = some (.cells cs.toArray t):=M.bN h;rw [e,hK] at h1;cases h1
 exact (World.putObj_heap_other hne).trans (M.bN h)
theorem JR {b:Nat} {W w:World} (h:Below b W w) {D:Nat} (hb:b≤D) (o:Obj):Below b W (w.putObj D o):=
 ⟨h.os,h.tape,h.output,by simpa using h.size,fun k hk=>(World.putObj_heap_other (by omega)).trans (h.block k hk)⟩
theorem Mem.fin {W w:World} (h:Below W.heap.size W w):Mem W.heap.size W w []:=⟨h,BJ.below h,Nat.le_refl _,fun i e he=>by simp at he,fun i e g he=>by simp at he,fun i j e e' g he=>by simp at he⟩
theorem SI {fn:Func} {code:Code} {fid:FuncId} {args:Array Value} {N:Nat} {Rp:Ending→World→Prop} (hf:P.funcs[fid]? = some fn) (hb:fn.body=some code) (hN:fn.ntmps=N) (hs:Nat.ble args.size N=true)
  (h:∀a,Kn a N (L1 0 args.toList)→code.wp P (bodyPostM Fence.wide 3 P fn Rp) a w):Calls P fid args w Rp:=by
 refine callsIn_wide.1 (callsIn_of_wp_marks (n:=3) hf hb trivial (wpIn_wide.2 ?_) rfl);rw [hN];exact h _ (Kd.start args N hs)
theorem Uw {f:FuncId} (hf:kY P f=true) (args:Array Value) (w:World):(callFunc f args).run P w = .ok (.enter f args) w:=by
 unfold kY at hf
 split at hf
 ·rename_i fn hfn
  simp only [Bool.and_eq_true,bne_iff_ne,ne_eq] at hf;obtain ⟨b,hb⟩:=Option.isSome_iff_exists.1 hf.1
  simp [callFunc,hfn,hb,hf.2]
 ·cases hf
theorem SJ {L:List Nat} {A B C:World} (h1:VX L A B) (h2:VX L B C):VX L A C:=fun k hk hlt=>by
 have e:=h1 k hk hlt
 have hB:k<B.heap.size:=by
  have hA:A.heap[k]? = some A.heap[k]:=Array.getElem?_eq_getElem hlt;rw [hA] at e;exact (Array.getElem?_eq_some_iff.1 e).1
 exact (h2 k hk hB).trans e
theorem Kd.aJl {D:List Deferred} {N:Nat} {l:List (Nat × Value)} {x1 x2:Operand} {d1 d2:Nat} {v1 v2:Value} (K:Kd D a N l) (h1:kX l x1=some v1) (hd1:Nat.blt d1 N=true) (h2:kX ((d1,v1)::l) x2=some v2) (hd2:Nat.blt d2 N=true) :
  Kd D ((a.put (some d1) (a.eval x1)).put (some d2) ((a.put (some d1) (a.eval x1)).eval x2)) N ((d2,v2)::(d1,v1)::l):=by
 have K1:=K.put (d:=some d1) (by simpa [Pa] using hd1) v1;rw [K.ev h1];have K2:=K1.put (d:=some d2) (by simpa [Pa] using hd2) v2;have e:(a.put (some d1) v1).eval x2=v2:=K1.ev h2;rw [e];exact K2
end
theorem Ra:∀xs:List Int,(cI .i64).all xs=VI xs
 | []=>rfl
 | x::xs=>by
  have:=Ra xs;simp only [yB.all,VI,List.flatMap_cons,List.map_cons] at this ⊢;rw [this];rfl
theorem aAx {w:World} {A:Option Addr} {xs:List Int} (h:SL w (cI .i64) A xs):RI w 0 A xs.length xs:=by
 refine ⟨by simp [VI],fun hn=>?_⟩;obtain ⟨b,o,hA,hc⟩:=h hn;have hall:=Ra xs;rw [hall] at hc;refine ⟨b,o,hA,Nat.zero_le _,?_,hc⟩;have h0:(VI xs)[0]? = some (.int .i64 xs[0]):=by simp [VI,List.getElem?_eq_getElem hn]
 exact block_lt_of_cell (hc 0 _ h0)
theorem aAy {w:World} {A:Option Addr} {l:List (Int × Int)} (h:SL w hG A l):RS w 0 A l.length l:=by
 refine ⟨rfl,fun hn=>?_⟩;obtain ⟨b,o,hA,hc⟩:=h hn
 have key:∀(k:Nat) x y,l[k]? = some (x,y)→(hG.all l)[k*2]? = some (.int .i64 x)∧(hG.all l)[k*2+1]? = some (.int .i64 y):=fun k x y hk=>by
  exact ⟨by simpa [hG] using yB.BM hG l k 0 (x,y) _ hk rfl,yB.BM hG l k 1 (x,y) _ hk rfl⟩
 have h0:=(key 0 l[0].1 l[0].2 (List.getElem?_eq_getElem hn)).1;refine ⟨b,o,hA,Nat.zero_le _,block_lt_of_cell (hc _ _ h0),fun k x y hk=>?_⟩;obtain ⟨h1,h2⟩:=key k x y hk;exact ⟨hc _ _ h1,by have:=hc _ _ h2;rwa [←Nat.add_assoc] at this⟩
theorem Mem.aJo {w w':World} {A:Option Addr} {n c:Nat} {xs:List Int} (hb:Below w.heap.size w w') (h:OI w' w.heap.size A n c xs) (hn:n≤maxLen):Mem w.heap.size w w' [.row 3 1 A xs.length c ((cI .i64).all xs)]:=by
 obtain ⟨g,rfl,rfl,hg,hl,hB⟩:=h;have hall:=Ra xs
 have M1:Mem w.heap.size w w' [.blk g 3 (VI xs)]:=by
  refine (Mem.aBi hb).cons hB fun g' hg'=>?_
  simp [pY.foot] at hg'
  subst hg';exact ⟨hg,fun i e h=>by simp at h⟩
 exact M1.oI 0 rfl (cI .i64) xs hall hl rfl hn
theorem xB (N:Nat) (gD jA:Int) (eI:List Int) (dW:Option Addr) (dX:Nat) (l:List (Int × Int)) (A_l:Option Addr) (c_l:Nat) (w0:World) (jW:SL w0 (cI .i64) dW eI) (rF:eI.length≤dX) (R_l:SL w0 hG A_l l) (C_l:l.length≤c_l) (r:Int × Int × List Int × Int) (h:gJ N gD jA eI l=some r) :
  Calls Tryz.prog 36 #[.agg #[.int .i64 gD,.int .i64 jA,.slice dW eI.length dX],.slice A_l l.length c_l] w0 fun e w'=>∃v,e = .returned v∧∃A2 c2,v = .tuple #[.agg #[.int .i64 r.1,.int .i64 r.2.1,.slice A2 r.2.2.1.length c2],.int .i64 r.2.2.2]∧Mem w0.heap.size w0 w' [.row 3 1 A2 r.2.2.1.length c2 ((cI .i64).all r.2.2.1)]:=by
 unfold gJ at h
 split at h
 ·cases h
 rename_i hn
 have hn':eI.length≤maxLen:=by simp only [maxLen];omega
 have no:∀{w':World} (k:Int),Below w0.heap.size w0 w'→∃v,Ending.returned (.tuple #[Kw,.int .i64 k])=Ending.returned v∧∃A2 c2,v = .tuple #[.agg #[.int .i64 (0:Int),.int .i64 (0:Int),.slice A2 ([]:List Int).length c2],.int .i64 k]∧Mem w0.heap.size w0 w' [.row 3 1 A2 ([]:List Int).length c2 ((cI .i64).all [])]:=
  fun k hb=>⟨_,rfl,none,0,rfl,Mem.aK 3 1 (cI .i64) (Mem.aBi hb)⟩
 split at h
 ·rename_i hf
  cases h;refine (SO gD jA dW A_l eI.length dX l.length c_l eI l w0 (aAx jW) (aAy R_l) hn' hf).mono ?_;rintro e w' ⟨rfl,hb⟩;exact no 1 hb
 rename_i hf
 have hf':bW gD jA eI=true:=by simpa using hf
 split at h
 ·rename_i hm
  cases h;refine (SQ gD jA dW A_l eI.length dX l.length c_l eI l w0 (aAx jW) (aAy R_l) hn' hf' hm).mono ?_;rintro e w' ⟨rfl,hb⟩;exact no 2 hb
 rename_i hm
 obtain ⟨⟨h1,h2,h3,h4⟩,_,_⟩:=rU.1 hf';obtain ⟨m,rfl⟩:∃m:Nat,gD=m:=⟨gD.toNat,by omega⟩
 have hr:=SR jA dW A_l eI.length dX l.length c_l eI l w0 m (aAx jW) (aAy R_l) hn' hf' (by omega);refine hr.mono ?_;intro e w' hp;unfold vG at hp
 split at h
 ·rename_i ha
  cases h;rw [if_neg (by simp [ha])] at hp;obtain ⟨rfl,hb⟩:=hp;exact no 3 hb
 ·rename_i ha
  cases h;rw [if_pos (by simpa using ha)] at hp;obtain ⟨A',c',rfl,⟨_,ho⟩,hb⟩:=hp;have hl:((List.range eI.length).map (sO (m:Int) jA l eI)).length=eI.length:=by simp
  refine ⟨_,rfl,A',c',by rw [hl],Mem.aJo hb ho hn'⟩
end
end Go.Proofs.YtpmnfhifmmfglacGreatDoor
