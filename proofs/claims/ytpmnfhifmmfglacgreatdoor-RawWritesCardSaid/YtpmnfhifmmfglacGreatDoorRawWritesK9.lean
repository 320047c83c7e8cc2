/- Texts of the claim RawWrites, joined and made small by a program. -/
import Derived.Shelf.Strconv.ErrVarAll
import Derived.Shelf.Strconv.Itoa3
import Derived.Shelf.Strings.Builder1
import Derived.Shelf.Strings.Count
import Derived.Shelf.Strings.Search2
import Derived.Shelf.Strings.Search3
import Derived.Shelf.Strings.SlTrimAscii
import Derived.Test.YtpmnfhifmmfglacGreatDoorChecked
import Derived.Test.YtpmnfhifmmfglacGreatDoorProg
import Derived.Test.YtpmnfhifmmfglacGreatDoorRawWritesK4
import Derived.Test.YtpmnfhifmmfglacGreatDoorRawWritesK5
import Derived.Test.YtpmnfhifmmfglacGreatDoorRawWritesK8
set_option linter.unusedVariables false
set_option linter.unusedSimpArgs false
set_option linter.unusedSectionVars false
set_option maxRecDepth 100000
set_option maxHeartbeats 8000000
namespace Go.Proofs.YtpmnfhifmmfglacGreatDoor
section
open Go.RowKit
theorem z1 : nR Tryz.prog 1 = some [.nilFunc] := by kernel_rfl
theorem z2 : nR Tryz.prog 2 = some [.int .i64 0] := by kernel_rfl
theorem nO : Hw Tryz.prog 3 = true := by kernel_rfl
theorem z3 : nR Tryz.prog 3 = some [.int .i64 0] := by kernel_rfl
theorem zi3 : (Tryz.prog.info? 3).bind (·.zero) = some (.int .i64 0) := by kernel_rfl
theorem W4 : Tryz.prog.underlying 3 = some (.int .i64) := by kernel_rfl
theorem yT : (Tryz.prog.info? 3).map (·.size) = some 1 := by kernel_rfl
theorem ZT : Hw Tryz.prog 4 = true := by kernel_rfl
theorem z4 : nR Tryz.prog 4 = some [.bool false] := by kernel_rfl
theorem sc5 : Hw Tryz.prog 5 = true := by kernel_rfl
theorem z5 : nR Tryz.prog 5 = some [.int .u8 0] := by kernel_rfl
theorem Kk : Tryz.prog.underlying 5 = some (.int .u8) := by kernel_rfl
theorem ZU : (Tryz.prog.info? 5).bind (·.zero) = some (.int .u8 0) := by kernel_rfl
theorem sz5 : (Tryz.prog.info? 5).map (·.size) = some 1 := by kernel_rfl
theorem Hn : Hw Tryz.prog 9 = true := by kernel_rfl
theorem z9 : nR Tryz.prog 9 = some [.string (bs ([] : List UInt8))] := by kernel_rfl
theorem pA : Tryz.prog.underlying 9 = some .string := by kernel_rfl
theorem sz9 : (Tryz.prog.info? 9).map (·.size) = some 1 := by kernel_rfl
theorem z20 : nR Tryz.prog 20 = some [.nilIface] := by kernel_rfl
theorem z21 : nR Tryz.prog 21 = some [.int .i32 0] := by kernel_rfl
theorem Ho : Tryz.prog.underlying 22 = some (.array 4 3) := by kernel_rfl
theorem El : Hw Tryz.prog 23 = true := by kernel_rfl
theorem Ai : Kg Tryz.prog 23 92 2 16 = true := by kernel_rfl
theorem Wq : ∃ e, Tryz.prog.underlying 23 = some (.slice e) := ⟨_, (oS Ai).1⟩
theorem JI : Tryz.prog.underlying 24 = some (.array 3 3) := by kernel_rfl
theorem FQ : Tryz.prog.underlying 25 = some (.array 9 3) := by kernel_rfl
theorem Fs : Hw Tryz.prog 26 = true := by kernel_rfl
theorem sI : Kg Tryz.prog 26 47 2 16 = true := by kernel_rfl
theorem Y3 : ∃ e, Tryz.prog.underlying 26 = some (.slice e) := ⟨_, (oS sI).1⟩
theorem Mt : BA Tryz.prog 28 0 = some 0 := by kernel_rfl
theorem IU : BA Tryz.prog 28 1 = some 1 := by kernel_rfl
theorem IV : BA Tryz.prog 28 2 = some 5 := by kernel_rfl
theorem xW : BA Tryz.prog 28 3 = some 6 := by kernel_rfl
theorem IW : BA Tryz.prog 28 4 = some 7 := by kernel_rfl
theorem IX : BA Tryz.prog 28 5 = some 10 := by kernel_rfl
theorem Aw : BA Tryz.prog 28 6 = some 19 := by kernel_rfl
theorem IY : BA Tryz.prog 28 7 = some 20 := by kernel_rfl
theorem RW : Hw Tryz.prog 29 = true := by kernel_rfl
theorem fU : Kg Tryz.prog 29 3 1 8 = true := by kernel_rfl
theorem Mu : ∃ e, Tryz.prog.underlying 29 = some (.slice e) := ⟨_, (oS fU).1⟩
theorem Wr : Gc Tryz.prog 31 3 = true := by kernel_rfl
theorem z31 : nR Tryz.prog 31 = some [.int .i64 0, .int .i64 0, .slice none 0 0] := by kernel_rfl
theorem RX : Hw Tryz.prog 35 = true := by kernel_rfl
theorem xI : Kg Tryz.prog 35 9 1 16 = true := by kernel_rfl
theorem aBU : ∃ e, Tryz.prog.underlying 35 = some (.slice e) := ⟨_, (oS xI).1⟩
theorem rB : Gc Tryz.prog 37 28 = true := by kernel_rfl
theorem z37 : nR Tryz.prog 37 = some [.int .i64 0, .int .i64 0, .int .i64 0, .int .i64 0, .int .i64 0, .slice none 0 0, .slice none 0 0, .int .i64 0, .int .i64 0, .int .i64 0, .int .i64 0, .int .i64 0, .int .i64 0, .slice none 0 0, .int .i64 0, .int .i64 0, .int .i64 0, .int .i64 0, .int .i64 0, .int .i64 0, .int .i64 0, .int .i64 0, .int .i64 0, .int .i64 0, .int .i64 0, .int .i64 0, .slice none 0 0, .int .i64 0] := by kernel_rfl
theorem Qx : BA Tryz.prog 37 0 = some 0 := by kernel_rfl
theorem Qy : BA Tryz.prog 37 1 = some 1 := by kernel_rfl
theorem Qz : BA Tryz.prog 37 2 = some 2 := by kernel_rfl
theorem QA : BA Tryz.prog 37 3 = some 3 := by kernel_rfl
theorem QB : BA Tryz.prog 37 4 = some 4 := by kernel_rfl
theorem Gt : BA Tryz.prog 37 5 = some 5 := by kernel_rfl
theorem Y4 : fdT Tryz.prog 37 6 = some (35, 6) := by kernel_rfl
theorem Gu : BA Tryz.prog 37 6 = some 6 := by kernel_rfl
theorem Mv : BA Tryz.prog 37 7 = some 7 := by kernel_rfl
theorem wM : Hw Tryz.prog 38 = true := by kernel_rfl
theorem z38 : nR Tryz.prog 38 = some [.int .i64 0] := by kernel_rfl
theorem z46 : nR Tryz.prog 46 = some [.int .i64 0, .int .i64 0] := by kernel_rfl
theorem KA : Gc Tryz.prog 47 2 = true := by kernel_rfl
theorem z47 : nR Tryz.prog 47 = some [.int .i64 0, .int .i64 0] := by kernel_rfl
theorem aEr : (Tryz.prog).eqGuardType (Tryz.prog).depth 47 = false := by kernel_rfl
theorem aBV (x0 y0 x1 y1 : Int) (w : World) : (Op.equalIn 10000 47 (.agg #[.int .i64 x0, .int .i64 x1]) (.agg #[.int .i64 y0, .int .i64 y1])).run Tryz.prog w = .ok (decide (x0 = y0) && decide (x1 = y1)) w := by
 have hp : Tryz.prog.stoodInHeld 47 = false := by kernel_rfl
 have ht : Tryz.prog.underlying 47 = some (.struct (Tryz.prog.fieldsOf 47)) := by kernel_rfl
 rw [run_equalIn_agg (d := 9999) _ _ _ _ ht hp]
 by_cases h0 : x0 = y0 <;> by_cases h1 : x1 = y1 <;> simp [Program.fieldsOf, Tryz.underlying47, go_sem, Op.eqFields, h0, h1]
theorem z51 : nR Tryz.prog 51 = some [.nilFunc] := by kernel_rfl
theorem z70 : nR Tryz.prog 70 = some [.nilFunc] := by kernel_rfl
theorem z72 : nR Tryz.prog 72 = some [.nilFunc] := by kernel_rfl
theorem RY : Gc Tryz.prog 92 2 = true := by kernel_rfl
theorem OJ : nR Tryz.prog 92 = some [.int .i64 0, .int .i64 0] := by kernel_rfl
theorem aEs : (Tryz.prog).eqGuardType (Tryz.prog).depth 92 = false := by kernel_rfl
theorem aBW (x0 y0 x1 y1 : Int) (w : World) : (Op.equalIn 10000 92 (.agg #[.int .i64 x0, .int .i64 x1]) (.agg #[.int .i64 y0, .int .i64 y1])).run Tryz.prog w = .ok (decide (x0 = y0) && decide (x1 = y1)) w := by
 have hp : Tryz.prog.stoodInHeld 92 = false := by kernel_rfl
 have ht : Tryz.prog.underlying 92 = some (.struct (Tryz.prog.fieldsOf 92)) := by kernel_rfl
 rw [run_equalIn_agg (d := 9999) _ _ _ _ ht hp]
 by_cases h0 : x0 = y0 <;> by_cases h1 : x1 = y1 <;> simp [Program.fieldsOf, Tryz.underlying92, go_sem, Op.eqFields, h0, h1]
theorem RZ : Kg Tryz.prog 94 96 2 16 = true := by kernel_rfl
theorem aEt : ∃ e, Tryz.prog.underlying 94 = some (.slice e) := ⟨_, (oS RZ).1⟩
theorem aBX : Gc Tryz.prog 96 2 = true := by kernel_rfl
theorem z96 : nR Tryz.prog 96 = some [.int .i64 0, .int .i64 0] := by kernel_rfl
theorem Ug : Tryz.prog.underlying 96 = some (.array 2 3) := by kernel_rfl
theorem z105 : nR Tryz.prog 105 = some [.nilFunc] := by kernel_rfl
theorem z116 : nR Tryz.prog 116 = some [.nilFunc] := by kernel_rfl
theorem EK : Hw Tryz.prog 123 = true := by kernel_rfl
theorem lF : Kg Tryz.prog 123 5 1 1 = true := by kernel_rfl
theorem aBY : ∃ e, Tryz.prog.underlying 123 = some (.slice e) := ⟨_, (oS lF).1⟩
theorem z124 : nR Tryz.prog 124 = some [.slice none 0 0] := by kernel_rfl
theorem z127 : nR Tryz.prog 127 = some [.nilFunc] := by kernel_rfl
theorem vX : Hw Tryz.prog 131 = true := by kernel_rfl
theorem z131 : nR Tryz.prog 131 = some [.pointer none] := by kernel_rfl
theorem Dd : BA Tryz.prog 133 0 = some 0 := by kernel_rfl
theorem z138 : nR Tryz.prog 138 = some [.int .i64 0, .int .i64 0, .int .i64 0, .int .i64 0, .int .i64 0] := by kernel_rfl
theorem Lt : Tryz.prog.underlying 138 = some (.array 5 3) := by kernel_rfl
theorem z139 : nR Tryz.prog 139 = some [.nilFunc] := by kernel_rfl
theorem D3 : Hw Tryz.prog 141 = true := by kernel_rfl
theorem z141 : nR Tryz.prog 141 = some [.pointer none] := by kernel_rfl
theorem NT : BA Tryz.prog 144 0 = some 0 := by kernel_rfl
theorem De : BA Tryz.prog 144 1 = some 1 := by kernel_rfl
theorem z146 : nR Tryz.prog 146 = some [.pointer none] := by kernel_rfl
theorem z164 : nR Tryz.prog 164 = some [.nilFunc] := by kernel_rfl
theorem aBZ : Tryz.prog.underlying 227 = some (.array 8 3) := by kernel_rfl
theorem QC : Tryz.prog.underlying 272 = some (.map 9 3) := by kernel_rfl
theorem aEu : (Tryz.prog).eqGuardType (Tryz.prog).depth 22 = false := by kernel_rfl
theorem aB0 (x0 y0 x1 y1 x2 y2 x3 y3 : Int) (w : World) : (Op.equalIn 10000 22 (.agg #[.int .i64 x0, .int .i64 x1, .int .i64 x2, .int .i64 x3]) (.agg #[.int .i64 y0, .int .i64 y1, .int .i64 y2, .int .i64 y3])).run Tryz.prog w = .ok (decide ([x0, x1, x2, x3] = [y0, y1, y2, y3])) w := Uc Ho W4 yT [x0, x1, x2, x3] [y0, y1, y2, y3] rfl rfl w
theorem aEv : (Tryz.prog).eqGuardType (Tryz.prog).depth 24 = false := by kernel_rfl
theorem aB1 (x0 y0 x1 y1 x2 y2 : Int) (w : World) : (Op.equalIn 10000 24 (.agg #[.int .i64 x0, .int .i64 x1, .int .i64 x2]) (.agg #[.int .i64 y0, .int .i64 y1, .int .i64 y2])).run Tryz.prog w = .ok (decide ([x0, x1, x2] = [y0, y1, y2])) w := Uc JI W4 yT [x0, x1, x2] [y0, y1, y2] rfl rfl w
theorem aEw : (Tryz.prog).eqGuardType (Tryz.prog).depth 25 = false := by kernel_rfl
theorem aB2 (x0 y0 x1 y1 x2 y2 x3 y3 x4 y4 x5 y5 x6 y6 x7 y7 x8 y8 : Int) (w : World) : (Op.equalIn 10000 25 (.agg #[.int .i64 x0, .int .i64 x1, .int .i64 x2, .int .i64 x3, .int .i64 x4, .int .i64 x5, .int .i64 x6, .int .i64 x7, .int .i64 x8]) (.agg #[.int .i64 y0, .int .i64 y1, .int .i64 y2, .int .i64 y3, .int .i64 y4, .int .i64 y5, .int .i64 y6, .int .i64 y7, .int .i64 y8])).run Tryz.prog w = .ok (decide ([x0, x1, x2, x3, x4, x5, x6, x7, x8] = [y0, y1, y2, y3, y4, y5, y6, y7, y8])) w := Uc FQ W4 yT [x0, x1, x2, x3, x4, x5, x6, x7, x8] [y0, y1, y2, y3, y4, y5, y6, y7, y8] rfl rfl w
theorem W5 : lZ Tryz.prog 16 = true := by kernel_rfl
theorem W6 : lZ Tryz.prog 21 = true := by kernel_rfl
theorem Uh : lZ Tryz.prog 23 = true := by kernel_rfl
theorem W7 : lZ Tryz.prog 24 = true := by kernel_rfl
theorem Ui : lZ Tryz.prog 47 = true := by kernel_rfl
theorem W8 : lZ Tryz.prog 48 = true := by kernel_rfl
theorem W9 : lZ Tryz.prog 49 = true := by kernel_rfl
theorem Xa : lZ Tryz.prog 50 = true := by kernel_rfl
theorem Uj : lZ Tryz.prog 57 = true := by kernel_rfl
theorem Xb : lZ Tryz.prog 59 = true := by kernel_rfl
theorem Uk : lZ Tryz.prog 74 = true := by kernel_rfl
theorem Xc : lZ Tryz.prog 75 = true := by kernel_rfl
theorem QD : lZ Tryz.prog 77 = true := by kernel_rfl
theorem Xd : lZ Tryz.prog 78 = true := by kernel_rfl
theorem Ul : lZ Tryz.prog 79 = true := by kernel_rfl
theorem CI : lZ Tryz.prog 80 = true := by kernel_rfl
theorem Um : lZ Tryz.prog 81 = true := by kernel_rfl
theorem D4 : lZ Tryz.prog 82 = true := by kernel_rfl
theorem rM : lZ Tryz.prog 83 = true := by kernel_rfl
theorem HZ : lZ Tryz.prog 84 = true := by kernel_rfl
theorem gY : lZ Tryz.prog 85 = true := by kernel_rfl
theorem NU : lZ Tryz.prog 86 = true := by kernel_rfl
theorem NV : lZ Tryz.prog 87 = true := by kernel_rfl
theorem Xe : lZ Tryz.prog 88 = true := by kernel_rfl
theorem Xf : lZ Tryz.prog 89 = true := by kernel_rfl
theorem Xg : lZ Tryz.prog 90 = true := by kernel_rfl
theorem Xh : lZ Tryz.prog 91 = true := by kernel_rfl
theorem Un : lZ Tryz.prog 92 = true := by kernel_rfl
theorem uZ : lZ Tryz.prog 93 = true := by kernel_rfl
theorem Lu : lZ Tryz.prog 94 = true := by kernel_rfl
theorem H0 : lZ Tryz.prog 95 = true := by kernel_rfl
theorem Uo : lZ Tryz.prog 98 = true := by kernel_rfl
theorem FR : lZ Tryz.prog 107 = true := by kernel_rfl
theorem Up : lZ Tryz.prog 108 = true := by kernel_rfl
theorem Uq : lZ Tryz.prog 120 = true := by kernel_rfl
theorem JJ : lZ Tryz.prog 124 = true := by kernel_rfl
theorem Ur : lZ Tryz.prog 126 = true := by kernel_rfl
theorem Mw : lZ Tryz.prog 132 = true := by kernel_rfl
theorem EL : lZ Tryz.prog 141 = true := by kernel_rfl
theorem Mx : lZ Tryz.prog 142 = true := by kernel_rfl
theorem Us : lZ Tryz.prog 147 = true := by kernel_rfl
theorem Pq : lZ Tryz.prog 148 = true := by kernel_rfl
theorem Ut : lZ Tryz.prog 150 = true := by kernel_rfl
theorem Uu : lZ Tryz.prog 158 = true := by kernel_rfl
theorem Uv : lZ Tryz.prog 159 = true := by kernel_rfl
theorem Uw : lZ Tryz.prog 164 = true := by kernel_rfl
theorem Ux : lZ Tryz.prog 165 = true := by kernel_rfl
theorem Uy : lZ Tryz.prog 166 = true := by kernel_rfl
theorem Uz : lZ Tryz.prog 174 = true := by kernel_rfl
theorem JK : lZ Tryz.prog 175 = true := by kernel_rfl
theorem Pr : lZ Tryz.prog 176 = true := by kernel_rfl
theorem Ps : lZ Tryz.prog 177 = true := by kernel_rfl
theorem UA : lZ Tryz.prog 178 = true := by kernel_rfl
theorem UB : lZ Tryz.prog 192 = true := by kernel_rfl
theorem UC : lZ Tryz.prog 193 = true := by kernel_rfl
theorem UD : lZ Tryz.prog 209 = true := by kernel_rfl
theorem UE : lZ Tryz.prog 220 = true := by kernel_rfl
theorem cc9 : Program.concrete Tryz.prog 9 = true := by kernel_rfl
theorem Ck : Program.concrete Tryz.prog 137 = true := by kernel_rfl
theorem bE {p : Prop} (h : p := by kernel_rfl) : p := h
theorem aE {p : Prop} (h : p := by decide) : p := h
abbrev iC := @wpList_nil
theorem H1 (b : Bool) : b = true ∨ b = false := Bool.eq_false_or_eq_true b
theorem lJ {P : Program} {D : List Deferred} {a : Act} {w : World} {N : Nat} {l : List (Nat × Value)} {o : Oper} {x : Operand} {post : Value → World → Prop} {f : FuncId} {vs : List Value} {args : Array Operand} {ts : Array TypeId} (hf : lZ P f = true) (K : Kd D a N l) (h : Calls P f vs.toArray w fun e w' => ∃ v, e = .returned v ∧ post v w') (ho : o.op = .call { callee := .value x, args := args, argTypes := ts } := by exact rfl) (hx : kQ l x = some (.func (.func f) #[] #[]) := by exact rfl) (hargs : args.toList.map (kQ l) = vs.map some := by exact rfl) : Ac P o a w post := p8 (cap := []) ho hf K hx hargs (by rw [List.append_nil]; exact h)
theorem Dz {P : Program} {D : List Deferred} {a : Act} {w : World} {N : Nat} {l : List (Nat × Value)} {o : Oper} {x : Operand} {Pn : List PanicEntry → World → Prop} {f : FuncId} {vs : List Value} {args : Array Operand} {ts : Array TypeId} (hf : lZ P f = true) (K : Kd D a N l) (h : Calls P f vs.toArray w fun e w' => ∃ ch, e = .panicked ch ∧ Pn ch w') (ho : o.op = .call { callee := .value x, args := args, argTypes := ts } := by exact rfl) (hx : kQ l x = some (.func (.func f) #[] #[]) := by exact rfl) (hargs : args.toList.map (kQ l) = vs.map some := by exact rfl) : Bo P o a w Pn := Wp (cap := []) ho hf K hx hargs (by rw [List.append_nil]; exact h)

structure Ct (n : Nat) (p : Prop) : Prop where
 out : p
structure Hq (p : Prop) : Prop where
 out : p
inductive KS (l : List (Nat × Value)) : List (Nat × Value) → Prop where
 | nil : KS l []
 | cons {s : Nat} {v : Value} {t : List (Nat × Value)} (h : yR l s = some v) (k : KS l t) : KS l ((s, v) :: t)
inductive Seg : List Value → Nat → Nat → List Value → Prop where
 | nil {l : List Value} : Seg l 0 0 []
 | cons {v : Value} {l r : List Value} {n : Nat} (h : Seg l 0 n r) : Seg (v :: l) 0 (n + 1) (v :: r)
 | skip {v : Value} {l r : List Value} {o n : Nat} (h : Seg l o n r) : Seg (v :: l) (o + 1) n r
theorem Seg.eq : ∀ {l : List Value} {o n : Nat} {r : List Value}, Seg l o n r → (l.drop o).take n = r ∧ r.length = n
 | _, _, _, _, .nil => ⟨rfl, rfl⟩
 | _, _, _, _, .cons h => by have := h.eq; simp at this; simp [this]
 | _, _, _, _, .skip h => by have := h.eq; simpa using this
theorem KS.get {l : List (Nat × Value)} : ∀ {t : List (Nat × Value)}, KS l t → ∀ s v, yR t s = some v → yR l s = some v
 | _, .nil, s, v, h => by cases h
 | (s0, v0) :: t, .cons h0 k, s, v, h => by
  simp only [yR] at h
  by_cases e : s0 = s
  · subst e; simp at h; rw [h0, h]
  · rw [SR e] at h; exact k.get s v h
theorem Kd.to {D : List Deferred} {a : Act} {N : Nat} {l l' : List (Nat × Value)} (K : Kd D a N l) (h : KS l l' := by repeat (first | exact KS.nil | refine KS.cons rfl ?_)) : Kd D a N l' := K.sub h.get

class Gv (t f : Nat) (off : outParam Nat) : Prop where
 out : BA Tryz.prog t f = some off
class H2 (t : Nat) : Prop where
 out : Hw Tryz.prog t = true
class JL (t : Nat) (n : outParam Nat) : Prop where
 out : Gc Tryz.prog t n = true
class Y5 (t : Nat) : Prop where
 out : ∃ e, Tryz.prog.underlying t = some (.slice e)
class F6 (t : Nat) (cs : outParam (List Value)) : Prop where
 out : nR Tryz.prog t = some cs
class oB (f : Nat) : Prop where
 out : lZ Tryz.prog f = true
class ZV (t : Nat) (e s b : outParam Nat) : Prop where
 out : Kg Tryz.prog t e s b = true
class Ws (t : Nat) (k : outParam IntKind) : Prop where
 out : Tryz.prog.underlying t = some (.int k)
class StI (t : Nat) : Prop where
 out : Tryz.prog.underlying t = some .string
section
variable {base : Nat} {W w : World} {L : List mT} {D : List Deferred} {a : Act} {N : Nat} {l : List (Nat × Value)} {ops : Array Oper} {Q : Exit → Act → World → Prop} {rest : List Oper} {o : Oper} {x y ix : Operand} {t t' e : TypeId} {g off n : Nat} {cs ds : List Value} {v : Value} {α : Type} {C : vB α} {A : Option Addr} {c : Nat} {xs : List α} {el : α} {q : Nat}
theorem lcQ (ho : o.op = .load t x := by exact rfl) (ht : Hw Tryz.prog t = true := by exact H2.out) (hx : kQ l x = some (.pointer (some ⟨g, off, none⟩)) := by exact rfl) (hb : ∀ w, Mem base W w L → mM w g t' cs.toArray := by first | exact oY 0 rfl | exact oY 1 rfl | exact oY 2 rfl | exact oY 3 rfl | exact oY 4 rfl | exact oY 5 rfl | exact oY 6 rfl | exact oY 7 rfl | exact oY 8 rfl | exact oY 9 rfl | exact oY 10 rfl | exact oY 11 rfl | exact PP (by assumption)) (hv : cs[off]? = some v := by exact rfl) : ∀ a, Kd D a N l → Rd Tryz.prog (fun w => Mem base W w L) a o v := fun a K => eC ho ht K hx hb hv
theorem laQ (ho : o.op = .load t x := by exact rfl) (ht : Gc Tryz.prog t n = true := by exact JL.out) (hx : kQ l x = some (.pointer (some ⟨g, off, none⟩)) := by exact rfl) (hb : ∀ w, Mem base W w L → mM w g t' cs.toArray := by first | exact oY 0 rfl | exact oY 1 rfl | exact oY 2 rfl | exact oY 3 rfl | exact oY 4 rfl | exact oY 5 rfl | exact oY 6 rfl | exact oY 7 rfl | exact oY 8 rfl | exact oY 9 rfl | exact oY 10 rfl | exact oY 11 rfl | exact PP (by assumption)) (hs : Seg cs off n ds := by repeat (first | exact Seg.nil | apply Seg.cons | apply Seg.skip)) : ∀ a, Kd D a N l → Rd Tryz.prog (fun w => Mem base W w L) a o (.agg ds.toArray) := fun a K => Ja ho ht K hx hb hs.eq.1 hs.eq.2
class My (t : Nat) (cs : outParam (List Value)) : Prop where
 out : Tryz.prog.built t [] = some cs.toArray
inductive Xi (l : List (Nat × Value)) : List Operand → List Value → Prop where
 | nil : Xi l [] []
 | cons {x : Operand} {v : Value} {xs : List Operand} {vs : List Value} (h : kQ l x = some v) (k : Xi l xs vs) : Xi l (x :: xs) (v :: vs)
theorem Xi.eq {l : List (Nat × Value)} : ∀ {xs : List Operand} {vs : List Value}, Xi l xs vs → xs.map (kQ l) = vs.map some
 | _, _, .nil => rfl
 | _, _, .cons h k => by simp [h, k.eq]
theorem rfQ {fn : Fn} {cap : Array Operand} {vs : List Value} (ho : o.op = .makeFunc fn #[] cap := by exact rfl) (h : Xi l cap.toList vs := by repeat (first | exact Xi.nil | apply Xi.cons | exact rfl)) : ∀ a, Kd D a N l → Rd Tryz.prog (fun w => Mem base W w L) a o (.func fn #[] vs.toArray) := fun a K => Fb ho K h.eq
theorem rxQ {i : Nat} {vs : List Value} (K : Kd D a N l) (ho : o.op = .extract x i := by exact rfl) (hx : kQ l x = some (.tuple vs.toArray) := by exact rfl) (hi : vs[i]? = some v := by exact rfl) : Rd Tryz.prog (fun w => Mem base W w L) a o v := BP ho K hx (by simpa using hi)
theorem aE9 {k : IntKind} {m n : Int} (h : ∀ a, Kd D a N l → Rd Tryz.prog (fun w => Mem base W w L) a o (.int k m)) (he : m = n := by assumption) : ∀ a, Kd D a N l → Rd Tryz.prog (fun w => Mem base W w L) a o (.int k n) := fun a K => Ew he (h a K)
def SxQ (base : Nat) (W : World) (L : List mT) (D : List Deferred) (N : Nat) (ops : Array Oper) (l : List (Nat × Value)) (o : Oper) (d : Nat) (v : Value) : Prop := o.dst = some d ∧ Nat.blt d N = true ∧ Stp Tryz.prog ops (fun w => Mem base W w L) D N l o v
theorem rdQ (h : ∀ a, Kd D a N l → Rd Tryz.prog (fun w => Mem base W w L) a o v := by
   first
   | exact fun a K => dL rfl K rfl
   | exact fun a K => dJ rfl Gv.out K rfl
   | exact lcQ
   | exact fun a K => eV rfl K rfl
   | exact fun a K => oC rfl K rfl
   | exact fun a K => DC rfl Y5.out K rfl
   | exact fun a K => rxQ K
   | exact fun a K => nY rfl K rfl rfl
   | exact fun a K => DA rfl K rfl rfl
   | exact fun a K => DB rfl K rfl rfl
   | exact fun a K => nZ rfl K rfl rfl
   | exact fun a K => FF rfl K rfl rfl
   | exact fun a K => I9 rfl K rfl rfl
   | exact fun a K => GZ rfl K rfl rfl
   | exact fun a K => I7 rfl K rfl rfl
   | exact fun a K => I8 rfl K rfl rfl
   | exact fun a K => rd_not rfl K rfl
   | exact fun a K => jA rfl K rfl rfl
   | exact fun a K => mD rfl K rfl rfl
   | exact fun a K => Ev rfl K rfl rfl
   | exact fun a K => Eu rfl K rfl rfl
   | exact fun a K => Et rfl K rfl rfl
   | exact laQ
   | exact fun a K => eX rfl K (vs := []) rfl My.out
   | exact rfQ
   | exact fun a K => Ak rfl rfl Ws.out K rfl) : ∀ a, Kd D a N l → Rd Tryz.prog (fun w => Mem base W w L) a o v := h
theorem stQ {d : Nat} (hd : o.dst = some d := by exact rfl) (hN : Nat.blt d N = true := by exact rfl) (h : Stp Tryz.prog ops (fun w => Mem base W w L) D N l o v := by
 first
 | exact .yes (fun a K => aA rfl) rdQ
 | exact .no (fun a K => K.no rfl rfl rfl rfl) rfl
 | exact .yes (fun a K => K.yes rfl rfl rfl) rdQ
 | exact .no (fun a K => K.Z4 rfl rfl rfl) rfl) : SxQ base W L D N ops l o d v := ⟨hd, hN, h⟩
variable {d : Nat} {p p' : Code} {id id' : Nat} {K' : Act → World → Prop} {f : List Nat} {R : Act → World → Prop} {b : Bool}
theorem Bh (M : Mem base W w L) (k : Ct n (∀ a, Kd D a N ((d, v) :: l) → wpList Tryz.prog ops Q rest a w)) (h : SxQ base W L D N ops l o d v := by exact stQ) : Ct (n + 1) (∀ a, Kd D a N l → wpList Tryz.prog ops Q (o :: rest) a w) := ⟨kO M k.out h.1 h.2.1 h.2.2⟩
theorem Bi (k : Ct n (∀ a, Kd D a N ((d, v) :: l) → qB Tryz.prog ops (fun w => Mem base W w L) R (marked f rest) a w)) (h : SxQ base W L D N ops l o d v := by exact stQ) : Ct (n + 1) (∀ a, Kd D a N l → qB Tryz.prog ops (fun w => Mem base W w L) R (marked (0 :: f) (o :: rest)) a w) := ⟨Y2 k.out h.1 h.2.1 h.2.2⟩
theorem Bj (k : Ct n (∀ a, Kd D a N ((d, v) :: l) → qB Tryz.prog ops (fun w => Mem base W w L) R (marked [] rest) a w)) (h : SxQ base W L D N ops l o d v := by exact stQ) : Ct (n + 1) (∀ a, Kd D a N l → qB Tryz.prog ops (fun w => Mem base W w L) R (marked [] (o :: rest)) a w) := ⟨Y2 (f := []) k.out h.1 h.2.1 h.2.2⟩
theorem Bl (k : Ct n (∀ a, Kd D a N l → R a w)) {S : World → Prop} : Ct (n + 1) (∀ a, Kd D a N l → qB Tryz.prog ops S R (marked f []) a w) := ⟨k.1⟩
theorem wN (k : Ct n (∀ a, Kd D a N l → Q .normal a w)) : Ct (n + 1) (∀ a, Kd D a N l → wpList Tryz.prog ops Q [] a w) := ⟨k.1⟩
theorem Bm (k : Ct n (∀ a, Kd D a N l → K' a w)) : Ct (n + 1) (∀ a, Kd D a N l → Exit.then K' Q .normal a w) := ⟨k.1⟩
theorem Bn (k : Ct n (∀ a, Kd D a N l → Q .ret a w)) : Ct (n + 1) (∀ a, Kd D a N l → Exit.then K' Q .ret a w) := ⟨k.1⟩
theorem Bp (k : Ct n (∀ a, Kd D a N l → Q (.exit id) a w)) : Ct (n + 1) (∀ a, Kd D a N l → Exit.then K' Q (.exit id) a w) := ⟨k.1⟩
theorem Bq (k : Ct n (∀ a, Kd D a N l → Q .normal a w)) : Ct (n + 1) (∀ a, Kd D a N l → Exit.inBlock id Q .normal a w) := ⟨k.1⟩
theorem Br (k : Ct n (∀ a, Kd D a N l → Q .ret a w)) : Ct (n + 1) (∀ a, Kd D a N l → Exit.inBlock id Q .ret a w) := ⟨k.1⟩
theorem Bs (k : Ct n (∀ a, Kd D a N l → Q .normal a w)) : Ct (n + 1) (∀ a, Kd D a N l → Exit.inBlock id Q (.exit id) a w) := ⟨fun a K => Bf (k.1 a K)⟩
theorem Bt (hne : id' ≠ id) (k : Ct n (∀ a, Kd D a N l → Q (.exit id') a w)) : Ct (n + 1) (∀ a, Kd D a N l → Exit.inBlock id Q (.exit id') a w) := ⟨fun a K => aAb hne (k.1 a K)⟩
theorem wO (k : Ct n (∀ a, Kd D a N l → p.wp Tryz.prog (Exit.then (p'.wp Tryz.prog Q) Q) a w)) : Ct (n + 1) (∀ a, Kd D a N l → (Code.seq p p').wp Tryz.prog Q a w) := ⟨fun a K => wp_seq (k.1 a K)⟩
theorem wP {ol : List Oper} (k : Ct n (∀ a, Kd D a N l → wpList Tryz.prog ol.toArray Q ol a w)) : Ct (n + 1) (∀ a, Kd D a N l → (Code.region id ol.toArray false).wp Tryz.prog Q a w) := ⟨fun a K => bI (k.1 a K)⟩
theorem sX (k : Ct n (∀ a, Kd D a N l → Q .normal a w)) : Ct (n + 1) (∀ a, Kd D a N l → Code.skip.wp Tryz.prog Q a w) := ⟨fun a K => wp_skip (k.1 a K)⟩
theorem wQ (k : Ct n (∀ a, Kd D a N l → Q .normal a w)) : Ct (n + 1) (∀ a, Kd D a N l → (Code.label id).wp Tryz.prog Q a w) := ⟨fun a K => wp_label (k.1 a K)⟩
theorem wR (k : Ct n (∀ a, Kd D a N l → Q .ret a w)) : Ct (n + 1) (∀ a, Kd D a N l → Code.ret.wp Tryz.prog Q a w) := ⟨fun a K => wp_ret (k.1 a K)⟩
theorem sY (k : Ct n (∀ a, Kd D a N l → Q (.exit id) a w)) : Ct (n + 1) (∀ a, Kd D a N l → (Code.exit id).wp Tryz.prog Q a w) := ⟨fun a K => wp_exit (k.1 a K)⟩
theorem wS (k : Ct n (∀ a, Kd D a N l → p.wp Tryz.prog (Exit.inBlock id Q) a w)) : Ct (n + 1) (∀ a, Kd D a N l → (Code.block id p).wp Tryz.prog Q a w) := ⟨fun a K => wp_block (k.1 a K)⟩
theorem Bu (hc : kQ l x = some (.bool true)) (k : Ct n (∀ a, Kd D a N l → p.wp Tryz.prog Q a w)) : Ct (n + 1) (∀ a, Kd D a N l → (Code.cond x p p').wp Tryz.prog Q a w) := ⟨fun a K => mA K hc (k.1 a K)⟩
theorem Bv (hc : kQ l x = some (.bool false)) (k : Ct n (∀ a, Kd D a N l → p'.wp Tryz.prog Q a w)) : Ct (n + 1) (∀ a, Kd D a N l → (Code.cond x p p').wp Tryz.prog Q a w) := ⟨fun a K => BB K hc (k.1 a K)⟩
theorem Bw {O : Exit → Act → World → Prop} {i : Nat} {rem : List Nat} {m : Nat} (k : Ct n (∀ a, Kd D a N ((d, v) :: l) → xH Tryz.prog O ops (fun w => Mem base W w L) (o9 f) (kL f) R m rem a w)) (ho : ops[i]? = some o := by exact rfl) (h : SxQ base W L D N ops l o d v := by exact stQ) (hc : ((i :: rem).elem i && o9 f i && Ln ops (i :: rem) i && (i :: rem).erase i == rem) = true := by kernel_rfl) : Ct (n + 1) (∀ a, Kd D a N l → xH Tryz.prog O ops (fun w => Mem base W w L) (o9 f) (kL f) R (m + 1) (i :: rem) a w) := ⟨fun a K => by
 cases h.2.2 with
 | yes hw hr => exact dU i rem hc ho K (hw a K) h.1 h.2.1 (hr a K) k.1
 | no hw hv => subst hv; exact aEp i rem hc ho K (hw a K) h.1 h.2.1 k.1⟩
theorem By {O : Exit → Act → World → Prop} {S : World → Prop} (k : Ct n (∀ a, Kd D a N l → R a w)) : Ct (n + 1) (∀ a, Kd D a N l → xH Tryz.prog O ops S (o9 f) (kL f) R 0 [] a w) := ⟨fun a K => sW (k.1 a K)⟩
theorem gcE (hc : kQ l x = some (.bool b)) (k1 : b = true → ∀ a, Kd D a N l → p.wp Tryz.prog Q a w) (k2 : b = false → ∀ a, Kd D a N l → p'.wp Tryz.prog Q a w) : Ct 0 (∀ a, Kd D a N l → (Code.cond x p p').wp Tryz.prog Q a w) := ⟨fun a K => rS K hc (fun hb => k1 hb a K) (fun hb => k2 hb a K)⟩
theorem gkE {G : Act → Prop} (s : Nat) (hs : yR l s = some (.bool b)) (k1 : b = true → ∀ a, Kd D a N ((s, .bool true) :: l) → G a) (k2 : b = false → ∀ a, Kd D a N ((s, .bool false) :: l) → G a) : Ct 0 (∀ a, Kd D a N l → G a) := ⟨fun a K => by
 rcases Bool.eq_false_or_eq_true b with hb | hb
 · exact k1 hb a (K.Kh hs hb)
 · exact k2 hb a (K.Kh hs hb)⟩
theorem gE {fn : Func} {code : Code} {fid : FuncId} {args : Array Value} {Rp : Ending → World → Prop} (hf : Tryz.prog.funcs[fid]? = some fn) (hN : fn.ntmps = N) (k : Mem w.heap.size w w [] → ∀ a, Kn a N (Hv 0 args.toList) → code.wp Tryz.prog (bodyPost Tryz.prog fn Rp) a w) (hb : fn.body = some code := by exact rfl) (hs : Nat.ble args.size N = true := by exact rfl) : Calls Tryz.prog fid args w Rp := oD hf hb hN hs (k (Mem.start w))
theorem In (M : Mem base W w L) (K : Kd D a N l) (i : Nat) (ho : o.op = .store t x y := by exact rfl) (ht : Gc Tryz.prog t n = true := by exact JL.out) (hx : kQ l x = some (.pointer (some ⟨g, 0, none⟩)) := by exact rfl) (hi : L[i]? = some (.blk g t' cs) := by exact rfl) (hy : kQ l y = some (.agg ds.toArray) := by exact rfl) (h1 : ds.all (·.oneCell') = true := by exact rfl) (hn : ds.length = n := by exact rfl) (hl : cs.length = n := by exact rfl) : Ac Tryz.prog o a w fun _ w' => Mem base W w' (L.set i (.blk g t' ds)) := oL ho ht K hx hy h1 i M hi hn hl
theorem Io (M : Mem base W w L) (K : Kd D a N l) (i : Nat) (ho : o.op = .store t x y := by exact rfl) (ht : Hw Tryz.prog t = true := by exact H2.out) (hx : kQ l x = some (.pointer (some ⟨g, off, none⟩)) := by exact rfl) (hi : L[i]? = some (.blk g t' cs) := by exact rfl) (hy : kQ l y = some v := by exact rfl) (h1 : v.oneCell' = true := by exact rfl) (hl : Nat.blt off cs.length = true := by exact rfl) : Ac Tryz.prog o a w fun _ w' => Mem base W w' (L.set i (.blk g t' (cs.set off v))) := cA ho ht K hx hy h1 i M hi hl
theorem Mem.nQ (M : Mem base W w L) : Mem base W w [] := M.pick [] (by decide)
theorem Mem.oQ {e : mT} (M : Mem base W w (e :: L)) : Mem base W w [e] := M.pick [0] (by decide)
theorem aEx (M : Mem base W w L) (K : Kd D a N l) (ho : o.op = .box t x := by exact rfl) (hx : kQ l x = some (.agg ds.toArray) := by exact rfl) (hc : (Value.agg ds.toArray).cells = ds.toArray := by exact rfl) : Ac Tryz.prog o a w fun v w' => ∃ g, v = .pointer (some ⟨g, 0, none⟩) ∧ Mem base W w' (.blk g t ds :: L) := LE ho K hx hc M
theorem aEy (M : Mem base W w L) (K : Kd D a N l) (ho : o.op = .box t x := by exact rfl) (hx : kQ l x = some v := by exact rfl) (hc : v.cells = [v].toArray := by exact rfl) : Ac Tryz.prog o a w fun v' w' => ∃ g, v' = .pointer (some ⟨g, 0, none⟩) ∧ Mem base W w' (.blk g t [v] :: L) := LE ho K hx hc M
theorem gfE {post : Value → World → Prop} {fi : FuncId} {vs : List Value} {args : Array Operand} {ts : Array TypeId} (X : Calls Tryz.prog fi vs.toArray w fun e w' => ∃ v, e = .returned v ∧ post v w') (k : ∀ v w', post v w' → ∀ a, Kd D a N ((d, v) :: l) → wpList Tryz.prog ops Q rest a w') (hf : lZ Tryz.prog fi = true := by exact oB.out) (hd : o.dst = some d := by exact rfl) (hN : Nat.blt d N = true := by exact rfl) (ho : o.op = .call { callee := .value x, args := args, argTypes := ts } := by exact rfl) (hx : kQ l x = some (.func (.func fi) #[] #[]) := by exact rfl) (hargs : args.toList.map (kQ l) = vs.map some := by exact rfl) (hw : ∀ a, Kd D a N l → Region.wanted o (yielded ops a.tmps) = true := by first | exact fun a K => aA rfl | exact fun a K => K.yes rfl rfl rfl) : ∀ a, Kd D a N l → wpList Tryz.prog ops Q (o :: rest) a w := fun a K => Ye K (hw a K) hd hN (lJ hf K X ho hx hargs) fun v a w' hp K => k v w' hp a K
end
theorem cC (n : Nat) {q p : Prop} (k : q) (H : Hq q → Ct n p := by
 intro k
 (repeat (first
 | with_reducible (first | refine wN ?_ | refine Bm ?_ | refine Bn ?_ | refine Bp ?_ | refine wO ?_ | refine wP ?_ | refine sX ?_ | refine wS ?_ | refine wR ?_ | refine Bq ?_ | refine Br ?_ | refine Bs ?_ | refine sY ?_ | refine wQ ?_ | refine Bl ?_)
 | refine Bt (by decide) ?_
 | refine Bh M ?_
 | refine Bj ?_
 | refine Bi ?_
 | refine Bw ?_
 | refine By ?_
 | refine Bu rfl ?_
 | refine Bv rfl ?_))
 exact (⟨k.out⟩ : Ct 0 _)) : p := (H ⟨k⟩).out
theorem gnE {base : Nat} {W w : World} {L : List mT} {D : List Deferred} {N : Nat} {l : List (Nat × Value)} {ops : Array Oper} {Q : Exit → Act → World → Prop} {rest : List Oper} {o : Oper} {d : Nat} {k : IntKind} {m n : Int} (hx : m = n) (M : Mem base W w L) (kk : ∀ a, Kd D a N ((d, .int k n) :: l) → wpList Tryz.prog ops Q rest a w) (hr : ∀ a, Kd D a N l → Rd Tryz.prog (fun w => Mem base W w L) a o (.int k m) := by intro a K; exact (by first | exact eV rfl K rfl | exact nY rfl K rfl rfl | exact DA rfl K rfl rfl | exact DB rfl K rfl rfl | exact Ak rfl rfl Ws.out K rfl | exact Et rfl K rfl rfl | exact dL rfl K rfl | exact rxQ K | exact Ev rfl K rfl rfl | exact Eu rfl K rfl rfl)) (hw : ∀ a, Kd D a N l → Region.wanted o (yielded ops a.tmps) = true := by first | exact fun a K => aA rfl | exact fun a K => K.yes rfl rfl rfl) (hd : o.dst = some d := by exact rfl) (hN : Nat.blt d N = true := by exact rfl) : ∀ a, Kd D a N l → wpList Tryz.prog ops Q (o :: rest) a w := dI (fun a K => Ew hx (hr a K)) M kk hw hd hN
theorem o8 (n : Nat) {e x : Int} (hx : e = x) {q p : Prop} (k : q) (H : e = x → Hq q → Ct n p := by
 intro hx k
 (repeat (first
 | with_reducible (first | refine wN ?_ | refine Bm ?_ | refine Bn ?_ | refine Bp ?_ | refine wO ?_ | refine wP ?_ | refine sX ?_ | refine wS ?_ | refine wR ?_ | refine Bq ?_ | refine Br ?_ | refine Bs ?_ | refine sY ?_ | refine wQ ?_ | refine Bl ?_)
 | refine Bt (by decide) ?_
 | refine Bh M ?_
 | refine Bj ?_
 | refine Bi ?_
 | refine Bw ?_
 | refine By ?_
 | refine Bu rfl ?_
 | refine Bv rfl ?_))
 refine (⟨?_⟩ : Ct 0 _)
 exact gnE hx M k.out) : p := (H hx ⟨k⟩).out
theorem aEz {base : Nat} {W w : World} {L : List mT} {D : List Deferred} {N : Nat} {l : List (Nat × Value)} {ops : Array Oper} {rest : List Oper} {R : Act → World → Prop} {o : Oper} {d : Nat} {k : IntKind} {m n : Int} (hx : m = n) (kk : ∀ a, Kd D a N ((d, .int k n) :: l) → qB Tryz.prog ops (fun w => Mem base W w L) R (marked [] rest) a w) (hr : ∀ a, Kd D a N l → Rd Tryz.prog (fun w => Mem base W w L) a o (.int k m) := by intro a K; exact (by first | exact eV rfl K rfl | exact nY rfl K rfl rfl | exact DA rfl K rfl rfl | exact DB rfl K rfl rfl | exact Ak rfl rfl Ws.out K rfl | exact Et rfl K rfl rfl | exact dL rfl K rfl | exact rxQ K | exact Ev rfl K rfl rfl | exact Eu rfl K rfl rfl)) (hw : ∀ a, Kd D a N l → Region.wanted o (yielded ops a.tmps) = true := by first | exact fun a K => aA rfl | exact fun a K => K.yes rfl rfl rfl) (hd : o.dst = some d := by exact rfl) (hN : Nat.blt d N = true := by exact rfl) : ∀ a, Kd D a N l → qB Tryz.prog ops (fun w => Mem base W w L) R (marked [] (o :: rest)) a w := nX (f := []) (fun a K => Ew hx (hr a K)) kk hw hd hN
theorem aEA {base : Nat} {W w : World} {L : List mT} {D : List Deferred} {N : Nat} {l : List (Nat × Value)} {ops : Array Oper} {rest : List Oper} {f : List Nat} {R : Act → World → Prop} {o : Oper} {d : Nat} {k : IntKind} {m n : Int} (hx : m = n) (kk : ∀ a, Kd D a N ((d, .int k n) :: l) → qB Tryz.prog ops (fun w => Mem base W w L) R (marked f rest) a w) (hr : ∀ a, Kd D a N l → Rd Tryz.prog (fun w => Mem base W w L) a o (.int k m) := by intro a K; exact (by first | exact eV rfl K rfl | exact nY rfl K rfl rfl | exact DA rfl K rfl rfl | exact DB rfl K rfl rfl | exact Ak rfl rfl Ws.out K rfl | exact Et rfl K rfl rfl | exact dL rfl K rfl | exact rxQ K | exact Ev rfl K rfl rfl | exact Eu rfl K rfl rfl)) (hw : ∀ a, Kd D a N l → Region.wanted o (yielded ops a.tmps) = true := by first | exact fun a K => aA rfl | exact fun a K => K.yes rfl rfl rfl) (hd : o.dst = some d := by exact rfl) (hN : Nat.blt d N = true := by exact rfl) : ∀ a, Kd D a N l → qB Tryz.prog ops (fun w => Mem base W w L) R (marked (0 :: f) (o :: rest)) a w := nX (f := f) (fun a K => Ew hx (hr a K)) kk hw hd hN
theorem ZW (n : Nat) {e x : Int} (hx : e = x) {q p : Prop} (k : q) (H : e = x → Hq q → Ct n p := by
 intro hx k
 (repeat (first
 | with_reducible (first | refine wN ?_ | refine Bm ?_ | refine Bn ?_ | refine Bp ?_ | refine wO ?_ | refine wP ?_ | refine sX ?_ | refine wS ?_ | refine wR ?_ | refine Bq ?_ | refine Br ?_ | refine Bs ?_ | refine sY ?_ | refine wQ ?_ | refine Bl ?_)
 | refine Bt (by decide) ?_
 | refine Bh M ?_
 | refine Bj ?_
 | refine Bi ?_
 | refine Bw ?_
 | refine By ?_
 | refine Bu rfl ?_
 | refine Bv rfl ?_))
 refine (⟨?_⟩ : Ct 0 _)
 first | exact aEz hx k.out | exact aEA hx k.out) : p := (H hx ⟨k⟩).out
theorem Su (n : Nat) {q p : Prop} (k : q) (H : Hq q → Ct n p := by
 intro k
 (repeat (first
 | with_reducible (first | refine wN ?_ | refine Bm ?_ | refine Bn ?_ | refine Bp ?_ | refine wO ?_ | refine wP ?_ | refine sX ?_ | refine wS ?_ | refine wR ?_ | refine Bq ?_ | refine Br ?_ | refine Bs ?_ | refine sY ?_ | refine wQ ?_ | refine Bl ?_)
 | refine Bt (by decide) ?_
 | refine Bh M ?_
 | refine Bj ?_
 | refine Bi ?_
 | refine Bw ?_
 | refine By ?_
 | refine Bu rfl ?_
 | refine Bv rfl ?_))
 refine (⟨?_⟩ : Ct 0 _)
 intro a K
 refine dC (fun w => Mem _ _ w _) [] (by kernel_rfl) (by kernel_rfl) M.drew ?_
 revert a; exact k.out) : p := (H ⟨k⟩).out
theorem fJ (n : Nat) {b : Bool} {β : Type} {s t r : β} (h : cond b s t = r) {q1 q2 p : Prop} (k1 : b = true → s = r → q1) (k2 : b = false → t = r → q2) (H : Hq (b = true → q1) → Hq (b = false → q2) → Ct n p := by
 intro k1 k2
 (repeat (first
 | with_reducible (first | refine wN ?_ | refine Bm ?_ | refine Bn ?_ | refine Bp ?_ | refine wO ?_ | refine wP ?_ | refine sX ?_ | refine wS ?_ | refine wR ?_ | refine Bq ?_ | refine Br ?_ | refine Bs ?_ | refine sY ?_ | refine wQ ?_ | refine Bl ?_)
 | refine Bt (by decide) ?_
 | refine Bh M ?_
 | refine Bj ?_
 | refine Bi ?_
 | refine Bw ?_
 | refine By ?_
 | refine Bu rfl ?_
 | refine Bv rfl ?_))
 exact gcE rfl k1.out k2.out) : p := (H ⟨fun hb => k1 hb (lP hb h)⟩ ⟨fun hb => k2 hb (iG hb h)⟩).out
structure Bx {α : Type} (x : α) : Prop
theorem gkS {s : Nat} {D : List Deferred} {N : Nat} {l : List (Nat × Value)} {b : Bool} {G : Act → Prop} (_ : Bx s) (k1 : b = true → ∀ a, Kd D a N ((s, .bool true) :: l) → G a) (k2 : b = false → ∀ a, Kd D a N ((s, .bool false) :: l) → G a) (hs : yR l s = some (.bool b)) : Ct 0 (∀ a, Kd D a N l → G a) := gkE s hs k1 k2
theorem oT (n s : Nat) {b : Bool} {β : Type} {x t r : β} (h : cond b x t = r) {q1 q2 p : Prop} (k1 : b = true → x = r → q1) (k2 : b = false → t = r → q2) (H : Bx s → Hq (b = true → q1) → Hq (b = false → q2) → Ct n p := by
 intro S0 k1 k2
 (repeat (first
 | with_reducible (first | refine wN ?_ | refine Bm ?_ | refine Bn ?_ | refine Bp ?_ | refine wO ?_ | refine wP ?_ | refine sX ?_ | refine wS ?_ | refine wR ?_ | refine Bq ?_ | refine Br ?_ | refine Bs ?_ | refine sY ?_ | refine wQ ?_ | refine Bl ?_)
 | refine Bt (by decide) ?_
 | refine Bh M ?_
 | refine Bj ?_
 | refine Bi ?_
 | refine Bw ?_
 | refine By ?_
 | refine Bu rfl ?_
 | refine Bv rfl ?_))
 exact gkS S0 k1.out k2.out rfl) : p := (H ⟨⟩ ⟨fun hb => k1 hb (lP hb h)⟩ ⟨fun hb => k2 hb (iG hb h)⟩).out
theorem mC (n : Nat) {Y q p : Prop} (X : Y) (k : q) (H : Y → Hq q → Ct n p := by
 intro X k
 (repeat (first
 | with_reducible (first | refine wN ?_ | refine Bm ?_ | refine Bn ?_ | refine Bp ?_ | refine wO ?_ | refine wP ?_ | refine sX ?_ | refine wS ?_ | refine wR ?_ | refine Bq ?_ | refine Br ?_ | refine Bs ?_ | refine sY ?_ | refine wQ ?_ | refine Bl ?_)
 | refine Bt (by decide) ?_
 | refine Bh M ?_
 | refine Bj ?_
 | refine Bi ?_
 | refine Bw ?_
 | refine By ?_
 | refine Bu rfl ?_
 | refine Bv rfl ?_))
 refine (⟨?_⟩ : Ct 0 _)
 refine gfE X ?_
 first | (rintro _ w ⟨rfl, Z⟩; have M := M.call Z; clear Z; revert w; exact k.out) | (rintro _ w ⟨A, c, rfl, Z⟩; have M := M.call Z; clear Z; revert w; revert A c; exact k.out) | (rintro _ w ⟨A, c, A2, c2, rfl, Z⟩; have M := M.call Z; clear Z; revert w; revert A c A2 c2; exact k.out) | (rintro _ w ⟨A, c, A2, c2, A3, c3, rfl, Z⟩; have M := M.call Z; clear Z; revert w; revert A c A2 c2 A3 c3; exact k.out) | (rintro _ w ⟨A, c, A2, c2, A3, c3, A4, c4, rfl, Z⟩; have M := M.call Z; clear Z; revert w; revert A c A2 c2 A3 c3 A4 c4; exact k.out)) : p := (H X ⟨k⟩).out
theorem u3 (n : Nat) {q p : Prop} (k : q) (H : Hq q → Ct n p := by
 intro k
 (repeat (first
 | with_reducible (first | refine wN ?_ | refine Bm ?_ | refine Bn ?_ | refine Bp ?_ | refine wO ?_ | refine wP ?_ | refine sX ?_ | refine wS ?_ | refine wR ?_ | refine Bq ?_ | refine Br ?_ | refine Bs ?_ | refine sY ?_ | refine wQ ?_ | refine Bl ?_)
 | refine Bt (by decide) ?_
 | refine Bh M ?_
 | refine Bj ?_
 | refine Bi ?_
 | refine Bw ?_
 | refine By ?_
 | refine Bu rfl ?_
 | refine Bv rfl ?_))
 refine (⟨?_⟩ : Ct 0 _)
 intro a K
 first | (refine jR K (aEy M K) ?_; rintro _ a w ⟨g, rfl, M⟩ K; revert a; revert w; revert g; exact k.out) | (refine jR K (aEx M K) ?_; rintro _ a w ⟨g, rfl, M⟩ K; revert a; revert w; revert g; exact k.out) | (refine jR K (pM rfl F6.out M) ?_; rintro _ a w ⟨g, rfl, M⟩ K; revert a; revert w; revert g; exact k.out)) : p := (H ⟨k⟩).out
theorem sZ (n : Nat) {q p : Prop} (k : q) (H : Hq q → Ct n p := by
 intro k
 (repeat (first
 | with_reducible (first | refine wN ?_ | refine Bm ?_ | refine Bn ?_ | refine Bp ?_ | refine wO ?_ | refine wP ?_ | refine sX ?_ | refine wS ?_ | refine wR ?_ | refine Bq ?_ | refine Br ?_ | refine Bs ?_ | refine sY ?_ | refine wQ ?_ | refine Bl ?_)
 | refine Bt (by decide) ?_
 | refine Bh M ?_
 | refine Bj ?_
 | refine Bi ?_
 | refine Bw ?_
 | refine By ?_
 | refine Bu rfl ?_
 | refine Bv rfl ?_))
 refine (⟨?_⟩ : Ct 0 _)
 intro a K
 first | refine wB K (In M K 0) ?_ | refine wB K (Io M K 0) ?_ | refine wB K (In M K 1) ?_ | refine wB K (Io M K 1) ?_ | refine wB K (In M K 2) ?_ | refine wB K (Io M K 2) ?_ | refine wB K (In M K 3) ?_ | refine wB K (Io M K 3) ?_ | refine wB K (In M K 4) ?_ | refine wB K (Io M K 4) ?_ | refine wB K (In M K 5) ?_ | refine wB K (Io M K 5) ?_ | refine wB K (In M K 6) ?_ | refine wB K (Io M K 6) ?_ | refine wB K (In M K 7) ?_ | refine wB K (Io M K 7) ?_ | refine wB K (In M K 8) ?_ | refine wB K (Io M K 8) ?_ | refine wB K (In M K 9) ?_ | refine wB K (Io M K 9) ?_ | refine wB K (In M K 10) ?_ | refine wB K (Io M K 10) ?_ | refine wB K (In M K 11) ?_ | refine wB K (Io M K 11) ?_
 rintro _ a w M K; revert a; revert w; exact k.out) : p := (H ⟨k⟩).out
theorem Bz {p : Prop} (h : p := by first | exact jB K rfl | exact dQ K rfl JL.out (M.dV (i := 0) rfl) rfl | exact eD K rfl H2.out (M.dV (i := 0) rfl) rfl | exact dQ K rfl JL.out (M.dV (i := 1) rfl) rfl | exact eD K rfl H2.out (M.dV (i := 1) rfl) rfl | exact dQ K rfl JL.out (M.dV (i := 2) rfl) rfl | exact eD K rfl H2.out (M.dV (i := 2) rfl) rfl | exact dQ K rfl JL.out (M.dV (i := 3) rfl) rfl | exact eD K rfl H2.out (M.dV (i := 3) rfl) rfl | exact dQ K rfl JL.out (M.dV (i := 4) rfl) rfl | exact eD K rfl H2.out (M.dV (i := 4) rfl) rfl | exact dQ K rfl JL.out (M.dV (i := 5) rfl) rfl | exact eD K rfl H2.out (M.dV (i := 5) rfl) rfl | exact dQ K rfl JL.out (M.dV (i := 6) rfl) rfl | exact eD K rfl H2.out (M.dV (i := 6) rfl) rfl | exact dQ K rfl JL.out (M.dV (i := 7) rfl) rfl | exact eD K rfl H2.out (M.dV (i := 7) rfl) rfl | exact dQ K rfl JL.out (M.dV (i := 8) rfl) rfl | exact eD K rfl H2.out (M.dV (i := 8) rfl) rfl | exact dQ K rfl JL.out (M.dV (i := 9) rfl) rfl | exact eD K rfl H2.out (M.dV (i := 9) rfl) rfl | exact dQ K rfl JL.out (M.dV (i := 10) rfl) rfl | exact eD K rfl H2.out (M.dV (i := 10) rfl) rfl | exact dQ K rfl JL.out (M.dV (i := 11) rfl) rfl | exact eD K rfl H2.out (M.dV (i := 11) rfl) rfl) : p := h
theorem cW (n : Nat) {Y p : Prop} (X : Y) (H : Y → Ct n p := by
 intro X
 (repeat (first
 | with_reducible (first | refine wN ?_ | refine Bm ?_ | refine Bn ?_ | refine Bp ?_ | refine wO ?_ | refine wP ?_ | refine sX ?_ | refine wS ?_ | refine wR ?_ | refine Bq ?_ | refine Br ?_ | refine Bs ?_ | refine sY ?_ | refine wQ ?_ | refine Bl ?_)
 | refine Bt (by decide) ?_
 | refine Bh M ?_
 | refine Bj ?_
 | refine Bi ?_
 | refine Bw ?_
 | refine By ?_
 | refine Bu rfl ?_
 | refine Bv rfl ?_))
 refine (⟨?_⟩ : Ct 0 _)
 intro a K
 cases h
 first | exact Cx K rfl Bz  ⟨_, rfl, rfl, X⟩ | exact Cx K rfl Bz  ⟨_, rfl, _, _, rfl, X⟩ | exact Cx K rfl Bz  ⟨_, rfl, _, _, _, _, rfl, X⟩ | exact Cx K rfl Bz  ⟨_, rfl, _, _, _, _, _, _, rfl, X⟩ | exact Cx K rfl Bz  ⟨_, rfl, _, _, _, _, _, _, _, _, rfl, X⟩) : p := (H X).out
theorem iA (n : Nat) {Y p : Prop} (X : Y) (H : Y → Ct n p := by
 intro X
 (repeat (first
 | with_reducible (first | refine wN ?_ | refine Bm ?_ | refine Bn ?_ | refine Bp ?_ | refine wO ?_ | refine wP ?_ | refine sX ?_ | refine wS ?_ | refine wR ?_ | refine Bq ?_ | refine Br ?_ | refine Bs ?_ | refine sY ?_ | refine wQ ?_ | refine Bl ?_)
 | refine Bt (by decide) ?_
 | refine Bh M ?_
 | refine Bj ?_
 | refine Bi ?_
 | refine Bw ?_
 | refine By ?_
 | refine Bu rfl ?_
 | refine Bv rfl ?_))
 refine (⟨?_⟩ : Ct 0 _)
 intro a K
 cases h
 first | exact Fp K rfl Bz Bz  ⟨_, rfl, rfl, X⟩ | exact Fp K rfl Bz Bz  ⟨_, rfl, _, _, rfl, X⟩ | exact Fp K rfl Bz Bz  ⟨_, rfl, _, _, _, _, rfl, X⟩ | exact Fp K rfl Bz Bz  ⟨_, rfl, _, _, _, _, _, _, rfl, X⟩ | exact Fp K rfl Bz Bz  ⟨_, rfl, _, _, _, _, _, _, _, _, rfl, X⟩) : p := (H X).out
theorem Pu (n : Nat) {Y p : Prop} (X : Y) (H : Y → Ct n p := by
 intro X
 (repeat (first
 | with_reducible (first | refine wN ?_ | refine Bm ?_ | refine Bn ?_ | refine Bp ?_ | refine wO ?_ | refine wP ?_ | refine sX ?_ | refine wS ?_ | refine wR ?_ | refine Bq ?_ | refine Br ?_ | refine Bs ?_ | refine sY ?_ | refine wQ ?_ | refine Bl ?_)
 | refine Bt (by decide) ?_
 | refine Bh M ?_
 | refine Bj ?_
 | refine Bi ?_
 | refine Bw ?_
 | refine By ?_
 | refine Bu rfl ?_
 | refine Bv rfl ?_))
 refine (⟨?_⟩ : Ct 0 _)
 intro a K
 cases h
 first | exact SY K rfl Bz Bz Bz  ⟨_, rfl, rfl, X⟩ | exact SY K rfl Bz Bz Bz  ⟨_, rfl, _, _, rfl, X⟩ | exact SY K rfl Bz Bz Bz  ⟨_, rfl, _, _, _, _, rfl, X⟩ | exact SY K rfl Bz Bz Bz  ⟨_, rfl, _, _, _, _, _, _, rfl, X⟩ | exact SY K rfl Bz Bz Bz  ⟨_, rfl, _, _, _, _, _, _, _, _, rfl, X⟩) : p := (H X).out
theorem aFa (n : Nat) {Y p : Prop} (X : Y) (H : Y → Ct n p := by
 intro X
 (repeat (first
 | with_reducible (first | refine wN ?_ | refine Bm ?_ | refine Bn ?_ | refine Bp ?_ | refine wO ?_ | refine wP ?_ | refine sX ?_ | refine wS ?_ | refine wR ?_ | refine Bq ?_ | refine Br ?_ | refine Bs ?_ | refine sY ?_ | refine wQ ?_ | refine Bl ?_)
 | refine Bt (by decide) ?_
 | refine Bh M ?_
 | refine Bj ?_
 | refine Bi ?_
 | refine Bw ?_
 | refine By ?_
 | refine Bu rfl ?_
 | refine Bv rfl ?_))
 refine (⟨?_⟩ : Ct 0 _)
 intro a K
 cases h
 first | exact Wt K rfl Bz Bz Bz Bz  ⟨_, rfl, rfl, X⟩ | exact Wt K rfl Bz Bz Bz Bz  ⟨_, rfl, _, _, rfl, X⟩ | exact Wt K rfl Bz Bz Bz Bz  ⟨_, rfl, _, _, _, _, rfl, X⟩ | exact Wt K rfl Bz Bz Bz Bz  ⟨_, rfl, _, _, _, _, _, _, rfl, X⟩ | exact Wt K rfl Bz Bz Bz Bz  ⟨_, rfl, _, _, _, _, _, _, _, _, rfl, X⟩) : p := (H X).out
theorem qK (n : Nat) {S : Type} (st : S) {Y p : Prop} (X : Y) (H : (∀ {p q : S → Prop}, p st → q st → ∃ s, p s ∧ q s) → Y → Ct n p := by
 intro wt X
 (repeat (first
 | with_reducible (first | refine wN ?_ | refine Bm ?_ | refine Bn ?_ | refine Bp ?_ | refine wO ?_ | refine wP ?_ | refine sX ?_ | refine wS ?_ | refine wR ?_ | refine Bq ?_ | refine Br ?_ | refine Bs ?_ | refine sY ?_ | refine wQ ?_ | refine Bl ?_)
 | refine Bt (by decide) ?_
 | refine Bh M ?_
 | refine Bj ?_
 | refine Bi ?_
 | refine Bw ?_
 | refine By ?_
 | refine Bu rfl ?_
 | refine Bv rfl ?_))
 refine (⟨?_⟩ : Ct 0 _)
 intro a K
 first | exact wt ⟨K.to, X⟩ h | exact wt ⟨_, _, K.to, X⟩ h | exact wt ⟨_, _, _, _, K.to, X⟩ h | exact wt ⟨_, _, _, _, _, _, K.to, X⟩ h | exact wt ⟨_, _, _, _, _, _, _, _, K.to, X⟩ h | exact wt ⟨_, _, _, _, _, _, _, _, _, _, K.to, X⟩ h) : p := (H (fun hp hq => ⟨st, hp, hq⟩) X).out
theorem rD (n : Nat) {F Y p : Prop} (f : F) (X : Y) (H : F → Y → Ct n p := by
 intro f X
 (repeat (first
 | with_reducible (first | refine wN ?_ | refine Bm ?_ | refine Bn ?_ | refine Bp ?_ | refine wO ?_ | refine wP ?_ | refine sX ?_ | refine wS ?_ | refine wR ?_ | refine Bq ?_ | refine Br ?_ | refine Bs ?_ | refine sY ?_ | refine wQ ?_ | refine Bl ?_)
 | refine Bt (by decide) ?_
 | refine Bh M ?_
 | refine Bj ?_
 | refine Bi ?_
 | refine Bw ?_
 | refine By ?_
 | refine Bu rfl ?_
 | refine Bv rfl ?_))
 refine (⟨?_⟩ : Ct 0 _)
 intro a K
 first | exact f _ _ ⟨K.to, X⟩ h | exact f _ _ ⟨_, _, K.to, X⟩ h | exact f _ _ ⟨_, _, _, _, K.to, X⟩ h | exact f _ _ ⟨_, _, _, _, _, _, K.to, X⟩ h | exact f _ _ ⟨_, _, _, _, _, _, _, _, K.to, X⟩ h | exact f _ _ ⟨_, _, _, _, _, _, _, _, _, _, K.to, X⟩ h) : p := (H f X).out
def LpT {St : Type} (Rel : St → Act → World → Prop) (id : Nat) : Prop := ∀ {Rt : Type} {P : Program} {Q : Exit → Act → World → Prop} {a : Act} {w : World} {kk : St → Option Rt} {lf : (St → Option Rt) → Nat → St → Option Rt} {r : Rt} {p : Code} {n : Nat} {st : St}
 (_ : lf kk n st = some r) (_ : ∀ kk st, lf kk 0 st = none) (_ : Rel st a w) (_ : ∀ st a w, Rel st a w → kk st = some r → Q (.exit id) a w)
 (_ : ∀ (kk : St → Option Rt) n st a w, (∀ st a w, Rel st a w → kk st = some r → Q (.exit id) a w) → Rel st a w → lf kk (n + 1) st = some r → p.wp P (Exit.then (fun a w => ∃ st, Rel st a w ∧ lf kk n st = some r) Q) a w), (Code.loop p).wp P Q a w
theorem u6 (n id : Nat) {S : Type} (Rel : S → Act → World → Prop) {Y q1 q2 p : Prop} (X : Y) (k1 : q1) (k2 : q2) (H : LpT Rel id → Y → Hq q1 → Hq q2 → Ct n p := by
 intro lp X k1 k2
 (repeat (first
 | with_reducible (first | refine wN ?_ | refine Bm ?_ | refine Bn ?_ | refine Bp ?_ | refine wO ?_ | refine wP ?_ | refine sX ?_ | refine wS ?_ | refine wR ?_ | refine Bq ?_ | refine Br ?_ | refine Bs ?_ | refine sY ?_ | refine wQ ?_ | refine Bl ?_)
 | refine Bt (by decide) ?_
 | refine Bh M ?_
 | refine Bj ?_
 | refine Bi ?_
 | refine Bw ?_
 | refine By ?_
 | refine Bu rfl ?_
 | refine Bv rfl ?_))
 refine (⟨?_⟩ : Ct 0 _)
 intro a K
 refine lp h (fun _ _ => rfl) ?_ k1.out k2.out
 first | exact ⟨K.to, X⟩ | exact ⟨_, _, K.to, X⟩ | exact ⟨_, _, _, _, K.to, X⟩ | exact ⟨_, _, _, _, _, _, K.to, X⟩ | exact ⟨_, _, _, _, _, _, _, _, K.to, X⟩ | exact ⟨_, _, _, _, _, _, _, _, _, _, K.to, X⟩) : p := (H (fun h hz h0 hk rd => If h hz h0 hk rd) X ⟨k1⟩ ⟨k2⟩).out
instance : Gv 28 0 0 := ⟨Mt⟩
instance : Gv 28 1 1 := ⟨IU⟩
instance : Gv 28 2 5 := ⟨IV⟩
instance : Gv 28 3 6 := ⟨xW⟩
instance : Gv 28 4 7 := ⟨IW⟩
instance : Gv 28 5 10 := ⟨IX⟩
instance : Gv 28 6 19 := ⟨Aw⟩
instance : Gv 28 7 20 := ⟨IY⟩
instance : Gv 31 0 0 := ⟨bE⟩
instance : Gv 31 1 1 := ⟨bE⟩
instance : Gv 31 2 2 := ⟨bE⟩
instance : Gv 37 0 0 := ⟨Qx⟩
instance : Gv 37 1 1 := ⟨Qy⟩
instance : Gv 37 2 2 := ⟨Qz⟩
instance : Gv 37 3 3 := ⟨QA⟩
instance : Gv 37 4 4 := ⟨QB⟩
instance : Gv 37 5 5 := ⟨Gt⟩
instance : Gv 37 6 6 := ⟨Gu⟩
instance : Gv 37 7 7 := ⟨Mv⟩
instance : Gv 47 0 0 := ⟨bE⟩
instance : Gv 47 1 1 := ⟨bE⟩
instance : Gv 92 0 0 := ⟨bE⟩
instance : Gv 92 1 1 := ⟨bE⟩
instance : Gv 125 0 0 := ⟨bE⟩
instance : Gv 130 0 0 := ⟨bE⟩
instance : Gv 133 0 0 := ⟨Dd⟩
instance : Gv 144 0 0 := ⟨NT⟩
instance : Gv 144 1 1 := ⟨De⟩
instance : Y5 23 := ⟨Wq⟩
instance : Y5 26 := ⟨Y3⟩
instance : Y5 29 := ⟨Mu⟩
instance : Y5 35 := ⟨aBU⟩
instance : Y5 94 := ⟨aEt⟩
instance : Y5 123 := ⟨aBY⟩
instance : H2 3 := ⟨nO⟩
instance : H2 4 := ⟨ZT⟩
instance : H2 5 := ⟨sc5⟩
instance : H2 9 := ⟨Hn⟩
instance : H2 23 := ⟨El⟩
instance : H2 26 := ⟨Fs⟩
instance : H2 29 := ⟨RW⟩
instance : H2 35 := ⟨RX⟩
instance : H2 38 := ⟨wM⟩
instance : H2 123 := ⟨EK⟩
instance : H2 131 := ⟨vX⟩
instance : H2 141 := ⟨D3⟩
instance : JL 22 4 := ⟨bE⟩
instance : JL 24 3 := ⟨bE⟩
instance : JL 25 9 := ⟨bE⟩
instance : JL 28 21 := ⟨bE⟩
instance : JL 31 3 := ⟨Wr⟩
instance : JL 37 28 := ⟨rB⟩
instance : JL 47 2 := ⟨KA⟩
instance : JL 92 2 := ⟨RY⟩
instance : JL 96 2 := ⟨aBX⟩
instance : F6 1 [.nilFunc] := ⟨z1⟩
instance : F6 2 [.int .i64 0] := ⟨z2⟩
instance : F6 3 [.int .i64 0] := ⟨z3⟩
instance : F6 4 [.bool false] := ⟨z4⟩
instance : F6 5 [.int .u8 0] := ⟨z5⟩
instance : F6 9 [.string (bs ([] : List UInt8))] := ⟨z9⟩
instance : F6 20 [.nilIface] := ⟨z20⟩
instance : F6 21 [.int .i32 0] := ⟨z21⟩
instance : F6 28 [.int .i64 0, .int .i64 0, .int .i64 0, .int .i64 0, .int .i64 0, .int .i64 0, .slice none 0 0, .int .i64 0, .int .i64 0, .int .i64 0, .int .i64 0, .int .i64 0, .int .i64 0, .int .i64 0, .int .i64 0, .int .i64 0, .int .i64 0, .int .i64 0, .int .i64 0, .slice none 0 0, .int .i64 0] := ⟨bE⟩
instance : F6 31 [.int .i64 0, .int .i64 0, .slice none 0 0] := ⟨z31⟩
instance : F6 37 [.int .i64 0, .int .i64 0, .int .i64 0, .int .i64 0, .int .i64 0, .slice none 0 0, .slice none 0 0, .int .i64 0, .int .i64 0, .int .i64 0, .int .i64 0, .int .i64 0, .int .i64 0, .slice none 0 0, .int .i64 0, .int .i64 0, .int .i64 0, .int .i64 0, .int .i64 0, .int .i64 0, .int .i64 0, .int .i64 0, .int .i64 0, .int .i64 0, .int .i64 0, .int .i64 0, .slice none 0 0, .int .i64 0] := ⟨z37⟩
instance : F6 38 [.int .i64 0] := ⟨z38⟩
instance : F6 46 [.int .i64 0, .int .i64 0] := ⟨z46⟩
instance : F6 47 [.int .i64 0, .int .i64 0] := ⟨z47⟩
instance : F6 51 [.nilFunc] := ⟨z51⟩
instance : F6 70 [.nilFunc] := ⟨z70⟩
instance : F6 72 [.nilFunc] := ⟨z72⟩
instance : F6 92 [.int .i64 0, .int .i64 0] := ⟨OJ⟩
instance : F6 96 [.int .i64 0, .int .i64 0] := ⟨z96⟩
instance : F6 105 [.nilFunc] := ⟨z105⟩
instance : F6 116 [.nilFunc] := ⟨z116⟩
instance : F6 124 [.slice none 0 0] := ⟨z124⟩
instance : F6 127 [.nilFunc] := ⟨z127⟩
instance : F6 131 [.pointer none] := ⟨z131⟩
instance : F6 138 [.int .i64 0, .int .i64 0, .int .i64 0, .int .i64 0, .int .i64 0] := ⟨z138⟩
instance : F6 139 [.nilFunc] := ⟨z139⟩
instance : F6 141 [.pointer none] := ⟨z141⟩
instance : F6 146 [.pointer none] := ⟨z146⟩
instance : F6 164 [.nilFunc] := ⟨z164⟩
instance : My 30 [.int .i64 0, .int .i64 0, .slice none 0 0] := ⟨by kernel_rfl⟩
instance : My 31 [.int .i64 0, .int .i64 0, .slice none 0 0] := ⟨by kernel_rfl⟩
instance : My 33 [.int .i64 0, .int .i64 0, .slice none 0 0] := ⟨by kernel_rfl⟩
instance : My 34 [.int .i64 0, .int .i64 0, .slice none 0 0] := ⟨by kernel_rfl⟩
instance : My 36 [.int .i64 0, .int .i64 0, .int .i64 0, .int .i64 0, .int .i64 0, .slice none 0 0, .slice none 0 0, .int .i64 0, .int .i64 0, .int .i64 0, .int .i64 0, .int .i64 0, .int .i64 0, .slice none 0 0, .int .i64 0, .int .i64 0, .int .i64 0, .int .i64 0, .int .i64 0, .int .i64 0, .int .i64 0, .int .i64 0, .int .i64 0, .int .i64 0, .int .i64 0, .int .i64 0, .slice none 0 0, .int .i64 0] := ⟨by kernel_rfl⟩
instance : My 37 [.int .i64 0, .int .i64 0, .int .i64 0, .int .i64 0, .int .i64 0, .slice none 0 0, .slice none 0 0, .int .i64 0, .int .i64 0, .int .i64 0, .int .i64 0, .int .i64 0, .int .i64 0, .slice none 0 0, .int .i64 0, .int .i64 0, .int .i64 0, .int .i64 0, .int .i64 0, .int .i64 0, .int .i64 0, .int .i64 0, .int .i64 0, .int .i64 0, .int .i64 0, .int .i64 0, .slice none 0 0, .int .i64 0] := ⟨by kernel_rfl⟩
instance : My 46 [.int .i64 0, .int .i64 0] := ⟨by kernel_rfl⟩
instance : My 47 [.int .i64 0, .int .i64 0] := ⟨by kernel_rfl⟩
instance : My 92 [.int .i64 0, .int .i64 0] := ⟨by kernel_rfl⟩
instance : My 124 [.slice none 0 0] := ⟨by kernel_rfl⟩
instance : My 125 [.slice none 0 0] := ⟨by kernel_rfl⟩
instance : My 129 [.slice none 0 0] := ⟨by kernel_rfl⟩
instance : My 130 [.slice none 0 0] := ⟨by kernel_rfl⟩
instance : My 136 [] := ⟨by kernel_rfl⟩
instance : My 137 [] := ⟨by kernel_rfl⟩
instance : My 303 [] := ⟨by kernel_rfl⟩
instance : My 304 [] := ⟨by kernel_rfl⟩
instance : My 305 [] := ⟨by kernel_rfl⟩
instance : oB 11 := ⟨bE⟩
instance : oB 14 := ⟨bE⟩
instance : oB 16 := ⟨W5⟩
instance : oB 19 := ⟨bE⟩
instance : oB 20 := ⟨bE⟩
instance : oB 21 := ⟨W6⟩
instance : oB 22 := ⟨bE⟩
instance : oB 23 := ⟨Uh⟩
instance : oB 24 := ⟨W7⟩
instance : oB 25 := ⟨bE⟩
instance : oB 26 := ⟨bE⟩
instance : oB 27 := ⟨bE⟩
instance : oB 28 := ⟨bE⟩
instance : oB 35 := ⟨bE⟩
instance : oB 36 := ⟨bE⟩
instance : oB 45 := ⟨bE⟩
instance : oB 46 := ⟨bE⟩
instance : oB 47 := ⟨Ui⟩
instance : oB 48 := ⟨W8⟩
instance : oB 49 := ⟨W9⟩
instance : oB 50 := ⟨Xa⟩
instance : oB 51 := ⟨bE⟩
instance : oB 52 := ⟨bE⟩
instance : oB 53 := ⟨bE⟩
instance : oB 55 := ⟨bE⟩
instance : oB 56 := ⟨bE⟩
instance : oB 57 := ⟨Uj⟩
instance : oB 59 := ⟨Xb⟩
instance : oB 60 := ⟨bE⟩
instance : oB 61 := ⟨bE⟩
instance : oB 62 := ⟨bE⟩
instance : oB 63 := ⟨bE⟩
instance : oB 72 := ⟨bE⟩
instance : oB 74 := ⟨Uk⟩
instance : oB 75 := ⟨Xc⟩
instance : oB 76 := ⟨bE⟩
instance : oB 77 := ⟨QD⟩
instance : oB 78 := ⟨Xd⟩
instance : oB 79 := ⟨Ul⟩
instance : oB 80 := ⟨CI⟩
instance : oB 81 := ⟨Um⟩
instance : oB 82 := ⟨D4⟩
instance : oB 83 := ⟨rM⟩
instance : oB 84 := ⟨HZ⟩
instance : oB 85 := ⟨gY⟩
instance : oB 86 := ⟨NU⟩
instance : oB 87 := ⟨NV⟩
instance : oB 88 := ⟨Xe⟩
instance : oB 89 := ⟨Xf⟩
instance : oB 90 := ⟨Xg⟩
instance : oB 91 := ⟨Xh⟩
instance : oB 92 := ⟨Un⟩
instance : oB 93 := ⟨uZ⟩
instance : oB 94 := ⟨Lu⟩
instance : oB 95 := ⟨H0⟩
instance : oB 98 := ⟨Uo⟩
instance : oB 104 := ⟨bE⟩
instance : oB 107 := ⟨FR⟩
instance : oB 108 := ⟨Up⟩
instance : oB 109 := ⟨bE⟩
instance : oB 118 := ⟨bE⟩
instance : oB 119 := ⟨bE⟩
instance : oB 120 := ⟨Uq⟩
instance : oB 121 := ⟨bE⟩
instance : oB 122 := ⟨bE⟩
instance : oB 123 := ⟨bE⟩
instance : oB 124 := ⟨JJ⟩
instance : oB 125 := ⟨bE⟩
instance : oB 126 := ⟨Ur⟩
instance : oB 127 := ⟨bE⟩
instance : oB 129 := ⟨bE⟩
instance : oB 130 := ⟨bE⟩
instance : oB 131 := ⟨bE⟩
instance : oB 132 := ⟨Mw⟩
instance : oB 133 := ⟨bE⟩
instance : oB 134 := ⟨bE⟩
instance : oB 135 := ⟨bE⟩
instance : oB 136 := ⟨bE⟩
instance : oB 137 := ⟨bE⟩
instance : oB 141 := ⟨EL⟩
instance : oB 142 := ⟨Mx⟩
instance : oB 144 := ⟨bE⟩
instance : oB 145 := ⟨bE⟩
instance : oB 146 := ⟨bE⟩
instance : oB 147 := ⟨Us⟩
instance : oB 148 := ⟨Pq⟩
instance : oB 149 := ⟨bE⟩
instance : oB 150 := ⟨Ut⟩
instance : oB 157 := ⟨bE⟩
instance : oB 158 := ⟨Uu⟩
instance : oB 159 := ⟨Uv⟩
instance : oB 160 := ⟨bE⟩
instance : oB 161 := ⟨bE⟩
instance : oB 163 := ⟨bE⟩
instance : oB 164 := ⟨Uw⟩
instance : oB 165 := ⟨Ux⟩
instance : oB 166 := ⟨Uy⟩
instance : oB 168 := ⟨bE⟩
instance : oB 169 := ⟨bE⟩
instance : oB 170 := ⟨bE⟩
instance : oB 172 := ⟨bE⟩
instance : oB 173 := ⟨bE⟩
instance : oB 174 := ⟨Uz⟩
instance : oB 175 := ⟨JK⟩
instance : oB 176 := ⟨Pr⟩
instance : oB 177 := ⟨Ps⟩
instance : oB 178 := ⟨UA⟩
instance : oB 179 := ⟨bE⟩
instance : oB 180 := ⟨bE⟩
instance : oB 181 := ⟨bE⟩
instance : oB 182 := ⟨bE⟩
instance : oB 183 := ⟨bE⟩
instance : oB 190 := ⟨bE⟩
instance : oB 191 := ⟨bE⟩
instance : oB 192 := ⟨UB⟩
instance : oB 193 := ⟨UC⟩
instance : oB 194 := ⟨bE⟩
instance : oB 195 := ⟨bE⟩
instance : oB 196 := ⟨bE⟩
instance : oB 197 := ⟨bE⟩
instance : oB 209 := ⟨UD⟩
instance : oB 220 := ⟨UE⟩
instance : ZV 23 92 2 16 := ⟨Ai⟩
instance : ZV 26 47 2 16 := ⟨sI⟩
instance : ZV 29 3 1 8 := ⟨fU⟩
instance : ZV 35 9 1 16 := ⟨xI⟩
instance : ZV 94 96 2 16 := ⟨RZ⟩
instance : ZV 123 5 1 1 := ⟨lF⟩
instance : Ws 3 .i64 := ⟨W4⟩
instance : Ws 5 .u8 := ⟨Kk⟩
instance : Ws 21 .i32 := ⟨bE⟩
instance : Ws 154 .u64 := ⟨bE⟩
instance : Ws 189 .u16 := ⟨bE⟩
instance : StI 9 := ⟨pA⟩
theorem Mem.mR {base : Nat} {W w : World} {x0 x1 : mT} {TL : List mT} (M : Mem base W w (x0 :: x1 :: TL)) : Mem base W w (x1 :: x0 :: TL) := Mem.kF (H := [x0, x1]) 2 rfl M [1,0] (by decide) (by decide)
theorem Mem.rN {base : Nat} {W w : World} {x0 x1 x2 : mT} {TL : List mT} (M : Mem base W w (x0 :: x1 :: x2 :: TL)) : Mem base W w (x1 :: x2 :: x0 :: TL) := Mem.kF (H := [x0, x1, x2]) 3 rfl M [1,2,0] (by decide) (by decide)
theorem Mem.NW {base : Nat} {W w : World} {x0 x1 x2 : mT} {TL : List mT} (M : Mem base W w (x0 :: x1 :: x2 :: TL)) : Mem base W w (x2 :: x0 :: x1 :: TL) := Mem.kF (H := [x0, x1, x2]) 3 rfl M [2,0,1] (by decide) (by decide)
theorem Mem.DT {base : Nat} {W w : World} {x0 x1 x2 x3 : mT} {TL : List mT} (M : Mem base W w (x0 :: x1 :: x2 :: x3 :: TL)) : Mem base W w (x2 :: x3 :: x0 :: x1 :: TL) := Mem.kF (H := [x0, x1, x2, x3]) 4 rfl M [2,3,0,1] (by decide) (by decide)
theorem qQq {N : Nat} {w0 : World} {r : List Int} (h : xY N  = some r) :
  Calls Tryz.prog 149 #[] w0 fun e w' => ∃ v, e = .returned v ∧ ∃ A0 c0, v = .slice A0 r.length c0 ∧ Mem w0.heap.size w0 w' [.row 3 1 A0 r.length c0 ((cI .i64).all r)] := by
 refine gE Tryz.func149 Tryz.ntmps149 ?_;intro M;unfold xY at h;refine cC 7 ?_;intro a K;refine jR K (cZ rfl fU z3 K (vs := [(0, I 2), (1, I 3), (2, I 3), (3, I 4), (4, I 4), (5, I 4), (6, I 5), (7, I 5), (8, I 5), (9, I 6), (10, I 6), (11, I 6), (12, I 7), (13, I 7), (14, I 7), (15, I 8), (16, I 8)]) (cs := [I 2, I 3, I 3, I 4, I 4, I 4, I 5, I 5, I 5, I 6, I 6, I 6, I 7, I 7, I 7, I 8, I 8]) rfl bE rfl rfl M) ?_;have M0 := M; clear K M; rintro _ a w ⟨gs, rfl, M⟩ K;replace M := M.iF 0 rfl (cI .i64) ([2, 3, 3, 4, 4, 4, 5, 5, 5, 6, 6, 6, 7, 7, 7, 8, 8] : List Int) (n := 17) rfl rfl rfl;clear M0;revert a;exact cW 4 (M.pick [0] aE)
theorem EM {N : Nat} {w0 : World} {r : List (Int × Int)} (h : vR N  = some r) :
  Calls Tryz.prog 144 #[] w0 fun e w' => ∃ v, e = .returned v ∧ ∃ A0 c0, v = .slice A0 r.length c0 ∧ Mem w0.heap.size w0 w' [.row 47 2 A0 r.length c0 (eI.all r)] := by
 refine gE Tryz.func144 Tryz.ntmps144 ?_;intro M;unfold vR at h;refine cC 8 ?_;refine dI (fun _ K => eX rfl K (vs := [(0, I 65535), (1, I 65535)]) (cs := [I 65535, I 65535]) rfl bE) M ?_;intro a K;refine jR K (cZ rfl sI z47 K (vs := [(0, .agg #[I 0, I 0]), (1, .agg #[I 65535, I 65535])]) (cs := [I 0, I 0, I 65535, I 65535]) rfl bE rfl rfl M) ?_;have M0 := M; clear K M; rintro _ a w ⟨gs, rfl, M⟩ K;replace M := M.iF 0 rfl eI ([(0, 0), (65535, 65535)] : List (Int × Int)) (n := 2) rfl rfl rfl;clear M0;revert a;exact cW 4 (M.pick [0] aE)
theorem EN {N : Nat} {w0 : World} {r : Int × Int × Int × Int × Int × Int × List (Int × Int) × Int × Int × Int × Int × Int × Int × Int × Int × Int × Int × Int × Int × List (Int × Int) × Int} (h : vS N  = some r) :
  Calls Tryz.prog 72 #[] w0 fun e w' => ∃ v, e = .returned v ∧ ∃ A6 c6 M6 c19, v = .agg #[I r.1, I r.2.1, I r.2.2.1, I r.2.2.2.1, I r.2.2.2.2.1, I r.2.2.2.2.2.1, .slice A6 r.2.2.2.2.2.2.1.length c6, I r.2.2.2.2.2.2.2.1, I r.2.2.2.2.2.2.2.2.1, I r.2.2.2.2.2.2.2.2.2.1, I r.2.2.2.2.2.2.2.2.2.2.1, I r.2.2.2.2.2.2.2.2.2.2.2.1, I r.2.2.2.2.2.2.2.2.2.2.2.2.1, I r.2.2.2.2.2.2.2.2.2.2.2.2.2.1, I r.2.2.2.2.2.2.2.2.2.2.2.2.2.2.1, I r.2.2.2.2.2.2.2.2.2.2.2.2.2.2.2.1, I r.2.2.2.2.2.2.2.2.2.2.2.2.2.2.2.2.1, I r.2.2.2.2.2.2.2.2.2.2.2.2.2.2.2.2.2.1, I r.2.2.2.2.2.2.2.2.2.2.2.2.2.2.2.2.2.2.1, .slice M6 r.2.2.2.2.2.2.2.2.2.2.2.2.2.2.2.2.2.2.2.1.length c19, I r.2.2.2.2.2.2.2.2.2.2.2.2.2.2.2.2.2.2.2.2] ∧ Mem w0.heap.size w0 w' [.row 92 2 A6 r.2.2.2.2.2.2.1.length c6 (eI.all r.2.2.2.2.2.2.1), .row 47 2 M6 r.2.2.2.2.2.2.2.2.2.2.2.2.2.2.2.2.2.2.2.1.length c19 (eI.all r.2.2.2.2.2.2.2.2.2.2.2.2.2.2.2.2.2.2.2.1)] := by
 refine gE Tryz.func72 Tryz.ntmps72 ?_;intro M;unfold vS at h;refine u3 2 ?_;intro gF w M;refine cC 4 ?_;refine dI (fun _ K => eX rfl K (vs := [(0, I 256), (1, I 256), (2, I 256)]) (cs := [I 256, I 256, I 256]) rfl bE) M ?_;refine dI (fun _ K => eX rfl K (vs := [(0, I 4096), (1, I 0), (2, I 0), (3, I 0), (4, I 4096), (5, I 0), (6, I 0), (7, I 0), (8, I 4096)]) (cs := [I 4096, I 0, I 0, I 0, I 4096, I 0, I 0, I 0, I 4096]) rfl bE) M ?_;obtain ⟨r2, gR, h⟩ := aB h;refine mC 0 (EM gR) ?_;intro A c w M;refine dI (fun _ K => eX rfl K (vs := [(2, I 65535), (4, .agg #[I 256, I 256, I 256]), (5, .agg #[I 4096, I 0, I 0, I 0, I 4096, I 0, I 0, I 0, I 4096]), (6, .slice A r2.length c), (7, I 64)]) (cs := [I 0, I 0, I 0, I 0, I 0, I 65535, .slice none (([] : List (Int × Int))).length 0, I 256, I 256, I 256, I 4096, I 0, I 0, I 0, I 4096, I 0, I 0, I 0, I 4096, .slice A r2.length c, I 64]) rfl bE) M ?_;refine sZ 0 ?_;intro w M;exact cW 3 (((Mem.aJ 92 2 eI M)).pick [0,1] aE)
theorem AD {N : Nat} {w0 : World} {r : Int × Int × List Int} (h : sE N  = some r) :
  Calls Tryz.prog 78 #[] w0 fun e w' => ∃ v, e = .returned v ∧ ∃ A2 c2, v = .agg #[I r.1, I r.2.1, .slice A2 r.2.2.length c2] ∧ Mem w0.heap.size w0 w' [.row 3 1 A2 r.2.2.length c2 ((cI .i64).all r.2.2)] := by
 refine gE Tryz.func78 Tryz.ntmps78 ?_;intro M;unfold sE at h;refine u3 2 ?_;intro gF w M;refine cC 4 ?_;intro a K;refine jR K (cZ rfl fU z3 K (vs := [(0, I 10), (1, I 65535), (2, I 0), (3, I 7)]) (cs := [I 10, I 65535, I 0, I 7]) rfl bE rfl rfl M) ?_;have M0 := M; clear K M; rintro _ a w ⟨gs, rfl, M⟩ K;replace M := M.iF 0 rfl (cI .i64) ([10, 65535, 0, 7] : List Int) (n := 4) rfl rfl rfl;clear M0;revert a;refine dI (fun _ K => eX rfl K (vs := [(0, I 2), (1, I 2), (2, .slice (some ⟨gs, 0, none⟩) ([10, 65535, 0, 7] : List Int).length 4)]) (cs := [I 2, I 2, .slice (some ⟨gs, 0, none⟩) ([10, 65535, 0, 7] : List Int).length 4]) rfl bE) M ?_;refine sZ 0 ?_;intro w M;exact cW 3 (M.pick [0] aE)
theorem yU {N : Nat} {s : List (Int × Int)} {FA : Option Addr} {Gw : Nat} {w0 : World} {r : List (Int × Int)} (h : oA N s = some r) (JM : SL w0 eI FA s) (UF : s.length ≤ Gw) :
  Calls Tryz.prog 49 #[.slice FA s.length Gw] w0 fun e w' => ∃ v, e = .returned v ∧ ∃ A0 c0, v = .slice A0 r.length c0 ∧ Mem w0.heap.size w0 w' [.row 92 2 A0 r.length c0 (eI.all r)] := by
 refine gE Tryz.func49 Tryz.ntmps49 ?_;intro M;unfold oA at h;refine cC 9 ?_
 by_cases hA : (FA).isNone = true
 ·have hs := SL.JH JM hA;replace h : some ([] : List (Int × Int)) = some r := by rw [hs] at h; exact h
  clear hs;refine dI (fun _ K => FG (b' := true) hA (BO rfl Wq K rfl rfl)) M ?_;exact cW 10 (((Mem.aJ 92 2 eI M)).pick [0] aE)
 refine dI (fun _ K => FG (b' := false) ((Bool.not_eq_true _).mp hA) (BO rfl Wq K rfl rfl)) M ?_;refine cC 7 ?_;intro a K;refine jR K (FP (C := eI) rfl Ai rfl K M) ?_;clear K M; rintro _ a w ⟨gs, rfl, M⟩ K;revert a;obtain ⟨l2, FT, h⟩ := aB h;refine cC 1 ?_;intro a K;refine jR K (kN (C := eI) (xs := ([] : List (Int × Int))) (ys := s) rfl Ai rfl OJ rfl rfl K rfl rfl 0 M rfl ((eG JM) _ M) FT) ?_;clear K M; rintro _ a w ⟨A, c, rfl, M⟩ K;revert a;exact cW 4 (M.pick [0] aE)
theorem xJ {N : Nat} {s : List (Int × Int)} {FA : Option Addr} {Gw : Nat} {w0 : World} {r : List (Int × Int)} (h : mY N s = some r) (JM : SL w0 eI FA s) (UF : s.length ≤ Gw) :
  Calls Tryz.prog 50 #[.slice FA s.length Gw] w0 fun e w' => ∃ v, e = .returned v ∧ ∃ A0 c0, v = .slice A0 r.length c0 ∧ Mem w0.heap.size w0 w' [.row 47 2 A0 r.length c0 (eI.all r)] := by
 refine gE Tryz.func50 Tryz.ntmps50 ?_;intro M;unfold mY at h;refine cC 9 ?_
 by_cases hA : (FA).isNone = true
 ·have hs := SL.JH JM hA;replace h : some ([] : List (Int × Int)) = some r := by rw [hs] at h; exact h
  clear hs;refine dI (fun _ K => FG (b' := true) hA (BO rfl Y3 K rfl rfl)) M ?_;exact cW 10 (((Mem.aJ 47 2 eI M)).pick [0] aE)
 refine dI (fun _ K => FG (b' := false) ((Bool.not_eq_true _).mp hA) (BO rfl Y3 K rfl rfl)) M ?_;refine cC 7 ?_;intro a K;refine jR K (FP (C := eI) rfl sI rfl K M) ?_;clear K M; rintro _ a w ⟨gs, rfl, M⟩ K;revert a;obtain ⟨l2, FT, h⟩ := aB h;refine cC 1 ?_;intro a K;refine jR K (kN (C := eI) (xs := ([] : List (Int × Int))) (ys := s) rfl sI rfl z47 rfl rfl K rfl rfl 0 M rfl ((eG JM) _ M) FT) ?_;clear K M; rintro _ a w ⟨A, c, rfl, M⟩ K;revert a;exact cW 4 (M.pick [0] aE)
end
section
open Go.RowKit Go.Shelf
def NX : Go.Shelf.Ren := ⟨fun | 160 => 195 | 232 => 212 | 231 => 211 | 227 => 213 | 234 => 215 | 233 => 214 | 236 => 217 | 235 => 216 | 228 => 233 | 271 => 236 | 151 => 235 | 197 => 234 | 120 => 246 | 152 => 245 | 260 => 244 | 137 => 247 | 119 => 248 | 224 => 227 | 225 => 226 | 217 => 225 | 266 => 239 | n => n, fun | 9 => 9 | 4 => 4 | 3 => 3 | 5 => 5 | 117 => 267 | 116 => 266 | 0 => 0 | 124 => 270 | 21 => 21 | 105 => 284 | 46 => 154 | 119 => 296 | 139 => 299 | 138 => 298 | n => n, fun | 3 => 6 | 4 => 7 | n => n⟩
theorem Wu : Go.Proofs.Lays.n160 Tryz.prog NX := {
 mixed := by kernel_rfl
 f119 := Tryz.func248.trans (congrArg some (by kernel_rfl))
 f120 := Tryz.func246.trans (congrArg some (by kernel_rfl))
 f137 := Tryz.func247.trans (congrArg some (by kernel_rfl))
 f151 := Tryz.func235.trans (congrArg some (by kernel_rfl))
 f152 := Tryz.func245.trans (congrArg some (by kernel_rfl))
 f160 := Tryz.func195.trans (congrArg some (by kernel_rfl))
 f197 := Tryz.func234.trans (congrArg some (by kernel_rfl))
 f217 := Tryz.func225.trans (congrArg some (by kernel_rfl))
 f224 := Tryz.func227.trans (congrArg some (by kernel_rfl))
 f225 := Tryz.func226.trans (congrArg some (by kernel_rfl))
 f227 := Tryz.func213.trans (congrArg some (by kernel_rfl))
 f228 := Tryz.func233.trans (congrArg some (by kernel_rfl))
 f231 := Tryz.func211.trans (congrArg some (by kernel_rfl))
 f232 := Tryz.func212.trans (congrArg some (by kernel_rfl))
 f233 := Tryz.func214.trans (congrArg some (by kernel_rfl))
 f234 := Tryz.func215.trans (congrArg some (by kernel_rfl))
 f235 := Tryz.func216.trans (congrArg some (by kernel_rfl))
 f236 := Tryz.func217.trans (congrArg some (by kernel_rfl))
 f260 := Tryz.func244.trans (congrArg some (by kernel_rfl))
 f266 := Tryz.func239.trans (congrArg some (by kernel_rfl))
 f271 := Tryz.func236.trans (congrArg some (by kernel_rfl))
 t0 := Tryz.underlying0
 a0 := Tryz.isAgg0
 z0 := Tryz.sizeOf0
 v0 := Tryz.zeroValue0
 t3 := Tryz.underlying3
 a3 := Tryz.isAgg3
 z3 := Tryz.sizeOf3
 v3 := Tryz.zeroValue3
 t4 := Tryz.underlying4
 a4 := Tryz.isAgg4
 z4 := Tryz.sizeOf4
 v4 := Tryz.zeroValue4
 t5 := Tryz.underlying5
 a5 := Tryz.isAgg5
 z5 := Tryz.sizeOf5
 v5 := Tryz.zeroValue5
 t9 := Tryz.underlying9
 a9 := Tryz.isAgg9
 z9 := Tryz.sizeOf9
 v9 := Tryz.zeroValue9
 t21 := Tryz.underlying21
 a21 := Tryz.isAgg21
 z21 := Tryz.sizeOf21
 v21 := Tryz.zeroValue21
 t46 := Tryz.underlying154
 a46 := Tryz.isAgg154
 z46 := Tryz.sizeOf154
 v46 := Tryz.zeroValue154
 t105 := Tryz.underlying284
 a105 := Tryz.isAgg284
 z105 := Tryz.sizeOf284
 v105 := Tryz.zeroValue284
 t116 := Tryz.underlying266
 a116 := Tryz.isAgg266
 z116 := Tryz.sizeOf266
 t117 := Tryz.underlying267
 a117 := Tryz.isAgg267
 z117 := Tryz.sizeOf267
 v117 := Tryz.zeroValue267
 t119 := Tryz.underlying296
 a119 := Tryz.isAgg296
 z119 := Tryz.sizeOf296
 t124 := Tryz.underlying270
 a124 := Tryz.isAgg270
 z124 := Tryz.sizeOf270
 v124 := Tryz.zeroValue270
 t138 := Tryz.underlying298
 a138 := Tryz.isAgg298
 z138 := Tryz.sizeOf298
 v138 := Tryz.zeroValue298
 t139 := Tryz.underlying299
 a139 := Tryz.isAgg299
 z139 := Tryz.sizeOf299
 v139 := Tryz.zeroValue299
 g3 := by kernel_rfl
 g4 := by kernel_rfl }
def NY : Go.Shelf.Ren := ⟨fun | 138 => 196 | 195 => 218 | 218 => 219 | 143 => 198 | 219 => 203 | 217 => 225 | 225 => 226 | 224 => 227 | 267 => 228 | 266 => 239 | 314 => 240 | n => n, fun | 9 => 9 | 3 => 3 | 4 => 4 | 5 => 5 | 0 => 0 | 46 => 154 | 146 => 287 | 51 => 229 | n => n, fun | 1 => 1 | n => n⟩
theorem Wv : Go.Proofs.Lays.n138 Tryz.prog NY := {
 mixed := by kernel_rfl
 f138 := Tryz.func196.trans (congrArg some (by kernel_rfl))
 f143 := Tryz.func198.trans (congrArg some (by kernel_rfl))
 f195 := Tryz.func218.trans (congrArg some (by kernel_rfl))
 f217 := Tryz.func225.trans (congrArg some (by kernel_rfl))
 f218 := Tryz.func219.trans (congrArg some (by kernel_rfl))
 f219 := Tryz.func203.trans (congrArg some (by kernel_rfl))
 f224 := Tryz.func227.trans (congrArg some (by kernel_rfl))
 f225 := Tryz.func226.trans (congrArg some (by kernel_rfl))
 f266 := Tryz.func239.trans (congrArg some (by kernel_rfl))
 f267 := Tryz.func228.trans (congrArg some (by kernel_rfl))
 f314 := Tryz.func240.trans (congrArg some (by kernel_rfl))
 t0 := Tryz.underlying0
 a0 := Tryz.isAgg0
 z0 := Tryz.sizeOf0
 v0 := Tryz.zeroValue0
 t3 := Tryz.underlying3
 a3 := Tryz.isAgg3
 z3 := Tryz.sizeOf3
 v3 := Tryz.zeroValue3
 t4 := Tryz.underlying4
 a4 := Tryz.isAgg4
 z4 := Tryz.sizeOf4
 v4 := Tryz.zeroValue4
 t5 := Tryz.underlying5
 a5 := Tryz.isAgg5
 z5 := Tryz.sizeOf5
 v5 := Tryz.zeroValue5
 t9 := Tryz.underlying9
 a9 := Tryz.isAgg9
 z9 := Tryz.sizeOf9
 v9 := Tryz.zeroValue9
 t46 := Tryz.underlying154
 a46 := Tryz.isAgg154
 z46 := Tryz.sizeOf154
 v46 := Tryz.zeroValue154
 t51 := Tryz.underlying229
 a51 := Tryz.isAgg229
 z51 := Tryz.sizeOf229
 v51 := Tryz.zeroValue229
 t146 := Tryz.underlying287
 a146 := Tryz.isAgg287
 z146 := Tryz.sizeOf287
 v146 := Tryz.zeroValue287
 g1 := by kernel_rfl }
def H3 : Go.Shelf.Ren := ⟨fun | 169 => 98 | n => n, fun | 70 => 146 | 9 => 9 | 0 => 0 | 72 => 148 | 37 => 123 | 127 => 219 | 3 => 3 | 5 => 5 | n => n, fun | n => n⟩
theorem Ww : Go.Proofs.Lays.n169 Tryz.prog H3 := {
 mixed := by kernel_rfl
 f169 := Tryz.func98.trans (congrArg some (by kernel_rfl))
 t0 := Tryz.underlying0
 a0 := Tryz.isAgg0
 z0 := Tryz.sizeOf0
 v0 := Tryz.zeroValue0
 t3 := Tryz.underlying3
 a3 := Tryz.isAgg3
 z3 := Tryz.sizeOf3
 v3 := Tryz.zeroValue3
 t9 := Tryz.underlying9
 a9 := Tryz.isAgg9
 z9 := Tryz.sizeOf9
 v9 := Tryz.zeroValue9
 t37 := Tryz.underlying123
 a37 := Tryz.isAgg123
 z37 := Tryz.sizeOf123
 v37 := Tryz.zeroValue123
 t70 := Tryz.underlying146
 a70 := Tryz.isAgg146
 z70 := Tryz.sizeOf146
 v70 := Tryz.zeroValue146
 t72 := Tryz.underlying148
 a72 := Tryz.isAgg148
 z72 := Tryz.sizeOf148
 v72 := Tryz.zeroValue148
 t127 := Tryz.underlying219
 a127 := Tryz.isAgg219
 z127 := Tryz.sizeOf219
 v127 := Tryz.zeroValue219 }
def NZ : Go.Shelf.Ren := ⟨fun | 144 => 180 | 143 => 198 | 219 => 203 | 217 => 225 | 225 => 226 | 224 => 227 | 267 => 228 | 266 => 239 | 314 => 240 | n => n, fun | 9 => 9 | 4 => 4 | 3 => 3 | 5 => 5 | 46 => 154 | 146 => 287 | 51 => 229 | n => n, fun | 1 => 1 | n => n⟩
theorem Wx : Go.Proofs.Lays.n144 Tryz.prog NZ := {
 mixed := by kernel_rfl
 f143 := Tryz.func198.trans (congrArg some (by kernel_rfl))
 f144 := Tryz.func180.trans (congrArg some (by kernel_rfl))
 f217 := Tryz.func225.trans (congrArg some (by kernel_rfl))
 f219 := Tryz.func203.trans (congrArg some (by kernel_rfl))
 f224 := Tryz.func227.trans (congrArg some (by kernel_rfl))
 f225 := Tryz.func226.trans (congrArg some (by kernel_rfl))
 f266 := Tryz.func239.trans (congrArg some (by kernel_rfl))
 f267 := Tryz.func228.trans (congrArg some (by kernel_rfl))
 f314 := Tryz.func240.trans (congrArg some (by kernel_rfl))
 t3 := Tryz.underlying3
 a3 := Tryz.isAgg3
 z3 := Tryz.sizeOf3
 v3 := Tryz.zeroValue3
 t4 := Tryz.underlying4
 a4 := Tryz.isAgg4
 z4 := Tryz.sizeOf4
 v4 := Tryz.zeroValue4
 t5 := Tryz.underlying5
 a5 := Tryz.isAgg5
 z5 := Tryz.sizeOf5
 v5 := Tryz.zeroValue5
 t9 := Tryz.underlying9
 a9 := Tryz.isAgg9
 z9 := Tryz.sizeOf9
 v9 := Tryz.zeroValue9
 t46 := Tryz.underlying154
 a46 := Tryz.isAgg154
 z46 := Tryz.sizeOf154
 v46 := Tryz.zeroValue154
 t51 := Tryz.underlying229
 a51 := Tryz.isAgg229
 z51 := Tryz.sizeOf229
 v51 := Tryz.zeroValue229
 t146 := Tryz.underlying287
 a146 := Tryz.isAgg287
 z146 := Tryz.sizeOf287
 v146 := Tryz.zeroValue287
 g1 := by kernel_rfl }
def EO : Go.Shelf.Ren := ⟨fun | 166 => 95 | 240 => 150 | 276 => 184 | 169 => 98 | n => n, fun | 0 => 0 | 3 => 3 | 4 => 4 | 5 => 5 | 9 => 9 | 20 => 20 | 37 => 123 | 70 => 146 | 72 => 148 | 75 => 150 | 80 => 145 | 164 => 241 | 127 => 219 | n => n, fun | n => n⟩
theorem QE : Go.Proofs.Lays.n166 Tryz.prog EO := {
 mixed := by kernel_rfl
 f166 := Tryz.func95.trans (congrArg some (by kernel_rfl))
 f240 := Tryz.func150.trans (congrArg some (by kernel_rfl))
 f276 := Tryz.func184.trans (congrArg some (by kernel_rfl))
 t0 := Tryz.underlying0
 a0 := Tryz.isAgg0
 z0 := Tryz.sizeOf0
 v0 := Tryz.zeroValue0
 t3 := Tryz.underlying3
 a3 := Tryz.isAgg3
 z3 := Tryz.sizeOf3
 v3 := Tryz.zeroValue3
 t4 := Tryz.underlying4
 a4 := Tryz.isAgg4
 z4 := Tryz.sizeOf4
 v4 := Tryz.zeroValue4
 t9 := Tryz.underlying9
 a9 := Tryz.isAgg9
 z9 := Tryz.sizeOf9
 v9 := Tryz.zeroValue9
 t20 := Tryz.underlying20
 a20 := Tryz.isAgg20
 z20 := Tryz.sizeOf20
 v20 := Tryz.zeroValue20
 t37 := Tryz.underlying123
 a37 := Tryz.isAgg123
 z37 := Tryz.sizeOf123
 v37 := Tryz.zeroValue123
 t70 := Tryz.underlying146
 a70 := Tryz.isAgg146
 z70 := Tryz.sizeOf146
 v70 := Tryz.zeroValue146
 t72 := Tryz.underlying148
 a72 := Tryz.isAgg148
 z72 := Tryz.sizeOf148
 v72 := Tryz.zeroValue148
 t75 := Tryz.underlying150
 a75 := Tryz.isAgg150
 z75 := Tryz.sizeOf150
 v75 := Tryz.zeroValue150
 t164 := Tryz.underlying241
 a164 := Tryz.isAgg241
 z164 := Tryz.sizeOf241
 v164 := Tryz.zeroValue241 }
theorem CJ : Builder.Extra Tryz.prog EO where
 sizeBuilder := by kernel_rfl
 liesBuilder := by kernel_rfl
 t5 := Tryz.underlying5
 a5 := Tryz.isAgg5
 z5 := Tryz.sizeOf5
 v5 := Tryz.zeroValue5
 infoByte := by kernel_rfl
 cellsByte := by kernel_rfl
 sizeByte := by kernel_rfl
 neB5 := by decide
theorem Gx : Builder.Extra Tryz.prog H3 where
 sizeBuilder := by kernel_rfl
 liesBuilder := by kernel_rfl
 t5 := Tryz.underlying5
 a5 := Tryz.isAgg5
 z5 := Tryz.sizeOf5
 v5 := Tryz.zeroValue5
 infoByte := by kernel_rfl
 cellsByte := by kernel_rfl
 sizeByte := by kernel_rfl
 neB5 := by decide
theorem Builder_String (B b : Nat) (l : List UInt8) (w : World) (h : Lib.IsBuilder 148 5 B b (Lib.byteCells l) w) (hBw : B ≤ w.heap.size) :
  Calls Tryz.prog 98 #[.pointer (some ⟨b, 0, none⟩)] w fun e w' => e = .returned (.string ⟨l.toArray⟩) ∧ Below B w w' := Any.Builder_String_any Ww Gx B b l w h hBw
theorem JN (N : Nat) (s cutset : List UInt8) (w0 : World) (r : List UInt8) (h : vD N s cutset = some r) :
  Calls Tryz.prog 195 #[.string (bs s), .string (bs cutset)] w0 fun e w' => ∃ v, e = .returned v ∧ v = .string (bs r) ∧ Mem w0.heap.size w0 w' [] := by
 unfold vD at h
 split at h
 ·rename_i hc
  cases h;obtain ⟨h1, h2, h3⟩ := hc;refine (Any.strings_Trim_laid Wu (by kernel_rfl) (bs s) (bs cutset) w0 (by rw [xV]; exact h1) (by rw [xV]; exact h2) (fun j b hb => ?_)).mono ?_
  ·exact of_decide_eq_true (List.all_eq_true.1 h3 b (List.mem_of_getElem? hb))
  ·rintro e w' ⟨rfl, hb⟩;exact ⟨_, rfl, rfl, Mem.Vv hb⟩
 ·cases h
theorem D5 (N : Nat) (s substr : List UInt8) (w0 : World) (r : Int) (h : rU N s substr = some r) :
  Calls Tryz.prog 196 #[.string (bs s), .string (bs substr)] w0 fun e w' => ∃ v, e = .returned v ∧ v = .int .i64 r ∧ Mem w0.heap.size w0 w' [] := by
 unfold rU at h
 split at h
 ·rename_i c
  cases h;refine (Any.strings_Count_one Wv (bs s) c w0).mono ?_;rintro e w' ⟨rfl, rfl⟩;exact ⟨_, rfl, rfl, Mem.start w'⟩
 ·cases h
section
variable {base : Nat} {W w : World} {L : List mT} {g c n : Nat} {A : Option Addr} {b d b2 : List UInt8}
theorem N0 (M : Mem base W w (.GV g 148 A n c :: L)) :
  Calls Tryz.prog 150 #[.pointer (some ⟨g, 0, none⟩)] w fun e w' => ∃ v, e = .returned v ∧ Mem base W w' (.blk g 148 [.pointer (some ⟨g, 0, none⟩), .slice A n c] :: L) := by
 obtain ⟨p, hp, hb⟩ := M.has 0 _ rfl;have hb' : w.heap[g]? = some (.cells #[.pointer p, .slice A n c] 148 (0, 0)) := hb;have M1 : Mem base W w (.blk g 148 [.pointer p, .slice A n c] :: L) := M.swap 0 rfl hb rfl
 rcases hp with rfl | rfl
 ·refine (Any.Builder_copyCheck_fresh { QE with } CJ.toX72 g w (M1.cell (i := 0) rfl (k := 0) rfl) (by simp [World.shape?, hb', EO]) (by simp [World.frozen?, hb'])).mono ?_;rintro e w' ⟨rfl, rfl⟩;exact ⟨_, rfl, M1.set 0 rfl 0 _⟩
 ·refine (Any.Builder_copyCheck_used { QE with } CJ.toX72 g w (M1.cell (i := 0) rfl (k := 0) rfl)).mono ?_;rintro e w' ⟨rfl, rfl⟩;exact ⟨_, rfl, M1⟩
theorem vY (M : Mem base W w (.GV g 148 A b.length c :: .row 5 1 A b.length c ((cI .u8).all (sN b)) :: L)) (h : Sl b d = some b2) :
  Calls Tryz.prog 95 #[.pointer (some ⟨g, 0, none⟩), .string (bs d)] w fun e w' => ∃ v, e = .returned v ∧ ∃ A' c', Mem base W w' (.GV g 148 A' b2.length c' :: .row 5 1 A' b2.length c' ((cI .u8).all (sN b2)) :: L) := by
 obtain ⟨rfl, hl⟩ := S8 h
 have happ : app 1 (sN b) (sN d) = some (sN b ++ sN d) := by
  unfold app;rw [if_pos (by rw [CH, CH]; omega)]
 replace M : Mem base W w (.GV g 148 A (sN b).length c :: .row 5 1 A (sN b).length c ((cI .u8).all (sN b)) :: L) := by rw [CH]; exact M
 refine oD Tryz.func95 rfl Tryz.ntmps95 rfl ?_;intro a K;have K : Kn a 19 [(0, .pointer (some ⟨g, 0, none⟩)), (1, .string (bs d))] := K;refine wp_seq (bI ?_);refine jJ K M ?_; clear K;refine kO M ?_; intro a K;refine wpList_nil (aF (wp_seq (bI ?_)));refine jJ K M ?_; clear K; intro a K;refine jR K (p8 (vs := [.pointer (some ⟨g, 0, none⟩)]) (cap := []) rfl Ut K rfl rfl (N0 M)) ?_;clear K M; rintro _ a w M K;refine wpList_nil (aF (wp_seq (bI ?_)));refine jJ K M ?_; clear K;refine kO M ?_;refine kO M ?_;refine dI (fun _ K => dJ rfl (show BA Tryz.prog 148 1 = some 1 by kernel_rfl) K rfl) M ?_;refine dI (fun _ K => eC rfl EK K rfl (oY 0 rfl) rfl) M ?_;refine kO M ?_; intro a K;refine jR K (Fo rfl lF pA ZU K rfl rfl 1 M rfl happ) ?_;clear K M; rintro _ a w ⟨A', c', rfl, M⟩ K;refine jJ K M ?_; clear K;refine dI (fun _ K => dJ rfl (show BA Tryz.prog 148 1 = some 1 by kernel_rfl) K rfl) M ?_; intro a K;refine wB K (cA rfl EK K rfl rfl rfl 0 M rfl rfl) ?_;clear K M; rintro _ a w M K;refine wpList_nil (aF (wp_seq (bI ?_)));refine jJ K M ?_; clear K;refine dI (fun _ K => iM rfl pA K rfl) M ?_;refine kO M ?_;refine kO M ?_; intro a K;refine wpList_nil (aF (wp_ret ?_));replace M : Mem base W w (.blk g 148 [.pointer (some ⟨g, 0, none⟩), .slice A' (sN b ++ sN d).length c'] :: .row 5 1 A' (sN b ++ sN d).length c' ((cI .u8).all (sN b ++ sN d)) :: L) := M;have M2 : Mem base W w (.GV g 148 A' (sN b ++ sN d).length c' :: .row 5 1 A' (sN b ++ sN d).length c' ((cI .u8).all (sN b ++ sN d)) :: L) := M.aBQ 0 rfl;have e : (sN b ++ sN d) = sN (b ++ d) := (List.map_append ..).symm;rw [e, CH] at M2;exact Fp K rfl (jB K rfl) (jB K rfl) ⟨_, rfl, A', c', M2⟩
theorem Gy (M : Mem W.heap.size W w (.GV g 148 A b.length c :: .row 5 1 A b.length c ((cI .u8).all (sN b)) :: L)) :
  Calls Tryz.prog 98 #[.pointer (some ⟨g, 0, none⟩)] w fun e w' => ∃ v, e = .returned v ∧ v = .string (bs b) ∧ Mem W.heap.size W w' [] := by
 refine (Builder_String W.heap.size g b w M.builder M.sz).mono ?_;rintro e w' ⟨rfl, h2⟩;exact ⟨_, rfl, rfl, Mem.Vv (M.low.trans h2)⟩
end
end
section
open Go.RowKit
theorem FB {N : Nat} {n : Int} {w0 : World} {r : Bool} (h : uO N n = some r) :
  Calls Tryz.prog 121 #[I n] w0 fun e w' => ∃ v, e = .returned v ∧ v = .bool r ∧ Mem w0.heap.size w0 w' [] := by
 refine gE Tryz.func121 Tryz.ntmps121 ?_;intro M;unfold uO at h;refine oT 10 5 h ?_ ?_
 ·intro hb h;exact cW 7 (M.pick [] aE)
 intro hb h;exact cW 7 (M.pick [] aE)
theorem N1 {N : Nat} {d : List Int} {JO : Option Addr} {JP : Nat} {o : Int} {w0 : World} {r : List UInt8 × Int} (h : Ez N d o = some r) (Cl : SL w0 (cI .i64) JO d) (Xj : d.length ≤ JP) :
  Calls Tryz.prog 52 #[.slice JO d.length JP, I o] w0 fun e w' => ∃ v, e = .returned v ∧ v = .tuple #[.string (bs r.1), I r.2] ∧ Mem w0.heap.size w0 w' [] := by
 refine gE Tryz.func52 Tryz.ntmps52 ?_;intro M;unfold Ez at h;obtain ⟨r2, gR, h⟩ := aB h;refine mC 10 (FB gR) ?_;intro w M;refine fJ 3 h ?_ ?_
 ·intro hb h;exact iA 8 (M.pick [] aE)
 intro hb h;refine fJ 10 h ?_ ?_
 ·intro hb h;exact iA 8 (M.pick [] aE)
 intro hb h;refine cC 9 ?_;refine dI (fun _ K => vA rfl K rfl rfl aE) M ?_;obtain ⟨_, h0, h⟩ := aB h;have h0 := I4 h0;intro a K;refine jR K (Jb (C := (cI .u8)) rfl lF rfl (by rw [z5]; rfl) rfl K rfl rfl M h0) ?_;clear K M; rintro _ a w ⟨A, c, rfl, M⟩ K;revert a;refine u6 18 0 (fun (⟨l2, i, i2, i3⟩ : List Int × Int × Int × Int) a w => ∃ (A2 : Option Addr) (c2 : Nat), Kn a 75 [(1, I o), (6, .slice A2 l2.length c2), (7, I i), (8, I i2), (24, .slice JO d.length JP), (25, I (d.length : Int)), (26, I i3)] ∧ Mem w0.heap.size w0 w [.row 5 1 A2 l2.length c2 ((cI .u8).all l2)]) M.oQ ?_ ?_
 ·clear M h;rintro ⟨l9, i7, i8, i9⟩ a w ⟨A9, c9, K, M⟩ h;try dsimp only at h
  revert a;refine fJ 9 h ?_ ?_
  ·intro hb h;obtain ⟨_, h0, h⟩ := aB h;have h0 := mS h0;refine cC 5 ?_;refine dI (fun _ K => qC rfl K rfl rfl h0) M ?_;refine cC 1 ?_;intro a K;refine jR K (cZ rfl lF z5 K (vs := [(0, .int .u8 (IntKind.u8.wrap (rE .i64 i7 (IntKind.i64.wrap (8 - i8)))))]) (cs := [.int .u8 (IntKind.u8.wrap (rE .i64 i7 (IntKind.i64.wrap (8 - i8))))]) rfl bE rfl rfl M) ?_;have M0 := M; clear K M; rintro _ a w ⟨Vi, rfl, M⟩ K;replace M := M.iF 0 rfl (cI .u8) ([IntKind.u8.wrap (rE .i64 i7 (IntKind.i64.wrap (8 - i8)))] : List Int) (n := 1) rfl rfl rfl;clear M0;obtain ⟨l10, N2, h⟩ := aB h;refine jR K (kN (C := (cI .u8)) (xs := l9) (ys := ([IntKind.u8.wrap (rE .i64 i7 (IntKind.i64.wrap (8 - i8)))] : List Int)) rfl lF rfl z5 rfl rfl K rfl rfl 1 M rfl ((iV (C := (cI .u8)) 0 rfl rfl) _ M) N2) ?_;clear K M; rintro _ a w ⟨QF, c10, rfl, M⟩ K;revert a;refine cC 6 ?_;refine dI (fun _ K => tQ rfl lF Kk pA K rfl (iV (C := (cI .u8)) 1 rfl rfl)) M ?_;exact iA 5 (M.pick [] aE)
  intro hb h;refine cC 5 ?_;refine dI (fun _ K => tQ rfl lF Kk pA K rfl (iV (C := (cI .u8)) 0 rfl rfl)) M ?_;exact iA 5 (M.pick [] aE)
 clear M h;rintro kk fuel ⟨l2, i, i2, i3⟩ a w hk1 ⟨A2, c2, K, M⟩ h;unfold Cd at h;revert a;refine fJ 6 h ?_ ?_
 ·intro hb h;obtain ⟨e2, mP, h⟩ := aB h;refine cC 6 ?_;refine dI (fun _ K => jS rfl fU K rfl rfl (eG Cl) mP) M ?_;refine dI (fun _ K => fK rfl nO K rfl rfl (eG Cl) mP rfl) M ?_;refine oT 9 32 h ?_ ?_
  ·intro hb h;exact iA 21 (M.pick [] aE)
  intro hb h;obtain ⟨_, h0, h⟩ := aB h;have h0 := mS h0;refine cC 2 ?_;refine dI (fun _ K => qC rfl K rfl rfl h0) M ?_;refine fJ 4 h ?_ ?_
  ·intro hb h;exact iA 13 (M.pick [] aE)
  intro hb h;obtain ⟨_, h0, h⟩ := aB h;have h0 := mS h0;refine cC 6 ?_;refine dI (fun _ K => qC rfl K rfl rfl h0) M ?_;refine cC 1 ?_;refine dI (fun _ K => Hx rfl K rfl rfl) M ?_;obtain ⟨x6, hx, h⟩ := eF h;refine o8 3 hx ?_;obtain ⟨x7, hx, h⟩ := eF h;refine o8 0 hx ?_;refine u6 4 2 (fun (⟨l5, i5⟩ : List Int × Int) a w => ∃ (A5 : Option Addr) (c5 : Nat), Kn a 75 [(1, I o), (6, .slice A5 l5.length c5), (7, I x6), (8, I i5), (24, .slice JO d.length JP), (25, I (d.length : Int)), (26, I i3), (33, I e2), (34, I o), (35, I (rE .i64 1 o)), (36, .bool (decide ((rE .i64 1 o) ≤ e2)))] ∧ Mem w0.heap.size w0 w [.row 5 1 A5 l5.length c5 ((cI .u8).all l5)]) M.oQ ?_ ?_
  ·clear M h;rintro ⟨l8, i6⟩ a w ⟨A8, c8, K, M⟩ h;try dsimp only at h
   revert a;obtain ⟨_, h0, h⟩ := aB h;have h0 := mS h0;refine cC 5 ?_;refine dI (fun _ K => qC rfl K rfl rfl h0) M ?_;obtain ⟨x10, hx, h⟩ := eF h;refine o8 2 hx ?_;exact qK 8 (l8, x10, i6, IntKind.i64.wrap (i3 + 1)) M.oQ
  clear M h;rintro kk fuel ⟨l5, i5⟩ a w hk2 ⟨A5, c5, K, M⟩ h;unfold Cc at h;revert a;refine fJ 7 h ?_ ?_
  ·intro hb h;obtain ⟨x9, hx, h⟩ := eF h;refine o8 7 hx ?_;obtain ⟨_, h0, h⟩ := aB h;have h0 := mS h0;refine cC 6 ?_;refine dI (fun _ K => rR rfl K rfl rfl h0) M ?_;refine cC 1 ?_;intro a K;refine jR K (cZ rfl lF z5 K (vs := [(0, .int .u8 (IntKind.u8.wrap (dP .i64 x6 x9)))]) (cs := [.int .u8 (IntKind.u8.wrap (dP .i64 x6 x9))]) rfl bE rfl rfl M) ?_;have M0 := M; clear K M; rintro _ a w ⟨QG, rfl, M⟩ K;replace M := M.iF 0 rfl (cI .u8) ([IntKind.u8.wrap (dP .i64 x6 x9)] : List Int) (n := 1) rfl rfl rfl;clear M0;obtain ⟨l7, JQ, h⟩ := aB h;refine jR K (kN (C := (cI .u8)) (xs := l5) (ys := ([IntKind.u8.wrap (dP .i64 x6 x9)] : List Int)) rfl lF rfl z5 rfl rfl K rfl rfl 1 M rfl ((iV (C := (cI .u8)) 0 rfl rfl) _ M) JQ) ?_;clear K M; rintro _ a w ⟨A7, c7, rfl, M⟩ K;revert a;exact qK 4 (l7, x9) (M.pick [1] aE)
  intro hb h;exact rD 3 (hk2 (l5, i5)) M.oQ
 intro hb h;exact rD 3 (hk1 (l2, i, i2, i3)) M.oQ
theorem FC {N : Nat} {n size : Int} {w0 : World} {r : List UInt8} (h : sO N n size = some r) :
  Calls Tryz.prog 169 #[I n, I size] w0 fun e w' => ∃ v, e = .returned v ∧ v = .string (bs r) ∧ Mem w0.heap.size w0 w' [] := by
 refine gE Tryz.func169 Tryz.ntmps169 ?_;intro M;unfold sO at h;obtain ⟨l2, FT, h⟩ := aB h;refine cC 8 ?_;intro a K;refine jR K (Gd (C := (cI .u8)) (z := 0) rfl lF rfl z5 rfl K rfl rfl M FT) ?_;clear K M; rintro _ a w ⟨A, c, rfl, M⟩ K;revert a;refine u6 12 0 (fun (⟨l3, i, i2⟩ : List Int × Int × Int) a w => Kn a 28 [(0, I n), (1, I size), (5, .slice A l3.length c), (10, I i), (11, I i2)] ∧ Mem w0.heap.size w0 w [.row 5 1 A l3.length c ((cI .u8).all l3)]) M.oQ ?_ ?_
 ·clear M h;rintro ⟨l6, i3, i4⟩ a w ⟨K, M⟩ h;try dsimp only at h
  revert a;refine cC 5 ?_;refine dI (fun _ K => tQ rfl lF Kk pA K rfl (iV (C := (cI .u8)) 0 rfl rfl)) M ?_;exact cW 4 (M.pick [] aE)
 clear M h;rintro kk fuel ⟨l3, i, i2⟩ a w hk1 ⟨K, M⟩ h;unfold qZ at h;revert a;refine fJ 6 h ?_ ?_
 ·intro hb h;obtain ⟨_, h0, h⟩ := aB h;have h0 := mS h0;refine cC 18 ?_;refine dI (fun _ K => rR rfl K rfl rfl h0) M ?_;obtain ⟨b2, Pv, h⟩ := aB h;refine cC 1 ?_;refine dI (fun _ K => sT rfl pA K rfl rfl Pv) M ?_;obtain ⟨e2, mP, h⟩ := aB h;refine dI (fun _ K => jS rfl lF K rfl rfl (iV (C := (cI .u8)) 0 rfl rfl) mP) M ?_;obtain ⟨l5, Hp, h⟩ := aB h;intro a K;refine wB K (oZ (el := (b2.toNat : Int)) rfl sz5 rfl rfl K rfl rfl rfl 0 M rfl Hp) ?_;have M0 := M; clear K M; rintro _ a w M K;have hl := rF Hp;try rw [hl] at M
  try rw [hl] at K
  clear hl;clear M0;revert a;exact qK 8 (l5, i, IntKind.i64.wrap (i2 + 1)) M.oQ
 intro hb h;exact rD 3 (hk1 (l3, i, i2)) M.oQ
theorem xK {N : Nat} {n size : Int} {w0 : World} {r : List UInt8 × Int} (h : pD N n size = some r) :
  Calls Tryz.prog 126 #[I n, I size] w0 fun e w' => ∃ v, e = .returned v ∧ v = .tuple #[.string (bs r.1), I r.2] ∧ Mem w0.heap.size w0 w' [] := by
 refine gE Tryz.func126 Tryz.ntmps126 ?_;intro M;unfold pD at h;refine oT 12 8 h ?_ ?_
 ·intro hb h;exact iA 24 (M.pick [] aE)
 intro hb h;refine oT 4 12 h ?_ ?_
 ·intro hb h;exact iA 20 (M.pick [] aE)
 intro hb h;refine oT 4 16 h ?_ ?_
 ·intro hb h;exact iA 16 (M.pick [] aE)
 intro hb h;obtain ⟨_, h0, h⟩ := aB h;have h0 := mS h0;refine cC 2 ?_;refine dI (fun _ K => qC rfl K rfl rfl h0) M ?_;refine fJ 4 h ?_ ?_
 ·intro hb h;exact iA 8 (M.pick [] aE)
 intro hb h;obtain ⟨r2, gR, h⟩ := aB h;refine mC 6 (FC gR) ?_;intro w M;exact iA 5 (M.pick [] aE)
theorem JR {N : Nat} {b : List UInt8} {w0 : World} {r : Bool} (h : Ah N b = some r) :
  Calls Tryz.prog 170 #[.string (bs b)] w0 fun e w' => ∃ v, e = .returned v ∧ v = .bool r ∧ Mem w0.heap.size w0 w' [] := by
 refine gE Tryz.func170 Tryz.ntmps170 ?_;intro M;unfold Ah at h;obtain ⟨r2, gR, h⟩ := aB h;refine mC 8 (JN N b ([48, 49] : List UInt8) _  r2 gR) ?_;intro w M;refine dI (fun _ K => DS rfl K rfl rfl) M ?_;refine oT 1 6 h ?_ ?_
 ·intro hb h;obtain ⟨r3, lU, h⟩ := aB h;refine mC 1 (D5 N b ([48] : List UInt8) _  r3 lU) ?_;intro w M;obtain ⟨r4, pZ, h⟩ := aB h;refine mC 1 (D5 N b ([49] : List UInt8) _  r4 pZ) ?_;intro w M;refine cC 2 ?_;refine dI (fun _ K => iM rfl pA K rfl) M ?_;exact cW 6 (M.pick [] aE)
 intro hb h;exact cW 13 (M.pick [] aE)
theorem Gz {N : Nat} {b : List UInt8} {w0 : World} {r : List UInt8 × Int} (h : wD N b = some r) :
  Calls Tryz.prog 127 #[.string (bs b)] w0 fun e w' => ∃ v, e = .returned v ∧ v = .tuple #[.string (bs r.1), I r.2] ∧ Mem w0.heap.size w0 w' [] := by
 refine gE Tryz.func127 Tryz.ntmps127 ?_;intro M;unfold wD at h;obtain ⟨r2, gR, h⟩ := aB h;refine mC 10 (JR gR) ?_;intro w M;refine fJ 3 h ?_ ?_
 ·intro hb h;exact iA 8 (M.pick [] aE)
 intro hb h;refine cC 5 ?_;refine dI (fun _ K => iM rfl pA K rfl) M ?_;obtain ⟨x2, hx, h⟩ := eF h;refine cC 1 ?_;refine dI (fun _ K => Ew hx (vA rfl K rfl rfl aE)) M ?_;obtain ⟨l2, FT, h⟩ := aB h;intro a K;refine jR K (Gd (C := (cI .u8)) (z := 0) rfl lF rfl z5 rfl K rfl rfl M FT) ?_;clear K M; rintro _ a w ⟨A, c, rfl, M⟩ K;revert a;refine cC 7 ?_;refine dI (fun _ K => iM rfl pA K rfl) M ?_;refine u6 4 0 (fun (⟨l3, i⟩ : List Int × Int) a w => Kn a 37 [(0, .string (bs b)), (4, .slice A l3.length c), (15, I (b.length : Int)), (16, I i)] ∧ Mem w0.heap.size w0 w [.row 5 1 A l3.length c ((cI .u8).all l3)]) M.oQ ?_ ?_
 ·clear M h;rintro ⟨l6, i2⟩ a w ⟨K, M⟩ h;try dsimp only at h
  revert a;refine cC 5 ?_;refine dI (fun _ K => tQ rfl lF Kk pA K rfl (iV (C := (cI .u8)) 0 rfl rfl)) M ?_;exact iA 5 (M.pick [] aE)
 clear M h;rintro kk fuel ⟨l3, i⟩ a w hk1 ⟨K, M⟩ h;unfold sB at h;revert a;refine fJ 6 h ?_ ?_
 ·intro hb h;refine cC 10 ?_;intro a K;refine dC (fun w => Mem _ _ w _) [0,0,0,0,0,0,0,0,0,0,0,0,0,0,0,2] bE bE M.drew ?_;replace M := M.drew;revert a;obtain ⟨x4, hx, h⟩ := eF h;refine cC 2 ?_;refine nX (fun _ K => Ew hx (vA rfl K rfl rfl aE)) ?_;obtain ⟨e3, vZ, h⟩ := aB h;refine nX (fun _ K => gX rfl lF K rfl rfl ((iV (C := (cI .u8)) 0 rfl rfl) _ M) vZ) ?_;refine nX (fun _ K => fK rfl sc5 K rfl rfl (iV (C := (cI .u8)) 0 rfl rfl) vZ rfl) ?_;obtain ⟨b3, FU, h⟩ := aB h;refine cC 2 ?_;refine nX (fun _ K => sT rfl pA K rfl rfl FU) ?_;refine cC 2 ?_;refine nX (fun _ K => GY rfl K rfl rfl aE) ?_;obtain ⟨_, h0, h⟩ := aB h;have h0 := mS h0;refine cC 1 ?_;refine nX (fun _ K => qC rfl K rfl rfl h0) ?_;refine nX (fun _ K => Hx rfl K rfl rfl) ?_;obtain ⟨e4, wT, h⟩ := aB h;refine nX (fun _ K => gX rfl lF K rfl rfl ((iV (C := (cI .u8)) 0 rfl rfl) _ M) wT) ?_;obtain ⟨l5, Hp, h⟩ := aB h;intro a K;refine Ss K (oZ (el := KT .u8 e3 (rE .u8 (IntKind.u8.wrap ((b3.toNat : Int) - 48)) (IntKind.i64.wrap (7 - (Int.tmod i 8))))) rfl sz5 rfl rfl K rfl rfl rfl 0 M rfl Hp) ?_;have M0 := M; clear K M; rintro _ a w M K;have hl := rF Hp;try rw [hl] at M
  try rw [hl] at K
  clear hl;clear M0;revert a;exact qK 8 (l5, IntKind.i64.wrap (i + 1)) M.oQ
 intro hb h;exact rD 3 (hk1 (l3, i)) M.oQ
theorem KC {N : Nat} {d : List UInt8} {o p2 : Int} {w0 : World} {r : List Int × Int} (h : xA N d o p2 = some r) :
  Calls Tryz.prog 145 #[.string (bs d), I o, I p2] w0 fun e w' => ∃ v, e = .returned v ∧ ∃ A0 c0, v = .tuple #[.slice A0 r.1.length c0, I r.2] ∧ Mem w0.heap.size w0 w' [.row 3 1 A0 r.1.length c0 ((cI .i64).all r.1)] := by
 refine gE Tryz.func145 Tryz.ntmps145 ?_;intro M;unfold xA at h;obtain ⟨r2, gR, h⟩ := aB h;refine mC 10 (FB gR) ?_;intro w M;refine oT 2 15 h ?_ ?_
 ·intro hb h;exact iA 14 (((Mem.aJ 3 1 (cI .i64) M)).pick [0] aE)
 intro hb h;refine fJ 5 h ?_ ?_
 ·intro hb h;exact iA 8 (((Mem.aJ 3 1 (cI .i64) M)).pick [0] aE)
 intro hb h;refine fJ 9 h ?_ ?_
 ·intro hb h;exact iA 8 (((Mem.aJ 3 1 (cI .i64) M)).pick [0] aE)
 intro hb h;refine cC 6 ?_;refine dI (fun _ K => iM rfl pA K rfl) M ?_;refine cC 4 ?_;refine dI (fun _ K => vA rfl K rfl rfl aE) M ?_;refine fJ 3 h ?_ ?_
 ·intro hb h;exact iA 8 (((Mem.aJ 3 1 (cI .i64) M)).pick [0] aE)
 intro hb h;refine cC 17 ?_;refine dI (fun _ K => iM rfl pA K rfl) M ?_;refine cC 4 ?_;replace M := Mem.aJ 3 1 (cI .i64) M;refine u6 0 0 (fun (⟨l5, i3, i4, i5⟩ : List Int × Int × Int × Int) a w => ∃ (A4 : Option Addr) (c4 : Nat), Kn a 70 [(0, .string (bs d)), (1, I o), (2, I p2), (8, .slice A4 l5.length c4), (9, I i3), (10, I i4), (30, I (d.length : Int)), (31, I i5)] ∧ Mem w0.heap.size w0 w [.row 3 1 A4 l5.length c4 ((cI .i64).all l5)]) M.oQ ?_ ?_
 ·clear M h;rintro ⟨VE, i12, Ih, Yo⟩ a w ⟨Xk, c11, K, M⟩ h;try dsimp only at h
  revert a;refine fJ 9 h ?_ ?_
  ·intro hb h;exact iA 8 (((Mem.aJ 3 1 (cI .i64) M)).pick [0] aE)
  intro hb h;exact iA 10 (M.pick [0] aE)
 clear M h;rintro kk fuel ⟨l5, i3, i4, i5⟩ a w hk1 ⟨A4, c4, K, M⟩ h;unfold rA at h;revert a;refine fJ 6 h ?_ ?_
 ·intro hb h;refine cC 13 ?_;refine dI (fun _ K => qC rfl K rfl rfl aE) M ?_;obtain ⟨b3, FU, h⟩ := aB h;refine cC 2 ?_;refine dI (fun _ K => sT rfl pA K rfl rfl FU) M ?_;refine cC 1 ?_;refine dI (fun _ K => Hx rfl K rfl rfl) M ?_;obtain ⟨Ki, hx, h⟩ := eF h;refine o8 2 hx ?_;obtain ⟨Hy, hx, h⟩ := eF h;refine o8 0 hx ?_;refine u6 3 2 (fun (⟨l8, i8, i9⟩ : List Int × Int × Int) a w => ∃ (A7 : Option Addr) (c7 : Nat), Kn a 70 [(0, .string (bs d)), (1, I o), (2, I p2), (8, .slice A7 l8.length c7), (9, I i8), (10, I i9), (30, I (d.length : Int)), (31, I i5)] ∧ Mem w0.heap.size w0 w [.row 3 1 A7 l8.length c7 ((cI .i64).all l8)]) M.oQ ?_ ?_
  ·clear M h;rintro ⟨VD, G4, i11⟩ a w ⟨QF, c10, K, M⟩ h;try dsimp only at h
   revert a;exact qK 8 (VD, G4, i11, IntKind.i64.wrap (i5 + 1)) M.oQ
  clear M h;rintro kk fuel ⟨l8, i8, i9⟩ a w hk2 ⟨A7, c7, K, M⟩ h;unfold q9 at h;revert a;refine oT 7 46 h ?_ ?_
  ·intro hb h;refine fJ 7 h ?_ ?_
   ·intro hb h;obtain ⟨FH, hx, h⟩ := eF h;refine o8 8 hx ?_;obtain ⟨_, h0, h⟩ := aB h;have h0 := mS h0;refine cC 7 ?_;refine dI (fun _ K => rR rfl K rfl rfl h0) M ?_;intro a K;refine jR K (cZ rfl fU z3 K (vs := [(0, I (dP .i64 i8 FH))]) (cs := [I (dP .i64 i8 FH)]) rfl bE rfl rfl M) ?_;have M0 := M; clear K M; rintro _ a w ⟨Y6, rfl, M⟩ K;replace M := M.iF 0 rfl (cI .i64) ([dP .i64 i8 FH] : List Int) (n := 1) rfl rfl rfl;clear M0;obtain ⟨l10, N2, h⟩ := aB h;refine jR K (kN (C := (cI .i64)) (xs := l8) (ys := ([dP .i64 i8 FH] : List Int)) rfl fU rfl z3 rfl rfl K rfl rfl 1 M rfl ((iV (C := (cI .i64)) 0 rfl rfl) _ M) N2) ?_;clear K M; rintro _ a w ⟨A9, c9, rfl, M⟩ K;revert a;obtain ⟨_, h0, h⟩ := aB h;have h0 := mS h0;refine cC 6 ?_;refine dI (fun _ K => qC rfl K rfl rfl h0) M ?_;obtain ⟨Ko, hx, h⟩ := eF h;refine o8 2 hx ?_;exact qK 3 (l10, Ko, FH) (M.pick [1] aE)
   intro hb h;exact rD 3 (hk2 (l8, i8, i9)) M.oQ
  intro hb h;exact rD 11 (hk2 (l8, i8, i9)) M.oQ
 intro hb h;exact rD 3 (hk1 (l5, i3, i4, i5)) M.oQ
theorem H4 {N : Nat} {s : List UInt8} {w0 : World} {r : List UInt8} (h : vU N s = some r) :
  Calls Tryz.prog 177 #[.string (bs s)] w0 fun e w' => ∃ v, e = .returned v ∧ v = .string (bs r) ∧ Mem w0.heap.size w0 w' [] := by
 refine gE Tryz.func177 Tryz.ntmps177 ?_;intro M;unfold vU at h;refine cC 7 ?_;intro a K;refine jR K (pM rfl (show nR Tryz.prog 148 = some [.pointer none, .slice none 0 0] by kernel_rfl) M) ?_;have M0 := M; clear K M; rintro _ a w ⟨Xl, rfl, M⟩ K;replace M := Mem.W3 5 M;clear M0;revert a;refine u6 9 0 (fun (⟨l2, i⟩ : List UInt8 × Int) a w => ∃ (A : Option Addr) (c : Nat), Kn a 18 [(0, .string (bs s)), (3, .pointer (some ⟨Xl, 0, none⟩)), (4, I i)] ∧ Mem w0.heap.size w0 w [.row 5 1 A l2.length c ((cI .u8).all (sN l2)), .GV Xl 148 A l2.length c]) (M.pick [0,1] aE) ?_ ?_
 ·clear M h;rintro ⟨l3, i4⟩ a w ⟨A4, c4, K, M⟩ h;try dsimp only at h
  revert a;refine cC 4 ?_;intro a K;refine jR K (p8 (vs := [.pointer (some ⟨Xl, 0, none⟩)]) (cap := []) rfl Uo K rfl rfl (Gy (show Mem _ _ _ [.GV Xl 148 A4 l3.length c4, .row 5 1 A4 l3.length c4 ((cI .u8).all (sN l3))] from M.pick [1,0] aE))) ?_;clear K M; rintro _ a w ⟨rfl, M⟩ K;revert a;exact cW 4 (M.pick [] aE)
 clear M h;rintro kk fuel ⟨l2, i⟩ a w hk1 ⟨A, c, K, M⟩ h;unfold tD at h;revert a;refine cC 5 ?_;refine dI (fun _ K => iM rfl pA K rfl) M ?_;refine fJ 3 h ?_ ?_
 ·intro hb h;obtain ⟨b3, FU, h⟩ := aB h;refine cC 7 ?_;refine dI (fun _ K => sT rfl pA K rfl rfl FU) M ?_;obtain ⟨r3, lU, h⟩ := aB h;refine mC 1 (FC lU) ?_;intro w M;obtain ⟨b4, Pw, h⟩ := aB h;intro a K;refine jR K (p8 (vs := [.pointer (some ⟨Xl, 0, none⟩), .string (bs r3)]) (cap := []) rfl H0 K rfl rfl (vY (show Mem _ _ _ [.GV Xl 148 A l2.length c, .row 5 1 A l2.length c ((cI .u8).all (sN l2))] from M.pick [1,0] aE) Pw)) ?_;clear K M; rintro _ a w ⟨A3, c3, M⟩ K;revert a;obtain ⟨i3, hx, h⟩ := eF h;refine o8 6 hx ?_;exact qK 2 (b4, i3) (M.pick [1,0] aE)
 intro hb h;exact rD 3 (hk1 (l2, i)) (M.pick [0,1] aE)
theorem Mz {N : Nat} {b : List UInt8} {w0 : World} {r : Int × Int} (h : zH N b = some r) :
  Calls Tryz.prog 179 #[.string (bs b)] w0 fun e w' => ∃ v, e = .returned v ∧ v = .tuple #[I r.1, I r.2] ∧ Mem w0.heap.size w0 w' [] := by
 refine gE Tryz.func179 Tryz.ntmps179 ?_;intro M;unfold zH at h;obtain ⟨r2, gR, h⟩ := aB h;refine mC 10 (JR gR) ?_;intro w M;refine fJ 3 h ?_ ?_
 ·intro hb h;exact iA 8 (M.pick [] aE)
 intro hb h;refine cC 6 ?_;refine dI (fun _ K => iM rfl pA K rfl) M ?_;refine fJ 3 h ?_ ?_
 ·intro hb h;exact iA 8 (M.pick [] aE)
 intro hb h;refine cC 11 ?_;refine dI (fun _ K => iM rfl pA K rfl) M ?_;refine u6 4 0 (fun (⟨n, i⟩ : Int × Int) a w => Kn a 27 [(0, .string (bs b)), (4, I n), (13, I (b.length : Int)), (14, I i)] ∧ Mem w0.heap.size w0 w []) M.nQ ?_ ?_
 ·clear M h;rintro ⟨n4, i2⟩ a w ⟨K, M⟩ h;try dsimp only at h
  revert a;exact iA 10 (M.pick [] aE)
 clear M h;rintro kk fuel ⟨n, i⟩ a w hk1 ⟨K, M⟩ h;unfold sC at h;revert a;refine fJ 6 h ?_ ?_
 ·intro hb h;refine cC 12 ?_;refine dI (fun _ K => qC rfl K rfl rfl aE) M ?_;obtain ⟨b3, FU, h⟩ := aB h;refine cC 2 ?_;refine dI (fun _ K => sT rfl pA K rfl rfl FU) M ?_;obtain ⟨n3, hx, h⟩ := eF h;refine o8 3 hx ?_;exact qK 8 (n3, IntKind.i64.wrap (i + 1)) M.nQ
 intro hb h;exact rD 3 (hk1 (n, i)) M.nQ
theorem D6 {N : Nat} {x2 : Int} {w0 : World} {r : Bool} (h : uA N x2 = some r) :
  Calls Tryz.prog 194 #[I x2] w0 fun e w' => ∃ v, e = .returned v ∧ v = .bool r ∧ Mem w0.heap.size w0 w' [] := by
 refine gE Tryz.func194 Tryz.ntmps194 ?_;intro M;unfold uA at h;exact cW 14 (M.pick [] aE)
theorem GA {N : Nat} {x2 y : Int} {w0 : World} {r : Int} (h : uW N x2 y = some r) :
  Calls Tryz.prog 166 #[I x2, I y] w0 fun e w' => ∃ v, e = .returned v ∧ v = I r ∧ Mem w0.heap.size w0 w' [] := by
 refine gE Tryz.func166 Tryz.ntmps166 ?_;intro M;unfold uW at h;obtain ⟨r2, gR, h⟩ := aB h;refine mC 8 (D6 gR) ?_;intro w M;obtain ⟨r3, lU, h⟩ := aB h;refine mC 6 (D6 lU) ?_;intro w M;refine fJ 9 h ?_ ?_
 ·intro hb h;refine fJ 6 h ?_ ?_
  ·intro hb h;exact cW 8 (M.pick [] aE)
  intro hb h;exact cW 9 (M.pick [] aE)
 intro hb h;refine fJ 8 h ?_ ?_
 ·intro hb h;exact cW 7 (M.pick [] aE)
 intro hb h;refine fJ 10 h ?_ ?_
 ·intro hb h;exact cW 7 (M.pick [] aE)
 intro hb h;refine fJ 10 h ?_ ?_
 ·intro hb h;exact cW 7 (M.pick [] aE)
 intro hb h;exact cW 8 (M.pick [] aE)
theorem DU {N : Nat} {lens : List Int} {AX : Option Addr} {AY : Nat} {w0 : World} {r : Int} (h : tV N lens = some r) (AZ : SL w0 (cI .i64) AX lens) (UG : lens.length ≤ AY) :
  Calls Tryz.prog 118 #[.slice AX lens.length AY] w0 fun e w' => ∃ v, e = .returned v ∧ v = I r ∧ Mem w0.heap.size w0 w' [] := by
 refine gE Tryz.func118 Tryz.ntmps118 ?_;intro M;unfold tV at h;refine oT 12 9 h ?_ ?_
 ·intro hb h;exact cW 14 (M.pick [] aE)
 intro hb h;refine fJ 6 h ?_ ?_
 ·intro hb h;exact cW 7 (M.pick [] aE)
 intro hb h;refine u6 16 0 (fun (⟨room, i⟩ : Int × Int) a w => Kn a 40 [(3, I room), (14, .slice AX lens.length AY), (15, I (lens.length : Int)), (16, I i)] ∧ Mem w0.heap.size w0 w []) M.nQ ?_ ?_
 ·clear M h;rintro ⟨KZ, i2⟩ a w ⟨K, M⟩ h;try dsimp only at h
  revert a;refine oT 8 36 h ?_ ?_
  ·intro hb h;exact cW 13 (M.pick [] aE)
  intro hb h;refine fJ 5 h ?_ ?_
  ·intro hb h;exact cW 7 (M.pick [] aE)
  intro hb h;exact cW 8 (M.pick [] aE)
 clear M h;rintro kk fuel ⟨room, i⟩ a w hk1 ⟨K, M⟩ h;unfold qD at h;revert a;refine fJ 6 h ?_ ?_
 ·intro hb h;obtain ⟨e2, mP, h⟩ := aB h;refine cC 6 ?_;refine dI (fun _ K => jS rfl fU K rfl rfl (eG AZ) mP) M ?_;refine dI (fun _ K => fK rfl nO K rfl rfl (eG AZ) mP rfl) M ?_;refine oT 9 22 h ?_ ?_
  ·intro hb h;exact cW 18 (M.pick [] aE)
  intro hb h;refine fJ 5 h ?_ ?_
  ·intro hb h;exact cW 12 (M.pick [] aE)
  intro hb h;refine fJ 8 h ?_ ?_
  ·intro hb h;obtain ⟨_, h0, h⟩ := aB h;have h0 := mS h0;refine cC 4 ?_;refine dI (fun _ K => qC rfl K rfl rfl h0) M ?_;obtain ⟨S9, hx, h⟩ := eF h;refine o8 1 hx ?_;exact qK 8 (S9, IntKind.i64.wrap (i + 1)) M.nQ
  intro hb h;exact qK 8 (room, IntKind.i64.wrap (i + 1)) M.nQ
 intro hb h;exact rD 3 (hk1 (room, i)) M.nQ
theorem JS {N : Nat} {a2 b : Int} {v0 : List Int} {UH : Option Addr} {UI GB : Nat} {w0 : World} {r : Int} (h : vF N a2 b v0 = some r) (Py : SL w0 (cI .i64) UH v0) (aEB : v0.length ≤ UI) (MA : mM w0 GB 29 #[.slice UH v0.length UI]) :
  Calls Tryz.prog 165 #[I a2, I b, .pointer (some ⟨GB, 0, none⟩)] w0 fun e w' => ∃ v, e = .returned v ∧ v = I r ∧ Mem w0.heap.size w0 w' [] := by
 refine gE Tryz.func165 Tryz.ntmps165 ?_;intro M;unfold vF at h;refine cC 6 ?_;intro a K;refine dC (fun w => Mem _ _ w _) [0,0,0,0,0,0,0,0,1,0] bE bE M.drew ?_;replace M := M.drew;revert a;obtain ⟨e, H5, h⟩ := aB h;refine cC 2 ?_;refine nX (fun _ K => gX rfl fU K rfl rfl ((eG Py) _ M) H5) ?_;refine nX (fun _ K => fK rfl nO K rfl rfl (eG Py) H5 rfl) ?_;obtain ⟨e2, mP, h⟩ := aB h;refine cC 2 ?_;refine nX (fun _ K => gX rfl fU K rfl rfl ((eG Py) _ M) mP) ?_;refine nX (fun _ K => fK rfl nO K rfl rfl (eG Py) mP rfl) ?_;obtain ⟨r2, gR, h⟩ := aB h;intro a K;refine wH K (lJ Uy K (GA gR)) ?_;clear K; rintro _ a w ⟨rfl, Zq⟩ K;replace M := M.call Zq; clear Zq;refine ⟨M.pick [] aE, ?_⟩;revert a;exact cW 4 (M.pick [] aE)
theorem GC {N : Nat} {d : List Int} {JO : Option Addr} {JP : Nat} {w0 : World} {r : List (List UInt8) × Int} (h : sD N d = some r) (Cl : SL w0 (cI .i64) JO d) (Xj : d.length ≤ JP) :
  Calls Tryz.prog 123 #[.slice JO d.length JP] w0 fun e w' => ∃ v, e = .returned v ∧ ∃ A0 c0, v = .tuple #[.slice A0 r.1.length c0, I r.2] ∧ Mem w0.heap.size w0 w' [.row 9 1 A0 r.1.length c0 (cS.all r.1)] := by
 refine gE Tryz.func123 Tryz.ntmps123 ?_;intro M;unfold sD at h;refine u3 2 ?_;intro H6 w M;obtain ⟨r2, gR, h⟩ := aB h;refine mC 8 (DU gR ((eG Cl) _ M) Xj) ?_;intro w M;refine fJ 9 h ?_ ?_
 ·intro hb h;exact iA 9 (((Mem.aJ 9 1 cS M)).pick [0] aE)
 intro hb h;refine cC 16 ?_;replace M := Mem.aJ 3 1 (cI .i64) M;refine u6 0 0 (fun (⟨l3, i⟩ : List Int × Int) a w => ∃ (A2 : Option Addr) (c2 : Nat), Kn a 74 [(1, .pointer (some ⟨H6, 0, none⟩)), (5, .slice A2 l3.length c2), (19, .slice JO d.length JP), (20, I (d.length : Int)), (21, I i)] ∧ Mem w0.heap.size w0 w [.row 3 1 A2 l3.length c2 ((cI .i64).all l3), .blk H6 29 [.slice JO d.length JP]]) (M.pick [0,1] aE) ?_ ?_
 ·clear M h;rintro ⟨l6, i2⟩ a w ⟨A5, c5, K, M⟩ h;try dsimp only at h
  revert a;refine cC 6 ?_;intro a K;refine Jc (vs := [.slice A5 l6.length c5, .func (.func 165) #[] #[.pointer (some ⟨H6, 0, none⟩)]]) (cap := []) K (aA rfl) rfl rfl rfl Uw rfl rfl ?_; clear K;refine oD Tryz.func164 rfl Tryz.ntmps164 rfl ?_;refine cC 5 ?_;intro a K;refine Jc (vs := [.slice A5 l6.length c5, I (l6.length : Int), .func (.func 165) #[] #[.pointer (some ⟨H6, 0, none⟩)]]) (cap := []) K (aA rfl) rfl rfl rfl UC rfl rfl ?_; clear K;refine oD Tryz.func193 rfl Tryz.ntmps193 rfl ?_;refine cC 14 ?_;intro a K;refine Dc 1 ?_;refine mL ?_;revert a;refine fJ 8 h ?_ ?_
  ·intro hb h;intro a K;cases h
  intro hb h;refine cC 11 ?_;intro a K;refine Jc (vs := [.slice A5 l6.length c5, I 0, I (l6.length : Int), .func (.func 165) #[] #[.pointer (some ⟨H6, 0, none⟩)]]) (cap := []) K (aA rfl) rfl rfl rfl UD rfl rfl ?_; clear K;refine oD Tryz.func209 rfl Tryz.ntmps209 rfl ?_;obtain ⟨i3, hx, h⟩ := eF h;refine o8 4 hx ?_;refine u6 3 0 (fun (⟨l7, b, i4⟩ : List Int × Int × Int) a w => Kn a 53 [(0, .slice A5 l7.length c5), (1, I 0), (2, I b), (3, .func (.func 165) #[] #[.pointer (some ⟨H6, 0, none⟩)]), (8, I i4)] ∧ Mem w0.heap.size w0 w [.row 3 1 A5 l7.length c5 ((cI .i64).all l7), .blk H6 29 [.slice JO d.length JP]]) (M.pick [0,1] aE) ?_ ?_
  ·clear M h;rintro ⟨Hz, b2, i7⟩ a w ⟨K, M⟩ h;try dsimp only at h
   revert a;refine cC 1 ?_;intro a K;refine vC ?_;refine BS K rfl ⟨_, rfl, ?_⟩; clear K; intro a K;obtain ⟨_, h0, h⟩ := aB h;have h0 := FE h0;try rw [h0] at K
   try rw [h0] at M
   revert a;refine cC 3 ?_;intro a K;refine Dc 1 ?_;refine mL ?_;revert a;refine fJ 8 h ?_ ?_
   ·intro hb h;intro a K;cases h
   intro hb h;refine cC 4 ?_;intro a K;refine vC ?_;refine BS K rfl ⟨_, rfl, ?_⟩; clear K; intro a K;obtain ⟨_, h0, h⟩ := aB h;have h0 := FE h0;try rw [h0] at K
   try rw [h0] at M
   revert a;refine cC 1 ?_;intro a K;refine vC ?_;refine BS K rfl ⟨_, rfl, ?_⟩; clear K; intro a K;obtain ⟨_, h0, h⟩ := aB h;have h0 := FE h0;try rw [h0] at K
   try rw [h0] at M
   revert a;obtain ⟨x2, hx, h⟩ := eF h;refine cC 5 ?_;refine dI (fun _ K => Ew hx (DC rfl Mu K rfl)) M ?_;obtain ⟨Zy, aB3, h⟩ := aB h;intro a K;refine jR K (Gd (C := cS) (z := ([] : List UInt8)) rfl xI rfl z9 rfl K rfl rfl M aB3) ?_;clear K M; rintro _ a w ⟨A6, c6, rfl, M⟩ K;revert a;refine u6 17 2 (fun (⟨VB, i8, i9⟩ : List (List UInt8) × Int × Int) a w => Kn a 74 [(1, .pointer (some ⟨H6, 0, none⟩)), (8, .slice A6 VB.length c6), (9, I i8), (39, .slice A5 Hz.length c5), (40, I (Hz.length : Int)), (41, I i9)] ∧ Mem w0.heap.size w0 w [.row 9 1 A6 VB.length c6 (cS.all VB), .row 3 1 A5 Hz.length c5 ((cI .i64).all Hz), .blk H6 29 [.slice JO d.length JP]]) (M.pick [0,1,2] aE) ?_ ?_
   ·clear M h;rintro ⟨WO, G4, i11⟩ a w ⟨K, M⟩ h;try dsimp only at h
    revert a;exact iA 10 (M.pick [0] aE)
   clear M h;rintro kk fuel ⟨VB, i8, i9⟩ a w hk4 ⟨K, M⟩ h;unfold oN at h;revert a;refine fJ 6 h ?_ ?_
   ·intro hb h;obtain ⟨e33, Xm, h⟩ := aB h;refine cC 6 ?_;refine dI (fun _ K => jS rfl fU K rfl rfl (iV (C := (cI .i64)) 1 rfl rfl) Xm) M ?_;refine dI (fun _ K => fK rfl nO K rfl rfl (iV (C := (cI .i64)) 1 rfl rfl) Xm rfl) M ?_;refine cC 4 ?_;intro a K;refine dC (fun w => Mem _ _ w _) [0,0,0,0,0,0,0,0,0,0,0,1,0,0,0,0,0] bE bE M.drew ?_;replace M := M.drew;revert a;obtain ⟨e34, Xn, h⟩ := aB h;refine cC 3 ?_;refine nX (fun _ K => gX rfl fU K rfl rfl ((eG Cl) _ M) Xn) ?_;refine nX (fun _ K => fK rfl nO K rfl rfl (eG Cl) Xn rfl) ?_;obtain ⟨_, h0, h⟩ := aB h;have h0 := mS h0;refine cC 1 ?_;refine nX (fun _ K => rR rfl K rfl rfl h0) ?_;obtain ⟨e35, Xo, h⟩ := aB h;refine cC 2 ?_;refine nX (fun _ K => gX rfl fU K rfl rfl ((eG Cl) _ M) Xo) ?_;refine nX (fun _ K => fK rfl nO K rfl rfl (eG Cl) Xo rfl) ?_;obtain ⟨r7, Ba, h⟩ := aB h;intro a K;refine wH K (lJ Ur K (xK Ba)) ?_;clear K; rintro _ a w ⟨rfl, Zq⟩ K;replace M := M.call Zq; clear Zq;refine ⟨M.pick [0,1,2] aE, ?_⟩;revert a;obtain ⟨e36, aB4, h⟩ := aB h;refine cC 12 ?_;refine dI (fun _ K => jS rfl xI K rfl rfl (iV (C := cS) 0 rfl rfl) aB4) M ?_;obtain ⟨l27, Xp, h⟩ := aB h;intro a K;refine wB K (oZ (el := r7.1) rfl sz9 rfl rfl K rfl rfl rfl 0 M rfl Xp) ?_;have M0 := M; clear K M; rintro _ a w M K;have hl := rF Xp;try rw [hl] at M
    try rw [hl] at K
    clear hl;clear M0;revert a;obtain ⟨e37, Xq, h⟩ := aB h;refine cC 6 ?_;refine dI (fun _ K => jS rfl fU K rfl rfl (eG Cl) Xq) M ?_;refine dI (fun _ K => fK rfl nO K rfl rfl (eG Cl) Xq rfl) M ?_;obtain ⟨_, h0, h⟩ := aB h;have h0 := mS h0;refine cC 1 ?_;refine dI (fun _ K => qC rfl K rfl rfl h0) M ?_;obtain ⟨x4, hx, h⟩ := eF h;refine o8 1 hx ?_;exact qK 8 (l27, x4, IntKind.i64.wrap (i9 + 1)) (M.pick [0,1,2] aE)
   intro hb h;exact rD 3 (hk4 (VB, i8, i9)) (M.pick [0,1,2] aE)
  clear M h;rintro kk fuel ⟨l7, b, i4⟩ a w hk2 ⟨K, M⟩ h;unfold nM at h;revert a;refine fJ 8 h ?_ ?_
  ·intro hb h;refine u6 11 2 (fun (⟨OX, j4⟩ : List Int × Int) a w => Kn a 53 [(0, .slice A5 OX.length c5), (1, I 0), (2, I b), (3, .func (.func 165) #[] #[.pointer (some ⟨H6, 0, none⟩)]), (8, I i4), (9, I j4)] ∧ Mem w0.heap.size w0 w [.row 3 1 A5 OX.length c5 ((cI .i64).all OX), .blk H6 29 [.slice JO d.length JP]]) (M.pick [0,1] aE) ?_ ?_
   ·clear M h;rintro ⟨l22, j9⟩ a w ⟨K, M⟩ h;try dsimp only at h
    revert a;obtain ⟨i6, hx, h⟩ := eF h;refine o8 6 hx ?_;exact qK 2 (l22, b, i6) (M.pick [0,1] aE)
   clear M h;rintro kk fuel ⟨OX, j4⟩ a w hk3 ⟨K, M⟩ h;unfold sA at h;revert a;refine cC 2 ?_;intro a K;refine dC (fun w => Mem _ _ w _) [0,0,0,0,0,0,0,0,0,0,0,0,0,0,1,0,0] bE bE M.drew ?_;replace M := M.drew;revert a;refine oT 4 21 h ?_ ?_
   ·intro hb h;obtain ⟨e20, Xr, h⟩ := aB h;refine cC 3 ?_;refine nX (fun _ K => gX rfl fU K rfl rfl ((iV (C := (cI .i64)) 0 rfl rfl) _ M) Xr) ?_;refine nX (fun _ K => fK rfl nO K rfl rfl (iV (C := (cI .i64)) 0 rfl rfl) Xr rfl) ?_;obtain ⟨e21, Xs, h⟩ := aB h;refine cC 3 ?_;refine nX (fun _ K => gX rfl fU K rfl rfl ((iV (C := (cI .i64)) 0 rfl rfl) _ M) Xs) ?_;refine nX (fun _ K => fK rfl nO K rfl rfl (iV (C := (cI .i64)) 0 rfl rfl) Xs rfl) ?_;obtain ⟨r5, t7, h⟩ := aB h;intro a K;refine wH K (p8 (vs := [I e20, I e21]) (cap := [.pointer (some ⟨H6, 0, none⟩)]) rfl Ux K rfl rfl (JS t7 ((eG Cl) _ M) Xj (M.dV (i := 1) rfl))) ?_;clear K; rintro _ a w ⟨rfl, Zq⟩ K;replace M := M.call Zq; clear Zq;refine ⟨M.pick [0,1] aE, ?_⟩;revert a;refine fJ 4 h ?_ ?_
    ·intro hb h;refine cC 4 ?_;intro a K;refine sH (fun w => Mem _ _ w _) [0,0,0,0,0,0,0,0,0,1,0,0,0,1,0,1,0,2] 18 [0,1,2,3,4,5,6,7,8,9,10,11,12,13,14,15,16,17] bE bE bE rfl (M.pick [1] aE).drew ?_;replace M := M.drew;revert a;obtain ⟨e22, UJ, h⟩ := aB h;refine cC 8 ?_;intro a K;refine dU 8 [9,10,11,12,13,14,15,16,17] bE rfl K (aA rfl) rfl rfl (gX rfl fU K rfl rfl ((iV (C := (cI .i64)) 0 rfl rfl) _ M) UJ) ?_; clear K; intro a K;refine dU 10 [9,11,12,13,14,15,16,17] bE rfl K (aA rfl) rfl rfl (dL rfl K rfl) ?_; clear K; intro a K;refine dU 11 [9,12,13,14,15,16,17] bE rfl K (aA rfl) rfl rfl (dL rfl K rfl) ?_; clear K; intro a K;obtain ⟨e23, UK, h⟩ := aB h;refine dU 12 [9,13,14,15,16,17] bE rfl K (aA rfl) rfl rfl (gX rfl fU K rfl rfl ((iV (C := (cI .i64)) 0 rfl rfl) _ M) UK) ?_; clear K; intro a K;refine gD [9,13] bE ⟨?_, ?_, trivial⟩
     ·refine wI [13,14,15,16,17] bE rfl K (aA rfl) rfl rfl (fK rfl nO K rfl rfl (iV (C := (cI .i64)) 0 rfl rfl) UJ rfl) M ?_; clear K; intro a K;refine ⟨fun _ => M.pick [1] aE, ?_⟩;refine gD [13] bE ⟨?_, trivial⟩;refine wI [14,15,16,17] bE rfl K (aA rfl) rfl rfl (fK rfl nO K rfl rfl (iV (C := (cI .i64)) 0 rfl rfl) UK rfl) M ?_; clear K; intro a K;refine ⟨fun _ => M.pick [1] aE, ?_⟩;obtain ⟨e24, aB5, h⟩ := aB h;refine dU 14 [15,16,17] bE rfl K (aA rfl) rfl rfl (gX rfl fU K rfl rfl ((iV (C := (cI .i64)) 0 rfl rfl) _ M) aB5) ?_; clear K; intro a K;refine gD [15] bE ⟨?_, trivial⟩;obtain ⟨l18, Xt, h⟩ := aB h;refine wL [16,17] bE rfl K (aA rfl) rfl (oZ (el := e22) rfl yT rfl rfl K rfl rfl rfl 0 M rfl Xt) ?_;have M0 := M; clear K M; rintro _ a w M K;have hl := rF Xt;try rw [hl] at M
      try rw [hl] at K
      clear hl;clear M0;refine ⟨fun _ => M.pick [1] aE, ?_⟩;obtain ⟨e25, aB6, h⟩ := aB h;refine dU 16 [17] bE rfl K (aA rfl) rfl rfl (gX rfl fU K rfl rfl ((iV (C := (cI .i64)) 0 rfl rfl) _ M) aB6) ?_; clear K; intro a K;refine gD [17] bE ⟨?_, trivial⟩;obtain ⟨l19, Xu, h⟩ := aB h;refine wL [] bE rfl K (aA rfl) rfl (oZ (el := e23) rfl yT rfl rfl K rfl rfl rfl 0 M rfl Xu) ?_;have M0 := M; clear K M; rintro _ a w M K;have hl := rF Xu;try rw [hl] at M
      try rw [hl] at K
      clear hl;clear M0;refine ⟨fun h => absurd h aE, ?_⟩;revert a;obtain ⟨j7, hx, h⟩ := eF h;refine o8 6 hx ?_;exact qK 2 (l19, j7) (M.pick [0,1] aE)
     ·refine wI [9,14,15,16,17] bE rfl K (aA rfl) rfl rfl (fK rfl nO K rfl rfl (iV (C := (cI .i64)) 0 rfl rfl) UK rfl) M ?_; clear K; intro a K;refine ⟨fun _ => M.pick [1] aE, ?_⟩;refine gD [9] bE ⟨?_, trivial⟩;refine wI [14,15,16,17] bE rfl K (aA rfl) rfl rfl (fK rfl nO K rfl rfl (iV (C := (cI .i64)) 0 rfl rfl) UJ rfl) M ?_; clear K; intro a K;refine ⟨fun _ => M.pick [1] aE, ?_⟩;obtain ⟨e26, aB7, h⟩ := aB h;refine dU 14 [15,16,17] bE rfl K (aA rfl) rfl rfl (gX rfl fU K rfl rfl ((iV (C := (cI .i64)) 0 rfl rfl) _ M) aB7) ?_; clear K; intro a K;refine gD [15] bE ⟨?_, trivial⟩;obtain ⟨l20, Xv, h⟩ := aB h;refine wL [16,17] bE rfl K (aA rfl) rfl (oZ (el := e22) rfl yT rfl rfl K rfl rfl rfl 0 M rfl Xv) ?_;have M0 := M; clear K M; rintro _ a w M K;have hl := rF Xv;try rw [hl] at M
      try rw [hl] at K
      clear hl;clear M0;refine ⟨fun _ => M.pick [1] aE, ?_⟩;obtain ⟨e27, aB8, h⟩ := aB h;refine dU 16 [17] bE rfl K (aA rfl) rfl rfl (gX rfl fU K rfl rfl ((iV (C := (cI .i64)) 0 rfl rfl) _ M) aB8) ?_; clear K; intro a K;refine gD [17] bE ⟨?_, trivial⟩;obtain ⟨l21, Xw, h⟩ := aB h;refine wL [] bE rfl K (aA rfl) rfl (oZ (el := e23) rfl yT rfl rfl K rfl rfl rfl 0 M rfl Xw) ?_;have M0 := M; clear K M; rintro _ a w M K;have hl := rF Xw;try rw [hl] at M
      try rw [hl] at K
      clear hl;clear M0;refine ⟨fun h => absurd h aE, ?_⟩;revert a;obtain ⟨j8, hx, h⟩ := eF h;refine o8 6 hx ?_;exact qK 2 (l21, j8) (M.pick [0,1] aE)
    intro hb h;exact rD 3 (hk3 (OX, j4)) (M.pick [0,1] aE)
   intro hb h;refine cC 10 ?_;intro a K;refine kR K (K.no rfl rfl rfl rfl) rfl rfl (M.pick [0,1] aE) ?_; clear K; intro a K;revert a;exact rD 8 (hk3 (OX, j4)) (M.pick [0,1] aE)
  intro hb h;exact rD 3 (hk2 (l7, b, i4)) (M.pick [0,1] aE)
 clear M h;rintro kk fuel ⟨l3, i⟩ a w hk1 ⟨A2, c2, K, M⟩ h;unfold qG at h;revert a;refine fJ 6 h ?_ ?_
 ·intro hb h;obtain ⟨e3, vZ, h⟩ := aB h;refine cC 7 ?_;refine dI (fun _ K => jS rfl fU K rfl rfl (eG Cl) vZ) M ?_;refine dI (fun _ K => fK rfl nO K rfl rfl (eG Cl) vZ rfl) M ?_;refine fJ 10 h ?_ ?_
  ·intro hb h;refine cC 3 ?_;intro a K;refine jR K (cZ rfl fU z3 K (vs := [(0, I i)]) (cs := [I i]) rfl bE rfl rfl M) ?_;have M0 := M; clear K M; rintro _ a w ⟨QG, rfl, M⟩ K;replace M := M.iF 0 rfl (cI .i64) ([i] : List Int) (n := 1) rfl rfl rfl;clear M0;obtain ⟨l5, Hp, h⟩ := aB h;refine jR K (kN (C := (cI .i64)) (xs := l3) (ys := ([i] : List Int)) rfl fU rfl z3 rfl rfl K rfl rfl 1 M rfl ((iV (C := (cI .i64)) 0 rfl rfl) _ M) Hp) ?_;clear K M; rintro _ a w ⟨A4, c4, rfl, M⟩ K;revert a;exact qK 9 (l5, IntKind.i64.wrap (i + 1)) (M.pick [1,2] aE)
  intro hb h;exact qK 8 (l3, IntKind.i64.wrap (i + 1)) (M.pick [0,1] aE)
 intro hb h;exact rD 3 (hk1 (l3, i)) (M.pick [0,1] aE)
theorem N3 {N : Nat} {d : List Int} {JO : Option Addr} {JP : Nat} {o : List UInt8} {p2 : Int} {w0 : World} {r : List Int × List UInt8 × Int} (h : vT N d o p2 = some r) (Cl : SL w0 (cI .i64) JO d) (Xj : d.length ≤ JP) :
  Calls Tryz.prog 197 #[.slice JO d.length JP, .string (bs o), I p2] w0 fun e w' => ∃ v, e = .returned v ∧ ∃ A0 c0, v = .tuple #[.slice A0 r.1.length c0, .string (bs r.2.1), I r.2.2] ∧ Mem w0.heap.size w0 w' [.row 3 1 A0 r.1.length c0 ((cI .i64).all r.1)] := by
 refine gE Tryz.func197 Tryz.ntmps197 ?_;intro M;unfold vT at h;obtain ⟨r2, gR, h⟩ := aB h;refine mC 10 (GC gR ((eG Cl) _ M) Xj) ?_;intro A c w M;refine fJ 14 h ?_ ?_
 ·intro hb h;exact Pu 10 (((Mem.aJ 3 1 (cI .i64) M)).pick [0] aE)
 intro hb h;refine oT 8 29 h ?_ ?_
 ·intro hb h;exact Pu 15 (((Mem.aJ 3 1 (cI .i64) M)).pick [0] aE)
 intro hb h;refine fJ 5 h ?_ ?_
 ·intro hb h;exact Pu 9 (((Mem.aJ 3 1 (cI .i64) M)).pick [0] aE)
 intro hb h;obtain ⟨r3, lU, h⟩ := aB h;refine mC 6 (Gz lU) ?_;intro w M;refine fJ 13 h ?_ ?_
 ·intro hb h;exact Pu 9 (((Mem.aJ 3 1 (cI .i64) M)).pick [0] aE)
 intro hb h;refine cC 5 ?_;intro a K;refine Jc (vs := [.slice A r2.1.length c]) (cap := []) K (aA rfl) rfl rfl rfl UE rfl rfl ?_; clear K;refine oD Tryz.func220 rfl Tryz.ntmps220 rfl ?_;refine cC 7 ?_;intro a K;refine jR K (Pp rfl 9 3 M) ?_;clear K M; rintro _ a w ⟨gm, rfl, M⟩ K;revert a;refine u6 12 0 (fun (⟨m, i⟩ : List (List UInt8 × Int) × Int) a w => Kn a 44 [(3, .map (some gm)), (10, .slice A r2.1.length c), (11, I (r2.1.length : Int)), (12, I i)] ∧ Mem w0.heap.size w0 w [.Gb Tryz.prog 9 3 gm m, .row 9 1 A r2.1.length c (cS.all r2.1)]) (M.pick [0,1] aE) ?_ ?_
 ·clear M h;rintro ⟨m10, i5⟩ a w ⟨K, M⟩ h;try dsimp only at h
  revert a;refine cC 9 ?_;intro a K;refine Cx K rfl (jB K rfl) ⟨_, rfl, ?_⟩; clear K; intro a K;revert a;refine cC 10 ?_;replace M := Mem.aJ 3 1 (cI .i64) M;refine u6 0 0 (fun (⟨l3, o2⟩ : List Int × List UInt8) a w => ∃ (A3 : Option Addr) (c3 : Nat), Kn a 79 [(1, .string (bs o2)), (2, I p2), (13, .map (some gm)), (14, .slice A3 l3.length c3)] ∧ Mem w0.heap.size w0 w [.row 3 1 A3 l3.length c3 ((cI .i64).all l3), .Gb Tryz.prog 9 3 gm m10]) (M.pick [0,1] aE) ?_ ?_
  ·clear M h;rintro ⟨l6, o3⟩ a w ⟨A6, c6, K, M⟩ h;try dsimp only at h
   revert a;exact Pu 12 (M.pick [0] aE)
  clear M h;rintro kk fuel ⟨l3, o2⟩ a w hk3 ⟨A3, c3, K, M⟩ h;unfold pO at h;revert a;refine fJ 9 h ?_ ?_
  ·intro hb h;refine u6 11 2 (fun (⟨G4, i11⟩ : Int × Int) a w => Kn a 79 [(1, .string (bs o2)), (2, I p2), (13, .map (some gm)), (14, .slice A3 l3.length c3), (15, I G4), (16, I i11)] ∧ Mem w0.heap.size w0 w [.row 3 1 A3 l3.length c3 ((cI .i64).all l3), .Gb Tryz.prog 9 3 gm m10]) (M.pick [0,1] aE) ?_ ?_
   ·clear M h;rintro ⟨i12, Ih⟩ a w ⟨K, M⟩ h;try dsimp only at h
    revert a;refine cC 6 ?_;intro a K;refine jR K (cZ rfl fU z3 K (vs := [(0, I Ih)]) (cs := [I Ih]) rfl bE rfl rfl M) ?_;have M0 := M; clear K M; rintro _ a w ⟨QG, rfl, M⟩ K;replace M := M.iF 0 rfl (cI .i64) ([Ih] : List Int) (n := 1) rfl rfl rfl;clear M0;obtain ⟨l5, Hp, h⟩ := aB h;refine jR K (kN (C := (cI .i64)) (xs := l3) (ys := ([Ih] : List Int)) rfl fU rfl z3 rfl rfl K rfl rfl 1 M rfl ((iV (C := (cI .i64)) 0 rfl rfl) _ M) Hp) ?_;clear K M; rintro _ a w ⟨A5, c5, rfl, M⟩ K;revert a;obtain ⟨s13, aB9, h⟩ := aB h;refine cC 6 ?_;refine dI (fun _ K => iZ (k := .i64) (k' := .i64) rfl pA K rfl rfl rfl aB9) M ?_;exact qK 4 (l5, s13) (M.pick [1,2] aE)
   clear M h;rintro kk fuel ⟨G4, i11⟩ a w hk4 ⟨K, M⟩ h;unfold lD at h;revert a;refine fJ 7 h ?_ ?_
   ·intro hb h;obtain ⟨s12, aCa, h⟩ := aB h;refine cC 8 ?_;refine dI (fun _ K => iZ (k := .i64) (k' := .i64) rfl pA K rfl rfl rfl aCa) M ?_;obtain ⟨q7, Wy, h⟩ := aB h;refine dI (fun _ K => Qv rfl QC pA W4 zi3 K rfl rfl (inS 1 rfl) Wy) M ?_;refine fJ 15 h ?_ ?_
    ·intro hb h;exact Pu 17 (((Mem.aJ 3 1 (cI .i64) M)).pick [0] aE)
    intro hb h;refine fJ 7 h ?_ ?_
    ·intro hb h;exact qK 7 (G4, q7.1) (M.pick [0,1] aE)
    intro hb h;refine cC 4 ?_;refine dI (fun _ K => iM rfl pA K rfl) M ?_;refine fJ 4 h ?_ ?_
    ·intro hb h;exact Pu 17 (((Mem.aJ 3 1 (cI .i64) M)).pick [0] aE)
    intro hb h;obtain ⟨x5, hx, h⟩ := eF h;refine o8 3 hx ?_;exact qK 4 (x5, i11) (M.pick [0,1] aE)
   intro hb h;exact rD 3 (hk4 (G4, i11)) (M.pick [0,1] aE)
  intro hb h;exact rD 3 (hk3 (l3, o2)) (M.pick [0,1] aE)
 clear M h;rintro kk fuel ⟨m, i⟩ a w hk1 ⟨K, M⟩ h;unfold rJ at h;revert a;refine fJ 6 h ?_ ?_
 ·intro hb h;obtain ⟨e2, mP, h⟩ := aB h;refine cC 7 ?_;refine dI (fun _ K => jS rfl xI K rfl rfl (iV (C := cS) 1 rfl rfl) mP) M ?_;refine dI (fun _ K => fK rfl Hn K rfl rfl (iV (C := cS) 1 rfl rfl) mP rfl) M ?_;refine cC 8 ?_;refine dI (fun _ K => iM rfl pA K rfl) M ?_;refine u6 4 2 (fun (⟨m5, i3⟩ : List (List UInt8 × Int) × Int) a w => Kn a 44 [(3, .map (some gm)), (10, .slice A r2.1.length c), (11, I (r2.1.length : Int)), (12, I i), (4, I i), (5, .string (bs e2)), (18, I (e2.length : Int)), (19, I i3)] ∧ Mem w0.heap.size w0 w [.Gb Tryz.prog 9 3 gm m5, .row 9 1 A r2.1.length c (cS.all r2.1)]) (M.pick [0,1] aE) ?_ ?_
  ·clear M h;rintro ⟨m8, i4⟩ a w ⟨K, M⟩ h;try dsimp only at h
   revert a;refine cC 5 ?_;refine dI (fun _ K => zQ rfl K rfl rfl) M ?_;refine fJ 2 h ?_ ?_
   ·intro hb h;obtain ⟨m9, aEC, h⟩ := aB h;refine cC 4 ?_;intro a K;refine wB K (Lq rfl QC pA W4 K rfl rfl rfl 0 M rfl aEC) ?_;clear K M; rintro _ a w M K;revert a;exact qK 8 (m9, IntKind.i64.wrap (i + 1)) (M.pick [0,1] aE)
   intro hb h;exact qK 8 (m8, IntKind.i64.wrap (i + 1)) (M.pick [0,1] aE)
  clear M h;rintro kk fuel ⟨m5, i3⟩ a w hk2 ⟨K, M⟩ h;unfold rI at h;revert a;refine fJ 6 h ?_ ?_
  ·intro hb h;obtain ⟨s5, Y7, h⟩ := aB h;refine cC 15 ?_;refine dI (fun _ K => iZ (k := .i64) (k' := .i64) rfl pA K rfl rfl rfl Y7) M ?_;obtain ⟨q3, Wz, h⟩ := aB h;refine dI (fun _ K => Qv rfl QC pA W4 zi3 K rfl rfl (inS 0 rfl) Wz) M ?_;refine fJ 13 h ?_ ?_
   ·intro hb h;obtain ⟨s6, Y8, h⟩ := aB h;refine cC 4 ?_;refine dI (fun _ K => iZ (k := .i64) (k' := .i64) rfl pA K rfl rfl rfl Y8) M ?_;obtain ⟨m7, aED, h⟩ := aB h;intro a K;refine wB K (Lq rfl QC pA W4 K rfl rfl rfl 0 M rfl aED) ?_;clear K M; rintro _ a w M K;revert a;exact qK 8 (m7, IntKind.i64.wrap (i3 + 1)) (M.pick [0,1] aE)
   intro hb h;exact qK 8 (m5, IntKind.i64.wrap (i3 + 1)) (M.pick [0,1] aE)
  intro hb h;exact rD 3 (hk2 (m5, i3)) (M.pick [0,1] aE)
 intro hb h;exact rD 3 (hk1 (m, i)) (M.pick [0,1] aE)
theorem GE {N : Nat} {x2 : Int} {w0 : World} {r : Int} (h : zE N x2 = some r) :
  Calls Tryz.prog 168 #[.int .u64 x2] w0 fun e w' => ∃ v, e = .returned v ∧ v = I r ∧ Mem w0.heap.size w0 w' [] := by
 refine gE Tryz.func168 Tryz.ntmps168 ?_;intro M;unfold zE at h;refine fJ 12 h ?_ ?_
 ·intro hb h;refine cC 3 ?_;refine dI (fun _ K => rR rfl K rfl rfl aE) M ?_;obtain ⟨x3, hx, h⟩ := eF h;refine o8 0 hx ?_;refine fJ 13 h ?_ ?_
  ·intro hb h;refine cC 3 ?_;refine dI (fun _ K => rR rfl K rfl rfl aE) M ?_;obtain ⟨x4, hx, h⟩ := eF h;refine o8 0 hx ?_;obtain ⟨n, hx, h⟩ := eF h;refine o8 5 hx ?_;refine fJ 9 h ?_ ?_
   ·intro hb h;refine cC 3 ?_;refine dI (fun _ K => rR rfl K rfl rfl aE) M ?_;obtain ⟨x5, hx, h⟩ := eF h;refine o8 0 hx ?_;obtain ⟨n2, hx, h⟩ := eF h;refine o8 5 hx ?_;obtain ⟨b, h_b, h⟩ := aB h;refine cC 7 ?_;refine dI (fun _ K => sT rfl pA K rfl rfl h_b) M ?_;obtain ⟨n3, hx, h⟩ := eF h;refine o8 2 hx ?_;exact cW 3 (M.pick [] aE)
   intro hb h;obtain ⟨b2, Pv, h⟩ := aB h;refine cC 7 ?_;refine dI (fun _ K => sT rfl pA K rfl rfl Pv) M ?_;obtain ⟨n4, hx, h⟩ := eF h;refine o8 2 hx ?_;exact cW 3 (M.pick [] aE)
  intro hb h;refine fJ 9 h ?_ ?_
  ·intro hb h;refine cC 3 ?_;refine dI (fun _ K => rR rfl K rfl rfl aE) M ?_;obtain ⟨x6, hx, h⟩ := eF h;refine o8 0 hx ?_;obtain ⟨n5, hx, h⟩ := eF h;refine o8 5 hx ?_;obtain ⟨b3, FU, h⟩ := aB h;refine cC 7 ?_;refine dI (fun _ K => sT rfl pA K rfl rfl FU) M ?_;obtain ⟨n6, hx, h⟩ := eF h;refine o8 2 hx ?_;exact cW 3 (M.pick [] aE)
  intro hb h;obtain ⟨b4, Pw, h⟩ := aB h;refine cC 7 ?_;refine dI (fun _ K => sT rfl pA K rfl rfl Pw) M ?_;obtain ⟨n7, hx, h⟩ := eF h;refine o8 2 hx ?_;exact cW 3 (M.pick [] aE)
 intro hb h;refine fJ 9 h ?_ ?_
 ·intro hb h;refine cC 3 ?_;refine dI (fun _ K => rR rfl K rfl rfl aE) M ?_;obtain ⟨x7, hx, h⟩ := eF h;refine o8 0 hx ?_;obtain ⟨n8, hx, h⟩ := eF h;refine o8 5 hx ?_;refine fJ 9 h ?_ ?_
  ·intro hb h;refine cC 3 ?_;refine dI (fun _ K => rR rfl K rfl rfl aE) M ?_;obtain ⟨x8, hx, h⟩ := eF h;refine o8 0 hx ?_;obtain ⟨n9, hx, h⟩ := eF h;refine o8 5 hx ?_;obtain ⟨b5, aEE, h⟩ := aB h;refine cC 7 ?_;refine dI (fun _ K => sT rfl pA K rfl rfl aEE) M ?_;obtain ⟨n10, hx, h⟩ := eF h;refine o8 2 hx ?_;exact cW 3 (M.pick [] aE)
  intro hb h;obtain ⟨b6, aEF, h⟩ := aB h;refine cC 7 ?_;refine dI (fun _ K => sT rfl pA K rfl rfl aEF) M ?_;obtain ⟨n11, hx, h⟩ := eF h;refine o8 2 hx ?_;exact cW 3 (M.pick [] aE)
 intro hb h;refine fJ 9 h ?_ ?_
 ·intro hb h;refine cC 3 ?_;refine dI (fun _ K => rR rfl K rfl rfl aE) M ?_;obtain ⟨x9, hx, h⟩ := eF h;refine o8 0 hx ?_;obtain ⟨n12, hx, h⟩ := eF h;refine o8 5 hx ?_;obtain ⟨b7, Y9, h⟩ := aB h;refine cC 7 ?_;refine dI (fun _ K => sT rfl pA K rfl rfl Y9) M ?_;obtain ⟨n13, hx, h⟩ := eF h;refine o8 2 hx ?_;exact cW 3 (M.pick [] aE)
 intro hb h;obtain ⟨b8, Za, h⟩ := aB h;refine cC 7 ?_;refine dI (fun _ K => sT rfl pA K rfl rfl Za) M ?_;obtain ⟨n14, hx, h⟩ := eF h;refine o8 2 hx ?_;exact cW 3 (M.pick [] aE)
theorem D7 {N : Nat} {x2 : Int} {w0 : World} {r : Int} (h : xT N x2 = some r) :
  Calls Tryz.prog 125 #[.int .u64 x2] w0 fun e w' => ∃ v, e = .returned v ∧ v = I r ∧ Mem w0.heap.size w0 w' [] := by
 refine gE Tryz.func125 Tryz.ntmps125 ?_;intro M;unfold xT at h;obtain ⟨r2, gR, h⟩ := aB h;refine mC 12 (GE gR) ?_;intro w M;exact cW 4 (M.pick [] aE)
end
section
open Go.RowKit Go.Shelf
theorem FV (N : Nat) (s substr : List UInt8) (w0 : World) (r : Bool) (h : rG N s substr = some r) :
  Calls Tryz.prog 180 #[.string (bs s), .string (bs substr)] w0 fun e w' => ∃ v, e = .returned v ∧ v = .bool r ∧ Mem w0.heap.size w0 w' [] := by
 unfold rG at h
 split at h
 ·rename_i c
  cases h;refine (Any.strings_Contains_one Wx (bs s) c w0).mono ?_;rintro e w' ⟨rfl, rfl⟩;exact ⟨_, rfl, rfl, Mem.start w'⟩
 ·cases h
end
end Go.Proofs.YtpmnfhifmmfglacGreatDoor
