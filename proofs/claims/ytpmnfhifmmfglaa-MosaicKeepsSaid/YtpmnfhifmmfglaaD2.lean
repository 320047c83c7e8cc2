/- The rules of the printed walks: operations that read, operations that act, jumps, loops. -/
import Derived.Test.YtpmnfhifmmfglaaD1
set_option linter.unusedVariables false
set_option linter.unusedSimpArgs false
set_option linter.unusedSectionVars false
namespace Go.Proofs.Ytpmnfhifmmfglaa
open Go.RowKit

/-! ### What a type is -/
section
variable (P : Program)
def aggT (t : TypeId) (n : Nat) : Bool := (match P.underlying t with | some (.struct _) | some (.array _ _) => true | _ => false) && (P.info? t).map (·.size) == some n
def scT (t : TypeId) : Bool := (match P.underlying t with | some (.struct _) | some (.array _ _) | none => false | _ => true) && (P.info? t).map (·.size) == some 1
def zeroT (t : TypeId) : Option (List Value) := (P.info? t).bind fun i => i.zero.map (·.cells.toList)
def slT (t e s b : Nat) : Bool := (match P.underlying t with | some (.slice e') => e' == e | _ => false) && (P.info? e).map (fun i => (i.size, i.bytes)) == some (s, b)
def fldT (t : TypeId) (f : Nat) : Option Nat := match P.underlying t with
  | some (.struct fs) => match fs[f]? with
    | some fl => match P.info? fl.type with
      | some i => if i.size = 0 then none else some fl.offset
      | none => none
    | none => none
  | _ => none
end

section
variable {P : Program} {S : World → Prop} {D : List Deferred} {a : Act} {N : Nat} {l : List (Nat × Value)} {o : Oper} {x y c : Operand} {v u : Value} {t e t' : TypeId} {m n : Int} {k k' : IntKind} {b b' : Bool}
theorem aggT_spec {n : Nat} (h : aggT P t n = true) : ∃ d, P.underlying t = some d ∧ (match d with | .struct _ | .array _ _ => true | _ => false) = true ∧ (P.info? t).map (·.size) = some n := by
  simp only [aggT, Bool.and_eq_true, beq_iff_eq] at h
  obtain ⟨h1, h2⟩ := h
  split at h1
  · rename_i fs hq; exact ⟨_, hq, rfl, h2⟩
  · rename_i p q hq; exact ⟨_, hq, rfl, h2⟩
  · cases h1
theorem scT_spec (h : scT P t = true) (w : World) : (isAgg t).run P w = .ok false w ∧ (sizeOf t).run P w = .ok 1 w := by
  simp only [scT, Bool.and_eq_true, beq_iff_eq] at h
  obtain ⟨h1, h2⟩ := h
  cases hq : P.underlying t with
  | none => simp [hq] at h1
  | some d =>
    have h2' := h2
    simp only [Option.map_eq_some_iff] at h2'
    obtain ⟨i, hi, hs⟩ := h2'
    refine ⟨?_, by simp [sizeOf, typeInfo, hi, hs]⟩
    unfold isAgg
    rw [Sem.run_bind, run_underlying hq w]
    cases d <;> simp_all
theorem slT_spec {s b : Nat} (h : slT P t e s b = true) : P.underlying t = some (.slice e) ∧ ∃ i, P.info? e = some i ∧ i.size = s ∧ i.bytes = b := by
  simp only [slT, Bool.and_eq_true, beq_iff_eq, Option.map_eq_some_iff, Prod.mk.injEq] at h
  obtain ⟨h1, i, h2, h3, h4⟩ := h
  split at h1
  · rename_i e' hq
    simp at h1; subst h1
    exact ⟨hq, i, h2, h3, h4⟩
  · cases h1

/-! ### Reading operations -/
def Rd (P : Program) (S : World → Prop) (a : Act) (o : Oper) (v : Value) : Prop := ∀ w, S w → (execOp a.eval o).run P w = .ok (.value v) w

theorem evi (h : evo l x = some (.int k m)) (he : m = n) : evo l x = some (.int k n) := by rw [h, he]
theorem evb (h : evo l x = some (.bool b)) (he : b = b') : evo l x = some (.bool b') := by rw [h, he]

theorem rd_move (ho : o.op = .move x) (K : Kd D a N l) (hx : evo l x = some v) : Rd P S a o v := fun w _ => by
  unfold execOp; simp only [ho, K.ev hx]; rfl
theorem rd_assign (ho : o.op = .assign x) (K : Kd D a N l) (hx : evo l x = some v) : Rd P S a o v := fun w _ => by
  unfold execOp; simp only [ho, K.ev hx]; rfl
theorem rd_pickT (ho : o.op = .pick c x y) (K : Kd D a N l) (hc : evo l c = some (.bool true)) (hx : evo l x = some v) : Rd P S a o v := fun w _ => by
  unfold execOp; simp [ho, K.ev hc, K.ev hx, asBool]
theorem rd_pickF (ho : o.op = .pick c x y) (K : Kd D a N l) (hc : evo l c = some (.bool false)) (hy : evo l y = some v) : Rd P S a o v := fun w _ => by
  unfold execOp; simp [ho, K.ev hc, K.ev hy, asBool]
theorem rd_bin {op : BinOp} (ho : o.op = .binOp op t x y t') (K : Kd D a N l) (hx : evo l x = some u) (hy : evo l y = some v) {r : Value} (h : ∀ w, (do eqGuard op t x y u v; binOp op t u v : Sem Value).run P w = .ok r w) : Rd P S a o r := fun w _ => by
  unfold execOp; simp only [ho, K.ev hx, K.ev hy, Sem.run_bind]
  have := h w
  simp only [Sem.run_bind] at this
  rw [this]; rfl
theorem rd_add (ho : o.op = .binOp .add t x y t') (K : Kd D a N l) (hx : evo l x = some (.int k m)) (hy : evo l y = some (.int k n)) : Rd P S a o (.int k (k.wrap (m + n))) :=
  rd_bin ho K hx hy fun w => by simp [eqGuard, binOp, Op.intArith]
theorem rd_sub (ho : o.op = .binOp .sub t x y t') (K : Kd D a N l) (hx : evo l x = some (.int k m)) (hy : evo l y = some (.int k n)) : Rd P S a o (.int k (k.wrap (m - n))) :=
  rd_bin ho K hx hy fun w => by simp [eqGuard, binOp, Op.intArith]
theorem rd_mul (ho : o.op = .binOp .mul t x y t') (K : Kd D a N l) (hx : evo l x = some (.int k m)) (hy : evo l y = some (.int k n)) : Rd P S a o (.int k (k.wrap (m * n))) :=
  rd_bin ho K hx hy fun w => by simp [eqGuard, binOp, Op.intArith]
theorem rd_quo (ho : o.op = .binOp .quo t x y t') (K : Kd D a N l) (hx : evo l x = some (.int k m)) (hy : evo l y = some (.int k n)) (hn : n ≠ 0) : Rd P S a o (.int k (k.wrap (m.tdiv n))) :=
  rd_bin ho K hx hy fun w => by simp [eqGuard, binOp, Op.intDiv, hn]
theorem rd_rem (ho : o.op = .binOp .rem t x y t') (K : Kd D a N l) (hx : evo l x = some (.int k m)) (hy : evo l y = some (.int k n)) (hn : n ≠ 0) : Rd P S a o (.int k (m.tmod n)) :=
  rd_bin ho K hx hy fun w => by simp [eqGuard, binOp, Op.intDiv, hn]
theorem rd_lss (ho : o.op = .binOp .lss t x y t') (K : Kd D a N l) (hx : evo l x = some (.int k m)) (hy : evo l y = some (.int k n)) : Rd P S a o (.bool (decide (m < n))) :=
  rd_bin ho K hx hy fun w => by simp [eqGuard, binOp, Op.intCmp]
theorem rd_leq (ho : o.op = .binOp .leq t x y t') (K : Kd D a N l) (hx : evo l x = some (.int k m)) (hy : evo l y = some (.int k n)) : Rd P S a o (.bool (decide (m ≤ n))) :=
  rd_bin ho K hx hy fun w => by simp [eqGuard, binOp, Op.intCmp]
theorem rd_gtr (ho : o.op = .binOp .gtr t x y t') (K : Kd D a N l) (hx : evo l x = some (.int k m)) (hy : evo l y = some (.int k n)) : Rd P S a o (.bool (decide (n < m))) :=
  rd_bin ho K hx hy fun w => by simp [eqGuard, binOp, Op.intCmp]
theorem rd_geq (ho : o.op = .binOp .geq t x y t') (K : Kd D a N l) (hx : evo l x = some (.int k m)) (hy : evo l y = some (.int k n)) : Rd P S a o (.bool (decide (n ≤ m))) :=
  rd_bin ho K hx hy fun w => by simp [eqGuard, binOp, Op.intCmp]
theorem rd_eql (ho : o.op = .binOp .eql t x y t') (K : Kd D a N l) (hx : evo l x = some (.int k m)) (hy : evo l y = some (.int k n)) : Rd P S a o (.bool (decide (m = n))) :=
  rd_bin ho K hx hy fun w => by simp [eqGuard, binOp, Op.intCmp]; rfl
theorem rd_neq (ho : o.op = .binOp .neq t x y t') (K : Kd D a N l) (hx : evo l x = some (.int k m)) (hy : evo l y = some (.int k n)) : Rd P S a o (.bool (!decide (m = n))) :=
  rd_bin ho K hx hy fun w => by simp [eqGuard, binOp, Op.intCmp]; rfl
theorem rd_and (ho : o.op = .binOp .and t x y t') (K : Kd D a N l) (hx : evo l x = some (.int k m)) (hy : evo l y = some (.int k n)) : Rd P S a o (.int k (andI k m n)) :=
  rd_bin ho K hx hy fun w => by simp [eqGuard, binOp, Op.intBits, andI]
theorem rd_or (ho : o.op = .binOp .or t x y t') (K : Kd D a N l) (hx : evo l x = some (.int k m)) (hy : evo l y = some (.int k n)) : Rd P S a o (.int k (orI k m n)) :=
  rd_bin ho K hx hy fun w => by simp [eqGuard, binOp, Op.intBits, orI]
theorem rd_xor (ho : o.op = .binOp .xor t x y t') (K : Kd D a N l) (hx : evo l x = some (.int k m)) (hy : evo l y = some (.int k n)) : Rd P S a o (.int k (xorI k m n)) :=
  rd_bin ho K hx hy fun w => by simp [eqGuard, binOp, Op.intBits, xorI]
theorem rd_shl (ho : o.op = .binOp .shl t x y t') (K : Kd D a N l) (hx : evo l x = some (.int k m)) (hy : evo l y = some (.int k' n)) (hn : 0 ≤ n) : Rd P S a o (.int k (shlI k m n)) :=
  rd_bin ho K hx hy fun w => by simp [eqGuard, binOp, Op.shift, show ¬ n < 0 by omega, shlI]
theorem rd_shr (ho : o.op = .binOp .shr t x y t') (K : Kd D a N l) (hx : evo l x = some (.int k m)) (hy : evo l y = some (.int k' n)) (hn : 0 ≤ n) : Rd P S a o (.int k (shrI k m n)) :=
  rd_bin ho K hx hy fun w => by simp [eqGuard, binOp, Op.shift, show ¬ n < 0 by omega, shrI]
theorem rd_not (ho : o.op = .unOp .not t x) (K : Kd D a N l) (hx : evo l x = some (.bool b)) : Rd P S a o (.bool (!b)) := fun w _ => by
  unfold execOp; simp [ho, K.ev hx, Op.unary]
theorem rd_neg (ho : o.op = .unOp .neg t x) (K : Kd D a N l) (hx : evo l x = some (.int k m)) : Rd P S a o (.int k (k.wrap (0 - m))) := fun w _ => by
  unfold execOp; simp [ho, K.ev hx, Op.unary, Op.intArith]
theorem rd_conv (ho : o.op = .convert t t' x) (hs : (P.underlying t).isSome = true) (hd : P.underlying t' = some (.int k')) (K : Kd D a N l) (hx : evo l x = some (.int k m)) : Rd P S a o (.int k' (k'.wrap m)) := fun w _ => by
  obtain ⟨d, hs⟩ := Option.isSome_iff_exists.1 hs
  unfold execOp; simp [ho, K.ev hx, convert, run_underlying hs, run_underlying hd, Conv.intToInt]
theorem rd_extract {i : Nat} {vs : Array Value} (ho : o.op = .extract x i) (K : Kd D a N l) (hx : evo l x = some (.tuple vs)) (hi : vs[i]? = some v) : Rd P S a o v := fun w _ => by
  unfold execOp; simp [ho, K.ev hx, Instr.extract, hi]
theorem rd_func {fn : Fn} {cap : Array Operand} (ho : o.op = .makeFunc fn #[] cap) (K : Kd D a N l) {vs : List Value} (h : cap.toList.map (evo l) = vs.map some) : Rd P S a o (.func fn #[] vs.toArray) := fun w _ => by
  unfold execOp
  have : cap.map a.eval = vs.toArray := by
    apply Array.ext'
    simp only [Array.toList_map]
    have : ∀ (xs : List Operand) (vs : List Value), xs.map (evo l) = vs.map some → xs.map a.eval = vs := by
      intro xs
      induction xs with
      | nil => intro vs h; cases vs <;> simp_all
      | cons x xs ih =>
        intro vs h
        cases vs with
        | nil => simp at h
        | cons v vs => simp only [List.map_cons, List.cons.injEq] at h ⊢; exact ⟨K.ev h.1, ih vs h.2⟩
    exact this _ _ h
  simp [ho, this, Instr.makeFunc]
theorem rd_nil (ho : o.op = .nilCheck x) (K : Kd D a N l) {ad : Addr} (hx : evo l x = some (.pointer (some ad))) : Rd P S a o (.pointer (some ad)) := fun w _ => by
  unfold execOp; simp [ho, K.ev hx]
theorem rd_len (ho : o.op = .call { callee := .builtin .len, args := #[x], argTypes := #[t] }) (h : ∃ e, P.underlying t = some (.slice e)) (K : Kd D a N l) {A : Option Addr} {n c : Nat} (hx : evo l x = some (.slice A n c)) : Rd P S a o (.int .i64 n) := fun w _ => by
  obtain ⟨e, h⟩ := h
  unfold execOp; simp [ho, resolve, invoke, builtin, K.ev hx, Builtin.len_, run_underlying h, goInt]
theorem rd_lenS (ho : o.op = .call { callee := .builtin .len, args := #[x], argTypes := #[t] }) (h : P.underlying t = some .string) (K : Kd D a N l) {s : ByteArray} (hx : evo l x = some (.string s)) : Rd P S a o (.int .i64 s.size) := fun w _ => by
  unfold execOp; simp [ho, resolve, invoke, builtin, K.ev hx, Builtin.len_, run_underlying h, goInt]
theorem rd_max {ts : Array TypeId} (ho : o.op = .call { callee := .builtin .max, args := #[x, y], argTypes := ts }) (K : Kd D a N l) (hx : evo l x = some (.int k m)) (hy : evo l y = some (.int k' n)) : Rd P S a o (.int k (max m n)) := fun w _ => by
  unfold execOp; simp [ho, resolve, invoke, builtin, K.ev hx, K.ev hy, run_max_int2]; omega
theorem rd_min {ts : Array TypeId} (ho : o.op = .call { callee := .builtin .min, args := #[x, y], argTypes := ts }) (K : Kd D a N l) (hx : evo l x = some (.int k m)) (hy : evo l y = some (.int k' n)) : Rd P S a o (.int k (min m n)) := fun w _ => by
  unfold execOp; simp [ho, resolve, invoke, builtin, K.ev hx, K.ev hy, run_min_int2]; omega
theorem rd_max3 {z : Operand} {k'' : IntKind} {q : Int} {ts : Array TypeId} (ho : o.op = .call { callee := .builtin .max, args := #[x, y, z], argTypes := ts }) (K : Kd D a N l) (hx : evo l x = some (.int k m)) (hy : evo l y = some (.int k' n)) (hz : evo l z = some (.int k'' q)) : Rd P S a o (.int k (max (max m n) q)) := fun w _ => by
  unfold execOp; simp [ho, resolve, invoke, builtin, K.ev hx, K.ev hy, K.ev hz, run_max_int3]; omega
theorem rd_min3 {z : Operand} {k'' : IntKind} {q : Int} {ts : Array TypeId} (ho : o.op = .call { callee := .builtin .min, args := #[x, y, z], argTypes := ts }) (K : Kd D a N l) (hx : evo l x = some (.int k m)) (hy : evo l y = some (.int k' n)) (hz : evo l z = some (.int k'' q)) : Rd P S a o (.int k (min (min m n) q)) := fun w _ => by
  unfold execOp; simp [ho, resolve, invoke, builtin, K.ev hx, K.ev hy, K.ev hz, run_min_int3]; omega
theorem rd_field {f off : Nat} {ad : Addr} (ho : o.op = .fieldAddr t x f) (ht : fldT P t f = some off) (K : Kd D a N l) (hx : evo l x = some (.pointer (some ad))) : Rd P S a o (.pointer (some (ad.add off))) := fun w _ => by
  unfold fldT at ht
  split at ht
  · rename_i fs hu
    split at ht
    · rename_i fl hf
      split at ht
      · rename_i i hi
        split at ht
        · cases ht
        · rename_i hs
          cases ht
          unfold execOp
          simp [ho, K.ev hx, Instr.fieldAt, run_underlying hu, hf, Instr.sureAddr, fieldPlace, sizeOf, typeInfo, hi, hs]
      · cases ht
    · cases ht
  · cases ht
end
end Go.Proofs.Ytpmnfhifmmfglaa
