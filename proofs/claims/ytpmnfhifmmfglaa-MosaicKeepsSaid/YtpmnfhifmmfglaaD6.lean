/- The rules of the printed walks, some more: comparisons of Booleans, texts and structs, an array's value, calls that are walked in place. -/
import Derived.Test.YtpmnfhifmmfglaaD5
set_option linter.unusedVariables false
set_option linter.unusedSimpArgs false
set_option linter.unusedSectionVars false
namespace Go.Proofs.Ytpmnfhifmmfglaa
open Go.RowKit

def cBBB : Cod (Bool × Bool × Bool) := ⟨fun x => [.bool x.1, .bool x.2.1, .bool x.2.2], 3, fun _ => rfl, fun _ u h => by simp at h; rcases h with rfl | rfl | rfl <;> rfl, by omega⟩
section
variable {P : Program} {S : World → Prop} {base : Nat} {W w : World} {L : List Ent} {D : List Deferred} {a : Act} {N : Nat} {l : List (Nat × Value)} {o : Oper} {v v' : Value} {x y ix : Operand} {k : IntKind} {m n : Int} {b b' : Bool} {t e t' : TypeId} {s s' : List UInt8}
  {α : Type} {C : Cod α} {cs : List Value} {es : List α} {el : α} {g : Nat} {xs : List α}
theorem rdv (he : v' = v) (h : Rd P S a o v') : Rd P S a o v := he ▸ h
theorem rds (he : s = s') (h : Rd P S a o (.string (bs s))) : Rd P S a o (.string (bs s')) := he ▸ h
theorem rd_eqlB (ht : P.underlying t = some .bool) (ho : o.op = .binOp .eql t x y t') (K : Kd D a N l) (hx : evo l x = some (.bool b)) (hy : evo l y = some (.bool b')) : Rd P S a o (.bool (decide (b = b'))) :=
  rd_bin ho K hx hy fun w => by rw [Sem.run_bind]; simp [eqGuard, run_eql_bool (P := P) w t b b' ht]; cases b <;> cases b' <;> rfl
theorem rd_neqB (ht : P.underlying t = some .bool) (ho : o.op = .binOp .neq t x y t') (K : Kd D a N l) (hx : evo l x = some (.bool b)) (hy : evo l y = some (.bool b')) : Rd P S a o (.bool (!decide (b = b'))) :=
  rd_bin ho K hx hy fun w => by rw [Sem.run_bind]; simp [eqGuard, run_neq_bool (P := P) w t b b' ht]; cases b <;> cases b' <;> rfl

theorem rd_ixV {len : Nat} (ho : o.op = .index t x ix) (ht : P.underlying t = some (.array len e)) (he : scT P e = true) (K : Kd D a N l) (hx : evo l x = some (.agg cs.toArray)) (hi : evo l ix = some (.int k n)) (hc : C.all es = cs) (hn : idx es n = some el) (hv : C.enc el = [v]) (hl : es.length = len := by rfl) : Rd P S a o v := fun w _ => by
  obtain ⟨h0, hlt, hel⟩ := idx_spec hn
  have hsz : C.size = 1 := by have := C.len el; rw [hv] at this; simpa using this.symm
  have hg := Cod.all_get C es n.toNat 0 el v hel (by rw [hv]; rfl)
  rw [hc, hsz] at hg
  simp only [Nat.mul_one, Nat.add_zero] at hg
  have h1 : n < len := by omega
  unfold execOp
  simp [ho, K.ev hx, K.ev hi, Instr.index, asIntOf, run_underlying ht, h0, h1, (scT_spec he w).2, part, (scT_spec he w).1, hg]
theorem rd_ixVA {len s : Nat} (ho : o.op = .index t x ix) (ht : P.underlying t = some (.array len e)) (he : aggT P e s = true) (hs : s = C.size) (K : Kd D a N l) (hx : evo l x = some (.agg cs.toArray)) (hi : evo l ix = some (.int k n)) (hc : C.all es = cs) (hn : idx es n = some el) (hl : es.length = len := by rfl) : Rd P S a o (.agg (C.enc el).toArray) := fun w _ => by
  obtain ⟨h0, hlt, hel⟩ := idx_spec hn
  obtain ⟨d, hu, hd, hsz⟩ := aggT_spec he
  subst hs
  simp only [Option.map_eq_some_iff] at hsz
  obtain ⟨i, hinf, hsz⟩ := hsz
  have hagg : (isAgg e).run P w = .ok true w := by
    unfold isAgg
    rw [Sem.run_bind, run_underlying hu w]
    cases d <;> simp_all
  have h1 : n < len := by omega
  have hex : (cs.drop (n.toNat * C.size)).take C.size = C.enc el := by
    subst hc
    apply List.ext_getElem?
    intro j
    rw [List.getElem?_take]
    split
    · rename_i hj
      rw [List.getElem?_drop]
      have hu : (C.enc el)[j]? = some ((C.enc el)[j]'(by rw [C.len]; exact hj)) := List.getElem?_eq_getElem _
      rw [Cod.all_get C es n.toNat j el _ hel hu, hu]
    · rw [List.getElem?_eq_none (by rw [C.len]; omega)]
  unfold execOp
  simp [ho, K.ev hx, K.ev hi, Instr.index, asIntOf, run_underlying ht, h0, h1, sizeOf, typeInfo, hinf, hsz, part, hagg, hex]

theorem Mem.fin0 {W w : World} (h : Below W.heap.size W w) : Mem W.heap.size W w [] := ⟨h, KeepO.below h, Nat.le_refl _, fun i e he => by simp at he, fun i e g he => by simp at he, fun i j e e' g he => by simp at he⟩
theorem Mem.asRow {s n : Nat} (M : Mem base W w L) (i : Nat) (h : L[i]? = some (.blk g e cs)) (C : Cod α) (xs : List α) (hx : C.all xs = cs) (hn : xs.length = n) (hs : s = C.size) (hm : n ≤ maxLen := by decide) : Mem base W w (L.set i (.row e s (some ⟨g, 0, none⟩) xs.length n (C.all xs))) := by
  subst hs hn
  have hB := M.blkAt h
  refine M.turn i h (Below.refl _ _) ?_ (fun _ _ _ => rfl) (fun g' hg' => .inl (by simpa [Ent.foot] using hg'))
  refine ⟨by rw [Cod.all_len], .inr ⟨g, xs.length, cs.toArray, rfl, Nat.zero_le _, hB, Nat.le_refl _, hm, by simp [← hx, Cod.all_len], ?_⟩⟩
  rw [← hx, List.take_of_length_le (by simp [Cod.all_len])]

/-! ### A comparison of structs whose parts are numbers or Booleans -/
theorem rd_aggE {xs ys : Array Value} {r : Bool} (hm : P.eqGuardType P.depth t = false) (ho : o.op = .binOp .eql t x y t') (K : Kd D a N l) (hx : evo l x = some (.agg xs)) (hy : evo l y = some (.agg ys))
    (h : ∀ w, (Op.equalIn 10000 t (.agg xs) (.agg ys)).run P w = .ok r w) : Rd P S a o (.bool r) :=
  rd_bin ho K hx hy fun w => by
    rw [Sem.run_bind, run_eqGuard_agg (P := P) w .eql t x y xs ys hm, Result.andThen_ok, run_eql_struct (P := P) w t xs ys, h w]; rfl
theorem rd_aggN {xs ys : Array Value} {r : Bool} (hm : P.eqGuardType P.depth t = false) (ho : o.op = .binOp .neq t x y t') (K : Kd D a N l) (hx : evo l x = some (.agg xs)) (hy : evo l y = some (.agg ys))
    (h : ∀ w, (Op.equalIn 10000 t (.agg xs) (.agg ys)).run P w = .ok r w) : Rd P S a o (.bool (!r)) :=
  rd_bin ho K hx hy fun w => by
    rw [Sem.run_bind, run_eqGuard_agg (P := P) w .neq t x y xs ys hm, Result.andThen_ok, run_neq_struct (P := P) w t xs ys, h w]; rfl

variable {ops : Array Oper} {Q : Exit → Act → World → Prop} {R : Act → World → Prop} {rest : List Oper} {d : Nat} {f : List Nat}
theorem T_no1 (K : Kd D a N l) (hw : Region.wanted o (yielded ops a.tmps) = false) (hd : o.dst = some d) (hN : Nat.blt d N = true) (hS : S w) (k : ∀ a', Kd D a' N ((d, undef) :: l) → wpTl P ops S R (marked f rest) a' w) : wpTl P ops S R (marked (1 :: f) (o :: rest)) a w := by
  have := K.put (d := o.dst) (by rw [hd]; exact hN) undef
  refine tl_act_no (n := true) hw (fun _ => hS) ?_
  rw [hd] at this ⊢
  exact k _ this
theorem T_no2 (K : Kd D a N l) (hw : Region.wanted o (yielded ops a.tmps) = false) (hd : o.dst = some d) (hN : Nat.blt d N = true) (k : ∀ a', Kd D a' N ((d, undef) :: l) → wpTl P ops S R (marked f rest) a' w) : wpTl P ops S R (marked (2 :: f) (o :: rest)) a w := by
  have := K.put (d := o.dst) (by rw [hd]; exact hN) undef
  refine tl_act_no (n := false) hw (fun h => by cases h) ?_
  rw [hd] at this ⊢
  exact k _ this
theorem T_rd1 (K : Kd D a N l) (hw : Region.wanted o (yielded ops a.tmps) = true) (hd : o.dst = some d) (hN : Nat.blt d N = true) (hr : Rd P (fun w => Mem base W w L) a o v) (M : Mem base W w L) (hS : S w) (k : ∀ a', Kd D a' N ((d, v) :: l) → wpTl P ops S R (marked f rest) a' w) : wpTl P ops S R (marked (1 :: f) (o :: rest)) a w :=
  T_ac K hw hd hN (post := fun v' w' => v' = v ∧ w' = w) (ac_val (hr w M) ⟨rfl, rfl⟩) fun v' a' w' hp K' => by obtain ⟨rfl, rfl⟩ := hp; exact ⟨hS, k a' K'⟩
theorem T_rd2 (K : Kd D a N l) (hw : Region.wanted o (yielded ops a.tmps) = true) (hd : o.dst = some d) (hN : Nat.blt d N = true) (hr : Rd P (fun w => Mem base W w L) a o v) (M : Mem base W w L) (k : ∀ a', Kd D a' N ((d, v) :: l) → wpTl P ops S R (marked f rest) a' w) : wpTl P ops S R (marked (2 :: f) (o :: rest)) a w :=
  T_acz K hw hd hN (post := fun v' w' => v' = v ∧ w' = w) (ac_val (hr w M) ⟨rfl, rfl⟩) fun v' a' w' hp K' => by obtain ⟨rfl, rfl⟩ := hp; exact k a' K'
theorem setL_len {α : Type} {xs ys : List α} {i : Int} {x : α} (h : setL xs i x = some ys) : xs.length = ys.length := by
  obtain ⟨_, _, rfl⟩ := setL_spec h; simp
theorem X_inl {fid : FuncId} {cap vs : List Value} {args : Array Operand} {ts : Array TypeId} (K : Kd D a N l) (hw : Region.wanted o (yielded ops a.tmps) = true) (hd : o.dst = some d) (hN : Nat.blt d N = true)
    (ho : o.op = .call { callee := .value x, args := args, argTypes := ts }) (hf : FnOK P fid = true) (hx : evo l x = some (.func (.func fid) #[] cap.toArray)) (hargs : args.toList.map (evo l) = vs.map some)
    (h : Calls P fid (vs ++ cap).toArray w fun e w' => ∃ v, e = .returned v ∧ ∀ a', Kd D a' N ((d, v) :: l) → wpList P ops Q rest a' w') : wpList P ops Q (o :: rest) a w :=
  X_ac K hw hd hN (ac_call ho hf K hx hargs h) fun _ a' _ hp K' => hp a' K'
theorem T_inl {fid : FuncId} {cap vs : List Value} {args : Array Operand} {ts : Array TypeId} (K : Kd D a N l) (hw : Region.wanted o (yielded ops a.tmps) = true) (hd : o.dst = some d) (hN : Nat.blt d N = true)
    (ho : o.op = .call { callee := .value x, args := args, argTypes := ts }) (hf : FnOK P fid = true) (hx : evo l x = some (.func (.func fid) #[] cap.toArray)) (hargs : args.toList.map (evo l) = vs.map some)
    (h : Calls P fid (vs ++ cap).toArray w fun e w' => ∃ v, e = .returned v ∧ ∀ a', Kd D a' N ((d, v) :: l) → S w' ∧ wpTl P ops S R (marked f rest) a' w') : wpTl P ops S R (marked (1 :: f) (o :: rest)) a w :=
  T_ac K hw hd hN (ac_call ho hf K hx hargs h) fun _ a' _ hp K' => hp a' K'
theorem T_inlz {fid : FuncId} {cap vs : List Value} {args : Array Operand} {ts : Array TypeId} (K : Kd D a N l) (hw : Region.wanted o (yielded ops a.tmps) = true) (hd : o.dst = some d) (hN : Nat.blt d N = true)
    (ho : o.op = .call { callee := .value x, args := args, argTypes := ts }) (hf : FnOK P fid = true) (hx : evo l x = some (.func (.func fid) #[] cap.toArray)) (hargs : args.toList.map (evo l) = vs.map some)
    (h : Calls P fid (vs ++ cap).toArray w fun e w' => ∃ v, e = .returned v ∧ ∀ a', Kd D a' N ((d, v) :: l) → wpTl P ops S R (marked f rest) a' w') : wpTl P ops S R (marked (2 :: f) (o :: rest)) a w :=
  T_acz K hw hd hN (ac_call ho hf K hx hargs h) fun _ a' _ hp K' => hp a' K'
end
end Go.Proofs.Ytpmnfhifmmfglaa
