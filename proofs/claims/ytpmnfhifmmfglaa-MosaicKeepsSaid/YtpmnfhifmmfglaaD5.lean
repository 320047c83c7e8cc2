/- The rules of the printed walks: slices made at once and written in, calls; a region's steps; jumps, loops, returns. -/
import Derived.Test.YtpmnfhifmmfglaaD4
set_option linter.unusedVariables false
set_option linter.unusedSimpArgs false
set_option linter.unusedSectionVars false
namespace Go.Proofs.Ytpmnfhifmmfglaa
open Go.RowKit

section
variable {P : Program} {base : Nat} {W w : World} {L : List Ent} {S : World → Prop} {D : List Deferred} {a : Act} {N : Nat} {l : List (Nat × Value)} {o : Oper} {x y ix : Operand} {v u : Value} {t e t' : TypeId} {m n : Int} {k k' : IntKind}
  {g off : Nat} {cs ds : List Value} {α : Type} {C : Cod α} {A : Option Addr} {c : Nat} {xs ys zs : List α} {post : Value → World → Prop}

theorem madeCells_all (C : Cod α) (z : α) (n : Nat) : (madeCells (C.enc z).toArray (n * C.size)).toList = C.all (List.replicate n z) := by
  apply List.ext_getElem?
  intro j
  by_cases hj : j < n * C.size
  · have hm : j % C.size < C.size := Nat.mod_lt _ C.pos
    have hl : (C.enc z).length = C.size := C.len z
    have h1 : (C.all (List.replicate n z))[j]? = (C.enc z)[j % C.size]? := by
      have hu : (C.enc z)[j % C.size]? = some ((C.enc z)[j % C.size]'(by omega)) := List.getElem?_eq_getElem (by omega)
      have hd : j / C.size < n := Nat.div_lt_of_lt_mul (by rw [Nat.mul_comm]; exact hj)
      have := Cod.all_get C (List.replicate n z) (j / C.size) (j % C.size) z _ (by simp [hd]) hu
      rw [Nat.div_add_mod'] at this
      rw [this, hu]
    rw [h1]
    simp [madeCells, hj, hl, List.getElem?_eq_getElem (show j % C.size < (C.enc z).length by omega)]
  · rw [List.getElem?_eq_none (by simp [size_madeCells]; omega), List.getElem?_eq_none (by rw [Cod.all_len]; simp; omega)]
theorem ac_make {b s : Nat} {z : α} (ho : o.op = .makeSlice t x y) (ht : slT P t e s b = true) (hb : Nat.blt 0 b = true) (hz : zeroT P e = some (C.enc z)) (hs : s = C.size) (K : Kd D a N l) (hx : evo l x = some (.int k n)) (hy : evo l y = some (.int k' n)) (M : Mem base W w L) (hm : mk b n z = some ys) :
    Ac P o a w fun v w' => ∃ A' c', v = .slice A' ys.length c' ∧ Mem base W w' (.row e s A' ys.length c' (C.all ys) :: L) := by
  obtain ⟨h0, h1, rfl⟩ := mk_spec hm
  subst hs
  obtain ⟨hu, inf, hinf, hsz, hby⟩ := slT_spec ht
  simp only [zeroT, Option.bind_eq_some_iff, Option.map_eq_some_iff] at hz
  obtain ⟨inf', hinf', zz, hz, hzc⟩ := hz
  obtain rfl : inf = inf' := Option.some.inj (hinf.symm.trans hinf')
  obtain ⟨q, rfl⟩ : ∃ q : Nat, n = q := ⟨n.toNat, by omega⟩
  have hb' : 0 < b := by simpa [Nat.blt_eq] using hb
  have hbytes : inf.bytes * q ≤ 281474976710656 := by
    rw [hby, Nat.mul_comm]
    have h1' : ((q * b : Nat) : Int) ≤ 281474976710656 := by rw [Int.natCast_mul]; exact h1
    omega
  have hqb := Nat.le_mul_of_pos_left q hb'
  have h63 : q ≤ maxLen := by rw [hby] at hbytes; simp only [maxLen]; omega
  obtain ⟨w', hr, hown, hg⟩ := run_make_full (P := P) w 0 t e inf zz C.size hu hinf hz hsz k k' q hbytes h63 (Nat.zero_le _)
  have hzc' : zz.cells = (C.enc z).toArray := by rw [← hzc]
  rw [hzc', madeCells_all] at hown
  refine ac_val (v := .slice (some ⟨w.heap.size, 0, none⟩) q q) (w' := w') ?_ ⟨some ⟨w.heap.size, 0, none⟩, q, by simp, ?_⟩
  · unfold execOp
    simp only [ho, K.ev hx, K.ev hy, Sem.run_bind, hr]; rfl
  · have hlen : (List.replicate ((q : Int)).toNat z).length = q := by simp
    rw [hlen]
    simp only [Int.toNat_natCast]
    refine (M.far ((Below.refl base w).grown hg M.sz fun k hk => by cases hk) (fun k o hk _ => (hg.block k (Array.getElem?_eq_some_iff.1 hk).1 (by simp)).trans hk) fun i e g h hf => hg.block g (M.feet i e g h hf) (by simp)).cons hown fun g hf => ?_
    simp [Ent.foot] at hf
    subst hf
    exact ⟨M.sz, fun i e' h he => by have := M.feet i e' _ h he; omega⟩
theorem ac_make0 {b s : Nat} (ho : o.op = .makeSlice t x y) (ht : slT P t e s b = true) (hb : Nat.blt 0 b = true) (hz : (zeroT P e).isSome = true) (hs : s = C.size) (K : Kd D a N l) (hx : evo l x = some (.int k 0)) (hy : evo l y = some (.int k' n)) (M : Mem base W w L) (hm : 0 ≤ n ∧ n * b ≤ 281474976710656) :
    Ac P o a w fun v w' => ∃ A' c', v = .slice A' ([] : List α).length c' ∧ Mem base W w' (.row e s A' ([] : List α).length c' (C.all []) :: L) := by
  obtain ⟨h0, h1⟩ := hm
  subst hs
  obtain ⟨hu, inf, hinf, hsz, hby⟩ := slT_spec ht
  obtain ⟨_, hz⟩ := Option.isSome_iff_exists.1 hz
  simp only [zeroT, Option.bind_eq_some_iff, Option.map_eq_some_iff] at hz
  obtain ⟨inf', hinf', zz, hz, hzc⟩ := hz
  obtain rfl : inf = inf' := Option.some.inj (hinf.symm.trans hinf')
  obtain ⟨q, rfl⟩ : ∃ q : Nat, n = q := ⟨n.toNat, by omega⟩
  have hb' : 0 < b := by simpa [Nat.blt_eq] using hb
  have hbytes : inf.bytes * q ≤ 281474976710656 := by
    rw [hby, Nat.mul_comm]
    have h1' : ((q * b : Nat) : Int) ≤ 281474976710656 := by rw [Int.natCast_mul]; exact h1
    omega
  have hqb := Nat.le_mul_of_pos_left q hb'
  have h63 : q ≤ maxLen := by rw [hby] at hbytes; simp only [maxLen]; omega
  obtain ⟨w', hr, hown, hg⟩ := run_make_own (P := P) w 0 t e inf zz C.size hu hinf hz hsz k k' q hbytes h63 (Nat.zero_le _)
  refine ac_val (v := .slice (some ⟨w.heap.size, 0, none⟩) 0 q) (w' := w') ?_ ⟨some ⟨w.heap.size, 0, none⟩, q, by simp, ?_⟩
  · unfold execOp
    simp only [ho, K.ev hx, K.ev hy, Sem.run_bind, hr]; rfl
  · refine (M.far ((Below.refl base w).grown hg M.sz fun k hk => by cases hk) (fun k o hk _ => (hg.block k (Array.getElem?_eq_some_iff.1 hk).1 (by simp)).trans hk) fun i e g h hf => hg.block g (M.feet i e g h hf) (by simp)).cons hown fun g hf => ?_
    simp [Ent.foot] at hf
    subst hf
    exact ⟨M.sz, fun i e' h he => by have := M.feet i e' _ h he; omega⟩

/-! ### A store into a row -/
theorem run_storeCells_own (g off : Nat) (t : TypeId) : ∀ (vs : List Value) (i : Nat) (cur : Array Value) (w : World), w.heap[g]? = some (.cells cur t (0, 0)) → off + i + vs.length ≤ cur.size → (∀ v ∈ vs, v.oneCell' = true) →
    ∃ w' cur', (storeCells ⟨g, off, none⟩ vs i).run P w = .ok () w' ∧ w'.heap[g]? = some (.cells cur' t (0, 0)) ∧ cur'.size = cur.size ∧
      (∀ j, cur'[j]? = if off + i ≤ j ∧ j < off + i + vs.length then vs[j - (off + i)]? else cur[j]?) ∧ (∀ k, k ≠ g → w'.heap[k]? = w.heap[k]?) ∧ w'.os = w.os ∧ w'.tape = w.tape ∧ w'.output = w.output ∧ w'.heap.size = w.heap.size
  | [], i, cur, w, h, _, _ => by
    refine ⟨w, cur, rfl, h, rfl, fun j => ?_, fun _ _ => rfl, rfl, rfl, rfl, rfl⟩
    rw [if_neg (by simp)]
  | v :: vs, i, cur, w, h, hl, h1 => by
    simp only [List.length_cons] at hl
    have hadd : (⟨g, off, none⟩ : Addr).add i = ⟨g, off + i, none⟩ := by unfold Addr.add; split <;> simp_all
    have hB : Blk w g t cur := h
    have hc : w.cell? ⟨g, off + i, none⟩ = some cur[off + i] := by rw [hB.cell]; exact Array.getElem?_eq_getElem (by omega)
    have hst : (store ⟨g, off + i, none⟩ v).run P w = .ok () (w.setCell ⟨g, off + i, none⟩ v) := by
      rw [run_store P w _ v .plain (h1 v (by simp)), hc]
      simp [hB.frozen]
    obtain ⟨w', cur', h2, h3, h4, h5, h6, h7, h8, h9, h10⟩ := run_storeCells_own g off t vs (i + 1) (cur.setIfInBounds (off + i) v) (w.setCell ⟨g, off + i, none⟩ v) (hB.set_ (off + i) v rfl) (by simp; omega) (fun v hv => h1 v (by simp [hv]))
    refine ⟨w', cur', ?_, h3, by simpa using h4, fun j => ?_, fun k hk => (h6 k hk).trans (Below.heap_setCell w _ v k hk), h7, h8, h9, by rw [h10]; simp [World.setCell]⟩
    · unfold storeCells
      rw [Sem.run_bind, hadd, hst]
      exact h2
    · rw [h5 j]
      simp only [List.length_cons]
      by_cases hj : off + i = j
      · subst hj
        rw [if_neg (by omega), if_pos (by omega), Array.getElem?_setIfInBounds_self_of_lt (by omega), Nat.sub_self]
        rfl
      · by_cases hj2 : off + (i + 1) ≤ j ∧ j < off + (i + 1) + vs.length
        · rw [if_pos hj2, if_pos (by omega), show j - (off + i) = (j - (off + (i + 1))) + 1 by omega]
          simp
        · rw [if_neg hj2, if_neg (by omega)]
          simp [hj]
theorem ac_rowset {el : α} {q s : Nat} (ho : o.op = .store t x y) (hsz : (P.info? t).map (·.size) = some s) (hs : s = C.size) (hq : q = C.size) (K : Kd D a N l) (hx : evo l x = some (.pointer (some ((adr A).add (n.toNat * q))))) (hy : evo l y = some v) (hv : v.cells = (C.enc el).toArray)
    (i : Nat) (M : Mem base W w L) (hi : L[i]? = some (.row e s A xs.length c (C.all xs))) (hset : setL xs n el = some ys) :
    Ac P o a w fun _ w' => Mem base W w' (L.set i (.row e s A ys.length c (C.all ys))) := by
  subst hq hs
  obtain ⟨h0, hlt, rfl⟩ := setL_spec hset
  obtain ⟨hxl, hrow⟩ := M.has i _ hi
  rcases hrow with ⟨_, h00⟩ | ⟨g, cap, cur, hvv, _, hh, hnc, hcm, hcs, htk⟩
  · omega
  injection hvv with hA _ hcap
  subst hcap
  have hmul := Nat.mul_le_mul_right C.size hlt
  have hcapm := Nat.mul_le_mul_right C.size hnc
  rw [Nat.succ_mul] at hmul
  obtain ⟨w', cur', h2, h3, h4, h5, h6, h7, h8, h9, h10⟩ := run_storeCells_own (P := P) g (n.toNat * C.size) e (C.enc el) 0 cur w hh (by rw [C.len]; omega) (C.one el)
  rw [C.len] at h5
  have hrun : (execOp a.eval o).run P w = .ok .skip w' := by
    simp only [Option.map_eq_some_iff] at hsz
    obtain ⟨inf, hinf, hsz⟩ := hsz
    have hcl : (C.enc el).length = inf.size := by rw [C.len, hsz]
    unfold execOp
    simp [ho, K.ev hx, K.ev hy, Instr.storeAt, Instr.sureAddr, storeVar, hv, sizeOf, typeInfo, hinf, hcl, adr_add hA, h2]
  refine ac_skip hrun (M.turn i hi ⟨h7, h8, h9, by omega, fun k hk => h6 k fun hkg => ?_⟩ ?_ (fun j _ hj => h6 j fun hjg => hj (by simp [Ent.foot, hA, hjg])) (fun g' hg' => .inl hg'))
  · have := M.up i _ g hi (by simp [Ent.foot, hA])
    omega
  · refine ⟨by rw [Cod.all_len], .inr ⟨g, c, cur', by rw [hA], Nat.zero_le _, h3, by simpa using hnc, hcm, by rw [h4, hcs], ?_⟩⟩
    refine Cod.all_set C el xs n.toNat _ hlt (by simp [h4, hcs]; rw [Nat.min_eq_left hnc]) fun j => ?_
    rw [List.length_set]
    rw [List.getElem?_take]
    by_cases hj : j < xs.length * C.size
    · rw [if_pos hj]
      simp only [Array.getElem?_toList, Nat.add_zero] at h5 ⊢
      rw [h5 j]
      split
      · rfl
      · rw [← htk, List.getElem?_take, if_pos hj]; simp
    · rw [if_neg hj, if_neg (by omega), List.getElem?_eq_none (by rw [Cod.all_len]; omega)]

/-! ### Calls -/
def FnOK (P : Program) (f : FuncId) : Bool := match P.funcs[f]? with
  | some fn => fn.body.isSome && fn.name != "runtime.NumGoroutine"
  | none => false
theorem ac_call {f : FuncId} {cap vs : List Value} {args : Array Operand} {ts : Array TypeId} (ho : o.op = .call { callee := .value x, args := args, argTypes := ts }) (hf : FnOK P f = true) (K : Kd D a N l) (hx : evo l x = some (.func (.func f) #[] cap.toArray)) (hargs : args.toList.map (evo l) = vs.map some)
    (h : Calls P f (vs ++ cap).toArray w fun e w' => ∃ v, e = .returned v ∧ post v w') : Ac P o a w post := by
  have hE : args.map a.eval = vs.toArray := by
    apply Array.ext'
    simp only [Array.toList_map]
    have : ∀ (xs : List Operand) (vs : List Value), xs.map (evo l) = vs.map some → xs.map a.eval = vs := by
      intro xs
      induction xs with
      | nil => intro vs h; cases vs <;> simp_all
      | cons x xs ih =>
        intro vs h
        cases vs with
        | nil => simp at h
        | cons v vs => simp only [List.map_cons, List.cons.injEq] at h ⊢; exact ⟨K.ev h.1, ih vs h.2⟩
    exact this _ _ hargs
  have hrun : (execOp a.eval o).run P w = .ok (.enter f (vs ++ cap).toArray) w := by
    unfold FnOK at hf
    split at hf
    · rename_i fn hfn
      simp only [Bool.and_eq_true, bne_iff_ne, ne_eq] at hf
      obtain ⟨b, hb⟩ := Option.isSome_iff_exists.1 hf.1
      unfold execOp
      simp [ho, resolve, K.ev hx, hE, Deferred.ofValue, invoke, callFunc, hfn, hb, hf.2]
    · cases hf
  intro K' Q hK
  unfold Oper.wp
  rw [hrun, Oper.upon_enter]
  refine h.mono ?_
  rintro e w' ⟨v, rfl, hp⟩
  exact hK v w' hp

/-! ### Steps of a region -/
variable {ops : Array Oper} {Q : Exit → Act → World → Prop} {R : Act → World → Prop} {rest : List Oper} {d : Nat} {f : List Nat} {mk : Nat}
theorem X_rd (K : Kd D a N l) (hw : Region.wanted o (yielded ops a.tmps) = true) (hd : o.dst = some d) (hN : Nat.blt d N = true) (hr : Rd P (fun w => Mem base W w L) a o v) (M : Mem base W w L) (k : ∀ a', Kd D a' N ((d, v) :: l) → wpList P ops Q rest a' w) : wpList P ops Q (o :: rest) a w := by
  refine wpList_step fun Kc hK => ?_
  rw [if_pos hw]
  unfold Oper.wp
  rw [hr w M]
  refine hK _ _ ?_
  have := K.put (d := o.dst) (by rw [hd]; exact hN) v
  rw [hd] at this ⊢
  exact k _ this
theorem X_no (K : Kd D a N l) (hw : Region.wanted o (yielded ops a.tmps) = false) (hd : o.dst = some d) (hN : Nat.blt d N = true) (k : ∀ a', Kd D a' N ((d, undef) :: l) → wpList P ops Q rest a' w) : wpList P ops Q (o :: rest) a w := by
  refine wpList_skip hw ?_
  have := K.put (d := o.dst) (by rw [hd]; exact hN) undef
  rw [hd] at this ⊢
  exact k _ this
theorem X_ac (K : Kd D a N l) (hw : Region.wanted o (yielded ops a.tmps) = true) (hd : o.dst = some d) (hN : Nat.blt d N = true) (h : Ac P o a w post) (k : ∀ v a' w', post v w' → Kd D a' N ((d, v) :: l) → wpList P ops Q rest a' w') : wpList P ops Q (o :: rest) a w := by
  refine wpList_step fun Kc hK => ?_
  rw [if_pos hw]
  refine h _ _ fun v w' hp => hK _ _ ?_
  have := K.put (d := o.dst) (by rw [hd]; exact hN) v
  rw [hd] at this ⊢
  exact k v _ w' hp this
theorem X_a0 (K : Kd D a N l) (hw : Region.wanted o (yielded ops a.tmps) = true) (hd : o.dst = none) (h : Ac P o a w post) (k : ∀ v a' w', post v w' → Kd D a' N l → wpList P ops Q rest a' w') : wpList P ops Q (o :: rest) a w := by
  refine wpList_step fun Kc hK => ?_
  rw [if_pos hw]
  refine h _ _ fun v w' hp => hK _ _ ?_
  rw [hd]
  exact k v _ w' hp K
theorem T_rd (K : Kd D a N l) (hw : Region.wanted o (yielded ops a.tmps) = true) (hd : o.dst = some d) (hN : Nat.blt d N = true) (hr : Rd P S a o v) (k : ∀ a', Kd D a' N ((d, v) :: l) → wpTl P ops S R (marked f rest) a' w) : wpTl P ops S R (marked (0 :: f) (o :: rest)) a w := by
  refine ⟨v, .inl ⟨hw, hr⟩, ?_⟩
  have := K.put (d := o.dst) (by rw [hd]; exact hN) v
  rw [hd] at this ⊢
  exact k _ this
theorem T_no (K : Kd D a N l) (hw : Region.wanted o (yielded ops a.tmps) = false) (hd : o.dst = some d) (hN : Nat.blt d N = true) (k : ∀ a', Kd D a' N ((d, undef) :: l) → wpTl P ops S R (marked f rest) a' w) : wpTl P ops S R (marked (0 :: f) (o :: rest)) a w := by
  refine ⟨undef, .inr ⟨hw, rfl⟩, ?_⟩
  have := K.put (d := o.dst) (by rw [hd]; exact hN) undef
  rw [hd] at this ⊢
  exact k _ this
theorem T_ac (K : Kd D a N l) (hw : Region.wanted o (yielded ops a.tmps) = true) (hd : o.dst = some d) (hN : Nat.blt d N = true) (h : Ac P o a w post) (k : ∀ v a' w', post v w' → Kd D a' N ((d, v) :: l) → S w' ∧ wpTl P ops S R (marked f rest) a' w') : wpTl P ops S R (marked (1 :: f) (o :: rest)) a w := by
  refine tl_act (n := true) hw fun Kc hK => h _ _ fun v w' hp => ?_
  have := K.put (d := o.dst) (by rw [hd]; exact hN) v
  rw [hd] at this ⊢
  obtain ⟨h1, h2⟩ := k v _ w' hp this
  exact hK _ _ (fun _ => h1) h2
theorem T_a0 (K : Kd D a N l) (hw : Region.wanted o (yielded ops a.tmps) = true) (hd : o.dst = none) (h : Ac P o a w post) (k : ∀ v a' w', post v w' → Kd D a' N l → S w' ∧ wpTl P ops S R (marked f rest) a' w') : wpTl P ops S R (marked (1 :: f) (o :: rest)) a w := by
  refine tl_act (n := true) hw fun Kc hK => h _ _ fun v w' hp => ?_
  rw [hd]
  obtain ⟨h1, h2⟩ := k v _ w' hp K
  exact hK _ _ (fun _ => h1) h2
theorem T_acz (K : Kd D a N l) (hw : Region.wanted o (yielded ops a.tmps) = true) (hd : o.dst = some d) (hN : Nat.blt d N = true) (h : Ac P o a w post) (k : ∀ v a' w', post v w' → Kd D a' N ((d, v) :: l) → wpTl P ops S R (marked f rest) a' w') : wpTl P ops S R (marked (2 :: f) (o :: rest)) a w := by
  refine tl_act (n := false) hw fun Kc hK => h _ _ fun v w' hp => ?_
  have := K.put (d := o.dst) (by rw [hd]; exact hN) v
  rw [hd] at this ⊢
  exact hK _ _ (fun h => by cases h) (k v _ w' hp this)
theorem T_a0z (K : Kd D a N l) (hw : Region.wanted o (yielded ops a.tmps) = true) (hd : o.dst = none) (h : Ac P o a w post) (k : ∀ v a' w', post v w' → Kd D a' N l → wpTl P ops S R (marked f rest) a' w') : wpTl P ops S R (marked (2 :: f) (o :: rest)) a w := by
  refine tl_act (n := false) hw fun Kc hK => h _ _ fun v w' hp => ?_
  rw [hd]
  exact hK _ _ (fun h => by cases h) (k v _ w' hp K)
theorem T_end (h : R a w) : wpTl P ops S R (marked f []) a w := h

/-! ### Jumps, loops, returns -/
theorem X_cond {p q : Code} {b : Bool} (K : Kd D a N l) (hc : evo l x = some (.bool b)) (ht : b = true → p.wp P Q a w) (hf : b = false → q.wp P Q a w) : (Code.cond x p q).wp P Q a w := wp_cond_split (K.ev hc) ht hf
theorem X_loop {p : Code} {I : Nat → Act → World → Prop} (n : Nat) (h0 : I n a w) (hz : ∀ a w, ¬ I 0 a w) (round : ∀ n a w, I (n + 1) a w → p.wp P (Exit.then (I n) Q) a w) : (Code.loop p).wp P Q a w := by
  intro b k cs
  have key : ∀ n a w, I n a w → ∃ e a' w', Q e a' w' ∧ Arrives P (lone (b.at a (.code p :: .inLoop p :: k)) cs w) b k cs e a' w' := by
    intro n
    induction n with
    | zero => intro a w h; exact absurd h (hz a w)
    | succ n ih =>
      intro a w hI
      obtain ⟨e, a₁, w₁, hq, harr⟩ := round n a w hI b (.inLoop p :: k) cs
      cases e with
      | normal =>
        obtain ⟨e₂, a₂, w₂, hq₂, harr₂⟩ := ih a₁ w₁ hq
        exact ⟨e₂, a₂, w₂, hq₂, .of_steps (Steps.trans harr (.one step_inLoop)) harr₂⟩
      | exit id => exact ⟨_, a₁, w₁, hq, .pass (x := .inLoop p) rfl (fun _ _ => .inl (by simp)) harr⟩
      | goto l => exact ⟨_, a₁, w₁, hq, .pass (x := .inLoop p) rfl (fun _ _ => .inl (by simp)) harr⟩
      | ret => exact ⟨_, a₁, w₁, hq, .pass (x := .inLoop p) rfl (fun _ _ => .inl (by simp)) harr⟩
      | panic ch => exact ⟨_, a₁, w₁, hq, .pass (x := .inLoop p) rfl (fun _ _ => .inl (by simp)) harr⟩
      | outgrown => exact ⟨_, a₁, w₁, hq, .pass (x := .inLoop p) rfl (fun _ _ => .inl (by simp)) harr⟩
  obtain ⟨e, a', w', hq, harr⟩ := key n a w h0
  exact ⟨e, a', w', hq, .of_steps (.one step_loop) harr⟩
theorem X_enter {fn : Func} {code : Code} {fid : FuncId} {args : Array Value} {Rp : Ending → World → Prop} (hf : P.funcs[fid]? = some fn) (hb : fn.body = some code) (hN : fn.ntmps = N) (hs : Nat.ble args.size N = true)
    (h : ∀ a, Kn a N (kargs 0 args.toList) → code.wp P (bodyPost P fn Rp) a w) : Calls P fid args w Rp := by
  refine calls_of_wp hf hb ?_
  rw [hN]
  exact h _ (Kd.start args N hs)
def resOne (tmps : Array Value) : ResultVar → Sem Value
  | .tmp t => pure (tmps.getD t undef)
  | .cell a t => do loadVar t (← asAddr (tmps.getD a undef))
theorem results_def (fn : Func) (tmps : Array Value) : results fn tmps = (do let vs ← fn.results.mapM (resOne tmps); pure (if h : vs.size = 1 then vs[0] else .tuple vs)) := rfl
def ResOK (P : Program) (a : Act) (w : World) (r : ResultVar) (v : Value) : Prop := (resOne a.tmps r).run P w = .ok v w
theorem res_tmp (K : Kd D a N l) {s : Nat} (h : kget l s = some v) : ResOK P a w (.tmp s) v := by
  show (pure (a.tmps.getD s undef) : Sem Value).run P w = _
  rw [K.get s v h]; rfl
theorem res_cellA (K : Kd D a N l) {s n : Nat} (h : kget l s = some (.pointer (some ⟨g, 0, none⟩))) (ht : aggT P t n = true) (hb : Blk w g t' cs.toArray) (hn : cs.length = n) : ResOK P a w (.cell s t) (.agg cs.toArray) := by
  obtain ⟨d, hu, hd, hi⟩ := aggT_spec ht
  show (do loadVar t (← asAddr (a.tmps.getD s undef)) : Sem Value).run P w = _
  rw [K.get s _ h]
  have hl := run_loadVar_row (P := P) w g t' t cs.toArray (0, 0) d hb hu (by cases d <;> simp_all) (by rw [hi]; simp [hn])
  simp [asAddr, hl]
theorem res_cellC (K : Kd D a N l) {s : Nat} (h : kget l s = some (.pointer (some ⟨g, 0, none⟩))) (ht : scT P t = true) (hb : Blk w g t' cs.toArray) (hv : cs[0]? = some v) : ResOK P a w (.cell s t) v := by
  have hc : w.cell? ⟨g, 0, none⟩ = some v := by rw [hb.cell]; simpa using hv
  show (do loadVar t (← asAddr (a.tmps.getD s undef)) : Sem Value).run P w = _
  rw [K.get s _ h]
  simp [asAddr, loadVar, Sem.run_bind, (scT_spec ht w).1, run_load, hc]
theorem ret0 {fn : Func} {Rp : Ending → World → Prop} (K : Kn a N l) (hr : fn.results = #[]) (h : Rp (.returned (.tuple #[])) w) : bodyPost P fn Rp .ret a w :=
  ⟨K.defs, .tuple #[], by rw [results_def, hr]; simp, h⟩
theorem ret1 {fn : Func} {Rp : Ending → World → Prop} {r1 : ResultVar} {v1 : Value} (K : Kn a N l) (hr : fn.results = #[r1]) (h1 : ResOK P a w r1 v1) (h : Rp (.returned v1) w) : bodyPost P fn Rp .ret a w := by
  refine ⟨K.defs, v1, ?_, h⟩
  unfold ResOK at h1
  rw [results_def, hr]; simp [h1]
theorem ret2 {fn : Func} {Rp : Ending → World → Prop} {r1 r2 : ResultVar} {v1 v2 : Value} (K : Kn a N l) (hr : fn.results = #[r1, r2]) (h1 : ResOK P a w r1 v1) (h2 : ResOK P a w r2 v2) (h : Rp (.returned (.tuple #[v1, v2])) w) : bodyPost P fn Rp .ret a w := by
  refine ⟨K.defs, .tuple #[v1, v2], ?_, h⟩
  unfold ResOK at h1 h2
  rw [results_def, hr]; simp [h1, h2]
theorem ret3 {fn : Func} {Rp : Ending → World → Prop} {r1 r2 r3 : ResultVar} {v1 v2 v3 : Value} (K : Kn a N l) (hr : fn.results = #[r1, r2, r3]) (h1 : ResOK P a w r1 v1) (h2 : ResOK P a w r2 v2) (h3 : ResOK P a w r3 v3) (h : Rp (.returned (.tuple #[v1, v2, v3])) w) : bodyPost P fn Rp .ret a w := by
  refine ⟨K.defs, .tuple #[v1, v2, v3], ?_, h⟩
  unfold ResOK at h1 h2 h3
  rw [results_def, hr]; simp [h1, h2, h3]
theorem ret_n {fn : Func} {Rp : Ending → World → Prop} (h : bodyPost P fn Rp .ret a w) : bodyPost P fn Rp .normal a w := h
end

section
variable {P : Program} {S : World → Prop} {D : List Deferred} {a : Act} {w : World} {N : Nat} {l : List (Nat × Value)} {o : Oper} {v v' : Value} {x : Operand} {k : IntKind} {m n : Int} {b b' : Bool} {ops : Array Oper} {Q : Exit → Act → World → Prop} {K : Act → World → Prop} {y : Code} {id id' : Nat}
theorem rdi (he : m = n) (h : Rd P S a o (.int k m)) : Rd P S a o (.int k n) := he ▸ h
theorem rdb (he : b = b') (h : Rd P S a o (.bool b)) : Rd P S a o (.bool b') := he ▸ h
theorem Kd.reb {s : Nat} (K : Kd D a N l) (h : kget l s = some (.bool b)) (hb : b = b') : Kd D a N ((s, .bool b') :: l) := K.sub fun t v ht => by
  simp only [kget] at ht
  by_cases hst : s = t
  · subst hst; simp at ht; rw [h, hb, ht]
  · rw [nbeq hst] at ht; exact ht
theorem X_condT {p q : Code} (K : Kd D a N l) (hc : evo l x = some (.bool true)) (h : p.wp P Q a w) : (Code.cond x p q).wp P Q a w := wp_cond (K.ev hc) h
theorem X_condF {p q : Code} (K : Kd D a N l) (hc : evo l x = some (.bool false)) (h : q.wp P Q a w) : (Code.cond x p q).wp P Q a w := wp_cond (K.ev hc) h
theorem X_reg {ol : List Oper} (h : wpList P ol.toArray Q ol a w) : (Code.region id ol.toArray false).wp P Q a w := wp_region_lit h
theorem then_n (h : K a w) : Exit.then K Q .normal a w := h
theorem then_e (h : Q (.exit id) a w) : Exit.then K Q (.exit id) a w := h
theorem then_r (h : Q .ret a w) : Exit.then K Q .ret a w := h
theorem inb_n (h : Q .normal a w) : Exit.inBlock id Q .normal a w := h
theorem inb_r (h : Q .ret a w) : Exit.inBlock id Q .ret a w := h
theorem inb_e (h : Q .normal a w) : Exit.inBlock id Q (.exit id) a w := by simp only [Exit.inBlock, if_true]; exact h
theorem inb_x (hne : id' ≠ id) (h : Q (.exit id') a w) : Exit.inBlock id Q (.exit id') a w := by simp only [Exit.inBlock, if_neg hne]; exact h
/-- A loop: the walk of a round, whatever comes behind it. -/
theorem X_lp {St Rt : Type} {Rel : St → Act → World → Prop} {kk : St → Option Rt} {lf : (St → Option Rt) → Nat → St → Option Rt} {r : Rt} {p : Code} {n : Nat} {st : St}
    (h : lf kk n st = some r) (hz : ∀ kk st, lf kk 0 st = none) (h0 : Rel st a w) (hk : ∀ st a w, Rel st a w → kk st = some r → Q (.exit id) a w)
    (round : ∀ (kk : St → Option Rt) n st a w, (∀ st a w, Rel st a w → kk st = some r → Q (.exit id) a w) → Rel st a w → lf kk (n + 1) st = some r → p.wp P (Exit.then (fun a w => ∃ st, Rel st a w ∧ lf kk n st = some r) Q) a w) : (Code.loop p).wp P Q a w := by
  refine X_loop (I := fun n a w => ∃ st, Rel st a w ∧ lf kk n st = some r) n ⟨st, h0, h⟩ (fun a w ⟨st, _, h⟩ => by rw [hz] at h; cases h) ?_
  rintro n a w ⟨st, hr, h⟩
  exact round kk n st a w hk hr h
theorem Mem.cap {base : Nat} {W : World} {L : List Ent} {e s n c : Nat} {A : Option Addr} {xs : List Value} (M : Mem base W w L) (i : Nat) (h : L[i]? = some (.row e s A n c xs)) : n ≤ c := by
  rcases (M.has i _ h).2 with ⟨hv, h0⟩ | ⟨g, cap, cur, hv, _, _, hnc, _⟩
  · omega
  · injection hv with _ _ e3; omega
end

/-! ### Codes of elements -/
section
variable {base : Nat} {W w : World} {L : List Ent} {g : Nat} {t : TypeId} {cs : List Value} {α : Type} {C : Cod α} {xs : List α}
theorem Mem.nilrow (e s : Nat) (C : Cod α) (M : Mem base W w L) : Mem base W w (.row e s none ([] : List α).length 0 (C.all []) :: L) :=
  M.cons (show Ent.holds w (.row e s none 0 0 []) from ⟨by simp, .inl ⟨rfl, rfl⟩⟩) fun g hg => by simp [Ent.foot] at hg
theorem blkSL (h : Blk w g t cs.toArray) (hx : C.all xs = cs) : SL w C (some ⟨g, 0, none⟩) xs := fun _ => ⟨g, 0, rfl, fun j u hu => by
  rw [Nat.zero_add, h.cell]; rw [hx] at hu; simpa using hu⟩
end
section
variable {P : Program} {S : World → Prop} {D : List Deferred} {a : Act} {N : Nat} {l : List (Nat × Value)} {o : Oper} {x : Operand} {t t' : TypeId} {g off : Nat} {cs : List Value} {k : IntKind} {n e : Int} {q : Nat} {es : List Int}
theorem rd_ldIa (ho : o.op = .load t x) (ht : scT P t = true) (K : Kd D a N l) (hx : evo l x = some (.pointer (some ((⟨g, off, none⟩ : Addr).add (n.toNat * q))))) (hb : ∀ w, S w → Blk w g t' cs.toArray) (hq : q = 1) (hc : (cs.drop off).take es.length = es.map (.int k)) (hv : idx es n = some e) : Rd P S a o (.int k e) := by
  obtain ⟨h0, h1, h2⟩ := idx_spec hv
  refine rd_ldI ho ht K hx hb hq ?_
  unfold idx
  rw [if_pos h0]
  have : ((cs.drop off).take es.length)[n.toNat]? = some (.int k e) := by rw [hc]; simp [h2]
  rw [List.getElem?_take, if_pos h1] at this
  exact this
end
def cI (k : IntKind) : Cod Int := ⟨fun x => [.int k x], 1, fun _ => rfl, fun _ u h => by simp at h; subst h; rfl, by omega⟩
def cB : Cod Bool := ⟨fun x => [.bool x], 1, fun _ => rfl, fun _ u h => by simp at h; subst h; rfl, by omega⟩
def cS : Cod (List UInt8) := ⟨fun x => [.string (bs x)], 1, fun _ => rfl, fun _ u h => by simp at h; subst h; rfl, by omega⟩
def cII : Cod (Int × Int) := ⟨fun x => [.int .i64 x.1, .int .i64 x.2], 2, fun _ => rfl, fun _ u h => by simp at h; rcases h with rfl | rfl <;> rfl, by omega⟩
def cIII : Cod (Int × Int × Int) := ⟨fun x => [.int .i64 x.1, .int .i64 x.2.1, .int .i64 x.2.2], 3, fun _ => rfl, fun _ u h => by simp at h; rcases h with rfl | rfl | rfl <;> rfl, by omega⟩
end Go.Proofs.Ytpmnfhifmmfglaa
