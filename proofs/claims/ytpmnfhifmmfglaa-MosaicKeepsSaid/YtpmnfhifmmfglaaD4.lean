/- The rules of the printed walks, of acting: new blocks, stores, appends, calls; a region's steps; jumps, loops, returns. -/
import Derived.Test.YtpmnfhifmmfglaaD3
set_option linter.unusedVariables false
set_option linter.unusedSimpArgs false
set_option linter.unusedSectionVars false
namespace Go.Proofs.Ytpmnfhifmmfglaa
open Go.RowKit

section
variable {P : Program} {base : Nat} {W w : World} {L : List Ent} {S : World → Prop} {D : List Deferred} {a : Act} {N : Nat} {l : List (Nat × Value)} {o : Oper} {x y ix : Operand} {v u : Value} {t e t' : TypeId} {m n : Int} {k k' : IntKind}
  {g off : Nat} {cs ds : List Value} {α : Type} {C : Cod α} {A : Option Addr} {c : Nat} {xs ys zs : List α} {post : Value → World → Prop}

/-- The operation acts: it gives v in w' so that post v w' holds. -/
def Ac (P : Program) (o : Oper) (a : Act) (w : World) (post : Value → World → Prop) : Prop :=
  ∀ (K : Act → World → Prop) (Q : Exit → Act → World → Prop), (∀ v w', post v w' → K (a.put o.dst v) w') → o.wp P a w K Q

theorem ac_val {w' : World} (h : (execOp a.eval o).run P w = .ok (.value v) w') (hp : post v w') : Ac P o a w post := fun K Q hK => by
  unfold Oper.wp; rw [h]; exact hK _ _ hp
theorem ac_skip {w' : World} (h : (execOp a.eval o).run P w = .ok .skip w') (hp : post undef w') : Ac P o a w post := fun K Q hK => by
  unfold Oper.wp; rw [h]; exact hK _ _ hp

theorem ac_box (ho : o.op = .box t x) (K : Kd D a N l) (hx : evo l x = some v) (hc : v.cells = cs.toArray) (M : Mem base W w L) :
    Ac P o a w fun v w' => ∃ g, v = .pointer (some ⟨g, 0, none⟩) ∧ Mem base W w' (.blk g t cs :: L) := by
  refine ac_val (v := .pointer (some ⟨w.heap.size, 0, none⟩)) (w' := w.alloc (.cells cs.toArray t)) ?_ ⟨_, rfl, M.new t cs⟩
  unfold execOp
  simp [ho, K.ev hx, Instr.box, newVar, newRow, hc]
theorem ac_alloc (ho : o.op = .alloc t) (hz : zeroT P t = some cs) (M : Mem base W w L) :
    Ac P o a w fun v w' => ∃ g, v = .pointer (some ⟨g, 0, none⟩) ∧ Mem base W w' (.blk g t cs :: L) := by
  refine ac_val (v := .pointer (some ⟨w.heap.size, 0, none⟩)) (w' := w.alloc (.cells cs.toArray t)) ?_ ⟨_, rfl, M.new t cs⟩
  simp only [zeroT, Option.bind_eq_some_iff, Option.map_eq_some_iff] at hz
  obtain ⟨i, hi, z, hz, hcs⟩ := hz
  have hc : z.cells = cs.toArray := by rw [← hcs]
  unfold execOp
  simp [ho, Instr.alloc, zeroValue, typeInfo, hi, hz, newVar, newRow, hc]
/-- A literal slice. -/
def builtSl (P : Program) (e s len : Nat) (parts : List (Nat × Value)) : Option (Array Value) :=
  match zeroT P e with
  | some z => Instr.fill (fun i => some (i * s, s)) ((Array.range (len * s)).map (z.toArray[· % z.toArray.size]!)) parts
  | none => none
theorem ac_bslice {b s len : Nat} {parts : Array (Nat × Operand)} {vs : List (Nat × Value)} (ho : o.op = .buildSlice t len parts) (ht : slT P t e s b = true) (hz : zeroT P e = some ds) (K : Kd D a N l)
    (hp : parts.toList.map (fun p => (evo l p.2).map (fun v => (p.1, v))) = vs.map some) (hf : Instr.fill (fun i => some (i * s, s)) ((Array.range (len * s)).map (ds.toArray[· % ds.toArray.size]!)) vs = some cs.toArray) (hl : Nat.ble (len * s) 1000 = true) (hpos : Nat.blt 0 (len * s) = true) (M : Mem base W w L) :
    Ac P o a w fun v w' => ∃ g, v = .slice (some ⟨g, 0, none⟩) len len ∧ Mem base W w' (.blk g e cs :: L) := by
  refine ac_val (v := .slice (some ⟨w.heap.size, 0, none⟩) len len) (w' := w.alloc (.cells cs.toArray e)) ?_ ⟨_, rfl, M.new e cs⟩
  obtain ⟨hu, i, hinf, hsz, _⟩ := slT_spec ht
  simp only [zeroT, Option.bind_eq_some_iff, Option.map_eq_some_iff] at hz
  obtain ⟨i', hi', z, hz, hcs⟩ := hz
  obtain rfl : i = i' := Option.some.inj (hinf.symm.trans hi')
  have hc : z.cells = ds.toArray := by rw [← hcs]
  have hE : (parts.map fun (i, x) => (i, a.eval x)).toList = vs := by
    simp only [Array.toList_map]
    have : ∀ (ps : List (Nat × Operand)) (vs : List (Nat × Value)), ps.map (fun p => (evo l p.2).map (fun v => (p.1, v))) = vs.map some → ps.map (fun p => (p.1, a.eval p.2)) = vs := by
      intro ps
      induction ps with
      | nil => intro vs h; cases vs <;> simp_all
      | cons p ps ih =>
        intro vs h
        cases vs with
        | nil => simp at h
        | cons v vs =>
          simp only [List.map_cons, List.cons.injEq] at h ⊢
          refine ⟨?_, ih vs h.2⟩
          obtain ⟨u, hu, hv⟩ := Option.map_eq_some_iff.1 h.1
          rw [K.ev hu, hv]
    exact this _ _ hp
  have hl' : ¬ 16777216 < len * s := by have := Nat.le_of_ble_eq_true hl; omega
  have hpos' : ¬ len * s = 0 := by have : 0 < len * s := by simpa [Nat.blt_eq] using hpos
                                   omega
  have hl'' : ¬ (len * s > 2 ^ 24) := by omega
  unfold execOp
  simp only [ho, Instr.buildSlice, Sem.run_bind, run_underlying hu, Result.andThen_ok, sizeOf, typeInfo, run_program, hinf, hsz, hE, if_neg hl'', if_neg hpos', zeroValue, hz, hc, hf, newRow, Sem.run_pure, run_newObj_alloc]

theorem ac_storeC (ho : o.op = .store t x y) (ht : scT P t = true) (K : Kd D a N l) (hx : evo l x = some (.pointer (some ⟨g, off, none⟩))) (hy : evo l y = some v) (h1 : v.oneCell' = true) (i : Nat) (M : Mem base W w L) (hi : L[i]? = some (.blk g t' cs)) (hlt : Nat.blt off cs.length = true) :
    Ac P o a w fun _ w' => Mem base W w' (L.set i (.blk g t' (cs.set off v))) := by
  refine ac_skip (w' := w.setCell ⟨g, off, none⟩ v) ?_ (M.set i hi off v)
  have hlt' : off < cs.length := by simpa [Nat.blt_eq] using hlt
  have hc : w.cell? ⟨g, off, none⟩ = some cs[off] := M.cell hi (List.getElem?_eq_getElem hlt')
  have hfz : w.frozen? ⟨g, off, none⟩ = false := (M.blkAt hi).frozen off
  have hcell : v.cells = #[v] := by cases v <;> first | rfl | (simp [Value.oneCell'] at h1)
  unfold execOp
  have hst := run_store P w ⟨g, off, none⟩ v .plain h1
  simp [ho, K.ev hx, K.ev hy, Instr.storeAt, Instr.sureAddr, storeVar, Sem.run_bind, (scT_spec ht w).2, hcell, storeCells, Addr.add, hst, hc, hfz]
theorem ac_storeA {n : Nat} (ho : o.op = .store t x y) (ht : aggT P t n = true) (K : Kd D a N l) (hx : evo l x = some (.pointer (some ⟨g, 0, none⟩))) (hy : evo l y = some (.agg ds.toArray)) (h1 : ds.all (·.oneCell') = true) (i : Nat) (M : Mem base W w L) (hi : L[i]? = some (.blk g t' cs)) (hn : ds.length = n) (hl : cs.length = n) :
    Ac P o a w fun _ w' => Mem base W w' (L.set i (.blk g t' ds)) := by
  refine ac_skip (w' := w.setRow g ds.toArray) ?_ (M.setRow i hi ds)
  obtain ⟨d, _, _, hsz⟩ := aggT_spec ht
  have hr := run_storeVar_row (P := P) w g t' t cs.toArray ds.toArray (M.blkAt hi) (by simpa [hn] using hsz) (by simp [hn, hl]) (by simpa using h1)
  unfold execOp
  simp [ho, K.ev hx, K.ev hy, Instr.storeAt, Instr.sureAddr, hr]

/-! ### Slices that are one's own -/
theorem Mem.grown {n c' : Nat} {s : Nat} {vs : List Value} (M : Mem base W w L) (i : Nat) (hi : L[i]? = some (.row e s A n c vs)) {w' : World} (hg : w.grownBy w' (A.map (·.block))) {g n' : Nat} {vs' : List Value}
    (ho : w'.ownsRow 0 e s (.slice (some ⟨g, 0, none⟩) n' c') n' vs') (hw : A.map (·.block) = some g ∨ w.heap.size ≤ g) : Mem base W w' (L.set i (.row e s (some ⟨g, 0, none⟩) n' c' vs')) := by
  refine M.turn i hi ((Below.refl base w).grown hg M.sz fun k hk => M.up i _ k hi hk) ho (fun j hj hne => hg.block j hj fun h => hne (by simpa [Ent.foot] using h.symm)) fun g' hg' => ?_
  simp [Ent.foot] at hg'
  subst hg'
  exact hw
theorem ac_app {b s : Nat} (ho : o.op = .call { callee := .builtin .append, args := #[x, y], argTypes := #[t, t] }) (ht : slT P t e s b = true) (hb : Nat.blt 0 b = true) (hz : zeroT P e = some ds) (hdl : ds.length = s) (hs : s = C.size) (K : Kd D a N l)
    (hx : evo l x = some (.slice A xs.length c)) {B : Option Addr} {c' : Nat} (hy : evo l y = some (.slice B ys.length c')) (i : Nat) (M : Mem base W w L) (hi : L[i]? = some (.row e s A xs.length c (C.all xs))) (R : SL w C B ys) (hlen : app b xs ys = some zs) :
    Ac P o a w fun v w' => ∃ A' c'', v = .slice A' zs.length c'' ∧ Mem base W w' (L.set i (.row e s A' zs.length c'' (C.all zs))) := by
  obtain ⟨rfl, hbytes⟩ := app_spec hlen
  subst hs
  obtain ⟨hu, inf, hinf, hsz, hby⟩ := slT_spec ht
  simp only [zeroT, Option.bind_eq_some_iff, Option.map_eq_some_iff] at hz
  obtain ⟨inf', hinf', z, hz, hzc⟩ := hz
  obtain rfl : inf = inf' := Option.some.inj (hinf.symm.trans hinf')
  have hown := M.has i _ hi
  have hb' : 0 < b := by simpa [Nat.blt_eq] using hb
  by_cases hm : 0 < ys.length
  · obtain ⟨bb, oo, hB, hc⟩ := R hm
    intro K' Q hK'
    have h63 : xs.length + ys.length ≤ maxLen := by
      have := Nat.le_mul_of_pos_right (xs.length + ys.length) hb'
      simp only [maxLen]; omega
    refine wp_append_lies w x y t ho 0 e inf z C.size b hu hinf hz hsz hby (by rw [← Array.length_toList, hzc, hdl]) C.pos (.slice A xs.length c) xs.length (C.all xs) (K.ev hx) hown ⟨bb, oo, none⟩ ys.length c' (C.all ys) (by rw [K.ev hy, hB]) (by rw [Cod.all_len])
      (fun j u hu => by have hadd : (⟨bb, oo, none⟩ : Addr).add j = ⟨bb, oo + j, none⟩ := by { unfold Addr.add; split <;> simp_all }
                        rw [hadd]; exact hc j u hu) (C.all_one ys) hm h63 hbytes (Nat.zero_le _) _ rfl ?_
    intro g cap w' h2 h3 h4 h5
    refine hK' _ _ ⟨some ⟨g, 0, none⟩, cap, by rw [List.length_append], ?_⟩
    have h3' : w.grownBy w' (A.map (·.block)) := by
      cases A with
      | none => exact h3
      | some ad => exact h3
    refine M.grown i hi h3' ?_ ?_
    · rw [Cod.all_append, List.length_append]; exact h2
    · rcases h4 with h4 | h4
      · left
        cases A with
        | none => simp [Value.ownBlock] at h4
        | some ad => simpa [Value.ownBlock] using h4
      · right; omega
  · have hy0 : ys = [] := List.eq_nil_of_length_eq_zero (by omega)
    subst hy0
    have hnc : xs.length ≤ c := by
      rcases hown.2 with ⟨_, h0⟩ | ⟨g', cap', cur, hv, _, _, hnc, _⟩
      · omega
      · injection hv with _ _ e3; omega
    have hr : (Builtin.append_ #[t, t] o.type #[.slice A xs.length c, .slice B 0 c']).run P w = .ok (.slice A xs.length c) w := by
      cases A <;> cases B <;> simp [Builtin.append_, run_underlying hu, sizeOf, typeInfo, hinf, Builtin.lenOf, hnc, Builtin.firstCells, loadCells, loadCellsFrom, storeCells]
    refine ac_val (v := .slice A xs.length c) (w' := w) ?_ ⟨A, c, by simp, ?_⟩
    · unfold execOp
      simp only [ho, resolve, invoke, builtin, Sem.run_bind, Sem.run_pure, Result.andThen_ok, List.map_toArray, List.map_cons, List.map_nil, K.ev hx, K.ev hy, List.length_nil]
      rw [hr]; rfl
    · have : L.set i (.row e C.size A (xs ++ []).length c (C.all (xs ++ []))) = L := by
        rw [List.append_nil]
        obtain ⟨hlt, he⟩ := List.getElem?_eq_some_iff.1 hi
        rw [← he]; exact List.set_getElem_self hlt
      rw [this]; exact M
end
end Go.Proofs.Ytpmnfhifmmfglaa
