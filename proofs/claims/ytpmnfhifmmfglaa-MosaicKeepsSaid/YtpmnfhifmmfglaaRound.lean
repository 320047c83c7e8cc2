/- What is walked as everywhere holds in a round of a range over a function too: from the walk of a region's operations to the fenced one. -/
import Derived.Test.YtpmnfhifmmfglaaD7
import Derived.Test.YtpmnfhifmmfglaaAround
import Derived.RangeFuncFrom
import Derived.RangeFuncCalls
import Derived.RangeFuncLeaves
set_option linter.unusedVariables false
set_option linter.unusedSimpArgs false
set_option linter.unusedSectionVars false
namespace Go.Proofs.Ytpmnfhifmmfglaa
open Go.RowKit
section
variable {P : Program} {ops : Array Oper} {Q : Exit → Act → World → Prop} {a : Act} {w : World} {o : Oper} {lp n : Nat}
def noDefer (ops : Array Oper) : Bool := ops.all fun o => match o.op with | .defer _ => false | _ => true
theorem rowsI {row : String} {args : Array Value} {R : Value → World → Prop} (h : Rows P row args w R) : RowsIn (Fence.wide.inRound lp) n P row args w R :=
  fun c cs _ => let ⟨v, w', r, s⟩ := h c cs; ⟨v, w', r, stepsIn_wide.2 s⟩
theorem wpI_op (hnd : ∀ c, o.op ≠ .defer c) {nx nx' : Act → World → Prop} (hn : ∀ a w, nx a w → nx' a w) (h : o.wp P a w nx Q) : o.wpIn (Fence.wide.inRound lp) n P a w nx' Q := by
  refine ⟨fun f _ => trivial, ?_⟩
  have hs : Oper.semAt (Fence.wide.inRound lp).round a.eval o = execOp a.eval o := Oper.semAt_some lp _ _ hnd
  rw [hs]
  unfold Oper.wp at h
  generalize (execOp a.eval o).run P w = res at h
  have hd : ∀ k : Nat, (Fence.wide.inRound lp).depth.isSome = true → 1 ≤ k := fun _ h => by simp [Fence.wide] at h
  match res, h with
  | .ok (.value v) w', h => exact hn _ _ h
  | .ok .skip w', h => exact hn _ _ h
  | .ok (.defer d) w', h => exact hn _ _ h
  | .ok (.enter f args) w', h =>
    refine ⟨hd _, CallsIn.inRound lp (callsIn_wide.2 (Calls.mono h ?_))⟩
    intro e w'' he
    cases e with
    | returned v => exact hn _ _ he
    | panicked c => exact he
    | outgrown => exact he
  | .ok (.row row args) w', h =>
    refine ⟨hd _, ?_⟩
    have := rowsI (lp := lp) (n := n - 1) h
    exact this.mono fun v w'' hv => hn _ _ hv
  | .halt (.panic v) w', h => exact h
  | .ok (.round ..) w', h => exact h.elim
theorem about_wide (f : FuncId) : (Fence.wide.inRound lp).fn f := trivial
/-- Operation by operation. -/
theorem wpI_ops (hnd : ∀ (i : Nat) (o : Oper), ops[i]? = some o → ∀ c, o.op ≠ .defer c) (hq : ¬ LetsOut Q) : ∀ (l : List Nat) (a : Act) (w : World), wpOps P ops Q l a w → wpOpsIn (Fence.wide.inRound lp) n P ops Q l a w
  | [], a, w, h => h
  | i :: rest, a, w, h => by
    unfold wpOps at h
    unfold wpOpsIn
    cases ho : ops[i]? with
    | none => simp only [ho] at h ⊢; exact wpI_ops hnd hq rest a w h
    | some o =>
      simp only [ho] at h ⊢
      by_cases hw : Region.wanted o (yielded ops a.tmps) = true
      · rw [if_pos hw] at h ⊢
        rcases h with h | ⟨_, h⟩
        · exact wpI_op (hnd i o ho) (fun a w h => wpI_ops hnd hq rest a w h) h
        · exact absurd h hq
      · rw [if_neg hw] at h ⊢
        exact ⟨fun f _ => trivial, wpI_ops hnd hq rest _ w h⟩
theorem noDefer_spec {ops : Array Oper} (h : noDefer ops = true) (i : Nat) (o : Oper) (ho : ops[i]? = some o) : ∀ c, o.op ≠ .defer c := by
  intro c e
  unfold noDefer at h
  obtain ⟨hi, he⟩ := Array.getElem?_eq_some_iff.1 ho
  have := Array.all_eq_true.1 h i hi
  rw [he, e] at this
  cases this
theorem X_regI {id : Nat} {ol : List Oper} (hnd : noDefer ol.toArray = true) (hq : ¬ LetsOut Q) (h : wpList P ol.toArray Q ol a w) : (Code.region id ol.toArray false).wpIn (Fence.wide.inRound lp) n P Q a w := by
  refine wpIn_region (wpI_ops (noDefer_spec hnd) hq _ a w ?_)
  have := wpOps_eq_wpList (P := P) (ops := ol.toArray) (Q := Q) ol 0 (by simp)
  rw [List.range_eq_range', show ol.toArray.size = ol.length by simp, this]
  exact h
theorem XI_region_tl {id : Nat} {l : List Oper} (S : World → Prop) (f : List Nat) (hm : P.follows .mixedOrders = true) (hok : txtOK l.toArray (robOf f) (needOf f) = true) (hnd : noDefer l.toArray = true) (hq : ¬ LetsOut Q)
    (hS : S w.drew) (h : wpTl P l.toArray S (Q .normal) (marked f l) a w.drew) : (Code.region id l.toArray true).wpIn (Fence.wide.inRound lp) n P Q a w := by
  refine wpIn_region_draw fun t => wpI_ops (noDefer_spec hnd) hq _ a _ ?_
  simp only [Region.schedule, hm, Bool.true_or, if_true]
  refine wpAny_sound l.toArray.size t _ a _ ?_
  have h2 := wpTx_of_tl (ops := l.toArray) (robOf f) (needOf f) (marked f l) 0 a w.drew (fun j x hj => by simpa using marked_get f l j x hj) h
  rw [marked_len] at h2
  have h3 : wpTx P l.toArray S (robOf f) (needOf f) (Q .normal) (List.range l.toArray.size) a w.drew := by simpa [List.range_eq_range'] using h2
  have hrem : remOf l.toArray (Array.replicate l.toArray.size false) = List.range l.toArray.size := by
    unfold remOf
    refine List.filter_eq_self.2 fun i hi => ?_
    have := List.mem_range.1 hi
    simp at this
    simp [this]
  refine wpAny_of_tx hok l.toArray.size (Array.replicate l.toArray.size false) a _ (by simp) ?_ (by rw [hrem]; simp) (fun _ _ _ => hS) (by rw [hrem]; exact h3)
  intro i hi
  rw [getD_replicate_f] at hi
  cases hi
/-! ### The world behind a round, told from the round's start -/
theorem inO2 {W0 W : World} {L : List Ent} {g : Nat} {t : TypeId} {cs : List Value} (hb : Below W0.heap.size W0 W) (h : Blk W0 g t cs.toArray) : ∀ w, Mem W0.heap.size W w L → Blk w g t cs.toArray := fun _ M => h.below (hb.trans M.low) h.lt
theorem inA2 {α : Type} {C : Cod α} {W0 W : World} {L : List Ent} {A : Option Addr} {xs : List α} (hb : Below W0.heap.size W0 W) (h : SL W0 C A xs) : ∀ w, Mem W0.heap.size W w L → SL w C A xs := fun _ M => h.below (hb.trans M.low)
theorem Mem.restart {b : Nat} {W w : World} {L : List Ent} (M : Mem b W w L) : Mem b w w L := ⟨Below.refl _ _, KeepO.refl _, M.sz, M.has, M.up, M.one⟩
theorem Mem.back {b : Nat} {W V w : World} {L L' : List Ent} (M : Mem b W V L) (M' : Mem b V w L') : Mem b W w L' := ⟨M.low.trans M'.low, M.oth.trans M'.oth, M.bs, M'.has, M'.up, M'.one⟩
theorem objC_eq (o : Obj) : objC o = o.isCells := by cases o <;> rfl
theorem Mem.others {b : Nat} {W w : World} {L : List Ent} (M : Mem b W w L) : KeepsOthers W w := ⟨M.low.size, fun k o hk ho => M.oth k o hk (by rw [objC_eq]; exact ho)⟩
theorem foot_of {L L' : List Ent} (hf : L'.map Ent.foot = L.map Ent.foot) {i : Nat} {e : Ent} (h : L'[i]? = some e) : ∃ e0, L[i]? = some e0 ∧ e0.foot = e.foot := by
  have h1 : (L'.map Ent.foot)[i]? = some e.foot := by rw [List.getElem?_map, h]; rfl
  rw [hf, List.getElem?_map, Option.map_eq_some_iff] at h1
  exact h1
theorem Mem.round {b : Nat} {W w V : World} {L L' : List Ent} (M : Mem b W w L) (hf : L'.map Ent.foot = L.map Ent.foot) (hb : Below b W V) (has : ∀ (i : Nat) (e : Ent), L'[i]? = some e → Ent.holds V e) : Mem b V V L' :=
  ⟨Below.refl _ _, KeepO.refl _, Nat.le_trans M.bs hb.size, has,
   fun i e g h hg => by obtain ⟨e0, h0, h1⟩ := foot_of hf h; exact M.up i e0 g h0 (h1.trans hg),
   fun i j e e' g h h' hg hg' => by
     obtain ⟨e0, h0, h1⟩ := foot_of hf h
     obtain ⟨e0', h0', h1'⟩ := foot_of hf h'
     exact M.one i j e0 e0' g h0 h0' (h1.trans hg) (h1'.trans hg')⟩
/-- What is said of one's own cells abides the turn of an object that is none, and lies beyond. -/
theorem holds_own {β : Type} {b B : Nat} {W w : World} (f : β → List Ent) {L : List Ent} (M : Mem b W w L) (hB : w.heap.size = B) (hf : ∀ s, (f s).map Ent.foot = L.map Ent.foot) :
    OwnFrom B (fun (s : β) V => Below b W V ∧ ∀ (i : Nat) (e : Ent), (f s)[i]? = some e → Ent.holds V e) := fun s V V' row hs hg hr => by
  obtain ⟨h1, h2⟩ := hs
  refine ⟨h1.grown hg (Nat.le_trans M.bs h1.size) (fun k hk => by have := (hr k hk).1; have := M.sz; omega), fun i e h => Ent.keep (h2 i e h) fun g hg' => hg.block g ?_ fun e2 => ?_⟩
  · exact Ent.lt (h2 i e h) hg'
  · have h3 := (hr g e2.symm).1
    obtain ⟨e0, h0, h1'⟩ := foot_of (hf s) h
    have := M.feet i e0 g h0 (h1'.trans hg')
    omega
theorem Kd.ps2 {D : List Deferred} {N : Nat} {l : List (Nat × Value)} {i j : Nat} {u v : Value} (K : Kd D a N l) (hi : Nat.blt i N = true) (hj : Nat.blt j N = true) :
    Kn { tmps := (#[i, j].zip #[u, v]).foldl (fun t (p, v) => t.setIfInBounds p v) a.tmps, defers := [] } N ((j, v) :: (i, u) :: l) := by
  have h1 := (K.put (d := some i) (by simpa [dstOK] using hi) u).put (d := some j) (by simpa [dstOK] using hj) v
  have e : (#[i, j].zip #[u, v]).foldl (fun t (p, v) => t.setIfInBounds p v) a.tmps = ((a.put (some i) u).put (some j) v).tmps := by simp [Act.put]
  exact ⟨rfl, by show Array.size _ = N; rw [e]; exact h1.size, fun s v hs => by show Array.getD _ s undef = v; rw [e]; exact h1.get s v hs⟩
theorem Kd.mark {N : Nat} {l : List (Nat × Value)} (K : Kn a N l) (d : Deferred) : Kd [d] { a with defers := d :: a.defers } N l := ⟨by show d :: a.defers = [d]; rw [K.defs], K.size, K.get⟩
theorem A_asg {ol : List Oper} {x : Operand} (ho : o.op = .assign x) (hg : o.guard = none) (h : wpList P ops Q ol (a.put o.dst (a.eval x)) w) : wpList P ops Q (o :: ol) a w := by
  have hw : Region.wanted o (yielded ops a.tmps) = true := by simp [Region.wanted, hg]
  simp only [wpList, hw, if_true]
  refine .inl ?_
  show o.upon P a _ Q ((execOp a.eval o).run P w)
  have : (execOp a.eval o).run P w = .ok (.value (a.eval x)) w := by unfold execOp; simp [ho]
  rw [this]
  exact h
theorem retM1 {fn : Func} {Rp : Ending → World → Prop} {D N : Nat} {l : List (Nat × Value)} {r1 : ResultVar} {v1 : Value} (K : Kd [{ target := .collected D, args := #[] }] a N l) (hK : w.heap[D]? = some (.deferred (some []))) (hr : fn.results = #[r1])
    (h1 : ResOK P a (w.putObj D (.deferred none)) r1 v1) (h : Rp (.returned v1) (w.putObj D (.deferred none))) : bodyPostM Fence.wide n P fn Rp .ret a w := by
  show LeavesInM Fence.wide n P fn a.tmps Rp a.defers .returning w
  rw [K.defs]
  refine ⟨by simp, .inl ⟨_, _, rfl, run_takeDeferred hK, ?_⟩⟩
  refine ⟨v1, ?_, h⟩
  unfold ResOK at h1
  rw [results_def, hr]; simp [h1]
theorem Mem.putD {b : Nat} {W w : World} {L : List Ent} (M : Mem b W w L) {D : Nat} (hb : b ≤ D) (hK : w.heap[D]? = some (.deferred (some []))) {i g : Nat} {t : TypeId} {cs : List Value} (h : L[i]? = some (.blk g t cs)) : Blk (w.putObj D (.deferred none)) g t cs.toArray := by
  have hne : g ≠ D := fun e => by
    have h1 : w.heap[g]? = some (.cells cs.toArray t) := M.blkAt h
    rw [e, hK] at h1; cases h1
  exact (World.putObj_heap_other hne).trans (M.blkAt h)
theorem below_putD {b : Nat} {W w : World} (h : Below b W w) {D : Nat} (hb : b ≤ D) (o : Obj) : Below b W (w.putObj D o) :=
  ⟨h.os, h.tape, h.output, by simpa using h.size, fun k hk => (World.putObj_heap_other (by omega)).trans (h.block k hk)⟩
theorem Mem.fin {W w : World} (h : Below W.heap.size W w) : Mem W.heap.size W w [] := ⟨h, KeepO.below h, Nat.le_refl _, fun i e he => by simp at he, fun i e g he => by simp at he, fun i j e e' g he => by simp at he⟩
theorem Calls_marks {fn : Func} {code : Code} {fid : FuncId} {args : Array Value} {N : Nat} {Rp : Ending → World → Prop} (hf : P.funcs[fid]? = some fn) (hb : fn.body = some code) (hN : fn.ntmps = N) (hs : Nat.ble args.size N = true)
    (h : ∀ a, Kn a N (kargs 0 args.toList) → code.wp P (bodyPostM Fence.wide 3 P fn Rp) a w) : Calls P fid args w Rp := by
  refine callsIn_wide.1 (callsIn_of_wp_marks (n := 3) hf hb trivial (wpIn_wide.2 ?_) rfl)
  rw [hN]
  exact h _ (Kd.start args N hs)
theorem enters_fok {f : FuncId} (hf : FnOK P f = true) (args : Array Value) (w : World) : (callFunc f args).run P w = .ok (.enter f args) w := by
  unfold FnOK at hf
  split at hf
  · rename_i fn hfn
    simp only [Bool.and_eq_true, bne_iff_ne, ne_eq] at hf
    obtain ⟨b, hb⟩ := Option.isSome_iff_exists.1 hf.1
    simp [callFunc, hfn, hb, hf.2]
  · cases hf
theorem keepB_trans {L : List Nat} {A B C : World} (h1 : keepB L A B) (h2 : keepB L B C) : keepB L A C := fun k hk hlt => by
  have e := h1 k hk hlt
  have hB : k < B.heap.size := by
    have hA : A.heap[k]? = some A.heap[k] := Array.getElem?_eq_getElem hlt
    rw [hA] at e
    exact (Array.getElem?_eq_some_iff.1 e).1
  exact (h2 k hk hB).trans e
theorem Kd.asg2 {D : List Deferred} {N : Nat} {l : List (Nat × Value)} {x1 x2 : Operand} {d1 d2 : Nat} {v1 v2 : Value} (K : Kd D a N l) (h1 : evo l x1 = some v1) (hd1 : Nat.blt d1 N = true) (h2 : evo ((d1, v1) :: l) x2 = some v2) (hd2 : Nat.blt d2 N = true) :
    Kd D ((a.put (some d1) (a.eval x1)).put (some d2) ((a.put (some d1) (a.eval x1)).eval x2)) N ((d2, v2) :: (d1, v1) :: l) := by
  have K1 := K.put (d := some d1) (by simpa [dstOK] using hd1) v1
  rw [K.ev h1]
  have K2 := K1.put (d := some d2) (by simpa [dstOK] using hd2) v2
  have e : (a.put (some d1) v1).eval x2 = v2 := K1.ev h2
  rw [e]
  exact K2
end
end Go.Proofs.Ytpmnfhifmmfglaa
