/- Arguments of the laws, opened: printed by a program (rows.py). -/
import Derived.Test.YtpmnfhifmmfglaaRow
import Derived.Test.YtpmnfhifmmfglaaD6
set_option linter.unusedVariables false
set_option linter.unusedSimpArgs false
set_option linter.unusedSectionVars false
namespace Go.Proofs.Ytpmnfhifmmfglaa
open Go.ChangeShapes Go.WideShapes Go.ChangeAt Go.RowKit Go.Joins Go.Deep


theorem list_of {α : Type} (Q : Nat → α → Prop) : ∀ n, (∀ i, i < n → ∃ x, Q i x) → ∃ xs : List α, xs.length = n ∧ ∀ i x, xs[i]? = some x → Q i x
  | 0, _ => ⟨[], rfl, fun i x h => by simp at h⟩
  | n + 1, h => by
    obtain ⟨xs, hl, hx⟩ := list_of Q n fun i hi => h i (by omega)
    obtain ⟨y, hy⟩ := h n (by omega)
    refine ⟨xs ++ [y], by simp [hl], fun i x hi => ?_⟩
    rw [List.getElem?_append] at hi
    split at hi
    · exact hx i x hi
    · rename_i hlt
      have : i = n := by
        have := (List.getElem?_eq_some_iff.1 hi).1
        simp at this; omega
      subst this
      rw [hl, Nat.sub_self] at hi
      simp at hi
      subst hi
      exact hy
theorem peel {cs a : List Value} {i k : Nat} (hk : k = a.length) (h : (cs.drop i).take k = a) : cs.drop i = a ++ cs.drop (i + k) := by
  subst hk
  conv => lhs; rw [← List.take_append_drop a.length (cs.drop i), h, List.drop_drop]
theorem drop_all {cs : List Value} {k : Nat} (h : cs.length = k) : cs.drop k = [] := List.drop_of_length_le (by omega)
section
variable {H : Type} {enc : TypeId × Value → H} {P : Program}
theorem open_codQ {α : Type} {C : Cod α} {Q : α → Prop} {W : World} {base : Nat} {sp : Nat → Bool} {held : Bool} {fuel : Nat} {cs : List Value} {x : DataW H × List MemPlace} {t e : TypeId} (ht : P.underlying t = some (.slice e)) (hC : P.cellsOf e = C.size)
    (hel : ∀ n cs' y, DataW.trod enc P W base sp held n e cs' = some y → ∃ el : α, cs' = C.enc el ∧ Q el) (h : DataW.trod enc P W base sp held fuel t cs = some x) :
    ∃ (A : Option Addr) (n c : Nat) (xs : List α), n = xs.length ∧ cs = [.slice A n c] ∧ SL W C A xs ∧ n ≤ c ∧ c ≤ maxLen ∧ ∀ y ∈ xs, Q y := by
  rcases open_slice ht h with ⟨rfl, _⟩ | ⟨a, len, cap, m, n, D, Pl, hcs, hb, hl, hm, hmm, hx, hi⟩
  · exact ⟨none, 0, 0, [], rfl, rfl, SL.nil, Nat.le_refl _, Nat.zero_le _, fun y hy => by cases hy⟩
  · rw [hC] at hi
    have hlm : len ≤ m := by rw [hmm]; split <;> omega
    obtain ⟨xs, hxl, hxs⟩ := list_of (fun i (el : α) => (∀ j u, (C.enc el)[j]? = some u → W.cell? ((a.add (i * C.size)).add j) = some u) ∧ Q el) len fun i hlt => by
      obtain ⟨cs', hc, ht'⟩ := hi i (by omega)
      obtain ⟨el, rfl, hq⟩ := hel _ _ _ ht'
      obtain ⟨_, hcl, hat⟩ := World.cells?_some hc
      refine ⟨el, fun j u hu => ?_, hq⟩
      have hj : j < C.size := by have := (List.getElem?_eq_some_iff.1 hu).1; rw [C.len] at this; exact this
      rw [hat j hj, hu]
    refine ⟨some a, len, cap, xs, hxl.symm, hcs, fun hn => ?_, hl, hm, fun y hy => ?_⟩
    · obtain ⟨b, o, s⟩ := a
      have hs : s = none := by
        have hx0 : xs[0]? = some xs[0] := List.getElem?_eq_getElem hn
        have hl0 : 0 < (C.enc xs[0]).length := by rw [C.len]; exact C.pos
        have := (hxs 0 _ hx0).1 0 _ (List.getElem?_eq_getElem hl0)
        simp only [Nat.zero_mul, Addr.add, if_true] at this
        cases s with
        | none => rfl
        | some s =>
          unfold World.cell? at this
          split at this
          · simp at this
          · cases this
      subst hs
      refine ⟨b, o, rfl, fun j u hu => ?_⟩
      obtain ⟨i, j', el, rfl, hel', hu'⟩ := Cod.all_inv C xs j u hu
      have := (hxs i el hel').1 j' u hu'
      have hadd : ((⟨b, o, none⟩ : Addr).add (i * C.size)).add j' = ⟨b, o + (i * C.size + j'), none⟩ := by
        have h1 : ∀ (p q : Nat), (⟨b, p, none⟩ : Addr).add q = ⟨b, p + q, none⟩ := fun p q => by unfold Addr.add; split <;> simp_all
        rw [h1, h1, Nat.add_assoc]
      rw [hadd] at this
      exact this
    · obtain ⟨i, hi', he⟩ := List.getElem_of_mem hy
      exact (hxs i y (by rw [← he]; exact List.getElem?_eq_getElem hi')).2
variable {W : World} {base : Nat} {sp : Nat → Bool} {held : Bool} {r : Reach} {b0 : Nat} {t : TypeId} {v : Value} {d : DataW H} {p : List MemPlace}
theorem top_struct {fs : Array Field} (ht : P.underlying t = some (.struct fs)) (hv : Value.okWide P W r b0 t v) (h : DataW.Trod enc P W base sp held t v d p) : ∃ cs : List Value, v = .agg cs.toArray ∧ ∃ n y, DataW.trod enc P W base sp held n t cs = some y := by
  obtain ⟨cs, rfl, _⟩ := okWide_struct ht hv
  obtain ⟨fuel, hf⟩ := h
  exact ⟨cs.toList, by simp, fuel, _, hf⟩
theorem top_array {k : Nat} {e : TypeId} (ht : P.underlying t = some (.array k e)) (hv : Value.okWide P W r b0 t v) (h : DataW.Trod enc P W base sp held t v d p) : ∃ cs : List Value, v = .agg cs.toArray ∧ ∃ n y, DataW.trod enc P W base sp held n t cs = some y := by
  simp only [Value.okWide, ht] at hv
  obtain ⟨cs, rfl, _⟩ := hv
  obtain ⟨fuel, hf⟩ := h
  exact ⟨cs.toList, by simp, fuel, _, hf⟩
theorem top_slice {e : TypeId} (ht : P.underlying t = some (.slice e)) (hv : Value.okWide P W r b0 t v) (h : DataW.Trod enc P W base sp held t v d p) : ∃ u, v = u ∧ ∃ n y, DataW.trod enc P W base sp held n t [u] = some y := by
  obtain ⟨a, l, c, rfl⟩ := okWide_slice ht hv
  obtain ⟨fuel, hf⟩ := h
  exact ⟨_, rfl, fuel, _, hf⟩
theorem top_string (ht : P.underlying t = some .string) (hv : Value.okWide P W r b0 t v) (h : DataW.Trod enc P W base sp held t v d p) : ∃ u, v = u ∧ ∃ n y, DataW.trod enc P W base sp held n t [u] = some y := by
  obtain ⟨s, rfl⟩ := okWide_string ht hv
  obtain ⟨fuel, hf⟩ := h
  exact ⟨_, rfl, fuel, _, hf⟩
theorem top_int {k : IntKind} (ht : P.underlying t = some (.int k)) (hv : Value.okWide P W r b0 t v) (h : DataW.Trod enc P W base sp held t v d p) : ∃ u, v = u ∧ ∃ n y, DataW.trod enc P W base sp held n t [u] = some y := by
  obtain ⟨s, rfl⟩ := okWide_int ht hv
  obtain ⟨fuel, hf⟩ := h
  exact ⟨_, rfl, fuel, _, hf⟩
theorem top_bool (ht : P.underlying t = some .bool) (hv : Value.okWide P W r b0 t v) (h : DataW.Trod enc P W base sp held t v d p) : ∃ u, v = u ∧ ∃ n y, DataW.trod enc P W base sp held n t [u] = some y := by
  obtain ⟨s, rfl⟩ := okWide_bool ht hv
  obtain ⟨fuel, hf⟩ := h
  exact ⟨_, rfl, fuel, _, hf⟩
end

section
variable {H : Type} {enc : TypeId × Value → H} {W : World} {base : Nat} {sp : Nat → Bool} {held : Bool}
theorem ct3 : Try.prog.cellsOf 3 = 1 := by kernel_rfl
set_option maxRecDepth 100000 in
theorem ot3 (n : Nat) (cs : List Value) (y) (h : DataW.trod enc Try.prog W base sp held n 3 cs = some y) : ∃ (x0 : Int), cs = [.int .i64 x0] ∧ wf64 x0 := by
  obtain ⟨z, rfl, _, wz⟩ := DataW.trod_int Try.underlying3 h
  exact ⟨z, rfl, wf64_of wz⟩
theorem ct22 : Try.prog.cellsOf 22 = 1 := by kernel_rfl
set_option maxRecDepth 100000 in
theorem ot22 (n : Nat) (cs : List Value) (y) (h : DataW.trod enc Try.prog W base sp held n 22 cs = some y) : ∃ (x0 : List Int) (A0 : Option Addr) (c0 : Nat), cs = [.slice A0 x0.length c0] ∧ (SL W (cI .i64) A0 x0 ∧ x0.length ≤ c0 ∧ c0 ≤ maxLen ∧ ∀ y ∈ x0, wf64 y) := by
  obtain ⟨A, n, c, xs, rfl, rfl, hr, hnc, hc, hq⟩ := open_codQ (C := (cI .i64)) (Q := fun y => wf64 y) Try.underlying22 (by kernel_rfl) (fun n cs' y h => by
    obtain ⟨ex0, rfl, ef0⟩ := ot3 n cs' y h
    exact ⟨ex0, rfl, ef0⟩) h
  exact ⟨xs, A, c, rfl, hr, hnc, hc, hq⟩
theorem ct24 : Try.prog.cellsOf 24 = 3 := by kernel_rfl
set_option maxRecDepth 100000 in
theorem ot24 (n : Nat) (cs : List Value) (y) (h : DataW.trod enc Try.prog W base sp held n 24 cs = some y) : ∃ (x0 : Int) (x1 : Int) (x2 : List Int) (A2 : Option Addr) (c2 : Nat), cs = [.int .i64 x0, .int .i64 x1, .slice A2 x2.length c2] ∧ wf64 x0 ∧ wf64 x1 ∧ (SL W (cI .i64) A2 x2 ∧ x2.length ≤ c2 ∧ c2 ≤ maxLen ∧ ∀ y ∈ x2, wf64 y) := by
  obtain ⟨ys, m, _, _, hl, hyl, hf⟩ := DataW.trod_struct Try.underlying24 h
  obtain ⟨p0x0, e0, p0f0⟩ := ot3 _ _ _ ((hf 0 _ rfl).trans (List.getElem?_eq_getElem (show 0 < ys.length by rw [hyl]; decide)))
  change List.take (Try.prog.cellsOf 3) (List.drop 0 cs) = _ at e0
  rw [ct3] at e0
  obtain ⟨p1x0, e1, p1f0⟩ := ot3 _ _ _ ((hf 1 _ rfl).trans (List.getElem?_eq_getElem (show 1 < ys.length by rw [hyl]; decide)))
  change List.take (Try.prog.cellsOf 3) (List.drop 1 cs) = _ at e1
  rw [ct3] at e1
  obtain ⟨p2x0, p2A0, p2c0, e2, p2f0⟩ := ot22 _ _ _ ((hf 2 _ rfl).trans (List.getElem?_eq_getElem (show 2 < ys.length by rw [hyl]; decide)))
  change List.take (Try.prog.cellsOf 22) (List.drop 2 cs) = _ at e2
  rw [ct22] at e2
  have hcs : cs = _ := List.drop_zero.symm.trans ((peel (i := 0) (k := 1) rfl e0).trans (congrArg _ ((peel (i := 1) (k := 1) rfl e1).trans (congrArg _ ((peel (i := 2) (k := 1) rfl e2).trans (congrArg _ (drop_all (k := 3) (hl.trans ct24))))))))
  exact ⟨p0x0, p1x0, p2x0, p2A0, p2c0, hcs, p0f0, p1f0, p2f0⟩
theorem ct73 : Try.prog.cellsOf 73 = 3 := by kernel_rfl
set_option maxRecDepth 100000 in
theorem ot73 (n : Nat) (cs : List Value) (y) (h : DataW.trod enc Try.prog W base sp held n 73 cs = some y) : ∃ (x0 : Int) (x1 : Int) (x2 : Int), cs = [.int .i64 x0, .int .i64 x1, .int .i64 x2] ∧ wf64 x0 ∧ wf64 x1 ∧ wf64 x2 := by
  obtain ⟨ys, m, _, _, hl, hyl, hf⟩ := DataW.trod_struct Try.underlying73 h
  obtain ⟨p0x0, e0, p0f0⟩ := ot3 _ _ _ ((hf 0 _ rfl).trans (List.getElem?_eq_getElem (show 0 < ys.length by rw [hyl]; decide)))
  change List.take (Try.prog.cellsOf 3) (List.drop 0 cs) = _ at e0
  rw [ct3] at e0
  obtain ⟨p1x0, e1, p1f0⟩ := ot3 _ _ _ ((hf 1 _ rfl).trans (List.getElem?_eq_getElem (show 1 < ys.length by rw [hyl]; decide)))
  change List.take (Try.prog.cellsOf 3) (List.drop 1 cs) = _ at e1
  rw [ct3] at e1
  obtain ⟨p2x0, e2, p2f0⟩ := ot3 _ _ _ ((hf 2 _ rfl).trans (List.getElem?_eq_getElem (show 2 < ys.length by rw [hyl]; decide)))
  change List.take (Try.prog.cellsOf 3) (List.drop 2 cs) = _ at e2
  rw [ct3] at e2
  have hcs : cs = _ := List.drop_zero.symm.trans ((peel (i := 0) (k := 1) rfl e0).trans (congrArg _ ((peel (i := 1) (k := 1) rfl e1).trans (congrArg _ ((peel (i := 2) (k := 1) rfl e2).trans (congrArg _ (drop_all (k := 3) (hl.trans ct73))))))))
  exact ⟨p0x0, p1x0, p2x0, hcs, p0f0, p1f0, p2f0⟩
theorem ct47 : Try.prog.cellsOf 47 = 1 := by kernel_rfl
set_option maxRecDepth 100000 in
theorem ot47 (n : Nat) (cs : List Value) (y) (h : DataW.trod enc Try.prog W base sp held n 47 cs = some y) : ∃ (x0 : List (Int × Int × Int)) (A0 : Option Addr) (c0 : Nat), cs = [.slice A0 x0.length c0] ∧ (SL W cIII A0 x0 ∧ x0.length ≤ c0 ∧ c0 ≤ maxLen ∧ ∀ y ∈ x0, wf64 y.1 ∧ wf64 y.2.1 ∧ wf64 y.2.2) := by
  obtain ⟨A, n, c, xs, rfl, rfl, hr, hnc, hc, hq⟩ := open_codQ (C := cIII) (Q := fun y => wf64 y.1 ∧ wf64 y.2.1 ∧ wf64 y.2.2) Try.underlying47 (by kernel_rfl) (fun n cs' y h => by
    obtain ⟨ex0, ex1, ex2, rfl, ef0, ef1, ef2⟩ := ot73 n cs' y h
    exact ⟨(ex0, ex1, ex2), rfl, ef0, ef1, ef2⟩) h
  exact ⟨xs, A, c, rfl, hr, hnc, hc, hq⟩
theorem ct49 : Try.prog.cellsOf 49 = 3 := by kernel_rfl
set_option maxRecDepth 100000 in
theorem ot49 (n : Nat) (cs : List Value) (y) (h : DataW.trod enc Try.prog W base sp held n 49 cs = some y) : ∃ (x0 : Int) (x1 : Int) (x2 : List (Int × Int × Int)) (A2 : Option Addr) (c2 : Nat), cs = [.int .i64 x0, .int .i64 x1, .slice A2 x2.length c2] ∧ wf64 x0 ∧ wf64 x1 ∧ (SL W cIII A2 x2 ∧ x2.length ≤ c2 ∧ c2 ≤ maxLen ∧ ∀ y ∈ x2, wf64 y.1 ∧ wf64 y.2.1 ∧ wf64 y.2.2) := by
  obtain ⟨ys, m, _, _, hl, hyl, hf⟩ := DataW.trod_struct Try.underlying49 h
  obtain ⟨p0x0, e0, p0f0⟩ := ot3 _ _ _ ((hf 0 _ rfl).trans (List.getElem?_eq_getElem (show 0 < ys.length by rw [hyl]; decide)))
  change List.take (Try.prog.cellsOf 3) (List.drop 0 cs) = _ at e0
  rw [ct3] at e0
  obtain ⟨p1x0, e1, p1f0⟩ := ot3 _ _ _ ((hf 1 _ rfl).trans (List.getElem?_eq_getElem (show 1 < ys.length by rw [hyl]; decide)))
  change List.take (Try.prog.cellsOf 3) (List.drop 1 cs) = _ at e1
  rw [ct3] at e1
  obtain ⟨p2x0, p2A0, p2c0, e2, p2f0⟩ := ot47 _ _ _ ((hf 2 _ rfl).trans (List.getElem?_eq_getElem (show 2 < ys.length by rw [hyl]; decide)))
  change List.take (Try.prog.cellsOf 47) (List.drop 2 cs) = _ at e2
  rw [ct47] at e2
  have hcs : cs = _ := List.drop_zero.symm.trans ((peel (i := 0) (k := 1) rfl e0).trans (congrArg _ ((peel (i := 1) (k := 1) rfl e1).trans (congrArg _ ((peel (i := 2) (k := 1) rfl e2).trans (congrArg _ (drop_all (k := 3) (hl.trans ct49))))))))
  exact ⟨p0x0, p1x0, p2x0, p2A0, p2c0, hcs, p0f0, p1f0, p2f0⟩
theorem ct39 : Try.prog.cellsOf 39 = 3 := by kernel_rfl
set_option maxRecDepth 100000 in
theorem ot39 (n : Nat) (cs : List Value) (y) (h : DataW.trod enc Try.prog W base sp held n 39 cs = some y) : ∃ (x0 : Int) (x1 : Int) (x2 : Int), cs = [.int .i64 x0, .int .i64 x1, .int .i64 x2] ∧ wf64 x0 ∧ wf64 x1 ∧ wf64 x2 := by
  obtain ⟨ys, m, _, _, hl, hyl, hf⟩ := DataW.trod_array Try.underlying39 h
  obtain ⟨p0x0, e0, p0f0⟩ := ot3 _ _ _ ((hf 0 (by decide)).trans (List.getElem?_eq_getElem (show 0 < ys.length by rw [hyl]; decide)))
  change List.take (Try.prog.cellsOf 3) (List.drop (0 * Try.prog.cellsOf 3) cs) = _ at e0
  rw [ct3] at e0
  obtain ⟨p1x0, e1, p1f0⟩ := ot3 _ _ _ ((hf 1 (by decide)).trans (List.getElem?_eq_getElem (show 1 < ys.length by rw [hyl]; decide)))
  change List.take (Try.prog.cellsOf 3) (List.drop (1 * Try.prog.cellsOf 3) cs) = _ at e1
  rw [ct3] at e1
  obtain ⟨p2x0, e2, p2f0⟩ := ot3 _ _ _ ((hf 2 (by decide)).trans (List.getElem?_eq_getElem (show 2 < ys.length by rw [hyl]; decide)))
  change List.take (Try.prog.cellsOf 3) (List.drop (2 * Try.prog.cellsOf 3) cs) = _ at e2
  rw [ct3] at e2
  have hcs : cs = _ := List.drop_zero.symm.trans ((peel (i := 0) (k := 1) rfl e0).trans (congrArg _ ((peel (i := 1) (k := 1) rfl e1).trans (congrArg _ ((peel (i := 2) (k := 1) rfl e2).trans (congrArg _ (drop_all (k := 3) (hl.trans ct39))))))))
  exact ⟨p0x0, p1x0, p2x0, hcs, p0f0, p1f0, p2f0⟩
theorem ct25 : Try.prog.cellsOf 25 = 4 := by kernel_rfl
set_option maxRecDepth 100000 in
theorem ot25 (n : Nat) (cs : List Value) (y) (h : DataW.trod enc Try.prog W base sp held n 25 cs = some y) : ∃ (x0 : Int) (x1 : Int) (x2 : Int) (x3 : Int), cs = [.int .i64 x0, .int .i64 x1, .int .i64 x2, .int .i64 x3] ∧ wf64 x0 ∧ wf64 x1 ∧ wf64 x2 ∧ wf64 x3 := by
  obtain ⟨ys, m, _, _, hl, hyl, hf⟩ := DataW.trod_array Try.underlying25 h
  obtain ⟨p0x0, e0, p0f0⟩ := ot3 _ _ _ ((hf 0 (by decide)).trans (List.getElem?_eq_getElem (show 0 < ys.length by rw [hyl]; decide)))
  change List.take (Try.prog.cellsOf 3) (List.drop (0 * Try.prog.cellsOf 3) cs) = _ at e0
  rw [ct3] at e0
  obtain ⟨p1x0, e1, p1f0⟩ := ot3 _ _ _ ((hf 1 (by decide)).trans (List.getElem?_eq_getElem (show 1 < ys.length by rw [hyl]; decide)))
  change List.take (Try.prog.cellsOf 3) (List.drop (1 * Try.prog.cellsOf 3) cs) = _ at e1
  rw [ct3] at e1
  obtain ⟨p2x0, e2, p2f0⟩ := ot3 _ _ _ ((hf 2 (by decide)).trans (List.getElem?_eq_getElem (show 2 < ys.length by rw [hyl]; decide)))
  change List.take (Try.prog.cellsOf 3) (List.drop (2 * Try.prog.cellsOf 3) cs) = _ at e2
  rw [ct3] at e2
  obtain ⟨p3x0, e3, p3f0⟩ := ot3 _ _ _ ((hf 3 (by decide)).trans (List.getElem?_eq_getElem (show 3 < ys.length by rw [hyl]; decide)))
  change List.take (Try.prog.cellsOf 3) (List.drop (3 * Try.prog.cellsOf 3) cs) = _ at e3
  rw [ct3] at e3
  have hcs : cs = _ := List.drop_zero.symm.trans ((peel (i := 0) (k := 1) rfl e0).trans (congrArg _ ((peel (i := 1) (k := 1) rfl e1).trans (congrArg _ ((peel (i := 2) (k := 1) rfl e2).trans (congrArg _ ((peel (i := 3) (k := 1) rfl e3).trans (congrArg _ (drop_all (k := 4) (hl.trans ct25))))))))))
  exact ⟨p0x0, p1x0, p2x0, p3x0, hcs, p0f0, p1f0, p2f0, p3f0⟩
theorem ct96 : Try.prog.cellsOf 96 = 2 := by kernel_rfl
set_option maxRecDepth 100000 in
theorem ot96 (n : Nat) (cs : List Value) (y) (h : DataW.trod enc Try.prog W base sp held n 96 cs = some y) : ∃ (x0 : Int) (x1 : Int), cs = [.int .i64 x0, .int .i64 x1] ∧ wf64 x0 ∧ wf64 x1 := by
  obtain ⟨ys, m, _, _, hl, hyl, hf⟩ := DataW.trod_struct Try.underlying96 h
  obtain ⟨p0x0, e0, p0f0⟩ := ot3 _ _ _ ((hf 0 _ rfl).trans (List.getElem?_eq_getElem (show 0 < ys.length by rw [hyl]; decide)))
  change List.take (Try.prog.cellsOf 3) (List.drop 0 cs) = _ at e0
  rw [ct3] at e0
  obtain ⟨p1x0, e1, p1f0⟩ := ot3 _ _ _ ((hf 1 _ rfl).trans (List.getElem?_eq_getElem (show 1 < ys.length by rw [hyl]; decide)))
  change List.take (Try.prog.cellsOf 3) (List.drop 1 cs) = _ at e1
  rw [ct3] at e1
  have hcs : cs = _ := List.drop_zero.symm.trans ((peel (i := 0) (k := 1) rfl e0).trans (congrArg _ ((peel (i := 1) (k := 1) rfl e1).trans (congrArg _ (drop_all (k := 2) (hl.trans ct96))))))
  exact ⟨p0x0, p1x0, hcs, p0f0, p1f0⟩
theorem ct34 : Try.prog.cellsOf 34 = 1 := by kernel_rfl
set_option maxRecDepth 100000 in
theorem ot34 (n : Nat) (cs : List Value) (y) (h : DataW.trod enc Try.prog W base sp held n 34 cs = some y) : ∃ (x0 : List (Int × Int)) (A0 : Option Addr) (c0 : Nat), cs = [.slice A0 x0.length c0] ∧ (SL W cII A0 x0 ∧ x0.length ≤ c0 ∧ c0 ≤ maxLen ∧ ∀ y ∈ x0, wf64 y.1 ∧ wf64 y.2) := by
  obtain ⟨A, n, c, xs, rfl, rfl, hr, hnc, hc, hq⟩ := open_codQ (C := cII) (Q := fun y => wf64 y.1 ∧ wf64 y.2) Try.underlying34 (by kernel_rfl) (fun n cs' y h => by
    obtain ⟨ex0, ex1, rfl, ef0, ef1⟩ := ot96 n cs' y h
    exact ⟨(ex0, ex1), rfl, ef0, ef1⟩) h
  exact ⟨xs, A, c, rfl, hr, hnc, hc, hq⟩
theorem ct88 : Try.prog.cellsOf 88 = 2 := by kernel_rfl
set_option maxRecDepth 100000 in
theorem ot88 (n : Nat) (cs : List Value) (y) (h : DataW.trod enc Try.prog W base sp held n 88 cs = some y) : ∃ (x0 : Int) (x1 : Int), cs = [.int .i64 x0, .int .i64 x1] ∧ wf64 x0 ∧ wf64 x1 := by
  obtain ⟨ys, m, _, _, hl, hyl, hf⟩ := DataW.trod_struct Try.underlying88 h
  obtain ⟨p0x0, e0, p0f0⟩ := ot3 _ _ _ ((hf 0 _ rfl).trans (List.getElem?_eq_getElem (show 0 < ys.length by rw [hyl]; decide)))
  change List.take (Try.prog.cellsOf 3) (List.drop 0 cs) = _ at e0
  rw [ct3] at e0
  obtain ⟨p1x0, e1, p1f0⟩ := ot3 _ _ _ ((hf 1 _ rfl).trans (List.getElem?_eq_getElem (show 1 < ys.length by rw [hyl]; decide)))
  change List.take (Try.prog.cellsOf 3) (List.drop 1 cs) = _ at e1
  rw [ct3] at e1
  have hcs : cs = _ := List.drop_zero.symm.trans ((peel (i := 0) (k := 1) rfl e0).trans (congrArg _ ((peel (i := 1) (k := 1) rfl e1).trans (congrArg _ (drop_all (k := 2) (hl.trans ct88))))))
  exact ⟨p0x0, p1x0, hcs, p0f0, p1f0⟩
theorem ct80 : Try.prog.cellsOf 80 = 1 := by kernel_rfl
set_option maxRecDepth 100000 in
theorem ot80 (n : Nat) (cs : List Value) (y) (h : DataW.trod enc Try.prog W base sp held n 80 cs = some y) : ∃ (x0 : List (Int × Int)) (A0 : Option Addr) (c0 : Nat), cs = [.slice A0 x0.length c0] ∧ (SL W cII A0 x0 ∧ x0.length ≤ c0 ∧ c0 ≤ maxLen ∧ ∀ y ∈ x0, wf64 y.1 ∧ wf64 y.2) := by
  obtain ⟨A, n, c, xs, rfl, rfl, hr, hnc, hc, hq⟩ := open_codQ (C := cII) (Q := fun y => wf64 y.1 ∧ wf64 y.2) Try.underlying80 (by kernel_rfl) (fun n cs' y h => by
    obtain ⟨ex0, ex1, rfl, ef0, ef1⟩ := ot88 n cs' y h
    exact ⟨(ex0, ex1), rfl, ef0, ef1⟩) h
  exact ⟨xs, A, c, rfl, hr, hnc, hc, hq⟩
theorem ct75 : Try.prog.cellsOf 75 = 9 := by kernel_rfl
set_option maxRecDepth 100000 in
theorem ot75 (n : Nat) (cs : List Value) (y) (h : DataW.trod enc Try.prog W base sp held n 75 cs = some y) : ∃ (x0 : Int) (x1 : Int) (x2 : Int) (x3 : Int) (x4 : Int) (x5 : Int) (x6 : Int) (x7 : Int) (x8 : Int), cs = [.int .i64 x0, .int .i64 x1, .int .i64 x2, .int .i64 x3, .int .i64 x4, .int .i64 x5, .int .i64 x6, .int .i64 x7, .int .i64 x8] ∧ wf64 x0 ∧ wf64 x1 ∧ wf64 x2 ∧ wf64 x3 ∧ wf64 x4 ∧ wf64 x5 ∧ wf64 x6 ∧ wf64 x7 ∧ wf64 x8 := by
  obtain ⟨ys, m, _, _, hl, hyl, hf⟩ := DataW.trod_array Try.underlying75 h
  obtain ⟨p0x0, e0, p0f0⟩ := ot3 _ _ _ ((hf 0 (by decide)).trans (List.getElem?_eq_getElem (show 0 < ys.length by rw [hyl]; decide)))
  change List.take (Try.prog.cellsOf 3) (List.drop (0 * Try.prog.cellsOf 3) cs) = _ at e0
  rw [ct3] at e0
  obtain ⟨p1x0, e1, p1f0⟩ := ot3 _ _ _ ((hf 1 (by decide)).trans (List.getElem?_eq_getElem (show 1 < ys.length by rw [hyl]; decide)))
  change List.take (Try.prog.cellsOf 3) (List.drop (1 * Try.prog.cellsOf 3) cs) = _ at e1
  rw [ct3] at e1
  obtain ⟨p2x0, e2, p2f0⟩ := ot3 _ _ _ ((hf 2 (by decide)).trans (List.getElem?_eq_getElem (show 2 < ys.length by rw [hyl]; decide)))
  change List.take (Try.prog.cellsOf 3) (List.drop (2 * Try.prog.cellsOf 3) cs) = _ at e2
  rw [ct3] at e2
  obtain ⟨p3x0, e3, p3f0⟩ := ot3 _ _ _ ((hf 3 (by decide)).trans (List.getElem?_eq_getElem (show 3 < ys.length by rw [hyl]; decide)))
  change List.take (Try.prog.cellsOf 3) (List.drop (3 * Try.prog.cellsOf 3) cs) = _ at e3
  rw [ct3] at e3
  obtain ⟨p4x0, e4, p4f0⟩ := ot3 _ _ _ ((hf 4 (by decide)).trans (List.getElem?_eq_getElem (show 4 < ys.length by rw [hyl]; decide)))
  change List.take (Try.prog.cellsOf 3) (List.drop (4 * Try.prog.cellsOf 3) cs) = _ at e4
  rw [ct3] at e4
  obtain ⟨p5x0, e5, p5f0⟩ := ot3 _ _ _ ((hf 5 (by decide)).trans (List.getElem?_eq_getElem (show 5 < ys.length by rw [hyl]; decide)))
  change List.take (Try.prog.cellsOf 3) (List.drop (5 * Try.prog.cellsOf 3) cs) = _ at e5
  rw [ct3] at e5
  obtain ⟨p6x0, e6, p6f0⟩ := ot3 _ _ _ ((hf 6 (by decide)).trans (List.getElem?_eq_getElem (show 6 < ys.length by rw [hyl]; decide)))
  change List.take (Try.prog.cellsOf 3) (List.drop (6 * Try.prog.cellsOf 3) cs) = _ at e6
  rw [ct3] at e6
  obtain ⟨p7x0, e7, p7f0⟩ := ot3 _ _ _ ((hf 7 (by decide)).trans (List.getElem?_eq_getElem (show 7 < ys.length by rw [hyl]; decide)))
  change List.take (Try.prog.cellsOf 3) (List.drop (7 * Try.prog.cellsOf 3) cs) = _ at e7
  rw [ct3] at e7
  obtain ⟨p8x0, e8, p8f0⟩ := ot3 _ _ _ ((hf 8 (by decide)).trans (List.getElem?_eq_getElem (show 8 < ys.length by rw [hyl]; decide)))
  change List.take (Try.prog.cellsOf 3) (List.drop (8 * Try.prog.cellsOf 3) cs) = _ at e8
  rw [ct3] at e8
  have hcs : cs = _ := List.drop_zero.symm.trans ((peel (i := 0) (k := 1) rfl e0).trans (congrArg _ ((peel (i := 1) (k := 1) rfl e1).trans (congrArg _ ((peel (i := 2) (k := 1) rfl e2).trans (congrArg _ ((peel (i := 3) (k := 1) rfl e3).trans (congrArg _ ((peel (i := 4) (k := 1) rfl e4).trans (congrArg _ ((peel (i := 5) (k := 1) rfl e5).trans (congrArg _ ((peel (i := 6) (k := 1) rfl e6).trans (congrArg _ ((peel (i := 7) (k := 1) rfl e7).trans (congrArg _ ((peel (i := 8) (k := 1) rfl e8).trans (congrArg _ (drop_all (k := 9) (hl.trans ct75))))))))))))))))))))
  exact ⟨p0x0, p1x0, p2x0, p3x0, p4x0, p5x0, p6x0, p7x0, p8x0, hcs, p0f0, p1f0, p2f0, p3f0, p4f0, p5f0, p6f0, p7f0, p8f0⟩
theorem ct51 : Try.prog.cellsOf 51 = 4 := by kernel_rfl
set_option maxRecDepth 100000 in
theorem ot51 (n : Nat) (cs : List Value) (y) (h : DataW.trod enc Try.prog W base sp held n 51 cs = some y) : ∃ (x0 : Int) (x1 : Int) (x2 : Int) (x3 : Int), cs = [.int .i64 x0, .int .i64 x1, .int .i64 x2, .int .i64 x3] ∧ wf64 x0 ∧ wf64 x1 ∧ wf64 x2 ∧ wf64 x3 := by
  obtain ⟨ys, m, _, _, hl, hyl, hf⟩ := DataW.trod_struct Try.underlying51 h
  obtain ⟨p0x0, e0, p0f0⟩ := ot3 _ _ _ ((hf 0 _ rfl).trans (List.getElem?_eq_getElem (show 0 < ys.length by rw [hyl]; decide)))
  change List.take (Try.prog.cellsOf 3) (List.drop 0 cs) = _ at e0
  rw [ct3] at e0
  obtain ⟨p1x0, e1, p1f0⟩ := ot3 _ _ _ ((hf 1 _ rfl).trans (List.getElem?_eq_getElem (show 1 < ys.length by rw [hyl]; decide)))
  change List.take (Try.prog.cellsOf 3) (List.drop 1 cs) = _ at e1
  rw [ct3] at e1
  obtain ⟨p2x0, e2, p2f0⟩ := ot3 _ _ _ ((hf 2 _ rfl).trans (List.getElem?_eq_getElem (show 2 < ys.length by rw [hyl]; decide)))
  change List.take (Try.prog.cellsOf 3) (List.drop 2 cs) = _ at e2
  rw [ct3] at e2
  obtain ⟨p3x0, e3, p3f0⟩ := ot3 _ _ _ ((hf 3 _ rfl).trans (List.getElem?_eq_getElem (show 3 < ys.length by rw [hyl]; decide)))
  change List.take (Try.prog.cellsOf 3) (List.drop 3 cs) = _ at e3
  rw [ct3] at e3
  have hcs : cs = _ := List.drop_zero.symm.trans ((peel (i := 0) (k := 1) rfl e0).trans (congrArg _ ((peel (i := 1) (k := 1) rfl e1).trans (congrArg _ ((peel (i := 2) (k := 1) rfl e2).trans (congrArg _ ((peel (i := 3) (k := 1) rfl e3).trans (congrArg _ (drop_all (k := 4) (hl.trans ct51))))))))))
  exact ⟨p0x0, p1x0, p2x0, p3x0, hcs, p0f0, p1f0, p2f0, p3f0⟩
end
end Go.Proofs.Ytpmnfhifmmfglaa
