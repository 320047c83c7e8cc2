/- Texts of the claim LineFar, joined: Opens, DPix, Pure, DRep, DCpy, DD, PBase, PGen, PPic, PTake, PCol, PPixB, PFill, PMos, PSens, PRep, PEachM. -/
import Derived.Test.YtpmnfhifmmfglabLineFarK1
set_option linter.unusedVariables false
set_option linter.unusedSimpArgs false
set_option linter.unusedSectionVars false
namespace Go.Proofs.Ytpmnfhifmmfglab
open Go.ChangeShapes Go.WideShapes Go.ChangeAt Go.RowKit Go.Joins Go.Deep
theorem list_of {α : Type} (Q : Nat → α → Prop) : ∀ n, (∀ i, i < n → ∃ x, Q i x) → ∃ xs : List α, xs.length = n ∧ ∀ i x, xs[i]? = some x → Q i x
  | 0, _ => ⟨[], rfl, fun i x h => by simp at h⟩
  | n + 1, h => by
    obtain ⟨xs, hl, hx⟩ := list_of Q n fun i hi => h i (by omega)
    obtain ⟨y, hy⟩ := h n (by omega)
    refine ⟨xs ++ [y], by simp [hl], fun i x hi => ?_⟩
    rw [List.getElem?_append] at hi
    split at hi
    · exact hx i x hi
    · rename_i hlt
      have : i = n := by
        have := (List.getElem?_eq_some_iff.1 hi).1
        simp at this; omega
      subst this
      rw [hl, Nat.sub_self] at hi
      simp at hi
      subst hi
      exact hy
theorem peel {cs a : List Value} {i k : Nat} (hk : k = a.length) (h : (cs.drop i).take k = a) : cs.drop i = a ++ cs.drop (i + k) := by
  subst hk
  conv => lhs; rw [← List.take_append_drop a.length (cs.drop i), h, List.drop_drop]
theorem drop_all {cs : List Value} {k : Nat} (h : cs.length = k) : cs.drop k = [] := List.drop_of_length_le (by omega)
section
variable {H : Type} {enc : TypeId × Value → H} {P : Program}
theorem open_codQ {α : Type} {C : Cod α} {Q : α → Prop} {W : World} {base : Nat} {sp : Nat → Bool} {held : Bool} {fuel : Nat} {cs : List Value} {x : DataW H × List MemPlace} {t e : TypeId} (ht : P.underlying t = some (.slice e)) (hC : P.cellsOf e = C.size)
    (hel : ∀ n cs' y, DataW.trod enc P W base sp held n e cs' = some y → ∃ el : α, cs' = C.enc el ∧ Q el) (h : DataW.trod enc P W base sp held fuel t cs = some x) :
    ∃ (A : Option Addr) (n c : Nat) (xs : List α), n = xs.length ∧ cs = [.slice A n c] ∧ SL W C A xs ∧ n ≤ c ∧ c ≤ maxLen ∧ ∀ y ∈ xs, Q y := by
  rcases open_slice ht h with ⟨rfl, _⟩ | ⟨a, len, cap, m, n, D, Pl, hcs, hb, hl, hm, hmm, hx, hi⟩
  · exact ⟨none, 0, 0, [], rfl, rfl, SL.nil, Nat.le_refl _, Nat.zero_le _, fun y hy => by cases hy⟩
  · rw [hC] at hi
    have hlm : len ≤ m := by rw [hmm]; split <;> omega
    obtain ⟨xs, hxl, hxs⟩ := list_of (fun i (el : α) => (∀ j u, (C.enc el)[j]? = some u → W.cell? ((a.add (i * C.size)).add j) = some u) ∧ Q el) len fun i hlt => by
      obtain ⟨cs', hc, ht'⟩ := hi i (by omega)
      obtain ⟨el, rfl, hq⟩ := hel _ _ _ ht'
      obtain ⟨_, hcl, hat⟩ := World.cells?_some hc
      refine ⟨el, fun j u hu => ?_, hq⟩
      have hj : j < C.size := by have := (List.getElem?_eq_some_iff.1 hu).1; rw [C.len] at this; exact this
      rw [hat j hj, hu]
    refine ⟨some a, len, cap, xs, hxl.symm, hcs, fun hn => ?_, hl, hm, fun y hy => ?_⟩
    · obtain ⟨b, o, s⟩ := a
      have hs : s = none := by
        have hx0 : xs[0]? = some xs[0] := List.getElem?_eq_getElem hn
        have hl0 : 0 < (C.enc xs[0]).length := by rw [C.len]; exact C.pos
        have := (hxs 0 _ hx0).1 0 _ (List.getElem?_eq_getElem hl0)
        simp only [Nat.zero_mul, Addr.add, if_true] at this
        cases s with
        | none => rfl
        | some s =>
          unfold World.cell? at this
          split at this
          · simp at this
          · cases this
      subst hs
      refine ⟨b, o, rfl, fun j u hu => ?_⟩
      obtain ⟨i, j', el, rfl, hel', hu'⟩ := Cod.all_inv C xs j u hu
      have := (hxs i el hel').1 j' u hu'
      have hadd : ((⟨b, o, none⟩ : Addr).add (i * C.size)).add j' = ⟨b, o + (i * C.size + j'), none⟩ := by
        have h1 : ∀ (p q : Nat), (⟨b, p, none⟩ : Addr).add q = ⟨b, p + q, none⟩ := fun p q => by unfold Addr.add; split <;> simp_all
        rw [h1, h1, Nat.add_assoc]
      rw [hadd] at this
      exact this
    · obtain ⟨i, hi', he⟩ := List.getElem_of_mem hy
      exact (hxs i y (by rw [← he]; exact List.getElem?_eq_getElem hi')).2
variable {W : World} {base : Nat} {sp : Nat → Bool} {held : Bool} {r : Reach} {b0 : Nat} {t : TypeId} {v : Value} {d : DataW H} {p : List MemPlace}
theorem top_struct {fs : Array Field} (ht : P.underlying t = some (.struct fs)) (hv : Value.okWide P W r b0 t v) (h : DataW.Trod enc P W base sp held t v d p) : ∃ cs : List Value, v = .agg cs.toArray ∧ ∃ n y, DataW.trod enc P W base sp held n t cs = some y := by
  obtain ⟨cs, rfl, _⟩ := okWide_struct ht hv
  obtain ⟨fuel, hf⟩ := h
  exact ⟨cs.toList, by simp, fuel, _, hf⟩
theorem top_int {k : IntKind} (ht : P.underlying t = some (.int k)) (hv : Value.okWide P W r b0 t v) (h : DataW.Trod enc P W base sp held t v d p) : ∃ u, v = u ∧ ∃ n y, DataW.trod enc P W base sp held n t [u] = some y := by
  obtain ⟨s, rfl⟩ := okWide_int ht hv
  obtain ⟨fuel, hf⟩ := h
  exact ⟨_, rfl, fuel, _, hf⟩
end
section
variable {H : Type} {enc : TypeId × Value → H} {W : World} {base : Nat} {sp : Nat → Bool} {held : Bool}
theorem ct3 : Try.prog.cellsOf 3 = 1 := by kernel_rfl
set_option maxRecDepth 100000 in
theorem ot3 (n : Nat) (cs : List Value) (y) (h : DataW.trod enc Try.prog W base sp held n 3 cs = some y) : ∃ (x0 : Int), cs = [.int .i64 x0] ∧ wf64 x0 := by
  obtain ⟨z, rfl, _, wz⟩ := DataW.trod_int Try.underlying3 h
  exact ⟨z, rfl, wf64_of wz⟩
theorem ct36 : Try.prog.cellsOf 36 = 4 := by kernel_rfl
set_option maxRecDepth 100000 in
theorem ot36 (n : Nat) (cs : List Value) (y) (h : DataW.trod enc Try.prog W base sp held n 36 cs = some y) : ∃ (x0 : Int) (x1 : Int) (x2 : Int) (x3 : Int), cs = [.int .i64 x0, .int .i64 x1, .int .i64 x2, .int .i64 x3] ∧ wf64 x0 ∧ wf64 x1 ∧ wf64 x2 ∧ wf64 x3 := by
  obtain ⟨ys, m, _, _, hl, hyl, hf⟩ := DataW.trod_array Try.underlying36 h
  obtain ⟨p0x0, e0, p0f0⟩ := ot3 _ _ _ ((hf 0 (by decide)).trans (List.getElem?_eq_getElem (show 0 < ys.length by rw [hyl]; decide)))
  change List.take (Try.prog.cellsOf 3) (List.drop (0 * Try.prog.cellsOf 3) cs) = _ at e0
  rw [ct3] at e0
  obtain ⟨p1x0, e1, p1f0⟩ := ot3 _ _ _ ((hf 1 (by decide)).trans (List.getElem?_eq_getElem (show 1 < ys.length by rw [hyl]; decide)))
  change List.take (Try.prog.cellsOf 3) (List.drop (1 * Try.prog.cellsOf 3) cs) = _ at e1
  rw [ct3] at e1
  obtain ⟨p2x0, e2, p2f0⟩ := ot3 _ _ _ ((hf 2 (by decide)).trans (List.getElem?_eq_getElem (show 2 < ys.length by rw [hyl]; decide)))
  change List.take (Try.prog.cellsOf 3) (List.drop (2 * Try.prog.cellsOf 3) cs) = _ at e2
  rw [ct3] at e2
  obtain ⟨p3x0, e3, p3f0⟩ := ot3 _ _ _ ((hf 3 (by decide)).trans (List.getElem?_eq_getElem (show 3 < ys.length by rw [hyl]; decide)))
  change List.take (Try.prog.cellsOf 3) (List.drop (3 * Try.prog.cellsOf 3) cs) = _ at e3
  rw [ct3] at e3
  have hcs : cs = _ := List.drop_zero.symm.trans ((peel (i := 0) (k := 1) rfl e0).trans (congrArg _ ((peel (i := 1) (k := 1) rfl e1).trans (congrArg _ ((peel (i := 2) (k := 1) rfl e2).trans (congrArg _ ((peel (i := 3) (k := 1) rfl e3).trans (congrArg _ (drop_all (k := 4) (hl.trans ct36))))))))))
  exact ⟨p0x0, p1x0, p2x0, p3x0, hcs, p0f0, p1f0, p2f0, p3f0⟩
theorem ct106 : Try.prog.cellsOf 106 = 2 := by kernel_rfl
set_option maxRecDepth 100000 in
theorem ot106 (n : Nat) (cs : List Value) (y) (h : DataW.trod enc Try.prog W base sp held n 106 cs = some y) : ∃ (x0 : Int) (x1 : Int), cs = [.int .i64 x0, .int .i64 x1] ∧ wf64 x0 ∧ wf64 x1 := by
  obtain ⟨ys, m, _, _, hl, hyl, hf⟩ := DataW.trod_struct Try.underlying106 h
  obtain ⟨p0x0, e0, p0f0⟩ := ot3 _ _ _ ((hf 0 _ rfl).trans (List.getElem?_eq_getElem (show 0 < ys.length by rw [hyl]; decide)))
  change List.take (Try.prog.cellsOf 3) (List.drop 0 cs) = _ at e0
  rw [ct3] at e0
  obtain ⟨p1x0, e1, p1f0⟩ := ot3 _ _ _ ((hf 1 _ rfl).trans (List.getElem?_eq_getElem (show 1 < ys.length by rw [hyl]; decide)))
  change List.take (Try.prog.cellsOf 3) (List.drop 1 cs) = _ at e1
  rw [ct3] at e1
  have hcs : cs = _ := List.drop_zero.symm.trans ((peel (i := 0) (k := 1) rfl e0).trans (congrArg _ ((peel (i := 1) (k := 1) rfl e1).trans (congrArg _ (drop_all (k := 2) (hl.trans ct106))))))
  exact ⟨p0x0, p1x0, hcs, p0f0, p1f0⟩
theorem ct37 : Try.prog.cellsOf 37 = 1 := by kernel_rfl
set_option maxRecDepth 100000 in
theorem ot37 (n : Nat) (cs : List Value) (y) (h : DataW.trod enc Try.prog W base sp held n 37 cs = some y) : ∃ (x0 : List (Int × Int)) (A0 : Option Addr) (c0 : Nat), cs = [.slice A0 x0.length c0] ∧ (SL W cII A0 x0 ∧ x0.length ≤ c0 ∧ c0 ≤ maxLen ∧ ∀ y ∈ x0, wf64 y.1 ∧ wf64 y.2) := by
  obtain ⟨A, n, c, xs, rfl, rfl, hr, hnc, hc, hq⟩ := open_codQ (C := cII) (Q := fun y => wf64 y.1 ∧ wf64 y.2) Try.underlying37 (by kernel_rfl) (fun n cs' y h => by
    obtain ⟨ex0, ex1, rfl, ef0, ef1⟩ := ot106 n cs' y h
    exact ⟨(ex0, ex1), rfl, ef0, ef1⟩) h
  exact ⟨xs, A, c, rfl, hr, hnc, hc, hq⟩
theorem ct38 : Try.prog.cellsOf 38 = 3 := by kernel_rfl
set_option maxRecDepth 100000 in
theorem ot38 (n : Nat) (cs : List Value) (y) (h : DataW.trod enc Try.prog W base sp held n 38 cs = some y) : ∃ (x0 : Int) (x1 : Int) (x2 : Int), cs = [.int .i64 x0, .int .i64 x1, .int .i64 x2] ∧ wf64 x0 ∧ wf64 x1 ∧ wf64 x2 := by
  obtain ⟨ys, m, _, _, hl, hyl, hf⟩ := DataW.trod_array Try.underlying38 h
  obtain ⟨p0x0, e0, p0f0⟩ := ot3 _ _ _ ((hf 0 (by decide)).trans (List.getElem?_eq_getElem (show 0 < ys.length by rw [hyl]; decide)))
  change List.take (Try.prog.cellsOf 3) (List.drop (0 * Try.prog.cellsOf 3) cs) = _ at e0
  rw [ct3] at e0
  obtain ⟨p1x0, e1, p1f0⟩ := ot3 _ _ _ ((hf 1 (by decide)).trans (List.getElem?_eq_getElem (show 1 < ys.length by rw [hyl]; decide)))
  change List.take (Try.prog.cellsOf 3) (List.drop (1 * Try.prog.cellsOf 3) cs) = _ at e1
  rw [ct3] at e1
  obtain ⟨p2x0, e2, p2f0⟩ := ot3 _ _ _ ((hf 2 (by decide)).trans (List.getElem?_eq_getElem (show 2 < ys.length by rw [hyl]; decide)))
  change List.take (Try.prog.cellsOf 3) (List.drop (2 * Try.prog.cellsOf 3) cs) = _ at e2
  rw [ct3] at e2
  have hcs : cs = _ := List.drop_zero.symm.trans ((peel (i := 0) (k := 1) rfl e0).trans (congrArg _ ((peel (i := 1) (k := 1) rfl e1).trans (congrArg _ ((peel (i := 2) (k := 1) rfl e2).trans (congrArg _ (drop_all (k := 3) (hl.trans ct38))))))))
  exact ⟨p0x0, p1x0, p2x0, hcs, p0f0, p1f0, p2f0⟩
theorem ct39 : Try.prog.cellsOf 39 = 9 := by kernel_rfl
set_option maxRecDepth 100000 in
theorem ot39 (n : Nat) (cs : List Value) (y) (h : DataW.trod enc Try.prog W base sp held n 39 cs = some y) : ∃ (x0 : Int) (x1 : Int) (x2 : Int) (x3 : Int) (x4 : Int) (x5 : Int) (x6 : Int) (x7 : Int) (x8 : Int), cs = [.int .i64 x0, .int .i64 x1, .int .i64 x2, .int .i64 x3, .int .i64 x4, .int .i64 x5, .int .i64 x6, .int .i64 x7, .int .i64 x8] ∧ wf64 x0 ∧ wf64 x1 ∧ wf64 x2 ∧ wf64 x3 ∧ wf64 x4 ∧ wf64 x5 ∧ wf64 x6 ∧ wf64 x7 ∧ wf64 x8 := by
  obtain ⟨ys, m, _, _, hl, hyl, hf⟩ := DataW.trod_array Try.underlying39 h
  obtain ⟨p0x0, e0, p0f0⟩ := ot3 _ _ _ ((hf 0 (by decide)).trans (List.getElem?_eq_getElem (show 0 < ys.length by rw [hyl]; decide)))
  change List.take (Try.prog.cellsOf 3) (List.drop (0 * Try.prog.cellsOf 3) cs) = _ at e0
  rw [ct3] at e0
  obtain ⟨p1x0, e1, p1f0⟩ := ot3 _ _ _ ((hf 1 (by decide)).trans (List.getElem?_eq_getElem (show 1 < ys.length by rw [hyl]; decide)))
  change List.take (Try.prog.cellsOf 3) (List.drop (1 * Try.prog.cellsOf 3) cs) = _ at e1
  rw [ct3] at e1
  obtain ⟨p2x0, e2, p2f0⟩ := ot3 _ _ _ ((hf 2 (by decide)).trans (List.getElem?_eq_getElem (show 2 < ys.length by rw [hyl]; decide)))
  change List.take (Try.prog.cellsOf 3) (List.drop (2 * Try.prog.cellsOf 3) cs) = _ at e2
  rw [ct3] at e2
  obtain ⟨p3x0, e3, p3f0⟩ := ot3 _ _ _ ((hf 3 (by decide)).trans (List.getElem?_eq_getElem (show 3 < ys.length by rw [hyl]; decide)))
  change List.take (Try.prog.cellsOf 3) (List.drop (3 * Try.prog.cellsOf 3) cs) = _ at e3
  rw [ct3] at e3
  obtain ⟨p4x0, e4, p4f0⟩ := ot3 _ _ _ ((hf 4 (by decide)).trans (List.getElem?_eq_getElem (show 4 < ys.length by rw [hyl]; decide)))
  change List.take (Try.prog.cellsOf 3) (List.drop (4 * Try.prog.cellsOf 3) cs) = _ at e4
  rw [ct3] at e4
  obtain ⟨p5x0, e5, p5f0⟩ := ot3 _ _ _ ((hf 5 (by decide)).trans (List.getElem?_eq_getElem (show 5 < ys.length by rw [hyl]; decide)))
  change List.take (Try.prog.cellsOf 3) (List.drop (5 * Try.prog.cellsOf 3) cs) = _ at e5
  rw [ct3] at e5
  obtain ⟨p6x0, e6, p6f0⟩ := ot3 _ _ _ ((hf 6 (by decide)).trans (List.getElem?_eq_getElem (show 6 < ys.length by rw [hyl]; decide)))
  change List.take (Try.prog.cellsOf 3) (List.drop (6 * Try.prog.cellsOf 3) cs) = _ at e6
  rw [ct3] at e6
  obtain ⟨p7x0, e7, p7f0⟩ := ot3 _ _ _ ((hf 7 (by decide)).trans (List.getElem?_eq_getElem (show 7 < ys.length by rw [hyl]; decide)))
  change List.take (Try.prog.cellsOf 3) (List.drop (7 * Try.prog.cellsOf 3) cs) = _ at e7
  rw [ct3] at e7
  obtain ⟨p8x0, e8, p8f0⟩ := ot3 _ _ _ ((hf 8 (by decide)).trans (List.getElem?_eq_getElem (show 8 < ys.length by rw [hyl]; decide)))
  change List.take (Try.prog.cellsOf 3) (List.drop (8 * Try.prog.cellsOf 3) cs) = _ at e8
  rw [ct3] at e8
  have hcs : cs = _ := List.drop_zero.symm.trans ((peel (i := 0) (k := 1) rfl e0).trans (congrArg _ ((peel (i := 1) (k := 1) rfl e1).trans (congrArg _ ((peel (i := 2) (k := 1) rfl e2).trans (congrArg _ ((peel (i := 3) (k := 1) rfl e3).trans (congrArg _ ((peel (i := 4) (k := 1) rfl e4).trans (congrArg _ ((peel (i := 5) (k := 1) rfl e5).trans (congrArg _ ((peel (i := 6) (k := 1) rfl e6).trans (congrArg _ ((peel (i := 7) (k := 1) rfl e7).trans (congrArg _ ((peel (i := 8) (k := 1) rfl e8).trans (congrArg _ (drop_all (k := 9) (hl.trans ct39))))))))))))))))))))
  exact ⟨p0x0, p1x0, p2x0, p3x0, p4x0, p5x0, p6x0, p7x0, p8x0, hcs, p0f0, p1f0, p2f0, p3f0, p4f0, p5f0, p6f0, p7f0, p8f0⟩
theorem ct70 : Try.prog.cellsOf 70 = 2 := by kernel_rfl
set_option maxRecDepth 100000 in
theorem ot70 (n : Nat) (cs : List Value) (y) (h : DataW.trod enc Try.prog W base sp held n 70 cs = some y) : ∃ (x0 : Int) (x1 : Int), cs = [.int .i64 x0, .int .i64 x1] ∧ wf64 x0 ∧ wf64 x1 := by
  obtain ⟨ys, m, _, _, hl, hyl, hf⟩ := DataW.trod_struct Try.underlying70 h
  obtain ⟨p0x0, e0, p0f0⟩ := ot3 _ _ _ ((hf 0 _ rfl).trans (List.getElem?_eq_getElem (show 0 < ys.length by rw [hyl]; decide)))
  change List.take (Try.prog.cellsOf 3) (List.drop 0 cs) = _ at e0
  rw [ct3] at e0
  obtain ⟨p1x0, e1, p1f0⟩ := ot3 _ _ _ ((hf 1 _ rfl).trans (List.getElem?_eq_getElem (show 1 < ys.length by rw [hyl]; decide)))
  change List.take (Try.prog.cellsOf 3) (List.drop 1 cs) = _ at e1
  rw [ct3] at e1
  have hcs : cs = _ := List.drop_zero.symm.trans ((peel (i := 0) (k := 1) rfl e0).trans (congrArg _ ((peel (i := 1) (k := 1) rfl e1).trans (congrArg _ (drop_all (k := 2) (hl.trans ct70))))))
  exact ⟨p0x0, p1x0, hcs, p0f0, p1f0⟩
theorem ct40 : Try.prog.cellsOf 40 = 1 := by kernel_rfl
set_option maxRecDepth 100000 in
theorem ot40 (n : Nat) (cs : List Value) (y) (h : DataW.trod enc Try.prog W base sp held n 40 cs = some y) : ∃ (x0 : List (Int × Int)) (A0 : Option Addr) (c0 : Nat), cs = [.slice A0 x0.length c0] ∧ (SL W cII A0 x0 ∧ x0.length ≤ c0 ∧ c0 ≤ maxLen ∧ ∀ y ∈ x0, wf64 y.1 ∧ wf64 y.2) := by
  obtain ⟨A, n, c, xs, rfl, rfl, hr, hnc, hc, hq⟩ := open_codQ (C := cII) (Q := fun y => wf64 y.1 ∧ wf64 y.2) Try.underlying40 (by kernel_rfl) (fun n cs' y h => by
    obtain ⟨ex0, ex1, rfl, ef0, ef1⟩ := ot70 n cs' y h
    exact ⟨(ex0, ex1), rfl, ef0, ef1⟩) h
  exact ⟨xs, A, c, rfl, hr, hnc, hc, hq⟩
theorem ct42 : Try.prog.cellsOf 42 = 21 := by kernel_rfl
set_option maxRecDepth 100000 in
theorem ot42 (n : Nat) (cs : List Value) (y) (h : DataW.trod enc Try.prog W base sp held n 42 cs = some y) : ∃ (x0 : Int) (x1 : Int) (x2 : Int) (x3 : Int) (x4 : Int) (x5 : Int) (x6 : List (Int × Int)) (A6 : Option Addr) (c6 : Nat) (x7 : Int) (x8 : Int) (x9 : Int) (x10 : Int) (x11 : Int) (x12 : Int) (x13 : Int) (x14 : Int) (x15 : Int) (x16 : Int) (x17 : Int) (x18 : Int) (x19 : List (Int × Int)) (A19 : Option Addr) (c19 : Nat) (x20 : Int), cs = [.int .i64 x0, .int .i64 x1, .int .i64 x2, .int .i64 x3, .int .i64 x4, .int .i64 x5, .slice A6 x6.length c6, .int .i64 x7, .int .i64 x8, .int .i64 x9, .int .i64 x10, .int .i64 x11, .int .i64 x12, .int .i64 x13, .int .i64 x14, .int .i64 x15, .int .i64 x16, .int .i64 x17, .int .i64 x18, .slice A19 x19.length c19, .int .i64 x20] ∧ wf64 x0 ∧ wf64 x1 ∧ wf64 x2 ∧ wf64 x3 ∧ wf64 x4 ∧ wf64 x5 ∧ (SL W cII A6 x6 ∧ x6.length ≤ c6 ∧ c6 ≤ maxLen ∧ ∀ y ∈ x6, wf64 y.1 ∧ wf64 y.2) ∧ wf64 x7 ∧ wf64 x8 ∧ wf64 x9 ∧ wf64 x10 ∧ wf64 x11 ∧ wf64 x12 ∧ wf64 x13 ∧ wf64 x14 ∧ wf64 x15 ∧ wf64 x16 ∧ wf64 x17 ∧ wf64 x18 ∧ (SL W cII A19 x19 ∧ x19.length ≤ c19 ∧ c19 ≤ maxLen ∧ ∀ y ∈ x19, wf64 y.1 ∧ wf64 y.2) ∧ wf64 x20 := by
  obtain ⟨ys, m, _, _, hl, hyl, hf⟩ := DataW.trod_struct Try.underlying42 h
  obtain ⟨p0x0, e0, p0f0⟩ := ot3 _ _ _ ((hf 0 _ rfl).trans (List.getElem?_eq_getElem (show 0 < ys.length by rw [hyl]; decide)))
  change List.take (Try.prog.cellsOf 3) (List.drop 0 cs) = _ at e0
  rw [ct3] at e0
  obtain ⟨p1x0, p1x1, p1x2, p1x3, e1, p1f0, p1f1, p1f2, p1f3⟩ := ot36 _ _ _ ((hf 1 _ rfl).trans (List.getElem?_eq_getElem (show 1 < ys.length by rw [hyl]; decide)))
  change List.take (Try.prog.cellsOf 36) (List.drop 1 cs) = _ at e1
  rw [ct36] at e1
  obtain ⟨p2x0, e2, p2f0⟩ := ot3 _ _ _ ((hf 2 _ rfl).trans (List.getElem?_eq_getElem (show 2 < ys.length by rw [hyl]; decide)))
  change List.take (Try.prog.cellsOf 3) (List.drop 5 cs) = _ at e2
  rw [ct3] at e2
  obtain ⟨p3x0, p3A0, p3c0, e3, p3f0⟩ := ot37 _ _ _ ((hf 3 _ rfl).trans (List.getElem?_eq_getElem (show 3 < ys.length by rw [hyl]; decide)))
  change List.take (Try.prog.cellsOf 37) (List.drop 6 cs) = _ at e3
  rw [ct37] at e3
  obtain ⟨p4x0, p4x1, p4x2, e4, p4f0, p4f1, p4f2⟩ := ot38 _ _ _ ((hf 4 _ rfl).trans (List.getElem?_eq_getElem (show 4 < ys.length by rw [hyl]; decide)))
  change List.take (Try.prog.cellsOf 38) (List.drop 7 cs) = _ at e4
  rw [ct38] at e4
  obtain ⟨p5x0, p5x1, p5x2, p5x3, p5x4, p5x5, p5x6, p5x7, p5x8, e5, p5f0, p5f1, p5f2, p5f3, p5f4, p5f5, p5f6, p5f7, p5f8⟩ := ot39 _ _ _ ((hf 5 _ rfl).trans (List.getElem?_eq_getElem (show 5 < ys.length by rw [hyl]; decide)))
  change List.take (Try.prog.cellsOf 39) (List.drop 10 cs) = _ at e5
  rw [ct39] at e5
  obtain ⟨p6x0, p6A0, p6c0, e6, p6f0⟩ := ot40 _ _ _ ((hf 6 _ rfl).trans (List.getElem?_eq_getElem (show 6 < ys.length by rw [hyl]; decide)))
  change List.take (Try.prog.cellsOf 40) (List.drop 19 cs) = _ at e6
  rw [ct40] at e6
  obtain ⟨p7x0, e7, p7f0⟩ := ot3 _ _ _ ((hf 7 _ rfl).trans (List.getElem?_eq_getElem (show 7 < ys.length by rw [hyl]; decide)))
  change List.take (Try.prog.cellsOf 3) (List.drop 20 cs) = _ at e7
  rw [ct3] at e7
  have hcs : cs = _ := List.drop_zero.symm.trans ((peel (i := 0) (k := 1) rfl e0).trans (congrArg _ ((peel (i := 1) (k := 4) rfl e1).trans (congrArg _ ((peel (i := 5) (k := 1) rfl e2).trans (congrArg _ ((peel (i := 6) (k := 1) rfl e3).trans (congrArg _ ((peel (i := 7) (k := 3) rfl e4).trans (congrArg _ ((peel (i := 10) (k := 9) rfl e5).trans (congrArg _ ((peel (i := 19) (k := 1) rfl e6).trans (congrArg _ ((peel (i := 20) (k := 1) rfl e7).trans (congrArg _ (drop_all (k := 21) (hl.trans ct42))))))))))))))))))
  exact ⟨p0x0, p1x0, p1x1, p1x2, p1x3, p2x0, p3x0, p3A0, p3c0, p4x0, p4x1, p4x2, p5x0, p5x1, p5x2, p5x3, p5x4, p5x5, p5x6, p5x7, p5x8, p6x0, p6A0, p6c0, p7x0, hcs, p0f0, p1f0, p1f1, p1f2, p1f3, p2f0, p3f0, p4f0, p4f1, p4f2, p5f0, p5f1, p5f2, p5f3, p5f4, p5f5, p5f6, p5f7, p5f8, p6f0, p7f0⟩
theorem ct43 : Try.prog.cellsOf 43 = 1 := by kernel_rfl
set_option maxRecDepth 100000 in
theorem ot43 (n : Nat) (cs : List Value) (y) (h : DataW.trod enc Try.prog W base sp held n 43 cs = some y) : ∃ (x0 : List Int) (A0 : Option Addr) (c0 : Nat), cs = [.slice A0 x0.length c0] ∧ (SL W (cI .i64) A0 x0 ∧ x0.length ≤ c0 ∧ c0 ≤ maxLen ∧ ∀ y ∈ x0, wf64 y) := by
  obtain ⟨A, n, c, xs, rfl, rfl, hr, hnc, hc, hq⟩ := open_codQ (C := (cI .i64)) (Q := fun y => wf64 y) Try.underlying43 (by kernel_rfl) (fun n cs' y h => by
    obtain ⟨ex0, rfl, ef0⟩ := ot3 n cs' y h
    exact ⟨ex0, rfl, ef0⟩) h
  exact ⟨xs, A, c, rfl, hr, hnc, hc, hq⟩
theorem ct45 : Try.prog.cellsOf 45 = 3 := by kernel_rfl
set_option maxRecDepth 100000 in
theorem ot45 (n : Nat) (cs : List Value) (y) (h : DataW.trod enc Try.prog W base sp held n 45 cs = some y) : ∃ (x0 : Int) (x1 : Int) (x2 : List Int) (A2 : Option Addr) (c2 : Nat), cs = [.int .i64 x0, .int .i64 x1, .slice A2 x2.length c2] ∧ wf64 x0 ∧ wf64 x1 ∧ (SL W (cI .i64) A2 x2 ∧ x2.length ≤ c2 ∧ c2 ≤ maxLen ∧ ∀ y ∈ x2, wf64 y) := by
  obtain ⟨ys, m, _, _, hl, hyl, hf⟩ := DataW.trod_struct Try.underlying45 h
  obtain ⟨p0x0, e0, p0f0⟩ := ot3 _ _ _ ((hf 0 _ rfl).trans (List.getElem?_eq_getElem (show 0 < ys.length by rw [hyl]; decide)))
  change List.take (Try.prog.cellsOf 3) (List.drop 0 cs) = _ at e0
  rw [ct3] at e0
  obtain ⟨p1x0, e1, p1f0⟩ := ot3 _ _ _ ((hf 1 _ rfl).trans (List.getElem?_eq_getElem (show 1 < ys.length by rw [hyl]; decide)))
  change List.take (Try.prog.cellsOf 3) (List.drop 1 cs) = _ at e1
  rw [ct3] at e1
  obtain ⟨p2x0, p2A0, p2c0, e2, p2f0⟩ := ot43 _ _ _ ((hf 2 _ rfl).trans (List.getElem?_eq_getElem (show 2 < ys.length by rw [hyl]; decide)))
  change List.take (Try.prog.cellsOf 43) (List.drop 2 cs) = _ at e2
  rw [ct43] at e2
  have hcs : cs = _ := List.drop_zero.symm.trans ((peel (i := 0) (k := 1) rfl e0).trans (congrArg _ ((peel (i := 1) (k := 1) rfl e1).trans (congrArg _ ((peel (i := 2) (k := 1) rfl e2).trans (congrArg _ (drop_all (k := 3) (hl.trans ct45))))))))
  exact ⟨p0x0, p1x0, p2x0, p2A0, p2c0, hcs, p0f0, p1f0, p2f0⟩
end
end Go.Proofs.Ytpmnfhifmmfglab

namespace Go.Proofs.Ytpmnfhifmmfglab
open Go
def arU (W x y v : Int) : Nat → Int → List (Int × Int)
  | 0, _ => []
  | k + 1, u => if u ≤ x + 1 ∧ u < W then (if u ≠ x ∨ v ≠ y then (u, v) :: arU W x y v k (u + 1) else arU W x y v k (u + 1)) else []
def arV (W H x y : Int) : Nat → Int → List (Int × Int)
  | 0, _ => []
  | k + 1, v => if v ≤ y + 1 ∧ v < H then arU W x y v 4 (max (x - 1) 0) ++ arV W H x y k (v + 1) else []
def aroundL (W H x y : Int) : List (Int × Int) := arV W H x y 4 (max (y - 1) 0)
abbrev InP (W H : Int) := { q : Int × Int // 0 ≤ q.1 ∧ q.1 < W ∧ 0 ≤ q.2 ∧ q.2 < H }
def pixC (W H : Int) (P : List Int) (x y : Int) : Prop := 0 ≤ x ∧ x < W ∧ W ≤ 64 ∧ 0 ≤ y ∧ y < H ∧ H ≤ 64 ∧ (P.length : Int) = W * H
instance (W H : Int) (P : List Int) (x y : Int) : Decidable (pixC W H P x y) := by unfold pixC; infer_instance
theorem cond_some {p : Prop} [Decidable p] {α : Type} {x : Option α} {r : α} (h : cond (decide p) x none = some r) : p ∧ x = some r := by
  by_cases hp : p
  · rw [decide_eq_true hp] at h; exact ⟨hp, h⟩
  · rw [decide_eq_false hp] at h; cases h
end Go.Proofs.Ytpmnfhifmmfglab

namespace Go.Proofs.Ytpmnfhifmmfglab
def okS (x : Int) : Bool := decide (0 ≤ x) && decide (x ≤ 65535)
def sideOk (W H : Int) : Prop := 1 ≤ W ∧ W ≤ 64 ∧ 1 ≤ H ∧ H ≤ 64
instance (W H : Int) : Decidable (sideOk W H) := by unfold sideOk; infer_instance
def planeFine (W H : Int) (xs : List Int) : Bool := decide (sideOk W H) && decide ((xs.length : Int) = W * H) && xs.all okS
theorem okS_of {x : Int} (h : okS x = true) : 0 ≤ x ∧ x ≤ 65535 := by simpa [okS] using h
theorem planeFine_iff {W H : Int} {xs : List Int} : planeFine W H xs = true ↔ sideOk W H ∧ (xs.length : Int) = W * H ∧ xs.all okS = true := by
  simp [planeFine, and_assoc]
theorem mul_side {W H : Int} (h : sideOk W H) : 0 ≤ W * H ∧ W * H ≤ 4096 := by
  obtain ⟨h1, h2, h3, h4⟩ := h
  exact ⟨Int.mul_nonneg (by omega) (by omega), Int.mul_le_mul h2 h4 (by omega) (by omega)⟩
end Go.Proofs.Ytpmnfhifmmfglab

namespace Go.Proofs.Ytpmnfhifmmfglab
open Go
/-- The four places that are asked of a spot at (x, y). -/
def nbX (x : Int) (k : Nat) : Int := [x - 2, x + 2, x, x].getD k 0
def nbY (y : Int) (k : Nat) : Int := [y, y, y - 2, y + 2].getD k 0
def nbOk (W H : Int) (f : Int → Int → Int) (x y : Int) (k : Nat) : Prop := 0 ≤ nbX x k ∧ nbX x k < W ∧ 0 ≤ nbY y k ∧ nbY y k < H ∧ f (nbX x k) (nbY y k) = 0
instance (W H : Int) (f : Int → Int → Int) (x y : Int) (k : Nat) : Decidable (nbOk W H f x y k) := by unfold nbOk; infer_instance
def nbVal (W : Int) (xs : List Int) (x y : Int) (k : Nat) : Int := xs.getD (nbY y k * W + nbX x k).toNat 0
def nbSum (W H : Int) (f : Int → Int → Int) (xs : List Int) (x y : Int) : Nat → Int
  | 0 => 0
  | k + 1 => nbSum W H f xs x y k + if nbOk W H f x y k then nbVal W xs x y k else 0
def nbCnt (W H : Int) (f : Int → Int → Int) (x y : Int) : Nat → Int
  | 0 => 0
  | k + 1 => nbCnt W H f x y k + if nbOk W H f x y k then 1 else 0
def repairV (W H : Int) (f : Int → Int → Int) (xs : List Int) (v x y : Int) : Int :=
  if f x y = 0 then v else if nbCnt W H f x y 4 = 0 then 0 else nbSum W H f xs x y 4 / nbCnt W H f x y 4
def spotOk (W H : Int) (s : Int × Int) : Bool := decide (0 ≤ s.1) && decide (s.1 < W) && decide (0 ≤ s.2) && decide (s.2 < H)
def cntF (l : List (Int × Int)) (x y : Int) : Int := (l.count (x, y) : Nat)
def repairL (W H : Int) (l : List (Int × Int)) (xs : List Int) (k : Nat) : Int := min (repairV W H (cntF l) xs (xs.getD k 0) ((k : Int) % W) ((k : Int) / W)) 65535
/-- The plain program of sensor.Repair: typed by hand (the function keeps a map). -/
def D_sensor_Repair (N : Nat) (W : Int) (H : Int) (P : List Int) (l : List (Int × Int)) : Option (Int × Int × List Int × Int) :=
  if 9223372036854775807 < P.length then none
  else if planeFine W H P = false then some (0, 0, [], 1)
  else if 64 < l.length then some (0, 0, [], 2)
  else if l.all (spotOk W H) = false then some (0, 0, [], 3)
  else some (W, H, (List.range P.length).map (repairL W H l P), 0)
end Go.Proofs.Ytpmnfhifmmfglab

namespace Go.Proofs.Ytpmnfhifmmfglab
/-- A slice that has elements is not nil. -/
def ne0 {α : Type} (xs : List α) : Option Unit := match xs with | [] => none | _ => some ()
theorem ne0_spec {α : Type} {xs : List α} {u : Unit} (h : ne0 xs = some u) : 0 < xs.length := by cases xs <;> simp_all [ne0]
end Go.Proofs.Ytpmnfhifmmfglab

namespace Go.Proofs.Ytpmnfhifmmfglab
def D_line_in_1 (N : Nat) (n : Int) (v0 : Int) (v1 : Int) : Option Bool :=
  cond (decide (n < v0)) (
  some true) (
  some (decide (v1 < n)))
def D_slices_IndexFunc__int_int__line_in_1_l1 (N : Nat) (s : List Int) (in_1_0 : Int) (in_1_1 : Int) (kk : Int → Option Int) : Nat → Int → Option Int
  | 0, _ => none
  | fuel + 1, i =>
    cond (decide (i < (s.length : Int))) (
    Option.bind (idx s i) fun e2 =>
    Option.bind (D_line_in_1 N e2 in_1_0 in_1_1) fun r3 =>
    cond (r3) (
    some i) (
    D_slices_IndexFunc__int_int__line_in_1_l1 N s in_1_0 in_1_1 kk fuel (IntKind.i64.wrap (i + 1)))) (
    kk i)
def D_slices_IndexFunc__int_int__line_in_1 (N : Nat) (s : List Int) (in_1_0 : Int) (in_1_1 : Int) : Option Int :=
  D_slices_IndexFunc__int_int__line_in_1_l1 N s in_1_0 in_1_1 (fun i2 =>
  some ((-1))) N 0
def D_slices_ContainsFunc__int_int__line_in_1 (N : Nat) (s : List Int) (in_1_0 : Int) (in_1_1 : Int) : Option Bool :=
  Option.bind (D_slices_IndexFunc__int_int__line_in_1 N s in_1_0 in_1_1) fun r2 =>
  some (decide (0 ≤ r2))
def D_line_in (N : Nat) (low : Int) (high : Int) (l2 : List Int) : Option Bool :=
  Option.bind (D_slices_ContainsFunc__int_int__line_in_1 N l2 low high) fun r2 =>
  some (!(r2))
def D_line_spots_1 (N : Nat) (s_X : Int) (s_Y : Int) (v0 : Int) (v1 : Int) : Option Bool :=
  Option.bind (D_line_in N 0 (IntKind.i64.wrap (v0 - 1)) ([s_X] : List Int)) fun r2 =>
  cond (!(r2)) (
  some true) (
  Option.bind (D_line_in N 0 (IntKind.i64.wrap (v1 - 1)) ([s_Y] : List Int)) fun r3 =>
  some (!(r3)))
def D_slices_IndexFunc__api_Spot_api_Spot__line_spots_1_l1 (N : Nat) (s : List (Int × Int)) (spots_1_0 : Int) (spots_1_1 : Int) (kk : Int → Option Int) : Nat → Int → Option Int
  | 0, _ => none
  | fuel + 1, i =>
    cond (decide (i < (s.length : Int))) (
    Option.bind (idx s i) fun e2 =>
    Option.bind (D_line_spots_1 N e2.1 e2.2 spots_1_0 spots_1_1) fun r3 =>
    cond (r3) (
    some i) (
    D_slices_IndexFunc__api_Spot_api_Spot__line_spots_1_l1 N s spots_1_0 spots_1_1 kk fuel (IntKind.i64.wrap (i + 1)))) (
    kk i)
def D_slices_IndexFunc__api_Spot_api_Spot__line_spots_1 (N : Nat) (s : List (Int × Int)) (spots_1_0 : Int) (spots_1_1 : Int) : Option Int :=
  D_slices_IndexFunc__api_Spot_api_Spot__line_spots_1_l1 N s spots_1_0 spots_1_1 (fun i2 =>
  some ((-1))) N 0
def D_slices_ContainsFunc__api_Spot_api_Spot__line_spots_1 (N : Nat) (s : List (Int × Int)) (spots_1_0 : Int) (spots_1_1 : Int) : Option Bool :=
  Option.bind (D_slices_IndexFunc__api_Spot_api_Spot__line_spots_1 N s spots_1_0 spots_1_1) fun r2 =>
  some (decide (0 ≤ r2))
def D_line_spots (N : Nat) (l2 : List (Int × Int)) (w2 : Int) (h2 : Int) : Option Bool :=
  Option.bind (D_slices_ContainsFunc__api_Spot_api_Spot__line_spots_1 N l2 w2 h2) fun r2 =>
  some (!(r2))
def D_tone_right_l1 (N : Nat) (d : List (Int × Int)) (l2 : List (Int × Int)) (kk : Int → Option Bool) : Nat → Int → Option Bool
  | 0, _ => none
  | fuel + 1, i =>
    cond (decide (i < (l2.length : Int))) (
    Option.bind (idx d i) fun e9 =>
    Option.bind (idx d (IntKind.i64.wrap (i + 1))) fun e10 =>
    cond (decide (e10.1 ≤ e9.1)) (
    some false) (
    Option.bind (idx d i) fun e11 =>
    Option.bind (idx d (IntKind.i64.wrap (i + 1))) fun e12 =>
    cond (decide (e12.2 < e11.2)) (
    some false) (
    D_tone_right_l1 N d l2 kk fuel (IntKind.i64.wrap (i + 1))))) (
    kk i)
def D_tone_right (N : Nat) (d : List (Int × Int)) : Option Bool :=
  cond (decide ((d.length : Int) < 2)) (
  some false) (
  cond (decide (16 < (d.length : Int))) (
  some false) (
  Option.bind (idx d 0) fun e =>
  cond (!decide (e.1 = 0)) (
  some false) (
  Option.bind (idx d (IntKind.i64.wrap ((d.length : Int) - 1))) fun e2 =>
  cond (!decide (e2.1 = 65535)) (
  some false) (
  Option.bind (idx d 0) fun e3 =>
  cond (decide (e3.2 < 0)) (
  some false) (
  Option.bind (idx d (IntKind.i64.wrap ((d.length : Int) - 1))) fun e4 =>
  cond (decide (65535 < e4.2)) (
  some false) (
  Option.bind (sli d 1 (d.length : Int)) fun l2 =>
  D_tone_right_l1 N d l2 (fun i2 =>
  some true) N 0))))))
def D_tone_on_1 (N : Nat) (i : Int) (v0 : List (Int × Int)) (v1 : Int) : Option Bool :=
  Option.bind (idx v0 i) fun e =>
  some (decide (v1 < e.1))
def D_sort_Search__tone_on_1_l1 (N : Nat) (on_1_0 : List (Int × Int)) (on_1_1 : Int) (kk : (Int × Int) → Option Int) : Nat → (Int × Int) → Option Int
  | 0, _ => none
  | fuel + 1, (i, j) =>
    cond (decide (i < j)) (
    Option.bind (some (IntKind.i64.wrap (shrI .u64 (IntKind.u64.wrap (IntKind.i64.wrap (i + j))) 1))) fun h3 =>
    Option.bind (D_tone_on_1 N h3 on_1_0 on_1_1) fun r3 =>
    cond (!(r3)) (
    Option.bind (some (IntKind.i64.wrap (h3 + 1))) fun i3 =>
    D_sort_Search__tone_on_1_l1 N on_1_0 on_1_1 kk fuel (i3, j)) (
    D_sort_Search__tone_on_1_l1 N on_1_0 on_1_1 kk fuel (i, h3))) (
    kk (i, j))
def D_sort_Search__tone_on_1 (N : Nat) (n : Int) (on_1_0 : List (Int × Int)) (on_1_1 : Int) : Option Int :=
  D_sort_Search__tone_on_1_l1 N on_1_0 on_1_1 (fun (i4, j2) =>
  some i4) N (0, n)
def D_tone_on (N : Nat) (l2 : List (Int × Int)) (x2 : Int) : Option Int :=
  Option.bind (D_sort_Search__tone_on_1 N (l2.length : Int) l2 x2) fun r2 =>
  cond (decide (r2 = (l2.length : Int))) (
  Option.bind (idx l2 (IntKind.i64.wrap (r2 - 1))) fun e =>
  some e.2) (
  Option.bind (idx l2 (IntKind.i64.wrap (r2 - 1))) fun e2 =>
  Option.bind (idx l2 r2) fun e3 =>
  Option.bind (nz (IntKind.i64.wrap (e3.1 - e2.1))) fun _ =>
  Option.bind (some (IntKind.i64.wrap (e2.2 + (IntKind.i64.wrap (Int.tdiv (IntKind.i64.wrap ((IntKind.i64.wrap (e3.2 - e2.2)) * (IntKind.i64.wrap (x2 - e2.1)))) (IntKind.i64.wrap (e3.1 - e2.1))))))) fun x3 =>
  some x3)
def D_tone_Curve (N : Nat) (l2 : List (Int × Int)) (x2 : Int) : Option (Int × Int) :=
  Option.bind (D_tone_right N l2) fun r2 =>
  cond (!(r2)) (
  some (0, 1)) (
  cond (decide (x2 < 0)) (
  some (0, 3)) (
  cond (decide (65535 < x2)) (
  some (0, 3)) (
  Option.bind (D_tone_on N l2 x2) fun r3 =>
  some (r3, 0))))
def D_line_Check (N : Nat) (na : Int) (nb0 : Int) (nb1 : Int) (nb2 : Int) (nb3 : Int) (nc : Int) (nd : List (Int × Int)) (n_Gains0 : Int) (ne1 : Int) (ne2 : Int) (nf0 : Int) (nf1 : Int) (nf2 : Int) (nf3 : Int) (nf4 : Int) (nf5 : Int) (nf6 : Int) (nf7 : Int) (nf8 : Int) (ng : List (Int × Int)) (nh : Int) : Option Int :=
  Option.bind (D_line_in N 0 3 ([na] : List Int)) fun r2 =>
  cond (!(r2)) (
  some 3) (
  Option.bind (D_line_in N 1 65535 ([nc] : List Int)) fun r3 =>
  cond (!(r3)) (
  some 3) (
  Option.bind (D_line_in N 0 (IntKind.i64.wrap (nc - 1)) ([nb0, nb1, nb2, nb3])) fun r4 =>
  cond (!(r4)) (
  some 3) (
  cond (decide (64 < (nd.length : Int))) (
  some 3) (
  Option.bind (D_line_spots N nd 64 64) fun r5 =>
  cond (!(r5)) (
  some 3) (
  Option.bind (D_line_in N 0 65535 ([n_Gains0, ne1, ne2])) fun r6 =>
  cond (!(r6)) (
  some 3) (
  Option.bind (D_line_in N (-32768) 32768 ([nf0, nf1, nf2, nf3, nf4, nf5, nf6, nf7, nf8])) fun r7 =>
  cond (!(r7)) (
  some 3) (
  Option.bind (D_line_in N 0 1024 ([nh] : List Int)) fun r8 =>
  cond (!(r8)) (
  some 3) (
  Option.bind (D_tone_Curve N ng 0) fun r9 =>
  some r9.2))))))))
def D_sensor_fine_l1 (N : Nat) (p_P : List Int) (kk : Int → Option Bool) : Nat → Int → Option Bool
  | 0, _ => none
  | fuel + 1, i =>
    cond (decide (i < (p_P.length : Int))) (
    Option.bind (idx p_P i) fun e2 =>
    cond (decide (e2 < 0)) (
    some false) (
    cond (decide (65535 < e2)) (
    some false) (
    D_sensor_fine_l1 N p_P kk fuel (IntKind.i64.wrap (i + 1))))) (
    kk i)
def D_sensor_fine (N : Nat) (p_W : Int) (p_H : Int) (p_P : List Int) : Option Bool :=
  cond (decide (p_W < 1)) (
  some false) (
  cond (decide (64 < p_W)) (
  some false) (
  cond (decide (p_H < 1)) (
  some false) (
  cond (decide (64 < p_H)) (
  some false) (
  cond (!decide ((p_P.length : Int) = (IntKind.i64.wrap (p_W * p_H)))) (
  some false) (
  D_sensor_fine_l1 N p_P (fun i2 =>
  some true) N 0)))))
def D_sensor_Level_1 (N : Nat) (n : Int) (x2 : Int) (y : Int) (v00 : Int) (v01 : Int) (v02 : Int) (v03 : Int) (v1 : Int) : Option Int :=
  Option.bind (inr (orI .i64 (shlI .i64 (andI .i64 y 1) 1) (andI .i64 x2 1)) 4) fun _ =>
  Option.bind (idx [v00, v01, v02, v03] (orI .i64 (shlI .i64 (andI .i64 y 1) 1) (andI .i64 x2 1))) fun e =>
  Option.bind (nz (IntKind.i64.wrap (v1 - e))) fun _ =>
  some (IntKind.i64.wrap (Int.tdiv (IntKind.i64.wrap ((max (IntKind.i64.wrap (n - e)) 0) * 65535)) (IntKind.i64.wrap (v1 - e))))
def D_sensor_each__sensor_Level_1_l1 (N : Nat) (p_W : Int) (p_P : List Int) (Level_1_00 : Int) (Level_1_01 : Int) (Level_1_02 : Int) (Level_1_03 : Int) (Level_1_1 : Int) (kk : (List Int × Int) → Option (Int × Int × List Int)) : Nat → (List Int × Int) → Option (Int × Int × List Int)
  | 0, _ => none
  | fuel + 1, (out_P, i) =>
    cond (decide (i < (p_P.length : Int))) (
    Option.bind (idx p_P i) fun e3 =>
    Option.bind (nz p_W) fun _ =>
    Option.bind (nz p_W) fun _ =>
    Option.bind (D_sensor_Level_1 N e3 (Int.tmod i p_W) (IntKind.i64.wrap (Int.tdiv i p_W)) Level_1_00 Level_1_01 Level_1_02 Level_1_03 Level_1_1) fun r3 =>
    Option.bind (idx out_P i) fun e4 =>
    Option.bind (setL out_P i (min r3 65535)) fun l4 =>
    D_sensor_each__sensor_Level_1_l1 N p_W p_P Level_1_00 Level_1_01 Level_1_02 Level_1_03 Level_1_1 kk fuel (l4, IntKind.i64.wrap (i + 1))) (
    kk (out_P, i))
def D_sensor_each__sensor_Level_1 (N : Nat) (p_W : Int) (p_H : Int) (p_P : List Int) (Level_1_00 : Int) (Level_1_01 : Int) (Level_1_02 : Int) (Level_1_03 : Int) (Level_1_1 : Int) : Option (Int × Int × List Int) :=
  Option.bind (some ((p_P.length : Int))) fun x2 =>
  Option.bind (mk 8 x2 (0 : Int)) fun l2 =>
  D_sensor_each__sensor_Level_1_l1 N p_W p_P Level_1_00 Level_1_01 Level_1_02 Level_1_03 Level_1_1 (fun (out_P2, i2) =>
  some (p_W, p_H, out_P2)) N (l2, 0)
def D_sensor_Level_l1 (N : Nat) (black0 : Int) (black1 : Int) (black2 : Int) (black3 : Int) (white : Int) (kk : Int → Option (Int × Int × List Int × Int)) : Nat → Int → Option (Int × Int × List Int × Int)
  | 0, _ => none
  | fuel + 1, i =>
    cond (decide (i < 4)) (
    Option.bind (idx [black0, black1, black2, black3] i) fun e2 =>
    cond (decide (e2 < 0)) (
    some (0, 0, ([] : List Int), 3)) (
    cond (decide (white ≤ e2)) (
    some (0, 0, ([] : List Int), 3)) (
    cond (decide (65535 < white)) (
    some (0, 0, ([] : List Int), 3)) (
    D_sensor_Level_l1 N black0 black1 black2 black3 white kk fuel (IntKind.i64.wrap (i + 1)))))) (
    kk i)
def D_sensor_Level (N : Nat) (p_W : Int) (p_H : Int) (p_P : List Int) (black0 : Int) (black1 : Int) (black2 : Int) (black3 : Int) (white : Int) : Option (Int × Int × List Int × Int) :=
  Option.bind (D_sensor_fine N p_W p_H p_P) fun r2 =>
  cond (!(r2)) (
  some (0, 0, ([] : List Int), 1)) (
  D_sensor_Level_l1 N black0 black1 black2 black3 white (fun i2 =>
  Option.bind (D_sensor_each__sensor_Level_1 N p_W p_H p_P black0 black1 black2 black3 white) fun r3 =>
  some (r3.1, r3.2.1, r3.2.2, 0)) N 0)
def D_line_level_work (N : Nat) (sna : Int) (snb0 : Int) (snb1 : Int) (snb2 : Int) (snb3 : Int) (snc : Int) (snd : List (Int × Int)) (sne0 : Int) (sne1 : Int) (sne2 : Int) (snf0 : Int) (snf1 : Int) (snf2 : Int) (snf3 : Int) (snf4 : Int) (snf5 : Int) (snf6 : Int) (snf7 : Int) (snf8 : Int) (sng : List (Int × Int)) (snh : Int) (p_W : Int) (p_H : Int) (p_P : List Int) (q_W : Int) (q_H : Int) (q_P : List (Int × Int × Int)) : Option (Int × Int × List Int × Int × Int × List (Int × Int × Int) × Int) :=
  Option.bind (D_sensor_Level N p_W p_H p_P snb0 snb1 snb2 snb3 snc) fun r2 =>
  some (r2.1, r2.2.1, r2.2.2.1, q_W, q_H, q_P, r2.2.2.2)
def D_line_repair_work (N : Nat) (sna : Int) (snb0 : Int) (snb1 : Int) (snb2 : Int) (snb3 : Int) (snc : Int) (snd : List (Int × Int)) (sne0 : Int) (sne1 : Int) (sne2 : Int) (snf0 : Int) (snf1 : Int) (snf2 : Int) (snf3 : Int) (snf4 : Int) (snf5 : Int) (snf6 : Int) (snf7 : Int) (snf8 : Int) (sng : List (Int × Int)) (snh : Int) (p_W : Int) (p_H : Int) (p_P : List Int) (q_W : Int) (q_H : Int) (q_P : List (Int × Int × Int)) : Option (Int × Int × List Int × Int × Int × List (Int × Int × Int) × Int) :=
  Option.bind (D_sensor_Repair N p_W p_H p_P snd) fun r2 =>
  some (r2.1, r2.2.1, r2.2.2.1, q_W, q_H, q_P, r2.2.2.2)
def D_sensor_colour (N : Nat) (phase : Int) (x2 : Int) (y : Int) : Option Int :=
  some (IntKind.i64.wrap ((andI .i64 (IntKind.i64.wrap (x2 + phase)) 1) + (andI .i64 (IntKind.i64.wrap (y + (shrI .i64 phase 1))) 1)))
def D_sensor_Gain_1 (N : Nat) (n : Int) (x2 : Int) (y : Int) (v00 : Int) (v01 : Int) (v02 : Int) (v1 : Int) : Option Int :=
  Option.bind (D_sensor_colour N v1 x2 y) fun r2 =>
  Option.bind (inr r2 3) fun _ =>
  Option.bind (idx [v00, v01, v02] r2) fun e =>
  some (shrI .i64 (IntKind.i64.wrap (n * e)) 8)
def D_sensor_each__sensor_Gain_1_l1 (N : Nat) (p_W : Int) (p_P : List Int) (Gain_1_00 : Int) (Gain_1_01 : Int) (Gain_1_02 : Int) (Gain_1_1 : Int) (kk : (List Int × Int) → Option (Int × Int × List Int)) : Nat → (List Int × Int) → Option (Int × Int × List Int)
  | 0, _ => none
  | fuel + 1, (out_P, i) =>
    cond (decide (i < (p_P.length : Int))) (
    Option.bind (idx p_P i) fun e3 =>
    Option.bind (nz p_W) fun _ =>
    Option.bind (nz p_W) fun _ =>
    Option.bind (D_sensor_Gain_1 N e3 (Int.tmod i p_W) (IntKind.i64.wrap (Int.tdiv i p_W)) Gain_1_00 Gain_1_01 Gain_1_02 Gain_1_1) fun r3 =>
    Option.bind (idx out_P i) fun e4 =>
    Option.bind (setL out_P i (min r3 65535)) fun l4 =>
    D_sensor_each__sensor_Gain_1_l1 N p_W p_P Gain_1_00 Gain_1_01 Gain_1_02 Gain_1_1 kk fuel (l4, IntKind.i64.wrap (i + 1))) (
    kk (out_P, i))
def D_sensor_each__sensor_Gain_1 (N : Nat) (p_W : Int) (p_H : Int) (p_P : List Int) (Gain_1_00 : Int) (Gain_1_01 : Int) (Gain_1_02 : Int) (Gain_1_1 : Int) : Option (Int × Int × List Int) :=
  Option.bind (some ((p_P.length : Int))) fun x2 =>
  Option.bind (mk 8 x2 (0 : Int)) fun l2 =>
  D_sensor_each__sensor_Gain_1_l1 N p_W p_P Gain_1_00 Gain_1_01 Gain_1_02 Gain_1_1 (fun (out_P2, i2) =>
  some (p_W, p_H, out_P2)) N (l2, 0)
def D_sensor_Gain_l1 (N : Nat) (phase : Int) (gains0 : Int) (gains1 : Int) (gains2 : Int) (kk : Int → Option (Int × Int × List Int × Int)) : Nat → Int → Option (Int × Int × List Int × Int)
  | 0, _ => none
  | fuel + 1, i =>
    cond (decide (i < 3)) (
    Option.bind (idx [gains0, gains1, gains2] i) fun e2 =>
    cond (decide (e2 < 0)) (
    some (0, 0, ([] : List Int), 3)) (
    cond (decide (65535 < e2)) (
    some (0, 0, ([] : List Int), 3)) (
    cond (decide (phase < 0)) (
    some (0, 0, ([] : List Int), 3)) (
    cond (decide (3 < phase)) (
    some (0, 0, ([] : List Int), 3)) (
    D_sensor_Gain_l1 N phase gains0 gains1 gains2 kk fuel (IntKind.i64.wrap (i + 1))))))) (
    kk i)
def D_sensor_Gain (N : Nat) (p_W : Int) (p_H : Int) (p_P : List Int) (phase : Int) (gains0 : Int) (gains1 : Int) (gains2 : Int) : Option (Int × Int × List Int × Int) :=
  Option.bind (D_sensor_fine N p_W p_H p_P) fun r2 =>
  cond (!(r2)) (
  some (0, 0, ([] : List Int), 1)) (
  D_sensor_Gain_l1 N phase gains0 gains1 gains2 (fun i2 =>
  Option.bind (D_sensor_each__sensor_Gain_1 N p_W p_H p_P gains0 gains1 gains2 phase) fun r3 =>
  some (r3.1, r3.2.1, r3.2.2, 0)) N 0)
def D_line_gain_work (N : Nat) (sna : Int) (snb0 : Int) (snb1 : Int) (snb2 : Int) (snb3 : Int) (snc : Int) (snd : List (Int × Int)) (sne0 : Int) (sne1 : Int) (sne2 : Int) (snf0 : Int) (snf1 : Int) (snf2 : Int) (snf3 : Int) (snf4 : Int) (snf5 : Int) (snf6 : Int) (snf7 : Int) (snf8 : Int) (sng : List (Int × Int)) (snh : Int) (p_W : Int) (p_H : Int) (p_P : List Int) (q_W : Int) (q_H : Int) (q_P : List (Int × Int × Int)) : Option (Int × Int × List Int × Int × Int × List (Int × Int × Int) × Int) :=
  Option.bind (D_sensor_Gain N p_W p_H p_P sna sne0 sne1 sne2) fun r2 =>
  some (r2.1, r2.2.1, r2.2.2.1, q_W, q_H, q_P, r2.2.2.2)
def D_sensor_Colour (N : Nat) (phase : Int) (x2 : Int) (y : Int) : Option (Int × Int) :=
  cond (decide (phase < 0)) (
  some (0, 3)) (
  cond (decide (3 < phase)) (
  some (0, 3)) (
  cond (decide (x2 < 0)) (
  some (0, 3)) (
  cond (decide (y < 0)) (
  some (0, 3)) (
  Option.bind (D_sensor_colour N phase (andI .i64 x2 1) (andI .i64 y 1)) fun r2 =>
  some (r2, 0)))))
def D_mosaic_pixel_b (N : Nat) (d_W : Int) (d_P : List Int) (o : Int) (u v : Int) (x_R : Int) (x_G : Int) (x_B : Int) (x_R2 : Int) (x_G2 : Int) (x_B2 : Int) : Option (Int × Int × Int × Int × Int × Int) :=
  Option.bind (D_sensor_Colour N o u v) fun r3 =>
  cond (decide (r3.1 = 0)) (
  Option.bind (idx d_P (IntKind.i64.wrap ((IntKind.i64.wrap (v * d_W)) + u))) fun e4 =>
  cond (decide (r3.1 = 0)) (
  some (IntKind.i64.wrap (x_R + 1), x_G, x_B, IntKind.i64.wrap (x_R2 + e4), x_G2, x_B2)) (
  cond (decide (r3.1 = 1)) (
  some (x_R, IntKind.i64.wrap (x_G + 1), x_B, IntKind.i64.wrap (x_R2 + e4), x_G2, x_B2)) (
  some (x_R, x_G, IntKind.i64.wrap (x_B + 1), IntKind.i64.wrap (x_R2 + e4), x_G2, x_B2)))) (
  cond (decide (r3.1 = 1)) (
  Option.bind (idx d_P (IntKind.i64.wrap ((IntKind.i64.wrap (v * d_W)) + u))) fun e5 =>
  cond (decide (r3.1 = 0)) (
  some (IntKind.i64.wrap (x_R + 1), x_G, x_B, x_R2, IntKind.i64.wrap (x_G2 + e5), x_B2)) (
  cond (decide (r3.1 = 1)) (
  some (x_R, IntKind.i64.wrap (x_G + 1), x_B, x_R2, IntKind.i64.wrap (x_G2 + e5), x_B2)) (
  some (x_R, x_G, IntKind.i64.wrap (x_B + 1), x_R2, IntKind.i64.wrap (x_G2 + e5), x_B2)))) (
  Option.bind (idx d_P (IntKind.i64.wrap ((IntKind.i64.wrap (v * d_W)) + u))) fun e6 =>
  cond (decide (r3.1 = 0)) (
  some (IntKind.i64.wrap (x_R + 1), x_G, x_B, x_R2, x_G2, IntKind.i64.wrap (x_B2 + e6))) (
  cond (decide (r3.1 = 1)) (
  some (x_R, IntKind.i64.wrap (x_G + 1), x_B, x_R2, x_G2, IntKind.i64.wrap (x_B2 + e6))) (
  some (x_R, x_G, IntKind.i64.wrap (x_B + 1), x_R2, x_G2, IntKind.i64.wrap (x_B2 + e6))))))
def D_mosaic_pixel_s (N : Nat) (d_W : Int) (d_P : List Int) (o : Int) (s : Int × Int × Int × Int × Int × Int) (q : Int × Int) : Int × Int × Int × Int × Int × Int := (D_mosaic_pixel_b N d_W d_P o q.1 q.2 s.1 s.2.1 s.2.2.1 s.2.2.2.1 s.2.2.2.2.1 s.2.2.2.2.2).getD s
theorem D_mosaic_pixel_fold {W H : Int} (N : Nat) (d_W : Int) (d_P : List Int) (o : Int) (pre : List (InP W H)) (q : InP W H) {s r : Int × Int × Int × Int × Int × Int} (hs : List.foldl (D_mosaic_pixel_s N d_W d_P o) (0, 0, 0, 0, 0, 0) (pre.map (·.1)) = s) (hr : D_mosaic_pixel_b N d_W d_P o q.1.1 q.1.2 s.1 s.2.1 s.2.2.1 s.2.2.2.1 s.2.2.2.2.1 s.2.2.2.2.2 = some r) : List.foldl (D_mosaic_pixel_s N d_W d_P o) (0, 0, 0, 0, 0, 0) ((pre ++ [q]).map (·.1)) = r := by
  rw [List.map_append, List.foldl_append, hs]
  show (D_mosaic_pixel_b N d_W d_P o q.1.1 q.1.2 s.1 s.2.1 s.2.2.1 s.2.2.2.1 s.2.2.2.2.1 s.2.2.2.2.2).getD s = r
  rw [hr]; rfl
def D_mosaic_pixel_l1 (N : Nat) (x_R : Int) (x_G : Int) (x_B : Int) (kk : (Int × Int × Int × Int) → Option (Int × Int × Int)) : Nat → (Int × Int × Int × Int) → Option (Int × Int × Int)
  | 0, _ => none
  | fuel + 1, (x_R3, x_G3, x_B3, i) =>
    cond (decide (i < 3)) (
    cond (decide (i = 0)) (
    cond (decide (0 < x_R)) (
    cond (decide (i = 0)) (
    Option.bind (nz x_R) fun _ =>
    D_mosaic_pixel_l1 N x_R x_G x_B kk fuel (IntKind.i64.wrap (Int.tdiv x_R3 x_R), x_G3, x_B3, IntKind.i64.wrap (i + 1))) (
    cond (decide (i = 1)) (
    Option.bind (nz x_R) fun _ =>
    D_mosaic_pixel_l1 N x_R x_G x_B kk fuel (x_R3, IntKind.i64.wrap (Int.tdiv x_G3 x_R), x_B3, IntKind.i64.wrap (i + 1))) (
    Option.bind (nz x_R) fun _ =>
    D_mosaic_pixel_l1 N x_R x_G x_B kk fuel (x_R3, x_G3, IntKind.i64.wrap (Int.tdiv x_B3 x_R), IntKind.i64.wrap (i + 1))))) (
    D_mosaic_pixel_l1 N x_R x_G x_B kk fuel (x_R3, x_G3, x_B3, IntKind.i64.wrap (i + 1)))) (
    cond (decide (i = 1)) (
    cond (decide (0 < x_G)) (
    cond (decide (i = 0)) (
    Option.bind (nz x_G) fun _ =>
    D_mosaic_pixel_l1 N x_R x_G x_B kk fuel (IntKind.i64.wrap (Int.tdiv x_R3 x_G), x_G3, x_B3, IntKind.i64.wrap (i + 1))) (
    cond (decide (i = 1)) (
    Option.bind (nz x_G) fun _ =>
    D_mosaic_pixel_l1 N x_R x_G x_B kk fuel (x_R3, IntKind.i64.wrap (Int.tdiv x_G3 x_G), x_B3, IntKind.i64.wrap (i + 1))) (
    Option.bind (nz x_G) fun _ =>
    D_mosaic_pixel_l1 N x_R x_G x_B kk fuel (x_R3, x_G3, IntKind.i64.wrap (Int.tdiv x_B3 x_G), IntKind.i64.wrap (i + 1))))) (
    D_mosaic_pixel_l1 N x_R x_G x_B kk fuel (x_R3, x_G3, x_B3, IntKind.i64.wrap (i + 1)))) (
    cond (decide (0 < x_B)) (
    cond (decide (i = 0)) (
    Option.bind (nz x_B) fun _ =>
    D_mosaic_pixel_l1 N x_R x_G x_B kk fuel (IntKind.i64.wrap (Int.tdiv x_R3 x_B), x_G3, x_B3, IntKind.i64.wrap (i + 1))) (
    cond (decide (i = 1)) (
    Option.bind (nz x_B) fun _ =>
    D_mosaic_pixel_l1 N x_R x_G x_B kk fuel (x_R3, IntKind.i64.wrap (Int.tdiv x_G3 x_B), x_B3, IntKind.i64.wrap (i + 1))) (
    Option.bind (nz x_B) fun _ =>
    D_mosaic_pixel_l1 N x_R x_G x_B kk fuel (x_R3, x_G3, IntKind.i64.wrap (Int.tdiv x_B3 x_B), IntKind.i64.wrap (i + 1))))) (
    D_mosaic_pixel_l1 N x_R x_G x_B kk fuel (x_R3, x_G3, x_B3, IntKind.i64.wrap (i + 1)))))) (
    kk (x_R3, x_G3, x_B3, i))
def D_mosaic_pixel_r (N : Nat) (d_W : Int) (d_P : List Int) (o : Int) (p2 : Int) (p3 : Int) : Int × Int × Int × Int × Int × Int → Option (Int × Int × Int)
  | (x_R, x_G, x_B, x_R2, x_G2, x_B2) =>
    D_mosaic_pixel_l1 N x_R x_G x_B (fun (x_R4, x_G4, x_B4, i2) =>
    Option.bind (D_sensor_Colour N o p2 p3) fun r4 =>
    cond (decide (r4.1 = 0)) (
    Option.bind (idx d_P (IntKind.i64.wrap ((IntKind.i64.wrap (p3 * d_W)) + p2))) fun e7 =>
    some (e7, x_G4, x_B4)) (
    cond (decide (r4.1 = 1)) (
    Option.bind (idx d_P (IntKind.i64.wrap ((IntKind.i64.wrap (p3 * d_W)) + p2))) fun e8 =>
    some (x_R4, e8, x_B4)) (
    Option.bind (idx d_P (IntKind.i64.wrap ((IntKind.i64.wrap (p3 * d_W)) + p2))) fun e9 =>
    some (x_R4, x_G4, e9)))) N (x_R2, x_G2, x_B2, 0)
def D_mosaic_pixel (N : Nat) (d_W : Int) (d_H : Int) (d_P : List Int) (o : Int) (p2 : Int) (p3 : Int) : Option (Int × Int × Int) :=
  cond (decide (pixC d_W d_H d_P p2 p3)) (D_mosaic_pixel_r N d_W d_P o p2 p3 (List.foldl (D_mosaic_pixel_s N d_W d_P o) (0, 0, 0, 0, 0, 0) (aroundL d_W d_H p2 p3))) none
def D_mosaic_Fill_l2 (N : Nat) (p_W : Int) (p_H : Int) (p_P : List Int) (phase : Int) (i : Int) (kk : (List (Int × Int × Int) × Int) → Option (Int × Int × List (Int × Int × Int) × Int)) : Nat → (List (Int × Int × Int) × Int) → Option (Int × Int × List (Int × Int × Int) × Int)
  | 0, _ => none
  | fuel + 1, (out_P4, i3) =>
    cond (decide (i3 < p_W)) (
    Option.bind (D_mosaic_pixel N p_W p_H p_P phase i3 i) fun r5 =>
    Option.bind (app 24 out_P4 (([(r5.1, r5.2.1, r5.2.2)] : List (Int × Int × Int)))) fun out_P6 =>
    D_mosaic_Fill_l2 N p_W p_H p_P phase i kk fuel (out_P6, IntKind.i64.wrap (i3 + 1))) (
    kk (out_P4, i3))
def D_mosaic_Fill_l1 (N : Nat) (p_W : Int) (p_H : Int) (p_P : List Int) (phase : Int) (kk : (List (Int × Int × Int) × Int) → Option (Int × Int × List (Int × Int × Int) × Int)) : Nat → (List (Int × Int × Int) × Int) → Option (Int × Int × List (Int × Int × Int) × Int)
  | 0, _ => none
  | fuel + 1, (out_P, i) =>
    cond (decide (i < p_H)) (
    D_mosaic_Fill_l2 N p_W p_H p_P phase i (fun (out_P7, i4) =>
    D_mosaic_Fill_l1 N p_W p_H p_P phase kk fuel (out_P7, IntKind.i64.wrap (i + 1))) N (out_P, 0)) (
    kk (out_P, i))
def D_mosaic_Fill (N : Nat) (p_W : Int) (p_H : Int) (p_P : List Int) (phase : Int) : Option (Int × Int × List (Int × Int × Int) × Int) :=
  Option.bind (D_sensor_Repair N p_W p_H p_P (([] : List (Int × Int)))) fun r2 =>
  cond (!decide (r2.2.2.2 = 0)) (
  some (0, 0, ([] : List (Int × Int × Int)), r2.2.2.2)) (
  cond (decide (phase < 0)) (
  some (0, 0, ([] : List (Int × Int × Int)), 3)) (
  cond (decide (3 < phase)) (
  some (0, 0, ([] : List (Int × Int × Int)), 3)) (
  D_mosaic_Fill_l1 N p_W p_H p_P phase (fun (out_P8, i5) =>
  some (p_W, p_H, out_P8, 0)) N (([] : List (Int × Int × Int)), 0))))
def D_line_fill_work (N : Nat) (sna : Int) (snb0 : Int) (snb1 : Int) (snb2 : Int) (snb3 : Int) (snc : Int) (snd : List (Int × Int)) (sne0 : Int) (sne1 : Int) (sne2 : Int) (snf0 : Int) (snf1 : Int) (snf2 : Int) (snf3 : Int) (snf4 : Int) (snf5 : Int) (snf6 : Int) (snf7 : Int) (snf8 : Int) (sng : List (Int × Int)) (snh : Int) (p_W : Int) (p_H : Int) (p_P : List Int) (q_W : Int) (q_H : Int) (q_P : List (Int × Int × Int)) : Option (Int × Int × List Int × Int × Int × List (Int × Int × Int) × Int) :=
  Option.bind (D_mosaic_Fill N p_W p_H p_P sna) fun r2 =>
  some (p_W, p_H, p_P, r2.1, r2.2.1, r2.2.2.1, r2.2.2.2)
def D_mosaic_fine_l1 (N : Nat) (q_P : List (Int × Int × Int)) (kk : Int → Option Bool) : Nat → Int → Option Bool
  | 0, _ => none
  | fuel + 1, i =>
    cond (decide (i < (q_P.length : Int))) (
    Option.bind (idx q_P i) fun e2 =>
    cond (decide ((min (min e2.1 e2.2.1) e2.2.2) < 0)) (
    some false) (
    cond (decide (65535 < (max (max e2.1 e2.2.1) e2.2.2))) (
    some false) (
    D_mosaic_fine_l1 N q_P kk fuel (IntKind.i64.wrap (i + 1))))) (
    kk i)
def D_mosaic_fine (N : Nat) (q_W : Int) (q_H : Int) (q_P : List (Int × Int × Int)) : Option Bool :=
  cond (decide (q_W < 1)) (
  some false) (
  cond (decide (64 < q_W)) (
  some false) (
  cond (decide (q_H < 1)) (
  some false) (
  cond (decide (64 < q_H)) (
  some false) (
  cond (!decide ((q_P.length : Int) = (IntKind.i64.wrap (q_W * q_H)))) (
  some false) (
  D_mosaic_fine_l1 N q_P (fun i2 =>
  some true) N 0)))))
def D_mosaic_Take_l1 (N : Nat) (q_W : Int) (q_P : List (Int × Int × Int)) (phase : Int) (kk : (List Int × Int) → Option (Int × Int × List Int × Int)) : Nat → (List Int × Int) → Option (Int × Int × List Int × Int)
  | 0, _ => none
  | fuel + 1, (out_P, i) =>
    cond (decide (i < (q_P.length : Int))) (
    Option.bind (nz q_W) fun _ =>
    Option.bind (nz q_W) fun _ =>
    Option.bind (D_sensor_Colour N phase (Int.tmod i q_W) (IntKind.i64.wrap (Int.tdiv i q_W))) fun r4 =>
    Option.bind (idx q_P i) fun e2 =>
    cond (decide (r4.1 = 0)) (
    Option.bind (app 8 out_P ([e2.1] : List Int)) fun out_P5 =>
    D_mosaic_Take_l1 N q_W q_P phase kk fuel (out_P5, IntKind.i64.wrap (i + 1))) (
    cond (decide (r4.1 = 1)) (
    Option.bind (app 8 out_P ([e2.2.1] : List Int)) fun out_P6 =>
    D_mosaic_Take_l1 N q_W q_P phase kk fuel (out_P6, IntKind.i64.wrap (i + 1))) (
    Option.bind (app 8 out_P ([e2.2.2] : List Int)) fun out_P7 =>
    D_mosaic_Take_l1 N q_W q_P phase kk fuel (out_P7, IntKind.i64.wrap (i + 1))))) (
    kk (out_P, i))
def D_mosaic_Take (N : Nat) (q_W : Int) (q_H : Int) (q_P : List (Int × Int × Int)) (phase : Int) : Option (Int × Int × List Int × Int) :=
  Option.bind (D_mosaic_fine N q_W q_H q_P) fun r2 =>
  cond (!(r2)) (
  some (0, 0, ([] : List Int), 1)) (
  cond (decide (phase < 0)) (
  some (0, 0, ([] : List Int), 3)) (
  cond (decide (3 < phase)) (
  some (0, 0, ([] : List Int), 3)) (
  D_mosaic_Take_l1 N q_W q_P phase (fun (out_P8, i2) =>
  some (q_W, q_H, out_P8, 0)) N (([] : List Int), 0))))
def D_tone_clamp (N : Nat) (n : Int) : Option Int :=
  some (max 0 (min n 65535))
def D_tone_Mix_1 (N : Nat) (c_R : Int) (c_G : Int) (c_B : Int) (k : Int) (v00 : Int) (v01 : Int) (v02 : Int) (v03 : Int) (v04 : Int) (v05 : Int) (v06 : Int) (v07 : Int) (v08 : Int) : Option Int :=
  Option.bind (inr k 9) fun _ =>
  Option.bind (idx [v00, v01, v02, v03, v04, v05, v06, v07, v08] k) fun e =>
  Option.bind (inr (IntKind.i64.wrap (k + 1)) 9) fun _ =>
  Option.bind (idx [v00, v01, v02, v03, v04, v05, v06, v07, v08] (IntKind.i64.wrap (k + 1))) fun e2 =>
  Option.bind (inr (IntKind.i64.wrap (k + 2)) 9) fun _ =>
  Option.bind (idx [v00, v01, v02, v03, v04, v05, v06, v07, v08] (IntKind.i64.wrap (k + 2))) fun e3 =>
  Option.bind (D_tone_clamp N (shrI .i64 (IntKind.i64.wrap ((IntKind.i64.wrap ((IntKind.i64.wrap (e * c_R)) + (IntKind.i64.wrap (e2 * c_G)))) + (IntKind.i64.wrap (e3 * c_B)))) 12)) fun r2 =>
  some r2
def D_tone_Mix_2 (N : Nat) (c_R : Int) (c_G : Int) (c_B : Int) (x2 : Int) (y : Int) (v0_00 : Int) (v0_01 : Int) (v0_02 : Int) (v0_03 : Int) (v0_04 : Int) (v0_05 : Int) (v0_06 : Int) (v0_07 : Int) (v0_08 : Int) : Option (Int × Int × Int) :=
  Option.bind (D_tone_Mix_1 N c_R c_G c_B 0 v0_00 v0_01 v0_02 v0_03 v0_04 v0_05 v0_06 v0_07 v0_08) fun r2 =>
  Option.bind (D_tone_Mix_1 N c_R c_G c_B 3 v0_00 v0_01 v0_02 v0_03 v0_04 v0_05 v0_06 v0_07 v0_08) fun r3 =>
  Option.bind (D_tone_Mix_1 N c_R c_G c_B 6 v0_00 v0_01 v0_02 v0_03 v0_04 v0_05 v0_06 v0_07 v0_08) fun r4 =>
  some (r2, r3, r4)
def D_tone_each__tone_Mix_2_l1 (N : Nat) (q_W : Int) (q_P : List (Int × Int × Int)) (Mix_2_0_00 : Int) (Mix_2_0_01 : Int) (Mix_2_0_02 : Int) (Mix_2_0_03 : Int) (Mix_2_0_04 : Int) (Mix_2_0_05 : Int) (Mix_2_0_06 : Int) (Mix_2_0_07 : Int) (Mix_2_0_08 : Int) (kk : (List (Int × Int × Int) × Int) → Option (Int × Int × List (Int × Int × Int) × Int)) : Nat → (List (Int × Int × Int) × Int) → Option (Int × Int × List (Int × Int × Int) × Int)
  | 0, _ => none
  | fuel + 1, (out_P, i) =>
    cond (decide (i < (q_P.length : Int))) (
    Option.bind (idx q_P i) fun e3 =>
    Option.bind (nz q_W) fun _ =>
    Option.bind (nz q_W) fun _ =>
    Option.bind (D_tone_Mix_2 N e3.1 e3.2.1 e3.2.2 (Int.tmod i q_W) (IntKind.i64.wrap (Int.tdiv i q_W)) Mix_2_0_00 Mix_2_0_01 Mix_2_0_02 Mix_2_0_03 Mix_2_0_04 Mix_2_0_05 Mix_2_0_06 Mix_2_0_07 Mix_2_0_08) fun r4 =>
    Option.bind (idx out_P i) fun e4 =>
    Option.bind (setL out_P i (r4.1, r4.2.1, r4.2.2)) fun l4 =>
    D_tone_each__tone_Mix_2_l1 N q_W q_P Mix_2_0_00 Mix_2_0_01 Mix_2_0_02 Mix_2_0_03 Mix_2_0_04 Mix_2_0_05 Mix_2_0_06 Mix_2_0_07 Mix_2_0_08 kk fuel (l4, IntKind.i64.wrap (i + 1))) (
    kk (out_P, i))
def D_tone_each__tone_Mix_2 (N : Nat) (q_W : Int) (q_H : Int) (q_P : List (Int × Int × Int)) (Mix_2_0_00 : Int) (Mix_2_0_01 : Int) (Mix_2_0_02 : Int) (Mix_2_0_03 : Int) (Mix_2_0_04 : Int) (Mix_2_0_05 : Int) (Mix_2_0_06 : Int) (Mix_2_0_07 : Int) (Mix_2_0_08 : Int) : Option (Int × Int × List (Int × Int × Int) × Int) :=
  Option.bind (D_mosaic_Take N q_W q_H q_P 0) fun r2 =>
  cond (!decide (r2.2.2.2 = 0)) (
  some (0, 0, ([] : List (Int × Int × Int)), r2.2.2.2)) (
  Option.bind (some ((q_P.length : Int))) fun x2 =>
  Option.bind (mk 24 x2 ((0, 0, 0) : Int × Int × Int)) fun l2 =>
  D_tone_each__tone_Mix_2_l1 N q_W q_P Mix_2_0_00 Mix_2_0_01 Mix_2_0_02 Mix_2_0_03 Mix_2_0_04 Mix_2_0_05 Mix_2_0_06 Mix_2_0_07 Mix_2_0_08 (fun (out_P2, i2) =>
  some (q_W, q_H, out_P2, 0)) N (l2, 0))
def D_tone_Mix_l1 (N : Nat) (m0 : Int) (m1 : Int) (m2 : Int) (m3 : Int) (m4 : Int) (m5 : Int) (m6 : Int) (m7 : Int) (m8 : Int) (kk : (Bool × Int) → Option (Int × Int × List (Int × Int × Int) × Int)) : Nat → (Bool × Int) → Option (Int × Int × List (Int × Int × Int) × Int)
  | 0, _ => none
  | fuel + 1, (fine, i) =>
    cond (decide (i < 9)) (
    Option.bind (idx [m0, m1, m2, m3, m4, m5, m6, m7, m8] i) fun e2 =>
    cond (fine) (
    cond (decide ((-32768) ≤ e2)) (
    D_tone_Mix_l1 N m0 m1 m2 m3 m4 m5 m6 m7 m8 kk fuel (decide (e2 ≤ 32768), IntKind.i64.wrap (i + 1))) (
    D_tone_Mix_l1 N m0 m1 m2 m3 m4 m5 m6 m7 m8 kk fuel (false, IntKind.i64.wrap (i + 1)))) (
    D_tone_Mix_l1 N m0 m1 m2 m3 m4 m5 m6 m7 m8 kk fuel (false, IntKind.i64.wrap (i + 1)))) (
    kk (fine, i))
def D_tone_Mix (N : Nat) (q_W : Int) (q_H : Int) (q_P : List (Int × Int × Int)) (m0 : Int) (m1 : Int) (m2 : Int) (m3 : Int) (m4 : Int) (m5 : Int) (m6 : Int) (m7 : Int) (m8 : Int) : Option (Int × Int × List (Int × Int × Int) × Int) :=
  D_tone_Mix_l1 N m0 m1 m2 m3 m4 m5 m6 m7 m8 (fun (fine2, i2) =>
  Option.bind (D_tone_each__tone_Mix_2 N q_W q_H q_P m0 m1 m2 m3 m4 m5 m6 m7 m8) fun r2 =>
  cond (decide (r2.2.2.2 = 0)) (
  cond (!(fine2)) (
  some (0, 0, ([] : List (Int × Int × Int)), 3)) (
  some (r2.1, r2.2.1, r2.2.2.1, r2.2.2.2))) (
  some (r2.1, r2.2.1, r2.2.2.1, r2.2.2.2))) N (true, 0)
def D_line_mix_work (N : Nat) (sna : Int) (snb0 : Int) (snb1 : Int) (snb2 : Int) (snb3 : Int) (snc : Int) (snd : List (Int × Int)) (sne0 : Int) (sne1 : Int) (sne2 : Int) (snf0 : Int) (snf1 : Int) (snf2 : Int) (snf3 : Int) (snf4 : Int) (snf5 : Int) (snf6 : Int) (snf7 : Int) (snf8 : Int) (sng : List (Int × Int)) (snh : Int) (p_W : Int) (p_H : Int) (p_P : List Int) (q_W : Int) (q_H : Int) (q_P : List (Int × Int × Int)) : Option (Int × Int × List Int × Int × Int × List (Int × Int × Int) × Int) :=
  Option.bind (D_tone_Mix N q_W q_H q_P snf0 snf1 snf2 snf3 snf4 snf5 snf6 snf7 snf8) fun r2 =>
  some (p_W, p_H, p_P, r2.1, r2.2.1, r2.2.2.1, r2.2.2.2)
def D_tone_Bend_1 (N : Nat) (c_R : Int) (c_G : Int) (c_B : Int) (x2 : Int) (y : Int) (v0 : List (Int × Int)) : Option (Int × Int × Int) :=
  Option.bind (D_tone_on N v0 c_R) fun r2 =>
  Option.bind (D_tone_on N v0 c_G) fun r3 =>
  Option.bind (D_tone_on N v0 c_B) fun r4 =>
  some (r2, r3, r4)
def D_tone_each__tone_Bend_1_l1 (N : Nat) (q_W : Int) (q_P : List (Int × Int × Int)) (Bend_1_0 : List (Int × Int)) (kk : (List (Int × Int × Int) × Int) → Option (Int × Int × List (Int × Int × Int) × Int)) : Nat → (List (Int × Int × Int) × Int) → Option (Int × Int × List (Int × Int × Int) × Int)
  | 0, _ => none
  | fuel + 1, (out_P, i) =>
    cond (decide (i < (q_P.length : Int))) (
    Option.bind (idx q_P i) fun e3 =>
    Option.bind (nz q_W) fun _ =>
    Option.bind (nz q_W) fun _ =>
    Option.bind (D_tone_Bend_1 N e3.1 e3.2.1 e3.2.2 (Int.tmod i q_W) (IntKind.i64.wrap (Int.tdiv i q_W)) Bend_1_0) fun r4 =>
    Option.bind (idx out_P i) fun e4 =>
    Option.bind (setL out_P i (r4.1, r4.2.1, r4.2.2)) fun l4 =>
    D_tone_each__tone_Bend_1_l1 N q_W q_P Bend_1_0 kk fuel (l4, IntKind.i64.wrap (i + 1))) (
    kk (out_P, i))
def D_tone_each__tone_Bend_1 (N : Nat) (q_W : Int) (q_H : Int) (q_P : List (Int × Int × Int)) (Bend_1_0 : List (Int × Int)) : Option (Int × Int × List (Int × Int × Int) × Int) :=
  Option.bind (D_mosaic_Take N q_W q_H q_P 0) fun r2 =>
  cond (!decide (r2.2.2.2 = 0)) (
  some (0, 0, ([] : List (Int × Int × Int)), r2.2.2.2)) (
  Option.bind (some ((q_P.length : Int))) fun x2 =>
  Option.bind (mk 24 x2 ((0, 0, 0) : Int × Int × Int)) fun l2 =>
  D_tone_each__tone_Bend_1_l1 N q_W q_P Bend_1_0 (fun (out_P2, i2) =>
  some (q_W, q_H, out_P2, 0)) N (l2, 0))
def D_tone_Bend (N : Nat) (q_W : Int) (q_H : Int) (q_P : List (Int × Int × Int)) (l2 : List (Int × Int)) : Option (Int × Int × List (Int × Int × Int) × Int) :=
  Option.bind (D_tone_right N l2) fun r2 =>
  cond (!(r2)) (
  some (0, 0, ([] : List (Int × Int × Int)), 1)) (
  Option.bind (D_tone_each__tone_Bend_1 N q_W q_H q_P l2) fun r3 =>
  some (r3.1, r3.2.1, r3.2.2.1, r3.2.2.2))
def D_line_bend_work (N : Nat) (sna : Int) (snb0 : Int) (snb1 : Int) (snb2 : Int) (snb3 : Int) (snc : Int) (snd : List (Int × Int)) (sne0 : Int) (sne1 : Int) (sne2 : Int) (snf0 : Int) (snf1 : Int) (snf2 : Int) (snf3 : Int) (snf4 : Int) (snf5 : Int) (snf6 : Int) (snf7 : Int) (snf8 : Int) (sng : List (Int × Int)) (snh : Int) (p_W : Int) (p_H : Int) (p_P : List Int) (q_W : Int) (q_H : Int) (q_P : List (Int × Int × Int)) : Option (Int × Int × List Int × Int × Int × List (Int × Int × Int) × Int) :=
  Option.bind (D_tone_Bend N q_W q_H q_P sng) fun r2 =>
  some (p_W, p_H, p_P, r2.1, r2.2.1, r2.2.2.1, r2.2.2.2)
def D_tone_Sharpen_1 (N : Nat) (v : Int) (blur : Int) (v0 : Int) : Option Int :=
  Option.bind (D_tone_clamp N (IntKind.i64.wrap (v + (shrI .i64 (IntKind.i64.wrap ((IntKind.i64.wrap (v - (shrI .i64 blur 4))) * v0)) 8)))) fun r2 =>
  some r2
def D_tone_Sharpen_2_l2 (N : Nat) (o : Int) (p2 : Int) (v0_W : Int) (v0_H : Int) (v0_P : List (Int × Int × Int)) (i : Int) (kk : (Int × Int × Int × Int) → Option (Int × Int × Int)) : Nat → (Int × Int × Int × Int) → Option (Int × Int × Int)
  | 0, _ => none
  | fuel + 1, (x_R3, x_G3, x_B3, i3) =>
    cond (decide (i3 ≤ 1)) (
    Option.bind (some (IntKind.i64.wrap ((IntKind.i64.wrap ((min (max (IntKind.i64.wrap (p2 + i)) 0) (IntKind.i64.wrap (v0_H - 1))) * v0_W)) + (min (max (IntKind.i64.wrap (o + i3)) 0) (IntKind.i64.wrap (v0_W - 1)))))) fun x9 =>
    Option.bind (idx v0_P x9) fun e3 =>
    Option.bind (some (IntKind.i64.wrap ((IntKind.i64.wrap (2 - (IntKind.i64.wrap (i3 * i3)))) * (IntKind.i64.wrap (2 - (IntKind.i64.wrap (i * i))))))) fun x10 =>
    Option.bind (some (IntKind.i64.wrap (i3 + 1))) fun x11 =>
    D_tone_Sharpen_2_l2 N o p2 v0_W v0_H v0_P i kk fuel (IntKind.i64.wrap (x_R3 + (IntKind.i64.wrap (x10 * e3.1))), IntKind.i64.wrap (x_G3 + (IntKind.i64.wrap (x10 * e3.2.1))), IntKind.i64.wrap (x_B3 + (IntKind.i64.wrap (x10 * e3.2.2))), x11)) (
    kk (x_R3, x_G3, x_B3, i3))
def D_tone_Sharpen_2_l1 (N : Nat) (o : Int) (p2 : Int) (v0_W : Int) (v0_H : Int) (v0_P : List (Int × Int × Int)) (kk : (Int × Int × Int × Int) → Option (Int × Int × Int)) : Nat → (Int × Int × Int × Int) → Option (Int × Int × Int)
  | 0, _ => none
  | fuel + 1, (x_R, x_G, x_B, i) =>
    cond (decide (i ≤ 1)) (
    D_tone_Sharpen_2_l2 N o p2 v0_W v0_H v0_P i (fun (x_R4, x_G4, x_B4, i4) =>
    Option.bind (some (IntKind.i64.wrap (i + 1))) fun x12 =>
    D_tone_Sharpen_2_l1 N o p2 v0_W v0_H v0_P kk fuel (x_R4, x_G4, x_B4, x12)) N (x_R, x_G, x_B, (-1))) (
    kk (x_R, x_G, x_B, i))
def D_tone_Sharpen_2 (N : Nat) (d_R : Int) (d_G : Int) (d_B : Int) (o : Int) (p2 : Int) (v0_W : Int) (v0_H : Int) (v0_P : List (Int × Int × Int)) (v1_0 : Int) : Option (Int × Int × Int) :=
  D_tone_Sharpen_2_l1 N o p2 v0_W v0_H v0_P (fun (x_R5, x_G5, x_B5, i5) =>
  Option.bind (D_tone_Sharpen_1 N d_R x_R5 v1_0) fun r2 =>
  Option.bind (D_tone_Sharpen_1 N d_G x_G5 v1_0) fun r3 =>
  Option.bind (D_tone_Sharpen_1 N d_B x_B5 v1_0) fun r4 =>
  some (r2, r3, r4)) N (0, 0, 0, (-1))
def D_tone_each__tone_Sharpen_2_l1 (N : Nat) (q_W : Int) (q_P : List (Int × Int × Int)) (Sharpen_2_0_W : Int) (Sharpen_2_0_H : Int) (Sharpen_2_0_P : List (Int × Int × Int)) (Sharpen_2_1_0 : Int) (kk : (List (Int × Int × Int) × Int) → Option (Int × Int × List (Int × Int × Int) × Int)) : Nat → (List (Int × Int × Int) × Int) → Option (Int × Int × List (Int × Int × Int) × Int)
  | 0, _ => none
  | fuel + 1, (out_P, i) =>
    cond (decide (i < (q_P.length : Int))) (
    Option.bind (idx q_P i) fun e3 =>
    Option.bind (nz q_W) fun _ =>
    Option.bind (nz q_W) fun _ =>
    Option.bind (D_tone_Sharpen_2 N e3.1 e3.2.1 e3.2.2 (Int.tmod i q_W) (IntKind.i64.wrap (Int.tdiv i q_W)) Sharpen_2_0_W Sharpen_2_0_H Sharpen_2_0_P Sharpen_2_1_0) fun r4 =>
    Option.bind (idx out_P i) fun e4 =>
    Option.bind (setL out_P i (r4.1, r4.2.1, r4.2.2)) fun l4 =>
    D_tone_each__tone_Sharpen_2_l1 N q_W q_P Sharpen_2_0_W Sharpen_2_0_H Sharpen_2_0_P Sharpen_2_1_0 kk fuel (l4, IntKind.i64.wrap (i + 1))) (
    kk (out_P, i))
def D_tone_each__tone_Sharpen_2 (N : Nat) (q_W : Int) (q_H : Int) (q_P : List (Int × Int × Int)) (Sharpen_2_0_W : Int) (Sharpen_2_0_H : Int) (Sharpen_2_0_P : List (Int × Int × Int)) (Sharpen_2_1_0 : Int) : Option (Int × Int × List (Int × Int × Int) × Int) :=
  Option.bind (D_mosaic_Take N q_W q_H q_P 0) fun r2 =>
  cond (!decide (r2.2.2.2 = 0)) (
  some (0, 0, ([] : List (Int × Int × Int)), r2.2.2.2)) (
  Option.bind (some ((q_P.length : Int))) fun x2 =>
  Option.bind (mk 24 x2 ((0, 0, 0) : Int × Int × Int)) fun l2 =>
  D_tone_each__tone_Sharpen_2_l1 N q_W q_P Sharpen_2_0_W Sharpen_2_0_H Sharpen_2_0_P Sharpen_2_1_0 (fun (out_P2, i2) =>
  some (q_W, q_H, out_P2, 0)) N (l2, 0))
def D_tone_Sharpen (N : Nat) (q_W : Int) (q_H : Int) (q_P : List (Int × Int × Int)) (amount : Int) : Option (Int × Int × List (Int × Int × Int) × Int) :=
  Option.bind (D_tone_each__tone_Sharpen_2 N q_W q_H q_P q_W q_H q_P amount) fun r2 =>
  cond (decide (r2.2.2.2 = 0)) (
  cond (decide (amount < 0)) (
  some (0, 0, ([] : List (Int × Int × Int)), 3)) (
  cond (decide (1024 < amount)) (
  some (0, 0, ([] : List (Int × Int × Int)), 3)) (
  some (r2.1, r2.2.1, r2.2.2.1, r2.2.2.2)))) (
  some (r2.1, r2.2.1, r2.2.2.1, r2.2.2.2))
def D_line_sharpen_work (N : Nat) (sna : Int) (snb0 : Int) (snb1 : Int) (snb2 : Int) (snb3 : Int) (snc : Int) (snd : List (Int × Int)) (sne0 : Int) (sne1 : Int) (sne2 : Int) (snf0 : Int) (snf1 : Int) (snf2 : Int) (snf3 : Int) (snf4 : Int) (snf5 : Int) (snf6 : Int) (snf7 : Int) (snf8 : Int) (sng : List (Int × Int)) (snh : Int) (p_W : Int) (p_H : Int) (p_P : List Int) (q_W : Int) (q_H : Int) (q_P : List (Int × Int × Int)) : Option (Int × Int × List Int × Int × Int × List (Int × Int × Int) × Int) :=
  Option.bind (D_tone_Sharpen N q_W q_H q_P snh) fun r2 =>
  some (p_W, p_H, p_P, r2.1, r2.2.1, r2.2.2.1, r2.2.2.2)
def D_line_Whole (N : Nat) (na : Int) (nb0 : Int) (nb1 : Int) (nb2 : Int) (nb3 : Int) (nc : Int) (nd : List (Int × Int)) (n_Gains0 : Int) (ne1 : Int) (ne2 : Int) (nf0 : Int) (nf1 : Int) (nf2 : Int) (nf3 : Int) (nf4 : Int) (nf5 : Int) (nf6 : Int) (nf7 : Int) (nf8 : Int) (ng : List (Int × Int)) (nh : Int) (p_W : Int) (p_H : Int) (p_P : List Int) : Option (Int × Int × List (Int × Int × Int) × Int) :=
  Option.bind (D_line_Check N na nb0 nb1 nb2 nb3 nc nd n_Gains0 ne1 ne2 nf0 nf1 nf2 nf3 nf4 nf5 nf6 nf7 nf8 ng nh) fun r2 =>
  cond (!decide (r2 = 0)) (
  some (0, 0, ([] : List (Int × Int × Int)), r2)) (
  Option.bind (D_line_level_work N na nb0 nb1 nb2 nb3 nc nd n_Gains0 ne1 ne2 nf0 nf1 nf2 nf3 nf4 nf5 nf6 nf7 nf8 ng nh p_W p_H p_P 0 0 (([] : List (Int × Int × Int)))) fun r3 =>
  cond (!decide (r3.2.2.2.2.2.2 = 0)) (
  some (0, 0, ([] : List (Int × Int × Int)), r3.2.2.2.2.2.2)) (
  Option.bind (D_line_repair_work N na nb0 nb1 nb2 nb3 nc nd n_Gains0 ne1 ne2 nf0 nf1 nf2 nf3 nf4 nf5 nf6 nf7 nf8 ng nh r3.1 r3.2.1 r3.2.2.1 r3.2.2.2.1 r3.2.2.2.2.1 (([] : List (Int × Int × Int)))) fun r4 =>
  cond (!decide (r4.2.2.2.2.2.2 = 0)) (
  some (0, 0, ([] : List (Int × Int × Int)), r4.2.2.2.2.2.2)) (
  Option.bind (D_line_gain_work N na nb0 nb1 nb2 nb3 nc nd n_Gains0 ne1 ne2 nf0 nf1 nf2 nf3 nf4 nf5 nf6 nf7 nf8 ng nh r4.1 r4.2.1 r4.2.2.1 r4.2.2.2.1 r4.2.2.2.2.1 (([] : List (Int × Int × Int)))) fun r5 =>
  cond (!decide (r5.2.2.2.2.2.2 = 0)) (
  some (0, 0, ([] : List (Int × Int × Int)), r5.2.2.2.2.2.2)) (
  Option.bind (D_line_fill_work N na nb0 nb1 nb2 nb3 nc nd n_Gains0 ne1 ne2 nf0 nf1 nf2 nf3 nf4 nf5 nf6 nf7 nf8 ng nh r5.1 r5.2.1 r5.2.2.1 r5.2.2.2.1 r5.2.2.2.2.1 (([] : List (Int × Int × Int)))) fun r6 =>
  cond (!decide (r6.2.2.2.2.2.2 = 0)) (
  some (0, 0, ([] : List (Int × Int × Int)), r6.2.2.2.2.2.2)) (
  Option.bind (D_line_mix_work N na nb0 nb1 nb2 nb3 nc nd n_Gains0 ne1 ne2 nf0 nf1 nf2 nf3 nf4 nf5 nf6 nf7 nf8 ng nh r6.1 r6.2.1 r5.2.2.1 r6.2.2.2.1 r6.2.2.2.2.1 r6.2.2.2.2.2.1) fun r7 =>
  cond (!decide (r7.2.2.2.2.2.2 = 0)) (
  some (0, 0, ([] : List (Int × Int × Int)), r7.2.2.2.2.2.2)) (
  Option.bind (D_line_bend_work N na nb0 nb1 nb2 nb3 nc nd n_Gains0 ne1 ne2 nf0 nf1 nf2 nf3 nf4 nf5 nf6 nf7 nf8 ng nh r7.1 r7.2.1 r5.2.2.1 r7.2.2.2.1 r7.2.2.2.2.1 r7.2.2.2.2.2.1) fun r8 =>
  cond (!decide (r8.2.2.2.2.2.2 = 0)) (
  some (0, 0, ([] : List (Int × Int × Int)), r8.2.2.2.2.2.2)) (
  Option.bind (D_line_sharpen_work N na nb0 nb1 nb2 nb3 nc nd n_Gains0 ne1 ne2 nf0 nf1 nf2 nf3 nf4 nf5 nf6 nf7 nf8 ng nh r8.1 r8.2.1 r5.2.2.1 r8.2.2.2.1 r8.2.2.2.2.1 r8.2.2.2.2.2.1) fun r9 =>
  cond (!decide (r9.2.2.2.2.2.2 = 0)) (
  some (0, 0, ([] : List (Int × Int × Int)), r9.2.2.2.2.2.2)) (
  some (r9.2.2.2.1, r9.2.2.2.2.1, r9.2.2.2.2.2.1, 0)))))))))
def D_darkslideref_within (N : Nat) (n : Int) (low : Int) (high : Int) : Option Bool :=
  cond (decide (low ≤ n)) (
  some (decide (n ≤ high))) (
  some false)
def D_darkslideref_CurveFine_l1 (N : Nat) (d : List (Int × Int)) (kk : Int → Option Bool) : Nat → Int → Option Bool
  | 0, _ => none
  | fuel + 1, i =>
    cond (decide (i < (d.length : Int))) (
    Option.bind (idx d i) fun e8 =>
    Option.bind (D_darkslideref_within N e8.2 0 65535) fun r4 =>
    cond (!(r4)) (
    some false) (
    cond (decide (0 < i)) (
    Option.bind (idx d i) fun e9 =>
    Option.bind (idx d (IntKind.i64.wrap (i - 1))) fun e10 =>
    cond (decide (e9.1 ≤ e10.1)) (
    some false) (
    Option.bind (idx d i) fun e11 =>
    Option.bind (idx d (IntKind.i64.wrap (i - 1))) fun e12 =>
    cond (decide (e11.2 < e12.2)) (
    some false) (
    Option.bind (some (IntKind.i64.wrap (i + 1))) fun x4 =>
    D_darkslideref_CurveFine_l1 N d kk fuel x4))) (
    Option.bind (some (IntKind.i64.wrap (i + 1))) fun x5 =>
    D_darkslideref_CurveFine_l1 N d kk fuel x5))) (
    kk i)
def D_darkslideref_CurveFine (N : Nat) (d : List (Int × Int)) : Option Bool :=
  Option.bind (D_darkslideref_within N (d.length : Int) 2 16) fun r2 =>
  cond (!(r2)) (
  some false) (
  Option.bind (idx d 0) fun e =>
  cond (!decide (e.1 = 0)) (
  some false) (
  Option.bind (idx d (IntKind.i64.wrap ((d.length : Int) - 1))) fun e2 =>
  cond (!decide (e2.1 = 65535)) (
  some false) (
  D_darkslideref_CurveFine_l1 N d (fun i2 =>
  some true) N 0)))
def D_darkslideref_OnCurve_l1 (N : Nat) (l2 : List (Int × Int)) (x2 : Int) (kk : Int → Option Int) : Nat → Int → Option Int
  | 0, _ => none
  | fuel + 1, i =>
    Option.bind (idx l2 i) fun e2 =>
    cond (decide (e2.1 < x2)) (
    Option.bind (some (IntKind.i64.wrap (i + 1))) fun i3 =>
    D_darkslideref_OnCurve_l1 N l2 x2 kk fuel i3) (
    kk i)
def D_darkslideref_OnCurve (N : Nat) (l2 : List (Int × Int)) (x2 : Int) : Option Int :=
  D_darkslideref_OnCurve_l1 N l2 x2 (fun i4 =>
  Option.bind (idx l2 (IntKind.i64.wrap (i4 - 1))) fun e3 =>
  Option.bind (idx l2 i4) fun e4 =>
  Option.bind (nz (IntKind.i64.wrap (e4.1 - e3.1))) fun _ =>
  Option.bind (some (IntKind.i64.wrap (e3.2 + (IntKind.i64.wrap (Int.tdiv (IntKind.i64.wrap ((IntKind.i64.wrap (e4.2 - e3.2)) * (IntKind.i64.wrap (x2 - e3.1)))) (IntKind.i64.wrap (e4.1 - e3.1))))))) fun x3 =>
  some x3) N 1
def D_darkslidelaw_line2 (N : Nat)  : Option (List (Int × Int)) :=
  some (([(0, 0), (65535, 65535)] : List (Int × Int)))
def D_darkslidelaw_plain (N : Nat)  : Option (Int × Int × Int × Int × Int × Int × List (Int × Int) × Int × Int × Int × Int × Int × Int × Int × Int × Int × Int × Int × Int × List (Int × Int) × Int) :=
  Option.bind (D_darkslidelaw_line2 N ) fun r2 =>
  some (0, 0, 0, 0, 0, 65535, ([] : List (Int × Int)), 256, 256, 256, 4096, 0, 0, 0, 4096, 0, 0, 0, 4096, r2, 64)
def D_darkslidelaw_tall_l1 (N : Nat)  (kk : (List Int × Int) → Option (Int × Int × List Int)) : Nat → (List Int × Int) → Option (Int × Int × List Int)
  | 0, _ => none
  | fuel + 1, (p_P, i) =>
    cond (decide (i < 24)) (
    Option.bind (app 8 p_P (([Int.tmod (IntKind.i64.wrap (i * 1000)) 7919] : List Int))) fun p_P3 =>
    Option.bind (some (IntKind.i64.wrap (i + 1))) fun i3 =>
    D_darkslidelaw_tall_l1 N  kk fuel (p_P3, i3)) (
    kk (p_P, i))
def D_darkslidelaw_tall (N : Nat)  : Option (Int × Int × List Int) :=
  D_darkslidelaw_tall_l1 N  (fun (p_P4, i4) =>
  some (2, 12, p_P4)) N (([] : List Int), 0)
def D_line_down_l1 (N : Nat) (nd : List (Int × Int)) (top : Int) (rows : Int) (kk : (List (Int × Int) × Int) → Option (Int × Int × Int × Int × Int × Int × List (Int × Int) × Int × Int × Int × Int × Int × Int × Int × Int × Int × Int × Int × Int × List (Int × Int) × Int)) : Nat → (List (Int × Int) × Int) → Option (Int × Int × Int × Int × Int × Int × List (Int × Int) × Int × Int × Int × Int × Int × Int × Int × Int × Int × Int × Int × Int × List (Int × Int) × Int)
  | 0, _ => none
  | fuel + 1, (l3, i) =>
    cond (decide (i < (nd.length : Int))) (
    Option.bind (idx nd i) fun e3 =>
    cond (decide (top ≤ e3.2)) (
    cond (decide (e3.2 < (IntKind.i64.wrap (top + rows)))) (
    Option.bind (app 16 l3 (([(e3.1, IntKind.i64.wrap (e3.2 - top))] : List (Int × Int)))) fun l5 =>
    D_line_down_l1 N nd top rows kk fuel (l5, IntKind.i64.wrap (i + 1))) (
    D_line_down_l1 N nd top rows kk fuel (l3, IntKind.i64.wrap (i + 1)))) (
    D_line_down_l1 N nd top rows kk fuel (l3, IntKind.i64.wrap (i + 1)))) (
    kk (l3, i))
def D_line_down_l2 (N : Nat) (nd : List (Int × Int)) (top : Int) (rows : Int) (kk : (List (Int × Int) × Int) → Option (Int × Int × Int × Int × Int × Int × List (Int × Int) × Int × Int × Int × Int × Int × Int × Int × Int × Int × Int × Int × Int × List (Int × Int) × Int)) : Nat → (List (Int × Int) × Int) → Option (Int × Int × Int × Int × Int × Int × List (Int × Int) × Int × Int × Int × Int × Int × Int × Int × Int × Int × Int × Int × Int × List (Int × Int) × Int)
  | 0, _ => none
  | fuel + 1, (l8, i3) =>
    cond (decide (i3 < (nd.length : Int))) (
    Option.bind (idx nd i3) fun e6 =>
    cond (decide (top ≤ e6.2)) (
    cond (decide (e6.2 < (IntKind.i64.wrap (top + rows)))) (
    Option.bind (app 16 l8 (([(e6.1, IntKind.i64.wrap (e6.2 - top))] : List (Int × Int)))) fun l10 =>
    D_line_down_l2 N nd top rows kk fuel (l10, IntKind.i64.wrap (i3 + 1))) (
    D_line_down_l2 N nd top rows kk fuel (l8, IntKind.i64.wrap (i3 + 1)))) (
    D_line_down_l2 N nd top rows kk fuel (l8, IntKind.i64.wrap (i3 + 1)))) (
    kk (l8, i3))
def D_line_down (N : Nat) (na : Int) (nb0 : Int) (nb1 : Int) (nb2 : Int) (nb3 : Int) (nc : Int) (nd : List (Int × Int)) (n_Gains0 : Int) (ne1 : Int) (ne2 : Int) (nf0 : Int) (nf1 : Int) (nf2 : Int) (nf3 : Int) (nf4 : Int) (nf5 : Int) (nf6 : Int) (nf7 : Int) (nf8 : Int) (ng : List (Int × Int)) (nh : Int) (top : Int) (rows : Int) : Option (Int × Int × Int × Int × Int × Int × List (Int × Int) × Int × Int × Int × Int × Int × Int × Int × Int × Int × Int × Int × Int × List (Int × Int) × Int) :=
  cond (decide ((Int.tmod top 2) = 1)) (
  D_line_down_l1 N nd top rows (fun (l6, i2) =>
  some (xorI .i64 na 2, nb2, nb3, nb0, nb1, nc, l6, n_Gains0, ne1, ne2, nf0, nf1, nf2, nf3, nf4, nf5, nf6, nf7, nf8, ng, nh)) N (([] : List (Int × Int)), 0)) (
  D_line_down_l2 N nd top rows (fun (l11, i4) =>
  some (na, nb0, nb1, nb2, nb3, nc, l11, n_Gains0, ne1, ne2, nf0, nf1, nf2, nf3, nf4, nf5, nf6, nf7, nf8, ng, nh)) N (([] : List (Int × Int)), 0))
def D_slices_Clone__api_Pixel_api_Pixel (N : Nat) (s : List (Int × Int × Int)) : Option (List (Int × Int × Int)) :=
  Option.bind (ne0 s) fun _ =>
  Option.bind (app 24 (([] : List (Int × Int × Int))) s) fun l2 =>
  some l2
def D_line_Part (N : Nat) (da : Int) (db0 : Int) (db1 : Int) (db2 : Int) (db3 : Int) (dc : Int) (dd : List (Int × Int)) (de0 : Int) (de1 : Int) (de2 : Int) (df0 : Int) (df1 : Int) (df2 : Int) (df3 : Int) (df4 : Int) (df5 : Int) (df6 : Int) (df7 : Int) (df8 : Int) (dg : List (Int × Int)) (dh : Int) (o_W : Int) (o_H : Int) (o_P : List Int) (p2 : Int) (p3 : Int) (p4 : Int) (p5 : Int) : Option (Int × Int × List (Int × Int × Int) × Int) :=
  Option.bind (D_line_Check N da db0 db1 db2 db3 dc dd de0 de1 de2 df0 df1 df2 df3 df4 df5 df6 df7 df8 dg dh) fun r2 =>
  cond (!decide (r2 = 0)) (
  some (0, 0, ([] : List (Int × Int × Int)), r2)) (
  Option.bind (D_sensor_Repair N o_W o_H o_P (([] : List (Int × Int)))) fun r3 =>
  cond (!decide (r3.2.2.2 = 0)) (
  some (0, 0, ([] : List (Int × Int × Int)), r3.2.2.2)) (
  Option.bind (D_line_in N 1 64 ([p3] : List Int)) fun r4 =>
  cond (!(r4)) (
  some (0, 0, ([] : List (Int × Int × Int)), 3)) (
  Option.bind (D_line_in N 0 (IntKind.i64.wrap (p3 - o_H)) ([p2] : List Int)) fun r5 =>
  cond (!(r5)) (
  some (0, 0, ([] : List (Int × Int × Int)), 3)) (
  Option.bind (D_line_in N 0 (IntKind.i64.wrap (p3 - 1)) ([p4] : List Int)) fun r6 =>
  cond (!(r6)) (
  some (0, 0, ([] : List (Int × Int × Int)), 3)) (
  Option.bind (D_line_in N (IntKind.i64.wrap (p4 + 1)) p3 ([p5] : List Int)) fun r7 =>
  cond (!(r7)) (
  some (0, 0, ([] : List (Int × Int × Int)), 3)) (
  cond (decide ((max (IntKind.i64.wrap (p4 - 4)) 0) < p2)) (
  some (0, 0, ([] : List (Int × Int × Int)), 3)) (
  cond (decide ((IntKind.i64.wrap (p2 + o_H)) < (min (IntKind.i64.wrap (p5 + 4)) p3))) (
  some (0, 0, ([] : List (Int × Int × Int)), 3)) (
  Option.bind (D_line_spots N dd o_W p3) fun r8 =>
  cond (!(r8)) (
  some (0, 0, ([] : List (Int × Int × Int)), 3)) (
  Option.bind (D_line_down N da db0 db1 db2 db3 dc dd de0 de1 de2 df0 df1 df2 df3 df4 df5 df6 df7 df8 dg dh p2 o_H) fun r9 =>
  Option.bind (D_line_Whole N r9.1 r9.2.1 r9.2.2.1 r9.2.2.2.1 r9.2.2.2.2.1 r9.2.2.2.2.2.1 r9.2.2.2.2.2.2.1 r9.2.2.2.2.2.2.2.1 r9.2.2.2.2.2.2.2.2.1 r9.2.2.2.2.2.2.2.2.2.1 r9.2.2.2.2.2.2.2.2.2.2.1 r9.2.2.2.2.2.2.2.2.2.2.2.1 r9.2.2.2.2.2.2.2.2.2.2.2.2.1 r9.2.2.2.2.2.2.2.2.2.2.2.2.2.1 r9.2.2.2.2.2.2.2.2.2.2.2.2.2.2.1 r9.2.2.2.2.2.2.2.2.2.2.2.2.2.2.2.1 r9.2.2.2.2.2.2.2.2.2.2.2.2.2.2.2.2.1 r9.2.2.2.2.2.2.2.2.2.2.2.2.2.2.2.2.2.1 r9.2.2.2.2.2.2.2.2.2.2.2.2.2.2.2.2.2.2.1 dg r9.2.2.2.2.2.2.2.2.2.2.2.2.2.2.2.2.2.2.2.2 o_W o_H o_P) fun r10 =>
  cond (!decide (r10.2.2.2 = 0)) (
  some (0, 0, ([] : List (Int × Int × Int)), r10.2.2.2)) (
  Option.bind (sli r10.2.2.1 (IntKind.i64.wrap ((IntKind.i64.wrap (p4 - p2)) * r10.1)) (IntKind.i64.wrap ((IntKind.i64.wrap (p5 - p2)) * r10.1))) fun l2 =>
  Option.bind (D_slices_Clone__api_Pixel_api_Pixel N l2) fun r11 =>
  some (r10.1, IntKind.i64.wrap (p5 - p4), r11, 0)))))))))))
def D_line_Strips_l1 (N : Nat) (da : Int) (db0 : Int) (db1 : Int) (db2 : Int) (db3 : Int) (dc : Int) (dd : List (Int × Int)) (de0 : Int) (de1 : Int) (de2 : Int) (df0 : Int) (df1 : Int) (df2 : Int) (df3 : Int) (df4 : Int) (df5 : Int) (df6 : Int) (df7 : Int) (df8 : Int) (dg : List (Int × Int)) (dh : Int) (o_W : Int) (o_H : Int) (o_P : List Int) (p2 : Int) (kk : (List (Int × Int × Int) × Int) → Option (Int × Int × List (Int × Int × Int) × Int)) : Nat → (List (Int × Int × Int) × Int) → Option (Int × Int × List (Int × Int × Int) × Int)
  | 0, _ => none
  | fuel + 1, (x_P, i) =>
    cond (decide (i < o_H)) (
    Option.bind (some (IntKind.i64.wrap (i + (min p2 (IntKind.i64.wrap (o_H - i)))))) fun x5 =>
    Option.bind (some (max (IntKind.i64.wrap (i - 4)) 0)) fun x6 =>
    Option.bind (some (min (IntKind.i64.wrap (x5 + 4)) o_H)) fun x7 =>
    Option.bind (sli o_P (IntKind.i64.wrap (x6 * o_W)) (IntKind.i64.wrap (x7 * o_W))) fun l3 =>
    Option.bind (D_line_Part N da db0 db1 db2 db3 dc dd de0 de1 de2 df0 df1 df2 df3 df4 df5 df6 df7 df8 dg dh o_W (IntKind.i64.wrap (x7 - x6)) l3 x6 o_H i x5) fun r6 =>
    cond (!decide (r6.2.2.2 = 0)) (
    some (0, 0, ([] : List (Int × Int × Int)), r6.2.2.2)) (
    Option.bind (app 24 x_P r6.2.2.1) fun x_P4 =>
    D_line_Strips_l1 N da db0 db1 db2 db3 dc dd de0 de1 de2 df0 df1 df2 df3 df4 df5 df6 df7 df8 dg dh o_W o_H o_P p2 kk fuel (x_P4, x5))) (
    kk (x_P, i))
def D_line_Strips (N : Nat) (da : Int) (db0 : Int) (db1 : Int) (db2 : Int) (db3 : Int) (dc : Int) (dd : List (Int × Int)) (de0 : Int) (de1 : Int) (de2 : Int) (df0 : Int) (df1 : Int) (df2 : Int) (df3 : Int) (df4 : Int) (df5 : Int) (df6 : Int) (df7 : Int) (df8 : Int) (dg : List (Int × Int)) (dh : Int) (o_W : Int) (o_H : Int) (o_P : List Int) (p2 : Int) : Option (Int × Int × List (Int × Int × Int) × Int) :=
  Option.bind (D_line_Check N da db0 db1 db2 db3 dc dd de0 de1 de2 df0 df1 df2 df3 df4 df5 df6 df7 df8 dg dh) fun r2 =>
  cond (!decide (r2 = 0)) (
  some (0, 0, ([] : List (Int × Int × Int)), r2)) (
  Option.bind (D_sensor_Repair N o_W o_H o_P dd) fun r3 =>
  cond (!decide (r3.2.2.2 = 0)) (
  some (0, 0, ([] : List (Int × Int × Int)), r3.2.2.2)) (
  cond (decide (p2 < 1)) (
  some (0, 0, ([] : List (Int × Int × Int)), 3)) (
  D_line_Strips_l1 N da db0 db1 db2 db3 dc dd de0 de1 de2 df0 df1 df2 df3 df4 df5 df6 df7 df8 dg dh o_W o_H o_P p2 (fun (x_P6, i2) =>
  some (o_W, o_H, x_P6, 0)) N (([] : List (Int × Int × Int)), 0))))
def D_darkslideref_SamePictures_l1 (N : Nat) (a_P : List (Int × Int × Int)) (b_P : List (Int × Int × Int)) (kk : Int → Option Bool) : Nat → Int → Option Bool
  | 0, _ => none
  | fuel + 1, i =>
    cond (decide (i < (a_P.length : Int))) (
    Option.bind (idx a_P i) fun e3 =>
    Option.bind (idx b_P i) fun e4 =>
    cond (!(decide (e3.1 = e4.1) && decide (e3.2.1 = e4.2.1) && decide (e3.2.2 = e4.2.2))) (
    some false) (
    Option.bind (some (IntKind.i64.wrap (i + 1))) fun i3 =>
    D_darkslideref_SamePictures_l1 N a_P b_P kk fuel i3)) (
    kk i)
def D_darkslideref_SamePictures (N : Nat) (a_W : Int) (a_H : Int) (a_P : List (Int × Int × Int)) (b_W : Int) (b_H : Int) (b_P : List (Int × Int × Int)) : Option Bool :=
  cond (!decide (a_W = b_W)) (
  some false) (
  cond (!decide (a_H = b_H)) (
  some false) (
  cond (!decide ((a_P.length : Int) = (b_P.length : Int))) (
  some false) (
  D_darkslideref_SamePictures_l1 N a_P b_P (fun i4 =>
  some true) N 0)))
def D_darkslidelaw_lineBegun (N : Nat)  : Option Bool :=
  Option.bind (D_darkslidelaw_plain N ) fun r2 =>
  Option.bind (D_darkslidelaw_tall N ) fun r3 =>
  Option.bind (D_line_Whole N r2.1 r2.2.1 r2.2.2.1 r2.2.2.2.1 r2.2.2.2.2.1 r2.2.2.2.2.2.1 r2.2.2.2.2.2.2.1 r2.2.2.2.2.2.2.2.1 r2.2.2.2.2.2.2.2.2.1 r2.2.2.2.2.2.2.2.2.2.1 r2.2.2.2.2.2.2.2.2.2.2.1 r2.2.2.2.2.2.2.2.2.2.2.2.1 r2.2.2.2.2.2.2.2.2.2.2.2.2.1 r2.2.2.2.2.2.2.2.2.2.2.2.2.2.1 r2.2.2.2.2.2.2.2.2.2.2.2.2.2.2.1 r2.2.2.2.2.2.2.2.2.2.2.2.2.2.2.2.1 r2.2.2.2.2.2.2.2.2.2.2.2.2.2.2.2.2.1 r2.2.2.2.2.2.2.2.2.2.2.2.2.2.2.2.2.2.1 r2.2.2.2.2.2.2.2.2.2.2.2.2.2.2.2.2.2.2.1 r2.2.2.2.2.2.2.2.2.2.2.2.2.2.2.2.2.2.2.2.1 r2.2.2.2.2.2.2.2.2.2.2.2.2.2.2.2.2.2.2.2.2 r3.1 r3.2.1 r3.2.2) fun r4 =>
  Option.bind (D_darkslidelaw_plain N ) fun r5 =>
  Option.bind (D_darkslidelaw_tall N ) fun r6 =>
  Option.bind (D_line_Strips N r5.1 r5.2.1 r5.2.2.1 r5.2.2.2.1 r5.2.2.2.2.1 r5.2.2.2.2.2.1 r5.2.2.2.2.2.2.1 r5.2.2.2.2.2.2.2.1 r5.2.2.2.2.2.2.2.2.1 r5.2.2.2.2.2.2.2.2.2.1 r5.2.2.2.2.2.2.2.2.2.2.1 r5.2.2.2.2.2.2.2.2.2.2.2.1 r5.2.2.2.2.2.2.2.2.2.2.2.2.1 r5.2.2.2.2.2.2.2.2.2.2.2.2.2.1 r5.2.2.2.2.2.2.2.2.2.2.2.2.2.2.1 r5.2.2.2.2.2.2.2.2.2.2.2.2.2.2.2.1 r5.2.2.2.2.2.2.2.2.2.2.2.2.2.2.2.2.1 r5.2.2.2.2.2.2.2.2.2.2.2.2.2.2.2.2.2.1 r5.2.2.2.2.2.2.2.2.2.2.2.2.2.2.2.2.2.2.1 r5.2.2.2.2.2.2.2.2.2.2.2.2.2.2.2.2.2.2.2.1 r5.2.2.2.2.2.2.2.2.2.2.2.2.2.2.2.2.2.2.2.2 r6.1 r6.2.1 r6.2.2 5) fun r7 =>
  Option.bind (D_darkslidelaw_plain N ) fun r8 =>
  Option.bind (D_darkslidelaw_tall N ) fun r9 =>
  Option.bind (sli r9.2.2 6 (r9.2.2.length : Int)) fun l2 =>
  Option.bind (D_line_Part N r8.1 r8.2.1 r8.2.2.1 r8.2.2.2.1 r8.2.2.2.2.1 r8.2.2.2.2.2.1 r8.2.2.2.2.2.2.1 r8.2.2.2.2.2.2.2.1 r8.2.2.2.2.2.2.2.2.1 r8.2.2.2.2.2.2.2.2.2.1 r8.2.2.2.2.2.2.2.2.2.2.1 r8.2.2.2.2.2.2.2.2.2.2.2.1 r8.2.2.2.2.2.2.2.2.2.2.2.2.1 r8.2.2.2.2.2.2.2.2.2.2.2.2.2.1 r8.2.2.2.2.2.2.2.2.2.2.2.2.2.2.1 r8.2.2.2.2.2.2.2.2.2.2.2.2.2.2.2.1 r8.2.2.2.2.2.2.2.2.2.2.2.2.2.2.2.2.1 r8.2.2.2.2.2.2.2.2.2.2.2.2.2.2.2.2.2.1 r8.2.2.2.2.2.2.2.2.2.2.2.2.2.2.2.2.2.2.1 r8.2.2.2.2.2.2.2.2.2.2.2.2.2.2.2.2.2.2.2.1 r8.2.2.2.2.2.2.2.2.2.2.2.2.2.2.2.2.2.2.2.2 2 9 l2 3 12 7 9) fun r10 =>
  Option.bind (D_darkslidelaw_plain N ) fun r11 =>
  Option.bind (D_line_Check N r11.1 r11.2.1 r11.2.2.1 r11.2.2.2.1 r11.2.2.2.2.1 r11.2.2.2.2.2.1 r11.2.2.2.2.2.2.1 r11.2.2.2.2.2.2.2.1 r11.2.2.2.2.2.2.2.2.1 r11.2.2.2.2.2.2.2.2.2.1 r11.2.2.2.2.2.2.2.2.2.2.1 r11.2.2.2.2.2.2.2.2.2.2.2.1 r11.2.2.2.2.2.2.2.2.2.2.2.2.1 r11.2.2.2.2.2.2.2.2.2.2.2.2.2.1 r11.2.2.2.2.2.2.2.2.2.2.2.2.2.2.1 r11.2.2.2.2.2.2.2.2.2.2.2.2.2.2.2.1 r11.2.2.2.2.2.2.2.2.2.2.2.2.2.2.2.2.1 r11.2.2.2.2.2.2.2.2.2.2.2.2.2.2.2.2.2.1 r11.2.2.2.2.2.2.2.2.2.2.2.2.2.2.2.2.2.2.1 r11.2.2.2.2.2.2.2.2.2.2.2.2.2.2.2.2.2.2.2.1 r11.2.2.2.2.2.2.2.2.2.2.2.2.2.2.2.2.2.2.2.2) fun r12 =>
  cond (decide (r12 = 0)) (
  Option.bind (D_line_Check N 0 0 0 0 0 0 (([] : List (Int × Int))) 0 0 0 0 0 0 0 0 0 0 0 0 (([] : List (Int × Int))) 0) fun r13 =>
  cond (decide (r13 = 3)) (
  cond (decide (r4.2.2.2 = 0)) (
  cond (decide (r7.2.2.2 = 0)) (
  cond (decide (r10.2.2.2 = 0)) (
  cond (decide ((r4.2.2.1.length : Int) = 24)) (
  Option.bind (D_darkslideref_SamePictures N r7.1 r7.2.1 r7.2.2.1 r4.1 r4.2.1 r4.2.2.1) fun r14 =>
  cond (r14) (
  cond (decide (r10.2.1 = 2)) (
  cond (decide ((r10.2.2.1.length : Int) = 4)) (
  Option.bind (idx r10.2.2.1 0) fun e =>
  Option.bind (idx r4.2.2.1 14) fun e2 =>
  some (decide (e.1 = e2.1) && decide (e.2.1 = e2.2.1) && decide (e.2.2 = e2.2.2))) (
  some false)) (
  some false)) (
  some false)) (
  some false)) (
  some false)) (
  some false)) (
  some false)) (
  some false)) (
  some false)
def D_darkslidelaw_choose (N : Nat) (c : Int) (n : Int) : Option Int :=
  cond (decide (c < 0)) (
  Option.bind (some (IntKind.i64.wrap (0 - (IntKind.i64.wrap (c + 1))))) fun c2 =>
  Option.bind (nz n) fun _ =>
  some (Int.tmod c2 n)) (
  Option.bind (nz n) fun _ =>
  some (Int.tmod c n))
def D_darkslidelaw_LineFar_l1 (N : Nat) (o_W : Int) (o_P : List Int) (r2 : Int × Int × List (Int × Int × Int) × Int) (r4 : Int) (r6 : Int × Int × List (Int × Int × Int) × Int) (kk : Int → Option Bool) : Nat → Int → Option Bool
  | 0, _ => none
  | fuel + 1, i =>
    cond (decide (i < (o_P.length : Int))) (
    Option.bind (nz o_W) fun _ =>
    Option.bind (nz o_W) fun _ =>
    Option.bind (some (IntKind.i64.wrap ((IntKind.i64.wrap (Int.tdiv i o_W)) - (IntKind.i64.wrap (Int.tdiv r4 o_W))))) fun x6 =>
    cond (decide (4 < x6)) (
    Option.bind (idx r2.2.2.1 i) fun e6 =>
    Option.bind (idx r6.2.2.1 i) fun e7 =>
    cond (!(decide (e6.1 = e7.1) && decide (e6.2.1 = e7.2.1) && decide (e6.2.2 = e7.2.2))) (
    some false) (
    Option.bind (some (IntKind.i64.wrap (i + 1))) fun x7 =>
    D_darkslidelaw_LineFar_l1 N o_W o_P r2 r4 r6 kk fuel x7)) (
    cond (decide (x6 < (-4))) (
    Option.bind (idx r2.2.2.1 i) fun e8 =>
    Option.bind (idx r6.2.2.1 i) fun e9 =>
    cond (!(decide (e8.1 = e9.1) && decide (e8.2.1 = e9.2.1) && decide (e8.2.2 = e9.2.2))) (
    some false) (
    Option.bind (some (IntKind.i64.wrap (i + 1))) fun x8 =>
    D_darkslidelaw_LineFar_l1 N o_W o_P r2 r4 r6 kk fuel x8)) (
    Option.bind (some (IntKind.i64.wrap (i + 1))) fun x9 =>
    D_darkslidelaw_LineFar_l1 N o_W o_P r2 r4 r6 kk fuel x9))) (
    kk i)
def D_darkslidelaw_LineFar (N : Nat) (da : Int) (db0 : Int) (db1 : Int) (db2 : Int) (db3 : Int) (dc : Int) (dd : List (Int × Int)) (de0 : Int) (de1 : Int) (de2 : Int) (df0 : Int) (df1 : Int) (df2 : Int) (df3 : Int) (df4 : Int) (df5 : Int) (df6 : Int) (df7 : Int) (df8 : Int) (dg : List (Int × Int)) (dh : Int) (o_W : Int) (o_H : Int) (o_P : List Int) (p2 : Int) (p3 : Int) : Option Bool :=
  Option.bind (D_line_Whole N da db0 db1 db2 db3 dc dd de0 de1 de2 df0 df1 df2 df3 df4 df5 df6 df7 df8 dg dh o_W o_H o_P) fun r2 =>
  cond (!decide (r2.2.2.2 = 0)) (
  Option.bind (D_darkslidelaw_lineBegun N ) fun r3 =>
  some r3) (
  cond (decide ((o_P.length : Int) = 0)) (
  some false) (
  Option.bind (D_darkslidelaw_choose N p2 (o_P.length : Int)) fun r4 =>
  Option.bind (app 8 ([] : List Int) o_P) fun l2 =>
  Option.bind (D_darkslidelaw_choose N p3 65536) fun r5 =>
  Option.bind (idx l2 r4) fun e =>
  Option.bind (setL l2 r4 r5) fun l3 =>
  Option.bind (D_line_Whole N da db0 db1 db2 db3 dc dd de0 de1 de2 df0 df1 df2 df3 df4 df5 df6 df7 df8 dg dh o_W o_H l3) fun r6 =>
  cond (!decide (r6.2.2.2 = 0)) (
  some false) (
  cond (!decide ((r2.2.2.1.length : Int) = (o_P.length : Int))) (
  some false) (
  cond (!decide ((r6.2.2.1.length : Int) = (o_P.length : Int))) (
  some false) (
  D_darkslidelaw_LineFar_l1 N o_W o_P r2 r4 r6 (fun i2 =>
  Option.bind (D_darkslidelaw_lineBegun N ) fun r7 =>
  some r7) N 0)))))
end Go.Proofs.Ytpmnfhifmmfglab

namespace Go.Proofs.Ytpmnfhifmmfglab
open Go
theorem w64 {x : Int} (h : -9223372036854775808 ≤ x ∧ x ≤ 9223372036854775807) : IntKind.i64.wrap x = x := IntWalk.i64_in x h
theorem idx_nat {α : Type} (xs : List α) (k : Nat) : idx xs (k : Int) = xs[k]? := by simp [idx]
theorem sli_eq {α : Type} {xs : List α} {p q : Int} (h : 0 ≤ p ∧ p ≤ q ∧ q ≤ xs.length) : sli xs p q = some ((xs.take q.toNat).drop p.toNat) := by unfold sli; rw [if_pos h]
theorem app_eq {α : Type} {b : Nat} {xs ys : List α} (h : (xs.length + ys.length) * b ≤ 140737488355328) : app b xs ys = some (xs ++ ys) := by unfold app; rw [if_pos h]
theorem mk_eq {α : Type} {b : Nat} {n : Int} {z : α} (h : 0 ≤ n ∧ n * b ≤ 281474976710656) : mk b n z = some (List.replicate n.toNat z) := by unfold mk; rw [if_pos h]
theorem setL_eq {α : Type} {xs : List α} {i : Int} {x : α} (h : 0 ≤ i ∧ i < xs.length) : setL xs i x = some (xs.set i.toNat x) := by unfold setL; rw [if_pos h]
theorem nz_eq {n : Int} (h : n ≠ 0) : nz n = some () := by unfold nz; rw [if_neg h]
theorem bsome {α β : Type} (x : α) (f : α → Option β) : Option.bind (some x) f = f x := rfl
theorem cT {α : Type} {b : Bool} (h : b = true) (x y : α) : cond b x y = x := by rw [h]; rfl
theorem cF {α : Type} {b : Bool} (h : b = false) (x y : α) : cond b x y = y := by rw [h]; rfl
theorem dT {p : Prop} [Decidable p] (h : p) : decide p = true := decide_eq_true h
theorem dF {p : Prop} [Decidable p] (h : ¬ p) : decide p = false := decide_eq_false h
end Go.Proofs.Ytpmnfhifmmfglab

namespace Go.Proofs.Ytpmnfhifmmfglab
open Go
def okPx (p : Int × Int × Int) : Bool := decide (0 ≤ p.1 ∧ p.1 ≤ 65535 ∧ 0 ≤ p.2.1 ∧ p.2.1 ≤ 65535 ∧ 0 ≤ p.2.2 ∧ p.2.2 ≤ 65535)
def sideOK (W H : Int) (n : Nat) : Prop := 1 ≤ W ∧ W ≤ 64 ∧ 1 ≤ H ∧ H ≤ 64 ∧ (n : Int) = W * H
instance (W H : Int) (n : Nat) : Decidable (sideOK W H n) := by unfold sideOK; infer_instance
def picF (W H : Int) (P : List (Int × Int × Int)) : Bool := decide (sideOK W H P.length) && P.all okPx
theorem mul_bd {W H : Int} (h : 1 ≤ W ∧ W ≤ 64 ∧ 1 ≤ H ∧ H ≤ 64) : 1 ≤ W * H ∧ W * H ≤ 4096 := by
  obtain ⟨h1, h2, h3, h4⟩ := h
  have a := Int.mul_le_mul h2 h4 (by omega) (by omega)
  have b := Int.mul_le_mul h1 h3 (by omega) (by omega)
  omega
theorem side_len {W H : Int} {n : Nat} (h : sideOK W H n) : n ≤ 4096 ∧ 1 ≤ n := by
  obtain ⟨h1, h2, h3, h4, h5⟩ := h
  have := mul_bd ⟨h1, h2, h3, h4⟩
  omega
theorem picF_side {W H : Int} {P : List (Int × Int × Int)} (h : picF W H P = true) : sideOK W H P.length := by
  simp only [picF, Bool.and_eq_true, decide_eq_true_eq] at h; exact h.1
theorem picF_all {W H : Int} {P : List (Int × Int × Int)} (h : picF W H P = true) {k : Nat} {p : Int × Int × Int} (hk : P[k]? = some p) : 0 ≤ p.1 ∧ p.1 ≤ 65535 ∧ 0 ≤ p.2.1 ∧ p.2.1 ≤ 65535 ∧ 0 ≤ p.2.2 ∧ p.2.2 ≤ 65535 := by
  simp only [picF, Bool.and_eq_true] at h
  have := List.all_eq_true.1 h.2 p (List.mem_of_getElem? hk)
  simpa [okPx] using this
abbrev Px := Int × Int × Int
def px0 : Px := (0, 0, 0)
/-- The rows of a picture of W columns and H rows, out of its pixels by place. -/
def mkL (W H : Nat) (f : Nat → Nat → Px) : List Px := (List.range (W * H)).map fun i => f (i % W) (i / W)
theorem mkL_len (W H : Nat) (f : Nat → Nat → Px) : (mkL W H f).length = W * H := by simp [mkL]
theorem lt_of_place {W H i : Nat} (h : i < W * H) : i % W < W ∧ i / W < H ∧ 0 < W := by
  have hW : 0 < W := by
    rcases Nat.eq_zero_or_pos W with h0 | h0
    · subst h0; simp at h
    · exact h0
  exact ⟨Nat.mod_lt _ hW, Nat.div_lt_of_lt_mul h, hW⟩
def pxOf (P : List Px) (W : Nat) (x y : Nat) : Px := P.getD (y * W + x) px0
theorem dm {W x : Nat} (y : Nat) (h : x < W) : (y * W + x) % W = x ∧ (y * W + x) / W = y := by
  have h1 : (y * W + x) % W = x := by rw [Nat.add_comm, Nat.add_mul_mod_self_right, Nat.mod_eq_of_lt h]
  have h2 : (y * W + x) / W = y := by rw [Nat.add_comm, Nat.add_mul_div_right _ _ (by omega), Nat.div_eq_of_lt h, Nat.zero_add]
  exact ⟨h1, h2⟩
theorem place_lt {W H x y : Nat} (hx : x < W) (hy : y < H) : y * W + x < W * H := by
  have := Nat.mul_le_mul_right W (show y + 1 ≤ H from hy)
  rw [Nat.add_mul, Nat.one_mul, Nat.mul_comm H W] at this
  omega
theorem tdm {W : Nat} (k : Nat) (hW : 0 < W) : Int.tmod (k : Int) (W : Int) = ((k % W : Nat) : Int) ∧ Int.tdiv (k : Int) (W : Int) = ((k / W : Nat) : Int) := by
  constructor
  · rw [Int.tmod_eq_emod_of_nonneg (by omega)]; rfl
  · rw [Int.tdiv_eq_ediv_of_nonneg (by omega)]; rfl
theorem side_nat (W H : Nat) (P : List Px) (hs : sideOK W H P.length) : 1 ≤ W ∧ W ≤ 64 ∧ 1 ≤ H ∧ H ≤ 64 ∧ P.length = W * H ∧ W * H ≤ 4096 := by
  obtain ⟨h1, h2, h3, h4, h5⟩ := hs
  have h6 : P.length = W * H := by exact_mod_cast h5
  have h7 := Nat.mul_le_mul (show W ≤ 64 by omega) (show H ≤ 64 by omega)
  exact ⟨by omega, by omega, by omega, by omega, h6, by omega⟩
theorem mkL_side {W H : Nat} (h : 1 ≤ W ∧ W ≤ 64 ∧ 1 ≤ H ∧ H ≤ 64) (f : Nat → Nat → Px) : sideOK (W : Int) (H : Int) (mkL W H f).length := by
  rw [mkL_len]
  exact ⟨by omega, by omega, by omega, by omega, by rw [Int.natCast_mul]⟩
/-- A list by its places, as far as it has come. -/
def pre {α : Type} (W : Nat) (f : Nat → Nat → α) (n : Nat) : List α := (List.range n).map fun k => f (k % W) (k / W)
theorem pre_len {α : Type} (W : Nat) (f : Nat → Nat → α) (n : Nat) : (pre W f n).length = n := by simp [pre]
theorem pre_succ {α : Type} {W : Nat} (f : Nat → Nat → α) (y : Nat) {x : Nat} (hx : x < W) : pre W f (y * W + (x + 1)) = pre W f (y * W + x) ++ [f x y] := by
  obtain ⟨h1, h2⟩ := dm y hx
  rw [show y * W + (x + 1) = (y * W + x) + 1 by omega, pre, List.range_succ, List.map_append, List.map_singleton, h1, h2]; rfl
theorem pre_row {α : Type} {W : Nat} (f : Nat → Nat → α) (y : Nat) : pre W f (y * W + W) = pre W f ((y + 1) * W + 0) := by
  rw [Nat.add_mul, Nat.one_mul]; rfl
theorem picF_mk {W H : Nat} {f : Nat → Nat → Px} (h : 1 ≤ W ∧ W ≤ 64 ∧ 1 ≤ H ∧ H ≤ 64) (hf : ∀ x y, x < W → y < H → okPx (f x y) = true) : picF W H (mkL W H f) = true := by
  simp only [picF, Bool.and_eq_true, decide_eq_true_eq]
  refine ⟨mkL_side h f, List.all_eq_true.2 fun p hp => ?_⟩
  obtain ⟨i, hi, rfl⟩ := List.mem_map.1 hp
  obtain ⟨h1, h2, _⟩ := lt_of_place (List.mem_range.1 hi)
  exact hf _ _ h1 h2
theorem okPx_of {W H : Int} {P : List Px} (hp : picF W H P = true) {i : Nat} {p : Px} (hi : P[i]? = some p) : okPx p = true := by
  have := picF_all hp hi; simpa [okPx] using this
theorem mul_in {x y : Int} {a b : Nat} (hx : -(a : Int) ≤ x ∧ x ≤ a) (hy : -(b : Int) ≤ y ∧ y ≤ b) : -((a * b : Nat) : Int) ≤ x * y ∧ x * y ≤ ((a * b : Nat) : Int) := by
  have h1 : x.natAbs ≤ a := by omega
  have h2 : y.natAbs ≤ b := by omega
  have h3 := Nat.mul_le_mul h1 h2
  rw [← Int.natAbs_mul] at h3
  omega
theorem fill_step {α : Type} (g : Nat → α) (z : α) {n k : Nat} (hk : k < n) : setL ((List.range k).map g ++ List.replicate (n - k) z) (k : Int) (g k) = some ((List.range (k + 1)).map g ++ List.replicate (n - (k + 1)) z) := by
  rw [setL_eq (by simp; omega), Int.toNat_natCast]
  obtain ⟨m, rfl⟩ : ∃ m, n = k + 1 + m := ⟨n - (k + 1), by omega⟩
  rw [show k + 1 + m - k = m + 1 by omega, show k + 1 + m - (k + 1) = m by omega, List.range_succ, List.map_append, List.append_assoc, List.replicate_succ]
  congr 1
  rw [List.set_append_right _ _ (by simp)]
  simp
theorem shr_eq (m : Int) (n : Nat) (hn : n ≤ 64) : shrI .i64 m (n : Int) = m / 2 ^ n := by
  unfold shrI
  rw [Int.toNat_natCast, show min n IntKind.i64.bits = n from Nat.min_eq_left hn]
  exact Int.fdiv_eq_ediv_of_nonneg _ (Int.le_of_lt (Int.pow_pos (by decide)))
theorem shr8 (m : Int) : shrI .i64 m 8 = m / 256 := shr_eq m 8 (by decide)
end Go.Proofs.Ytpmnfhifmmfglab

namespace Go.Proofs.Ytpmnfhifmmfglab
open Go
theorem fine_l1 (N : Nat) (P : List (Int × Int × Int)) (kk : Int → Option Bool) (hP : P.length ≤ 4096) : ∀ (d k fuel : Nat), k + d = P.length → d < fuel → D_mosaic_fine_l1 N P kk fuel (k : Int) = if (P.drop k).all okPx then kk P.length else some false := by
  intro d
  induction d with
  | zero =>
    intro k fuel hk hf
    obtain ⟨fuel, rfl⟩ : ∃ m, fuel = m + 1 := ⟨fuel - 1, by omega⟩
    have hk' : k = P.length := by omega
    subst hk'
    unfold D_mosaic_fine_l1
    rw [cF (dF (by omega))]
    simp
  | succ d ih =>
    intro k fuel hk hf
    obtain ⟨fuel, rfl⟩ : ∃ m, fuel = m + 1 := ⟨fuel - 1, by omega⟩
    have hlt : k < P.length := by omega
    obtain ⟨⟨x, y, z⟩, hx⟩ : ∃ p, P[k]? = some p := ⟨P[k], List.getElem?_eq_getElem hlt⟩
    unfold D_mosaic_fine_l1
    rw [cT (dT (by omega)), idx_nat, hx, bsome, w64 (by omega)]
    have hd : P.drop k = (x, y, z) :: P.drop (k + 1) := by
      rw [List.drop_eq_getElem_cons hlt]
      congr 1
      exact (List.getElem?_eq_some_iff.1 hx).2
    rw [hd, List.all_cons]
    have hih := ih (k + 1) fuel (by omega) (by omega)
    by_cases h1 : min (min x y) z < 0
    · rw [cT (dT h1)]
      have : okPx (x, y, z) = false := by simp only [okPx, decide_eq_false_iff_not]; omega
      simp [this]
    · rw [cF (dF h1)]
      by_cases h2 : 65535 < max (max x y) z
      · rw [cT (dT h2)]
        have : okPx (x, y, z) = false := by simp only [okPx, decide_eq_false_iff_not]; omega
        simp [this]
      · rw [cF (dF h2)]
        have : okPx (x, y, z) = true := by simp only [okPx, decide_eq_true_eq]; omega
        rw [this, Bool.true_and, ← hih]
        rfl
theorem fine_eq (N : Nat) (W H : Int) (P : List (Int × Int × Int)) (hN : 5000 ≤ N) : D_mosaic_fine N W H P = some (picF W H P) := by
  unfold D_mosaic_fine
  have no : ¬ sideOK W H P.length → picF W H P = false := fun h => by simp [picF, h]
  by_cases h1 : W < 1
  · rw [cT (dT h1), no (fun h => by unfold sideOK at h; omega)]
  rw [cF (dF h1)]
  by_cases h2 : 64 < W
  · rw [cT (dT h2), no (fun h => by unfold sideOK at h; omega)]
  rw [cF (dF h2)]
  by_cases h3 : H < 1
  · rw [cT (dT h3), no (fun h => by unfold sideOK at h; omega)]
  rw [cF (dF h3)]
  by_cases h4 : 64 < H
  · rw [cT (dT h4), no (fun h => by unfold sideOK at h; omega)]
  rw [cF (dF h4)]
  have hb := mul_bd (W := W) (H := H) (by omega)
  rw [w64 (by omega)]
  by_cases h5 : (P.length : Int) = W * H
  · rw [cF (by simp [h5])]
    have hs : sideOK W H P.length := ⟨by omega, by omega, by omega, by omega, h5⟩
    refine (fine_l1 N P _ (by omega) P.length 0 N (by omega) (by omega)).trans ?_
    simp only [picF, hs, decide_true, Bool.true_and, List.drop_zero]
    cases P.all okPx <;> rfl
  · rw [cT (by simp [h5]), no (fun h => h5 h.2.2.2.2)]
theorem within_eq (N : Nat) (n lo hi : Int) : D_darkslideref_within N n lo hi = some (decide (lo ≤ n ∧ n ≤ hi)) := by
  unfold D_darkslideref_within
  by_cases h1 : lo ≤ n
  · rw [cT (dT h1)]; simp [h1]
  · rw [cF (dF h1)]; simp [h1]
end Go.Proofs.Ytpmnfhifmmfglab

namespace Go.Proofs.Ytpmnfhifmmfglab
open Go
theorem colour_some (N : Nat) (phase x y : Int) : ∃ r, D_sensor_Colour N phase x y = some r := by
  unfold D_sensor_Colour
  by_cases h1 : phase < 0
  · rw [cT (dT h1)]; exact ⟨_, rfl⟩
  rw [cF (dF h1)]
  by_cases h2 : 3 < phase
  · rw [cT (dT h2)]; exact ⟨_, rfl⟩
  rw [cF (dF h2)]
  by_cases h3 : x < 0
  · rw [cT (dT h3)]; exact ⟨_, rfl⟩
  rw [cF (dF h3)]
  by_cases h4 : y < 0
  · rw [cT (dT h4)]; exact ⟨_, rfl⟩
  rw [cF (dF h4)]
  exact ⟨_, rfl⟩
/-- Take goes through, whatever it takes. -/
theorem take_l1 (N : Nat) (W : Int) (P : List (Int × Int × Int)) (phase : Int) (kk : (List Int × Int) → Option (Int × Int × List Int × Int)) (hW : 1 ≤ W) (hP : P.length ≤ 4096) : ∀ (d k fuel : Nat) (l : List Int), k + d = P.length → d < fuel → l.length = k → ∃ l', D_mosaic_Take_l1 N W P phase kk fuel (l, (k : Int)) = kk (l', (P.length : Int)) := by
  intro d
  induction d with
  | zero =>
    intro k fuel l hk hf hl
    obtain ⟨fuel, rfl⟩ : ∃ m, fuel = m + 1 := ⟨fuel - 1, by omega⟩
    have hk' : k = P.length := by omega
    subst hk'
    refine ⟨l, ?_⟩
    unfold D_mosaic_Take_l1
    rw [cF (dF (by omega))]
  | succ d ih =>
    intro k fuel l hk hf hl
    obtain ⟨fuel, rfl⟩ : ∃ m, fuel = m + 1 := ⟨fuel - 1, by omega⟩
    have hlt : k < P.length := by omega
    unfold D_mosaic_Take_l1
    obtain ⟨r, hr⟩ := colour_some N phase (Int.tmod k W) (IntKind.i64.wrap (Int.tdiv k W))
    rw [cT (dT (by omega)), nz_eq (by omega), bsome, bsome, hr, bsome, idx_nat, List.getElem?_eq_getElem hlt, bsome]
    rw [app_eq (by simp; omega), app_eq (by simp; omega), app_eq (by simp; omega), bsome, bsome, bsome, w64 (by omega)]
    have key : ∀ x : Int, ∃ l', D_mosaic_Take_l1 N W P phase kk fuel (l ++ [x], (k : Int) + 1) = kk (l', (P.length : Int)) := fun x => ih (k + 1) fuel (l ++ [x]) (by omega) (by omega) (by simp [hl])
    cases decide (r.1 = 0)
    · cases decide (r.1 = 1)
      · exact key _
      · exact key _
    · exact key _
theorem take_code (N : Nat) (W H : Int) (P : List (Int × Int × Int)) (hN : 5000 ≤ N) : ∃ a b l, D_mosaic_Take N W H P 0 = some (a, b, l, if picF W H P then 0 else 1) := by
  unfold D_mosaic_Take
  rw [fine_eq N W H P hN, bsome]
  cases hp : picF W H P
  · exact ⟨_, _, _, rfl⟩
  · have hs := picF_side hp
    have hl := side_len hs
    rw [cF (by rfl), cF (by rfl), cF (by rfl)]
    obtain ⟨l', h⟩ := take_l1 N W P 0 (fun (out_P8, i2) => some (W, H, out_P8, 0)) hs.1 (by omega) P.length 0 N [] (by omega) (by omega) rfl
    exact ⟨W, H, l', h⟩
end Go.Proofs.Ytpmnfhifmmfglab

namespace Go.Proofs.Ytpmnfhifmmfglab
open Go
def colI (phase u v : Int) : Int := (u % 2 + phase) % 2 + (v % 2 + phase / 2) % 2
theorem and_fin : ∀ n : Fin 64, andI .i64 ((n.val : Nat) : Int) 1 = ((n.val : Nat) : Int) % 2 := by decide +kernel
theorem andI_one {u : Int} (h : 0 ≤ u ∧ u < 64) : andI .i64 u 1 = u % 2 := by
  have := and_fin ⟨u.toNat, by omega⟩
  have e : ((u.toNat : Nat) : Int) = u := by omega
  simp only [e] at this
  exact this
theorem col_fin : ∀ (p : Fin 4) (a b : Fin 2), IntKind.i64.wrap (andI .i64 (IntKind.i64.wrap (((a.val : Nat) : Int) + ((p.val : Nat) : Int))) 1 + andI .i64 (IntKind.i64.wrap (((b.val : Nat) : Int) + shrI .i64 ((p.val : Nat) : Int) 1)) 1) = (((a.val : Nat) : Int) + ((p.val : Nat) : Int)) % 2 + (((b.val : Nat) : Int) + ((p.val : Nat) : Int) / 2) % 2 := by decide +kernel
theorem colI_in (phase u v : Int) : 0 ≤ colI phase u v ∧ colI phase u v ≤ 2 := by unfold colI; omega
theorem colour_eq (N : Nat) {phase u v : Int} (hp : 0 ≤ phase ∧ phase ≤ 3) (hu : 0 ≤ u ∧ u < 64) (hv : 0 ≤ v ∧ v < 64) : D_sensor_Colour N phase u v = some (colI phase u v, 0) := by
  unfold D_sensor_Colour
  rw [cF (dF (by omega)), cF (dF (by omega)), cF (dF (by omega)), cF (dF (by omega)), andI_one hu, andI_one hv]
  unfold D_sensor_colour
  rw [bsome]
  have := col_fin ⟨phase.toNat, by omega⟩ ⟨(u % 2).toNat, by omega⟩ ⟨(v % 2).toNat, by omega⟩
  have e1 : ((phase.toNat : Nat) : Int) = phase := by omega
  have e2 : (((u % 2).toNat : Nat) : Int) = u % 2 := by omega
  have e3 : (((v % 2).toNat : Nat) : Int) = v % 2 := by omega
  simp only [e1, e2, e3] at this
  rw [this]; rfl
theorem plane_nat {W H : Int} {P : List Int} (h : planeFine W H P = true) : ∃ w h' : Nat, W = w ∧ H = h' ∧ 1 ≤ w ∧ w ≤ 64 ∧ 1 ≤ h' ∧ h' ≤ 64 ∧ P.length = w * h' ∧ w * h' ≤ 4096 ∧ ∀ i, i < w * h' → 0 ≤ P.getD i 0 ∧ P.getD i 0 ≤ 65535 := by
  obtain ⟨⟨h1, h2, h3, h4⟩, h5, h6⟩ := planeFine_iff.1 h
  obtain ⟨w, rfl⟩ : ∃ n : Nat, W = n := ⟨W.toNat, by omega⟩
  obtain ⟨h', rfl⟩ : ∃ n : Nat, H = n := ⟨H.toNat, by omega⟩
  have e : P.length = w * h' := by exact_mod_cast h5
  have := Nat.mul_le_mul (show w ≤ 64 by omega) (show h' ≤ 64 by omega)
  refine ⟨w, h', rfl, rfl, by omega, by omega, by omega, by omega, e, by omega, fun i hi => ?_⟩
  have hx : P[i]? = some P[i] := List.getElem?_eq_getElem (by omega)
  have := okS_of (List.all_eq_true.1 h6 _ (List.mem_of_getElem? hx))
  rw [List.getD_eq_getElem?_getD, hx]; exact this
end Go.Proofs.Ytpmnfhifmmfglab

namespace Go.Proofs.Ytpmnfhifmmfglab
open Go
theorem pix_at {W H : Int} {P : List Int} {x y u v : Int} (hC : pixC W H P x y) (hq : 0 ≤ u ∧ u < W ∧ 0 ≤ v ∧ v < H) : IntKind.i64.wrap (IntKind.i64.wrap (v * W) + u) = v * W + u ∧ 0 ≤ v * W + u ∧ v * W + u < P.length ∧ idx P (v * W + u) = some (P.getD (v * W + u).toNat 0) := by
  obtain ⟨h1, h2, h3, h4, h5, h6, h7⟩ := hC
  have m0 : 0 ≤ v * W := Int.mul_nonneg hq.2.2.1 (by omega)
  have m1 : v * W + W ≤ H * W := by
    have := Int.mul_le_mul_of_nonneg_right (show v + 1 ≤ H by omega) (show 0 ≤ W by omega)
    rwa [Int.add_mul, Int.one_mul] at this
  have m2 : H * W ≤ 64 * 64 := Int.mul_le_mul h6 h3 (by omega) (by omega)
  have m3 : (P.length : Int) = H * W := by rw [h7, Int.mul_comm]
  refine ⟨by rw [w64 (x := v * W) (by omega), w64 (by omega)], by omega, by omega, ?_⟩
  unfold idx
  rw [if_pos (by omega), List.getD_eq_getElem?_getD, List.getElem?_eq_getElem (by omega)]; rfl
theorem D_mosaic_pixel_b_some (N : Nat) (W : Int) (P : List Int) (o : Int) {H x y u v : Int} (hC : pixC W H P x y) (hq : 0 ≤ u ∧ u < W ∧ 0 ≤ v ∧ v < H) (x1 x2 x3 x4 x5 x6 : Int) : ∃ r, D_mosaic_pixel_b N W P o u v x1 x2 x3 x4 x5 x6 = some r := by
  obtain ⟨r, hr⟩ := colour_some N o u v
  obtain ⟨h1, _, _, h2⟩ := pix_at hC hq
  unfold D_mosaic_pixel_b
  rw [hr, bsome, h1, h2]
  simp only [bsome]
  cases decide (r.1 = 0) <;> cases decide (r.1 = 1) <;> exact ⟨_, rfl⟩
end Go.Proofs.Ytpmnfhifmmfglab

namespace Go.Proofs.Ytpmnfhifmmfglab
open Go
abbrev Six := Int × Int × Int × Int × Int × Int
def ofC (phase c : Int) (L : List (Int × Int)) : List (Int × Int) := L.filter fun q => decide (colI phase q.1 q.2 = c)
def pAt (W : Int) (P : List Int) (q : Int × Int) : Int := P.getD (q.2 * W + q.1).toNat 0
def cnt (phase c : Int) (L : List (Int × Int)) : Int := ((ofC phase c L).length : Nat)
def sm (W : Int) (P : List Int) (phase c : Int) (L : List (Int × Int)) : Int := ((ofC phase c L).map (pAt W P)).sum
def accOf (W : Int) (P : List Int) (phase : Int) (L : List (Int × Int)) : Six := (cnt phase 0 L, cnt phase 1 L, cnt phase 2 L, sm W P phase 0 L, sm W P phase 1 L, sm W P phase 2 L)
theorem ofC_snoc (phase c : Int) (L : List (Int × Int)) (q : Int × Int) : ofC phase c (L ++ [q]) = if colI phase q.1 q.2 = c then ofC phase c L ++ [q] else ofC phase c L := by
  unfold ofC
  rw [List.filter_append]
  by_cases h : colI phase q.1 q.2 = c
  · rw [if_pos h]; simp [h]
  · rw [if_neg h]; simp [h]
theorem cnt_snoc (phase c : Int) (L : List (Int × Int)) (q : Int × Int) : cnt phase c (L ++ [q]) = if colI phase q.1 q.2 = c then cnt phase c L + 1 else cnt phase c L := by
  unfold cnt
  rw [ofC_snoc]
  split <;> simp
theorem sm_snoc (W : Int) (P : List Int) (phase c : Int) (L : List (Int × Int)) (q : Int × Int) : sm W P phase c (L ++ [q]) = if colI phase q.1 q.2 = c then sm W P phase c L + pAt W P q else sm W P phase c L := by
  unfold sm
  rw [ofC_snoc]
  split <;> simp
theorem cnt_bd (phase c : Int) (L : List (Int × Int)) : 0 ≤ cnt phase c L ∧ cnt phase c L ≤ L.length := by
  have := List.length_filter_le (fun q : Int × Int => decide (colI phase q.1 q.2 = c)) L
  unfold cnt ofC
  omega
theorem sum_bd (top : Int) : ∀ l : List Int, (∀ x ∈ l, 0 ≤ x ∧ x ≤ top) → 0 ≤ l.sum ∧ l.sum ≤ top * l.length
  | [], _ => by simp
  | x :: l, h => by
    have h1 := h x (by simp)
    have h2 := sum_bd top l fun y hy => h y (by simp [hy])
    rw [List.sum_cons, List.length_cons]
    have : top * ((l.length + 1 : Nat) : Int) = top * l.length + top := by rw [Int.natCast_add, Int.mul_add]; simp
    omega
/-- All samples lie from 0 to top. -/
def upTo (P : List Int) (top : Int) : Prop := ∀ i : Nat, 0 ≤ P.getD i 0 ∧ P.getD i 0 ≤ top
theorem sm_bd {W : Int} {P : List Int} {top : Int} (hP : upTo P top) (phase c : Int) (L : List (Int × Int)) : 0 ≤ sm W P phase c L ∧ sm W P phase c L ≤ top * cnt phase c L := by
  have := sum_bd top ((ofC phase c L).map (pAt W P)) fun x hx => by
    obtain ⟨q, _, rfl⟩ := List.mem_map.1 hx
    exact hP _
  rw [List.length_map] at this
  exact this
theorem sm_bd2 {W : Int} {P : List Int} (hP : upTo P 65535) (phase c : Int) (L : List (Int × Int)) (hL : L.length ≤ 100) : 0 ≤ sm W P phase c L ∧ sm W P phase c L ≤ 6553500 := by
  have h1 := sm_bd (W := W) hP phase c L
  have h2 := cnt_bd phase c L
  omega
theorem plane_up {P : List Int} {n : Nat} (hl : P.length = n) (h : ∀ i, i < n → 0 ≤ P.getD i 0 ∧ P.getD i 0 ≤ 65535) : upTo P 65535 := fun i => by
  by_cases hi : i < n
  · exact h i hi
  · rw [List.getD_eq_getElem?_getD, List.getElem?_eq_none (by omega)]; simp
section
variable {W H x y phase : Int} {P : List Int} (hC : pixC W H P x y) (hp : 0 ≤ phase ∧ phase ≤ 3) (hP : upTo P 65535)
include hC hp hP
theorem code_add {L : List (Int × Int)} (hL : L.length ≤ 99) {u v : Int} (hq : 0 ≤ u ∧ u < W ∧ 0 ≤ v ∧ v < H) :
    D_mosaic_pixel_b 5000 W P phase u v (accOf W P phase L).1 (accOf W P phase L).2.1 (accOf W P phase L).2.2.1 (accOf W P phase L).2.2.2.1 (accOf W P phase L).2.2.2.2.1 (accOf W P phase L).2.2.2.2.2 = some (accOf W P phase (L ++ [(u, v)])) := by
  have hC' := hC
  obtain ⟨k1, k2, k3, k4, k5, k6, k7⟩ := hC'
  obtain ⟨h1, _, _, h2⟩ := pix_at hC hq
  have c0 := cnt_bd phase 0 L
  have c1 := cnt_bd phase 1 L
  have c2 := cnt_bd phase 2 L
  have s0 := sm_bd2 (W := W) hP phase 0 L (by omega)
  have s1 := sm_bd2 (W := W) hP phase 1 L (by omega)
  have s2 := sm_bd2 (W := W) hP phase 2 L (by omega)
  have hpv := hP (v * W + u).toNat
  have hr := colI_in phase u v
  unfold D_mosaic_pixel_b
  rw [colour_eq 5000 hp (by omega) (by omega), bsome, h1, h2]
  simp only [accOf, cnt_snoc, sm_snoc, bsome]
  have e : pAt W P (u, v) = P.getD (v * W + u).toNat 0 := rfl
  have hc : colI phase u v = 0 ∨ colI phase u v = 1 ∨ colI phase u v = 2 := by omega
  rcases hc with hc | hc | hc
  · rw [hc, cT (by decide), cT (by decide), w64 (by omega), w64 (by omega), e]; rfl
  · rw [hc, cF (by decide), cT (by decide), cF (by decide), cT (by decide), w64 (by omega), w64 (by omega), e]; rfl
  · rw [hc, cF (by decide), cF (by decide), cF (by decide), cF (by decide), w64 (by omega), w64 (by omega), e]; rfl
theorem code_fold : ∀ (L pre : List (Int × Int)), (pre ++ L).length ≤ 99 → (∀ q ∈ L, 0 ≤ q.1 ∧ q.1 < W ∧ 0 ≤ q.2 ∧ q.2 < H) → List.foldl (D_mosaic_pixel_s 5000 W P phase) (accOf W P phase pre) L = accOf W P phase (pre ++ L)
  | [], pre, _, _ => by simp
  | (u, v) :: L, pre, hl, hq => by
    have h1 := code_add hC hp hP (L := pre) (by simp at hl; omega) (hq (u, v) (by simp))
    rw [List.foldl_cons]
    have : D_mosaic_pixel_s 5000 W P phase (accOf W P phase pre) (u, v) = accOf W P phase (pre ++ [(u, v)]) := by
      unfold D_mosaic_pixel_s
      rw [h1]; rfl
    rw [this, code_fold L (pre ++ [(u, v)]) (by simpa using hl) (fun q h => hq q (by simp [h]))]
    simp
end
def fuU (W x v : Int) : Nat → Int → List (Int × Int)
  | 0, _ => []
  | k + 1, u => if u ≤ min (W - 1) (x + 1) then (u, v) :: fuU W x v k (u + 1) else []
def fuV (W H x y : Int) : Nat → Int → List (Int × Int)
  | 0, _ => []
  | k + 1, v => if v ≤ min (H - 1) (y + 1) then fuU W x v 4 (max 0 (x - 1)) ++ fuV W H x y k (v + 1) else []
def fullL (W H x y : Int) : List (Int × Int) := fuV W H x y 4 (max 0 (y - 1))
theorem arU_eq (W x y v : Int) : ∀ (k : Nat) (u : Int), arU W x y v k u = (fuU W x v k u).filter fun q => decide (q ≠ (x, y))
  | 0, _ => rfl
  | k + 1, u => by
    unfold arU fuU
    by_cases h : u ≤ x + 1 ∧ u < W
    · rw [if_pos h, if_pos (show u ≤ min (W - 1) (x + 1) by omega), List.filter_cons]
      by_cases h2 : u ≠ x ∨ v ≠ y
      · rw [if_pos h2, if_pos (by simp; omega), arU_eq W x y v k (u + 1)]
      · rw [if_neg h2, if_neg (by simp; omega), arU_eq W x y v k (u + 1)]
    · rw [if_neg h, if_neg (show ¬ u ≤ min (W - 1) (x + 1) by omega)]; rfl
theorem arV_eq (W H x y : Int) : ∀ (k : Nat) (v : Int), arV W H x y k v = (fuV W H x y k v).filter fun q => decide (q ≠ (x, y))
  | 0, _ => rfl
  | k + 1, v => by
    unfold arV fuV
    by_cases h : v ≤ y + 1 ∧ v < H
    · rw [if_pos h, if_pos (show v ≤ min (H - 1) (y + 1) by omega), List.filter_append, arU_eq, arV_eq W H x y k (v + 1), Int.max_comm]
    · rw [if_neg h, if_neg (by omega)]; rfl
theorem around_eq (W H x y : Int) : aroundL W H x y = (fullL W H x y).filter fun q => decide (q ≠ (x, y)) := by
  unfold aroundL fullL
  rw [arV_eq, Int.max_comm]
theorem fuU_in (W x v : Int) : ∀ (k : Nat) (u : Int), 0 ≤ u → (fuU W x v k u).length ≤ k ∧ ∀ q ∈ fuU W x v k u, 0 ≤ q.1 ∧ q.1 < W ∧ q.2 = v
  | 0, _, _ => by simp [fuU]
  | k + 1, u, h => by
    unfold fuU
    by_cases h1 : u ≤ min (W - 1) (x + 1)
    · rw [if_pos h1]
      obtain ⟨a, b⟩ := fuU_in W x v k (u + 1) (by omega)
      refine ⟨by simp; omega, fun q hq => ?_⟩
      rcases List.mem_cons.1 hq with rfl | hq
      · exact ⟨h, by show u < W; omega, rfl⟩
      · exact b q hq
    · rw [if_neg h1]; simp
theorem fuV_in (W H x y : Int) : ∀ (k : Nat) (v : Int), 0 ≤ v → (fuV W H x y k v).length ≤ 4 * k ∧ ∀ q ∈ fuV W H x y k v, 0 ≤ q.1 ∧ q.1 < W ∧ 0 ≤ q.2 ∧ q.2 < H
  | 0, _, _ => by simp [fuV]
  | k + 1, v, h => by
    unfold fuV
    by_cases h1 : v ≤ min (H - 1) (y + 1)
    · rw [if_pos h1]
      obtain ⟨a, b⟩ := fuV_in W H x y k (v + 1) (by omega)
      obtain ⟨a', b'⟩ := fuU_in W x v 4 (max 0 (x - 1)) (by omega)
      refine ⟨by rw [List.length_append]; omega, fun q hq => ?_⟩
      rcases List.mem_append.1 hq with hq | hq
      · obtain ⟨c1, c2, c3⟩ := b' q hq
        exact ⟨c1, c2, by omega, by omega⟩
      · exact b q hq
    · rw [if_neg h1]; simp
theorem ofC_around (W H x y phase c : Int) (hc : c ≠ colI phase x y) : ofC phase c (aroundL W H x y) = ofC phase c (fullL W H x y) := by
  rw [around_eq]
  unfold ofC
  rw [List.filter_filter]
  refine List.filter_congr fun q _ => ?_
  by_cases h : colI phase q.1 q.2 = c
  · have hq : q ≠ (x, y) := fun e => by subst e; exact hc h.symm
    simp [h, hq]
  · simp [h]
/-- The mean of what is there. -/
def dv (n s : Int) : Int := if 0 < n then s / n else s
def setC (c v : Int) (p : Px) : Px := if c = 0 then (v, p.2.1, p.2.2) else if c = 1 then (p.1, v, p.2.2) else (p.1, p.2.1, v)
def pixV (W H : Int) (P : List Int) (phase x y : Int) : Px := setC (colI phase x y) (pAt W P (x, y)) (dv (cnt phase 0 (fullL W H x y)) (sm W P phase 0 (fullL W H x y)), dv (cnt phase 1 (fullL W H x y)) (sm W P phase 1 (fullL W H x y)), dv (cnt phase 2 (fullL W H x y)) (sm W P phase 2 (fullL W H x y)))
theorem one_l1 (N fuel : Nat) (a b c : Int) (kk) (s : Px) : D_mosaic_pixel_l1 N a b c kk (fuel + 1) (s.1, s.2.1, s.2.2, 0) = D_mosaic_pixel_l1 N a b c kk fuel ((if 0 < a then IntKind.i64.wrap (Int.tdiv s.1 a) else s.1), s.2.1, s.2.2, 1) := by
  conv => lhs; unfold D_mosaic_pixel_l1
  rw [cT (by decide), cT (by decide), w64 (x := 0 + 1) (by omega)]
  by_cases h : 0 < a
  · rw [cT (dT h), if_pos h, cT (by decide), nz_eq (by omega)]; rfl
  · rw [cF (dF h), if_neg h]; rfl
theorem two_l1 (N fuel : Nat) (a b c : Int) (kk) (s : Px) : D_mosaic_pixel_l1 N a b c kk (fuel + 1) (s.1, s.2.1, s.2.2, 1) = D_mosaic_pixel_l1 N a b c kk fuel (s.1, (if 0 < b then IntKind.i64.wrap (Int.tdiv s.2.1 b) else s.2.1), s.2.2, 2) := by
  conv => lhs; unfold D_mosaic_pixel_l1
  rw [cT (by decide), cF (by decide), cT (by decide), w64 (x := 1 + 1) (by omega)]
  by_cases h : 0 < b
  · rw [cT (dT h), if_pos h, cF (by decide), cT (by decide), nz_eq (by omega)]; rfl
  · rw [cF (dF h), if_neg h]; rfl
theorem three_l1 (N fuel : Nat) (a b c : Int) (kk) (s : Px) : D_mosaic_pixel_l1 N a b c kk (fuel + 2) (s.1, s.2.1, s.2.2, 2) = kk (s.1, s.2.1, (if 0 < c then IntKind.i64.wrap (Int.tdiv s.2.2 c) else s.2.2), 3) := by
  conv => lhs; unfold D_mosaic_pixel_l1
  rw [cT (by decide), cF (by decide), cF (by decide), w64 (x := 2 + 1) (by omega)]
  have e : ∀ t : Px, D_mosaic_pixel_l1 N a b c kk (fuel + 1) (t.1, t.2.1, t.2.2, 2 + 1) = kk (t.1, t.2.1, t.2.2, 3) := fun t => by
    unfold D_mosaic_pixel_l1
    rw [cF (by decide)]; rfl
  by_cases h : 0 < c
  · rw [cT (dT h), if_pos h, cF (by decide), cF (by decide), nz_eq (by omega), bsome]; exact e (s.1, s.2.1, IntKind.i64.wrap (Int.tdiv s.2.2 c))
  · rw [cF (dF h), if_neg h]; exact e s
theorem dv_tdiv {n s : Int} (hs : 0 ≤ s ∧ s ≤ 6553500) : (if 0 < n then IntKind.i64.wrap (Int.tdiv s n) else s) = dv n s := by
  unfold dv
  split
  · rename_i h
    have h1 := Int.ediv_nonneg hs.1 (show 0 ≤ n by omega)
    have h2 := Int.ediv_le_self n hs.1
    rw [Int.tdiv_eq_ediv_of_nonneg hs.1, w64 (by omega)]
  · rfl
section
variable {W H x y phase : Int} {P : List Int} (hC : pixC W H P x y) (hp : 0 ≤ phase ∧ phase ≤ 3) (hP : upTo P 65535)
include hC hp hP
theorem pixel_eq : D_mosaic_pixel 5000 W H P phase x y = some (pixV W H P phase x y) := by
  have hC' := hC
  obtain ⟨k1, k2, k3, k4, k5, k6, k7⟩ := hC'
  obtain ⟨fl, fi⟩ := fuV_in W H x y 4 (max 0 (y - 1)) (by omega)
  have al : (aroundL W H x y).length ≤ 16 := by
    rw [around_eq]
    exact Nat.le_trans (List.length_filter_le _ _) fl
  have ai : ∀ q ∈ aroundL W H x y, 0 ≤ q.1 ∧ q.1 < W ∧ 0 ≤ q.2 ∧ q.2 < H := fun q hq => by
    rw [around_eq] at hq
    exact fi q (List.mem_filter.1 hq).1
  have hf := code_fold hC hp hP (aroundL W H x y) [] (by simp; omega) ai
  have s0 := sm_bd2 (W := W) hP phase 0 (aroundL W H x y) (by omega)
  have s1 := sm_bd2 (W := W) hP phase 1 (aroundL W H x y) (by omega)
  have s2 := sm_bd2 (W := W) hP phase 2 (aroundL W H x y) (by omega)
  obtain ⟨e1, _, _, e2⟩ := pix_at hC (u := x) (v := y) (by omega)
  unfold D_mosaic_pixel
  rw [cT (dT hC)]
  have hf' : List.foldl (D_mosaic_pixel_s 5000 W P phase) (0, 0, 0, 0, 0, 0) (aroundL W H x y) = accOf W P phase (aroundL W H x y) := hf
  rw [hf']
  unfold D_mosaic_pixel_r accOf
  dsimp only
  rw [one_l1 5000 4999 _ _ _ _ (sm W P phase 0 (aroundL W H x y), sm W P phase 1 (aroundL W H x y), sm W P phase 2 (aroundL W H x y))]
  dsimp only
  rw [two_l1 5000 4998 _ _ _ _ (_, sm W P phase 1 (aroundL W H x y), sm W P phase 2 (aroundL W H x y))]
  dsimp only
  rw [three_l1 5000 4996 _ _ _ _ (_, _, sm W P phase 2 (aroundL W H x y))]
  dsimp only
  rw [dv_tdiv s0, dv_tdiv s1, dv_tdiv s2, colour_eq 5000 hp (by omega) (by omega), bsome, e1, e2]
  have hr := colI_in phase x y
  have other : ∀ c, c ≠ colI phase x y → cnt phase c (aroundL W H x y) = cnt phase c (fullL W H x y) ∧ sm W P phase c (aroundL W H x y) = sm W P phase c (fullL W H x y) := fun c hc => by
    unfold cnt sm
    rw [ofC_around W H x y phase c hc]; exact ⟨rfl, rfl⟩
  unfold pixV setC
  have ep : pAt W P (x, y) = P.getD (y * W + x).toNat 0 := rfl
  have hc : colI phase x y = 0 ∨ colI phase x y = 1 ∨ colI phase x y = 2 := by omega
  rcases hc with hc | hc | hc
  · rw [(other 1 (by omega)).1, (other 1 (by omega)).2, (other 2 (by omega)).1, (other 2 (by omega)).2, hc, cT (by decide), ep]; rfl
  · rw [(other 0 (by omega)).1, (other 0 (by omega)).2, (other 2 (by omega)).1, (other 2 (by omega)).2, hc, cF (by decide), cT (by decide), ep]; rfl
  · rw [(other 0 (by omega)).1, (other 0 (by omega)).2, (other 1 (by omega)).1, (other 1 (by omega)).2, hc, cF (by decide), cF (by decide), ep]; rfl
end
end Go.Proofs.Ytpmnfhifmmfglab

namespace Go.Proofs.Ytpmnfhifmmfglab
open Go
theorem repair_nil (N : Nat) (W H : Int) (P : List Int) (hl : P.length ≤ 9223372036854775807) : D_sensor_Repair N W H P [] = some (if planeFine W H P = false then (0, 0, [], 1) else (W, H, (List.range P.length).map (repairL W H [] P), 0)) := by
  unfold D_sensor_Repair
  rw [if_neg (by omega)]
  cases planeFine W H P
  · rfl
  · rw [if_neg (by simp), if_neg (by simp), if_neg (by simp), if_neg (by simp)]
section
variable {W H : Nat} {P : List Int} (hW : 1 ≤ W ∧ W ≤ 64 ∧ 1 ≤ H ∧ H ≤ 64) (hl : P.length = W * H) (hP : upTo P 65535) {phase : Int} (hp : 0 ≤ phase ∧ phase ≤ 3)
def pF (W H : Nat) (P : List Int) (phase : Int) (x y : Nat) : Px := pixV W H P phase x y
include hW hl in
theorem pixC_nat {x y : Nat} (hx : x < W) (hy : y < H) : pixC (W : Int) (H : Int) P x y := ⟨by omega, by omega, by omega, by omega, by omega, by omega, by rw [hl, Int.natCast_mul]⟩
include hW hl hP hp
theorem fill_l2 (kk) {y : Nat} (hy : y < H) : ∀ (d x fuel : Nat), x + d = W → d < fuel →
    D_mosaic_Fill_l2 5000 W H P phase y kk fuel (pre W (pF W H P phase) (y * W + x), (x : Int)) = kk (pre W (pF W H P phase) ((y + 1) * W + 0), (W : Int)) := by
  have hm := Nat.mul_le_mul hW.2.1 hW.2.2.2
  intro d
  induction d with
  | zero =>
    intro x fuel hk hf
    obtain ⟨fuel, rfl⟩ : ∃ m, fuel = m + 1 := ⟨fuel - 1, by omega⟩
    obtain rfl : x = W := by omega
    unfold D_mosaic_Fill_l2
    rw [cF (dF (by omega)), pre_row]
  | succ d ih =>
    intro x fuel hk hf
    obtain ⟨fuel, rfl⟩ : ∃ m, fuel = m + 1 := ⟨fuel - 1, by omega⟩
    have hx : x < W := by omega
    have hpl := place_lt hx hy
    unfold D_mosaic_Fill_l2
    rw [cT (dT (by omega)), pixel_eq (pixC_nat hW hl hx hy) hp hP, bsome]
    have e : ((pixV (W : Int) (H : Int) P phase x y).1, (pixV (W : Int) (H : Int) P phase x y).2.1, (pixV (W : Int) (H : Int) P phase x y).2.2) = pF W H P phase x y := rfl
    rw [e, app_eq (by rw [pre_len]; simp; omega), bsome, w64 (by omega), ← pre_succ (pF W H P phase) y hx]
    exact ih (x + 1) fuel (by omega) (by omega)
theorem fill_l1 (kk) : ∀ (d y fuel : Nat), y + d = H → d < fuel →
    D_mosaic_Fill_l1 5000 W H P phase kk fuel (pre W (pF W H P phase) (y * W + 0), (y : Int)) = kk (pre W (pF W H P phase) (H * W + 0), (H : Int)) := by
  intro d
  induction d with
  | zero =>
    intro y fuel hk hf
    obtain ⟨fuel, rfl⟩ : ∃ m, fuel = m + 1 := ⟨fuel - 1, by omega⟩
    obtain rfl : y = H := by omega
    unfold D_mosaic_Fill_l1
    rw [cF (dF (by omega))]
  | succ d ih =>
    intro y fuel hk hf
    obtain ⟨fuel, rfl⟩ : ∃ m, fuel = m + 1 := ⟨fuel - 1, by omega⟩
    unfold D_mosaic_Fill_l1
    rw [cT (dT (by omega))]
    refine (fill_l2 hW hl hP hp _ (y := y) (by omega) W 0 5000 (by omega) (by omega)).trans ?_
    dsimp only
    rw [w64 (by omega)]
    exact ih (y + 1) fuel (by omega) (by omega)
theorem fill_full (kk : List Px × Int → Option (Int × Int × List Px × Int)) : D_mosaic_Fill_l1 5000 W H P phase kk 5000 ([], 0) = kk (mkL W H (pF W H P phase), (H : Int)) := by
  have := fill_l1 hW hl hP hp kk H 0 5000 (by omega) (by omega)
  simp only [Nat.zero_mul, Nat.add_zero, pre, List.range_zero, List.map_nil] at this
  refine this.trans ?_
  rw [mkL, Nat.mul_comm]
omit hW hl hP hp in
omit hW hl hP hp in
end
theorem fill_eq (W H : Int) (P : List Int) (phase : Int) (hl : P.length ≤ 9223372036854775807) : D_mosaic_Fill 5000 W H P phase = some (if planeFine W H P = false then (0, 0, [], 1) else if 0 ≤ phase ∧ phase ≤ 3 then (W, H, mkL W.toNat H.toNat (pF W.toNat H.toNat P phase), 0) else (0, 0, [], 3)) := by
  unfold D_mosaic_Fill
  rw [repair_nil 5000 W H P hl, bsome]
  cases hq : planeFine W H P
  · rfl
  · obtain ⟨w, h, rfl, rfl, w1, w2, w3, w4, hlen, hm, hall⟩ := plane_nat hq
    rw [if_neg (by simp), if_neg (by simp), cF (by rfl)]
    by_cases a1 : phase < 0
    · rw [cT (dT a1), if_neg (by omega)]
    rw [cF (dF a1)]
    by_cases a2 : 3 < phase
    · rw [cT (dT a2), if_neg (by omega)]
    rw [cF (dF a2), if_pos (by omega), Int.toNat_natCast, Int.toNat_natCast]
    exact fill_full ⟨w1, w2, w3, w4⟩ hlen (plane_up hlen hall) (by omega) _
theorem dv_bd {n s top : Int} (ht : 0 ≤ top) (hn : 0 ≤ n) (hs : 0 ≤ s ∧ s ≤ top * n) : 0 ≤ dv n s ∧ dv n s ≤ top := by
  unfold dv
  by_cases h : 0 < n
  · rw [if_pos h]
    exact ⟨Int.ediv_nonneg hs.1 hn, Int.ediv_le_of_le_mul h hs.2⟩
  · rw [if_neg h]
    have : n = 0 := by omega
    subst this
    simp at hs
    omega
theorem pix_bd {W H : Nat} {P : List Int} {top : Int} (ht : 0 ≤ top) (hP : upTo P top) (phase : Int) (x y : Nat) : (0 ≤ (pF W H P phase x y).1 ∧ (pF W H P phase x y).1 ≤ top) ∧ (0 ≤ (pF W H P phase x y).2.1 ∧ (pF W H P phase x y).2.1 ≤ top) ∧ (0 ≤ (pF W H P phase x y).2.2 ∧ (pF W H P phase x y).2.2 ≤ top) := by
  have own : 0 ≤ pAt W P ((x : Int), (y : Int)) ∧ pAt W P ((x : Int), (y : Int)) ≤ top := hP _
  have d : ∀ c, 0 ≤ dv (cnt phase c (fullL W H x y)) (sm W P phase c (fullL W H x y)) ∧ dv (cnt phase c (fullL W H x y)) (sm W P phase c (fullL W H x y)) ≤ top := fun c => dv_bd ht (cnt_bd _ _ _).1 (sm_bd hP phase c _)
  unfold pF pixV setC
  split
  · exact ⟨own, d 1, d 2⟩
  · split
    · exact ⟨d 0, own, d 2⟩
    · exact ⟨d 0, d 1, own⟩
theorem fill_pic {W H : Nat} {P : List Int} (h : 1 ≤ W ∧ W ≤ 64 ∧ 1 ≤ H ∧ H ≤ 64) (hP : upTo P 65535) (phase : Int) : picF W H (mkL W H (pF W H P phase)) = true := picF_mk h fun x y _ _ => by
  obtain ⟨a, b, c⟩ := pix_bd (W := W) (H := H) (by omega) hP phase x y
  simp only [okPx, decide_eq_true_eq]; omega
end Go.Proofs.Ytpmnfhifmmfglab

namespace Go.Proofs.Ytpmnfhifmmfglab
open Go
theorem sfine_l1 (N : Nat) (P : List Int) (kk : Int → Option Bool) (hP : P.length ≤ 4096) : ∀ (d k fuel : Nat), k + d = P.length → d < fuel → D_sensor_fine_l1 N P kk fuel (k : Int) = if (P.drop k).all okS then kk P.length else some false := by
  intro d
  induction d with
  | zero =>
    intro k fuel hk hf
    obtain ⟨fuel, rfl⟩ : ∃ m, fuel = m + 1 := ⟨fuel - 1, by omega⟩
    obtain rfl : k = P.length := by omega
    unfold D_sensor_fine_l1
    rw [cF (dF (by omega))]
    simp
  | succ d ih =>
    intro k fuel hk hf
    obtain ⟨fuel, rfl⟩ : ∃ m, fuel = m + 1 := ⟨fuel - 1, by omega⟩
    have hlt : k < P.length := by omega
    unfold D_sensor_fine_l1
    rw [cT (dT (by omega)), idx_nat, List.getElem?_eq_getElem hlt, bsome, List.drop_eq_getElem_cons hlt, List.all_cons]
    have hih := ih (k + 1) fuel (by omega) (by omega)
    by_cases h1 : P[k] < 0
    · rw [cT (dT h1)]
      have : okS P[k] = false := by simp only [okS, Bool.and_eq_false_iff, decide_eq_false_iff_not]; omega
      simp [this]
    rw [cF (dF h1)]
    by_cases h2 : 65535 < P[k]
    · rw [cT (dT h2)]
      have : okS P[k] = false := by simp only [okS, Bool.and_eq_false_iff, decide_eq_false_iff_not]; omega
      simp [this]
    rw [cF (dF h2), w64 (by omega)]
    have : okS P[k] = true := by simp only [okS, Bool.and_eq_true, decide_eq_true_eq]; omega
    rw [this, Bool.true_and, ← hih]
    rfl
theorem sfine_eq (N : Nat) (W H : Int) (P : List Int) (hN : 5000 ≤ N) : D_sensor_fine N W H P = some (planeFine W H P) := by
  unfold D_sensor_fine
  have no : ¬ (sideOk W H ∧ (P.length : Int) = W * H) → planeFine W H P = false := fun h => by
    cases hq : planeFine W H P
    · rfl
    · obtain ⟨a, b, _⟩ := planeFine_iff.1 hq; exact absurd ⟨a, b⟩ h
  by_cases h1 : W < 1
  · rw [cT (dT h1), no (fun h => by unfold sideOk at h; omega)]
  rw [cF (dF h1)]
  by_cases h2 : 64 < W
  · rw [cT (dT h2), no (fun h => by unfold sideOk at h; omega)]
  rw [cF (dF h2)]
  by_cases h3 : H < 1
  · rw [cT (dT h3), no (fun h => by unfold sideOk at h; omega)]
  rw [cF (dF h3)]
  by_cases h4 : 64 < H
  · rw [cT (dT h4), no (fun h => by unfold sideOk at h; omega)]
  have hb := mul_bd (W := W) (H := H) (by omega)
  rw [cF (dF h4), w64 (by omega)]
  by_cases h5 : (P.length : Int) = W * H
  rotate_left
  · rw [cT (by rw [dF h5]; rfl), no (fun h => h5 h.2)]
  rw [cF (by rw [dT h5]; rfl)]
  refine (sfine_l1 N P _ (by omega) P.length 0 N (by omega) (by omega)).trans ?_
  have hs : sideOk W H := ⟨by omega, by omega, by omega, by omega⟩
  simp only [planeFine, hs, h5, decide_true, Bool.true_and, List.drop_zero]
  cases P.all okS <;> rfl
def blk4 (b0 b1 b2 b3 : Int) (x y : Nat) : Int := if y % 2 = 0 then (if x % 2 = 0 then b0 else b1) else (if x % 2 = 0 then b2 else b3)
def levV (b w v : Int) : Int := min (max (v - b) 0 * 65535 / (w - b)) 65535
def levL (W : Nat) (P : List Int) (b0 b1 b2 b3 w : Int) (i : Nat) : Int := levV (blk4 b0 b1 b2 b3 (i % W) (i / W)) w (P.getD i 0)
def blkOK (b0 b1 b2 b3 w : Int) : Prop := (0 ≤ b0 ∧ b0 < w) ∧ (0 ≤ b1 ∧ b1 < w) ∧ (0 ≤ b2 ∧ b2 < w) ∧ (0 ≤ b3 ∧ b3 < w)
theorem blk4_in {b0 b1 b2 b3 w : Int} (h : blkOK b0 b1 b2 b3 w) (x y : Nat) : 0 ≤ blk4 b0 b1 b2 b3 x y ∧ blk4 b0 b1 b2 b3 x y < w := by
  obtain ⟨h0, h1, h2, h3⟩ := h
  unfold blk4
  split <;> split <;> assumption
theorem andI_par {n : Nat} (h : n < 64) : andI .i64 (n : Int) 1 = ((n % 2 : Nat) : Int) := by rw [andI_one ⟨by omega, by omega⟩]; omega
theorem or_fin : ∀ a b : Fin 2, orI .i64 (shlI .i64 ((a.val : Nat) : Int) 1) ((b.val : Nat) : Int) = ((a.val * 2 + b.val : Nat) : Int) := by decide +kernel
theorem blk_ix {x y : Nat} (hx : x < 64) (hy : y < 64) : orI .i64 (shlI .i64 (andI .i64 (y : Int) 1) 1) (andI .i64 (x : Int) 1) = ((y % 2 * 2 + x % 2 : Nat) : Int) := by
  rw [andI_par hx, andI_par hy]
  exact or_fin ⟨y % 2, by omega⟩ ⟨x % 2, by omega⟩
theorem blk_idx (b0 b1 b2 b3 : Int) (x y : Nat) : idx [b0, b1, b2, b3] ((y % 2 * 2 + x % 2 : Nat) : Int) = some (blk4 b0 b1 b2 b3 x y) := by
  rw [idx_nat]
  unfold blk4
  have hy : y % 2 = 0 ∨ y % 2 = 1 := by omega
  have hx : x % 2 = 0 ∨ x % 2 = 1 := by omega
  rcases hy with hy | hy <;> rcases hx with hx | hx <;> rw [hy, hx] <;> rfl
theorem inr_eq {i : Int} {n : Nat} (h : 0 ≤ i ∧ i < n) : inr i n = some () := by unfold inr; rw [if_pos h]
theorem tdiv_pos {a b : Int} (ha : 0 ≤ a) : Int.tdiv a b = a / b := Int.tdiv_eq_ediv_of_nonneg ha
theorem div_bd {a b : Int} (ha : 0 ≤ a) (hb : 1 ≤ b) : 0 ≤ a / b ∧ a / b ≤ a := ⟨Int.ediv_nonneg ha (by omega), Int.ediv_le_self _ ha⟩
section
variable {b0 b1 b2 b3 w : Int} (hb : blkOK b0 b1 b2 b3 w) (hw : w ≤ 65535)
include hb hw
theorem level_1 (N : Nat) {x y : Nat} (hx : x < 64) (hy : y < 64) {v : Int} (hv : 0 ≤ v ∧ v ≤ 65535) :
    ∃ r, D_sensor_Level_1 N v x y b0 b1 b2 b3 w = some r ∧ min r 65535 = levV (blk4 b0 b1 b2 b3 x y) w v := by
  have hb4 := blk4_in hb x y
  unfold D_sensor_Level_1
  rw [blk_ix hx hy, inr_eq (by omega), bsome, blk_idx, bsome]
  generalize blk4 b0 b1 b2 b3 x y = b at *
  have hm : 0 ≤ max (v - b) 0 * 65535 ∧ max (v - b) 0 * 65535 ≤ 4294836225 := by omega
  rw [w64 (x := w - b) (by omega), nz_eq (by omega), bsome, w64 (x := v - b) (by omega), w64 (x := max (v - b) 0 * 65535) (by omega), tdiv_pos hm.1]
  have := div_bd hm.1 (show 1 ≤ w - b by omega)
  rw [w64 (by omega)]
  exact ⟨_, rfl, rfl⟩
theorem levV_in {b v : Int} (h : 0 ≤ b ∧ b < w) : 0 ≤ levV b w v ∧ levV b w v ≤ 65535 := by
  have hm : 0 ≤ max (v - b) 0 * 65535 := by omega
  have := Int.ediv_nonneg hm (show 0 ≤ w - b by omega)
  unfold levV
  omega
theorem levEach_l1 (N : Nat) {W H : Nat} {P : List Int} (hs : 1 ≤ W ∧ W ≤ 64 ∧ 1 ≤ H ∧ H ≤ 64) (hl : P.length = W * H) (hP : upTo P 65535) (kk : List Int × Int → Option (Int × Int × List Int)) : ∀ (d k fuel : Nat), k + d = P.length → d < fuel →
    D_sensor_each__sensor_Level_1_l1 N W P b0 b1 b2 b3 w kk fuel ((List.range k).map (levL W P b0 b1 b2 b3 w) ++ List.replicate (P.length - k) 0, (k : Int)) = kk ((List.range P.length).map (levL W P b0 b1 b2 b3 w), (P.length : Int)) := by
  have hm := Nat.mul_le_mul hs.2.1 hs.2.2.2
  intro d
  induction d with
  | zero =>
    intro k fuel hk hf
    obtain ⟨fuel, rfl⟩ : ∃ m, fuel = m + 1 := ⟨fuel - 1, by omega⟩
    obtain rfl : k = P.length := by omega
    unfold D_sensor_each__sensor_Level_1_l1
    rw [cF (dF (by omega)), Nat.sub_self, List.replicate_zero, List.append_nil]
  | succ d ih =>
    intro k fuel hk hf
    obtain ⟨fuel, rfl⟩ : ∃ m, fuel = m + 1 := ⟨fuel - 1, by omega⟩
    have hlt : k < P.length := by omega
    obtain ⟨e1, e2⟩ := tdm k (show 0 < W by omega)
    obtain ⟨l1, l2, _⟩ := lt_of_place (show k < W * H by omega)
    have q1 : (0 : Int) ≤ ((k / W : Nat) : Int) := Int.natCast_nonneg _
    have q2 : ((k / W : Nat) : Int) < 64 := by have : k / W < 64 := by omega
                                               exact_mod_cast this
    have hv := hP k
    have hg : P.getD k 0 = P[k] := by rw [List.getD_eq_getElem?_getD, List.getElem?_eq_getElem hlt]; rfl
    rw [hg] at hv
    obtain ⟨r, hr, hr2⟩ := level_1 hb hw N (x := k % W) (y := k / W) (by omega) (by omega) hv
    unfold D_sensor_each__sensor_Level_1_l1
    rw [cT (dT (by omega)), idx_nat, List.getElem?_eq_getElem hlt, bsome, nz_eq (by omega), bsome, bsome, e1, e2, w64 (x := ((k / W : Nat) : Int)) (by omega), hr, bsome, idx_nat, List.getElem?_eq_getElem (by simp; omega), bsome, hr2]
    have hst : levV (blk4 b0 b1 b2 b3 (k % W) (k / W)) w P[k] = levL W P b0 b1 b2 b3 w k := by unfold levL; rw [hg]
    rw [hst, fill_step (levL W P b0 b1 b2 b3 w) 0 hlt, bsome, w64 (by omega)]
    exact ih (k + 1) fuel (by omega) (by omega)
theorem level_loop (N : Nat) (kk : Int → Option (Int × Int × List Int × Int)) : D_sensor_Level_l1 N b0 b1 b2 b3 w kk 5000 0 = kk 4 := by
  obtain ⟨⟨a0, c0⟩, ⟨a1, c1⟩, ⟨a2, c2⟩, ⟨a3, c3⟩⟩ := hb
  have one : ∀ (fuel : Nat) (i : Nat) (b : Int), i < 4 → idx [b0, b1, b2, b3] (i : Int) = some b → 0 ≤ b ∧ b < w → D_sensor_Level_l1 N b0 b1 b2 b3 w kk (fuel + 1) (i : Int) = D_sensor_Level_l1 N b0 b1 b2 b3 w kk fuel ((i + 1 : Nat) : Int) := fun fuel i b hi hx hb' => by
    conv => lhs; unfold D_sensor_Level_l1
    rw [cT (dT (by omega)), hx, bsome, cF (dF (by omega)), cF (dF (by omega)), cF (dF (by omega)), w64 (by omega)]
    rfl
  have h0 := one 4999 0 b0 (by decide) rfl ⟨a0, c0⟩
  have h1 := one 4998 1 b1 (by decide) rfl ⟨a1, c1⟩
  have h2 := one 4997 2 b2 (by decide) rfl ⟨a2, c2⟩
  have h3 := one 4996 3 b3 (by decide) rfl ⟨a3, c3⟩
  refine h0.trans (h1.trans (h2.trans (h3.trans ?_)))
  show D_sensor_Level_l1 N b0 b1 b2 b3 w kk (4995 + 1) 4 = kk 4
  unfold D_sensor_Level_l1
  rw [cF (by decide)]
theorem level_eq {W H : Nat} {P : List Int} (hf : planeFine W H P = true) : D_sensor_Level 5000 W H P b0 b1 b2 b3 w = some ((W : Int), (H : Int), (List.range P.length).map (levL W P b0 b1 b2 b3 w), 0) := by
  obtain ⟨w', h', e1, e2, w1, w2, w3, w4, hlen, hm, hall⟩ := plane_nat hf
  obtain rfl : W = w' := by omega
  obtain rfl : H = h' := by omega
  unfold D_sensor_Level
  rw [sfine_eq 5000 W H P (by omega), bsome, hf, cF (by rfl)]
  refine (level_loop hb hw 5000 _).trans ?_
  unfold D_sensor_each__sensor_Level_1
  rw [bsome, mk_eq (by omega), bsome, Int.toNat_natCast]
  have hL := levEach_l1 hb hw 5000 ⟨w1, w2, w3, w4⟩ hlen (plane_up hlen hall) (fun x : List Int × Int => some ((W : Int), (H : Int), x.1)) P.length 0 5000 (by omega) (by omega)
  simp only [List.range_zero, List.map_nil, List.nil_append, Nat.sub_zero] at hL
  exact (congrArg (fun z => Option.bind z fun r3 : Int × Int × List Int => some (r3.1, r3.2.1, r3.2.2, (0 : Int))) hL).trans rfl
end
theorem getD_up {P : List Int} (hP : upTo P 65535) (i : Nat) : 0 ≤ P.getD i 0 ∧ P.getD i 0 ≤ 65535 := hP i
theorem and_fin2 : ∀ n : Fin 80, andI .i64 ((n.val : Nat) : Int) 1 = ((n.val : Nat) : Int) % 2 := by decide +kernel
theorem andI_two {u : Int} (h : 0 ≤ u ∧ u < 80) : andI .i64 u 1 = u % 2 := by
  have := and_fin2 ⟨u.toNat, by omega⟩
  simpa [Int.toNat_of_nonneg h.1] using this
theorem shr1 (m : Int) : shrI .i64 m 1 = m / 2 := shr_eq m 1 (by decide)
theorem colour_raw (N : Nat) {phase : Int} (hp : 0 ≤ phase ∧ phase ≤ 3) {x y : Nat} (hx : x < 64) (hy : y < 64) : D_sensor_colour N phase x y = some (colI phase x y) := by
  unfold D_sensor_colour
  rw [shr1, w64 (x := (x : Int) + phase) (by omega), w64 (x := (y : Int) + phase / 2) (by omega), andI_two (by omega), andI_two (by omega), w64 (by omega)]
  congr 1
  unfold colI
  omega
def gn3 (g0 g1 g2 c : Int) : Int := if c = 0 then g0 else if c = 1 then g1 else g2
def gnV (g v : Int) : Int := min (v * g / 256) 65535
def gnL (W : Nat) (P : List Int) (phase g0 g1 g2 : Int) (i : Nat) : Int := gnV (gn3 g0 g1 g2 (colI phase ((i % W : Nat) : Int) ((i / W : Nat) : Int))) (P.getD i 0)
def gnOK (g0 g1 g2 : Int) : Prop := (0 ≤ g0 ∧ g0 ≤ 65535) ∧ (0 ≤ g1 ∧ g1 ≤ 65535) ∧ (0 ≤ g2 ∧ g2 ≤ 65535)
theorem gn3_in {g0 g1 g2 : Int} (h : gnOK g0 g1 g2) (c : Int) : 0 ≤ gn3 g0 g1 g2 c ∧ gn3 g0 g1 g2 c ≤ 65535 := by
  obtain ⟨h0, h1, h2⟩ := h
  unfold gn3; split
  · exact h0
  · split
    · exact h1
    · exact h2
theorem gn3_idx (g0 g1 g2 : Int) {c : Int} (h : 0 ≤ c ∧ c ≤ 2) : idx [g0, g1, g2] c = some (gn3 g0 g1 g2 c) := by
  have hc : c = 0 ∨ c = 1 ∨ c = 2 := by omega
  rcases hc with rfl | rfl | rfl <;> rfl
theorem mul65 {v g : Int} (hv : 0 ≤ v ∧ v ≤ 65535) (hg : 0 ≤ g ∧ g ≤ 65535) : 0 ≤ v * g ∧ v * g ≤ 4294836225 := by
  have := mul_in (x := v) (y := g) (a := 65535) (b := 65535) (by omega) (by omega)
  have h0 := Int.mul_nonneg hv.1 hg.1
  omega
theorem gnV_in {g v : Int} (hv : 0 ≤ v ∧ v ≤ 65535) (hg : 0 ≤ g ∧ g ≤ 65535) : 0 ≤ gnV g v ∧ gnV g v ≤ 65535 := by
  have := mul65 hv hg
  unfold gnV; omega
section
variable {g0 g1 g2 : Int} (hg : gnOK g0 g1 g2) {phase : Int} (hp : 0 ≤ phase ∧ phase ≤ 3)
include hg hp
theorem gain_1 (N : Nat) {x y : Nat} (hx : x < 64) (hy : y < 64) {v : Int} (hv : 0 ≤ v ∧ v ≤ 65535) :
    ∃ r, D_sensor_Gain_1 N v x y g0 g1 g2 phase = some r ∧ min r 65535 = gnV (gn3 g0 g1 g2 (colI phase x y)) v := by
  have hc := colI_in phase x y
  have hm := mul65 hv (gn3_in hg (colI phase x y))
  unfold D_sensor_Gain_1
  rw [colour_raw N hp hx hy, bsome, inr_eq (by omega), bsome, gn3_idx _ _ _ hc, bsome, w64 (by omega), shr8]
  exact ⟨_, rfl, rfl⟩
theorem gainEach_l1 (N : Nat) {W H : Nat} {P : List Int} (hs : 1 ≤ W ∧ W ≤ 64 ∧ 1 ≤ H ∧ H ≤ 64) (hl : P.length = W * H) (hP : upTo P 65535) (kk : List Int × Int → Option (Int × Int × List Int)) : ∀ (d k fuel : Nat), k + d = P.length → d < fuel →
    D_sensor_each__sensor_Gain_1_l1 N W P g0 g1 g2 phase kk fuel ((List.range k).map (gnL W P phase g0 g1 g2) ++ List.replicate (P.length - k) 0, (k : Int)) = kk ((List.range P.length).map (gnL W P phase g0 g1 g2), (P.length : Int)) := by
  have hm := Nat.mul_le_mul hs.2.1 hs.2.2.2
  intro d
  induction d with
  | zero =>
    intro k fuel hk hf
    obtain ⟨fuel, rfl⟩ : ∃ m, fuel = m + 1 := ⟨fuel - 1, by omega⟩
    obtain rfl : k = P.length := by omega
    unfold D_sensor_each__sensor_Gain_1_l1
    rw [cF (dF (by omega)), Nat.sub_self, List.replicate_zero, List.append_nil]
  | succ d ih =>
    intro k fuel hk hf
    obtain ⟨fuel, rfl⟩ : ∃ m, fuel = m + 1 := ⟨fuel - 1, by omega⟩
    have hlt : k < P.length := by omega
    obtain ⟨e1, e2⟩ := tdm k (show 0 < W by omega)
    obtain ⟨l1, l2, _⟩ := lt_of_place (show k < W * H by omega)
    have q1 : (0 : Int) ≤ ((k / W : Nat) : Int) := Int.natCast_nonneg _
    have q2 : ((k / W : Nat) : Int) < 64 := by have : k / W < 64 := by omega
                                               exact_mod_cast this
    have hv := hP k
    have hg' : P.getD k 0 = P[k] := by rw [List.getD_eq_getElem?_getD, List.getElem?_eq_getElem hlt]; rfl
    rw [hg'] at hv
    obtain ⟨r, hr, hr2⟩ := gain_1 hg hp N (x := k % W) (y := k / W) (by omega) (by omega) hv
    unfold D_sensor_each__sensor_Gain_1_l1
    rw [cT (dT (by omega)), idx_nat, List.getElem?_eq_getElem hlt, bsome, nz_eq (by omega), bsome, bsome, e1, e2, w64 (x := ((k / W : Nat) : Int)) (by omega), hr, bsome, idx_nat, List.getElem?_eq_getElem (by simp; omega), bsome, hr2]
    have hst : gnV (gn3 g0 g1 g2 (colI phase ((k % W : Nat) : Int) ((k / W : Nat) : Int))) P[k] = gnL W P phase g0 g1 g2 k := by unfold gnL; rw [hg']
    rw [hst, fill_step (gnL W P phase g0 g1 g2) 0 hlt, bsome, w64 (by omega)]
    exact ih (k + 1) fuel (by omega) (by omega)
theorem gain_loop (N : Nat) (kk : Int → Option (Int × Int × List Int × Int)) : D_sensor_Gain_l1 N phase g0 g1 g2 kk 5000 0 = kk 3 := by
  obtain ⟨⟨a0, c0⟩, ⟨a1, c1⟩, ⟨a2, c2⟩⟩ := hg
  have one : ∀ (fuel : Nat) (i : Nat) (b : Int), i < 3 → idx [g0, g1, g2] (i : Int) = some b → 0 ≤ b ∧ b ≤ 65535 → D_sensor_Gain_l1 N phase g0 g1 g2 kk (fuel + 1) (i : Int) = D_sensor_Gain_l1 N phase g0 g1 g2 kk fuel ((i + 1 : Nat) : Int) := fun fuel i b hi hx hb' => by
    conv => lhs; unfold D_sensor_Gain_l1
    rw [cT (dT (by omega)), hx, bsome, cF (dF (by omega)), cF (dF (by omega)), cF (dF (by omega)), cF (dF (by omega)), w64 (by omega)]
    rfl
  have h0 := one 4999 0 g0 (by decide) rfl ⟨a0, c0⟩
  have h1 := one 4998 1 g1 (by decide) rfl ⟨a1, c1⟩
  have h2 := one 4997 2 g2 (by decide) rfl ⟨a2, c2⟩
  refine h0.trans (h1.trans (h2.trans ?_))
  show D_sensor_Gain_l1 N phase g0 g1 g2 kk (4996 + 1) 3 = kk 3
  unfold D_sensor_Gain_l1
  rw [cF (by decide)]
theorem gain_eq {W H : Nat} {P : List Int} (hf : planeFine W H P = true) : D_sensor_Gain 5000 W H P phase g0 g1 g2 = some ((W : Int), (H : Int), (List.range P.length).map (gnL W P phase g0 g1 g2), 0) := by
  obtain ⟨w', h', e1, e2, w1, w2, w3, w4, hlen, hm, hall⟩ := plane_nat hf
  obtain rfl : W = w' := by omega
  obtain rfl : H = h' := by omega
  unfold D_sensor_Gain
  rw [sfine_eq 5000 W H P (by omega), bsome, hf, cF (by rfl)]
  refine (gain_loop hg hp 5000 _).trans ?_
  unfold D_sensor_each__sensor_Gain_1
  rw [bsome, mk_eq (by omega), bsome, Int.toNat_natCast]
  have hL := gainEach_l1 hg hp 5000 ⟨w1, w2, w3, w4⟩ hlen (plane_up hlen hall) (fun x : List Int × Int => some ((W : Int), (H : Int), x.1)) P.length 0 5000 (by omega) (by omega)
  simp only [List.range_zero, List.map_nil, List.nil_append, Nat.sub_zero] at hL
  exact (congrArg (fun z => Option.bind z fun r3 : Int × Int × List Int => some (r3.1, r3.2.1, r3.2.2, (0 : Int))) hL).trans rfl
end
end Go.Proofs.Ytpmnfhifmmfglab

namespace Go.Proofs.Ytpmnfhifmmfglab
open Go
section
variable {W H : Nat} {P : List Int} (hs : 1 ≤ W ∧ W ≤ 64 ∧ 1 ≤ H ∧ H ≤ 64) (hl : P.length = W * H) (hP : upTo P 65535) {l : List (Int × Int)} (hn : l.length ≤ 4096)
def okT (W H : Nat) (l : List (Int × Int)) (u v : Int) : Prop := 0 ≤ u ∧ u < W ∧ 0 ≤ v ∧ v < H ∧ cntF l u v = 0
instance (W H : Nat) (l : List (Int × Int)) (u v : Int) : Decidable (okT W H l u v) := by unfold okT; infer_instance
def crossT (x y u v : Int) : Prop := (u = x ∧ (v = y - 2 ∨ v = y + 2)) ∨ (v = y ∧ (u = x - 2 ∨ u = x + 2))
instance (x y u v : Int) : Decidable (crossT x y u v) := by unfold crossT; infer_instance
include hs hn in
include hs hl hP hn
end
section
variable {W H : Nat} {P : List Int} {l : List (Int × Int)}
theorem nbS_bd (hP : upTo P 65535) (x y : Int) : ∀ k, 0 ≤ nbCnt W H (cntF l) x y k ∧ nbCnt W H (cntF l) x y k ≤ k ∧ 0 ≤ nbSum W H (cntF l) P x y k ∧ nbSum W H (cntF l) P x y k ≤ 65535 * nbCnt W H (cntF l) x y k
  | 0 => by simp [nbCnt, nbSum]
  | k + 1 => by
    have := nbS_bd hP x y k
    have hv : 0 ≤ nbVal W P x y k ∧ nbVal W P x y k ≤ 65535 := hP _
    simp only [nbCnt, nbSum]
    split <;> omega
/-- What becomes of a place. -/
def rpF (W H : Nat) (P : List Int) (l : List (Int × Int)) (x y : Nat) : Int := min (repairV W H (cntF l) P (P.getD (y * W + x) 0) x y) 65535
end
section
variable {W H : Nat} {P : List Int} (hs : 1 ≤ W ∧ W ≤ 64 ∧ 1 ≤ H ∧ H ≤ 64) (hl : P.length = W * H) (hP : upTo P 65535) {l : List (Int × Int)} (hn : l.length ≤ 4096)
include hP in
theorem rpF_in (x y : Nat) : 0 ≤ rpF W H P l x y ∧ rpF W H P l x y ≤ 65535 := by
  have hv := getD_up hP (y * W + x)
  have hb := nbS_bd (W := W) (H := H) (l := l) hP x y 4
  have : 0 ≤ repairV W H (cntF l) P (P.getD (y * W + x) 0) x y := by
    unfold repairV
    split
    · exact hv.1
    · split
      · omega
      · exact Int.ediv_nonneg hb.2.2.1 hb.1
  unfold rpF
  omega
include hs hl hP hn
end
end Go.Proofs.Ytpmnfhifmmfglab

namespace Go.Proofs.Ytpmnfhifmmfglab
open Go
theorem eachM_l1 (N : Nat) {W H : Nat} {P : List Px} (hs : sideOK W H P.length) (m0 m1 m2 m3 m4 m5 m6 m7 m8 : Int) (g : Nat → Px) (hg : ∀ i p, P[i]? = some p → D_tone_Mix_2 N p.1 p.2.1 p.2.2 ((i % W : Nat) : Int) ((i / W : Nat) : Int) m0 m1 m2 m3 m4 m5 m6 m7 m8 = some (g i)) (kk : List Px × Int → Option (Int × Int × List Px × Int)) : ∀ (d k fuel : Nat), k + d = P.length → d < fuel →
    D_tone_each__tone_Mix_2_l1 N W P m0 m1 m2 m3 m4 m5 m6 m7 m8 kk fuel ((List.range k).map g ++ List.replicate (P.length - k) px0, (k : Int)) = kk ((List.range P.length).map g, (P.length : Int)) := by
  obtain ⟨h1, h2, h3, h4, h5, h6⟩ := side_nat W H P hs
  intro d
  induction d with
  | zero =>
    intro k fuel hk hf
    obtain ⟨fuel, rfl⟩ : ∃ m, fuel = m + 1 := ⟨fuel - 1, by omega⟩
    obtain rfl : k = P.length := by omega
    unfold D_tone_each__tone_Mix_2_l1
    rw [cF (dF (by omega)), Nat.sub_self, List.replicate_zero, List.append_nil]
  | succ d ih =>
    intro k fuel hk hf
    obtain ⟨fuel, rfl⟩ : ∃ m, fuel = m + 1 := ⟨fuel - 1, by omega⟩
    have hlt : k < P.length := by omega
    obtain ⟨e1, e2⟩ := tdm k (show 0 < W by omega)
    have hq : k / W < H := Nat.div_lt_of_lt_mul (by omega)
    have hq0 : (0 : Int) ≤ ((k / W : Nat) : Int) := Int.natCast_nonneg _
    unfold D_tone_each__tone_Mix_2_l1
    rw [cT (dT (by omega)), idx_nat, List.getElem?_eq_getElem hlt, bsome, nz_eq (by omega), bsome, bsome, e1, e2, w64 (x := ((k / W : Nat) : Int)) (by omega)]
    rw [hg k _ (List.getElem?_eq_getElem hlt), bsome, idx_nat, List.getElem?_eq_getElem (by simp; omega), bsome]
    rw [fill_step g px0 hlt, bsome, w64 (by omega)]
    exact ih (k + 1) fuel (by omega) (by omega)
theorem eachM_eq (N : Nat) {W H : Nat} {P : List Px} (hN : 5000 ≤ N) (m0 m1 m2 m3 m4 m5 m6 m7 m8 : Int) (hp : picF W H P = true) (g : Nat → Px) (hg : ∀ i p, P[i]? = some p → D_tone_Mix_2 N p.1 p.2.1 p.2.2 ((i % W : Nat) : Int) ((i / W : Nat) : Int) m0 m1 m2 m3 m4 m5 m6 m7 m8 = some (g i)) :
    D_tone_each__tone_Mix_2 N W H P m0 m1 m2 m3 m4 m5 m6 m7 m8 = some ((W : Int), (H : Int), (List.range P.length).map g, 0) := by
  have hs := picF_side hp
  have hl := side_len hs
  obtain ⟨a, b, l, ht⟩ := take_code N W H P hN
  rw [hp, if_pos rfl] at ht
  unfold D_tone_each__tone_Mix_2
  rw [ht, bsome, cF (by rfl), bsome, mk_eq (by omega), bsome, Int.toNat_natCast]
  exact eachM_l1 N hs m0 m1 m2 m3 m4 m5 m6 m7 m8 g hg _ P.length 0 N (by omega) (by omega)
theorem eachM_no (N : Nat) {W H : Int} {P : List Px} (hN : 5000 ≤ N) (m0 m1 m2 m3 m4 m5 m6 m7 m8 : Int) (hp : picF W H P = false) : D_tone_each__tone_Mix_2 N W H P m0 m1 m2 m3 m4 m5 m6 m7 m8 = some (0, 0, [], 1) := by
  obtain ⟨a, b, l, ht⟩ := take_code N W H P hN
  rw [hp] at ht
  unfold D_tone_each__tone_Mix_2
  rw [ht]
  rfl
end Go.Proofs.Ytpmnfhifmmfglab
