/- Opening of a slice of spots. -/
import Derived.Test.YtpmnfhifmmfglaaRow
import Derived.Test.YtpmnfhifmmfglaaRepair
namespace Go.Proofs.Ytpmnfhifmmfglaa
open Go.ChangeShapes Go.WideShapes Go.ChangeAt Go.RowKit Go.Joins Go.Deep

section
variable {H : Type} {enc : TypeId × Value → H}
set_option maxRecDepth 100000 in
theorem open_spots {W : World} {base : Nat} {sp : Nat → Bool} {held : Bool} {r : Reach} {b0 : Nat} {v : Value} {d : DataW H} {p : List MemPlace} (hv : Value.okWide Try.prog W r b0 34 v) (h : DataW.Trod enc Try.prog W base sp held 34 v d p) :
    ∃ (A : Option Addr) (n c : Nat) (l : List (Int × Int)), v = .slice A n c ∧ RS W base A n l ∧ n ≤ maxLen := by
  obtain ⟨a0, n0, c0, rfl⟩ := okWide_slice Try.underlying34 hv
  obtain ⟨fuel, hf⟩ := h
  rcases open_slice_pairs Try.underlying34 Try.underlying96 (by kernel_rfl) (by kernel_rfl) (by kernel_rfl) (by kernel_rfl) (by kernel_rfl) hf with ⟨hcs, _⟩ | ⟨a, n, c, m, k, V0, V1, D0, D1, P0, P1, hcs, hb, hnc, hc, hm, _, hel⟩
  · simp only [Value.cells, List.cons.injEq, and_true] at hcs
    cases hcs
    exact ⟨none, 0, 0, [], rfl, RS.nil, Nat.zero_le _⟩
  · simp only [Value.cells, List.cons.injEq, and_true] at hcs
    cases hcs
    have hle : n0 ≤ m := by rw [hm]; split <;> omega
    have each : ∀ i, i < n0 → ∃ x y : Int, W.cell? (a.add (i * 2)) = some (.int .i64 x) ∧ W.cell? (a.add (i * 2 + 1)) = some (.int .i64 y) := by
      intro i hi
      obtain ⟨e0, e1, t0, t1⟩ := hel i (by omega)
      obtain ⟨x, hx, _, _⟩ := DataW.trod_int Try.underlying3 t0
      obtain ⟨y, hy, _, _⟩ := DataW.trod_int Try.underlying3 t1
      simp only [List.cons.injEq, and_true] at hx hy
      exact ⟨x, y, by rw [e0, hx], by rw [e1, hy]⟩
    refine ⟨some a, n0, c0, (List.range n0).map fun i => (intOf (V0 i), intOf (V1 i)), rfl, ⟨by simp, fun hn => ?_⟩, by omega⟩
    obtain ⟨b, off, spot⟩ := a
    obtain ⟨x0, y0, hx0, _⟩ := each 0 hn
    have hspot : spot = none := by simpa [Addr.add] using World.cell?_spot hx0
    subst hspot
    rw [Nat.zero_mul, add_plain] at hx0
    refine ⟨b, off, rfl, hb, block_lt_of_cell hx0, fun i x y hi => ?_⟩
    have hin : i < n0 := by
      have := (List.getElem?_eq_some_iff.1 hi).1
      simpa using this
    obtain ⟨x1, y1, hx1, hy1⟩ := each i hin
    obtain ⟨e0, e1, _, _⟩ := hel i (by omega)
    rw [List.getElem?_map, List.getElem?_range hin] at hi
    simp only [Option.map_some, Option.some.injEq, Prod.mk.injEq] at hi
    obtain ⟨rfl, rfl⟩ := hi
    have g0 := Option.some.inj (e0.symm.trans hx1)
    have g1 := Option.some.inj (e1.symm.trans hy1)
    rw [add_plain] at hx1 hy1
    rw [hx1, g0, Nat.add_assoc, hy1, g1]
    exact ⟨rfl, rfl⟩
end
end Go.Proofs.Ytpmnfhifmmfglaa
