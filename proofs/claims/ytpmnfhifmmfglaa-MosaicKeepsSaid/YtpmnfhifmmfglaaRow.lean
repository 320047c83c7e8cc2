/- From a walk to a given row: opening of arguments, and the row's end. -/
import Derived.Test.YtpmnfhifmmfglaaRows
import Derived.Test.YtpmnfhifmmfglaaLib
import Derived.ProofKit
import Derived.Carry
import Derived.OpenShut
import Derived.Lib.SmallJoins
import Derived.Deep.Slices
import Derived.Deep.SlicePairs
set_option linter.unusedVariables false
set_option linter.unusedSimpArgs false
set_option linter.unusedSectionVars false
namespace Go.Proofs.Ytpmnfhifmmfglaa
open Go.ChangeShapes Go.WideShapes Go.ChangeAt Go.RowKit Go.Joins Go.Deep

theorem Try.own : ownKnob Try.prog.godebug = none := by kernel_rfl
theorem Try.laid : laidOutB Try.prog = true := by kernel_rfl

def wf64 (x : Int) : Prop := -9223372036854775808 ≤ x ∧ x ≤ 9223372036854775807
theorem wf64_of {x : Int} (h : (Lit.int .i64 x).wf = true) : wf64 x := by
  simp [Lit.wf, IntKind.min, IntKind.max, IntKind.signed, IntKind.bits] at h
  exact h

section
variable {H : Type} {enc : TypeId × Value → H} {P : Program}

/-- Every argument reads behind the call as it read before it. -/
theorem args_stay (hl : laidOutB P = true) {W W' : World} (hb : Below W.heap.size W W') : ∀ {ts : List TypeId} {vs : List Value} {ds : List (DataW H)} {ps : List MemPlace},
    ts.all (fun t => P.readableRec t && decide (t < P.types.size)) = true → DataW.TrodAll enc P W 0 (fun _ => true) true ts vs ds ps → (∀ x ∈ ps, x.block < W.heap.size) →
    DataW.TrodAll enc P W' 0 (fun b => decide (b < W.heap.size)) true ts vs ds ps
  | [], [], [], _, _, h, _ => h
  | t :: ts, v :: vs, d :: ds, ps, ht, h, hp => by
    obtain ⟨p, q, h1, h2, rfl⟩ := h
    simp only [List.all_cons, Bool.and_eq_true, decide_eq_true_eq] at ht
    exact ⟨p, q, Below.trod hl ht.1.1 ht.1.2 h1 hb (fun x hx => hp x (List.mem_append_left _ hx)), args_stay hl hb (by simpa using ht.2) h2 (fun x hx => hp x (List.mem_append_right _ hx)), rfl⟩
  | [], _ :: _, _, _, _, h, _ => by cases h
  | [], [], _ :: _, _, _, h, _ => by cases h
  | _ :: _, [], _, _, _, h, _ => by cases h
  | _ :: _, _ :: _, [], _, _, h, _ => by cases h

/-- A law's end: it answered true, and below the heap's old size nothing has turned. -/
theorem law_end {f : Func} {s : ChangeSpec} {apart fresh handsOn : Bool} {W W' : World} {args : Array Value} {ds : List (DataW H)} {before : List MemPlace} {tb : TypeId}
    (hl : laidOutB P = true) (hts : f.params.toList.all (fun t => P.readableRec t && decide (t < P.types.size)) = true) (hr : f.resultTypes = #[tb]) (hb : P.underlying tb = some .bool)
    (hv : s.vars = []) (hW : DataW.Whole enc P f.params.toList s.vars apart W args.toList ds [] before)
    (h1 : (s.fn H ds).results = [.lit (.bool true)]) (h2 : (s.fn H ds).args = ds) (h3 : (s.fn H ds).vars = []) (hbel : Below W.heap.size W W') :
    s.post enc P f apart fresh handsOn false W args (.bool true) W' := by
  obtain ⟨p, q, hA, hq, rfl, _, _⟩ := id hW
  rw [hv] at hq
  obtain ⟨_, rfl⟩ := trodVars_none hq
  have hlt : ∀ x ∈ p ++ [], x.block < W.heap.size := fun x hx => hW.lt x hx
  refine ⟨ds, [], p ++ [], [], p, [], hW, ?_, ?_, ?_, ?_, fun h => by cases h⟩
  · rw [List.append_nil, h1, hr]
    exact trodAll_mk1 (shut_bool hb true)
  · rw [List.append_nil, h2]
    exact args_stay hl hbel hts hA (fun x hx => hlt x (by simpa using hx))
  · rw [List.append_nil, h3, hv]
    rfl
  · exact World.keptBut_mono (fun x hx => ⟨hx, Or.inr (Or.inl (by simpa using hx))⟩) (hbel.frame (· ∈ p ++ []))

/-- An array of integers, by value. -/
theorem open_int_array {W : World} {base : Nat} {sp : Nat → Bool} {held : Bool} {r : Reach} {b0 : Nat} {t e : TypeId} {n : Nat} {k : IntKind} {v : Value} {d : DataW H} {p : List MemPlace}
    (ht : P.underlying t = some (.array n e)) (he : P.underlying e = some (.int k)) (ce : P.cellsOf e = 1) (ct : P.cellsOf t = n) (hv : Value.okWide P W r b0 t v) (h : DataW.Trod enc P W base sp held t v d p) :
    ∃ xs : List Int, xs.length = n ∧ v = .agg (xs.map (.int k)).toArray ∧ ∀ x ∈ xs, (Lit.int k x).wf = true := by
  simp only [Value.okWide, ht] at hv
  obtain ⟨cs, rfl, hsz, _⟩ := hv
  obtain ⟨fuel, hf⟩ := h
  obtain ⟨ys, m, _, _, hlen, hyl, hel⟩ := DataW.trod_array ht hf
  have hcs : cs.size = n := hsz.trans ct
  have each : ∀ i, (hi : i < cs.size) → ∃ z, cs[i] = .int k z ∧ (Lit.int k z).wf = true := by
    intro i hi
    have h0 := hel i (by omega)
    rw [ce, Nat.mul_one, List.getElem?_eq_getElem (by omega)] at h0
    obtain ⟨z, hz, _, wz⟩ := DataW.trod_int he h0
    refine ⟨z, ?_, wz⟩
    have h1 : ((Value.agg cs).cells.toList.drop i).take 1 = [cs[i]] := by
      simp only [Value.cells]
      rw [List.drop_eq_getElem_cons (by simpa using hi)]
      simp
    rw [h1] at hz
    simpa using hz
  refine ⟨cs.toList.map intOf, by simp [hcs], ?_, ?_⟩
  · congr 1
    apply Array.ext
    · simp
    · intro i hi _
      obtain ⟨z, hz, _⟩ := each i hi
      simp [hz, intOf]
  · intro x hx
    obtain ⟨u, hu, rfl⟩ := List.mem_map.1 hx
    obtain ⟨i, hi, rfl⟩ := List.getElem_of_mem hu
    obtain ⟨z, hz, wz⟩ := each i (by simpa using hi)
    have : cs.toList[i] = .int k z := by simpa using hz
    rw [this]
    exact wz
end

section
variable {H : Type} {enc : TypeId × Value → H}

theorem open_ri {W : World} {base : Nat} {sp : Nat → Bool} {held : Bool} {fuel : Nat} {cs : List Value} {x : DataW H × List MemPlace} (h : DataW.trod enc Try.prog W base sp held fuel 22 cs = some x) :
    ∃ (A : Option Addr) (n c : Nat) (xs : List Int), cs = [.slice A n c] ∧ RI W base A n xs ∧ n ≤ maxLen ∧ ∀ x ∈ xs, wf64 x := by
  rcases open_ints Try.underlying22 Try.underlying3 (by kernel_rfl) h with ⟨rfl, _⟩ | ⟨a, n, c, zs, rfl, hb, hnc, hc, hz, _, hcell, hw⟩
  · exact ⟨none, 0, 0, [], rfl, RI.nil, Nat.zero_le _, by simp⟩
  · have hle : n ≤ zs.length := by rw [hz]; split <;> omega
    refine ⟨some a, n, c, zs.take n, rfl, ⟨by simp [VI]; omega, fun hn => ?_⟩, by omega, fun x hx => wf64_of (hw x (List.mem_of_mem_take hx))⟩
    obtain ⟨b, off, rfl, hat⟩ := ints_at hcell (by omega)
    have h0 := hat 0 (by omega)
    refine ⟨b, off, rfl, hb, block_lt_of_cell h0, fun j u hu => ?_⟩
    have hj : j < n := by
      have := (List.getElem?_eq_some_iff.1 hu).1
      simp [VI] at this; omega
    rw [hat j (by omega)]
    simp only [VI, List.getElem?_map, List.getElem?_take_of_lt hj, List.getElem?_eq_getElem (show j < zs.length by omega), Option.map_some, Option.some.injEq] at hu
    rw [← hu, List.getD_eq_getElem?_getD, List.getElem?_eq_getElem (show j < zs.length by omega)]
    rfl

theorem Try.cellsPlane : Try.prog.cellsOf 24 = 3 := by kernel_rfl
set_option maxRecDepth 100000 in
theorem open_plane {W : World} {base : Nat} {sp : Nat → Bool} {held : Bool} {r : Reach} {b0 : Nat} {v : Value} {d : DataW H} {p : List MemPlace} (hv : Value.okWide Try.prog W r b0 24 v) (h : DataW.Trod enc Try.prog W base sp held 24 v d p) :
    ∃ (a b : Int) (A : Option Addr) (n c : Nat) (xs : List Int), v = .agg #[.int .i64 a, .int .i64 b, .slice A n c] ∧ RI W base A n xs ∧ n ≤ maxLen ∧ wf64 a ∧ wf64 b := by
  obtain ⟨c0, c1, c2, y0, y1, y2, m, rfl, _, _, hy0, hy1, hy2⟩ := open_agg3 Try.underlying24 (by kernel_rfl) Try.cellsPlane hv h
  obtain ⟨a, e0, _, w0⟩ := DataW.trod_int Try.underlying3 hy0
  obtain ⟨b, e1, _, w1⟩ := DataW.trod_int Try.underlying3 hy1
  obtain ⟨A, n, c, xs, e2, hr, hn, _⟩ := open_ri hy2
  simp only [List.cons.injEq, and_true] at e0 e1 e2
  subst e0 e1 e2
  exact ⟨a, b, A, n, c, xs, rfl, hr, hn, wf64_of w0, wf64_of w1⟩
end
end Go.Proofs.Ytpmnfhifmmfglaa
