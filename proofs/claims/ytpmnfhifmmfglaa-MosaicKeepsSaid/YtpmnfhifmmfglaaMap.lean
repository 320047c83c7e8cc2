/- A map from spots to counts, as the entries lie: what a look-up gives, what one more count leaves. -/
import Derived.Test.YtpmnfhifmmfglaaRows
import Derived.Test.YtpmnfhifmmfglaaLib
import Derived.DeepKeys4
import Derived.Maps.OwnOps
import Derived.WideKeyEntry
import Derived.KernelRfl
set_option linter.unusedVariables false
set_option linter.unusedSimpArgs false
set_option linter.unusedSectionVars false
namespace Go.Proofs.Ytpmnfhifmmfglaa
open Go.RowKit Go.WideMaps Go.ChangeMaps

def spotV (x y : Int) : Value := .agg #[.int .i64 x, .int .i64 y]
def wfI (x : Int) : Prop := -9223372036854775808 ≤ x ∧ x ≤ 9223372036854775807
theorem spotV_inj {x y x' y' : Int} (h : spotV x y = spotV x' y') : x = x' ∧ y = y' := by
  simpa [spotV] using h

theorem Try.laidOut : laidOutB Try.prog = true := by kernel_rfl
theorem Try.rowSpot : (96 : TypeId) < Try.prog.types.size := of_decide_eq_true (by kernel_rfl)
theorem Try.lawSpot : KeyLaw Try.prog 96 := deep_law_laid Try.laidOut (m := 2) (by omega) Try.rowSpot (by kernel_rfl) (by rw [Try.underlying96])
theorem Try.keySpot : Try.prog.keyType 96 = true := by kernel_rfl
theorem Try.cellsSpot : Try.prog.cellsOf 96 = 2 := by kernel_rfl
theorem Try.cellsInt : Try.prog.cellsOf 3 = 1 := by kernel_rfl
theorem Try.typesTwo : 2 ≤ Try.prog.types.size := of_decide_eq_true (by kernel_rfl)

theorem spot_key (x y : Int) (hx : wfI x) (hy : wfI y) : ∃ l, keyOf Try.prog 96 (spotV x y) = some l := by
  have wx : (Lit.int .i64 x).wf = true := WalkArith.wf_i64 hx
  have wy : (Lit.int .i64 y).wf = true := WalkArith.wf_i64 hy
  obtain ⟨m, hm⟩ : ∃ m, Try.prog.types.size = m + 2 := ⟨Try.prog.types.size - 2, by have := Try.typesTwo; omega⟩
  have hf : (spotV x y).formed Try.prog 96 = true := by
    simp [spotV, Value.formed, Try.underlying96, Try.cellsSpot]
  have hl : Try.prog.keyLits (Try.prog.types.size + 1) 96 (spotV x y).cells.toList = some [.int .i64 x, .int .i64 y] := by
    rw [hm]
    simp [spotV, Value.cells, Program.keyLits, Try.underlying96, Try.underlying3, Try.cellsSpot, Try.cellsInt, wx, wy]
  unfold keyOf
  simp only [Try.underlying96, Try.keySpot, hf, Bool.and_self, if_true, hl]
  exact ⟨_, rfl⟩

/-- Block B is a map of at most n entries; f: how often each spot counts. -/
def MapC (w : World) (B n : Nat) (f : Int → Int → Int) : Prop :=
  ∃ es clock, w.heap[B]? = some (.map es clock) ∧ es.size ≤ n ∧
    (∀ e ∈ es.toList, ∃ x y, wfI x ∧ wfI y ∧ e.key = spotV x y ∧ e.val = .int .i64 (f x y) ∧ e.born < clock) ∧
    (es.toList.map (·.born)).Nodup ∧ (es.toList.map (·.key)).Nodup ∧ ∀ x y, (∀ e ∈ es.toList, e.key ≠ spotV x y) → f x y = 0

section
variable {w : World} {B n : Nat} {f : Int → Int → Int}
theorem MapC.lt (h : MapC w B n f) : B < w.heap.size := by
  obtain ⟨es, clock, hb, _⟩ := h
  exact lt_of_block hb
theorem MapC.heap {w' : World} (h : MapC w B n f) (hb : w'.heap[B]? = w.heap[B]?) : MapC w' B n f := by
  obtain ⟨es, clock, h1, h2⟩ := h
  exact ⟨es, clock, hb.trans h1, h2⟩
theorem MapC.below {w' : World} {B' : Nat} (h : MapC w B n f) (hb : Below B' w w') (hB : B < B') : MapC w' B n f := h.heap (hb.block B hB)
theorem MapC.alloc (h : MapC w B n f) (o : Obj) : MapC (w.alloc o) B n f := h.heap (Below.heap_alloc w o B h.lt)
theorem MapC.drew (h : MapC w B n f) : MapC w.drew B n f := h
theorem MapC.set_ (h : MapC w B n f) {p : Addr} (hp : B ≠ p.block) (u : Value) : MapC (w.setCell p u) B n f := h.heap (Below.heap_setCell w p u B hp)
theorem MapC.mono {m : Nat} (h : MapC w B n f) (hn : n ≤ m) : MapC w B m f := by
  obtain ⟨es, clock, h1, h2, h3⟩ := h
  exact ⟨es, clock, h1, by omega, h3⟩
theorem MapC.made (w : World) : MapC (w.alloc (.map #[] 0)) w.heap.size 0 (fun _ _ => 0) :=
  ⟨#[], 0, heap_alloc_new w _, by simp, by simp, by simp, by simp, fun _ _ _ => rfl⟩

theorem keys_of {es : Array MapEntry} {clock : Nat} (h : ∀ e ∈ es.toList, ∃ x y, wfI x ∧ wfI y ∧ e.key = spotV x y ∧ e.val = .int .i64 (f x y) ∧ e.born < clock) :
    ∀ e ∈ es.toList, ∃ l, keyOf Try.prog 96 e.key = some l := fun e he => by
  obtain ⟨x, y, hx, hy, hk, _⟩ := h e he
  rw [hk]
  exact spot_key x y hx hy

theorem MapC.lookup (h : MapC w B n f) (x y : Int) (hx : wfI x) (hy : wfI y) :
    (Instr.lookup 98 (.map (some B)) (spotV x y) false).run Try.prog w = .ok (.int .i64 (f x y)) w := by
  obtain ⟨es, clock, hb, _, hes, _, _, h0⟩ := h
  obtain ⟨l, hl⟩ := spot_key x y hx hy
  rcases Try.lawSpot.find w hl es.toList (keys_of hes) with ⟨h1, h2⟩ | ⟨j, e0, h1, h2, h3⟩
  · rw [h0 x y h2]
    simp [Instr.lookup, run_underlying Try.underlying98, MapKept.run_getObj_map hb, Try.lawSpot.check w _ hl, h1, Result.andThen]
  · obtain ⟨x', y', _, _, hk, hv, _⟩ := hes e0 (List.mem_of_getElem? h2)
    obtain ⟨rfl, rfl⟩ := spotV_inj (hk.symm.trans h3)
    simp [Instr.lookup, run_underlying Try.underlying98, MapKept.run_getObj_map hb, Try.lawSpot.check w _ hl, h1, hv, Result.andThen]

def bumpF (f : Int → Int → Int) (x y v : Int) : Int → Int → Int := fun a b => if a = x ∧ b = y then v else f a b

/-- 'm[k] op= ..': the entry, then the store; the look-up reads the same ahead of the entry and behind it. -/
theorem MapC.bump (h : MapC w B n f) (x y : Int) (hx : wfI x) (hy : wfI y) :
    ∃ (v0 : Value) (st : Nat) (o1 : Obj), (Instr.mapEntry 98 (.map (some B)) (spotV x y)).run Try.prog w = .ok (.tuple #[v0, goInt st]) (setBlock w B o1) ∧
      (∀ w2 : World, w2.heap[B]? = some o1 → (Instr.lookup 98 (.map (some B)) (spotV x y) false).run Try.prog w2 = .ok (.int .i64 (f x y)) w2) ∧
      ∀ (w2 : World) (v : Int), w2.heap[B]? = some o1 → ∃ o2, (Instr.entryStore 98 (.map (some B)) (goInt st) (.int .i64 v)).run Try.prog w2 = .ok () (setBlock w2 B o2) ∧
        ∀ w3 : World, w3.heap[B]? = some o2 → MapC w3 B (n + 1) (bumpF f x y v) := by
  obtain ⟨es, clock, hb, hn, hes, hborn, hkey, h0⟩ := h
  obtain ⟨l, hl⟩ := spot_key x y hx hy
  have hkeys := keys_of hes
  rcases Try.lawSpot.find w hl es.toList hkeys with ⟨h1, h2⟩ | ⟨j, e0, h1, h2, h3⟩
  · have hf0 := h0 x y h2
    refine ⟨.int .i64 0, clock, .map (es.push ⟨spotV x y, .int .i64 0, clock⟩) (clock + 1), ?_, ?_, ?_⟩
    · simp [Instr.mapEntry, run_underlying Try.underlying98, MapKept.run_getObj_map hb, Try.lawSpot.check w false hl, h1, MapKept.run_setObj_map _ hb, Result.andThen, setBlock]
    · intro w2 hw2
      have hkeys2 : ∀ e ∈ (es.push ⟨spotV x y, .int .i64 0, clock⟩).toList, ∃ l, keyOf Try.prog 96 e.key = some l := fun e he => by
        rw [Array.toList_push] at he
        rcases List.mem_append.1 he with he | he
        · exact hkeys e he
        · rw [List.mem_singleton] at he; subst he; exact ⟨l, hl⟩
      rcases Try.lawSpot.find w2 hl _ hkeys2 with ⟨_, g2⟩ | ⟨j, e0, g1, g2, g3⟩
      · exact absurd rfl (g2 ⟨spotV x y, .int .i64 0, clock⟩ (by simp))
      · have he0 : e0.val = .int .i64 0 := by
          have hm := List.mem_of_getElem? g2
          rw [Array.toList_push] at hm
          rcases List.mem_append.1 hm with hm | hm
          · exact absurd g3 (h2 e0 hm)
          · rw [List.mem_singleton] at hm; subst hm; rfl
        rw [hf0]
        rw [Array.toList_push] at g1
        simp [Instr.lookup, run_underlying Try.underlying98, MapKept.run_getObj_map hw2, Try.lawSpot.check w2 _ hl, g1, he0, Result.andThen]
    · intro w2 v hw2
      have hidx : (es.push ⟨spotV x y, .int .i64 0, clock⟩).findIdx? (fun e => ((e.born : Nat) : Int) == ((clock : Nat) : Int)) = some es.size := by
        rw [WideElems.findIdx_arr]
        have := WideElems.findIdx_born (l := (es.push ⟨spotV x y, .int .i64 0, clock⟩).toList) (j := es.size) (e0 := ⟨spotV x y, .int .i64 0, clock⟩) (by
          simp only [Array.toList_push, List.map_append, List.map_cons, List.map_nil]
          refine List.nodup_append.2 ⟨hborn, by simp, fun a ha c hc e1 => ?_⟩
          simp only [List.mem_singleton] at hc
          obtain ⟨z, hz, rfl⟩ := List.mem_map.1 ha
          obtain ⟨_, _, _, _, _, _, hlt⟩ := hes z hz
          omega) (by simp)
        exact this
      have hmod : (es.push ⟨spotV x y, .int .i64 0, clock⟩).modify es.size (fun e => { e with val := .int .i64 v }) = es.push ⟨spotV x y, .int .i64 v, clock⟩ := by
        apply Array.ext'
        rw [Array.toList_modify, Array.toList_push, Array.toList_push, ← Array.length_toList, WideElems.modify_last]
      refine ⟨.map (es.push ⟨spotV x y, .int .i64 v, clock⟩) (clock + 1), ?_, ?_⟩
      · simp [Instr.entryStore, MapKept.run_getObj_map hw2, asInt, asIntOf, goInt, hidx, hmod, MapKept.run_setObj_map _ hw2, Result.andThen, setBlock]
      · intro w3 hw3
        refine ⟨_, _, hw3, by simp; omega, ?_, ?_, ?_, ?_⟩
        · intro e he
          rw [Array.toList_push] at he
          rcases List.mem_append.1 he with he1 | he
          · obtain ⟨a, b, ha, hb', hk, hv, hlt⟩ := hes e he1
            refine ⟨a, b, ha, hb', hk, ?_, by omega⟩
            have hne : ¬ (a = x ∧ b = y) := by rintro ⟨rfl, rfl⟩; exact h2 e he1 hk
            rw [hv, bumpF, if_neg hne]
          · rw [List.mem_singleton] at he; subst he
            exact ⟨x, y, hx, hy, rfl, by simp [bumpF], by simp⟩
        · simp only [Array.toList_push, List.map_append, List.map_cons, List.map_nil]
          refine List.nodup_append.2 ⟨hborn, by simp, fun a ha c hc e1 => ?_⟩
          simp only [List.mem_singleton] at hc
          obtain ⟨z, hz, rfl⟩ := List.mem_map.1 ha
          obtain ⟨_, _, _, _, _, _, hlt⟩ := hes z hz
          omega
        · simp only [Array.toList_push, List.map_append, List.map_cons, List.map_nil]
          refine List.nodup_append.2 ⟨hkey, by simp, fun a ha c hc e1 => ?_⟩
          simp only [List.mem_singleton] at hc
          obtain ⟨z, hz, rfl⟩ := List.mem_map.1 ha
          exact h2 z hz (e1.trans hc)
        · intro a b hab
          rw [Array.toList_push] at hab
          have hne : ¬ (a = x ∧ b = y) := by rintro ⟨rfl, rfl⟩; exact hab _ (List.mem_append_right _ (List.mem_singleton.2 rfl)) rfl
          rw [bumpF, if_neg hne]
          exact h0 a b fun e he => hab e (List.mem_append_left _ he)
  · have hj : es[j]? = some e0 := by simpa using h2
    have hm0 := List.mem_of_getElem? h2
    obtain ⟨x', y', _, _, hk, hv, hlt0⟩ := hes e0 hm0
    obtain ⟨rfl, rfl⟩ := spotV_inj (hk.symm.trans h3)
    have hsame : es.modify j (fun e => { e with key := spotV x' y' }) = es := by
      apply Array.ext'
      rw [Array.toList_modify, modify_eq_set _ _ _ _ h2]
      have : ({ e0 with key := spotV x' y' } : MapEntry) = e0 := by rw [← hk]
      rw [this]
      exact WideElems.set_self _ _ _ h2
    refine ⟨e0.val, e0.born, .map es clock, ?_, ?_, ?_⟩
    · simp [Instr.mapEntry, run_underlying Try.underlying98, MapKept.run_getObj_map hb, Try.lawSpot.check w false hl, h1, hj, h3, Try.lawSpot.stays w hl, hsame, MapKept.run_setObj_map _ hb, Result.andThen, setBlock]
    · intro w2 hw2
      exact MapC.lookup (n := n) ⟨es, clock, hw2, hn, hes, hborn, hkey, h0⟩ x' y' hx hy
    · intro w2 v hw2
      have hidx : es.findIdx? (fun e => ((e.born : Nat) : Int) == ((e0.born : Nat) : Int)) = some j := by
        rw [WideElems.findIdx_arr]
        exact WideElems.findIdx_born hborn h2
      refine ⟨.map (es.modify j fun e => { e with val := .int .i64 v }) clock, ?_, ?_⟩
      · simp [Instr.entryStore, MapKept.run_getObj_map hw2, asInt, asIntOf, goInt, hidx, MapKept.run_setObj_map _ hw2, Result.andThen, setBlock]
      · intro w3 hw3
        have hl3 : (es.modify j fun e => { e with val := .int .i64 v }).toList = es.toList.set j { e0 with val := .int .i64 v } := by
          rw [Array.toList_modify, modify_eq_set _ _ _ _ h2]
        have hjlt : j < es.toList.length := (List.getElem?_eq_some_iff.1 h2).1
        have hmapkey : (es.toList.set j { e0 with val := .int .i64 v }).map (·.key) = es.toList.map (·.key) := by
          rw [List.map_set]
          exact WideElems.set_self _ _ _ (by rw [List.getElem?_map, h2]; rfl)
        have hmapborn : (es.toList.set j { e0 with val := .int .i64 v }).map (·.born) = es.toList.map (·.born) := by
          rw [List.map_set]
          exact WideElems.set_self _ _ _ (by rw [List.getElem?_map, h2]; rfl)
        refine ⟨_, _, hw3, by simp; omega, ?_, ?_, ?_, ?_⟩
        · intro e he
          rw [hl3] at he
          obtain ⟨i, hi⟩ := List.mem_iff_getElem?.1 he
          rw [List.getElem?_set] at hi
          by_cases hij : j = i
          · subst hij
            rw [if_pos rfl, if_pos hjlt] at hi
            obtain rfl := Option.some.inj hi
            exact ⟨x', y', hx, hy, hk, by simp [bumpF], hlt0⟩
          · rw [if_neg hij] at hi
            obtain ⟨a, b, ha, hb', hka, hva, hlt⟩ := hes e (List.mem_of_getElem? hi)
            refine ⟨a, b, ha, hb', hka, ?_, hlt⟩
            have hne : ¬ (a = x' ∧ b = y') := by
              rintro ⟨rfl, rfl⟩
              have g1 : (es.toList.map (·.key))[j]? = some e0.key := by rw [List.getElem?_map, h2]; rfl
              have g2 : (es.toList.map (·.key))[i]? = some e0.key := by rw [List.getElem?_map, hi, hk, ← hka]; rfl
              exact hij ((List.getElem?_inj (by rw [List.length_map]; exact hjlt) hkey).1 (g1.trans g2.symm))
            rw [hva, bumpF, if_neg hne]
        · rw [hl3, hmapborn]; exact hborn
        · rw [hl3, hmapkey]; exact hkey
        · intro a b hab
          rw [hl3] at hab
          have hne : ¬ (a = x' ∧ b = y') := by
            rintro ⟨rfl, rfl⟩
            exact hab { e0 with val := .int .i64 v } (List.mem_iff_getElem?.2 ⟨j, by rw [List.getElem?_set, if_pos rfl, if_pos hjlt]⟩) hk
          rw [bumpF, if_neg hne]
          refine h0 a b fun e he hke => ?_
          obtain ⟨i, hi⟩ := List.mem_iff_getElem?.1 he
          have hij : j ≠ i := by
            rintro rfl
            rw [h2] at hi
            obtain rfl := Option.some.inj hi
            obtain ⟨rfl, rfl⟩ := spotV_inj (hk.symm.trans hke)
            exact hne ⟨rfl, rfl⟩
          exact hab e (List.mem_iff_getElem?.2 ⟨i, by rw [List.getElem?_set_ne hij]; exact hi⟩) hke
end
end Go.Proofs.Ytpmnfhifmmfglaa
