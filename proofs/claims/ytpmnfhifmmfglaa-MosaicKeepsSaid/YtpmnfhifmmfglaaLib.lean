/- Small words on memory for the walks of this claim: what a slice reads as, a block that is known whole, an owned row, one append of one element. -/
import Derived.WalkKit
import Derived.WalkSpells
import Derived.WalkLawsBesides
import Derived.BigQuiet
import Derived.Deep.QuietTactic
import Derived.Handy
import Derived.Lib.Hide
import Derived.Deep.DeepMust
import Derived.Deep.AppendLies
import Derived.Maps.AppendAt
set_option linter.unusedVariables false
set_option linter.unusedSimpArgs false
set_option linter.unusedSectionVars false
namespace Go.Proofs.Ytpmnfhifmmfglaa
open Go.RowKit

theorem ret_i {a b : Int} (h : a = b) : Ending.returned (.int .i64 a) = .returned (.int .i64 b) := by rw [h]
theorem ret_b {a b : Bool} (h : a = b) : Ending.returned (.bool a) = .returned (.bool b) := by rw [h]

/-- The slice '.slice A n c' reads as the cells xs (s cells an element), in a block from B on. -/
def RV (w : World) (B s : Nat) (A : Option Addr) (n : Nat) (xs : List Value) : Prop :=
  xs.length = n * s ∧ (0 < n → ∃ b o, A = some ⟨b, o, none⟩ ∧ B ≤ b ∧ b < w.heap.size ∧ ∀ j u, xs[j]? = some u → w.cell? ⟨b, o + j, none⟩ = some u)
def VI (xs : List Int) : List Value := xs.map (.int .i64)
def RI (w : World) (B : Nat) (A : Option Addr) (n : Nat) (xs : List Int) : Prop := RV w B 1 A n (VI xs)

section
variable {w w' : World} {B B' s n : Nat} {A : Option Addr} {vs : List Value} {xs : List Int}
theorem RV.below (h : RV w B s A n vs) (hb : Below B' w w') (hB : w.heap.size ≤ B') : RV w' B s A n vs :=
  ⟨h.1, fun hn => by
    obtain ⟨b, o, hA, h1, h2, hc⟩ := h.2 hn
    refine ⟨b, o, hA, h1, Nat.lt_of_lt_of_le h2 hb.size, fun j u hu => ?_⟩
    exact (hb.cell (p := ⟨b, o + j, none⟩) (by show b < B'; omega)).trans (hc j u hu)⟩
theorem RV.base (h : RV w B s A n vs) (hB : B' ≤ B) : RV w B' s A n vs :=
  ⟨h.1, fun hn => by
    obtain ⟨b, o, hA, h1, h2, hc⟩ := h.2 hn
    exact ⟨b, o, hA, by omega, h2, hc⟩⟩
theorem RV.set_ (h : RV w B s A n vs) {p : Addr} (hp : p.block < B) (u : Value) : RV (w.setCell p u) B s A n vs :=
  ⟨h.1, fun hn => by
    obtain ⟨b, o, hA, h1, h2, hc⟩ := h.2 hn
    refine ⟨b, o, hA, h1, by simpa [World.setCell] using h2, fun j x hx => ?_⟩
    rw [World.cell?_of_block (w := w) (a := ⟨b, o + j, none⟩) (Below.heap_setCell w p u b (by omega))]
    exact hc j x hx⟩
theorem RV.alloc (h : RV w B s A n vs) (o : Obj) : RV (w.alloc o) B s A n vs := h.below (B' := w.heap.size) ((Below.refl _ _).alloc (Nat.le_refl _) o) (Nat.le_refl _)
theorem RV.drew (h : RV w B s A n vs) : RV w.drew B s A n vs := h
theorem RV.nil : RV w B s A 0 [] := ⟨by simp, fun h => absurd h (by omega)⟩
theorem RI.len (h : RI w B A n xs) : xs.length = n := by
  have := h.1; simp [VI] at this; omega
theorem RI.below (h : RI w B A n xs) (hb : Below B' w w') (hB : w.heap.size ≤ B') : RI w' B A n xs := RV.below h hb hB
theorem RI.base (h : RI w B A n xs) (hB : B' ≤ B) : RI w B' A n xs := RV.base h hB
theorem RI.set_ (h : RI w B A n xs) {p : Addr} (hp : p.block < B) (u : Value) : RI (w.setCell p u) B A n xs := RV.set_ h hp u
theorem RI.alloc (h : RI w B A n xs) (o : Obj) : RI (w.alloc o) B A n xs := RV.alloc h o
theorem RI.nil : RI w B A 0 [] := RV.nil
theorem RI.at_ (h : RI w B A n xs) (k : Nat) (hk : k < n) :
    ∃ b o x, A = some ⟨b, o, none⟩ ∧ b < w.heap.size ∧ xs[k]? = some x ∧ w.cell? ⟨b, o + k, none⟩ = some (.int .i64 x) := by
  obtain ⟨b, o, hA, _, hb, hc⟩ := h.2 (by omega)
  have hl : k < xs.length := by rw [h.len]; exact hk
  exact ⟨b, o, xs[k], hA, hb, List.getElem?_eq_getElem hl, hc k _ (by simp [VI, List.getElem?_eq_getElem hl])⟩
end

/-- Block g is just the cells cs of element type t, none of them frozen. -/
def Blk (w : World) (g : Nat) (t : TypeId) (cs : Array Value) : Prop := w.heap[g]? = some (.cells cs t (0, 0))
section
variable {w w' : World} {g B : Nat} {t : TypeId} {cs cs' : Array Value}
theorem Blk.cell (h : Blk w g t cs) (i : Nat) : w.cell? ⟨g, i, none⟩ = cs[i]? := cell_of_row w g i cs t (0, 0) h
theorem Blk.frozen (h : Blk w g t cs) (i : Nat) : w.frozen? ⟨g, i, none⟩ = false := by
  unfold Blk at h
  simp [World.frozen?, h]
theorem Blk.lt (h : Blk w g t cs) : g < w.heap.size := lt_of_block h
theorem Blk.new (w : World) (t : TypeId) (cs : Array Value) : Blk (w.alloc (.cells cs t)) w.heap.size t cs := heap_alloc_new w _
theorem Blk.newAt (hg : g = w.heap.size) : Blk (w.alloc (.cells cs t)) g t cs := by rw [hg]; exact Blk.new w t cs
theorem Blk.alloc (h : Blk w g t cs) (o : Obj) : Blk (w.alloc o) g t cs := (Below.heap_alloc w o g h.lt).trans h
theorem Blk.below (h : Blk w g t cs) (hb : Below B w w') (hg : g < B) : Blk w' g t cs := (hb.block g hg).trans h
theorem Blk.drew (h : Blk w g t cs) : Blk w.drew g t cs := h
theorem Blk.set_ (h : Blk w g t cs) (i : Nat) (u : Value) (hc : cs' = cs.setIfInBounds i u) : Blk (w.setCell ⟨g, i, none⟩ u) g t cs' := by
  subst hc
  unfold Blk at h ⊢
  simp [World.setCell, Array.getElem?_modify, h]
theorem Blk.far (h : Blk w g t cs) {p : Addr} (hp : g ≠ p.block) (u : Value) : Blk (w.setCell p u) g t cs := (Below.heap_setCell w p u g hp).trans h
theorem Blk.c1 {a : Value} (h : Blk w g t #[a]) : w.cell? ⟨g, 0, none⟩ = some a ∧ w.frozen? ⟨g, 0, none⟩ = false := ⟨h.cell 0, h.frozen 0⟩
theorem Blk.c2 {a b : Value} (h : Blk w g t #[a, b]) : w.cell? ⟨g, 0, none⟩ = some a ∧ w.cell? ⟨g, 1, none⟩ = some b := ⟨h.cell 0, h.cell 1⟩
theorem Blk.c3 {a b c : Value} (h : Blk w g t #[a, b, c]) : w.cell? ⟨g, 0, none⟩ = some a ∧ w.cell? ⟨g, 1, none⟩ = some b ∧ w.cell? ⟨g, 2, none⟩ = some c := ⟨h.cell 0, h.cell 1, h.cell 2⟩
theorem Blk.f3 (h : Blk w g t cs) : w.frozen? ⟨g, 0, none⟩ = false ∧ w.frozen? ⟨g, 1, none⟩ = false ∧ w.frozen? ⟨g, 2, none⟩ = false := ⟨h.frozen 0, h.frozen 1, h.frozen 2⟩
end

section
variable {w wx : World} {B : Nat} {a : Addr} {v : Value} {o : Obj}
theorem cell_b (hb : Below B w wx) (h : w.cell? a = some v) (ha : a.block < B) : wx.cell? a = some v := (hb.cell ha).trans h
theorem froz_b {v : Bool} (hb : Below B w wx) (h : w.frozen? a = v) (ha : a.block < B) : wx.frozen? a = v := (hb.frozen ha).trans h
theorem cell_al (h : w.cell? a = some v) : (w.alloc o).cell? a = some v := by
  rw [World.cell?_alloc_lt w o a (block_lt_of_cell h)]; exact h
theorem froz_al (hc : w.cell? a = some v) (h : w.frozen? a = false) : (w.alloc o).frozen? a = false := by
  have e : (w.alloc o).heap[a.block]? = w.heap[a.block]? := Below.heap_alloc w o a.block (block_lt_of_cell hc)
  rw [World.frozen?_of_block e]; exact h
end

theorem own_below {w w' : World} {base B : Nat} {e : TypeId} {size : Nat} {v : Value} {n : Nat} {xs : List Value} (h : w.ownsRow base e size v n xs) (hb : Below B w w') (hB : w.heap.size ≤ B) : w'.ownsRow base e size v n xs := by
  obtain ⟨h1, h2⟩ := h
  refine ⟨h1, ?_⟩
  rcases h2 with h2 | ⟨g, cap, cur, hv, hg, hh, r⟩
  · exact Or.inl h2
  · exact Or.inr ⟨g, cap, cur, hv, hg, by rw [hb.block g (by have := lt_of_block hh; omega)]; exact hh, r⟩
theorem own_nil (w : World) (base : Nat) (e : TypeId) (size : Nat) : w.ownsRow base e size (.slice none 0 0) 0 [] := ⟨by simp, .inl ⟨rfl, rfl⟩⟩

theorem RV_own {w : World} {base s : Nat} {e : TypeId} {oa : Option Addr} {n c : Nat} {xs : List Value} (h : w.ownsRow base e s (.slice oa n c) n xs) (B : Nat) (hB : B ≤ base) : RV w B s oa n xs := by
  refine ⟨h.1, fun hn => ?_⟩
  rcases h.2 with ⟨_, h0⟩ | ⟨g, cap, cur, hv, hg, hh, hnc, _, hsz, htk⟩
  · omega
  · injection hv with e1 _ _
    refine ⟨g, 0, e1, by omega, lt_of_block hh, fun j u hu => ?_⟩
    rw [Nat.zero_add, cell_of_row w g j cur e (0, 0) hh]
    rw [← htk] at hu
    have hlt : j < n * s := by
      have := (List.getElem?_eq_some_iff.1 hu).1
      simp at this; omega
    rw [List.getElem?_take_of_lt hlt] at hu
    simpa using hu
theorem RI_own {w : World} {base : Nat} {e : TypeId} {oa : Option Addr} {n c : Nat} {xs : List Int} (h : w.ownsRow base e 1 (.slice oa n c) n (VI xs)) (B : Nat) (hB : B ≤ base) : RI w B oa n xs := RV_own h B hB

theorem VI_snoc {f : Nat → Int} {k : Nat} {v : Int} (h : f k = v) : VI ((List.range k).map f) ++ [.int .i64 v] = VI ((List.range (k + 1)).map f) := by
  simp [VI, List.range_succ, h]

/-- append(out, x): x has just been laid in a block of its own. -/
theorem wp_push {P : Program} {w : World} (W0 : World) {o : Oper} {a : Act} {K : Act → World → Prop} {Q : Exit → Act → World → Prop} (s x : Operand) (t : TypeId)
    (ho : o.op = .call { callee := .builtin .append, args := #[s, x], argTypes := #[t, t] })
    (base : Nat) (e : TypeId) (i : TypeInfo) (z : Value) (size bytes : Nat) (ht : P.underlying t = some (.slice e)) (hi : P.info? e = some i) (hz : i.zero = some z)
    (hsize : i.size = size) (hby : i.bytes = bytes) (hzs : z.cells.size = size) (hs0 : 0 < size)
    (oa : Option Addr) (n c : Nat) (xs : List Value) (hs : a.eval s = .slice oa n c) (hown : W0.ownsRow base e size (.slice oa n c) n xs)
    (us : Array Value) (hus : us.size = size) (hw : w = W0.alloc (.cells us e)) (hx : a.eval x = .slice (some ⟨W0.heap.size, 0, none⟩) 1 1) (h1 : ∀ u ∈ us.toList, u.oneCell' = true)
    (h63 : n + 1 ≤ maxLen) (hbytes : (n + 1) * bytes ≤ 140737488355328) (hbase : base ≤ W0.heap.size)
    (h : ∀ g cap w', w'.ownsRow base e size (.slice (some ⟨g, 0, none⟩) (n + 1) cap) (n + 1) (xs ++ us.toList) → Below base W0 w' → K (a.put o.dst (.slice (some ⟨g, 0, none⟩) (n + 1) cap)) w') :
    Oper.wp P o a w K Q := by
  have hsz : W0.heap.size ≤ w.heap.size := by rw [hw]; simp
  have hown' : w.ownsRow base e size (.slice oa n c) n xs := by rw [hw]; exact hown.alloc _
  refine wp_append_lies w s x t ho base e i z size bytes ht hi hz hsize hby hzs hs0 _ n xs hs hown' ⟨W0.heap.size, 0, none⟩ 1 1 us.toList hx (by simpa using hus)
    (World.news_of_block (cs := us) (t := e) (fr := (0, 0)) (by rw [hw]; exact heap_alloc_new W0 _)) h1 (by omega) h63 hbytes (by omega) _ rfl ?_
  intro g cap w' h2 h3 h4 h5
  refine h g cap w' h2 (((by rw [hw]; exact (Below.refl base W0).alloc hbase _ : Below base W0 w)).grown h3 (by omega) ?_)
  intro k hk
  rcases hown.2 with ⟨hv, _⟩ | ⟨g', cap', cur, hv, hg', _⟩
  · rw [hv] at hk; simp [Value.ownBlock] at hk
  · rw [hv] at hk; simp [Value.ownBlock] at hk; omega

theorem four_at (b0 b1 b2 b3 : Int) (i : Nat) (hi : i < 4) : (#[Value.int .i64 b0, .int .i64 b1, .int .i64 b2, .int .i64 b3] : Array Value)[i]? = some (.int .i64 ([b0,b1,b2,b3].getD i 0)) := by
  match i, hi with
  | 0, _ => rfl
  | 1, _ => rfl
  | 2, _ => rfl
  | 3, _ => rfl
theorem three_at (b0 b1 b2 : Int) (i : Nat) (hi : i < 3) : (#[Value.int .i64 b0, .int .i64 b1, .int .i64 b2] : Array Value)[i]? = some (.int .i64 ([b0,b1,b2].getD i 0)) := by
  match i, hi with
  | 0, _ => rfl
  | 1, _ => rfl
  | 2, _ => rfl

theorem all_take_succ {α : Type} (p : α → Bool) (xs : List α) (k : Nat) (x : α) (hx : xs[k]? = some x) (h : (xs.take k).all p = true) (hp : p x = true) : (xs.take (k+1)).all p = true := by
  rw [List.take_add_one, hx]; simp [h, hp]
theorem all_false_at {α : Type} (p : α → Bool) (xs : List α) (k : Nat) (x : α) (hx : xs[k]? = some x) (hp : p x = false) : xs.all p = false := by
  rw [List.all_eq_false]; exact ⟨x, List.mem_of_getElem? hx, by simp [hp]⟩
theorem all_take_full {α : Type} (p : α → Bool) (xs : List α) (k : Nat) (hk : xs.length ≤ k) (h : (xs.take k).all p = true) : xs.all p = true := by
  rwa [List.take_of_length_le hk] at h

/-- A struct in memory and a plain result: what is handed back. -/
theorem results_row_tmp {P : Program} {fn : Func} {p q : Tmp} {ty : TypeId} (h : fn.results = #[.cell p ty, .tmp q]) (tmps : Array Value) (w : World) (g : Nat) (t : TypeId) (cs : Array Value) (d : TypeDesc)
    (hp : tmps.getD p undef = .pointer (some ⟨g, 0, none⟩)) (hg : Blk w g t cs)
    (hu : P.underlying ty = some d) (hd : (match d with | .struct _ | .array _ _ => true | _ => false) = true) (hi : (P.info? ty).map (·.size) = some cs.size) :
    (results fn tmps).run P w = .ok (.tuple #[.agg cs, tmps.getD q undef]) w := by
  have hp' : tmps[p]?.getD undef = .pointer (some ⟨g, 0, none⟩) := by simpa using hp
  simp [results, h, hp', asAddr, run_loadVar_row w g t ty cs (0, 0) d hg hu hd hi]
end Go.Proofs.Ytpmnfhifmmfglaa
