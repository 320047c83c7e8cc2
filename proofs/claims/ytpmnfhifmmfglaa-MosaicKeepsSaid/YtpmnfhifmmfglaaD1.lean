/- Frames and memory of a walk, known by lists: the rules with which the printed walks step. -/
import Derived.Test.YtpmnfhifmmfglaaTxt
import Derived.Test.YtpmnfhifmmfglaaLib
import Derived.Test.YtpmnfhifmmfglaaDP
set_option linter.unusedVariables false
set_option linter.unusedSimpArgs false
set_option linter.unusedSectionVars false
namespace Go.Proofs.Ytpmnfhifmmfglaa
open Go.RowKit

/-! ### Frames -/
theorem nbeq {d s : Nat} (h : d ≠ s) : Nat.beq d s = false := by
  cases hb : Nat.beq d s with
  | true => exact absurd (Nat.eq_of_beq_eq_true hb) h
  | false => rfl
def kget : List (Nat × Value) → Nat → Option Value
  | [], _ => none
  | (i, v) :: l, j => bif Nat.beq i j then some v else kget l j

structure Kd (D : List Deferred) (a : Act) (N : Nat) (l : List (Nat × Value)) : Prop where
  defs : a.defers = D
  size : a.tmps.size = N
  get : ∀ s v, kget l s = some v → a.tmps.getD s undef = v
abbrev Kn (a : Act) (N : Nat) (l : List (Nat × Value)) : Prop := Kd [] a N l

def kput (d : Option Nat) (v : Value) (l : List (Nat × Value)) : List (Nat × Value) :=
  match d with
  | some d => (d, v) :: l
  | none => l
def dstOK (d : Option Nat) (N : Nat) : Bool :=
  match d with
  | some d => Nat.blt d N
  | none => true

def evo (l : List (Nat × Value)) : Operand → Option Value
  | .tmp t => kget l t
  | .const v => some v
  | .global g => some (.pointer (some ⟨g, 0, none⟩))
  | .func f => some (.func (.func f) #[] #[])

section
variable {D : List Deferred} {a : Act} {N : Nat} {l l' : List (Nat × Value)} {d : Option Nat} {v : Value}
theorem Kd.put (K : Kd D a N l) (hd : dstOK d N = true) (v : Value) : Kd D (a.put d v) N (kput d v l) := by
  cases d with
  | none => exact K
  | some d =>
    have hlt : d < N := by simpa [dstOK, Nat.blt_eq] using hd
    refine ⟨K.defs, by simp [Act.put, K.size], fun s u hs => ?_⟩
    simp only [kput, kget] at hs
    by_cases h : d = s
    · subst h
      simp at hs
      subst hs
      simp [Act.put, K.size, hlt]
    · have h0 := nbeq h
      rw [h0] at hs
      have := K.get s u hs
      simp only [Act.put]
      rw [← this]
      simp [h]
theorem Kd.ev (K : Kd D a N l) {x : Operand} {v : Value} (h : evo l x = some v) : a.eval x = v := by
  cases x with
  | tmp t => exact K.get t v h
  | const u => exact Option.some.inj h
  | global g => exact Option.some.inj h
  | func f => exact Option.some.inj h
theorem Kd.sub (K : Kd D a N l) (h : ∀ s v, kget l' s = some v → kget l s = some v) : Kd D a N l' := ⟨K.defs, K.size, fun s v hs => K.get s v (h s v hs)⟩
def kpick (l : List (Nat × Value)) : List Nat → List (Nat × Value)
  | [] => []
  | s :: ss => match kget l s with
    | some v => (s, v) :: kpick l ss
    | none => kpick l ss
theorem kpick_get (l : List (Nat × Value)) : ∀ ss s v, kget (kpick l ss) s = some v → kget l s = some v
  | [], s, v, h => by simp [kpick, kget] at h
  | t :: ss, s, v, h => by
    unfold kpick at h
    split at h
    · rename_i u hu
      simp only [kget] at h
      by_cases hts : t = s
      · subst hts; simp at h; rw [hu, h]
      · have h0 := nbeq hts
        rw [h0] at h
        exact kpick_get l ss s v h
    · exact kpick_get l ss s v h
theorem Kd.pick (K : Kd D a N l) (ss : List Nat) : Kd D a N (kpick l ss) := K.sub (kpick_get l ss)
/-- At the head of a function. -/
def kargs : Nat → List Value → List (Nat × Value)
  | _, [] => []
  | i, v :: vs => (i, v) :: kargs (i + 1) vs
theorem kargs_get : ∀ (vs : List Value) (i s : Nat) (v : Value), kget (kargs i vs) s = some v → i ≤ s ∧ vs[s - i]? = some v
  | [], _, _, _, h => by simp [kargs, kget] at h
  | u :: vs, i, s, v, h => by
    simp only [kargs, kget] at h
    by_cases his : i = s
    · subst his; simp at h; simp [h]
    · have h0 := nbeq his
      rw [h0] at h
      obtain ⟨h1, h2⟩ := kargs_get vs (i + 1) s v h
      refine ⟨by omega, ?_⟩
      obtain ⟨m, rfl⟩ : ∃ m, s = i + 1 + m := ⟨s - (i + 1), by omega⟩
      rw [show i + 1 + m - i = m + 1 by omega]
      rw [show i + 1 + m - (i + 1) = m by omega] at h2
      simpa using h2
theorem Kd.start (args : Array Value) (N : Nat) (h : Nat.ble args.size N = true) :
    Kn { tmps := args ++ Array.replicate (N - args.size) undef, defers := [] } N (kargs 0 args.toList) := by
  have h' : args.size ≤ N := by simpa using h
  refine ⟨rfl, by simp; omega, fun s v hs => ?_⟩
  obtain ⟨_, h2⟩ := kargs_get _ _ _ _ hs
  simp only [Nat.sub_zero, Array.getElem?_toList] at h2
  have hlt : s < args.size := (Array.getElem?_eq_some_iff.1 h2).1
  have h3 := (Array.getElem?_eq_some_iff.1 h2).2
  simp [Array.getElem?_append, hlt, h3]
/-- The guards. -/
theorem want_no {o : Oper} {y : Nat → Option Bool} (h : o.guard = none) : Region.wanted o y = true := by simp [Region.wanted, h]
theorem Kd.yes (K : Kd D a N l) {ops : Array Oper} {o : Oper} {j s : Nat} {b : Bool} (h : o.guard = some (j, b)) (hj : (ops[j]?).bind (·.dst) = some s) (hs : kget l s = some (.bool b)) :
    Region.wanted o (yielded ops a.tmps) = true := by
  have := K.get s _ hs
  have h2 : a.tmps[s]? = some (.bool b) := by
    cases hq : a.tmps[s]? with
    | none => simp [hq, undef] at this
    | some v => simp [hq] at this; rw [this]
  simp [Region.wanted, h, yielded, hj, h2]
theorem Kd.no (K : Kd D a N l) {ops : Array Oper} {o : Oper} {j s : Nat} {b c : Bool} (h : o.guard = some (j, b)) (hj : (ops[j]?).bind (·.dst) = some s) (hs : kget l s = some (.bool c)) (hbc : (c == b) = false) :
    Region.wanted o (yielded ops a.tmps) = false := by
  have := K.get s _ hs
  have h2 : a.tmps[s]? = some (.bool c) := by
    cases hq : a.tmps[s]? with
    | none => simp [hq, undef] at this
    | some v => simp [hq] at this; rw [this]
  simp [Region.wanted, h, yielded, hj, h2]
  cases c <;> cases b <;> simp_all
theorem Kd.nou (K : Kd D a N l) {ops : Array Oper} {o : Oper} {j s : Nat} {b : Bool} (h : o.guard = some (j, b)) (hj : (ops[j]?).bind (·.dst) = some s) (hs : kget l s = some undef) :
    Region.wanted o (yielded ops a.tmps) = false := by
  have := K.get s _ hs
  simp [Region.wanted, h, yielded, hj]
  cases hq : a.tmps[s]? with
  | none => simp
  | some v =>
    simp [hq] at this
    subst this
    simp [undef]
end

/-! ### Memory -/
inductive Ent where
  | blk (g : Nat) (t : TypeId) (cs : List Value)
  | row (e : TypeId) (s : Nat) (A : Option Addr) (n c : Nat) (xs : List Value)

def Ent.holds (w : World) : Ent → Prop
  | .blk g t cs => Blk w g t cs.toArray
  | .row e s A n c xs => w.ownsRow 0 e s (.slice A n c) n xs
def Ent.foot : Ent → Option Nat
  | .blk g _ _ => some g
  | .row _ _ A _ _ _ => A.map (·.block)

def objC : Obj → Bool
  | .cells .. => true
  | _ => false
/-- Whatever is no cells lies as it lay. -/
def KeepO (W w : World) : Prop := ∀ (k : Nat) (o : Obj), W.heap[k]? = some o → objC o = false → w.heap[k]? = some o
theorem KeepO.refl (W : World) : KeepO W W := fun _ _ h _ => h
theorem KeepO.trans {A B C : World} (h : KeepO A B) (k : KeepO B C) : KeepO A C := fun i o hi ho => k i o (h i o hi ho) ho
theorem KeepO.below {W w : World} (h : Below W.heap.size W w) : KeepO W w := fun k o hk _ => (h.block k (Array.getElem?_eq_some_iff.1 hk).1).trans hk
theorem KeepO.but {W w : World} {g : Option Nat} (h : ∀ k, k < W.heap.size → g ≠ some k → w.heap[k]? = W.heap[k]?) (hg : ∀ k o, g = some k → W.heap[k]? = some o → objC o = true) : KeepO W w := fun k o hk ho => by
  by_cases e : g = some k
  · rw [hg k o e hk] at ho; cases ho
  · exact (h k (Array.getElem?_eq_some_iff.1 hk).1 e).trans hk

structure Mem (base : Nat) (W w : World) (L : List Ent) : Prop where
  low : Below base W w
  oth : KeepO W w
  bs : base ≤ W.heap.size
  has : ∀ (i : Nat) (e : Ent), L[i]? = some e → Ent.holds w e
  up : ∀ (i : Nat) (e : Ent) (g : Nat), L[i]? = some e → e.foot = some g → base ≤ g
  one : ∀ (i j : Nat) (e e' : Ent) (g : Nat), L[i]? = some e → L[j]? = some e' → e.foot = some g → e'.foot = some g → i = j

section
variable {base B : Nat} {W w w' : World} {L L' : List Ent} {e : Ent} {g : Nat} {t : TypeId} {cs : List Value}
theorem Ent.lt (h : Ent.holds w e) (hf : Ent.foot e = some g) : g < w.heap.size := by
  cases e with
  | blk g' t cs => simp [Ent.foot] at hf; subst hf; exact Blk.lt h
  | row e s A n c xs =>
    cases A with
    | none => simp [Ent.foot] at hf
    | some ad =>
      simp [Ent.foot] at hf
      exact (World.ownsRow.lt h g (by simp [Value.ownBlock, hf])).2
theorem Ent.isC (h : Ent.holds w e) (hf : Ent.foot e = some g) {o : Obj} (ho : w.heap[g]? = some o) : objC o = true := by
  cases e with
  | blk g' t cs =>
    simp [Ent.foot] at hf; subst hf
    have h' : w.heap[g']? = some (.cells cs.toArray t) := h
    rw [h'] at ho; cases ho; rfl
  | row e s A n c xs =>
    obtain ⟨h1, h2⟩ := h
    rcases h2 with ⟨hA, _⟩ | ⟨g', cap, cur, hv, hg, hh, r⟩
    · cases hA; simp [Ent.foot] at hf
    · injection hv with e1 _ _
      simp [Ent.foot, e1] at hf
      subst hf
      rw [hh] at ho; cases ho; rfl
theorem Ent.keep (h : Ent.holds w e) (hk : ∀ g, e.foot = some g → w'.heap[g]? = w.heap[g]?) : Ent.holds w' e := by
  cases e with
  | blk g' t cs => exact (hk g' rfl).trans h
  | row e s A n c xs =>
    obtain ⟨h1, h2⟩ := h
    refine ⟨h1, ?_⟩
    rcases h2 with h2 | ⟨g', cap, cur, hv, hg, hh, r⟩
    · exact .inl h2
    · refine .inr ⟨g', cap, cur, hv, hg, ?_, r⟩
      injection hv with e1 _ _
      rw [hk g' (by simp [Ent.foot, e1])]
      exact hh
theorem Mem.start (w : World) : Mem w.heap.size w w [] := ⟨Below.refl _ _, KeepO.refl _, Nat.le_refl _, fun _ _ h => by simp at h, fun _ _ _ h => by simp at h, fun _ _ _ _ _ h => by simp at h⟩
theorem Mem.sz (M : Mem base W w L) : base ≤ w.heap.size := Nat.le_trans M.bs M.low.size
theorem Mem.drew (M : Mem base W w L) : Mem base W w.drew L := ⟨M.low.drew, M.oth, M.bs, fun i e h => Ent.keep (M.has i e h) fun _ _ => rfl, M.up, M.one⟩
theorem Mem.feet (M : Mem base W w L) : ∀ (i : Nat) (e : Ent) (g : Nat), L[i]? = some e → e.foot = some g → g < w.heap.size := fun i _ _ h hf => Ent.lt (M.has i _ h) hf
/-- Memory elsewhere has been turned. -/
theorem Mem.far (M : Mem base W w L) (hb : Below base w w') (ho : KeepO w w') (hk : ∀ (i : Nat) (e : Ent) (g : Nat), L[i]? = some e → e.foot = some g → w'.heap[g]? = w.heap[g]?) : Mem base W w' L :=
  ⟨M.low.trans hb, M.oth.trans ho, M.bs, fun i e h => Ent.keep (M.has i e h) fun g hg => hk i e g h hg, M.up, M.one⟩
theorem Mem.below (M : Mem base W w L) (hb : Below w.heap.size w w') : Mem base W w' L :=
  M.far (hb.mono M.sz) (KeepO.below hb) fun i e g h hg => hb.block g (M.feet i e g h hg)
/-- One more thing. -/
theorem Mem.cons (M : Mem base W w L) (h : Ent.holds w e) (hf : ∀ g, e.foot = some g → base ≤ g ∧ ∀ (i : Nat) (e' : Ent), L[i]? = some e' → e'.foot ≠ some g) : Mem base W w (e :: L) := by
  refine ⟨M.low, M.oth, M.bs, ?_, ?_, ?_⟩
  · rintro (_ | i) e' h'
    · simp at h'; subst h'; exact h
    · exact M.has i e' (by simpa using h')
  · rintro (_ | i) e' g h' hg
    · simp at h'; subst h'; exact (hf g hg).1
    · exact M.up i e' g (by simpa using h') hg
  · rintro (_ | i) (_ | j) e1 e2 g h1 h2 g1 g2
    · rfl
    · simp at h1 h2; subst h1; exact absurd g2 ((hf g g1).2 j e2 h2)
    · simp at h1 h2; subst h2; exact absurd g1 ((hf g g2).2 i e1 h1)
    · simp at h1 h2; rw [M.one i j e1 e2 g h1 h2 g1 g2]
theorem Mem.low_of (M : Mem w.heap.size w w' L) : Below w.heap.size w w' := M.low
/-- Behind a call: what it made is one's own. -/
theorem Mem.call (M : Mem base W w L) (M' : Mem w.heap.size w w' L') : Mem base W w' (L' ++ L) := by
  have M1 := M.below M'.low
  refine ⟨M1.low, M1.oth, M.bs, ?_, ?_, ?_⟩
  · intro i e h
    rw [List.getElem?_append] at h
    split at h
    · exact M'.has i e h
    · exact M1.has _ e h
  · intro i e g h hg
    rw [List.getElem?_append] at h
    split at h
    · have := M'.up i e g h hg; have := M.sz; omega
    · exact M1.up _ e g h hg
  · intro i j e e' g h h' hg hg'
    rw [List.getElem?_append] at h h'
    split at h <;> split at h'
    · exact M'.one i j e e' g h h' hg hg'
    · have := M'.up i e g h hg; have := M.feet _ e' g h' hg'; omega
    · have := M'.up j e' g h' hg'; have := M.feet _ e g h hg; omega
    · have := M1.one _ _ e e' g h h' hg hg'; omega
theorem Mem.new (M : Mem base W w L) (t : TypeId) (cs : List Value) : Mem base W (w.alloc (.cells cs.toArray t)) (.blk w.heap.size t cs :: L) := by
  refine (M.below ((Below.refl _ _).alloc (Nat.le_refl _) _)).cons (Blk.new w t cs.toArray) fun g hg => ?_
  simp [Ent.foot] at hg
  subst hg
  exact ⟨M.sz, fun i e' h he => by have := M.feet i e' _ h he; omega⟩
theorem Mem.tail (M : Mem base W w (e :: L)) : Mem base W w L :=
  ⟨M.low, M.oth, M.bs, fun i e h => M.has (i + 1) e (by simpa using h), fun i e g h => M.up (i + 1) e g (by simpa using h), fun i j e e' g h h' k k' => by have := M.one (i + 1) (j + 1) e e' g (by simpa using h) (by simpa using h') k k'; omega⟩
def nilEnt : Ent := .row 0 0 none 0 0 []
def pickE (L : List Ent) (is : List Nat) : List Ent := is.map fun i => L.getD i nilEnt
theorem nilEnt_holds (w : World) : Ent.holds w nilEnt := ⟨by simp, .inl ⟨rfl, rfl⟩⟩
theorem Mem.pick (M : Mem base W w L) (is : List Nat) (h : is.Nodup) : Mem base W w (pickE L is) := by
  have key : ∀ (i : Nat) (e : Ent), (pickE L is)[i]? = some e → ∃ j, is[i]? = some j ∧ (L[j]? = some e ∨ (L[j]? = none ∧ e = nilEnt)) := by
    intro i e he
    simp only [pickE, List.getElem?_map, Option.map_eq_some_iff] at he
    obtain ⟨j, hj, rfl⟩ := he
    refine ⟨j, hj, ?_⟩
    cases hq : L[j]? <;> simp [hq]
  refine ⟨M.low, M.oth, M.bs, ?_, ?_, ?_⟩
  · intro i e he
    obtain ⟨j, _, h | ⟨_, rfl⟩⟩ := key i e he
    · exact M.has j e h
    · exact nilEnt_holds w
  · intro i e g he hg
    obtain ⟨j, _, h | ⟨_, rfl⟩⟩ := key i e he
    · exact M.up j e g h hg
    · simp [nilEnt, Ent.foot] at hg
  · intro i i' e e' g he he' hg hg'
    obtain ⟨j, hj, h1 | ⟨_, rfl⟩⟩ := key i e he
    · obtain ⟨j', hj', h2 | ⟨_, rfl⟩⟩ := key i' e' he'
      · have := M.one j j' e e' g h1 h2 hg hg'
        subst this
        exact (List.getElem?_inj (List.getElem?_eq_some_iff.1 hj).1 h).1 (hj.trans hj'.symm)
      · simp [nilEnt, Ent.foot] at hg'
    · simp [nilEnt, Ent.foot] at hg
/-- One thing of it has been turned, and nothing else. -/
theorem Mem.turn (M : Mem base W w L) (i : Nat) {e e' : Ent} (hi : L[i]? = some e) (hb : Below base w w') (hh : Ent.holds w' e')
    (hk : ∀ k, k < w.heap.size → e.foot ≠ some k → w'.heap[k]? = w.heap[k]?) (hf : ∀ g, e'.foot = some g → e.foot = some g ∨ w.heap.size ≤ g) : Mem base W w' (L.set i e') := by
  have hlt : i < L.length := (List.getElem?_eq_some_iff.1 hi).1
  refine ⟨M.low.trans hb, M.oth.trans (KeepO.but hk fun k o hk' ho => Ent.isC (M.has i e hi) hk' ho), M.bs, ?_, ?_, ?_⟩
  · intro j f h
    rw [List.getElem?_set] at h
    by_cases hij : i = j
    · rw [if_pos hij, if_pos hlt] at h; cases h; exact hh
    · rw [if_neg hij] at h
      refine Ent.keep (M.has j f h) fun g hg => hk g (M.feet j f g h hg) fun he => hij (M.one i j e f g hi h he hg)
  · intro j f g h hg
    rw [List.getElem?_set] at h
    by_cases hij : i = j
    · rw [if_pos hij, if_pos hlt] at h; cases h
      rcases hf g hg with h0 | h0
      · exact M.up i e g hi h0
      · have := M.sz; omega
    · rw [if_neg hij] at h; exact M.up j f g h hg
  · intro j k f f' g h h' hg hg'
    rw [List.getElem?_set] at h h'
    by_cases hij : i = j <;> by_cases hik : i = k
    · omega
    · rw [if_pos hij, if_pos hlt] at h; cases h
      rw [if_neg hik] at h'
      rcases hf g hg with h0 | h0
      · exact absurd (M.one i k e f' g hi h' h0 hg') hik
      · have := M.feet k f' g h' hg'; omega
    · rw [if_neg hij] at h
      rw [if_pos hik, if_pos hlt] at h'; cases h'
      rcases hf g hg' with h0 | h0
      · exact absurd (M.one i j e f g hi h h0 hg) hij
      · have := M.feet j f g h hg; omega
    · rw [if_neg hij] at h
      rw [if_neg hik] at h'
      exact M.one j k f f' g h h' hg hg'
theorem Mem.blkAt (M : Mem base W w L) {i : Nat} (h : L[i]? = some (.blk g t cs)) : Blk w g t cs.toArray := M.has i _ h
theorem Mem.cell (M : Mem base W w L) {i : Nat} (h : L[i]? = some (.blk g t cs)) {k : Nat} {v : Value} (hk : cs[k]? = some v) : w.cell? ⟨g, k, none⟩ = some v := by
  rw [(M.blkAt h).cell k]; simpa using hk
theorem Mem.set (M : Mem base W w L) (i : Nat) (h : L[i]? = some (.blk g t cs)) (k : Nat) (v : Value) : Mem base W (w.setCell ⟨g, k, none⟩ v) (L.set i (.blk g t (cs.set k v))) := by
  have hup := M.up i _ g h rfl
  refine M.turn i h ((Below.refl _ _).setCell (by show base ≤ g; exact hup) v) ?_ (fun j _ hj => ?_) (fun g' hg' => .inl hg')
  · exact (M.blkAt h).set_ k v (by simp)
  · exact Below.heap_setCell w _ v j fun e => hj (by simp [Ent.foot, e])
theorem Mem.setRow (M : Mem base W w L) (i : Nat) (h : L[i]? = some (.blk g t cs)) (cs' : List Value) : Mem base W (w.setRow g cs'.toArray) (L.set i (.blk g t cs')) := by
  have hup := M.up i _ g h rfl
  refine M.turn i h ⟨rfl, rfl, rfl, by simp, fun k hk => setRow_other w g k _ (by omega)⟩ ?_ (fun j _ hj => ?_) (fun g' hg' => .inl hg')
  · exact setRow_heap w g _ _ t (0, 0) (M.blkAt h)
  · exact setRow_other w g j _ fun e => hj (by simp [Ent.foot, e])
end
end Go.Proofs.Ytpmnfhifmmfglaa
