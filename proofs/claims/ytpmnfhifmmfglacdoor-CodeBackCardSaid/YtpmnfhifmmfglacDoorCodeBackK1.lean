/- Texts of the claim CodeBack, joined: Lib, RowC, Txt, DP, D1, D2, D3, D4, D5, D6, Opens, DCpy, DLib, DD, PBase. -/
import Derived.BigQuiet
import Derived.Carry
import Derived.Deep.AppendLies
import Derived.Deep.DeepHandedRow
import Derived.Deep.DeepMust
import Derived.Deep.QuietTactic
import Derived.Deep.SlicePairs
import Derived.Deep.Slices
import Derived.Handy
import Derived.IntWalk
import Derived.Laws.Wrap64
import Derived.Lib.Bytealg
import Derived.Lib.Hide
import Derived.Lib.LaidTab
import Derived.Lib.SlTrimSet
import Derived.Lib.SmallJoins
import Derived.Maps.AppendAt
import Derived.Maps.OwnSet
import Derived.OpenShut
import Derived.Orders
import Derived.ProofKit
import Derived.Tactics
import Derived.Test.YtpmnfhifmmfglacDoorCards
import Derived.Test.YtpmnfhifmmfglacDoorRows
import Derived.Test.YtpmnfhifmmfglacDoorTie
import Derived.WalkKit
import Derived.WalkLawsBesides
import Derived.WalkSpells
set_option linter.unusedVariables false
set_option linter.unusedSimpArgs false
set_option linter.unusedSectionVars false
namespace Go.Proofs.YtpmnfhifmmfglacDoor
open Go.RowKit
/-- The slice '.slice A n c' reads as the cells xs (s cells an element), in a block from B on. -/
def RV (w : World) (B s : Nat) (A : Option Addr) (n : Nat) (xs : List Value) : Prop :=
  xs.length = n * s ∧ (0 < n → ∃ b o, A = some ⟨b, o, none⟩ ∧ B ≤ b ∧ b < w.heap.size ∧ ∀ j u, xs[j]? = some u → w.cell? ⟨b, o + j, none⟩ = some u)
def VI (xs : List Int) : List Value := xs.map (.int .i64)
def RI (w : World) (B : Nat) (A : Option Addr) (n : Nat) (xs : List Int) : Prop := RV w B 1 A n (VI xs)
section
variable {w w' : World} {B B' s n : Nat} {A : Option Addr} {vs : List Value} {xs : List Int}
theorem RV.below (h : RV w B s A n vs) (hb : Below B' w w') (hB : w.heap.size ≤ B') : RV w' B s A n vs :=
  ⟨h.1, fun hn => by
    obtain ⟨b, o, hA, h1, h2, hc⟩ := h.2 hn
    refine ⟨b, o, hA, h1, Nat.lt_of_lt_of_le h2 hb.size, fun j u hu => ?_⟩
    exact (hb.cell (p := ⟨b, o + j, none⟩) (by show b < B'; omega)).trans (hc j u hu)⟩
theorem RV.base (h : RV w B s A n vs) (hB : B' ≤ B) : RV w B' s A n vs :=
  ⟨h.1, fun hn => by
    obtain ⟨b, o, hA, h1, h2, hc⟩ := h.2 hn
    exact ⟨b, o, hA, by omega, h2, hc⟩⟩
theorem RV.set_ (h : RV w B s A n vs) {p : Addr} (hp : p.block < B) (u : Value) : RV (w.setCell p u) B s A n vs :=
  ⟨h.1, fun hn => by
    obtain ⟨b, o, hA, h1, h2, hc⟩ := h.2 hn
    refine ⟨b, o, hA, h1, by simpa [World.setCell] using h2, fun j x hx => ?_⟩
    rw [World.cell?_of_block (w := w) (a := ⟨b, o + j, none⟩) (Below.heap_setCell w p u b (by omega))]
    exact hc j x hx⟩
theorem RV.alloc (h : RV w B s A n vs) (o : Obj) : RV (w.alloc o) B s A n vs := h.below (B' := w.heap.size) ((Below.refl _ _).alloc (Nat.le_refl _) o) (Nat.le_refl _)
theorem RV.drew (h : RV w B s A n vs) : RV w.drew B s A n vs := h
theorem RV.nil : RV w B s A 0 [] := ⟨by simp, fun h => absurd h (by omega)⟩
theorem RI.len (h : RI w B A n xs) : xs.length = n := by
  have := h.1; simp [VI] at this; omega
theorem RI.below (h : RI w B A n xs) (hb : Below B' w w') (hB : w.heap.size ≤ B') : RI w' B A n xs := RV.below h hb hB
theorem RI.base (h : RI w B A n xs) (hB : B' ≤ B) : RI w B' A n xs := RV.base h hB
theorem RI.set_ (h : RI w B A n xs) {p : Addr} (hp : p.block < B) (u : Value) : RI (w.setCell p u) B A n xs := RV.set_ h hp u
theorem RI.alloc (h : RI w B A n xs) (o : Obj) : RI (w.alloc o) B A n xs := RV.alloc h o
theorem RI.nil : RI w B A 0 [] := RV.nil
end
/-- Block g is just the cells cs of element type t, none of them frozen. -/
def Blk (w : World) (g : Nat) (t : TypeId) (cs : Array Value) : Prop := w.heap[g]? = some (.cells cs t (0, 0))
section
variable {w w' : World} {g B : Nat} {t : TypeId} {cs cs' : Array Value}
theorem Blk.cell (h : Blk w g t cs) (i : Nat) : w.cell? ⟨g, i, none⟩ = cs[i]? := cell_of_row w g i cs t (0, 0) h
theorem Blk.frozen (h : Blk w g t cs) (i : Nat) : w.frozen? ⟨g, i, none⟩ = false := by
  unfold Blk at h
  simp [World.frozen?, h]
theorem Blk.lt (h : Blk w g t cs) : g < w.heap.size := lt_of_block h
theorem Blk.new (w : World) (t : TypeId) (cs : Array Value) : Blk (w.alloc (.cells cs t)) w.heap.size t cs := heap_alloc_new w _
theorem Blk.alloc (h : Blk w g t cs) (o : Obj) : Blk (w.alloc o) g t cs := (Below.heap_alloc w o g h.lt).trans h
theorem Blk.below (h : Blk w g t cs) (hb : Below B w w') (hg : g < B) : Blk w' g t cs := (hb.block g hg).trans h
theorem Blk.drew (h : Blk w g t cs) : Blk w.drew g t cs := h
theorem Blk.set_ (h : Blk w g t cs) (i : Nat) (u : Value) (hc : cs' = cs.setIfInBounds i u) : Blk (w.setCell ⟨g, i, none⟩ u) g t cs' := by
  subst hc
  unfold Blk at h ⊢
  simp [World.setCell, Array.getElem?_modify, h]
theorem Blk.far (h : Blk w g t cs) {p : Addr} (hp : g ≠ p.block) (u : Value) : Blk (w.setCell p u) g t cs := (Below.heap_setCell w p u g hp).trans h
theorem Blk.c1 {a : Value} (h : Blk w g t #[a]) : w.cell? ⟨g, 0, none⟩ = some a ∧ w.frozen? ⟨g, 0, none⟩ = false := ⟨h.cell 0, h.frozen 0⟩
theorem Blk.c2 {a b : Value} (h : Blk w g t #[a, b]) : w.cell? ⟨g, 0, none⟩ = some a ∧ w.cell? ⟨g, 1, none⟩ = some b := ⟨h.cell 0, h.cell 1⟩
theorem Blk.c3 {a b c : Value} (h : Blk w g t #[a, b, c]) : w.cell? ⟨g, 0, none⟩ = some a ∧ w.cell? ⟨g, 1, none⟩ = some b ∧ w.cell? ⟨g, 2, none⟩ = some c := ⟨h.cell 0, h.cell 1, h.cell 2⟩
end
end Go.Proofs.YtpmnfhifmmfglacDoor

namespace Go.Proofs.YtpmnfhifmmfglacDoor
open Go.ChangeShapes Go.WideShapes Go.ChangeAt Go.RowKit Go.Joins Go.Deep
theorem Tryd.own : ownKnob Tryd.prog.godebug = none := by kernel_rfl
theorem Tryd.laid : laidOutB Tryd.prog = true := by kernel_rfl
/-- The cells that a datum is. -/
def cells0 : DataW Unit → List Value
  | .lit (.int k n) => [.int k n]
  | _ => []
def cells1 : DataW Unit → List Value
  | .agg ds => ds.flatMap cells0
  | d => cells0 d
def cellsOf : DataW Unit → List Value
  | .agg ds => ds.flatMap cells1
  | d => cells0 d
def wf64 (x : Int) : Prop := -9223372036854775808 ≤ x ∧ x ≤ 9223372036854775807
theorem wf64_of {x : Int} (h : (Lit.int .i64 x).wf = true) : wf64 x := by
  simp [Lit.wf, IntKind.min, IntKind.max, IntKind.signed, IntKind.bits] at h
  exact h
section
variable {H : Type} {enc : TypeId × Value → H} {P : Program}
/-- Every argument reads behind the call as it read before it. -/
theorem args_stay (hl : laidOutB P = true) {W W' : World} (hb : Below W.heap.size W W') : ∀ {ts : List TypeId} {vs : List Value} {ds : List (DataW H)} {ps : List MemPlace},
    ts.all (fun t => P.readableRec t && decide (t < P.types.size)) = true → DataW.TrodAll enc P W 0 (fun _ => true) true ts vs ds ps → (∀ x ∈ ps, x.block < W.heap.size) →
    DataW.TrodAll enc P W' 0 (fun b => decide (b < W.heap.size)) true ts vs ds ps
  | [], [], [], _, _, h, _ => h
  | t :: ts, v :: vs, d :: ds, ps, ht, h, hp => by
    obtain ⟨p, q, h1, h2, rfl⟩ := h
    simp only [List.all_cons, Bool.and_eq_true, decide_eq_true_eq] at ht
    exact ⟨p, q, Below.trod hl ht.1.1 ht.1.2 h1 hb (fun x hx => hp x (List.mem_append_left _ hx)), args_stay hl hb (by simpa using ht.2) h2 (fun x hx => hp x (List.mem_append_right _ hx)), rfl⟩
  | [], _ :: _, _, _, _, h, _ => by cases h
  | [], [], _ :: _, _, _, h, _ => by cases h
  | _ :: _, [], _, _, _, h, _ => by cases h
  | _ :: _, _ :: _, [], _, _, h, _ => by cases h
/-- A law's end: it answered true, and below the heap's old size nothing has turned. -/
theorem law_end {f : Func} {s : ChangeSpec} {apart fresh handsOn : Bool} {W W' : World} {args : Array Value} {ds : List (DataW H)} {before : List MemPlace} {tb : TypeId}
    (hl : laidOutB P = true) (hts : f.params.toList.all (fun t => P.readableRec t && decide (t < P.types.size)) = true) (hr : f.resultTypes = #[tb]) (hb : P.underlying tb = some .bool)
    (hv : s.vars = []) (hW : DataW.Whole enc P f.params.toList s.vars apart W args.toList ds [] before)
    (h1 : (s.fn H ds).results = [.lit (.bool true)]) (h2 : (s.fn H ds).args = ds) (h3 : (s.fn H ds).vars = []) (hbel : Below W.heap.size W W') :
    s.post enc P f apart fresh handsOn false W args (.bool true) W' := by
  obtain ⟨p, q, hA, hq, rfl, _, _⟩ := id hW
  rw [hv] at hq
  obtain ⟨_, rfl⟩ := trodVars_none hq
  have hlt : ∀ x ∈ p ++ [], x.block < W.heap.size := fun x hx => hW.lt x hx
  refine ⟨ds, [], p ++ [], [], p, [], hW, ?_, ?_, ?_, ?_, fun h => by cases h⟩
  · rw [List.append_nil, h1, hr]
    exact trodAll_mk1 (shut_bool hb true)
  · rw [List.append_nil, h2]
    exact args_stay hl hbel hts hA (fun x hx => hlt x (by simpa using hx))
  · rw [List.append_nil, h3, hv]
    rfl
  · exact World.keptBut_mono (fun x hx => ⟨hx, Or.inr (Or.inl (by simpa using hx))⟩) (hbel.frame (· ∈ p ++ []))
end
theorem bulk_part {H : Type} {d : DataW H} : ∀ {l : List (DataW H)}, d ∈ l → Rows.uptoBulk d ≤ Rows.uptoBulkAll l
  | [], h => by cases h
  | x :: r, h => by
    simp only [Rows.uptoBulkAll]
    rcases List.mem_cons.1 h with e | e
    · subst e; omega
    · have := bulk_part e; omega
/-- A string that came in, where all is of small bulk. -/
theorem bulk_str {H : Type} {l : List UInt8} {ds : List (DataW H)} (hk : Rows.uptoSmall H ds = true) (hm : DataW.lit (.string l) ∈ ds) : l.length ≤ 1048576 := by
  have h1 : Rows.uptoBulkAll ds ≤ 1048576 := of_decide_eq_true hk
  have h2 := bulk_part hm
  have h3 : Rows.uptoBulk (DataW.lit (H := H) (.string l)) = l.length + 1 := by simp [Rows.uptoBulk]
  omega
end Go.Proofs.YtpmnfhifmmfglacDoor

namespace Go.Proofs.YtpmnfhifmmfglacDoor
open Go
section
variable {P : Program} {ops : Array Oper} {Q : Exit → Act → World → Prop} {S : World → Prop}
/-- No way out but the straight one. -/
def NoOut : Exit → Act → World → Prop := fun _ _ _ => False
/-- In every world that meets S the operation gives v and turns nothing. -/
def YldS (P : Program) (ops : Array Oper) (S : World → Prop) (o : Oper) (v : Value) (a : Act) : Prop :=
  (Region.wanted o (yielded ops a.tmps) = true ∧ ∀ w, S w → (execOp a.eval o).run P w = .ok (.value v) w) ∨
  (Region.wanted o (yielded ops a.tmps) = false ∧ v = undef)
theorem YldS.same {o : Oper} {v : Value} {a a' : Act} (hy : YldS P ops S o v a) (he : execOp a'.eval o = execOp a.eval o)
    (hw : Region.wanted o (yielded ops a'.tmps) = Region.wanted o (yielded ops a.tmps)) : YldS P ops S o v a' := by
  unfold YldS at *
  rw [he, hw]
  exact hy
theorem YldS.uniq {o : Oper} {v u : Value} {a : Act} {w : World} (hS : S w) (h : YldS P ops S o v a) (h' : YldS P ops S o u a) : v = u := by
  rcases h with ⟨h1, h2⟩ | ⟨h1, h2⟩ <;> rcases h' with ⟨h3, h4⟩ | ⟨h3, h4⟩
  · have := (h2 w hS).symm.trans (h4 w hS)
    injection this with e _
    injection e
  · rw [h1] at h3; cases h3
  · rw [h1] at h3; cases h3
  · rw [h2, h4]
theorem YldS.run {i : Nat} {o : Oper} {v : Value} {a : Act} (hi : ops[i]? = some o) (hy : YldS P ops S o v a) {w : World} (hS : S w) {K : Act → World → Prop}
    (h : K (a.put o.dst v) w) : wpOp P ops Q i K a w := by
  unfold Go.wpOp
  simp only [hi]
  rcases hy with ⟨hw, hv⟩ | ⟨hw, rfl⟩
  · simp only [hw, if_true, Oper.wp, hv w hS, Oper.upon]; exact .inl h
  · simp only [hw, Bool.false_eq_true, if_false]; exact h
theorem lets_noOut {p : Prop} (h : LetsOut NoOut) : p := by
  obtain ⟨_, _, h⟩ := h
  exact h.elim
/-- What is reached: at least one end. -/
theorem wpOp_some {j : Nat} {K : Act → World → Prop} {a : Act} {w : World} (h : wpOp P ops NoOut j K a w) : ∃ a' w', K a' w' := by
  unfold wpOp at h
  split at h
  · exact ⟨_, _, h⟩
  · split at h
    · rcases h with h | ⟨_, h⟩
      · unfold Oper.wp at h
        generalize (execOp a.eval _).run P w = r at h
        cases r with
        | ok n w' =>
          cases n <;> simp only [Oper.upon] at h
          case value => exact ⟨_, _, h⟩
          case skip => exact ⟨_, _, h⟩
          case defer => exact ⟨_, _, h⟩
          case enter f args =>
            obtain ⟨e, w', _, hR, _⟩ := h []
            cases e with
            | returned v => exact ⟨_, _, hR⟩
            | panicked c => exact hR.elim
            | outgrown => exact lets_noOut hR
          case row row args =>
            obtain ⟨v, w', hR, _⟩ := h default []
            exact ⟨_, _, hR⟩
          all_goals exact h.elim
        | halt x w' => cases x <;> simp only [Oper.upon] at h <;> exact h.elim
      · exact lets_noOut h
    · exact ⟨_, _, h⟩
/-- An operation behind a slot that it neither reads nor writes. -/
theorem wpOp_behind {j : Nat} {oi oj : Oper} {v : Value} (hj : ops[j]? = some oj) (hap : oi.apart ops oj = true)
    (hsj : ∀ cs b, oj.op ≠ .select cs b) {K : Act → World → Prop} {a : Act} {w : World}
    (h : wpOp P ops NoOut j (fun a' w' => K (a'.put oi.dst v) w') a w) : wpOp P ops NoOut j K (a.put oi.dst v) w := by
  obtain ⟨h1, h2, h3⟩ := Oper.apart_spec hap
  unfold wpOp at *
  simp only [hj] at *
  rw [wanted_put oj a oi.dst v h1]
  split
  · rename_i hw
    simp only [hw, if_true] at h
    rcases h with h | ⟨_, hl⟩
    case inr => exact lets_noOut hl
    refine .inl ?_
    unfold Oper.wp at *
    rw [execOp_put oj hsj a oi.dst v h1]
    generalize (execOp a.eval oj).run P w = r at *
    cases r with
    | ok n w' =>
      cases n <;> simp only [Oper.upon] at h ⊢
      case value u => rw [Act.put_comm a v u h2]; exact h
      case skip => rw [Act.put_comm a v undef h2]; exact h
      case defer d => rw [Act.put_defers, Act.put_comm _ v undef h2]; exact h
      case enter f args =>
        refine Calls.mono h fun e w'' he => ?_
        cases e with
        | returned u => show K _ _; rw [Act.put_comm a v u h2]; exact he
        | panicked c => exact he
        | outgrown => exact he
      case row row args => exact Rows.mono h fun u w'' he => by rw [Act.put_comm a v u h2]; exact he
    | halt x w' => cases x <;> simp only [Oper.upon] at h ⊢; exact h
  · rename_i hw
    simp only [hw] at h
    rw [Act.put_comm a v undef h2]
    exact h
/-- An operation ahead of a reading one: the value that this one will read is the same. -/
theorem wpOp_ahead {j : Nat} {oi oj : Oper} {v : Value} (hj : ops[j]? = some oj) (hap : oi.apart ops oj = true)
    (hsi : ∀ cs b, oi.op ≠ .select cs b) (hsj : ∀ cs b, oj.op ≠ .select cs b) {K : Act → World → Prop} {a : Act} {w : World}
    (hy : YldS P ops S oi v a) (h : wpOp P ops NoOut j K (a.put oi.dst v) w) :
    wpOp P ops NoOut j (fun a' w' => YldS P ops S oi v a' ∧ K (a'.put oi.dst v) w') a w := by
  obtain ⟨h1, h2, h3⟩ := Oper.apart_spec hap
  have keep : ∀ (a : Act), YldS P ops S oi v a → ∀ u, YldS P ops S oi v (a.put oj.dst u) := fun a hy u =>
    hy.same (execOp_put oi hsi a oj.dst u h3) (wanted_put oi a oj.dst u h3)
  have keepD : ∀ d, YldS P ops S oi v { a with defers := d :: a.defers } := fun d => hy.same rfl rfl
  unfold wpOp at *
  simp only [hj] at *
  rw [wanted_put oj a oi.dst v h1] at h
  split
  · rename_i hw
    simp only [hw, if_true] at h
    rcases h with h | ⟨_, hl⟩
    case inr => exact lets_noOut hl
    refine .inl ?_
    unfold Oper.wp at *
    rw [execOp_put oj hsj a oi.dst v h1] at h
    generalize (execOp a.eval oj).run P w = r at *
    cases r with
    | ok n w' =>
      cases n <;> simp only [Oper.upon] at h ⊢
      case value u => exact ⟨keep a hy u, by rw [← Act.put_comm a v u h2]; exact h⟩
      case skip => exact ⟨keep a hy _, by rw [← Act.put_comm a v undef h2]; exact h⟩
      case defer d =>
        refine ⟨keep _ (keepD d) _, ?_⟩
        rw [← Act.put_comm _ v undef h2, ← Act.put_defers]
        exact h
      case enter f args =>
        refine Calls.mono h fun e w'' he => ?_
        cases e with
        | returned u => exact ⟨keep a hy u, by rw [← Act.put_comm a v u h2]; exact he⟩
        | panicked c => exact he
        | outgrown => exact he
      case row row args => exact Rows.mono h fun u w'' he => ⟨keep a hy u, by rw [← Act.put_comm a v u h2]; exact he⟩
    | halt x w' => cases x <;> simp only [Oper.upon] at h ⊢; exact h
  · rename_i hw
    simp only [hw] at h
    exact ⟨keep a hy _, by rw [← Act.put_comm a v undef h2]; exact h⟩
/-- The walk in the text's order over the indices l: 'rob': a reading operation; 'need': behind this one S must hold. -/
def wpTx (P : Program) (ops : Array Oper) (S : World → Prop) (rob need : Nat → Bool) (R : Act → World → Prop) : List Nat → Act → World → Prop
  | [], a, w => R a w
  | i :: l, a, w => ∃ o, ops[i]? = some o ∧
    if rob i then ∃ v, YldS P ops S o v a ∧ wpTx P ops S rob need R l (a.put o.dst v) w
    else wpOp P ops NoOut i (fun a' w' => (need i = true → S w') ∧ wpTx P ops S rob need R l a' w') a w
variable {rob need : Nat → Bool} {R : Act → World → Prop}
/-- A reading operation is taken first. -/
theorem wpTx_pull {i : Nat} {oi : Oper} (hi : ops[i]? = some oi) (hr : rob i = true) (hsel : ∀ (j : Nat) (o : Oper) cs b, ops[j]? = some o → o.op ≠ .select cs b) :
    ∀ (pre : List Nat) (post : List Nat) (a : Act) (w : World), S w → (∀ j ∈ pre, ∀ oj, ops[j]? = some oj → oi.apart ops oj = true) →
      (∀ j ∈ pre, rob j = false → need j = true) →
      wpTx P ops S rob need R (pre ++ i :: post) a w → ∃ v, YldS P ops S oi v a ∧ wpTx P ops S rob need R (pre ++ post) (a.put oi.dst v) w
  | [], post, a, w, _, _, _, h => by
    obtain ⟨o, ho, h⟩ := h
    have : o = oi := Option.some.inj (ho.symm.trans hi)
    subst this
    rw [if_pos hr] at h
    exact h
  | j :: pre, post, a, w, hS, hap, hnd, h => by
    obtain ⟨oj, hj, h⟩ := h
    have hapj := hap j (List.mem_cons_self ..) oj hj
    obtain ⟨h1, h2, h3⟩ := Oper.apart_spec hapj
    have hap' : ∀ k ∈ pre, ∀ ok, ops[k]? = some ok → oi.apart ops ok = true := fun k hk => hap k (List.mem_cons_of_mem _ hk)
    have hnd' : ∀ k ∈ pre, rob k = false → need k = true := fun k hk => hnd k (List.mem_cons_of_mem _ hk)
    by_cases hrj : rob j = true
    · rw [if_pos hrj] at h
      obtain ⟨u, hu, h⟩ := h
      obtain ⟨v, hv, h⟩ := wpTx_pull hi hr hsel pre post (a.put oj.dst u) w hS hap' hnd' h
      have hv' : YldS P ops S oi v a := hv.same (execOp_put oi (fun cs b => hsel i oi cs b hi) a oj.dst u h3).symm (wanted_put oi a oj.dst u h3).symm
      refine ⟨v, hv', oj, hj, ?_⟩
      rw [if_pos hrj]
      refine ⟨u, hu.same (execOp_put oj (fun cs b => hsel j oj cs b hj) a oi.dst v h1) (wanted_put oj a oi.dst v h1), ?_⟩
      rw [Act.put_comm a v u h2]
      exact h
    · have hrj' : rob j = false := by simpa using hrj
      rw [if_neg hrj] at h
      have hK : ∀ a' w', ((need j = true → S w') ∧ wpTx P ops S rob need R (pre ++ i :: post) a' w') → S w' ∧ ∃ v, YldS P ops S oi v a' ∧ wpTx P ops S rob need R (pre ++ post) (a'.put oi.dst v) w' := fun a' w' hh =>
        have hS' := hh.1 (hnd j (List.mem_cons_self ..) hrj')
        ⟨hS', wpTx_pull hi hr hsel pre post a' w' hS' hap' hnd' hh.2⟩
      -- the value, once and for all
      have hback : ∀ {a' : Act} {v : Value}, (∃ (a0 : Act) (u : Value), a' = a0.put oj.dst u ∧ execOp a0.eval oi = execOp a.eval oi ∧ Region.wanted oi (yielded ops a0.tmps) = Region.wanted oi (yielded ops a.tmps)) → YldS P ops S oi v a' → YldS P ops S oi v a := by
        rintro a' v ⟨a0, u, rfl, he, hw⟩ hy
        exact hy.same ((execOp_put oi (fun cs b => hsel i oi cs b hi) a0 oj.dst u h3).trans he).symm ((wanted_put oi a0 oj.dst u h3).trans hw).symm
      have hreach : wpOp P ops NoOut j (fun a' w' => (∃ (a0 : Act) (u : Value), a' = a0.put oj.dst u ∧ execOp a0.eval oi = execOp a.eval oi ∧ Region.wanted oi (yielded ops a0.tmps) = Region.wanted oi (yielded ops a.tmps)) ∧
          ((need j = true → S w') ∧ wpTx P ops S rob need R (pre ++ i :: post) a' w')) a w := by
        unfold wpOp at h ⊢
        simp only [hj] at h ⊢
        split
        · rename_i hw
          rw [if_pos hw] at h
          rcases h with h | ⟨_, hl⟩
          case inr => exact lets_noOut hl
          refine .inl ?_
          unfold Oper.wp at *
          generalize (execOp a.eval oj).run P w = r at *
          cases r with
          | ok n w' =>
            cases n <;> simp only [Oper.upon] at h ⊢
            case value u => exact ⟨⟨a, u, rfl, rfl, rfl⟩, h⟩
            case skip => exact ⟨⟨a, undef, rfl, rfl, rfl⟩, h⟩
            case defer d => exact ⟨⟨{ a with defers := d :: a.defers }, undef, rfl, rfl, rfl⟩, h⟩
            case enter f args =>
              refine Calls.mono h fun e w'' he => ?_
              cases e with
              | returned u => exact ⟨⟨a, u, rfl, rfl, rfl⟩, he⟩
              | panicked c => exact he
              | outgrown => exact lets_noOut he
            case row row args => exact Rows.mono h fun u w'' he => ⟨⟨a, u, rfl, rfl, rfl⟩, he⟩
          | halt x w' => cases x <;> simp only [Oper.upon] at h ⊢; exact h
        · rename_i hw
          rw [if_neg hw] at h
          exact ⟨⟨a, undef, rfl, rfl, rfl⟩, h⟩
      obtain ⟨a1, w1, hb1, hk1⟩ := wpOp_some hreach
      obtain ⟨_, v, hv1, _⟩ := hK a1 w1 hk1
      have hv : YldS P ops S oi v a := hback hb1 hv1
      refine ⟨v, hv, oj, hj, ?_⟩
      rw [if_neg hrj]
      refine wpOp_behind hj hapj (fun cs b => hsel j oj cs b hj) (wpOp_mono ?_ hreach)
      rintro a' w' ⟨hb, hk⟩
      obtain ⟨hS', v', hv', hrest⟩ := hK a' w' hk
      have : v = v' := YldS.uniq hS hv (hback hb hv')
      subst this
      exact ⟨fun _ => hS', hrest⟩
/-- An operation that is none of the reading ones is taken ahead of reading ones. -/
theorem wpTx_push {i : Nat} {oi : Oper} (hi : ops[i]? = some oi) (hr : rob i = false) (hsel : ∀ (j : Nat) (o : Oper) cs b, ops[j]? = some o → o.op ≠ .select cs b) :
    ∀ (pre : List Nat) (post : List Nat) (a : Act) (w : World), (∀ j ∈ pre, rob j = true) → (∀ j ∈ pre, ∀ oj, ops[j]? = some oj → oj.apart ops oi = true) →
      wpTx P ops S rob need R (pre ++ i :: post) a w → wpOp P ops NoOut i (fun a' w' => (need i = true → S w') ∧ wpTx P ops S rob need R (pre ++ post) a' w') a w
  | [], post, a, w, _, _, h => by
    obtain ⟨o, ho, h⟩ := h
    rw [if_neg (by simp [hr])] at h
    exact h
  | j :: pre, post, a, w, hrob, hap, h => by
    obtain ⟨oj, hj, h⟩ := h
    have hrj := hrob j (List.mem_cons_self ..)
    rw [if_pos hrj] at h
    obtain ⟨v, hv, h⟩ := h
    have h2 := wpTx_push hi hr hsel pre post (a.put oj.dst v) w (fun k hk => hrob k (List.mem_cons_of_mem _ hk)) (fun k hk => hap k (List.mem_cons_of_mem _ hk)) h
    have h3 := wpOp_ahead hi (hap j (List.mem_cons_self ..) oj hj) (fun cs b => hsel j oj cs b hj) (fun cs b => hsel i oi cs b hi) hv h2
    refine wpOp_mono ?_ h3
    rintro a' w' ⟨hy, hn, hk⟩
    refine ⟨hn, oj, hj, ?_⟩
    rw [if_pos hrj]
    exact ⟨v, hy, hk⟩
/-- Is operation i bound to wait for operation j? -/
def waits (ops : Array Oper) (i j : Nat) : Bool :=
  match ops[i]? with
  | some o => o.after.any fun e => Region.binds .any e && e.on == j
  | none => false
theorem waits_spec {i j : Nat} (h : waits ops i j = true) : ∃ o, ops[i]? = some o ∧ ∃ e ∈ o.after, Region.binds .any e = true ∧ e.on = j := by
  unfold waits at h
  split at h
  · rename_i o ho
    obtain ⟨e, he, hb⟩ := Array.any_eq_true'.1 h
    simp only [Bool.and_eq_true, beq_iff_eq] at hb
    exact ⟨o, ho, e, he, hb⟩
  · cases h
/-- Which reading operation is not bound to stand ahead of operation i. -/
def freeOf (ops : Array Oper) (rob : Nat → Bool) (i : Nat) : Bool :=
  (List.range ops.size).any fun r => rob r && r != i && !(waits ops i r)
theorem getD_replicate_f (m j : Nat) : (Array.replicate m false).getD j false = false := by
  rcases Nat.lt_or_ge j m with h | h
  · simp [h]
  · simp [h]
/-- What is asked of a region's text. -/
def txtBack (ops : Array Oper) : Bool :=
  (List.range ops.size).all fun i => match ops[i]? with
    | some o => o.after.all fun e => !Region.binds .any e || decide (e.on < i)
    | none => false
def txtPair (ops : Array Oper) (rob : Nat → Bool) (i j : Nat) : Bool :=
  match ops[i]?, ops[j]? with
  | some oi, some oj => waits ops i j || ((!rob i || oi.apart ops oj) && (!rob j || oj.apart ops oi) && (rob i || rob j || (List.range i).any fun k => decide (j < k) && !rob k))
  | _, _ => false
def txtOK (ops : Array Oper) (rob need : Nat → Bool) : Bool :=
  Region.noSelect ops && txtBack ops && ((List.range ops.size).all fun i => (List.range i).all fun j => txtPair ops rob i j) &&
  (List.range ops.size).all fun i => rob i || need i || !freeOf ops rob i
theorem wpOp_out {i : Nat} {K : Act → World → Prop} {a : Act} {w : World} (h : wpOp P ops NoOut i K a w) : wpOp P ops Q i K a w := by
  unfold wpOp at *
  split
  · rename_i h0
    simp only [h0] at h
    exact h
  · rename_i o ho
    simp only [ho] at h
    split
    · rename_i hw
      rw [if_pos hw] at h
      rcases h with h | ⟨_, hl⟩
      case inr => exact lets_noOut hl
      refine .inl ?_
      unfold Oper.wp at *
      generalize (execOp a.eval o).run P w = r at *
      cases r with
      | ok n w' =>
        cases n <;> simp only [Oper.upon] at h ⊢ <;> first
          | exact h
          | (refine Calls.mono h fun e w'' he => ?_
             cases e with
             | returned u => exact he
             | panicked c => exact he.elim
             | outgrown => exact lets_noOut he)
      | halt x w' => cases x <;> simp only [Oper.upon] at h ⊢; exact h.elim
    · rename_i hw
      rw [if_neg hw] at h
      exact h
def remOf (ops : Array Oper) (listed : Array Bool) : List Nat := (List.range ops.size).filter fun i => !listed.getD i true
theorem remOf_sorted (listed : Array Bool) : (remOf ops listed).Pairwise (· < ·) := List.Pairwise.filter _ List.pairwise_lt_range
theorem mem_remOf {listed : Array Bool} {i : Nat} : i ∈ remOf ops listed ↔ i < ops.size ∧ listed.getD i true = false := by
  simp [remOf]
theorem remOf_set {listed : Array Bool} {i : Nat} (hs : listed.size = ops.size) (hi : i < ops.size) : remOf ops (listed.setIfInBounds i true) = (remOf ops listed).filter (· != i) := by
  unfold remOf
  rw [List.filter_filter]
  refine List.filter_congr fun j _ => ?_
  by_cases hij : i = j
  · subst hij
    have : i < listed.size := by omega
    simp [this]
  · have hij' : j ≠ i := fun e => hij e.symm
    rw [getD_set_ne true hij]
    simp [hij']
theorem split_sorted {l : List Nat} {i : Nat} (hl : l.Pairwise (· < ·)) (hi : i ∈ l) : ∃ pre post, l = pre ++ i :: post ∧ l.filter (· != i) = pre ++ post ∧ ∀ j ∈ pre, j < i := by
  obtain ⟨pre, post, rfl⟩ := List.append_of_mem hi
  rw [List.pairwise_append] at hl
  obtain ⟨_, h2, h3⟩ := hl
  rw [List.pairwise_cons] at h2
  have hpre : ∀ j ∈ pre, j < i := fun j hj => h3 j hj i (List.mem_cons_self ..)
  refine ⟨pre, post, rfl, ?_, hpre⟩
  rw [List.filter_append, List.filter_cons]
  have e1 : pre.filter (· != i) = pre := List.filter_eq_self.2 fun j hj => by have := hpre j hj; simp; omega
  have e2 : post.filter (· != i) = post := List.filter_eq_self.2 fun j hj => by have := h2.1 j hj; simp; omega
  simp [e1, e2]
/-- Deps of what is listed are listed. -/
def Closed (ops : Array Oper) (listed : Array Bool) : Prop := ∀ i, listed.getD i false = true → ∀ j, waits ops i j = true → listed.getD j false = true
theorem listed_eq {listed : Array Bool} {j : Nat} (hj : j < listed.size) : listed.getD j true = listed.getD j false := by simp [hj]
theorem ready_waits {listed : Array Bool} {i j : Nat} (hr : i ∈ Region.ready .any ops listed) (hw : waits ops i j = true) : listed.getD j false = true := by
  obtain ⟨_, o, ho, hall⟩ := mem_ready.1 hr
  obtain ⟨o', ho', e, he, hb, hon⟩ := waits_spec hw
  have : o' = o := Option.some.inj (ho'.symm.trans ho)
  subst this
  rw [← hon]
  exact hall e he hb
/-- All earlier operations of the chain are listed where one of it is ready, or listed. -/
theorem chain_listed {listed : Array Bool} (hc : Closed ops listed)
    (hp : ∀ i < ops.size, ∀ j < i, txtPair ops rob i j = true) :
    ∀ (d i j : Nat), i - j = d → j < i → i < ops.size → rob i = false → rob j = false → (∀ k, waits ops i k = true → listed.getD k false = true) → listed.getD j false = true := by
  intro d
  induction d using Nat.strongRecOn with
  | _ d ih =>
    intro i j hd hji hi hri hrj hwi
    have h := hp i hi j hji
    unfold txtPair at h
    split at h
    · rename_i oi oj hoi hoj
      simp only [Bool.or_eq_true, Bool.and_eq_true, hri, hrj, Bool.false_eq_true, false_or] at h
      rcases h with h | ⟨_, h⟩
      · exact hwi j h
      · obtain ⟨k, hk, hk2⟩ := List.any_eq_true.1 h
        simp only [Bool.and_eq_true, decide_eq_true_eq, Bool.not_eq_true'] at hk2
        have hki := List.mem_range.1 hk
        have hkl := ih (i - k) (by omega) i k rfl hki hi hri hk2.2 hwi
        exact ih (k - j) (by omega) k j rfl hk2.1 (by omega) hk2.2 hrj (fun m hm => hc k hkl m hm)
    · cases h
theorem wpAny_of_tx (hok : txtOK ops rob need = true) : ∀ (fuel : Nat) (listed : Array Bool) (a : Act) (w : World), listed.size = ops.size → Closed ops listed → (remOf ops listed).length = fuel →
    (∀ r ∈ remOf ops listed, rob r = true → S w) → wpTx P ops S rob need (Q .normal) (remOf ops listed) a w → wpAny P .any ops Q fuel listed a w := by
  simp only [txtOK, Bool.and_eq_true] at hok
  obtain ⟨⟨⟨hsel0, hback⟩, hpair⟩, hneed⟩ := hok
  have hsel := Region.noSelect_spec hsel0
  have hp : ∀ i < ops.size, ∀ j < i, txtPair ops rob i j = true := fun i hi j hj => List.all_eq_true.1 (List.all_eq_true.1 hpair i (List.mem_range.2 hi)) j (List.mem_range.2 hj)
  have hbk : ∀ i o, ops[i]? = some o → ∀ e ∈ o.after, Region.binds .any e = true → e.on < i := fun i o ho e he hb => by
    have hi : i < ops.size := (Array.getElem?_eq_some_iff.1 ho).1
    have h := List.all_eq_true.1 hback i (List.mem_range.2 hi)
    simp only [ho] at h
    have h2 := Array.all_eq_true_iff_forall_mem.1 h e he
    simpa [hb] using h2
  have hnd : ∀ i < ops.size, rob i = false → ∀ r < ops.size, rob r = true → waits ops i r = false → need i = true := fun i hi hri r hr hrr hw => by
    have h := List.all_eq_true.1 hneed i (List.mem_range.2 hi)
    simp only [hri, Bool.false_or, Bool.or_eq_true, Bool.not_eq_true'] at h
    refine h.resolve_right fun h0 => ?_
    have : freeOf ops rob i = true := by
      refine List.any_eq_true.2 ⟨r, List.mem_range.2 hr, ?_⟩
      have : r ≠ i := fun e => by subst e; rw [hri] at hrr; cases hrr
      simp [hrr, hw, this]
    rw [this] at h0
    cases h0
  intro fuel
  induction fuel with
  | zero =>
    intro listed a w hs hc hlen _ h
    have hnil : remOf ops listed = [] := List.eq_nil_of_length_eq_zero hlen
    rw [hnil] at h
    refine ⟨?_, h⟩
    refine List.eq_nil_iff_forall_not_mem.2 fun i hi => ?_
    obtain ⟨h0, o, ho, _⟩ := mem_ready.1 hi
    have : i ∈ remOf ops listed := mem_remOf.2 ⟨(Array.getElem?_eq_some_iff.1 ho).1, h0⟩
    rw [hnil] at this
    cases this
  | succ fuel ih =>
    intro listed a w hs hc hlen hS h
    refine ⟨fun h0 => ?_, fun i hi => ?_⟩
    · exfalso
      match hr : remOf ops listed, hlen with
      | i0 :: rest, _ =>
        have hm0 : i0 ∈ remOf ops listed := by rw [hr]; exact List.mem_cons_self ..
        obtain ⟨hlt, hun⟩ := mem_remOf.1 hm0
        have hsorted := remOf_sorted (ops := ops) listed
        rw [hr, List.pairwise_cons] at hsorted
        have : i0 ∈ Region.ready .any ops listed := by
          refine mem_ready.2 ⟨hun, ops[i0], Array.getElem?_eq_getElem hlt, fun e he hb => ?_⟩
          have hlt2 := hbk i0 _ (Array.getElem?_eq_getElem hlt) e he hb
          cases hl : listed.getD e.on false with
          | true => rfl
          | false =>
            have hm : e.on ∈ remOf ops listed := mem_remOf.2 ⟨by omega, by rw [listed_eq (by omega)]; exact hl⟩
            rw [hr] at hm
            rcases List.mem_cons.1 hm with hm | hm
            · omega
            · have := hsorted.1 _ hm; omega
        rw [h0] at this
        cases this
    · obtain ⟨hun, oi, hoi, hall⟩ := mem_ready.1 hi
      have hilt : i < ops.size := (Array.getElem?_eq_some_iff.1 hoi).1
      obtain ⟨pre, post, hrem, hfil, hpre⟩ := split_sorted (remOf_sorted (ops := ops) listed) (mem_remOf.2 ⟨hilt, hun⟩)
      have hrem' : remOf ops (listed.setIfInBounds i true) = pre ++ post := by rw [remOf_set hs hilt, hfil]
      have hlen' : (remOf ops (listed.setIfInBounds i true)).length = fuel := by
        rw [hrem']; rw [hrem] at hlen; simp at hlen ⊢; omega
      have hs' : (listed.setIfInBounds i true).size = ops.size := by simpa using hs
      have hc' : Closed ops (listed.setIfInBounds i true) := by
        intro k hk j hj
        by_cases hik : i = k
        · subst hik; exact getD_set_true (ready_waits hi hj)
        · rw [getD_set_ne false hik] at hk; exact getD_set_true (hc k hk j hj)
      have hunl : ∀ j ∈ pre ++ post, j < ops.size ∧ listed.getD j false = false := fun j hj => by
        have : j ∈ remOf ops listed := by
          rw [hrem]; rcases List.mem_append.1 hj with h | h
          · exact List.mem_append_left _ h
          · exact List.mem_append_right _ (List.mem_cons_of_mem _ h)
        obtain ⟨h1, h2⟩ := mem_remOf.1 this
        exact ⟨h1, by rw [← listed_eq (by omega)]; exact h2⟩
      have hnw : ∀ j ∈ pre ++ post, waits ops i j = false := fun j hj => by
        cases hw : waits ops i j with
        | false => rfl
        | true =>
          have := ready_waits hi hw
          rw [(hunl j hj).2] at this; cases this
      have hpp : ∀ j ∈ pre, ∀ oj, ops[j]? = some oj → ((rob i = true → oi.apart ops oj = true) ∧ (rob j = true → oj.apart ops oi = true)) := fun j hj oj hoj => by
        have hh := hp i hilt j (hpre j hj)
        unfold txtPair at hh
        simp only [hoi, hoj, hnw j (List.mem_append_left _ hj), Bool.false_or, Bool.and_eq_true, Bool.or_eq_true, Bool.not_eq_true'] at hh
        refine ⟨fun hr => ?_, fun hr => ?_⟩
        · rcases hh.1.1 with h0 | h0
          · rw [hr] at h0; cases h0
          · exact h0
        · rcases hh.1.2 with h0 | h0
          · rw [hr] at h0; cases h0
          · exact h0
      rw [hrem] at h hS
      cases hri : rob i with
      | true =>
        have hSw : S w := hS i (by simp) hri
        have hndp : ∀ j ∈ pre, rob j = false → need j = true := fun j hj hrj => by
          refine hnd j (hunl j (List.mem_append_left _ hj)).1 hrj i hilt hri ?_
          cases hw : waits ops j i with
          | false => rfl
          | true =>
            obtain ⟨o, ho, e, he, hb, hon⟩ := waits_spec hw
            have := hbk j o ho e he hb
            have := hpre j hj
            omega
        obtain ⟨v, hv, hrest⟩ := wpTx_pull hoi hri hsel pre post a w hSw (fun j hj oj hoj => (hpp j hj oj hoj).1 hri) hndp h
        refine hv.run hoi hSw (ih _ _ _ hs' hc' hlen' ?_ (by rw [hrem']; exact hrest))
        exact fun _ _ _ => hSw
      | false =>
        have hrobs : ∀ j ∈ pre, rob j = true := fun j hj => by
          cases hrj : rob j with
          | true => rfl
          | false =>
            have := chain_listed hc hp (i - j) i j rfl (hpre j hj) hilt hri hrj (fun k hk => ready_waits hi hk)
            rw [(hunl j (List.mem_append_left _ hj)).2] at this; cases this
        have h2 := wpTx_push hoi hri hsel pre post a w hrobs (fun j hj oj hoj => (hpp j hj oj hoj).2 (hrobs j hj)) h
        refine wpOp_out (wpOp_mono ?_ h2)
        rintro a' w' ⟨hn, hk⟩
        refine ih _ _ _ hs' hc' hlen' ?_ (by rw [hrem']; exact hk)
        intro r hr hrr
        rw [hrem'] at hr
        exact hn (hnd i hilt hri r (hunl r hr).1 hrr (hnw r hr))
/-- THE THEOREM: a drawn region by one walk in the text's order. -/
theorem wp_region_txt {id : Nat} {a : Act} {w : World} (S : World → Prop) (rob need : Nat → Bool) (hm : P.follows .mixedOrders = true) (hok : txtOK ops rob need = true)
    (hS : S w.drew) (h : wpTx P ops S rob need (Q .normal) (List.range ops.size) a w.drew) : (Code.region id ops true).wp P Q a w := by
  refine wp_region_any hm ?_
  have hrem : remOf ops (Array.replicate ops.size false) = List.range ops.size := by
    unfold remOf
    refine List.filter_eq_self.2 fun i hi => ?_
    have := List.mem_range.1 hi
    simp [this]
  refine wpAny_of_tx hok ops.size (Array.replicate ops.size false) a _ (by simp) ?_ (by rw [hrem]; simp) (fun _ _ _ => hS) (by rw [hrem]; exact h)
  intro i hi
  rw [getD_replicate_f] at hi
  cases hi
/-- The same walk over the operations themselves, each with its two marks: it reads; S is owed behind it. -/
def wpTl (P : Program) (ops : Array Oper) (S : World → Prop) (R : Act → World → Prop) : List (Oper × Bool × Bool) → Act → World → Prop
  | [], a, w => R a w
  | (o, true, _) :: l, a, w => ∃ v, YldS P ops S o v a ∧ wpTl P ops S R l (a.put o.dst v) w
  | (o, false, n) :: l, a, w => if Region.wanted o (yielded ops a.tmps) then o.wp P a w (fun a' w' => (n = true → S w') ∧ wpTl P ops S R l a' w') NoOut else (n = true → S w) ∧ wpTl P ops S R l (a.put o.dst undef) w
theorem wpTx_of_tl (rob need : Nat → Bool) : ∀ (l : List (Oper × Bool × Bool)) (k : Nat) (a : Act) (w : World), (∀ j x, l[j]? = some x → ops[k + j]? = some x.1 ∧ rob (k + j) = x.2.1 ∧ need (k + j) = x.2.2) →
    wpTl P ops S R l a w → wpTx P ops S rob need R (List.range' k l.length) a w
  | [], k, a, w, _, h => h
  | (o, r, n) :: l, k, a, w, hl, h => by
    obtain ⟨h1, h2, h3⟩ := hl 0 (o, r, n) rfl
    simp only [Nat.add_zero] at h1 h2 h3
    have ih := fun a' w' => wpTx_of_tl rob need l (k + 1) a' w' (fun j x hj => by have := hl (j + 1) x (by simpa using hj); simpa [Nat.add_assoc, Nat.add_comm 1 j] using this)
    simp only [List.length_cons, List.range'_succ]
    refine ⟨o, h1, ?_⟩
    rw [h2]
    cases r with
    | true =>
      obtain ⟨v, hv, hk⟩ := h
      exact ⟨v, hv, ih _ _ hk⟩
    | false =>
      simp only [Bool.false_eq_true, if_false]
      unfold wpOp
      simp only [h1, h3]
      simp only [wpTl] at h
      split
      · rename_i hw
        rw [if_pos hw] at h
        exact .inl (Oper.wp_mono (fun a' w' hh => ⟨hh.1, ih _ _ hh.2⟩) h)
      · rename_i hw
        rw [if_neg hw] at h
        exact ⟨h.1, ih _ _ h.2⟩
/-- The marks as a list: 0: it reads; 1: it acts, S is owed; 2: it acts, S is not owed. -/
def markOf (f : List Nat) (i : Nat) : Nat := f.getD i 0
def robOf (f : List Nat) (i : Nat) : Bool := markOf f i == 0
def needOf (f : List Nat) (i : Nat) : Bool := markOf f i == 1
def marked (f : List Nat) : List Oper → List (Oper × Bool × Bool)
  | [] => []
  | o :: l => (o, f.headD 0 == 0, f.headD 0 == 1) :: marked f.tail l
theorem marked_get : ∀ (f : List Nat) (l : List Oper) (j : Nat) (x : Oper × Bool × Bool), (marked f l)[j]? = some x → l[j]? = some x.1 ∧ robOf f j = x.2.1 ∧ needOf f j = x.2.2
  | f, [], j, x, h => by simp [marked] at h
  | f, o :: l, 0, x, h => by
    simp only [marked, List.getElem?_cons_zero, Option.some.injEq] at h
    subst h
    refine ⟨rfl, ?_, ?_⟩ <;> cases f <;> rfl
  | f, o :: l, j + 1, x, h => by
    simp only [marked, List.getElem?_cons_succ] at h
    obtain ⟨h1, h2, h3⟩ := marked_get f.tail l j x h
    refine ⟨by simpa using h1, ?_, ?_⟩
    · rw [← h2]; cases f <;> simp [robOf, markOf]
    · rw [← h3]; cases f <;> simp [needOf, markOf]
theorem marked_len : ∀ (f : List Nat) (l : List Oper), (marked f l).length = l.length
  | _, [] => rfl
  | f, o :: l => by simp [marked, marked_len f.tail l]
theorem wp_region_tl {id : Nat} {a : Act} {w : World} {l : List Oper} (S : World → Prop) (f : List Nat) (hm : P.follows .mixedOrders = true) (hok : txtOK l.toArray (robOf f) (needOf f) = true)
    (hS : S w.drew) (h : wpTl P l.toArray S (Q .normal) (marked f l) a w.drew) : (Code.region id l.toArray true).wp P Q a w := by
  refine wp_region_txt S (robOf f) (needOf f) hm hok hS ?_
  have h2 := wpTx_of_tl (ops := l.toArray) (robOf f) (needOf f) (marked f l) 0 a w.drew (fun j x hj => by simpa using marked_get f l j x hj) h
  rw [marked_len] at h2
  simpa [List.range_eq_range'] using h2
variable {o : Oper} {n : Bool} {l : List (Oper × Bool × Bool)} {a : Act} {w : World}
theorem tl_act (hg : Region.wanted o (yielded ops a.tmps) = true) (h : ∀ K : Act → World → Prop, (∀ a' w', (n = true → S w') → wpTl P ops S R l a' w' → K a' w') → o.wp P a w K NoOut) : wpTl P ops S R ((o, false, n) :: l) a w := by
  simp only [wpTl, hg, if_true]
  exact h _ fun a' w' h1 h2 => ⟨h1, h2⟩
theorem tl_act_no (hg : Region.wanted o (yielded ops a.tmps) = false) (hS : n = true → S w) (h : wpTl P ops S R l (a.put o.dst undef) w) : wpTl P ops S R ((o, false, n) :: l) a w := by
  simp only [wpTl, hg, Bool.false_eq_true, if_false]
  exact ⟨hS, h⟩
end
end Go.Proofs.YtpmnfhifmmfglacDoor

namespace Go.Proofs.YtpmnfhifmmfglacDoor
open Go
def andI (k : IntKind) (m n : Int) : Int := k.wrap (BitVec.ofInt k.bits m &&& BitVec.ofInt k.bits n).toNat
def orI (k : IntKind) (m n : Int) : Int := k.wrap (BitVec.ofInt k.bits m ||| BitVec.ofInt k.bits n).toNat
def shlI (k : IntKind) (m n : Int) : Int := k.wrap (m * 2 ^ (min n.toNat k.bits))
def shrI (k : IntKind) (m n : Int) : Int := m.fdiv (2 ^ (min n.toNat k.bits))
def idx {α : Type} (xs : List α) (i : Int) : Option α := if 0 ≤ i then xs[i.toNat]? else none
def sli {α : Type} (xs : List α) (lo hi : Int) : Option (List α) := if 0 ≤ lo ∧ lo ≤ hi ∧ hi ≤ xs.length then some ((xs.take hi.toNat).drop lo.toNat) else none
def setL {α : Type} (xs : List α) (i : Int) (x : α) : Option (List α) := if 0 ≤ i ∧ i < xs.length then some (xs.set i.toNat x) else none
def app {α : Type} (b : Nat) (xs ys : List α) : Option (List α) := if (xs.length + ys.length) * b ≤ 140737488355328 then some (xs ++ ys) else none
def mk {α : Type} (b : Nat) (n : Int) (z : α) : Option (List α) := if 0 ≤ n ∧ n * b ≤ 281474976710656 then some (List.replicate n.toNat z) else none
theorem obind {α β : Type} {e : Option α} {f : α → Option β} {r : β} (h : e.bind f = some r) : ∃ x, e = some x ∧ f x = some r := by
  cases e with
  | none => cases h
  | some x => exact ⟨x, rfl, h⟩
theorem olet {α β : Type} {e : α} {f : α → Option β} {r : β} (h : (some e).bind f = some r) : ∃ x, e = x ∧ f x = some r := ⟨e, rfl, h⟩
theorem ctrue {β : Type} {b : Bool} {x y r : β} (hb : b = true) (h : cond b x y = r) : x = r := by subst hb; exact h
theorem cfalse {β : Type} {b : Bool} {x y r : β} (hb : b = false) (h : cond b x y = r) : y = r := by subst hb; exact h
theorem idx_spec {α : Type} {xs : List α} {i : Int} {x : α} (h : idx xs i = some x) : 0 ≤ i ∧ i.toNat < xs.length ∧ xs[i.toNat]? = some x := by
  unfold idx at h
  split at h
  · rename_i h0; exact ⟨h0, (List.getElem?_eq_some_iff.1 h).1, h⟩
  · cases h
def bs (l : List UInt8) : ByteArray := ⟨l.toArray⟩
def nz (n : Int) : Option Unit := if n = 0 then none else some ()
def nn (n : Int) : Option Unit := if 0 ≤ n then some () else none
def inr (i : Int) (n : Nat) : Option Unit := if 0 ≤ i ∧ i < n then some () else none
theorem nz_spec {n : Int} {u : Unit} (h : nz n = some u) : n ≠ 0 := by unfold nz at h; split at h; cases h; assumption
theorem nn_spec {n : Int} {u : Unit} (h : nn n = some u) : 0 ≤ n := by unfold nn at h; split at h; assumption; cases h
section
variable {α : Type} {xs ys zs : List α} {n : Int} {b : Nat} {z el : α}
theorem sli_spec {p q : Int} (h : sli xs p q = some ys) : 0 ≤ p ∧ p ≤ q ∧ q ≤ xs.length ∧ ys = (xs.take q.toNat).drop p.toNat := by
  unfold sli at h
  split at h
  · rename_i hh; exact ⟨hh.1, hh.2.1, hh.2.2, (Option.some.inj h).symm⟩
  · cases h
theorem app_spec {b : Nat} {zs : List α} (h : app b xs ys = some zs) : zs = xs ++ ys ∧ (xs.length + ys.length) * b ≤ 140737488355328 := by
  unfold app at h
  split at h
  · rename_i h0; exact ⟨(Option.some.inj h).symm, h0⟩
  · cases h
theorem mk_spec {b : Nat} {z : α} (h : mk b n z = some ys) : 0 ≤ n ∧ n * b ≤ 281474976710656 ∧ ys = List.replicate n.toNat z := by
  unfold mk at h
  split at h
  · rename_i h0; exact ⟨h0.1, h0.2, (Option.some.inj h).symm⟩
  · cases h
theorem setL_spec {el : α} (h : setL xs n el = some ys) : 0 ≤ n ∧ n.toNat < xs.length ∧ ys = xs.set n.toNat el := by
  unfold setL at h
  split at h
  · rename_i h0; exact ⟨h0.1, by omega, (Option.some.inj h).symm⟩
  · cases h
end
def sameL {α : Type} (xs ys : List α) : Option Unit := if xs.length = ys.length then some () else none
theorem sameL_spec {α : Type} {xs ys : List α} {u : Unit} (h : sameL xs ys = some u) : xs.length = ys.length := by unfold sameL at h; split at h; assumption; cases h
def mget : List (List UInt8 × Int) → List UInt8 → Option Int
  | [], _ => none
  | (k, v) :: m, s => if k = s then some v else mget m s
def mput (m : List (List UInt8 × Int)) (s : List UInt8) (v : Int) : Option (List (List UInt8 × Int)) := if m.length < 1099511627776 ∧ s.length ≤ 281474976710656 ∧ -9223372036854775808 ≤ v ∧ v ≤ 9223372036854775807 then some ((s, v) :: m) else none
def mlook (m : List (List UInt8 × Int)) (s : List UInt8) : Option (Int × Bool) := if s.length ≤ 281474976710656 then some ((mget m s).getD 0, (mget m s).isSome) else none
theorem mput_spec {m m' : List (List UInt8 × Int)} {s : List UInt8} {v : Int} (h : mput m s v = some m') : m' = (s, v) :: m ∧ m.length < 1099511627776 ∧ s.length ≤ 281474976710656 ∧ -9223372036854775808 ≤ v ∧ v ≤ 9223372036854775807 := by
  unfold mput at h
  split at h
  · rename_i h0; exact ⟨(Option.some.inj h).symm, h0⟩
  · cases h
theorem mlook_spec {m : List (List UInt8 × Int)} {s : List UInt8} {r : Int × Bool} (h : mlook m s = some r) : r = ((mget m s).getD 0, (mget m s).isSome) ∧ s.length ≤ 281474976710656 := by
  unfold mlook at h
  split at h
  · rename_i h0; exact ⟨(Option.some.inj h).symm, h0⟩
  · cases h
end Go.Proofs.YtpmnfhifmmfglacDoor

namespace Go.Proofs.YtpmnfhifmmfglacDoor
open Go.RowKit
theorem nbeq {d s : Nat} (h : d ≠ s) : Nat.beq d s = false := by
  cases hb : Nat.beq d s with
  | true => exact absurd (Nat.eq_of_beq_eq_true hb) h
  | false => rfl
def kget : List (Nat × Value) → Nat → Option Value
  | [], _ => none
  | (i, v) :: l, j => bif Nat.beq i j then some v else kget l j
structure Kd (D : List Deferred) (a : Act) (N : Nat) (l : List (Nat × Value)) : Prop where
  defs : a.defers = D
  size : a.tmps.size = N
  get : ∀ s v, kget l s = some v → a.tmps.getD s undef = v
abbrev Kn (a : Act) (N : Nat) (l : List (Nat × Value)) : Prop := Kd [] a N l
def kput (d : Option Nat) (v : Value) (l : List (Nat × Value)) : List (Nat × Value) :=
  match d with
  | some d => (d, v) :: l
  | none => l
def dstOK (d : Option Nat) (N : Nat) : Bool :=
  match d with
  | some d => Nat.blt d N
  | none => true
def evo (l : List (Nat × Value)) : Operand → Option Value
  | .tmp t => kget l t
  | .const v => some v
  | .global g => some (.pointer (some ⟨g, 0, none⟩))
  | .func f => some (.func (.func f) #[] #[])
section
variable {D : List Deferred} {a : Act} {N : Nat} {l l' : List (Nat × Value)} {d : Option Nat} {v : Value}
theorem Kd.put (K : Kd D a N l) (hd : dstOK d N = true) (v : Value) : Kd D (a.put d v) N (kput d v l) := by
  cases d with
  | none => exact K
  | some d =>
    have hlt : d < N := by simpa [dstOK, Nat.blt_eq] using hd
    refine ⟨K.defs, by simp [Act.put, K.size], fun s u hs => ?_⟩
    simp only [kput, kget] at hs
    by_cases h : d = s
    · subst h
      simp at hs
      subst hs
      simp [Act.put, K.size, hlt]
    · have h0 := nbeq h
      rw [h0] at hs
      have := K.get s u hs
      simp only [Act.put]
      rw [← this]
      simp [h]
theorem Kd.ev (K : Kd D a N l) {x : Operand} {v : Value} (h : evo l x = some v) : a.eval x = v := by
  cases x with
  | tmp t => exact K.get t v h
  | const u => exact Option.some.inj h
  | global g => exact Option.some.inj h
  | func f => exact Option.some.inj h
theorem Kd.sub (K : Kd D a N l) (h : ∀ s v, kget l' s = some v → kget l s = some v) : Kd D a N l' := ⟨K.defs, K.size, fun s v hs => K.get s v (h s v hs)⟩
def kpick (l : List (Nat × Value)) : List Nat → List (Nat × Value)
  | [] => []
  | s :: ss => match kget l s with
    | some v => (s, v) :: kpick l ss
    | none => kpick l ss
theorem kpick_get (l : List (Nat × Value)) : ∀ ss s v, kget (kpick l ss) s = some v → kget l s = some v
  | [], s, v, h => by simp [kpick, kget] at h
  | t :: ss, s, v, h => by
    unfold kpick at h
    split at h
    · rename_i u hu
      simp only [kget] at h
      by_cases hts : t = s
      · subst hts; simp at h; rw [hu, h]
      · have h0 := nbeq hts
        rw [h0] at h
        exact kpick_get l ss s v h
    · exact kpick_get l ss s v h
theorem Kd.pick (K : Kd D a N l) (ss : List Nat) : Kd D a N (kpick l ss) := K.sub (kpick_get l ss)
/-- At the head of a function. -/
def kargs : Nat → List Value → List (Nat × Value)
  | _, [] => []
  | i, v :: vs => (i, v) :: kargs (i + 1) vs
theorem kargs_get : ∀ (vs : List Value) (i s : Nat) (v : Value), kget (kargs i vs) s = some v → i ≤ s ∧ vs[s - i]? = some v
  | [], _, _, _, h => by simp [kargs, kget] at h
  | u :: vs, i, s, v, h => by
    simp only [kargs, kget] at h
    by_cases his : i = s
    · subst his; simp at h; simp [h]
    · have h0 := nbeq his
      rw [h0] at h
      obtain ⟨h1, h2⟩ := kargs_get vs (i + 1) s v h
      refine ⟨by omega, ?_⟩
      obtain ⟨m, rfl⟩ : ∃ m, s = i + 1 + m := ⟨s - (i + 1), by omega⟩
      rw [show i + 1 + m - i = m + 1 by omega]
      rw [show i + 1 + m - (i + 1) = m by omega] at h2
      simpa using h2
theorem Kd.start (args : Array Value) (N : Nat) (h : Nat.ble args.size N = true) :
    Kn { tmps := args ++ Array.replicate (N - args.size) undef, defers := [] } N (kargs 0 args.toList) := by
  have h' : args.size ≤ N := by simpa using h
  refine ⟨rfl, by simp; omega, fun s v hs => ?_⟩
  obtain ⟨_, h2⟩ := kargs_get _ _ _ _ hs
  simp only [Nat.sub_zero, Array.getElem?_toList] at h2
  have hlt : s < args.size := (Array.getElem?_eq_some_iff.1 h2).1
  have h3 := (Array.getElem?_eq_some_iff.1 h2).2
  simp [Array.getElem?_append, hlt, h3]
/-- The guards. -/
theorem want_no {o : Oper} {y : Nat → Option Bool} (h : o.guard = none) : Region.wanted o y = true := by simp [Region.wanted, h]
theorem Kd.yes (K : Kd D a N l) {ops : Array Oper} {o : Oper} {j s : Nat} {b : Bool} (h : o.guard = some (j, b)) (hj : (ops[j]?).bind (·.dst) = some s) (hs : kget l s = some (.bool b)) :
    Region.wanted o (yielded ops a.tmps) = true := by
  have := K.get s _ hs
  have h2 : a.tmps[s]? = some (.bool b) := by
    cases hq : a.tmps[s]? with
    | none => simp [hq, undef] at this
    | some v => simp [hq] at this; rw [this]
  simp [Region.wanted, h, yielded, hj, h2]
theorem Kd.no (K : Kd D a N l) {ops : Array Oper} {o : Oper} {j s : Nat} {b c : Bool} (h : o.guard = some (j, b)) (hj : (ops[j]?).bind (·.dst) = some s) (hs : kget l s = some (.bool c)) (hbc : (c == b) = false) :
    Region.wanted o (yielded ops a.tmps) = false := by
  have := K.get s _ hs
  have h2 : a.tmps[s]? = some (.bool c) := by
    cases hq : a.tmps[s]? with
    | none => simp [hq, undef] at this
    | some v => simp [hq] at this; rw [this]
  simp [Region.wanted, h, yielded, hj, h2]
  cases c <;> cases b <;> simp_all
theorem Kd.nou (K : Kd D a N l) {ops : Array Oper} {o : Oper} {j s : Nat} {b : Bool} (h : o.guard = some (j, b)) (hj : (ops[j]?).bind (·.dst) = some s) (hs : kget l s = some undef) :
    Region.wanted o (yielded ops a.tmps) = false := by
  have := K.get s _ hs
  simp [Region.wanted, h, yielded, hj]
  cases hq : a.tmps[s]? with
  | none => simp
  | some v =>
    simp [hq] at this
    subst this
    simp [undef]
end
inductive Ent where
  | blk (g : Nat) (t : TypeId) (cs : List Value)
  | row (e : TypeId) (s : Nat) (A : Option Addr) (n c : Nat) (xs : List Value)
  | bld (g : Nat) (t : TypeId) (A : Option Addr) (n c : Nat)
  | smp (P : Program) (k e : TypeId) (g : Nat) (m : List (List UInt8 × Int))
  | frz (g : Nat) (cs : List Value)
/-- Block g is a map keyed by strings: it holds what m tells. -/
def SMap (P : Program) (k e : TypeId) (w : World) (g : Nat) (m : List (List UInt8 × Int)) : Prop :=
  ∃ D : DataW Unit, w.ownsMap P k (plainElem P e) g m.length D ∧ ∀ s : List UInt8, Maps.has D (.string s) = (mget m s).isSome ∧ ∀ z, D.atKey (.string s) z = (match mget m s with | some v => .lit (.int .i64 v) | none => z)
theorem SMap.lt {P : Program} {k e : TypeId} {w : World} {g : Nat} {m : List (List UInt8 × Int)} (h : SMap P k e w g m) : g < w.heap.size := by
  obtain ⟨D, h, _⟩ := h; exact h.lt
theorem SMap.keep {P : Program} {k e : TypeId} {w w' : World} {g : Nat} {m : List (List UInt8 × Int)} (h : SMap P k e w g m) (hk : w'.heap[g]? = w.heap[g]?) : SMap P k e w' g m := by
  obtain ⟨D, ⟨es, clock, hb, r⟩, h2⟩ := h
  exact ⟨D, ⟨es, clock, hk.trans hb, r⟩, h2⟩
def Ent.holds (w : World) : Ent → Prop
  | .blk g t cs => Blk w g t cs.toArray
  | .row e s A n c xs => w.ownsRow 0 e s (.slice A n c) n xs
  | .bld g t A n c => ∃ p, (p = none ∨ p = some ⟨g, 0, none⟩) ∧ Blk w g t #[.pointer p, .slice A n c]
  | .smp P k e g m => SMap P k e w g m
  | .frz g cs => ∃ arr t q, w.heap[g]? = some (.cells arr t q) ∧ ∀ (j : Nat) (u : Value), cs[j]? = some u → arr[j]? = some u
def Ent.foot : Ent → Option Nat
  | .blk g _ _ => some g
  | .row _ _ A _ _ _ => A.map (·.block)
  | .bld g _ _ _ _ => some g
  | .smp _ _ _ g _ => some g
  | .frz g _ => some g
/-- Is it made of cells? -/
def Ent.cellish : Ent → Bool
  | .smp .. => false
  | _ => true
def objC : Obj → Bool
  | .cells .. => true
  | _ => false
/-- Whatever is no cells lies as it lay. -/
def KeepO (W w : World) : Prop := ∀ (k : Nat) (o : Obj), W.heap[k]? = some o → objC o = false → w.heap[k]? = some o
theorem KeepO.refl (W : World) : KeepO W W := fun _ _ h _ => h
theorem KeepO.trans {A B C : World} (h : KeepO A B) (k : KeepO B C) : KeepO A C := fun i o hi ho => k i o (h i o hi ho) ho
theorem KeepO.below {W w : World} (h : Below W.heap.size W w) : KeepO W w := fun k o hk _ => (h.block k (Array.getElem?_eq_some_iff.1 hk).1).trans hk
theorem KeepO.but {W w : World} {g : Option Nat} (h : ∀ k, k < W.heap.size → g ≠ some k → w.heap[k]? = W.heap[k]?) (hg : ∀ k o, g = some k → W.heap[k]? = some o → objC o = true) : KeepO W w := fun k o hk ho => by
  by_cases e : g = some k
  · rw [hg k o e hk] at ho; cases ho
  · exact (h k (Array.getElem?_eq_some_iff.1 hk).1 e).trans hk
structure Mem (base : Nat) (W w : World) (L : List Ent) : Prop where
  low : Below base W w
  oth : KeepO W w
  bs : base ≤ W.heap.size
  has : ∀ (i : Nat) (e : Ent), L[i]? = some e → Ent.holds w e
  up : ∀ (i : Nat) (e : Ent) (g : Nat), L[i]? = some e → e.foot = some g → base ≤ g
  one : ∀ (i j : Nat) (e e' : Ent) (g : Nat), L[i]? = some e → L[j]? = some e' → e.foot = some g → e'.foot = some g → i = j
section
variable {base B : Nat} {W w w' : World} {L L' : List Ent} {e : Ent} {g : Nat} {t : TypeId} {cs : List Value}
theorem Ent.lt (h : Ent.holds w e) (hf : Ent.foot e = some g) : g < w.heap.size := by
  cases e with
  | blk g' t cs => simp [Ent.foot] at hf; subst hf; exact Blk.lt h
  | row e s A n c xs =>
    cases A with
    | none => simp [Ent.foot] at hf
    | some ad =>
      simp [Ent.foot] at hf
      exact (World.ownsRow.lt h g (by simp [Value.ownBlock, hf])).2
  | bld g' t A n c =>
    obtain ⟨p, _, h⟩ := h
    simp [Ent.foot] at hf; subst hf; exact Blk.lt h
  | smp P k e g' m => simp [Ent.foot] at hf; subst hf; exact SMap.lt h
  | frz g' cs =>
    obtain ⟨arr, t, q, h, _⟩ := h
    simp [Ent.foot] at hf; subst hf; exact lt_of_block h
theorem Ent.isC (h : Ent.holds w e) (hc : e.cellish = true) (hf : Ent.foot e = some g) {o : Obj} (ho : w.heap[g]? = some o) : objC o = true := by
  cases e with
  | blk g' t cs =>
    simp [Ent.foot] at hf; subst hf
    have h' : w.heap[g']? = some (.cells cs.toArray t) := h
    rw [h'] at ho; cases ho; rfl
  | row e s A n c xs =>
    obtain ⟨h1, h2⟩ := h
    rcases h2 with ⟨hA, _⟩ | ⟨g', cap, cur, hv, hg, hh, r⟩
    · cases hA; simp [Ent.foot] at hf
    · injection hv with e1 _ _
      simp [Ent.foot, e1] at hf
      subst hf
      rw [hh] at ho; cases ho; rfl
  | bld g' t A n c =>
    obtain ⟨p, _, h⟩ := h
    simp [Ent.foot] at hf; subst hf
    have h' : w.heap[g']? = some (.cells #[.pointer p, .slice A n c] t) := h
    rw [h'] at ho; cases ho; rfl
  | smp P k e g' m => cases hc
  | frz g' cs =>
    obtain ⟨arr, t, q, h, _⟩ := h
    simp [Ent.foot] at hf; subst hf
    rw [h] at ho; cases ho; rfl
theorem Ent.keep (h : Ent.holds w e) (hk : ∀ g, e.foot = some g → w'.heap[g]? = w.heap[g]?) : Ent.holds w' e := by
  cases e with
  | blk g' t cs => exact (hk g' rfl).trans h
  | row e s A n c xs =>
    obtain ⟨h1, h2⟩ := h
    refine ⟨h1, ?_⟩
    rcases h2 with h2 | ⟨g', cap, cur, hv, hg, hh, r⟩
    · exact .inl h2
    · refine .inr ⟨g', cap, cur, hv, hg, ?_, r⟩
      injection hv with e1 _ _
      rw [hk g' (by simp [Ent.foot, e1])]
      exact hh
  | bld g' t A n c =>
    obtain ⟨p, h1, h⟩ := h
    exact ⟨p, h1, (hk g' rfl).trans h⟩
  | smp P k e g' m => exact SMap.keep h (hk g' rfl)
  | frz g' cs =>
    obtain ⟨arr, t, q, h, h2⟩ := h
    exact ⟨arr, t, q, (hk g' rfl).trans h, h2⟩
theorem Mem.start (w : World) : Mem w.heap.size w w [] := ⟨Below.refl _ _, KeepO.refl _, Nat.le_refl _, fun _ _ h => by simp at h, fun _ _ _ h => by simp at h, fun _ _ _ _ _ h => by simp at h⟩
theorem Mem.sz (M : Mem base W w L) : base ≤ w.heap.size := Nat.le_trans M.bs M.low.size
theorem Mem.drew (M : Mem base W w L) : Mem base W w.drew L := ⟨M.low.drew, M.oth, M.bs, fun i e h => Ent.keep (M.has i e h) fun _ _ => rfl, M.up, M.one⟩
theorem Mem.feet (M : Mem base W w L) : ∀ (i : Nat) (e : Ent) (g : Nat), L[i]? = some e → e.foot = some g → g < w.heap.size := fun i _ _ h hf => Ent.lt (M.has i _ h) hf
/-- Memory elsewhere has been turned. -/
theorem Mem.far (M : Mem base W w L) (hb : Below base w w') (ho : KeepO w w') (hk : ∀ (i : Nat) (e : Ent) (g : Nat), L[i]? = some e → e.foot = some g → w'.heap[g]? = w.heap[g]?) : Mem base W w' L :=
  ⟨M.low.trans hb, M.oth.trans ho, M.bs, fun i e h => Ent.keep (M.has i e h) fun g hg => hk i e g h hg, M.up, M.one⟩
theorem Mem.below (M : Mem base W w L) (hb : Below w.heap.size w w') : Mem base W w' L :=
  M.far (hb.mono M.sz) (KeepO.below hb) fun i e g h hg => hb.block g (M.feet i e g h hg)
/-- One more thing. -/
theorem Mem.cons (M : Mem base W w L) (h : Ent.holds w e) (hf : ∀ g, e.foot = some g → base ≤ g ∧ ∀ (i : Nat) (e' : Ent), L[i]? = some e' → e'.foot ≠ some g) : Mem base W w (e :: L) := by
  refine ⟨M.low, M.oth, M.bs, ?_, ?_, ?_⟩
  · rintro (_ | i) e' h'
    · simp at h'; subst h'; exact h
    · exact M.has i e' (by simpa using h')
  · rintro (_ | i) e' g h' hg
    · simp at h'; subst h'; exact (hf g hg).1
    · exact M.up i e' g (by simpa using h') hg
  · rintro (_ | i) (_ | j) e1 e2 g h1 h2 g1 g2
    · rfl
    · simp at h1 h2; subst h1; exact absurd g2 ((hf g g1).2 j e2 h2)
    · simp at h1 h2; subst h2; exact absurd g1 ((hf g g2).2 i e1 h1)
    · simp at h1 h2; rw [M.one i j e1 e2 g h1 h2 g1 g2]
/-- Behind a call: what it made is one's own. -/
theorem Mem.call (M : Mem base W w L) (M' : Mem w.heap.size w w' L') : Mem base W w' (L' ++ L) := by
  have M1 := M.below M'.low
  refine ⟨M1.low, M1.oth, M.bs, ?_, ?_, ?_⟩
  · intro i e h
    rw [List.getElem?_append] at h
    split at h
    · exact M'.has i e h
    · exact M1.has _ e h
  · intro i e g h hg
    rw [List.getElem?_append] at h
    split at h
    · have := M'.up i e g h hg; have := M.sz; omega
    · exact M1.up _ e g h hg
  · intro i j e e' g h h' hg hg'
    rw [List.getElem?_append] at h h'
    split at h <;> split at h'
    · exact M'.one i j e e' g h h' hg hg'
    · have := M'.up i e g h hg; have := M.feet _ e' g h' hg'; omega
    · have := M'.up j e' g h' hg'; have := M.feet _ e g h hg; omega
    · have := M1.one _ _ e e' g h h' hg hg'; omega
theorem Mem.new (M : Mem base W w L) (t : TypeId) (cs : List Value) : Mem base W (w.alloc (.cells cs.toArray t)) (.blk w.heap.size t cs :: L) := by
  refine (M.below ((Below.refl _ _).alloc (Nat.le_refl _) _)).cons (Blk.new w t cs.toArray) fun g hg => ?_
  simp [Ent.foot] at hg
  subst hg
  exact ⟨M.sz, fun i e' h he => by have := M.feet i e' _ h he; omega⟩
theorem Mem.tail (M : Mem base W w (e :: L)) : Mem base W w L :=
  ⟨M.low, M.oth, M.bs, fun i e h => M.has (i + 1) e (by simpa using h), fun i e g h => M.up (i + 1) e g (by simpa using h), fun i j e e' g h h' k k' => by have := M.one (i + 1) (j + 1) e e' g (by simpa using h) (by simpa using h') k k'; omega⟩
def nilEnt : Ent := .row 0 0 none 0 0 []
def pickE (L : List Ent) (is : List Nat) : List Ent := is.map fun i => L.getD i nilEnt
theorem nilEnt_holds (w : World) : Ent.holds w nilEnt := ⟨by simp, .inl ⟨rfl, rfl⟩⟩
theorem Mem.pick (M : Mem base W w L) (is : List Nat) (h : is.Nodup) : Mem base W w (pickE L is) := by
  have key : ∀ (i : Nat) (e : Ent), (pickE L is)[i]? = some e → ∃ j, is[i]? = some j ∧ (L[j]? = some e ∨ (L[j]? = none ∧ e = nilEnt)) := by
    intro i e he
    simp only [pickE, List.getElem?_map, Option.map_eq_some_iff] at he
    obtain ⟨j, hj, rfl⟩ := he
    refine ⟨j, hj, ?_⟩
    cases hq : L[j]? <;> simp [hq]
  refine ⟨M.low, M.oth, M.bs, ?_, ?_, ?_⟩
  · intro i e he
    obtain ⟨j, _, h | ⟨_, rfl⟩⟩ := key i e he
    · exact M.has j e h
    · exact nilEnt_holds w
  · intro i e g he hg
    obtain ⟨j, _, h | ⟨_, rfl⟩⟩ := key i e he
    · exact M.up j e g h hg
    · simp [nilEnt, Ent.foot] at hg
  · intro i i' e e' g he he' hg hg'
    obtain ⟨j, hj, h1 | ⟨_, rfl⟩⟩ := key i e he
    · obtain ⟨j', hj', h2 | ⟨_, rfl⟩⟩ := key i' e' he'
      · have := M.one j j' e e' g h1 h2 hg hg'
        subst this
        exact (List.getElem?_inj (List.getElem?_eq_some_iff.1 hj).1 h).1 (hj.trans hj'.symm)
      · simp [nilEnt, Ent.foot] at hg'
    · simp [nilEnt, Ent.foot] at hg
/-- One thing of it has been turned, and nothing else. -/
theorem Mem.turn0 (M : Mem base W w L) (i : Nat) {e e' : Ent} (hi : L[i]? = some e) (hb : Below base w w') (hh : Ent.holds w' e')
    (hk : ∀ k, k < w.heap.size → e.foot ≠ some k → w'.heap[k]? = w.heap[k]?) (hf : ∀ g, e'.foot = some g → e.foot = some g ∨ w.heap.size ≤ g) (ho : KeepO W w') : Mem base W w' (L.set i e') := by
  have hlt : i < L.length := (List.getElem?_eq_some_iff.1 hi).1
  refine ⟨M.low.trans hb, ho, M.bs, ?_, ?_, ?_⟩
  · intro j f h
    rw [List.getElem?_set] at h
    by_cases hij : i = j
    · rw [if_pos hij, if_pos hlt] at h; cases h; exact hh
    · rw [if_neg hij] at h
      refine Ent.keep (M.has j f h) fun g hg => hk g (M.feet j f g h hg) fun he => hij (M.one i j e f g hi h he hg)
  · intro j f g h hg
    rw [List.getElem?_set] at h
    by_cases hij : i = j
    · rw [if_pos hij, if_pos hlt] at h; cases h
      rcases hf g hg with h0 | h0
      · exact M.up i e g hi h0
      · have := M.sz; omega
    · rw [if_neg hij] at h; exact M.up j f g h hg
  · intro j k f f' g h h' hg hg'
    rw [List.getElem?_set] at h h'
    by_cases hij : i = j <;> by_cases hik : i = k
    · omega
    · rw [if_pos hij, if_pos hlt] at h; cases h
      rw [if_neg hik] at h'
      rcases hf g hg with h0 | h0
      · exact absurd (M.one i k e f' g hi h' h0 hg') hik
      · have := M.feet k f' g h' hg'; omega
    · rw [if_neg hij] at h
      rw [if_pos hik, if_pos hlt] at h'; cases h'
      rcases hf g hg' with h0 | h0
      · exact absurd (M.one i j e f g hi h h0 hg) hij
      · have := M.feet j f g h hg; omega
    · rw [if_neg hij] at h
      rw [if_neg hik] at h'
      exact M.one j k f f' g h h' hg hg'
theorem Mem.turn (M : Mem base W w L) (i : Nat) {e e' : Ent} (hi : L[i]? = some e) (hb : Below base w w') (hh : Ent.holds w' e')
    (hk : ∀ k, k < w.heap.size → e.foot ≠ some k → w'.heap[k]? = w.heap[k]?) (hf : ∀ g, e'.foot = some g → e.foot = some g ∨ w.heap.size ≤ g) (hc : e.cellish = true := by rfl) : Mem base W w' (L.set i e') :=
  M.turn0 i hi hb hh hk hf (M.oth.trans (KeepO.but hk fun k o hk' ho => Ent.isC (M.has i e hi) hc hk' ho))
/-- .. of what was made since: of whatever make. -/
theorem Mem.turnS (M : Mem base W w L) (hW : base = W.heap.size) (i : Nat) {e e' : Ent} (hi : L[i]? = some e) (hb : Below base w w') (hh : Ent.holds w' e')
    (hk : ∀ k, k < w.heap.size → e.foot ≠ some k → w'.heap[k]? = w.heap[k]?) (hf : ∀ g, e'.foot = some g → e.foot = some g ∨ w.heap.size ≤ g) : Mem base W w' (L.set i e') :=
  M.turn0 i hi hb hh hk hf fun k o hk1 ho => by
    have h1 := M.oth k o hk1 ho
    have h2 : k < W.heap.size := (Array.getElem?_eq_some_iff.1 hk1).1
    refine (hk k (Array.getElem?_eq_some_iff.1 h1).1 fun hf => ?_).trans h1
    have := M.up i e k hi hf
    omega
theorem Mem.blkAt (M : Mem base W w L) {i : Nat} (h : L[i]? = some (.blk g t cs)) : Blk w g t cs.toArray := M.has i _ h
theorem Mem.cell (M : Mem base W w L) {i : Nat} (h : L[i]? = some (.blk g t cs)) {k : Nat} {v : Value} (hk : cs[k]? = some v) : w.cell? ⟨g, k, none⟩ = some v := by
  rw [(M.blkAt h).cell k]; simpa using hk
theorem Mem.set (M : Mem base W w L) (i : Nat) (h : L[i]? = some (.blk g t cs)) (k : Nat) (v : Value) : Mem base W (w.setCell ⟨g, k, none⟩ v) (L.set i (.blk g t (cs.set k v))) := by
  have hup := M.up i _ g h rfl
  refine M.turn i h ((Below.refl _ _).setCell (by show base ≤ g; exact hup) v) ?_ (fun j _ hj => ?_) (fun g' hg' => .inl hg')
  · exact (M.blkAt h).set_ k v (by simp)
  · exact Below.heap_setCell w _ v j fun e => hj (by simp [Ent.foot, e])
end
end Go.Proofs.YtpmnfhifmmfglacDoor

namespace Go.Proofs.YtpmnfhifmmfglacDoor
open Go.RowKit
section
variable (P : Program)
def scT (t : TypeId) : Bool := (match P.underlying t with | some (.struct _) | some (.array _ _) | none => false | _ => true) && (P.info? t).map (·.size) == some 1
def zeroT (t : TypeId) : Option (List Value) := (P.info? t).bind fun i => i.zero.map (·.cells.toList)
def slT (t e s b : Nat) : Bool := (match P.underlying t with | some (.slice e') => e' == e | _ => false) && (P.info? e).map (fun i => (i.size, i.bytes)) == some (s, b)
def fldT (t : TypeId) (f : Nat) : Option Nat := match P.underlying t with
  | some (.struct fs) => match fs[f]? with
    | some fl => match P.info? fl.type with
      | some i => if i.size = 0 then none else some fl.offset
      | none => none
    | none => none
  | _ => none
end
section
variable {P : Program} {S : World → Prop} {D : List Deferred} {a : Act} {N : Nat} {l : List (Nat × Value)} {o : Oper} {x y c : Operand} {v u : Value} {t e t' : TypeId} {m n : Int} {k k' : IntKind} {b b' : Bool}
theorem scT_spec (h : scT P t = true) (w : World) : (isAgg t).run P w = .ok false w ∧ (sizeOf t).run P w = .ok 1 w := by
  simp only [scT, Bool.and_eq_true, beq_iff_eq] at h
  obtain ⟨h1, h2⟩ := h
  cases hq : P.underlying t with
  | none => simp [hq] at h1
  | some d =>
    have h2' := h2
    simp only [Option.map_eq_some_iff] at h2'
    obtain ⟨i, hi, hs⟩ := h2'
    refine ⟨?_, by simp [sizeOf, typeInfo, hi, hs]⟩
    unfold isAgg
    rw [Sem.run_bind, run_underlying hq w]
    cases d <;> simp_all
theorem slT_spec {s b : Nat} (h : slT P t e s b = true) : P.underlying t = some (.slice e) ∧ ∃ i, P.info? e = some i ∧ i.size = s ∧ i.bytes = b := by
  simp only [slT, Bool.and_eq_true, beq_iff_eq, Option.map_eq_some_iff, Prod.mk.injEq] at h
  obtain ⟨h1, i, h2, h3, h4⟩ := h
  split at h1
  · rename_i e' hq
    simp at h1; subst h1
    exact ⟨hq, i, h2, h3, h4⟩
  · cases h1
def Rd (P : Program) (S : World → Prop) (a : Act) (o : Oper) (v : Value) : Prop := ∀ w, S w → (execOp a.eval o).run P w = .ok (.value v) w
theorem rd_move (ho : o.op = .move x) (K : Kd D a N l) (hx : evo l x = some v) : Rd P S a o v := fun w _ => by
  unfold execOp; simp only [ho, K.ev hx]; rfl
theorem rd_assign (ho : o.op = .assign x) (K : Kd D a N l) (hx : evo l x = some v) : Rd P S a o v := fun w _ => by
  unfold execOp; simp only [ho, K.ev hx]; rfl
theorem rd_pickT (ho : o.op = .pick c x y) (K : Kd D a N l) (hc : evo l c = some (.bool true)) (hx : evo l x = some v) : Rd P S a o v := fun w _ => by
  unfold execOp; simp [ho, K.ev hc, K.ev hx, asBool]
theorem rd_pickF (ho : o.op = .pick c x y) (K : Kd D a N l) (hc : evo l c = some (.bool false)) (hy : evo l y = some v) : Rd P S a o v := fun w _ => by
  unfold execOp; simp [ho, K.ev hc, K.ev hy, asBool]
theorem rd_bin {op : BinOp} (ho : o.op = .binOp op t x y t') (K : Kd D a N l) (hx : evo l x = some u) (hy : evo l y = some v) {r : Value} (h : ∀ w, (do eqGuard op t x y u v; binOp op t u v : Sem Value).run P w = .ok r w) : Rd P S a o r := fun w _ => by
  unfold execOp; simp only [ho, K.ev hx, K.ev hy, Sem.run_bind]
  have := h w
  simp only [Sem.run_bind] at this
  rw [this]; rfl
theorem rd_add (ho : o.op = .binOp .add t x y t') (K : Kd D a N l) (hx : evo l x = some (.int k m)) (hy : evo l y = some (.int k n)) : Rd P S a o (.int k (k.wrap (m + n))) :=
  rd_bin ho K hx hy fun w => by simp [eqGuard, binOp, Op.intArith]
theorem rd_sub (ho : o.op = .binOp .sub t x y t') (K : Kd D a N l) (hx : evo l x = some (.int k m)) (hy : evo l y = some (.int k n)) : Rd P S a o (.int k (k.wrap (m - n))) :=
  rd_bin ho K hx hy fun w => by simp [eqGuard, binOp, Op.intArith]
theorem rd_mul (ho : o.op = .binOp .mul t x y t') (K : Kd D a N l) (hx : evo l x = some (.int k m)) (hy : evo l y = some (.int k n)) : Rd P S a o (.int k (k.wrap (m * n))) :=
  rd_bin ho K hx hy fun w => by simp [eqGuard, binOp, Op.intArith]
theorem rd_quo (ho : o.op = .binOp .quo t x y t') (K : Kd D a N l) (hx : evo l x = some (.int k m)) (hy : evo l y = some (.int k n)) (hn : n ≠ 0) : Rd P S a o (.int k (k.wrap (m.tdiv n))) :=
  rd_bin ho K hx hy fun w => by simp [eqGuard, binOp, Op.intDiv, hn]
theorem rd_rem (ho : o.op = .binOp .rem t x y t') (K : Kd D a N l) (hx : evo l x = some (.int k m)) (hy : evo l y = some (.int k n)) (hn : n ≠ 0) : Rd P S a o (.int k (m.tmod n)) :=
  rd_bin ho K hx hy fun w => by simp [eqGuard, binOp, Op.intDiv, hn]
theorem rd_lss (ho : o.op = .binOp .lss t x y t') (K : Kd D a N l) (hx : evo l x = some (.int k m)) (hy : evo l y = some (.int k n)) : Rd P S a o (.bool (decide (m < n))) :=
  rd_bin ho K hx hy fun w => by simp [eqGuard, binOp, Op.intCmp]
theorem rd_leq (ho : o.op = .binOp .leq t x y t') (K : Kd D a N l) (hx : evo l x = some (.int k m)) (hy : evo l y = some (.int k n)) : Rd P S a o (.bool (decide (m ≤ n))) :=
  rd_bin ho K hx hy fun w => by simp [eqGuard, binOp, Op.intCmp]
theorem rd_gtr (ho : o.op = .binOp .gtr t x y t') (K : Kd D a N l) (hx : evo l x = some (.int k m)) (hy : evo l y = some (.int k n)) : Rd P S a o (.bool (decide (n < m))) :=
  rd_bin ho K hx hy fun w => by simp [eqGuard, binOp, Op.intCmp]
theorem rd_geq (ho : o.op = .binOp .geq t x y t') (K : Kd D a N l) (hx : evo l x = some (.int k m)) (hy : evo l y = some (.int k n)) : Rd P S a o (.bool (decide (n ≤ m))) :=
  rd_bin ho K hx hy fun w => by simp [eqGuard, binOp, Op.intCmp]
theorem rd_eql (ho : o.op = .binOp .eql t x y t') (K : Kd D a N l) (hx : evo l x = some (.int k m)) (hy : evo l y = some (.int k n)) : Rd P S a o (.bool (decide (m = n))) :=
  rd_bin ho K hx hy fun w => by simp [eqGuard, binOp, Op.intCmp]; rfl
theorem rd_neq (ho : o.op = .binOp .neq t x y t') (K : Kd D a N l) (hx : evo l x = some (.int k m)) (hy : evo l y = some (.int k n)) : Rd P S a o (.bool (!decide (m = n))) :=
  rd_bin ho K hx hy fun w => by simp [eqGuard, binOp, Op.intCmp]; rfl
theorem rd_and (ho : o.op = .binOp .and t x y t') (K : Kd D a N l) (hx : evo l x = some (.int k m)) (hy : evo l y = some (.int k n)) : Rd P S a o (.int k (andI k m n)) :=
  rd_bin ho K hx hy fun w => by simp [eqGuard, binOp, Op.intBits, andI]
theorem rd_or (ho : o.op = .binOp .or t x y t') (K : Kd D a N l) (hx : evo l x = some (.int k m)) (hy : evo l y = some (.int k n)) : Rd P S a o (.int k (orI k m n)) :=
  rd_bin ho K hx hy fun w => by simp [eqGuard, binOp, Op.intBits, orI]
theorem rd_shl (ho : o.op = .binOp .shl t x y t') (K : Kd D a N l) (hx : evo l x = some (.int k m)) (hy : evo l y = some (.int k' n)) (hn : 0 ≤ n) : Rd P S a o (.int k (shlI k m n)) :=
  rd_bin ho K hx hy fun w => by simp [eqGuard, binOp, Op.shift, show ¬ n < 0 by omega, shlI]
theorem rd_shr (ho : o.op = .binOp .shr t x y t') (K : Kd D a N l) (hx : evo l x = some (.int k m)) (hy : evo l y = some (.int k' n)) (hn : 0 ≤ n) : Rd P S a o (.int k (shrI k m n)) :=
  rd_bin ho K hx hy fun w => by simp [eqGuard, binOp, Op.shift, show ¬ n < 0 by omega, shrI]
theorem rd_not (ho : o.op = .unOp .not t x) (K : Kd D a N l) (hx : evo l x = some (.bool b)) : Rd P S a o (.bool (!b)) := fun w _ => by
  unfold execOp; simp [ho, K.ev hx, Op.unary]
theorem rd_neg (ho : o.op = .unOp .neg t x) (K : Kd D a N l) (hx : evo l x = some (.int k m)) : Rd P S a o (.int k (k.wrap (0 - m))) := fun w _ => by
  unfold execOp; simp [ho, K.ev hx, Op.unary, Op.intArith]
theorem rd_extract {i : Nat} {vs : Array Value} (ho : o.op = .extract x i) (K : Kd D a N l) (hx : evo l x = some (.tuple vs)) (hi : vs[i]? = some v) : Rd P S a o v := fun w _ => by
  unfold execOp; simp [ho, K.ev hx, Instr.extract, hi]
theorem rd_func {fn : Fn} {cap : Array Operand} (ho : o.op = .makeFunc fn #[] cap) (K : Kd D a N l) {vs : List Value} (h : cap.toList.map (evo l) = vs.map some) : Rd P S a o (.func fn #[] vs.toArray) := fun w _ => by
  unfold execOp
  have : cap.map a.eval = vs.toArray := by
    apply Array.ext'
    simp only [Array.toList_map]
    have : ∀ (xs : List Operand) (vs : List Value), xs.map (evo l) = vs.map some → xs.map a.eval = vs := by
      intro xs
      induction xs with
      | nil => intro vs h; cases vs <;> simp_all
      | cons x xs ih =>
        intro vs h
        cases vs with
        | nil => simp at h
        | cons v vs => simp only [List.map_cons, List.cons.injEq] at h ⊢; exact ⟨K.ev h.1, ih vs h.2⟩
    exact this _ _ h
  simp [ho, this, Instr.makeFunc]
theorem rd_nil (ho : o.op = .nilCheck x) (K : Kd D a N l) {ad : Addr} (hx : evo l x = some (.pointer (some ad))) : Rd P S a o (.pointer (some ad)) := fun w _ => by
  unfold execOp; simp [ho, K.ev hx]
theorem rd_len (ho : o.op = .call { callee := .builtin .len, args := #[x], argTypes := #[t] }) (h : ∃ e, P.underlying t = some (.slice e)) (K : Kd D a N l) {A : Option Addr} {n c : Nat} (hx : evo l x = some (.slice A n c)) : Rd P S a o (.int .i64 n) := fun w _ => by
  obtain ⟨e, h⟩ := h
  unfold execOp; simp [ho, resolve, invoke, builtin, K.ev hx, Builtin.len_, run_underlying h, goInt]
theorem rd_lenS (ho : o.op = .call { callee := .builtin .len, args := #[x], argTypes := #[t] }) (h : P.underlying t = some .string) (K : Kd D a N l) {s : ByteArray} (hx : evo l x = some (.string s)) : Rd P S a o (.int .i64 s.size) := fun w _ => by
  unfold execOp; simp [ho, resolve, invoke, builtin, K.ev hx, Builtin.len_, run_underlying h, goInt]
theorem rd_max {ts : Array TypeId} (ho : o.op = .call { callee := .builtin .max, args := #[x, y], argTypes := ts }) (K : Kd D a N l) (hx : evo l x = some (.int k m)) (hy : evo l y = some (.int k' n)) : Rd P S a o (.int k (max m n)) := fun w _ => by
  unfold execOp; simp [ho, resolve, invoke, builtin, K.ev hx, K.ev hy, run_max_int2]; omega
theorem rd_min {ts : Array TypeId} (ho : o.op = .call { callee := .builtin .min, args := #[x, y], argTypes := ts }) (K : Kd D a N l) (hx : evo l x = some (.int k m)) (hy : evo l y = some (.int k' n)) : Rd P S a o (.int k (min m n)) := fun w _ => by
  unfold execOp; simp [ho, resolve, invoke, builtin, K.ev hx, K.ev hy, run_min_int2]; omega
theorem rd_field {f off : Nat} {ad : Addr} (ho : o.op = .fieldAddr t x f) (ht : fldT P t f = some off) (K : Kd D a N l) (hx : evo l x = some (.pointer (some ad))) : Rd P S a o (.pointer (some (ad.add off))) := fun w _ => by
  unfold fldT at ht
  split at ht
  · rename_i fs hu
    split at ht
    · rename_i fl hf
      split at ht
      · rename_i i hi
        split at ht
        · cases ht
        · rename_i hs
          cases ht
          unfold execOp
          simp [ho, K.ev hx, Instr.fieldAt, run_underlying hu, hf, Instr.sureAddr, fieldPlace, sizeOf, typeInfo, hi, hs]
      · cases ht
    · cases ht
  · cases ht
end
end Go.Proofs.YtpmnfhifmmfglacDoor

namespace Go.Proofs.YtpmnfhifmmfglacDoor
open Go.RowKit
structure Cod (α : Type) where
  enc : α → List Value
  size : Nat
  len : ∀ x, (enc x).length = size
  one : ∀ x, ∀ u ∈ enc x, u.oneCell' = true
  pos : 0 < size
def Cod.all {α : Type} (C : Cod α) (xs : List α) : List Value := xs.flatMap C.enc
section
variable {α : Type} {C : Cod α} {w w' W : World} {A : Option Addr} {xs ys : List α}
theorem Cod.all_len (C : Cod α) : ∀ xs : List α, (C.all xs).length = xs.length * C.size
  | [] => by simp [Cod.all]
  | x :: xs => by
    have := Cod.all_len C xs
    simp only [Cod.all, List.flatMap_cons, List.length_append, C.len, List.length_cons, Nat.add_mul, Nat.one_mul] at this ⊢
    omega
theorem Cod.all_get (C : Cod α) : ∀ (xs : List α) (i j : Nat) (x : α) (u : Value), xs[i]? = some x → (C.enc x)[j]? = some u → (C.all xs)[i * C.size + j]? = some u
  | [], i, j, x, u, h, _ => by simp at h
  | y :: xs, 0, j, x, u, h, hu => by
    simp at h; subst h
    have hj : j < (C.enc y).length := (List.getElem?_eq_some_iff.1 hu).1
    simp only [Cod.all, List.flatMap_cons, Nat.zero_mul, Nat.zero_add]
    rw [List.getElem?_append_left hj]; exact hu
  | y :: xs, i + 1, j, x, u, h, hu => by
    have := Cod.all_get C xs i j x u (by simpa using h) hu
    simp only [Cod.all, List.flatMap_cons] at this ⊢
    rw [List.getElem?_append_right (by rw [C.len, Nat.add_mul]; omega), C.len]
    rw [show (i + 1) * C.size + j - C.size = i * C.size + j by rw [Nat.add_mul]; omega]
    exact this
theorem Cod.all_inv (C : Cod α) : ∀ (xs : List α) (k : Nat) (u : Value), (C.all xs)[k]? = some u → ∃ i j x, k = i * C.size + j ∧ xs[i]? = some x ∧ (C.enc x)[j]? = some u
  | [], k, u, h => by simp [Cod.all] at h
  | y :: xs, k, u, h => by
    simp only [Cod.all, List.flatMap_cons, List.getElem?_append] at h
    split at h
    · exact ⟨0, k, y, by simp, by simp, h⟩
    · rename_i hk
      rw [C.len] at h hk
      obtain ⟨i, j, x, h1, h2, h3⟩ := Cod.all_inv C xs (k - C.size) u h
      exact ⟨i + 1, j, x, by rw [Nat.add_mul]; omega, by simpa using h2, h3⟩
theorem Cod.all_one (C : Cod α) (xs : List α) : ∀ u ∈ C.all xs, u.oneCell' = true := fun u hu => by
  obtain ⟨x, _, h⟩ := List.mem_flatMap.1 hu
  exact C.one x u h
theorem Cod.all_append (C : Cod α) (xs ys : List α) : C.all (xs ++ ys) = C.all xs ++ C.all ys := by simp [Cod.all]
theorem Cod.all_set (C : Cod α) (x : α) : ∀ (xs : List α) (i : Nat) (ws : List Value), i < xs.length → ws.length = xs.length * C.size →
    (∀ j, ws[j]? = if i * C.size ≤ j ∧ j < i * C.size + C.size then (C.enc x)[j - i * C.size]? else (C.all xs)[j]?) → ws = C.all (xs.set i x) := by
  intro xs i ws hi hl h
  apply List.ext_getElem?
  intro k
  have hL : (C.all (xs.set i x)).length = xs.length * C.size := by rw [Cod.all_len]; simp
  rw [h k]
  by_cases hk : k < xs.length * C.size
  · have hk2 : k < (C.all (xs.set i x)).length := by omega
    obtain ⟨u, hu⟩ : ∃ u, (C.all (xs.set i x))[k]? = some u := ⟨_, List.getElem?_eq_getElem hk2⟩
    obtain ⟨i', j, y, rfl, hy, hu'⟩ := Cod.all_inv C _ k u hu
    have hj : j < C.size := by have := (List.getElem?_eq_some_iff.1 hu').1; rw [C.len] at this; exact this
    rw [hu]
    rw [List.getElem?_set] at hy
    by_cases hii : i = i'
    · subst hii
      rw [if_pos rfl, if_pos hi] at hy; cases hy
      rw [if_pos ⟨by omega, by omega⟩, show i * C.size + j - i * C.size = j by omega]
      exact hu'
    · rw [if_neg hii] at hy
      have hno : ¬ (i * C.size ≤ i' * C.size + j ∧ i' * C.size + j < i * C.size + C.size) := by
        rintro ⟨h1, h2⟩
        rcases Nat.lt_or_gt_of_ne hii with hlt | hlt
        · have := Nat.mul_le_mul_right C.size (show i + 1 ≤ i' from hlt)
          rw [Nat.add_mul] at this; omega
        · have := Nat.mul_le_mul_right C.size (show i' + 1 ≤ i from hlt)
          rw [Nat.add_mul] at this; omega
      rw [if_neg hno]
      exact Cod.all_get C xs i' j y u hy hu'
  · rw [List.getElem?_eq_none (show (C.all (xs.set i x)).length ≤ k by omega)]
    have hb := Nat.mul_le_mul_right C.size (show i + 1 ≤ xs.length from hi)
    rw [Nat.add_mul] at hb
    rw [if_neg (by omega), List.getElem?_eq_none (by rw [Cod.all_len]; omega)]
/-- The slice at A reads as xs. -/
def SL (w : World) (C : Cod α) (A : Option Addr) (xs : List α) : Prop :=
  0 < xs.length → ∃ b o, A = some ⟨b, o, none⟩ ∧ ∀ j u, (C.all xs)[j]? = some u → w.cell? ⟨b, o + j, none⟩ = some u
def adr (A : Option Addr) : Addr := A.getD ⟨0, 0, none⟩
theorem SL.lt (h : SL w C A xs) (hn : 0 < xs.length) : ∃ b o, A = some ⟨b, o, none⟩ ∧ b < w.heap.size ∧ ∀ j u, (C.all xs)[j]? = some u → w.cell? ⟨b, o + j, none⟩ = some u := by
  obtain ⟨b, o, hA, hc⟩ := h hn
  refine ⟨b, o, hA, ?_, hc⟩
  have h0 : 0 < (C.all xs).length := by rw [Cod.all_len]; exact Nat.mul_pos hn C.pos
  exact block_lt_of_cell (hc 0 _ (List.getElem?_eq_getElem h0))
theorem SL.below (h : SL w C A xs) (hb : Below w.heap.size w w') : SL w' C A xs := fun hn => by
  obtain ⟨b, o, hA, hlt, hc⟩ := h.lt hn
  exact ⟨b, o, hA, fun j u hu => (hb.cell (p := ⟨b, o + j, none⟩) hlt).trans (hc j u hu)⟩
theorem SL.nil : SL w C A [] := fun h => absurd h (by simp)
theorem SL.el (h : SL w C A xs) {i : Nat} {x : α} (hx : xs[i]? = some x) {j : Nat} {u : Value} (hu : (C.enc x)[j]? = some u) :
    ∃ b o, A = some ⟨b, o, none⟩ ∧ w.cell? ⟨b, o + (i * C.size + j), none⟩ = some u := by
  have hi : i < xs.length := (List.getElem?_eq_some_iff.1 hx).1
  obtain ⟨b, o, hA, hc⟩ := h (by omega)
  exact ⟨b, o, hA, hc _ _ (Cod.all_get C xs i j x u hx hu)⟩
theorem SL.sub (h : SL w C A xs) (c lo hi : Nat) (h1 : lo ≤ hi) (h2 : hi ≤ xs.length) (h3 : xs.length ≤ c) : SL w C (if c = lo then A else A.map (·.add (lo * C.size))) ((xs.take hi).drop lo) := fun hn => by
  simp at hn
  obtain ⟨b, o, hA, hc⟩ := h (by omega)
  rw [if_neg (by omega)]
  refine ⟨b, o + lo * C.size, ?_, fun j u hu => ?_⟩
  · rw [hA]; simp only [Option.map_some, Addr.add]; split <;> simp_all
  · obtain ⟨i, j', x, rfl, hx, hu'⟩ := Cod.all_inv C _ j u hu
    rw [List.getElem?_drop, List.getElem?_take] at hx
    split at hx
    · have := hc _ _ (Cod.all_get C xs (lo + i) j' x u hx hu')
      rw [Nat.add_mul] at this
      rw [show o + lo * C.size + (i * C.size + j') = o + (lo * C.size + i * C.size + j') by omega]
      exact this
    · cases hx
end
section
variable {P : Program} {base : Nat} {W w : World} {L : List Ent} {S : World → Prop} {D : List Deferred} {a : Act} {N : Nat} {l : List (Nat × Value)} {o : Oper} {x y ix : Operand} {v u : Value} {t e t' : TypeId} {m n : Int} {k k' : IntKind}
  {g off : Nat} {cs ds : List Value} {α : Type} {C : Cod α} {A : Option Addr} {c : Nat} {xs ys : List α}
theorem inM (i : Nat) (h : L[i]? = some (.blk g t cs)) : ∀ w, Mem base W w L → Blk w g t cs.toArray := fun _ M => M.blkAt h
theorem inO (h : Blk W g t cs.toArray) : ∀ w, Mem W.heap.size W w L → Blk w g t cs.toArray := fun _ M => h.below M.low h.lt
theorem inA (h : SL W C A xs) : ∀ w, Mem W.heap.size W w L → SL w C A xs := fun _ M => h.below M.low
theorem rowSL {s n : Nat} (h : Ent.holds w (.row e s A n c (C.all xs))) (hs : s = C.size) : SL w C A xs := fun hn => by
  subst hs
  have hlen := h.1
  rw [Cod.all_len] at hlen
  have hnn : n = xs.length := (Nat.eq_of_mul_eq_mul_right C.pos hlen).symm
  rcases h.2 with ⟨hv, h0⟩ | ⟨g, cap, cur, hv, hg, hh, hnc, _, hsz, htk⟩
  · omega
  · injection hv with e1 _ _
    refine ⟨g, 0, e1, fun j u hu => ?_⟩
    rw [Nat.zero_add, cell_of_row w g j cur e (0, 0) hh]
    rw [← htk, List.getElem?_take] at hu
    split at hu
    · simpa using hu
    · cases hu
theorem inR (i : Nat) {s n : Nat} (h : L[i]? = some (.row e s A n c (C.all xs))) (hs : s = C.size) : ∀ w, Mem base W w L → SL w C A xs := fun _ M => rowSL (M.has i _ h) hs
theorem rd_ldC (ho : o.op = .load t x) (ht : scT P t = true) (K : Kd D a N l) (hx : evo l x = some (.pointer (some ⟨g, off, none⟩))) (hb : ∀ w, S w → Blk w g t' cs.toArray) (hv : cs[off]? = some v) : Rd P S a o v := fun w hS => by
  have hc : w.cell? ⟨g, off, none⟩ = some v := by rw [(hb w hS).cell]; simpa using hv
  unfold execOp
  simp [ho, K.ev hx, Instr.loadAt, Instr.sureAddr, loadVar, Sem.run_bind, (scT_spec ht w).1, run_load, hc]
theorem adr_add {b o' : Nat} (hA : A = some ⟨b, o', none⟩) (j : Nat) : (adr A).add j = ⟨b, o' + j, none⟩ := by
  subst hA; unfold adr Addr.add; split <;> simp_all
theorem rd_elC {el : α} {q : Nat} (ho : o.op = .load t x) (ht : scT P t = true) (K : Kd D a N l) (hx : evo l x = some (.pointer (some ((adr A).add (n.toNat * q))))) (hq : q = C.size) (hb : ∀ w, S w → SL w C A xs) (hi : idx xs n = some el) (hu : (C.enc el)[0]? = some u) : Rd P S a o u := fun w hS => by
  subst hq
  obtain ⟨h0, hlt, hel⟩ := idx_spec hi
  obtain ⟨b, o', hA, hc⟩ := (hb w hS).el hel hu
  unfold execOp
  simp only [Nat.add_zero] at hc
  simp [ho, K.ev hx, adr_add hA, Instr.loadAt, Instr.sureAddr, loadVar, Sem.run_bind, (scT_spec ht w).1, run_load, hc]
theorem rd_ix {el : α} {b : Nat} {s : Nat} (ho : o.op = .indexAddr t x ix) (ht : slT P t e s b = true) (K : Kd D a N l) (hx : evo l x = some (.slice A xs.length c)) (hi : evo l ix = some (.int k n)) (hb : ∀ w, S w → SL w C A xs) (he : idx xs n = some el) : Rd P S a o (.pointer (some ((adr A).add (n.toNat * s)))) := fun w hS => by
  obtain ⟨hu, i, hinf, hs, _⟩ := slT_spec ht
  obtain ⟨h0, hlt, hel⟩ := idx_spec he
  obtain ⟨b', o', hA, hc⟩ := hb w hS (by omega)
  have h1 : n < xs.length := by omega
  unfold execOp
  subst hA
  simp [ho, K.ev hx, K.ev hi, Instr.indexAt, asIntOf, run_underlying hu, sizeOf, typeInfo, hinf, hs, h0, h1, adr]
theorem rd_ixS {s : ByteArray} (ho : o.op = .index t x ix) (ht : P.underlying t = some .string) (K : Kd D a N l) (hx : evo l x = some (.string s)) (hi : evo l ix = some (.int k n)) {b : UInt8} (he : idx s.data.toList n = some b) : Rd P S a o (.int .u8 b.toNat) := fun w hS => by
  obtain ⟨h0, hlt, hel⟩ := idx_spec he
  have hlt' : n.toNat < s.size := by simpa using hlt
  have hb : s[n.toNat] = b := by
    have := (List.getElem?_eq_some_iff.1 hel).2
    simp at this; exact this
  unfold execOp
  simp [ho, K.ev hx, K.ev hi, Instr.index, asIntOf, run_underlying ht, h0, hlt', hb]
end
end Go.Proofs.YtpmnfhifmmfglacDoor

namespace Go.Proofs.YtpmnfhifmmfglacDoor
open Go.RowKit
section
variable {P : Program} {base : Nat} {W w : World} {L : List Ent} {S : World → Prop} {D : List Deferred} {a : Act} {N : Nat} {l : List (Nat × Value)} {o : Oper} {x y ix : Operand} {v u : Value} {t e t' : TypeId} {m n : Int} {k k' : IntKind}
  {g off : Nat} {cs ds : List Value} {α : Type} {C : Cod α} {A : Option Addr} {c : Nat} {xs ys zs : List α} {post : Value → World → Prop}
/-- The operation acts: it gives v in w' so that post v w' holds. -/
def Ac (P : Program) (o : Oper) (a : Act) (w : World) (post : Value → World → Prop) : Prop :=
  ∀ (K : Act → World → Prop) (Q : Exit → Act → World → Prop), (∀ v w', post v w' → K (a.put o.dst v) w') → o.wp P a w K Q
theorem ac_val {w' : World} (h : (execOp a.eval o).run P w = .ok (.value v) w') (hp : post v w') : Ac P o a w post := fun K Q hK => by
  unfold Oper.wp; rw [h]; exact hK _ _ hp
theorem ac_skip {w' : World} (h : (execOp a.eval o).run P w = .ok .skip w') (hp : post undef w') : Ac P o a w post := fun K Q hK => by
  unfold Oper.wp; rw [h]; exact hK _ _ hp
theorem ac_box (ho : o.op = .box t x) (K : Kd D a N l) (hx : evo l x = some v) (hc : v.cells = cs.toArray) (M : Mem base W w L) :
    Ac P o a w fun v w' => ∃ g, v = .pointer (some ⟨g, 0, none⟩) ∧ Mem base W w' (.blk g t cs :: L) := by
  refine ac_val (v := .pointer (some ⟨w.heap.size, 0, none⟩)) (w' := w.alloc (.cells cs.toArray t)) ?_ ⟨_, rfl, M.new t cs⟩
  unfold execOp
  simp [ho, K.ev hx, Instr.box, newVar, newRow, hc]
theorem ac_alloc (ho : o.op = .alloc t) (hz : zeroT P t = some cs) (M : Mem base W w L) :
    Ac P o a w fun v w' => ∃ g, v = .pointer (some ⟨g, 0, none⟩) ∧ Mem base W w' (.blk g t cs :: L) := by
  refine ac_val (v := .pointer (some ⟨w.heap.size, 0, none⟩)) (w' := w.alloc (.cells cs.toArray t)) ?_ ⟨_, rfl, M.new t cs⟩
  simp only [zeroT, Option.bind_eq_some_iff, Option.map_eq_some_iff] at hz
  obtain ⟨i, hi, z, hz, hcs⟩ := hz
  have hc : z.cells = cs.toArray := by rw [← hcs]
  unfold execOp
  simp [ho, Instr.alloc, zeroValue, typeInfo, hi, hz, newVar, newRow, hc]
theorem ac_bslice {b s len : Nat} {parts : Array (Nat × Operand)} {vs : List (Nat × Value)} (ho : o.op = .buildSlice t len parts) (ht : slT P t e s b = true) (hz : zeroT P e = some ds) (K : Kd D a N l)
    (hp : parts.toList.map (fun p => (evo l p.2).map (fun v => (p.1, v))) = vs.map some) (hf : Instr.fill (fun i => some (i * s, s)) ((Array.range (len * s)).map (ds.toArray[· % ds.toArray.size]!)) vs = some cs.toArray) (hl : Nat.ble (len * s) 1000 = true) (hpos : Nat.blt 0 (len * s) = true) (M : Mem base W w L) :
    Ac P o a w fun v w' => ∃ g, v = .slice (some ⟨g, 0, none⟩) len len ∧ Mem base W w' (.blk g e cs :: L) := by
  refine ac_val (v := .slice (some ⟨w.heap.size, 0, none⟩) len len) (w' := w.alloc (.cells cs.toArray e)) ?_ ⟨_, rfl, M.new e cs⟩
  obtain ⟨hu, i, hinf, hsz, _⟩ := slT_spec ht
  simp only [zeroT, Option.bind_eq_some_iff, Option.map_eq_some_iff] at hz
  obtain ⟨i', hi', z, hz, hcs⟩ := hz
  obtain rfl : i = i' := Option.some.inj (hinf.symm.trans hi')
  have hc : z.cells = ds.toArray := by rw [← hcs]
  have hE : (parts.map fun (i, x) => (i, a.eval x)).toList = vs := by
    simp only [Array.toList_map]
    have : ∀ (ps : List (Nat × Operand)) (vs : List (Nat × Value)), ps.map (fun p => (evo l p.2).map (fun v => (p.1, v))) = vs.map some → ps.map (fun p => (p.1, a.eval p.2)) = vs := by
      intro ps
      induction ps with
      | nil => intro vs h; cases vs <;> simp_all
      | cons p ps ih =>
        intro vs h
        cases vs with
        | nil => simp at h
        | cons v vs =>
          simp only [List.map_cons, List.cons.injEq] at h ⊢
          refine ⟨?_, ih vs h.2⟩
          obtain ⟨u, hu, hv⟩ := Option.map_eq_some_iff.1 h.1
          rw [K.ev hu, hv]
    exact this _ _ hp
  have hl' : ¬ 16777216 < len * s := by have := Nat.le_of_ble_eq_true hl; omega
  have hpos' : ¬ len * s = 0 := by have : 0 < len * s := by simpa [Nat.blt_eq] using hpos
                                   omega
  have hl'' : ¬ (len * s > 2 ^ 24) := by omega
  unfold execOp
  simp only [ho, Instr.buildSlice, Sem.run_bind, run_underlying hu, Result.andThen_ok, sizeOf, typeInfo, run_program, hinf, hsz, hE, if_neg hl'', if_neg hpos', zeroValue, hz, hc, hf, newRow, Sem.run_pure, run_newObj_alloc]
theorem ac_storeC (ho : o.op = .store t x y) (ht : scT P t = true) (K : Kd D a N l) (hx : evo l x = some (.pointer (some ⟨g, off, none⟩))) (hy : evo l y = some v) (h1 : v.oneCell' = true) (i : Nat) (M : Mem base W w L) (hi : L[i]? = some (.blk g t' cs)) (hlt : Nat.blt off cs.length = true) :
    Ac P o a w fun _ w' => Mem base W w' (L.set i (.blk g t' (cs.set off v))) := by
  refine ac_skip (w' := w.setCell ⟨g, off, none⟩ v) ?_ (M.set i hi off v)
  have hlt' : off < cs.length := by simpa [Nat.blt_eq] using hlt
  have hc : w.cell? ⟨g, off, none⟩ = some cs[off] := M.cell hi (List.getElem?_eq_getElem hlt')
  have hfz : w.frozen? ⟨g, off, none⟩ = false := (M.blkAt hi).frozen off
  have hcell : v.cells = #[v] := by cases v <;> first | rfl | (simp [Value.oneCell'] at h1)
  unfold execOp
  have hst := run_store P w ⟨g, off, none⟩ v .plain h1
  simp [ho, K.ev hx, K.ev hy, Instr.storeAt, Instr.sureAddr, storeVar, Sem.run_bind, (scT_spec ht w).2, hcell, storeCells, Addr.add, hst, hc, hfz]
theorem Mem.grown {n c' : Nat} {s : Nat} {vs : List Value} (M : Mem base W w L) (i : Nat) (hi : L[i]? = some (.row e s A n c vs)) {w' : World} (hg : w.grownBy w' (A.map (·.block))) {g n' : Nat} {vs' : List Value}
    (ho : w'.ownsRow 0 e s (.slice (some ⟨g, 0, none⟩) n' c') n' vs') (hw : A.map (·.block) = some g ∨ w.heap.size ≤ g) : Mem base W w' (L.set i (.row e s (some ⟨g, 0, none⟩) n' c' vs')) := by
  refine M.turn i hi ((Below.refl base w).grown hg M.sz fun k hk => M.up i _ k hi hk) ho (fun j hj hne => hg.block j hj fun h => hne (by simpa [Ent.foot] using h.symm)) fun g' hg' => ?_
  simp [Ent.foot] at hg'
  subst hg'
  exact hw
theorem ac_app {b s : Nat} (ho : o.op = .call { callee := .builtin .append, args := #[x, y], argTypes := #[t, t] }) (ht : slT P t e s b = true) (hb : Nat.blt 0 b = true) (hz : zeroT P e = some ds) (hdl : ds.length = s) (hs : s = C.size) (K : Kd D a N l)
    (hx : evo l x = some (.slice A xs.length c)) {B : Option Addr} {c' : Nat} (hy : evo l y = some (.slice B ys.length c')) (i : Nat) (M : Mem base W w L) (hi : L[i]? = some (.row e s A xs.length c (C.all xs))) (R : SL w C B ys) (hlen : app b xs ys = some zs) :
    Ac P o a w fun v w' => ∃ A' c'', v = .slice A' zs.length c'' ∧ Mem base W w' (L.set i (.row e s A' zs.length c'' (C.all zs))) := by
  obtain ⟨rfl, hbytes⟩ := app_spec hlen
  subst hs
  obtain ⟨hu, inf, hinf, hsz, hby⟩ := slT_spec ht
  simp only [zeroT, Option.bind_eq_some_iff, Option.map_eq_some_iff] at hz
  obtain ⟨inf', hinf', z, hz, hzc⟩ := hz
  obtain rfl : inf = inf' := Option.some.inj (hinf.symm.trans hinf')
  have hown := M.has i _ hi
  have hb' : 0 < b := by simpa [Nat.blt_eq] using hb
  by_cases hm : 0 < ys.length
  · obtain ⟨bb, oo, hB, hc⟩ := R hm
    intro K' Q hK'
    have h63 : xs.length + ys.length ≤ maxLen := by
      have := Nat.le_mul_of_pos_right (xs.length + ys.length) hb'
      simp only [maxLen]; omega
    refine wp_append_lies w x y t ho 0 e inf z C.size b hu hinf hz hsz hby (by rw [← Array.length_toList, hzc, hdl]) C.pos (.slice A xs.length c) xs.length (C.all xs) (K.ev hx) hown ⟨bb, oo, none⟩ ys.length c' (C.all ys) (by rw [K.ev hy, hB]) (by rw [Cod.all_len])
      (fun j u hu => by have hadd : (⟨bb, oo, none⟩ : Addr).add j = ⟨bb, oo + j, none⟩ := by { unfold Addr.add; split <;> simp_all }
                        rw [hadd]; exact hc j u hu) (C.all_one ys) hm h63 hbytes (Nat.zero_le _) _ rfl ?_
    intro g cap w' h2 h3 h4 h5
    refine hK' _ _ ⟨some ⟨g, 0, none⟩, cap, by rw [List.length_append], ?_⟩
    have h3' : w.grownBy w' (A.map (·.block)) := by
      cases A with
      | none => exact h3
      | some ad => exact h3
    refine M.grown i hi h3' ?_ ?_
    · rw [Cod.all_append, List.length_append]; exact h2
    · rcases h4 with h4 | h4
      · left
        cases A with
        | none => simp [Value.ownBlock] at h4
        | some ad => simpa [Value.ownBlock] using h4
      · right; omega
  · have hy0 : ys = [] := List.eq_nil_of_length_eq_zero (by omega)
    subst hy0
    have hnc : xs.length ≤ c := by
      rcases hown.2 with ⟨_, h0⟩ | ⟨g', cap', cur, hv, _, _, hnc, _⟩
      · omega
      · injection hv with _ _ e3; omega
    have hr : (Builtin.append_ #[t, t] o.type #[.slice A xs.length c, .slice B 0 c']).run P w = .ok (.slice A xs.length c) w := by
      cases A <;> cases B <;> simp [Builtin.append_, run_underlying hu, sizeOf, typeInfo, hinf, Builtin.lenOf, hnc, Builtin.firstCells, loadCells, loadCellsFrom, storeCells]
    refine ac_val (v := .slice A xs.length c) (w' := w) ?_ ⟨A, c, by simp, ?_⟩
    · unfold execOp
      simp only [ho, resolve, invoke, builtin, Sem.run_bind, Sem.run_pure, Result.andThen_ok, List.map_toArray, List.map_cons, List.map_nil, K.ev hx, K.ev hy, List.length_nil]
      rw [hr]; rfl
    · have : L.set i (.row e C.size A (xs ++ []).length c (C.all (xs ++ []))) = L := by
        rw [List.append_nil]
        obtain ⟨hlt, he⟩ := List.getElem?_eq_some_iff.1 hi
        rw [← he]; exact List.set_getElem_self hlt
      rw [this]; exact M
end
end Go.Proofs.YtpmnfhifmmfglacDoor

namespace Go.Proofs.YtpmnfhifmmfglacDoor
open Go.RowKit
section
variable {P : Program} {base : Nat} {W w : World} {L : List Ent} {S : World → Prop} {D : List Deferred} {a : Act} {N : Nat} {l : List (Nat × Value)} {o : Oper} {x y ix : Operand} {v u : Value} {t e t' : TypeId} {m n : Int} {k k' : IntKind}
  {g off : Nat} {cs ds : List Value} {α : Type} {C : Cod α} {A : Option Addr} {c : Nat} {xs ys zs : List α} {post : Value → World → Prop}
theorem madeCells_all (C : Cod α) (z : α) (n : Nat) : (madeCells (C.enc z).toArray (n * C.size)).toList = C.all (List.replicate n z) := by
  apply List.ext_getElem?
  intro j
  by_cases hj : j < n * C.size
  · have hm : j % C.size < C.size := Nat.mod_lt _ C.pos
    have hl : (C.enc z).length = C.size := C.len z
    have h1 : (C.all (List.replicate n z))[j]? = (C.enc z)[j % C.size]? := by
      have hu : (C.enc z)[j % C.size]? = some ((C.enc z)[j % C.size]'(by omega)) := List.getElem?_eq_getElem (by omega)
      have hd : j / C.size < n := Nat.div_lt_of_lt_mul (by rw [Nat.mul_comm]; exact hj)
      have := Cod.all_get C (List.replicate n z) (j / C.size) (j % C.size) z _ (by simp [hd]) hu
      rw [Nat.div_add_mod'] at this
      rw [this, hu]
    rw [h1]
    simp [madeCells, hj, hl, List.getElem?_eq_getElem (show j % C.size < (C.enc z).length by omega)]
  · rw [List.getElem?_eq_none (by simp [size_madeCells]; omega), List.getElem?_eq_none (by rw [Cod.all_len]; simp; omega)]
theorem ac_make {b s : Nat} {z : α} (ho : o.op = .makeSlice t x y) (ht : slT P t e s b = true) (hb : Nat.blt 0 b = true) (hz : zeroT P e = some (C.enc z)) (hs : s = C.size) (K : Kd D a N l) (hx : evo l x = some (.int k n)) (hy : evo l y = some (.int k' n)) (M : Mem base W w L) (hm : mk b n z = some ys) :
    Ac P o a w fun v w' => ∃ A' c', v = .slice A' ys.length c' ∧ Mem base W w' (.row e s A' ys.length c' (C.all ys) :: L) := by
  obtain ⟨h0, h1, rfl⟩ := mk_spec hm
  subst hs
  obtain ⟨hu, inf, hinf, hsz, hby⟩ := slT_spec ht
  simp only [zeroT, Option.bind_eq_some_iff, Option.map_eq_some_iff] at hz
  obtain ⟨inf', hinf', zz, hz, hzc⟩ := hz
  obtain rfl : inf = inf' := Option.some.inj (hinf.symm.trans hinf')
  obtain ⟨q, rfl⟩ : ∃ q : Nat, n = q := ⟨n.toNat, by omega⟩
  have hb' : 0 < b := by simpa [Nat.blt_eq] using hb
  have hbytes : inf.bytes * q ≤ 281474976710656 := by
    rw [hby, Nat.mul_comm]
    have h1' : ((q * b : Nat) : Int) ≤ 281474976710656 := by rw [Int.natCast_mul]; exact h1
    omega
  have hqb := Nat.le_mul_of_pos_left q hb'
  have h63 : q ≤ maxLen := by rw [hby] at hbytes; simp only [maxLen]; omega
  obtain ⟨w', hr, hown, hg⟩ := run_make_full (P := P) w 0 t e inf zz C.size hu hinf hz hsz k k' q hbytes h63 (Nat.zero_le _)
  have hzc' : zz.cells = (C.enc z).toArray := by rw [← hzc]
  rw [hzc', madeCells_all] at hown
  refine ac_val (v := .slice (some ⟨w.heap.size, 0, none⟩) q q) (w' := w') ?_ ⟨some ⟨w.heap.size, 0, none⟩, q, by simp, ?_⟩
  · unfold execOp
    simp only [ho, K.ev hx, K.ev hy, Sem.run_bind, hr]; rfl
  · have hlen : (List.replicate ((q : Int)).toNat z).length = q := by simp
    rw [hlen]
    simp only [Int.toNat_natCast]
    refine (M.far ((Below.refl base w).grown hg M.sz fun k hk => by cases hk) (fun k o hk _ => (hg.block k (Array.getElem?_eq_some_iff.1 hk).1 (by simp)).trans hk) fun i e g h hf => hg.block g (M.feet i e g h hf) (by simp)).cons hown fun g hf => ?_
    simp [Ent.foot] at hf
    subst hf
    exact ⟨M.sz, fun i e' h he => by have := M.feet i e' _ h he; omega⟩
theorem run_storeCells_own (g off : Nat) (t : TypeId) : ∀ (vs : List Value) (i : Nat) (cur : Array Value) (w : World), w.heap[g]? = some (.cells cur t (0, 0)) → off + i + vs.length ≤ cur.size → (∀ v ∈ vs, v.oneCell' = true) →
    ∃ w' cur', (storeCells ⟨g, off, none⟩ vs i).run P w = .ok () w' ∧ w'.heap[g]? = some (.cells cur' t (0, 0)) ∧ cur'.size = cur.size ∧
      (∀ j, cur'[j]? = if off + i ≤ j ∧ j < off + i + vs.length then vs[j - (off + i)]? else cur[j]?) ∧ (∀ k, k ≠ g → w'.heap[k]? = w.heap[k]?) ∧ w'.os = w.os ∧ w'.tape = w.tape ∧ w'.output = w.output ∧ w'.heap.size = w.heap.size
  | [], i, cur, w, h, _, _ => by
    refine ⟨w, cur, rfl, h, rfl, fun j => ?_, fun _ _ => rfl, rfl, rfl, rfl, rfl⟩
    rw [if_neg (by simp)]
  | v :: vs, i, cur, w, h, hl, h1 => by
    simp only [List.length_cons] at hl
    have hadd : (⟨g, off, none⟩ : Addr).add i = ⟨g, off + i, none⟩ := by unfold Addr.add; split <;> simp_all
    have hB : Blk w g t cur := h
    have hc : w.cell? ⟨g, off + i, none⟩ = some cur[off + i] := by rw [hB.cell]; exact Array.getElem?_eq_getElem (by omega)
    have hst : (store ⟨g, off + i, none⟩ v).run P w = .ok () (w.setCell ⟨g, off + i, none⟩ v) := by
      rw [run_store P w _ v .plain (h1 v (by simp)), hc]
      simp [hB.frozen]
    obtain ⟨w', cur', h2, h3, h4, h5, h6, h7, h8, h9, h10⟩ := run_storeCells_own g off t vs (i + 1) (cur.setIfInBounds (off + i) v) (w.setCell ⟨g, off + i, none⟩ v) (hB.set_ (off + i) v rfl) (by simp; omega) (fun v hv => h1 v (by simp [hv]))
    refine ⟨w', cur', ?_, h3, by simpa using h4, fun j => ?_, fun k hk => (h6 k hk).trans (Below.heap_setCell w _ v k hk), h7, h8, h9, by rw [h10]; simp [World.setCell]⟩
    · unfold storeCells
      rw [Sem.run_bind, hadd, hst]
      exact h2
    · rw [h5 j]
      simp only [List.length_cons]
      by_cases hj : off + i = j
      · subst hj
        rw [if_neg (by omega), if_pos (by omega), Array.getElem?_setIfInBounds_self_of_lt (by omega), Nat.sub_self]
        rfl
      · by_cases hj2 : off + (i + 1) ≤ j ∧ j < off + (i + 1) + vs.length
        · rw [if_pos hj2, if_pos (by omega), show j - (off + i) = (j - (off + (i + 1))) + 1 by omega]
          simp
        · rw [if_neg hj2, if_neg (by omega)]
          simp [hj]
theorem ac_rowset {el : α} {q s : Nat} (ho : o.op = .store t x y) (hsz : (P.info? t).map (·.size) = some s) (hs : s = C.size) (hq : q = C.size) (K : Kd D a N l) (hx : evo l x = some (.pointer (some ((adr A).add (n.toNat * q))))) (hy : evo l y = some v) (hv : v.cells = (C.enc el).toArray)
    (i : Nat) (M : Mem base W w L) (hi : L[i]? = some (.row e s A xs.length c (C.all xs))) (hset : setL xs n el = some ys) :
    Ac P o a w fun _ w' => Mem base W w' (L.set i (.row e s A ys.length c (C.all ys))) := by
  subst hq hs
  obtain ⟨h0, hlt, rfl⟩ := setL_spec hset
  obtain ⟨hxl, hrow⟩ := M.has i _ hi
  rcases hrow with ⟨_, h00⟩ | ⟨g, cap, cur, hvv, _, hh, hnc, hcm, hcs, htk⟩
  · omega
  injection hvv with hA _ hcap
  subst hcap
  have hmul := Nat.mul_le_mul_right C.size hlt
  have hcapm := Nat.mul_le_mul_right C.size hnc
  rw [Nat.succ_mul] at hmul
  obtain ⟨w', cur', h2, h3, h4, h5, h6, h7, h8, h9, h10⟩ := run_storeCells_own (P := P) g (n.toNat * C.size) e (C.enc el) 0 cur w hh (by rw [C.len]; omega) (C.one el)
  rw [C.len] at h5
  have hrun : (execOp a.eval o).run P w = .ok .skip w' := by
    simp only [Option.map_eq_some_iff] at hsz
    obtain ⟨inf, hinf, hsz⟩ := hsz
    have hcl : (C.enc el).length = inf.size := by rw [C.len, hsz]
    unfold execOp
    simp [ho, K.ev hx, K.ev hy, Instr.storeAt, Instr.sureAddr, storeVar, hv, sizeOf, typeInfo, hinf, hcl, adr_add hA, h2]
  refine ac_skip hrun (M.turn i hi ⟨h7, h8, h9, by omega, fun k hk => h6 k fun hkg => ?_⟩ ?_ (fun j _ hj => h6 j fun hjg => hj (by simp [Ent.foot, hA, hjg])) (fun g' hg' => .inl hg'))
  · have := M.up i _ g hi (by simp [Ent.foot, hA])
    omega
  · refine ⟨by rw [Cod.all_len], .inr ⟨g, c, cur', by rw [hA], Nat.zero_le _, h3, by simpa using hnc, hcm, by rw [h4, hcs], ?_⟩⟩
    refine Cod.all_set C el xs n.toNat _ hlt (by simp [h4, hcs]; rw [Nat.min_eq_left hnc]) fun j => ?_
    rw [List.length_set]
    rw [List.getElem?_take]
    by_cases hj : j < xs.length * C.size
    · rw [if_pos hj]
      simp only [Array.getElem?_toList, Nat.add_zero] at h5 ⊢
      rw [h5 j]
      split
      · rfl
      · rw [← htk, List.getElem?_take, if_pos hj]; simp
    · rw [if_neg hj, if_neg (by omega), List.getElem?_eq_none (by rw [Cod.all_len]; omega)]
def FnOK (P : Program) (f : FuncId) : Bool := match P.funcs[f]? with
  | some fn => fn.body.isSome && fn.name != "runtime.NumGoroutine"
  | none => false
theorem ac_call {f : FuncId} {cap vs : List Value} {args : Array Operand} {ts : Array TypeId} (ho : o.op = .call { callee := .value x, args := args, argTypes := ts }) (hf : FnOK P f = true) (K : Kd D a N l) (hx : evo l x = some (.func (.func f) #[] cap.toArray)) (hargs : args.toList.map (evo l) = vs.map some)
    (h : Calls P f (vs ++ cap).toArray w fun e w' => ∃ v, e = .returned v ∧ post v w') : Ac P o a w post := by
  have hE : args.map a.eval = vs.toArray := by
    apply Array.ext'
    simp only [Array.toList_map]
    have : ∀ (xs : List Operand) (vs : List Value), xs.map (evo l) = vs.map some → xs.map a.eval = vs := by
      intro xs
      induction xs with
      | nil => intro vs h; cases vs <;> simp_all
      | cons x xs ih =>
        intro vs h
        cases vs with
        | nil => simp at h
        | cons v vs => simp only [List.map_cons, List.cons.injEq] at h ⊢; exact ⟨K.ev h.1, ih vs h.2⟩
    exact this _ _ hargs
  have hrun : (execOp a.eval o).run P w = .ok (.enter f (vs ++ cap).toArray) w := by
    unfold FnOK at hf
    split at hf
    · rename_i fn hfn
      simp only [Bool.and_eq_true, bne_iff_ne, ne_eq] at hf
      obtain ⟨b, hb⟩ := Option.isSome_iff_exists.1 hf.1
      unfold execOp
      simp [ho, resolve, K.ev hx, hE, Deferred.ofValue, invoke, callFunc, hfn, hb, hf.2]
    · cases hf
  intro K' Q hK
  unfold Oper.wp
  rw [hrun, Oper.upon_enter]
  refine h.mono ?_
  rintro e w' ⟨v, rfl, hp⟩
  exact hK v w' hp
variable {ops : Array Oper} {Q : Exit → Act → World → Prop} {R : Act → World → Prop} {rest : List Oper} {d : Nat} {f : List Nat} {mk : Nat}
theorem X_rd (K : Kd D a N l) (hw : Region.wanted o (yielded ops a.tmps) = true) (hd : o.dst = some d) (hN : Nat.blt d N = true) (hr : Rd P (fun w => Mem base W w L) a o v) (M : Mem base W w L) (k : ∀ a', Kd D a' N ((d, v) :: l) → wpList P ops Q rest a' w) : wpList P ops Q (o :: rest) a w := by
  refine wpList_step fun Kc hK => ?_
  rw [if_pos hw]
  unfold Oper.wp
  rw [hr w M]
  refine hK _ _ ?_
  have := K.put (d := o.dst) (by rw [hd]; exact hN) v
  rw [hd] at this ⊢
  exact k _ this
theorem X_no (K : Kd D a N l) (hw : Region.wanted o (yielded ops a.tmps) = false) (hd : o.dst = some d) (hN : Nat.blt d N = true) (k : ∀ a', Kd D a' N ((d, undef) :: l) → wpList P ops Q rest a' w) : wpList P ops Q (o :: rest) a w := by
  refine wpList_skip hw ?_
  have := K.put (d := o.dst) (by rw [hd]; exact hN) undef
  rw [hd] at this ⊢
  exact k _ this
theorem X_ac (K : Kd D a N l) (hw : Region.wanted o (yielded ops a.tmps) = true) (hd : o.dst = some d) (hN : Nat.blt d N = true) (h : Ac P o a w post) (k : ∀ v a' w', post v w' → Kd D a' N ((d, v) :: l) → wpList P ops Q rest a' w') : wpList P ops Q (o :: rest) a w := by
  refine wpList_step fun Kc hK => ?_
  rw [if_pos hw]
  refine h _ _ fun v w' hp => hK _ _ ?_
  have := K.put (d := o.dst) (by rw [hd]; exact hN) v
  rw [hd] at this ⊢
  exact k v _ w' hp this
theorem X_a0 (K : Kd D a N l) (hw : Region.wanted o (yielded ops a.tmps) = true) (hd : o.dst = none) (h : Ac P o a w post) (k : ∀ v a' w', post v w' → Kd D a' N l → wpList P ops Q rest a' w') : wpList P ops Q (o :: rest) a w := by
  refine wpList_step fun Kc hK => ?_
  rw [if_pos hw]
  refine h _ _ fun v w' hp => hK _ _ ?_
  rw [hd]
  exact k v _ w' hp K
theorem T_rd (K : Kd D a N l) (hw : Region.wanted o (yielded ops a.tmps) = true) (hd : o.dst = some d) (hN : Nat.blt d N = true) (hr : Rd P S a o v) (k : ∀ a', Kd D a' N ((d, v) :: l) → wpTl P ops S R (marked f rest) a' w) : wpTl P ops S R (marked (0 :: f) (o :: rest)) a w := by
  refine ⟨v, .inl ⟨hw, hr⟩, ?_⟩
  have := K.put (d := o.dst) (by rw [hd]; exact hN) v
  rw [hd] at this ⊢
  exact k _ this
theorem T_no (K : Kd D a N l) (hw : Region.wanted o (yielded ops a.tmps) = false) (hd : o.dst = some d) (hN : Nat.blt d N = true) (k : ∀ a', Kd D a' N ((d, undef) :: l) → wpTl P ops S R (marked f rest) a' w) : wpTl P ops S R (marked (0 :: f) (o :: rest)) a w := by
  refine ⟨undef, .inr ⟨hw, rfl⟩, ?_⟩
  have := K.put (d := o.dst) (by rw [hd]; exact hN) undef
  rw [hd] at this ⊢
  exact k _ this
theorem T_ac (K : Kd D a N l) (hw : Region.wanted o (yielded ops a.tmps) = true) (hd : o.dst = some d) (hN : Nat.blt d N = true) (h : Ac P o a w post) (k : ∀ v a' w', post v w' → Kd D a' N ((d, v) :: l) → S w' ∧ wpTl P ops S R (marked f rest) a' w') : wpTl P ops S R (marked (1 :: f) (o :: rest)) a w := by
  refine tl_act (n := true) hw fun Kc hK => h _ _ fun v w' hp => ?_
  have := K.put (d := o.dst) (by rw [hd]; exact hN) v
  rw [hd] at this ⊢
  obtain ⟨h1, h2⟩ := k v _ w' hp this
  exact hK _ _ (fun _ => h1) h2
theorem T_a0z (K : Kd D a N l) (hw : Region.wanted o (yielded ops a.tmps) = true) (hd : o.dst = none) (h : Ac P o a w post) (k : ∀ v a' w', post v w' → Kd D a' N l → wpTl P ops S R (marked f rest) a' w') : wpTl P ops S R (marked (2 :: f) (o :: rest)) a w := by
  refine tl_act (n := false) hw fun Kc hK => h _ _ fun v w' hp => ?_
  rw [hd]
  exact hK _ _ (fun h => by cases h) (k v _ w' hp K)
theorem T_end (h : R a w) : wpTl P ops S R (marked f []) a w := h
theorem X_cond {p q : Code} {b : Bool} (K : Kd D a N l) (hc : evo l x = some (.bool b)) (ht : b = true → p.wp P Q a w) (hf : b = false → q.wp P Q a w) : (Code.cond x p q).wp P Q a w := wp_cond_split (K.ev hc) ht hf
theorem X_loop {p : Code} {I : Nat → Act → World → Prop} (n : Nat) (h0 : I n a w) (hz : ∀ a w, ¬ I 0 a w) (round : ∀ n a w, I (n + 1) a w → p.wp P (Exit.then (I n) Q) a w) : (Code.loop p).wp P Q a w := by
  intro b k cs
  have key : ∀ n a w, I n a w → ∃ e a' w', Q e a' w' ∧ Arrives P (lone (b.at a (.code p :: .inLoop p :: k)) cs w) b k cs e a' w' := by
    intro n
    induction n with
    | zero => intro a w h; exact absurd h (hz a w)
    | succ n ih =>
      intro a w hI
      obtain ⟨e, a₁, w₁, hq, harr⟩ := round n a w hI b (.inLoop p :: k) cs
      cases e with
      | normal =>
        obtain ⟨e₂, a₂, w₂, hq₂, harr₂⟩ := ih a₁ w₁ hq
        exact ⟨e₂, a₂, w₂, hq₂, .of_steps (Steps.trans harr (.one step_inLoop)) harr₂⟩
      | exit id => exact ⟨_, a₁, w₁, hq, .pass (x := .inLoop p) rfl (fun _ _ => .inl (by simp)) harr⟩
      | goto l => exact ⟨_, a₁, w₁, hq, .pass (x := .inLoop p) rfl (fun _ _ => .inl (by simp)) harr⟩
      | ret => exact ⟨_, a₁, w₁, hq, .pass (x := .inLoop p) rfl (fun _ _ => .inl (by simp)) harr⟩
      | panic ch => exact ⟨_, a₁, w₁, hq, .pass (x := .inLoop p) rfl (fun _ _ => .inl (by simp)) harr⟩
      | outgrown => exact ⟨_, a₁, w₁, hq, .pass (x := .inLoop p) rfl (fun _ _ => .inl (by simp)) harr⟩
  obtain ⟨e, a', w', hq, harr⟩ := key n a w h0
  exact ⟨e, a', w', hq, .of_steps (.one step_loop) harr⟩
theorem X_enter {fn : Func} {code : Code} {fid : FuncId} {args : Array Value} {Rp : Ending → World → Prop} (hf : P.funcs[fid]? = some fn) (hb : fn.body = some code) (hN : fn.ntmps = N) (hs : Nat.ble args.size N = true)
    (h : ∀ a, Kn a N (kargs 0 args.toList) → code.wp P (bodyPost P fn Rp) a w) : Calls P fid args w Rp := by
  refine calls_of_wp hf hb ?_
  rw [hN]
  exact h _ (Kd.start args N hs)
def resOne (tmps : Array Value) : ResultVar → Sem Value
  | .tmp t => pure (tmps.getD t undef)
  | .cell a t => do loadVar t (← asAddr (tmps.getD a undef))
theorem results_def (fn : Func) (tmps : Array Value) : results fn tmps = (do let vs ← fn.results.mapM (resOne tmps); pure (if h : vs.size = 1 then vs[0] else .tuple vs)) := rfl
def ResOK (P : Program) (a : Act) (w : World) (r : ResultVar) (v : Value) : Prop := (resOne a.tmps r).run P w = .ok v w
theorem res_tmp (K : Kd D a N l) {s : Nat} (h : kget l s = some v) : ResOK P a w (.tmp s) v := by
  show (pure (a.tmps.getD s undef) : Sem Value).run P w = _
  rw [K.get s v h]; rfl
theorem ret0 {fn : Func} {Rp : Ending → World → Prop} (K : Kn a N l) (hr : fn.results = #[]) (h : Rp (.returned (.tuple #[])) w) : bodyPost P fn Rp .ret a w :=
  ⟨K.defs, .tuple #[], by rw [results_def, hr]; simp, h⟩
theorem ret1 {fn : Func} {Rp : Ending → World → Prop} {r1 : ResultVar} {v1 : Value} (K : Kn a N l) (hr : fn.results = #[r1]) (h1 : ResOK P a w r1 v1) (h : Rp (.returned v1) w) : bodyPost P fn Rp .ret a w := by
  refine ⟨K.defs, v1, ?_, h⟩
  unfold ResOK at h1
  rw [results_def, hr]; simp [h1]
theorem ret2 {fn : Func} {Rp : Ending → World → Prop} {r1 r2 : ResultVar} {v1 v2 : Value} (K : Kn a N l) (hr : fn.results = #[r1, r2]) (h1 : ResOK P a w r1 v1) (h2 : ResOK P a w r2 v2) (h : Rp (.returned (.tuple #[v1, v2])) w) : bodyPost P fn Rp .ret a w := by
  refine ⟨K.defs, .tuple #[v1, v2], ?_, h⟩
  unfold ResOK at h1 h2
  rw [results_def, hr]; simp [h1, h2]
theorem ret3 {fn : Func} {Rp : Ending → World → Prop} {r1 r2 r3 : ResultVar} {v1 v2 v3 : Value} (K : Kn a N l) (hr : fn.results = #[r1, r2, r3]) (h1 : ResOK P a w r1 v1) (h2 : ResOK P a w r2 v2) (h3 : ResOK P a w r3 v3) (h : Rp (.returned (.tuple #[v1, v2, v3])) w) : bodyPost P fn Rp .ret a w := by
  refine ⟨K.defs, .tuple #[v1, v2, v3], ?_, h⟩
  unfold ResOK at h1 h2 h3
  rw [results_def, hr]; simp [h1, h2, h3]
theorem ret_n {fn : Func} {Rp : Ending → World → Prop} (h : bodyPost P fn Rp .ret a w) : bodyPost P fn Rp .normal a w := h
end
section
variable {P : Program} {S : World → Prop} {D : List Deferred} {a : Act} {w : World} {N : Nat} {l : List (Nat × Value)} {o : Oper} {v v' : Value} {x : Operand} {k : IntKind} {m n : Int} {b b' : Bool} {ops : Array Oper} {Q : Exit → Act → World → Prop} {K : Act → World → Prop} {y : Code} {id id' : Nat}
theorem rdi (he : m = n) (h : Rd P S a o (.int k m)) : Rd P S a o (.int k n) := he ▸ h
theorem Kd.reb {s : Nat} (K : Kd D a N l) (h : kget l s = some (.bool b)) (hb : b = b') : Kd D a N ((s, .bool b') :: l) := K.sub fun t v ht => by
  simp only [kget] at ht
  by_cases hst : s = t
  · subst hst; simp at ht; rw [h, hb, ht]
  · rw [nbeq hst] at ht; exact ht
theorem X_condT {p q : Code} (K : Kd D a N l) (hc : evo l x = some (.bool true)) (h : p.wp P Q a w) : (Code.cond x p q).wp P Q a w := wp_cond (K.ev hc) h
theorem X_condF {p q : Code} (K : Kd D a N l) (hc : evo l x = some (.bool false)) (h : q.wp P Q a w) : (Code.cond x p q).wp P Q a w := wp_cond (K.ev hc) h
theorem X_reg {ol : List Oper} (h : wpList P ol.toArray Q ol a w) : (Code.region id ol.toArray false).wp P Q a w := wp_region_lit h
theorem then_n (h : K a w) : Exit.then K Q .normal a w := h
theorem then_e (h : Q (.exit id) a w) : Exit.then K Q (.exit id) a w := h
theorem then_r (h : Q .ret a w) : Exit.then K Q .ret a w := h
theorem inb_n (h : Q .normal a w) : Exit.inBlock id Q .normal a w := h
theorem inb_r (h : Q .ret a w) : Exit.inBlock id Q .ret a w := h
theorem inb_e (h : Q .normal a w) : Exit.inBlock id Q (.exit id) a w := by simp only [Exit.inBlock, if_true]; exact h
/-- A loop: the walk of a round, whatever comes behind it. -/
theorem X_lp {St Rt : Type} {Rel : St → Act → World → Prop} {kk : St → Option Rt} {lf : (St → Option Rt) → Nat → St → Option Rt} {r : Rt} {p : Code} {n : Nat} {st : St}
    (h : lf kk n st = some r) (hz : ∀ kk st, lf kk 0 st = none) (h0 : Rel st a w) (hk : ∀ st a w, Rel st a w → kk st = some r → Q (.exit id) a w)
    (round : ∀ (kk : St → Option Rt) n st a w, (∀ st a w, Rel st a w → kk st = some r → Q (.exit id) a w) → Rel st a w → lf kk (n + 1) st = some r → p.wp P (Exit.then (fun a w => ∃ st, Rel st a w ∧ lf kk n st = some r) Q) a w) : (Code.loop p).wp P Q a w := by
  refine X_loop (I := fun n a w => ∃ st, Rel st a w ∧ lf kk n st = some r) n ⟨st, h0, h⟩ (fun a w ⟨st, _, h⟩ => by rw [hz] at h; cases h) ?_
  rintro n a w ⟨st, hr, h⟩
  exact round kk n st a w hk hr h
theorem Mem.cap {base : Nat} {W : World} {L : List Ent} {e s n c : Nat} {A : Option Addr} {xs : List Value} (M : Mem base W w L) (i : Nat) (h : L[i]? = some (.row e s A n c xs)) : n ≤ c := by
  rcases (M.has i _ h).2 with ⟨hv, h0⟩ | ⟨g, cap, cur, hv, _, _, hnc, _⟩
  · omega
  · injection hv with _ _ e3; omega
end
section
variable {base : Nat} {W w : World} {L : List Ent} {g : Nat} {t : TypeId} {cs : List Value} {α : Type} {C : Cod α} {xs : List α}
theorem Mem.nilrow (e s : Nat) (C : Cod α) (M : Mem base W w L) : Mem base W w (.row e s none ([] : List α).length 0 (C.all []) :: L) :=
  M.cons (show Ent.holds w (.row e s none 0 0 []) from ⟨by simp, .inl ⟨rfl, rfl⟩⟩) fun g hg => by simp [Ent.foot] at hg
end
def cI (k : IntKind) : Cod Int := ⟨fun x => [.int k x], 1, fun _ => rfl, fun _ u h => by simp at h; subst h; rfl, by omega⟩
def cS : Cod (List UInt8) := ⟨fun x => [.string (bs x)], 1, fun _ => rfl, fun _ u h => by simp at h; subst h; rfl, by omega⟩
end Go.Proofs.YtpmnfhifmmfglacDoor

namespace Go.Proofs.YtpmnfhifmmfglacDoor
open Go.RowKit
section
variable {P : Program} {S : World → Prop} {base : Nat} {W w : World} {L : List Ent} {D : List Deferred} {a : Act} {N : Nat} {l : List (Nat × Value)} {o : Oper} {v v' : Value} {x y ix : Operand} {k : IntKind} {m n : Int} {b b' : Bool} {t e t' : TypeId} {s s' : List UInt8}
  {α : Type} {C : Cod α} {cs : List Value} {es : List α} {el : α} {g : Nat} {xs : List α}
theorem Mem.fin0 {W w : World} (h : Below W.heap.size W w) : Mem W.heap.size W w [] := ⟨h, KeepO.below h, Nat.le_refl _, fun i e he => by simp at he, fun i e g he => by simp at he, fun i j e e' g he => by simp at he⟩
theorem Mem.asRow {s n : Nat} (M : Mem base W w L) (i : Nat) (h : L[i]? = some (.blk g e cs)) (C : Cod α) (xs : List α) (hx : C.all xs = cs) (hn : xs.length = n) (hs : s = C.size) (hm : n ≤ maxLen := by decide) : Mem base W w (L.set i (.row e s (some ⟨g, 0, none⟩) xs.length n (C.all xs))) := by
  subst hs hn
  have hB := M.blkAt h
  refine M.turn i h (Below.refl _ _) ?_ (fun _ _ _ => rfl) (fun g' hg' => .inl (by simpa [Ent.foot] using hg'))
  refine ⟨by rw [Cod.all_len], .inr ⟨g, xs.length, cs.toArray, rfl, Nat.zero_le _, hB, Nat.le_refl _, hm, by simp [← hx, Cod.all_len], ?_⟩⟩
  rw [← hx, List.take_of_length_le (by simp [Cod.all_len])]
variable {ops : Array Oper} {Q : Exit → Act → World → Prop} {R : Act → World → Prop} {rest : List Oper} {d : Nat} {f : List Nat}
theorem T_no1 (K : Kd D a N l) (hw : Region.wanted o (yielded ops a.tmps) = false) (hd : o.dst = some d) (hN : Nat.blt d N = true) (hS : S w) (k : ∀ a', Kd D a' N ((d, undef) :: l) → wpTl P ops S R (marked f rest) a' w) : wpTl P ops S R (marked (1 :: f) (o :: rest)) a w := by
  have := K.put (d := o.dst) (by rw [hd]; exact hN) undef
  refine tl_act_no (n := true) hw (fun _ => hS) ?_
  rw [hd] at this ⊢
  exact k _ this
theorem setL_len {α : Type} {xs ys : List α} {i : Int} {x : α} (h : setL xs i x = some ys) : xs.length = ys.length := by
  obtain ⟨_, _, rfl⟩ := setL_spec h; simp
theorem X_inl {fid : FuncId} {cap vs : List Value} {args : Array Operand} {ts : Array TypeId} (K : Kd D a N l) (hw : Region.wanted o (yielded ops a.tmps) = true) (hd : o.dst = some d) (hN : Nat.blt d N = true)
    (ho : o.op = .call { callee := .value x, args := args, argTypes := ts }) (hf : FnOK P fid = true) (hx : evo l x = some (.func (.func fid) #[] cap.toArray)) (hargs : args.toList.map (evo l) = vs.map some)
    (h : Calls P fid (vs ++ cap).toArray w fun e w' => ∃ v, e = .returned v ∧ ∀ a', Kd D a' N ((d, v) :: l) → wpList P ops Q rest a' w') : wpList P ops Q (o :: rest) a w :=
  X_ac K hw hd hN (ac_call ho hf K hx hargs h) fun _ a' _ hp K' => hp a' K'
end
end Go.Proofs.YtpmnfhifmmfglacDoor

namespace Go.Proofs.YtpmnfhifmmfglacDoor
open Go.ChangeShapes Go.WideShapes Go.ChangeAt Go.RowKit Go.Joins Go.Deep
theorem list_of {α : Type} (Q : Nat → α → Prop) : ∀ n, (∀ i, i < n → ∃ x, Q i x) → ∃ xs : List α, xs.length = n ∧ ∀ i x, xs[i]? = some x → Q i x
  | 0, _ => ⟨[], rfl, fun i x h => by simp at h⟩
  | n + 1, h => by
    obtain ⟨xs, hl, hx⟩ := list_of Q n fun i hi => h i (by omega)
    obtain ⟨y, hy⟩ := h n (by omega)
    refine ⟨xs ++ [y], by simp [hl], fun i x hi => ?_⟩
    rw [List.getElem?_append] at hi
    split at hi
    · exact hx i x hi
    · rename_i hlt
      have : i = n := by
        have := (List.getElem?_eq_some_iff.1 hi).1
        simp at this; omega
      subst this
      rw [hl, Nat.sub_self] at hi
      simp at hi
      subst hi
      exact hy
section
variable {H : Type} {enc : TypeId × Value → H} {P : Program}
theorem open_codQ {α : Type} {C : Cod α} {Q : α → Prop} {W : World} {base : Nat} {sp : Nat → Bool} {held : Bool} {fuel : Nat} {cs : List Value} {x : DataW H × List MemPlace} {t e : TypeId} (ht : P.underlying t = some (.slice e)) (hC : P.cellsOf e = C.size)
    (hel : ∀ n cs' y, DataW.trod enc P W base sp held n e cs' = some y → ∃ el : α, cs' = C.enc el ∧ Q el) (h : DataW.trod enc P W base sp held fuel t cs = some x) :
    ∃ (A : Option Addr) (n c : Nat) (xs : List α), n = xs.length ∧ cs = [.slice A n c] ∧ SL W C A xs ∧ n ≤ c ∧ c ≤ maxLen ∧ ∀ y ∈ xs, Q y := by
  rcases open_slice ht h with ⟨rfl, _⟩ | ⟨a, len, cap, m, n, D, Pl, hcs, hb, hl, hm, hmm, hx, hi⟩
  · exact ⟨none, 0, 0, [], rfl, rfl, SL.nil, Nat.le_refl _, Nat.zero_le _, fun y hy => by cases hy⟩
  · rw [hC] at hi
    have hlm : len ≤ m := by rw [hmm]; split <;> omega
    obtain ⟨xs, hxl, hxs⟩ := list_of (fun i (el : α) => (∀ j u, (C.enc el)[j]? = some u → W.cell? ((a.add (i * C.size)).add j) = some u) ∧ Q el) len fun i hlt => by
      obtain ⟨cs', hc, ht'⟩ := hi i (by omega)
      obtain ⟨el, rfl, hq⟩ := hel _ _ _ ht'
      obtain ⟨_, hcl, hat⟩ := World.cells?_some hc
      refine ⟨el, fun j u hu => ?_, hq⟩
      have hj : j < C.size := by have := (List.getElem?_eq_some_iff.1 hu).1; rw [C.len] at this; exact this
      rw [hat j hj, hu]
    refine ⟨some a, len, cap, xs, hxl.symm, hcs, fun hn => ?_, hl, hm, fun y hy => ?_⟩
    · obtain ⟨b, o, s⟩ := a
      have hs : s = none := by
        have hx0 : xs[0]? = some xs[0] := List.getElem?_eq_getElem hn
        have hl0 : 0 < (C.enc xs[0]).length := by rw [C.len]; exact C.pos
        have := (hxs 0 _ hx0).1 0 _ (List.getElem?_eq_getElem hl0)
        simp only [Nat.zero_mul, Addr.add, if_true] at this
        cases s with
        | none => rfl
        | some s =>
          unfold World.cell? at this
          split at this
          · simp at this
          · cases this
      subst hs
      refine ⟨b, o, rfl, fun j u hu => ?_⟩
      obtain ⟨i, j', el, rfl, hel', hu'⟩ := Cod.all_inv C xs j u hu
      have := (hxs i el hel').1 j' u hu'
      have hadd : ((⟨b, o, none⟩ : Addr).add (i * C.size)).add j' = ⟨b, o + (i * C.size + j'), none⟩ := by
        have h1 : ∀ (p q : Nat), (⟨b, p, none⟩ : Addr).add q = ⟨b, p + q, none⟩ := fun p q => by unfold Addr.add; split <;> simp_all
        rw [h1, h1, Nat.add_assoc]
      rw [hadd] at this
      exact this
    · obtain ⟨i, hi', he⟩ := List.getElem_of_mem hy
      exact (hxs i y (by rw [← he]; exact List.getElem?_eq_getElem hi')).2
variable {W : World} {base : Nat} {sp : Nat → Bool} {held : Bool} {r : Reach} {b0 : Nat} {t : TypeId} {v : Value} {d : DataW H} {p : List MemPlace}
theorem top_slice {e : TypeId} (ht : P.underlying t = some (.slice e)) (hv : Value.okWide P W r b0 t v) (h : DataW.Trod enc P W base sp held t v d p) : ∃ u, v = u ∧ ∃ n y, DataW.trod enc P W base sp held n t [u] = some y := by
  obtain ⟨a, l, c, rfl⟩ := okWide_slice ht hv
  obtain ⟨fuel, hf⟩ := h
  exact ⟨_, rfl, fuel, _, hf⟩
theorem top_int {k : IntKind} (ht : P.underlying t = some (.int k)) (hv : Value.okWide P W r b0 t v) (h : DataW.Trod enc P W base sp held t v d p) : ∃ u, v = u ∧ ∃ n y, DataW.trod enc P W base sp held n t [u] = some y := by
  obtain ⟨s, rfl⟩ := okWide_int ht hv
  obtain ⟨fuel, hf⟩ := h
  exact ⟨_, rfl, fuel, _, hf⟩
end
section
variable {H : Type} {enc : TypeId × Value → H} {W : World} {base : Nat} {sp : Nat → Bool} {held : Bool}
set_option maxRecDepth 100000 in
theorem ot3 (n : Nat) (cs : List Value) (y) (h : DataW.trod enc Tryd.prog W base sp held n 3 cs = some y) : ∃ (x0 : Int), cs = [.int .i64 x0] ∧ wf64 x0 := by
  obtain ⟨z, rfl, _, wz⟩ := DataW.trod_int Tryd.underlying3 h
  exact ⟨z, rfl, wf64_of wz⟩
set_option maxRecDepth 100000 in
theorem ot22 (n : Nat) (cs : List Value) (y) (h : DataW.trod enc Tryd.prog W base sp held n 22 cs = some y) : ∃ (x0 : List Int) (A0 : Option Addr) (c0 : Nat), cs = [.slice A0 x0.length c0] ∧ (SL W (cI .i64) A0 x0 ∧ x0.length ≤ c0 ∧ c0 ≤ maxLen ∧ ∀ y ∈ x0, wf64 y) := by
  obtain ⟨A, n, c, xs, rfl, rfl, hr, hnc, hc, hq⟩ := open_codQ (C := (cI .i64)) (Q := fun y => wf64 y) Tryd.underlying22 (by kernel_rfl) (fun n cs' y h => by
    obtain ⟨ex0, rfl, ef0⟩ := ot3 n cs' y h
    exact ⟨ex0, rfl, ef0⟩) h
  exact ⟨xs, A, c, rfl, hr, hnc, hc, hq⟩
end
end Go.Proofs.YtpmnfhifmmfglacDoor

namespace Go.Proofs.YtpmnfhifmmfglacDoor
/-- A string behind another one: Go's own limit. -/
def addS (xs ys : List UInt8) : Option (List UInt8) := if xs.length + ys.length ≤ 9223372036854775807 then some (xs ++ ys) else none
theorem addS_spec {xs ys zs : List UInt8} (h : addS xs ys = some zs) : zs = xs ++ ys ∧ xs.length + ys.length ≤ 9223372036854775807 := by
  unfold addS at h
  split at h
  · rename_i h0; exact ⟨(Option.some.inj h).symm, h0⟩
  · cases h
/-- The bytes that numbers are. -/
def toB (ns : List Int) : List UInt8 := ns.map fun n => UInt8.ofNat n.toNat
/-- The numbers that bytes are. -/
def ofB (s : List UInt8) : List Int := s.map fun b => (b.toNat : Int)
end Go.Proofs.YtpmnfhifmmfglacDoor

namespace Go.Proofs.YtpmnfhifmmfglacDoor
/-- strings.Trim, where the letters to be cut are ASCII. -/
def D_strings_Trim (N : Nat) (s cutset : List UInt8) : Option (List UInt8) := if s.length ≤ 9223372036854775807 ∧ cutset.length < 4294967281 ∧ cutset.all (fun b => decide (b.toNat < 128)) = true then some (Go.Lib.trimS s cutset) else none
/-- strings.Count of one letter. -/
def D_strings_Count (N : Nat) (s substr : List UInt8) : Option Int := match substr with
  | [c] => some ((Go.Lib.countByte s c : Nat) : Int)
  | _ => none
/-- What a strings.Builder takes. -/
def bwr (xs ys : List UInt8) : Option (List UInt8) := if xs.length + ys.length ≤ 140737488355328 then some (xs ++ ys) else none
theorem bwr_spec {xs ys zs : List UInt8} (h : bwr xs ys = some zs) : zs = xs ++ ys ∧ xs.length + ys.length ≤ 140737488355328 := by
  unfold bwr at h
  split at h
  · rename_i h0; exact ⟨(Option.some.inj h).symm, h0⟩
  · cases h
end Go.Proofs.YtpmnfhifmmfglacDoor

namespace Go.Proofs.YtpmnfhifmmfglacDoor
def D_code_Check_l1 (N : Nat) (lens : List Int) (kk : (Int × Int) → Option Int) : Nat → (Int × Int) → Option Int
  | 0, _ => none
  | fuel + 1, (room, i) =>
    cond (decide (i < (lens.length : Int))) (
    Option.bind (idx lens i) fun e2 =>
    cond (decide (e2 < 0)) (
    some 3) (
    cond (decide (15 < e2)) (
    some 3) (
    cond (decide (0 < e2)) (
    Option.bind (nn (IntKind.i64.wrap (15 - e2))) fun _ =>
    Option.bind (some (IntKind.i64.wrap (room - (shlI .i64 1 (IntKind.i64.wrap (15 - e2)))))) fun room3 =>
    D_code_Check_l1 N lens kk fuel (room3, IntKind.i64.wrap (i + 1))) (
    D_code_Check_l1 N lens kk fuel (room, IntKind.i64.wrap (i + 1)))))) (
    kk (room, i))
def D_code_Check (N : Nat) (lens : List Int) : Option Int :=
  cond (decide ((lens.length : Int) < 1)) (
  some 2) (
  cond (decide (17 < (lens.length : Int))) (
  some 2) (
  D_code_Check_l1 N lens (fun (room4, i2) =>
  cond (decide (room4 < 0)) (
  some 1) (
  cond (decide (room4 = 32768)) (
  some 1) (
  some 0))) N (32768, 0)))
def D_cmp_isNaN_int (N : Nat) (x2 : Int) : Option Bool :=
  some (!decide (x2 = x2))
def D_cmp_Compare_int (N : Nat) (x2 : Int) (y : Int) : Option Int :=
  Option.bind (D_cmp_isNaN_int N x2) fun r2 =>
  Option.bind (D_cmp_isNaN_int N y) fun r3 =>
  cond (r2) (
  cond (r3) (
  some 0) (
  some ((-1)))) (
  cond (r3) (
  some 1) (
  cond (decide (x2 < y)) (
  some ((-1))) (
  cond (decide (y < x2)) (
  some 1) (
  some 0))))
def D_code_Words_1 (N : Nat) (a2 : Int) (b : Int) (v0 : List Int) : Option Int :=
  Option.bind (idx v0 a2) fun e =>
  Option.bind (idx v0 b) fun e2 =>
  Option.bind (D_cmp_Compare_int N e e2) fun r2 =>
  some r2
def D_bits_digits_l1 (N : Nat) (n : Int) (size : Int) (kk : (List Int × Int × Int) → Option (List UInt8)) : Nat → (List Int × Int × Int) → Option (List UInt8)
  | 0, _ => none
  | fuel + 1, (l3, i, i2) =>
    cond (decide (i2 < i)) (
    Option.bind (nn (IntKind.i64.wrap ((IntKind.i64.wrap (size - 1)) - i2))) fun _ =>
    Option.bind (idx ([48, 49] : List UInt8) (andI .i64 (shrI .i64 n (IntKind.i64.wrap ((IntKind.i64.wrap (size - 1)) - i2))) 1)) fun b2 =>
    Option.bind (idx l3 i2) fun e2 =>
    Option.bind (setL l3 i2 (b2.toNat : Int)) fun l5 =>
    D_bits_digits_l1 N n size kk fuel (l5, i, IntKind.i64.wrap (i2 + 1))) (
    kk (l3, i, i2))
def D_bits_digits (N : Nat) (n : Int) (size : Int) : Option (List UInt8) :=
  Option.bind (mk 1 size (0 : Int)) fun l2 =>
  D_bits_digits_l1 N n size (fun (l6, i3, i4) =>
  some (toB l6)) N (l2, (l2.length : Int), 0)
def D_bits_Number (N : Nat) (n : Int) (size : Int) : Option (List UInt8 × Int) :=
  cond (decide (size < 0)) (
  some (([] : List UInt8), 3)) (
  cond (decide (16 < size)) (
  some (([] : List UInt8), 3)) (
  cond (decide (n < 0)) (
  some (([] : List UInt8), 3)) (
  Option.bind (nn size) fun _ =>
  cond (decide ((shlI .i64 1 size) ≤ n)) (
  some (([] : List UInt8), 3)) (
  Option.bind (D_bits_digits N n size) fun r2 =>
  some (r2, 0)))))
def D_code_Words_l3 (N : Nat) (d : List Int) (kk : (List Int × Int) → Option (List (List UInt8) × Int)) : Nat → (List Int × Int) → Option (List (List UInt8) × Int)
  | 0, _ => none
  | fuel + 1, (l13, j4) =>
    cond (decide (0 < j4)) (
    Option.bind (idx l13 j4) fun e20 =>
    Option.bind (idx l13 (IntKind.i64.wrap (j4 - 1))) fun e21 =>
    Option.bind (D_code_Words_1 N e20 e21 d) fun r5 =>
    cond (decide (r5 < 0)) (
    Option.bind (idx l13 (IntKind.i64.wrap (j4 - 1))) fun e22 =>
    Option.bind (idx l13 j4) fun e23 =>
    Option.bind (idx l13 j4) fun e24 =>
    Option.bind (setL l13 j4 e22) fun l18 =>
    Option.bind (idx l18 (IntKind.i64.wrap (j4 - 1))) fun e25 =>
    Option.bind (setL l18 (IntKind.i64.wrap (j4 - 1)) e23) fun l19 =>
    Option.bind (some (IntKind.i64.wrap (j4 - 1))) fun j7 =>
    D_code_Words_l3 N d kk fuel (l19, j7)) (
    kk (l13, j4))) (
    kk (l13, j4))
def D_code_Words_l4 (N : Nat) (d : List Int) (l23 : List Int) (kk : (List (List UInt8) × Int × Int) → Option (List (List UInt8) × Int)) : Nat → (List (List UInt8) × Int × Int) → Option (List (List UInt8) × Int)
  | 0, _ => none
  | fuel + 1, (l25, i8, i9) =>
    cond (decide (i9 < (l23.length : Int))) (
    Option.bind (idx l23 i9) fun e33 =>
    Option.bind (idx d e33) fun e34 =>
    Option.bind (nn (IntKind.i64.wrap (15 - e34))) fun _ =>
    Option.bind (idx d e33) fun e35 =>
    Option.bind (D_bits_Number N (shrI .i64 i8 (IntKind.i64.wrap (15 - e34))) e35) fun r7 =>
    Option.bind (idx l25 e33) fun e36 =>
    Option.bind (setL l25 e33 r7.1) fun l27 =>
    Option.bind (idx d e33) fun e37 =>
    Option.bind (nn (IntKind.i64.wrap (15 - e37))) fun _ =>
    Option.bind (some (IntKind.i64.wrap (i8 + (shlI .i64 1 (IntKind.i64.wrap (15 - e37)))))) fun x4 =>
    D_code_Words_l4 N d l23 kk fuel (l27, x4, IntKind.i64.wrap (i9 + 1))) (
    kk (l25, i8, i9))
def D_code_Words_l2 (N : Nat) (d : List Int) (kk : (List Int × Int × Int) → Option (List (List UInt8) × Int)) : Nat → (List Int × Int × Int) → Option (List (List UInt8) × Int)
  | 0, _ => none
  | fuel + 1, (l7, b, i4) =>
    cond (decide (i4 < b)) (
    D_code_Words_l3 N d (fun (l22, j9) =>
    Option.bind (some (IntKind.i64.wrap (i4 + 1))) fun i6 =>
    D_code_Words_l2 N d kk fuel (l22, b, i6)) N (l7, i4)) (
    kk (l7, b, i4))
def D_code_Words_l1 (N : Nat) (d : List Int) (kk : (List Int × Int) → Option (List (List UInt8) × Int)) : Nat → (List Int × Int) → Option (List (List UInt8) × Int)
  | 0, _ => none
  | fuel + 1, (l3, i) =>
    cond (decide (i < (d.length : Int))) (
    Option.bind (idx d i) fun e3 =>
    cond (decide (0 < e3)) (
    Option.bind (app 8 l3 ([i] : List Int)) fun l5 =>
    D_code_Words_l1 N d kk fuel (l5, IntKind.i64.wrap (i + 1))) (
    D_code_Words_l1 N d kk fuel (l3, IntKind.i64.wrap (i + 1)))) (
    kk (l3, i))
def D_code_Words (N : Nat) (d : List Int) : Option (List (List UInt8) × Int) :=
  Option.bind (D_code_Check N d) fun r2 =>
  cond (!decide (r2 = 0)) (
  some (([] : List (List UInt8)), r2)) (
  D_code_Words_l1 N d (fun (l6, i2) =>
  cond (decide (20 ≤ (l6.length : Int))) none (
  Option.bind (some (IntKind.i64.wrap (0 + 1))) fun i3 =>
  D_code_Words_l2 N d (fun (l23, b2, i7) =>
  Option.bind (sameL l6 l23) fun _ =>
  cond (decide (20 < (l23.length : Int))) none (
  Option.bind (sameL l6 l23) fun _ =>
  Option.bind (sameL l6 l23) fun _ =>
  Option.bind (some ((d.length : Int))) fun x2 =>
  Option.bind (mk 16 x2 (([] : List UInt8) : List UInt8)) fun l24 =>
  D_code_Words_l4 N d l23 (fun (l28, i10, i11) =>
  some (l28, 0)) N (l24, 0, 0))) N (l6, (l6.length : Int), i3))) N (([] : List Int), 0))
def D_code_Write_l1 (N : Nat) (l2 : List Int) (r2 : List (List UInt8) × Int) (kk : (List UInt8 × Int) → Option (List UInt8 × Int)) : Nat → (List UInt8 × Int) → Option (List UInt8 × Int)
  | 0, _ => none
  | fuel + 1, (l3, i) =>
    cond (decide (i < (l2.length : Int))) (
    Option.bind (idx l2 i) fun e4 =>
    cond (decide (e4 < 0)) (
    some (([] : List UInt8), 4)) (
    cond (decide ((r2.1.length : Int) ≤ e4)) (
    some (([] : List UInt8), 4)) (
    Option.bind (idx r2.1 e4) fun e5 =>
    cond (decide (e5 = ([] : List UInt8))) (
    some (([] : List UInt8), 4)) (
    Option.bind (idx r2.1 e4) fun e6 =>
    Option.bind (bwr l3 e6) fun b2 =>
    D_code_Write_l1 N l2 r2 kk fuel (b2, IntKind.i64.wrap (i + 1)))))) (
    kk (l3, i))
def D_code_Write (N : Nat) (lens : List Int) (l2 : List Int) : Option (List UInt8 × Int) :=
  Option.bind (D_code_Words N lens) fun r2 =>
  cond (!decide (r2.2 = 0)) (
  some (([] : List UInt8), r2.2)) (
  cond (decide (4096 < (l2.length : Int))) (
  some (([] : List UInt8), 2)) (
  D_code_Write_l1 N l2 r2 (fun (l4, i2) =>
  some (l4, 0)) N (([] : List UInt8), 0)))
def D_bits_all (N : Nat) (b : List UInt8) : Option Bool :=
  Option.bind (D_strings_Trim N b ([48, 49] : List UInt8)) fun r2 =>
  cond (decide (r2 = ([] : List UInt8))) (
  Option.bind (D_strings_Count N b ([48] : List UInt8)) fun r3 =>
  Option.bind (D_strings_Count N b ([49] : List UInt8)) fun r4 =>
  some (decide ((IntKind.i64.wrap (r3 + r4)) = (b.length : Int)))) (
  some false)
def D_bits_Bytes_l1 (N : Nat) (b : List UInt8) (kk : (List Int × Int) → Option (List UInt8 × Int)) : Nat → (List Int × Int) → Option (List UInt8 × Int)
  | 0, _ => none
  | fuel + 1, (l3, i) =>
    cond (decide (i < (b.length : Int))) (
    Option.bind (some (IntKind.i64.wrap (Int.tdiv i 8))) fun x4 =>
    Option.bind (idx l3 x4) fun e3 =>
    Option.bind (idx b i) fun b3 =>
    Option.bind (nn (IntKind.i64.wrap (7 - (Int.tmod i 8)))) fun _ =>
    Option.bind (idx l3 x4) fun e4 =>
    Option.bind (setL l3 x4 (orI .u8 e3 (shlI .u8 (IntKind.u8.wrap ((b3.toNat : Int) - 48)) (IntKind.i64.wrap (7 - (Int.tmod i 8)))))) fun l5 =>
    D_bits_Bytes_l1 N b kk fuel (l5, IntKind.i64.wrap (i + 1))) (
    kk (l3, i))
def D_bits_Bytes (N : Nat) (b : List UInt8) : Option (List UInt8 × Int) :=
  Option.bind (D_bits_all N b) fun r2 =>
  cond (!(r2)) (
  some (([] : List UInt8), 1)) (
  Option.bind (some (IntKind.i64.wrap (Int.tdiv (IntKind.i64.wrap ((b.length : Int) + 7)) 8))) fun x2 =>
  Option.bind (mk 1 x2 (0 : Int)) fun l2 =>
  D_bits_Bytes_l1 N b (fun (l6, i2) =>
  some (toB l6, 0)) N (l2, 0))
def D_code_Read_l2 (N : Nat) (e2 : List UInt8) (kk : (List (List UInt8 × Int) × Int) → Option (List Int × List UInt8 × Int)) : Nat → (List (List UInt8 × Int) × Int) → Option (List Int × List UInt8 × Int)
  | 0, _ => none
  | fuel + 1, (m5, i3) =>
    cond (decide (i3 < (e2.length : Int))) (
    Option.bind (sli e2 0 i3) fun s5 =>
    Option.bind (mlook m5 s5) fun q3 =>
    cond (!(q3.2)) (
    Option.bind (sli e2 0 i3) fun s6 =>
    Option.bind (mput m5 s6 (-1)) fun m7 =>
    D_code_Read_l2 N e2 kk fuel (m7, IntKind.i64.wrap (i3 + 1))) (
    D_code_Read_l2 N e2 kk fuel (m5, IntKind.i64.wrap (i3 + 1)))) (
    kk (m5, i3))
def D_code_Read_l4 (N : Nat) (m10 : List (List UInt8 × Int)) (o2 : List UInt8) (kk : (Int × Int) → Option (List Int × List UInt8 × Int)) : Nat → (Int × Int) → Option (List Int × List UInt8 × Int)
  | 0, _ => none
  | fuel + 1, (i10, i11) =>
    cond (decide (i11 < 0)) (
    Option.bind (sli o2 0 i10) fun s12 =>
    Option.bind (mlook m10 s12) fun q7 =>
    cond (!(q7.2)) (
    some (([] : List Int), ([] : List UInt8), 4)) (
    cond (decide (0 ≤ q7.1)) (
    D_code_Read_l4 N m10 o2 kk fuel (i10, q7.1)) (
    cond (decide (i10 = (o2.length : Int))) (
    some (([] : List Int), ([] : List UInt8), 5)) (
    Option.bind (some (IntKind.i64.wrap (i10 + 1))) fun x5 =>
    D_code_Read_l4 N m10 o2 kk fuel (x5, i11))))) (
    kk (i10, i11))
def D_code_Read_l3 (N : Nat) (p2 : Int) (m10 : List (List UInt8 × Int)) (kk : (List Int × List UInt8) → Option (List Int × List UInt8 × Int)) : Nat → (List Int × List UInt8) → Option (List Int × List UInt8 × Int)
  | 0, _ => none
  | fuel + 1, (l3, o2) =>
    cond (decide ((l3.length : Int) < p2)) (
    D_code_Read_l4 N m10 o2 (fun (i12, i13) =>
    Option.bind (app 8 l3 ([i13] : List Int)) fun l5 =>
    Option.bind (sli o2 i12 (o2.length : Int)) fun s13 =>
    D_code_Read_l3 N p2 m10 kk fuel (l5, s13)) N (0, (-1))) (
    kk (l3, o2))
def D_code_Read_l1 (N : Nat) (r2 : List (List UInt8) × Int) (kk : (List (List UInt8 × Int) × Int) → Option (List Int × List UInt8 × Int)) : Nat → (List (List UInt8 × Int) × Int) → Option (List Int × List UInt8 × Int)
  | 0, _ => none
  | fuel + 1, (m, i) =>
    cond (decide (i < (r2.1.length : Int))) (
    Option.bind (idx r2.1 i) fun e2 =>
    D_code_Read_l2 N e2 (fun (m8, i4) =>
    cond (!decide (e2 = ([] : List UInt8))) (
    Option.bind (mput m8 e2 i) fun m9 =>
    D_code_Read_l1 N r2 kk fuel (m9, IntKind.i64.wrap (i + 1))) (
    D_code_Read_l1 N r2 kk fuel (m8, IntKind.i64.wrap (i + 1)))) N (m, 0)) (
    kk (m, i))
def D_code_Read (N : Nat) (d : List Int) (o : List UInt8) (p2 : Int) : Option (List Int × List UInt8 × Int) :=
  Option.bind (D_code_Words N d) fun r2 =>
  cond (!decide (r2.2 = 0)) (
  some (([] : List Int), ([] : List UInt8), r2.2)) (
  cond (decide (p2 < 0)) (
  some (([] : List Int), ([] : List UInt8), 3)) (
  cond (decide (4096 < p2)) (
  some (([] : List Int), ([] : List UInt8), 3)) (
  Option.bind (D_bits_Bytes N o) fun r3 =>
  cond (!decide (r3.2 = 0)) (
  some (([] : List Int), ([] : List UInt8), 1)) (
  D_code_Read_l1 N r2 (fun (m10, i5) =>
  D_code_Read_l3 N p2 m10 (fun (l6, o3) =>
  some (l6, o3, 0)) N (([] : List Int), o)) N (([] : List (List UInt8 × Int)), 0)))))
def D_darkslideref_IsRow_l1 (N : Nat) (b : List UInt8) (kk : Int → Option Bool) : Nat → Int → Option Bool
  | 0, _ => none
  | fuel + 1, i =>
    cond (decide (i < (b.length : Int))) (
    Option.bind (idx b i) fun b4 =>
    cond (!decide ((b4.toNat : Int) = 48)) (
    Option.bind (idx b i) fun b5 =>
    cond (!decide ((b5.toNat : Int) = 49)) (
    some false) (
    Option.bind (some (IntKind.i64.wrap (i + 1))) fun i4 =>
    D_darkslideref_IsRow_l1 N b kk fuel i4)) (
    Option.bind (some (IntKind.i64.wrap (i + 1))) fun i5 =>
    D_darkslideref_IsRow_l1 N b kk fuel i5)) (
    kk i)
def D_darkslideref_IsRow (N : Nat) (b : List UInt8) : Option Bool :=
  D_darkslideref_IsRow_l1 N b (fun i6 =>
  some true) N 0
def D_darkslidelaw_lens (N : Nat)  : Option (List Int) :=
  some (([1, 2, 2] : List Int))
def D_darkslideref_SameInts_l1 (N : Nat) (a2 : List Int) (b : List Int) (kk : Int → Option Bool) : Nat → Int → Option Bool
  | 0, _ => none
  | fuel + 1, i =>
    cond (decide (i < (a2.length : Int))) (
    Option.bind (idx a2 i) fun e3 =>
    Option.bind (idx b i) fun e4 =>
    cond (!decide (e3 = e4)) (
    some false) (
    Option.bind (some (IntKind.i64.wrap (i + 1))) fun i3 =>
    D_darkslideref_SameInts_l1 N a2 b kk fuel i3)) (
    kk i)
def D_darkslideref_SameInts (N : Nat) (a2 : List Int) (b : List Int) : Option Bool :=
  cond (!decide ((a2.length : Int) = (b.length : Int))) (
  some false) (
  D_darkslideref_SameInts_l1 N a2 b (fun i4 =>
  some true) N 0)
def D_darkslidelaw_codeBegun (N : Nat)  : Option Bool :=
  Option.bind (D_darkslidelaw_lens N ) fun r2 =>
  Option.bind (D_code_Words N r2) fun r3 =>
  Option.bind (D_darkslidelaw_lens N ) fun r4 =>
  Option.bind (D_code_Write N r4 ([2, 0, 1] : List Int)) fun r5 =>
  Option.bind (D_darkslidelaw_lens N ) fun r6 =>
  Option.bind (D_code_Read N r6 ([49, 49, 48, 49, 48] : List UInt8) 2) fun r7 =>
  cond (decide (r3.2 = 0)) (
  cond (decide (r5.2 = 0)) (
  cond (decide (r7.2.2 = 0)) (
  cond (decide ((r3.1.length : Int) = 3)) (
  Option.bind (idx r3.1 0) fun e =>
  cond (decide (e = ([48] : List UInt8))) (
  Option.bind (idx r3.1 1) fun e2 =>
  cond (decide (e2 = ([49, 48] : List UInt8))) (
  Option.bind (idx r3.1 2) fun e3 =>
  cond (decide (e3 = ([49, 49] : List UInt8))) (
  cond (decide (r5.1 = ([49, 49, 48, 49, 48] : List UInt8))) (
  Option.bind (D_darkslideref_SameInts N r7.1 ([2, 0] : List Int)) fun r8 =>
  cond (r8) (
  cond (decide (r7.2.1 = ([49, 48] : List UInt8))) (
  Option.bind (D_code_Check N ([1, 1, 1] : List Int)) fun r9 =>
  some (decide (r9 = 1))) (
  some false)) (
  some false)) (
  some false)) (
  some false)) (
  some false)) (
  some false)) (
  some false)) (
  some false)) (
  some false)) (
  some false)
def D_darkslidelaw_choose (N : Nat) (c : Int) (n : Int) : Option Int :=
  cond (decide (c < 0)) (
  Option.bind (some (IntKind.i64.wrap (0 - (IntKind.i64.wrap (c + 1))))) fun c2 =>
  Option.bind (nz n) fun _ =>
  some (Int.tmod c2 n)) (
  Option.bind (nz n) fun _ =>
  some (Int.tmod c n))
def D_darkslidelaw_CodeBack_j3 (N : Nat) (r3 : List (List UInt8) × Int) (r4 : Int) (r5 : Int) (kk_darkslidelaw_CodeBack_j3 : Bool → Option Bool) : Option Bool :=
    cond (!decide (r4 = r5)) (
    Option.bind (idx r3.1 r4) fun e =>
    cond (!decide (e = ([] : List UInt8))) (
    Option.bind (idx r3.1 r4) fun e2 =>
    Option.bind (idx r3.1 r5) fun e3 =>
    cond (decide ((e2.length : Int) ≤ (e3.length : Int))) (
    Option.bind (idx r3.1 r5) fun e4 =>
    Option.bind (idx r3.1 r4) fun e5 =>
    Option.bind (sli e4 0 (e5.length : Int)) fun s =>
    Option.bind (idx r3.1 r4) fun e6 =>
    kk_darkslidelaw_CodeBack_j3 (decide (s = e6))) (
    kk_darkslidelaw_CodeBack_j3 false)) (
    kk_darkslidelaw_CodeBack_j3 false)) (
    kk_darkslidelaw_CodeBack_j3 false)
def D_darkslidelaw_CodeBack_j2 (N : Nat) (d : List Int) (r3 : List (List UInt8) × Int) (kk_darkslidelaw_CodeBack_j2 : Bool → Option Bool) : Option Bool :=
    cond (!decide ((r3.1.length : Int) = (d.length : Int))) (
    kk_darkslidelaw_CodeBack_j2 true) (
    kk_darkslidelaw_CodeBack_j2 (decide ((d.length : Int) = 0)))
def D_darkslidelaw_CodeBack_j5 (N : Nat) (o : List Int) (p2 : List UInt8) (r8 : List Int × List UInt8 × Int) (kk_darkslidelaw_CodeBack_j5 : Bool → Option Bool) : Option Bool :=
    Option.bind (D_darkslidelaw_codeBegun N ) fun r9 =>
    cond (r9) (
    cond (decide (r8.2.2 = 0)) (
    cond (decide (r8.2.1 = p2)) (
    Option.bind (D_darkslideref_SameInts N r8.1 o) fun r10 =>
    kk_darkslidelaw_CodeBack_j5 r10) (
    kk_darkslidelaw_CodeBack_j5 false)) (
    kk_darkslidelaw_CodeBack_j5 false)) (
    kk_darkslidelaw_CodeBack_j5 false)
def D_darkslidelaw_CodeBack_j4 (N : Nat) (p2 : List UInt8) (r2 : List UInt8 × Int) (kk_darkslidelaw_CodeBack_j4 : Bool → Option Bool) : Option Bool :=
    cond (!decide (r2.2 = 0)) (
    kk_darkslidelaw_CodeBack_j4 true) (
    Option.bind (D_darkslideref_IsRow N p2) fun r6 =>
    kk_darkslidelaw_CodeBack_j4 (!(r6)))
def D_darkslidelaw_CodeBack_j1 (N : Nat) (d : List Int) (p3 : Int) (p4 : Int) (r3 : List (List UInt8) × Int) (kk_darkslidelaw_CodeBack_j1 : Unit → Option Bool) : Option Bool :=
    cond (decide (r3.2 = 0)) (
    D_darkslidelaw_CodeBack_j2 N d r3 (fun i2 =>
    cond (i2) (
    some false) (
    Option.bind (D_darkslidelaw_choose N p3 (r3.1.length : Int)) fun r4 =>
    Option.bind (D_darkslidelaw_choose N p4 (r3.1.length : Int)) fun r5 =>
    D_darkslidelaw_CodeBack_j3 N r3 r4 r5 (fun i4 =>
    cond (i4) (
    some false) (
    kk_darkslidelaw_CodeBack_j1 ()))))) (
    kk_darkslidelaw_CodeBack_j1 ())
def D_darkslidelaw_CodeBack (N : Nat) (d : List Int) (o : List Int) (p2 : List UInt8) (p3 : Int) (p4 : Int) : Option Bool :=
  Option.bind (D_code_Write N d o) fun r2 =>
  Option.bind (D_code_Words N d) fun r3 =>
  D_darkslidelaw_CodeBack_j1 N d p3 p4 r3 (fun _ =>
  D_darkslidelaw_CodeBack_j4 N p2 r2 (fun i6 =>
  cond (i6) (
  Option.bind (D_darkslidelaw_codeBegun N ) fun r7 =>
  some r7) (
  Option.bind (addS r2.1 p2) fun s2 =>
  Option.bind (D_code_Read N d s2 (o.length : Int)) fun r8 =>
  D_darkslidelaw_CodeBack_j5 N o p2 r8 (fun i8 =>
  some i8))))
end Go.Proofs.YtpmnfhifmmfglacDoor

namespace Go.Proofs.YtpmnfhifmmfglacDoor
open Go
theorem w64 {x : Int} (h : -9223372036854775808 ≤ x ∧ x ≤ 9223372036854775807) : IntKind.i64.wrap x = x := IntWalk.i64_in x h
theorem idx_nat {α : Type} (xs : List α) (k : Nat) : idx xs (k : Int) = xs[k]? := by simp [idx]
theorem sli_eq {α : Type} {xs : List α} {p q : Int} (h : 0 ≤ p ∧ p ≤ q ∧ q ≤ xs.length) : sli xs p q = some ((xs.take q.toNat).drop p.toNat) := by unfold sli; rw [if_pos h]
theorem app_eq {α : Type} {b : Nat} {xs ys : List α} (h : (xs.length + ys.length) * b ≤ 140737488355328) : app b xs ys = some (xs ++ ys) := by unfold app; rw [if_pos h]
theorem mk_eq {α : Type} {b : Nat} {n : Int} {z : α} (h : 0 ≤ n ∧ n * b ≤ 281474976710656) : mk b n z = some (List.replicate n.toNat z) := by unfold mk; rw [if_pos h]
theorem setL_eq {α : Type} {xs : List α} {i : Int} {x : α} (h : 0 ≤ i ∧ i < xs.length) : setL xs i x = some (xs.set i.toNat x) := by unfold setL; rw [if_pos h]
theorem nz_eq {n : Int} (h : n ≠ 0) : nz n = some () := by unfold nz; rw [if_neg h]
theorem bsome {α β : Type} (x : α) (f : α → Option β) : Option.bind (some x) f = f x := rfl
theorem cT {α : Type} {b : Bool} (h : b = true) (x y : α) : cond b x y = x := by rw [h]; rfl
theorem cF {α : Type} {b : Bool} (h : b = false) (x y : α) : cond b x y = y := by rw [h]; rfl
theorem dT {p : Prop} [Decidable p] (h : p) : decide p = true := decide_eq_true h
theorem dF {p : Prop} [Decidable p] (h : ¬ p) : decide p = false := decide_eq_false h
end Go.Proofs.YtpmnfhifmmfglacDoor
