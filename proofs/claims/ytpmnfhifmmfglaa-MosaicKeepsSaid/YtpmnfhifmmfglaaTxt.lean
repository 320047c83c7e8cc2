/- A region that draws its order, walked once in the order of its text. Conditions: its reading operations read the same in every world that meets S; the others stand in one chain and keep S as long as a reading one may follow. -/
import Derived.Orders
import Derived.Tactics
set_option linter.unusedVariables false
set_option linter.unusedSimpArgs false
set_option linter.unusedSectionVars false
namespace Go.Proofs.Ytpmnfhifmmfglaa
open Go
section
variable {P : Program} {ops : Array Oper} {Q : Exit → Act → World → Prop} {S : World → Prop}

/-- No way out but the straight one. -/
def NoOut : Exit → Act → World → Prop := fun _ _ _ => False

/-- In every world that meets S the operation gives v and turns nothing. -/
def YldS (P : Program) (ops : Array Oper) (S : World → Prop) (o : Oper) (v : Value) (a : Act) : Prop :=
  (Region.wanted o (yielded ops a.tmps) = true ∧ ∀ w, S w → (execOp a.eval o).run P w = .ok (.value v) w) ∨
  (Region.wanted o (yielded ops a.tmps) = false ∧ v = undef)

theorem YldS.same {o : Oper} {v : Value} {a a' : Act} (hy : YldS P ops S o v a) (he : execOp a'.eval o = execOp a.eval o)
    (hw : Region.wanted o (yielded ops a'.tmps) = Region.wanted o (yielded ops a.tmps)) : YldS P ops S o v a' := by
  unfold YldS at *
  rw [he, hw]
  exact hy

theorem YldS.uniq {o : Oper} {v u : Value} {a : Act} {w : World} (hS : S w) (h : YldS P ops S o v a) (h' : YldS P ops S o u a) : v = u := by
  rcases h with ⟨h1, h2⟩ | ⟨h1, h2⟩ <;> rcases h' with ⟨h3, h4⟩ | ⟨h3, h4⟩
  · have := (h2 w hS).symm.trans (h4 w hS)
    injection this with e _
    injection e
  · rw [h1] at h3; cases h3
  · rw [h1] at h3; cases h3
  · rw [h2, h4]

theorem YldS.run {i : Nat} {o : Oper} {v : Value} {a : Act} (hi : ops[i]? = some o) (hy : YldS P ops S o v a) {w : World} (hS : S w) {K : Act → World → Prop}
    (h : K (a.put o.dst v) w) : wpOp P ops Q i K a w := by
  unfold Go.wpOp
  simp only [hi]
  rcases hy with ⟨hw, hv⟩ | ⟨hw, rfl⟩
  · simp only [hw, if_true, Oper.wp, hv w hS, Oper.upon]; exact .inl h
  · simp only [hw, Bool.false_eq_true, if_false]; exact h

theorem lets_noOut {p : Prop} (h : LetsOut NoOut) : p := by
  obtain ⟨_, _, h⟩ := h
  exact h.elim

/-- What is reached: at least one end. -/
theorem wpOp_some {j : Nat} {K : Act → World → Prop} {a : Act} {w : World} (h : wpOp P ops NoOut j K a w) : ∃ a' w', K a' w' := by
  unfold wpOp at h
  split at h
  · exact ⟨_, _, h⟩
  · split at h
    · rcases h with h | ⟨_, h⟩
      · unfold Oper.wp at h
        generalize (execOp a.eval _).run P w = r at h
        cases r with
        | ok n w' =>
          cases n <;> simp only [Oper.upon] at h
          case value => exact ⟨_, _, h⟩
          case skip => exact ⟨_, _, h⟩
          case defer => exact ⟨_, _, h⟩
          case enter f args =>
            obtain ⟨e, w', _, hR, _⟩ := h []
            cases e with
            | returned v => exact ⟨_, _, hR⟩
            | panicked c => exact hR.elim
            | outgrown => exact lets_noOut hR
          case row row args =>
            obtain ⟨v, w', hR, _⟩ := h default []
            exact ⟨_, _, hR⟩
          all_goals exact h.elim
        | halt x w' => cases x <;> simp only [Oper.upon] at h <;> exact h.elim
      · exact lets_noOut h
    · exact ⟨_, _, h⟩

/-- An operation behind a slot that it neither reads nor writes. -/
theorem wpOp_behind {j : Nat} {oi oj : Oper} {v : Value} (hj : ops[j]? = some oj) (hap : oi.apart ops oj = true)
    (hsj : ∀ cs b, oj.op ≠ .select cs b) {K : Act → World → Prop} {a : Act} {w : World}
    (h : wpOp P ops NoOut j (fun a' w' => K (a'.put oi.dst v) w') a w) : wpOp P ops NoOut j K (a.put oi.dst v) w := by
  obtain ⟨h1, h2, h3⟩ := Oper.apart_spec hap
  unfold wpOp at *
  simp only [hj] at *
  rw [wanted_put oj a oi.dst v h1]
  split
  · rename_i hw
    simp only [hw, if_true] at h
    rcases h with h | ⟨_, hl⟩
    case inr => exact lets_noOut hl
    refine .inl ?_
    unfold Oper.wp at *
    rw [execOp_put oj hsj a oi.dst v h1]
    generalize (execOp a.eval oj).run P w = r at *
    cases r with
    | ok n w' =>
      cases n <;> simp only [Oper.upon] at h ⊢
      case value u => rw [Act.put_comm a v u h2]; exact h
      case skip => rw [Act.put_comm a v undef h2]; exact h
      case defer d => rw [Act.put_defers, Act.put_comm _ v undef h2]; exact h
      case enter f args =>
        refine Calls.mono h fun e w'' he => ?_
        cases e with
        | returned u => show K _ _; rw [Act.put_comm a v u h2]; exact he
        | panicked c => exact he
        | outgrown => exact he
      case row row args => exact Rows.mono h fun u w'' he => by rw [Act.put_comm a v u h2]; exact he
    | halt x w' => cases x <;> simp only [Oper.upon] at h ⊢; exact h
  · rename_i hw
    simp only [hw] at h
    rw [Act.put_comm a v undef h2]
    exact h

/-- An operation ahead of a reading one: the value that this one will read is the same. -/
theorem wpOp_ahead {j : Nat} {oi oj : Oper} {v : Value} (hj : ops[j]? = some oj) (hap : oi.apart ops oj = true)
    (hsi : ∀ cs b, oi.op ≠ .select cs b) (hsj : ∀ cs b, oj.op ≠ .select cs b) {K : Act → World → Prop} {a : Act} {w : World}
    (hy : YldS P ops S oi v a) (h : wpOp P ops NoOut j K (a.put oi.dst v) w) :
    wpOp P ops NoOut j (fun a' w' => YldS P ops S oi v a' ∧ K (a'.put oi.dst v) w') a w := by
  obtain ⟨h1, h2, h3⟩ := Oper.apart_spec hap
  have keep : ∀ (a : Act), YldS P ops S oi v a → ∀ u, YldS P ops S oi v (a.put oj.dst u) := fun a hy u =>
    hy.same (execOp_put oi hsi a oj.dst u h3) (wanted_put oi a oj.dst u h3)
  have keepD : ∀ d, YldS P ops S oi v { a with defers := d :: a.defers } := fun d => hy.same rfl rfl
  unfold wpOp at *
  simp only [hj] at *
  rw [wanted_put oj a oi.dst v h1] at h
  split
  · rename_i hw
    simp only [hw, if_true] at h
    rcases h with h | ⟨_, hl⟩
    case inr => exact lets_noOut hl
    refine .inl ?_
    unfold Oper.wp at *
    rw [execOp_put oj hsj a oi.dst v h1] at h
    generalize (execOp a.eval oj).run P w = r at *
    cases r with
    | ok n w' =>
      cases n <;> simp only [Oper.upon] at h ⊢
      case value u => exact ⟨keep a hy u, by rw [← Act.put_comm a v u h2]; exact h⟩
      case skip => exact ⟨keep a hy _, by rw [← Act.put_comm a v undef h2]; exact h⟩
      case defer d =>
        refine ⟨keep _ (keepD d) _, ?_⟩
        rw [← Act.put_comm _ v undef h2, ← Act.put_defers]
        exact h
      case enter f args =>
        refine Calls.mono h fun e w'' he => ?_
        cases e with
        | returned u => exact ⟨keep a hy u, by rw [← Act.put_comm a v u h2]; exact he⟩
        | panicked c => exact he
        | outgrown => exact he
      case row row args => exact Rows.mono h fun u w'' he => ⟨keep a hy u, by rw [← Act.put_comm a v u h2]; exact he⟩
    | halt x w' => cases x <;> simp only [Oper.upon] at h ⊢; exact h
  · rename_i hw
    simp only [hw] at h
    exact ⟨keep a hy _, by rw [← Act.put_comm a v undef h2]; exact h⟩

/-- The walk in the text's order over the indices l: 'rob': a reading operation; 'need': behind this one S must hold. -/
def wpTx (P : Program) (ops : Array Oper) (S : World → Prop) (rob need : Nat → Bool) (R : Act → World → Prop) : List Nat → Act → World → Prop
  | [], a, w => R a w
  | i :: l, a, w => ∃ o, ops[i]? = some o ∧
    if rob i then ∃ v, YldS P ops S o v a ∧ wpTx P ops S rob need R l (a.put o.dst v) w
    else wpOp P ops NoOut i (fun a' w' => (need i = true → S w') ∧ wpTx P ops S rob need R l a' w') a w

variable {rob need : Nat → Bool} {R : Act → World → Prop}

/-- A reading operation is taken first. -/
theorem wpTx_pull {i : Nat} {oi : Oper} (hi : ops[i]? = some oi) (hr : rob i = true) (hsel : ∀ (j : Nat) (o : Oper) cs b, ops[j]? = some o → o.op ≠ .select cs b) :
    ∀ (pre : List Nat) (post : List Nat) (a : Act) (w : World), S w → (∀ j ∈ pre, ∀ oj, ops[j]? = some oj → oi.apart ops oj = true) →
      (∀ j ∈ pre, rob j = false → need j = true) →
      wpTx P ops S rob need R (pre ++ i :: post) a w → ∃ v, YldS P ops S oi v a ∧ wpTx P ops S rob need R (pre ++ post) (a.put oi.dst v) w
  | [], post, a, w, _, _, _, h => by
    obtain ⟨o, ho, h⟩ := h
    have : o = oi := Option.some.inj (ho.symm.trans hi)
    subst this
    rw [if_pos hr] at h
    exact h
  | j :: pre, post, a, w, hS, hap, hnd, h => by
    obtain ⟨oj, hj, h⟩ := h
    have hapj := hap j (List.mem_cons_self ..) oj hj
    obtain ⟨h1, h2, h3⟩ := Oper.apart_spec hapj
    have hap' : ∀ k ∈ pre, ∀ ok, ops[k]? = some ok → oi.apart ops ok = true := fun k hk => hap k (List.mem_cons_of_mem _ hk)
    have hnd' : ∀ k ∈ pre, rob k = false → need k = true := fun k hk => hnd k (List.mem_cons_of_mem _ hk)
    by_cases hrj : rob j = true
    · rw [if_pos hrj] at h
      obtain ⟨u, hu, h⟩ := h
      obtain ⟨v, hv, h⟩ := wpTx_pull hi hr hsel pre post (a.put oj.dst u) w hS hap' hnd' h
      have hv' : YldS P ops S oi v a := hv.same (execOp_put oi (fun cs b => hsel i oi cs b hi) a oj.dst u h3).symm (wanted_put oi a oj.dst u h3).symm
      refine ⟨v, hv', oj, hj, ?_⟩
      rw [if_pos hrj]
      refine ⟨u, hu.same (execOp_put oj (fun cs b => hsel j oj cs b hj) a oi.dst v h1) (wanted_put oj a oi.dst v h1), ?_⟩
      rw [Act.put_comm a v u h2]
      exact h
    · have hrj' : rob j = false := by simpa using hrj
      rw [if_neg hrj] at h
      have hK : ∀ a' w', ((need j = true → S w') ∧ wpTx P ops S rob need R (pre ++ i :: post) a' w') → S w' ∧ ∃ v, YldS P ops S oi v a' ∧ wpTx P ops S rob need R (pre ++ post) (a'.put oi.dst v) w' := fun a' w' hh =>
        have hS' := hh.1 (hnd j (List.mem_cons_self ..) hrj')
        ⟨hS', wpTx_pull hi hr hsel pre post a' w' hS' hap' hnd' hh.2⟩
      -- the value, once and for all
      have hback : ∀ {a' : Act} {v : Value}, (∃ (a0 : Act) (u : Value), a' = a0.put oj.dst u ∧ execOp a0.eval oi = execOp a.eval oi ∧ Region.wanted oi (yielded ops a0.tmps) = Region.wanted oi (yielded ops a.tmps)) → YldS P ops S oi v a' → YldS P ops S oi v a := by
        rintro a' v ⟨a0, u, rfl, he, hw⟩ hy
        exact hy.same ((execOp_put oi (fun cs b => hsel i oi cs b hi) a0 oj.dst u h3).trans he).symm ((wanted_put oi a0 oj.dst u h3).trans hw).symm
      have hreach : wpOp P ops NoOut j (fun a' w' => (∃ (a0 : Act) (u : Value), a' = a0.put oj.dst u ∧ execOp a0.eval oi = execOp a.eval oi ∧ Region.wanted oi (yielded ops a0.tmps) = Region.wanted oi (yielded ops a.tmps)) ∧
          ((need j = true → S w') ∧ wpTx P ops S rob need R (pre ++ i :: post) a' w')) a w := by
        unfold wpOp at h ⊢
        simp only [hj] at h ⊢
        split
        · rename_i hw
          rw [if_pos hw] at h
          rcases h with h | ⟨_, hl⟩
          case inr => exact lets_noOut hl
          refine .inl ?_
          unfold Oper.wp at *
          generalize (execOp a.eval oj).run P w = r at *
          cases r with
          | ok n w' =>
            cases n <;> simp only [Oper.upon] at h ⊢
            case value u => exact ⟨⟨a, u, rfl, rfl, rfl⟩, h⟩
            case skip => exact ⟨⟨a, undef, rfl, rfl, rfl⟩, h⟩
            case defer d => exact ⟨⟨{ a with defers := d :: a.defers }, undef, rfl, rfl, rfl⟩, h⟩
            case enter f args =>
              refine Calls.mono h fun e w'' he => ?_
              cases e with
              | returned u => exact ⟨⟨a, u, rfl, rfl, rfl⟩, he⟩
              | panicked c => exact he
              | outgrown => exact lets_noOut he
            case row row args => exact Rows.mono h fun u w'' he => ⟨⟨a, u, rfl, rfl, rfl⟩, he⟩
          | halt x w' => cases x <;> simp only [Oper.upon] at h ⊢; exact h
        · rename_i hw
          rw [if_neg hw] at h
          exact ⟨⟨a, undef, rfl, rfl, rfl⟩, h⟩
      obtain ⟨a1, w1, hb1, hk1⟩ := wpOp_some hreach
      obtain ⟨_, v, hv1, _⟩ := hK a1 w1 hk1
      have hv : YldS P ops S oi v a := hback hb1 hv1
      refine ⟨v, hv, oj, hj, ?_⟩
      rw [if_neg hrj]
      refine wpOp_behind hj hapj (fun cs b => hsel j oj cs b hj) (wpOp_mono ?_ hreach)
      rintro a' w' ⟨hb, hk⟩
      obtain ⟨hS', v', hv', hrest⟩ := hK a' w' hk
      have : v = v' := YldS.uniq hS hv (hback hb hv')
      subst this
      exact ⟨fun _ => hS', hrest⟩

/-- An operation that is none of the reading ones is taken ahead of reading ones. -/
theorem wpTx_push {i : Nat} {oi : Oper} (hi : ops[i]? = some oi) (hr : rob i = false) (hsel : ∀ (j : Nat) (o : Oper) cs b, ops[j]? = some o → o.op ≠ .select cs b) :
    ∀ (pre : List Nat) (post : List Nat) (a : Act) (w : World), (∀ j ∈ pre, rob j = true) → (∀ j ∈ pre, ∀ oj, ops[j]? = some oj → oj.apart ops oi = true) →
      wpTx P ops S rob need R (pre ++ i :: post) a w → wpOp P ops NoOut i (fun a' w' => (need i = true → S w') ∧ wpTx P ops S rob need R (pre ++ post) a' w') a w
  | [], post, a, w, _, _, h => by
    obtain ⟨o, ho, h⟩ := h
    rw [if_neg (by simp [hr])] at h
    exact h
  | j :: pre, post, a, w, hrob, hap, h => by
    obtain ⟨oj, hj, h⟩ := h
    have hrj := hrob j (List.mem_cons_self ..)
    rw [if_pos hrj] at h
    obtain ⟨v, hv, h⟩ := h
    have h2 := wpTx_push hi hr hsel pre post (a.put oj.dst v) w (fun k hk => hrob k (List.mem_cons_of_mem _ hk)) (fun k hk => hap k (List.mem_cons_of_mem _ hk)) h
    have h3 := wpOp_ahead hi (hap j (List.mem_cons_self ..) oj hj) (fun cs b => hsel j oj cs b hj) (fun cs b => hsel i oi cs b hi) hv h2
    refine wpOp_mono ?_ h3
    rintro a' w' ⟨hy, hn, hk⟩
    refine ⟨hn, oj, hj, ?_⟩
    rw [if_pos hrj]
    exact ⟨v, hy, hk⟩

/-- Is operation i bound to wait for operation j? -/
def waits (ops : Array Oper) (i j : Nat) : Bool :=
  match ops[i]? with
  | some o => o.after.any fun e => Region.binds .any e && e.on == j
  | none => false
theorem waits_spec {i j : Nat} (h : waits ops i j = true) : ∃ o, ops[i]? = some o ∧ ∃ e ∈ o.after, Region.binds .any e = true ∧ e.on = j := by
  unfold waits at h
  split at h
  · rename_i o ho
    obtain ⟨e, he, hb⟩ := Array.any_eq_true'.1 h
    simp only [Bool.and_eq_true, beq_iff_eq] at hb
    exact ⟨o, ho, e, he, hb⟩
  · cases h
/-- Which reading operation is not bound to stand ahead of operation i. -/
def freeOf (ops : Array Oper) (rob : Nat → Bool) (i : Nat) : Bool :=
  (List.range ops.size).any fun r => rob r && r != i && !(waits ops i r)
theorem getD_replicate_f (m j : Nat) : (Array.replicate m false).getD j false = false := by
  rcases Nat.lt_or_ge j m with h | h
  · simp [h]
  · simp [h]
/-- What is asked of a region's text. -/
def txtBack (ops : Array Oper) : Bool :=
  (List.range ops.size).all fun i => match ops[i]? with
    | some o => o.after.all fun e => !Region.binds .any e || decide (e.on < i)
    | none => false
def txtPair (ops : Array Oper) (rob : Nat → Bool) (i j : Nat) : Bool :=
  match ops[i]?, ops[j]? with
  | some oi, some oj => waits ops i j || ((!rob i || oi.apart ops oj) && (!rob j || oj.apart ops oi) && (rob i || rob j || (List.range i).any fun k => decide (j < k) && !rob k))
  | _, _ => false
def txtOK (ops : Array Oper) (rob need : Nat → Bool) : Bool :=
  Region.noSelect ops && txtBack ops && ((List.range ops.size).all fun i => (List.range i).all fun j => txtPair ops rob i j) &&
  (List.range ops.size).all fun i => rob i || need i || !freeOf ops rob i

theorem wpOp_out {i : Nat} {K : Act → World → Prop} {a : Act} {w : World} (h : wpOp P ops NoOut i K a w) : wpOp P ops Q i K a w := by
  unfold wpOp at *
  split
  · rename_i h0
    simp only [h0] at h
    exact h
  · rename_i o ho
    simp only [ho] at h
    split
    · rename_i hw
      rw [if_pos hw] at h
      rcases h with h | ⟨_, hl⟩
      case inr => exact lets_noOut hl
      refine .inl ?_
      unfold Oper.wp at *
      generalize (execOp a.eval o).run P w = r at *
      cases r with
      | ok n w' =>
        cases n <;> simp only [Oper.upon] at h ⊢ <;> first
          | exact h
          | (refine Calls.mono h fun e w'' he => ?_
             cases e with
             | returned u => exact he
             | panicked c => exact he.elim
             | outgrown => exact lets_noOut he)
      | halt x w' => cases x <;> simp only [Oper.upon] at h ⊢; exact h.elim
    · rename_i hw
      rw [if_neg hw] at h
      exact h

def remOf (ops : Array Oper) (listed : Array Bool) : List Nat := (List.range ops.size).filter fun i => !listed.getD i true

theorem remOf_sorted (listed : Array Bool) : (remOf ops listed).Pairwise (· < ·) := List.Pairwise.filter _ List.pairwise_lt_range

theorem mem_remOf {listed : Array Bool} {i : Nat} : i ∈ remOf ops listed ↔ i < ops.size ∧ listed.getD i true = false := by
  simp [remOf]

theorem remOf_set {listed : Array Bool} {i : Nat} (hs : listed.size = ops.size) (hi : i < ops.size) : remOf ops (listed.setIfInBounds i true) = (remOf ops listed).filter (· != i) := by
  unfold remOf
  rw [List.filter_filter]
  refine List.filter_congr fun j _ => ?_
  by_cases hij : i = j
  · subst hij
    have : i < listed.size := by omega
    simp [this]
  · have hij' : j ≠ i := fun e => hij e.symm
    rw [getD_set_ne true hij]
    simp [hij']

theorem split_sorted {l : List Nat} {i : Nat} (hl : l.Pairwise (· < ·)) (hi : i ∈ l) : ∃ pre post, l = pre ++ i :: post ∧ l.filter (· != i) = pre ++ post ∧ ∀ j ∈ pre, j < i := by
  obtain ⟨pre, post, rfl⟩ := List.append_of_mem hi
  rw [List.pairwise_append] at hl
  obtain ⟨_, h2, h3⟩ := hl
  rw [List.pairwise_cons] at h2
  have hpre : ∀ j ∈ pre, j < i := fun j hj => h3 j hj i (List.mem_cons_self ..)
  refine ⟨pre, post, rfl, ?_, hpre⟩
  rw [List.filter_append, List.filter_cons]
  have e1 : pre.filter (· != i) = pre := List.filter_eq_self.2 fun j hj => by have := hpre j hj; simp; omega
  have e2 : post.filter (· != i) = post := List.filter_eq_self.2 fun j hj => by have := h2.1 j hj; simp; omega
  simp [e1, e2]

/-- Deps of what is listed are listed. -/
def Closed (ops : Array Oper) (listed : Array Bool) : Prop := ∀ i, listed.getD i false = true → ∀ j, waits ops i j = true → listed.getD j false = true

theorem listed_eq {listed : Array Bool} {j : Nat} (hj : j < listed.size) : listed.getD j true = listed.getD j false := by simp [hj]

theorem ready_waits {listed : Array Bool} {i j : Nat} (hr : i ∈ Region.ready .any ops listed) (hw : waits ops i j = true) : listed.getD j false = true := by
  obtain ⟨_, o, ho, hall⟩ := mem_ready.1 hr
  obtain ⟨o', ho', e, he, hb, hon⟩ := waits_spec hw
  have : o' = o := Option.some.inj (ho'.symm.trans ho)
  subst this
  rw [← hon]
  exact hall e he hb

/-- All earlier operations of the chain are listed where one of it is ready, or listed. -/
theorem chain_listed {listed : Array Bool} (hc : Closed ops listed)
    (hp : ∀ i < ops.size, ∀ j < i, txtPair ops rob i j = true) :
    ∀ (d i j : Nat), i - j = d → j < i → i < ops.size → rob i = false → rob j = false → (∀ k, waits ops i k = true → listed.getD k false = true) → listed.getD j false = true := by
  intro d
  induction d using Nat.strongRecOn with
  | _ d ih =>
    intro i j hd hji hi hri hrj hwi
    have h := hp i hi j hji
    unfold txtPair at h
    split at h
    · rename_i oi oj hoi hoj
      simp only [Bool.or_eq_true, Bool.and_eq_true, hri, hrj, Bool.false_eq_true, false_or] at h
      rcases h with h | ⟨_, h⟩
      · exact hwi j h
      · obtain ⟨k, hk, hk2⟩ := List.any_eq_true.1 h
        simp only [Bool.and_eq_true, decide_eq_true_eq, Bool.not_eq_true'] at hk2
        have hki := List.mem_range.1 hk
        have hkl := ih (i - k) (by omega) i k rfl hki hi hri hk2.2 hwi
        exact ih (k - j) (by omega) k j rfl hk2.1 (by omega) hk2.2 hrj (fun m hm => hc k hkl m hm)
    · cases h

theorem wpAny_of_tx (hok : txtOK ops rob need = true) : ∀ (fuel : Nat) (listed : Array Bool) (a : Act) (w : World), listed.size = ops.size → Closed ops listed → (remOf ops listed).length = fuel →
    (∀ r ∈ remOf ops listed, rob r = true → S w) → wpTx P ops S rob need (Q .normal) (remOf ops listed) a w → wpAny P .any ops Q fuel listed a w := by
  simp only [txtOK, Bool.and_eq_true] at hok
  obtain ⟨⟨⟨hsel0, hback⟩, hpair⟩, hneed⟩ := hok
  have hsel := Region.noSelect_spec hsel0
  have hp : ∀ i < ops.size, ∀ j < i, txtPair ops rob i j = true := fun i hi j hj => List.all_eq_true.1 (List.all_eq_true.1 hpair i (List.mem_range.2 hi)) j (List.mem_range.2 hj)
  have hbk : ∀ i o, ops[i]? = some o → ∀ e ∈ o.after, Region.binds .any e = true → e.on < i := fun i o ho e he hb => by
    have hi : i < ops.size := (Array.getElem?_eq_some_iff.1 ho).1
    have h := List.all_eq_true.1 hback i (List.mem_range.2 hi)
    simp only [ho] at h
    have h2 := Array.all_eq_true_iff_forall_mem.1 h e he
    simpa [hb] using h2
  have hnd : ∀ i < ops.size, rob i = false → ∀ r < ops.size, rob r = true → waits ops i r = false → need i = true := fun i hi hri r hr hrr hw => by
    have h := List.all_eq_true.1 hneed i (List.mem_range.2 hi)
    simp only [hri, Bool.false_or, Bool.or_eq_true, Bool.not_eq_true'] at h
    refine h.resolve_right fun h0 => ?_
    have : freeOf ops rob i = true := by
      refine List.any_eq_true.2 ⟨r, List.mem_range.2 hr, ?_⟩
      have : r ≠ i := fun e => by subst e; rw [hri] at hrr; cases hrr
      simp [hrr, hw, this]
    rw [this] at h0
    cases h0
  intro fuel
  induction fuel with
  | zero =>
    intro listed a w hs hc hlen _ h
    have hnil : remOf ops listed = [] := List.eq_nil_of_length_eq_zero hlen
    rw [hnil] at h
    refine ⟨?_, h⟩
    refine List.eq_nil_iff_forall_not_mem.2 fun i hi => ?_
    obtain ⟨h0, o, ho, _⟩ := mem_ready.1 hi
    have : i ∈ remOf ops listed := mem_remOf.2 ⟨(Array.getElem?_eq_some_iff.1 ho).1, h0⟩
    rw [hnil] at this
    cases this
  | succ fuel ih =>
    intro listed a w hs hc hlen hS h
    refine ⟨fun h0 => ?_, fun i hi => ?_⟩
    · exfalso
      match hr : remOf ops listed, hlen with
      | i0 :: rest, _ =>
        have hm0 : i0 ∈ remOf ops listed := by rw [hr]; exact List.mem_cons_self ..
        obtain ⟨hlt, hun⟩ := mem_remOf.1 hm0
        have hsorted := remOf_sorted (ops := ops) listed
        rw [hr, List.pairwise_cons] at hsorted
        have : i0 ∈ Region.ready .any ops listed := by
          refine mem_ready.2 ⟨hun, ops[i0], Array.getElem?_eq_getElem hlt, fun e he hb => ?_⟩
          have hlt2 := hbk i0 _ (Array.getElem?_eq_getElem hlt) e he hb
          cases hl : listed.getD e.on false with
          | true => rfl
          | false =>
            have hm : e.on ∈ remOf ops listed := mem_remOf.2 ⟨by omega, by rw [listed_eq (by omega)]; exact hl⟩
            rw [hr] at hm
            rcases List.mem_cons.1 hm with hm | hm
            · omega
            · have := hsorted.1 _ hm; omega
        rw [h0] at this
        cases this
    · obtain ⟨hun, oi, hoi, hall⟩ := mem_ready.1 hi
      have hilt : i < ops.size := (Array.getElem?_eq_some_iff.1 hoi).1
      obtain ⟨pre, post, hrem, hfil, hpre⟩ := split_sorted (remOf_sorted (ops := ops) listed) (mem_remOf.2 ⟨hilt, hun⟩)
      have hrem' : remOf ops (listed.setIfInBounds i true) = pre ++ post := by rw [remOf_set hs hilt, hfil]
      have hlen' : (remOf ops (listed.setIfInBounds i true)).length = fuel := by
        rw [hrem']; rw [hrem] at hlen; simp at hlen ⊢; omega
      have hs' : (listed.setIfInBounds i true).size = ops.size := by simpa using hs
      have hc' : Closed ops (listed.setIfInBounds i true) := by
        intro k hk j hj
        by_cases hik : i = k
        · subst hik; exact getD_set_true (ready_waits hi hj)
        · rw [getD_set_ne false hik] at hk; exact getD_set_true (hc k hk j hj)
      have hunl : ∀ j ∈ pre ++ post, j < ops.size ∧ listed.getD j false = false := fun j hj => by
        have : j ∈ remOf ops listed := by
          rw [hrem]; rcases List.mem_append.1 hj with h | h
          · exact List.mem_append_left _ h
          · exact List.mem_append_right _ (List.mem_cons_of_mem _ h)
        obtain ⟨h1, h2⟩ := mem_remOf.1 this
        exact ⟨h1, by rw [← listed_eq (by omega)]; exact h2⟩
      have hnw : ∀ j ∈ pre ++ post, waits ops i j = false := fun j hj => by
        cases hw : waits ops i j with
        | false => rfl
        | true =>
          have := ready_waits hi hw
          rw [(hunl j hj).2] at this; cases this
      have hpp : ∀ j ∈ pre, ∀ oj, ops[j]? = some oj → ((rob i = true → oi.apart ops oj = true) ∧ (rob j = true → oj.apart ops oi = true)) := fun j hj oj hoj => by
        have hh := hp i hilt j (hpre j hj)
        unfold txtPair at hh
        simp only [hoi, hoj, hnw j (List.mem_append_left _ hj), Bool.false_or, Bool.and_eq_true, Bool.or_eq_true, Bool.not_eq_true'] at hh
        refine ⟨fun hr => ?_, fun hr => ?_⟩
        · rcases hh.1.1 with h0 | h0
          · rw [hr] at h0; cases h0
          · exact h0
        · rcases hh.1.2 with h0 | h0
          · rw [hr] at h0; cases h0
          · exact h0
      rw [hrem] at h hS
      cases hri : rob i with
      | true =>
        have hSw : S w := hS i (by simp) hri
        have hndp : ∀ j ∈ pre, rob j = false → need j = true := fun j hj hrj => by
          refine hnd j (hunl j (List.mem_append_left _ hj)).1 hrj i hilt hri ?_
          cases hw : waits ops j i with
          | false => rfl
          | true =>
            obtain ⟨o, ho, e, he, hb, hon⟩ := waits_spec hw
            have := hbk j o ho e he hb
            have := hpre j hj
            omega
        obtain ⟨v, hv, hrest⟩ := wpTx_pull hoi hri hsel pre post a w hSw (fun j hj oj hoj => (hpp j hj oj hoj).1 hri) hndp h
        refine hv.run hoi hSw (ih _ _ _ hs' hc' hlen' ?_ (by rw [hrem']; exact hrest))
        exact fun _ _ _ => hSw
      | false =>
        have hrobs : ∀ j ∈ pre, rob j = true := fun j hj => by
          cases hrj : rob j with
          | true => rfl
          | false =>
            have := chain_listed hc hp (i - j) i j rfl (hpre j hj) hilt hri hrj (fun k hk => ready_waits hi hk)
            rw [(hunl j (List.mem_append_left _ hj)).2] at this; cases this
        have h2 := wpTx_push hoi hri hsel pre post a w hrobs (fun j hj oj hoj => (hpp j hj oj hoj).2 (hrobs j hj)) h
        refine wpOp_out (wpOp_mono ?_ h2)
        rintro a' w' ⟨hn, hk⟩
        refine ih _ _ _ hs' hc' hlen' ?_ (by rw [hrem']; exact hk)
        intro r hr hrr
        rw [hrem'] at hr
        exact hn (hnd i hilt hri r (hunl r hr).1 hrr (hnw r hr))

/-- THE THEOREM: a drawn region by one walk in the text's order. -/
theorem wp_region_txt {id : Nat} {a : Act} {w : World} (S : World → Prop) (rob need : Nat → Bool) (hm : P.follows .mixedOrders = true) (hok : txtOK ops rob need = true)
    (hS : S w.drew) (h : wpTx P ops S rob need (Q .normal) (List.range ops.size) a w.drew) : (Code.region id ops true).wp P Q a w := by
  refine wp_region_any hm ?_
  have hrem : remOf ops (Array.replicate ops.size false) = List.range ops.size := by
    unfold remOf
    refine List.filter_eq_self.2 fun i hi => ?_
    have := List.mem_range.1 hi
    simp [this]
  refine wpAny_of_tx hok ops.size (Array.replicate ops.size false) a _ (by simp) ?_ (by rw [hrem]; simp) (fun _ _ _ => hS) (by rw [hrem]; exact h)
  intro i hi
  rw [getD_replicate_f] at hi
  cases hi

/-- The same walk over the operations themselves, each with its two marks: it reads; S is owed behind it. -/
def wpTl (P : Program) (ops : Array Oper) (S : World → Prop) (R : Act → World → Prop) : List (Oper × Bool × Bool) → Act → World → Prop
  | [], a, w => R a w
  | (o, true, _) :: l, a, w => ∃ v, YldS P ops S o v a ∧ wpTl P ops S R l (a.put o.dst v) w
  | (o, false, n) :: l, a, w => if Region.wanted o (yielded ops a.tmps) then o.wp P a w (fun a' w' => (n = true → S w') ∧ wpTl P ops S R l a' w') NoOut else (n = true → S w) ∧ wpTl P ops S R l (a.put o.dst undef) w

theorem wpTx_of_tl (rob need : Nat → Bool) : ∀ (l : List (Oper × Bool × Bool)) (k : Nat) (a : Act) (w : World), (∀ j x, l[j]? = some x → ops[k + j]? = some x.1 ∧ rob (k + j) = x.2.1 ∧ need (k + j) = x.2.2) →
    wpTl P ops S R l a w → wpTx P ops S rob need R (List.range' k l.length) a w
  | [], k, a, w, _, h => h
  | (o, r, n) :: l, k, a, w, hl, h => by
    obtain ⟨h1, h2, h3⟩ := hl 0 (o, r, n) rfl
    simp only [Nat.add_zero] at h1 h2 h3
    have ih := fun a' w' => wpTx_of_tl rob need l (k + 1) a' w' (fun j x hj => by have := hl (j + 1) x (by simpa using hj); simpa [Nat.add_assoc, Nat.add_comm 1 j] using this)
    simp only [List.length_cons, List.range'_succ]
    refine ⟨o, h1, ?_⟩
    rw [h2]
    cases r with
    | true =>
      obtain ⟨v, hv, hk⟩ := h
      exact ⟨v, hv, ih _ _ hk⟩
    | false =>
      simp only [Bool.false_eq_true, if_false]
      unfold wpOp
      simp only [h1, h3]
      simp only [wpTl] at h
      split
      · rename_i hw
        rw [if_pos hw] at h
        exact .inl (Oper.wp_mono (fun a' w' hh => ⟨hh.1, ih _ _ hh.2⟩) h)
      · rename_i hw
        rw [if_neg hw] at h
        exact ⟨h.1, ih _ _ h.2⟩

/-- The marks as a list: 0: it reads; 1: it acts, S is owed; 2: it acts, S is not owed. -/
def markOf (f : List Nat) (i : Nat) : Nat := f.getD i 0
def robOf (f : List Nat) (i : Nat) : Bool := markOf f i == 0
def needOf (f : List Nat) (i : Nat) : Bool := markOf f i == 1
def marked (f : List Nat) : List Oper → List (Oper × Bool × Bool)
  | [] => []
  | o :: l => (o, f.headD 0 == 0, f.headD 0 == 1) :: marked f.tail l

theorem marked_get : ∀ (f : List Nat) (l : List Oper) (j : Nat) (x : Oper × Bool × Bool), (marked f l)[j]? = some x → l[j]? = some x.1 ∧ robOf f j = x.2.1 ∧ needOf f j = x.2.2
  | f, [], j, x, h => by simp [marked] at h
  | f, o :: l, 0, x, h => by
    simp only [marked, List.getElem?_cons_zero, Option.some.injEq] at h
    subst h
    refine ⟨rfl, ?_, ?_⟩ <;> cases f <;> rfl
  | f, o :: l, j + 1, x, h => by
    simp only [marked, List.getElem?_cons_succ] at h
    obtain ⟨h1, h2, h3⟩ := marked_get f.tail l j x h
    refine ⟨by simpa using h1, ?_, ?_⟩
    · rw [← h2]; cases f <;> simp [robOf, markOf]
    · rw [← h3]; cases f <;> simp [needOf, markOf]
theorem marked_len : ∀ (f : List Nat) (l : List Oper), (marked f l).length = l.length
  | _, [] => rfl
  | f, o :: l => by simp [marked, marked_len f.tail l]

theorem wp_region_tl {id : Nat} {a : Act} {w : World} {l : List Oper} (S : World → Prop) (f : List Nat) (hm : P.follows .mixedOrders = true) (hok : txtOK l.toArray (robOf f) (needOf f) = true)
    (hS : S w.drew) (h : wpTl P l.toArray S (Q .normal) (marked f l) a w.drew) : (Code.region id l.toArray true).wp P Q a w := by
  refine wp_region_txt S (robOf f) (needOf f) hm hok hS ?_
  have h2 := wpTx_of_tl (ops := l.toArray) (robOf f) (needOf f) (marked f l) 0 a w.drew (fun j x hj => by simpa using marked_get f l j x hj) h
  rw [marked_len] at h2
  simpa [List.range_eq_range'] using h2

variable {o : Oper} {n : Bool} {l : List (Oper × Bool × Bool)} {a : Act} {w : World}
theorem tl_nil (h : R a w) : wpTl P ops S R [] a w := h
theorem tl_rob {v : Value} (hg : Region.wanted o (yielded ops a.tmps) = true) (hv : ∀ w', S w' → (execOp a.eval o).run P w' = .ok (.value v) w') (h : wpTl P ops S R l (a.put o.dst v) w) : wpTl P ops S R ((o, true, n) :: l) a w :=
  ⟨v, .inl ⟨hg, hv⟩, h⟩
theorem tl_rob_no (hg : Region.wanted o (yielded ops a.tmps) = false) (h : wpTl P ops S R l (a.put o.dst undef) w) : wpTl P ops S R ((o, true, n) :: l) a w :=
  ⟨undef, .inr ⟨hg, rfl⟩, h⟩
theorem tl_act (hg : Region.wanted o (yielded ops a.tmps) = true) (h : ∀ K : Act → World → Prop, (∀ a' w', (n = true → S w') → wpTl P ops S R l a' w' → K a' w') → o.wp P a w K NoOut) : wpTl P ops S R ((o, false, n) :: l) a w := by
  simp only [wpTl, hg, if_true]
  exact h _ fun a' w' h1 h2 => ⟨h1, h2⟩
theorem tl_act_no (hg : Region.wanted o (yielded ops a.tmps) = false) (hS : n = true → S w) (h : wpTl P ops S R l (a.put o.dst undef) w) : wpTl P ops S R ((o, false, n) :: l) a w := by
  simp only [wpTl, hg, Bool.false_eq_true, if_false]
  exact ⟨hS, h⟩
end
end Go.Proofs.Ytpmnfhifmmfglaa
