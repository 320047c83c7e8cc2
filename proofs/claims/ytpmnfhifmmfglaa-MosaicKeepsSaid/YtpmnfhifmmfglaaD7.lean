/- A region that draws its order, walked as a tree: reading operations as soon as they may come, at the others a branch for each that may come first. -/
import Derived.Test.YtpmnfhifmmfglaaD6
set_option linter.unusedVariables false
set_option linter.unusedSimpArgs false
set_option linter.unusedSectionVars false
namespace Go.Proofs.Ytpmnfhifmmfglaa
open Go.RowKit
section
variable {P : Program} {ops : Array Oper} {Q : Exit → Act → World → Prop} {S : World → Prop} {rob need : Nat → Bool} {R : Act → World → Prop}

def rdy (ops : Array Oper) (rem : List Nat) (i : Nat) : Bool := rem.all fun j => !waits ops i j
def wpTr (P : Program) (ops : Array Oper) (S : World → Prop) (rob need : Nat → Bool) (R : Act → World → Prop) : Nat → List Nat → Act → World → Prop
  | 0, rem, a, w => rem = [] ∧ R a w
  | n + 1, rem, a, w =>
    (∃ i ∈ rem, rob i = true ∧ rdy ops rem i = true ∧ ∃ o, ops[i]? = some o ∧ ∃ v, YldS P ops S o v a ∧ wpTr P ops S rob need R n (rem.erase i) (a.put o.dst v) w) ∨
    ((∀ i ∈ rem, rob i = true → rdy ops rem i = false) ∧ ∀ c ∈ rem, rob c = false → rdy ops rem c = true → wpOp P ops NoOut c (fun a' w' => (need c = true → S w') ∧ wpTr P ops S rob need R n (rem.erase c) a' w') a w)

def trPair (ops : Array Oper) (rob : Nat → Bool) (i j : Nat) : Bool :=
  match ops[i]?, ops[j]? with
  | some oi, some oj => waits ops i j || ((!rob i || oi.apart ops oj) && (!rob j || oj.apart ops oi))
  | _, _ => false
def trOK (ops : Array Oper) (rob need : Nat → Bool) : Bool :=
  Region.noSelect ops && txtBack ops && ((List.range ops.size).all fun i => (List.range i).all fun j => trPair ops rob i j) &&
  (List.range ops.size).all fun i => rob i || need i || !freeOf ops rob i

theorem rdy_erase {rem : List Nat} {i k : Nat} (h : rdy ops rem i = true) : rdy ops (rem.erase k) i = true := by
  unfold rdy at *
  rw [List.all_eq_true] at *
  exact fun j hj => h j (List.mem_of_mem_erase hj)
theorem rdy_waits {rem : List Nat} {i j : Nat} (h : rdy ops rem i = true) (hj : j ∈ rem) : waits ops i j = false := by
  unfold rdy at h
  rw [List.all_eq_true] at h
  simpa using h j hj

theorem tr_pull {i : Nat} {oi : Oper} (hi : ops[i]? = some oi) (hr : rob i = true) (hsel : ∀ (j : Nat) (o : Oper) cs b, ops[j]? = some o → o.op ≠ .select cs b)
    (hpair : ∀ j k oj ok, j ≠ k → ops[j]? = some oj → ops[k]? = some ok → waits ops j k = false → waits ops k j = false → (rob j = true → oj.apart ops ok = true)) :
    ∀ (n : Nat) (rem : List Nat) (a : Act) (w : World), i ∈ rem → rdy ops rem i = true → wpTr P ops S rob need R (n + 1) rem a w → ∃ v, YldS P ops S oi v a ∧ wpTr P ops S rob need R n (rem.erase i) (a.put oi.dst v) w := by
  intro n
  induction n with
  | zero =>
    intro rem a w him hrd h
    rcases h with ⟨i0, hi0, hr0, hd0, o0, ho0, u, hu, h⟩ | ⟨hno, _⟩
    · obtain ⟨hnil, hR⟩ := h
      have : i0 = i := by
        by_cases e : i0 = i
        · exact e
        · have : i ∈ rem.erase i0 := (List.mem_erase_of_ne (fun h => e h.symm)).2 him
          rw [hnil] at this; cases this
      subst this
      obtain rfl : o0 = oi := Option.some.inj (ho0.symm.trans hi)
      exact ⟨u, hu, hnil, hR⟩
    · rw [hno i him hr] at hrd; cases hrd
  | succ n ih =>
    intro rem a w him hrd h
    rcases h with ⟨i0, hi0, hr0, hd0, o0, ho0, u, hu, h⟩ | ⟨hno, _⟩
    · by_cases e : i0 = i
      · subst e
        obtain rfl : o0 = oi := Option.some.inj (ho0.symm.trans hi)
        exact ⟨u, hu, h⟩
      · have him' : i ∈ rem.erase i0 := (List.mem_erase_of_ne (fun h => e h.symm)).2 him
        obtain ⟨v, hv, h⟩ := ih _ _ _ him' (rdy_erase hrd) h
        have w1 := rdy_waits hrd hi0
        have w2 := rdy_waits hd0 him
        have ap1 := hpair i i0 oi o0 (fun h => e h.symm) hi ho0 w1 w2 hr
        have ap2 := hpair i0 i o0 oi e ho0 hi w2 w1 hr0
        obtain ⟨p1, p2, p3⟩ := Oper.apart_spec ap1
        obtain ⟨q1, q2, q3⟩ := Oper.apart_spec ap2
        have hv' : YldS P ops S oi v a := hv.same (execOp_put oi (fun cs b => hsel i oi cs b hi) a o0.dst u p3).symm (wanted_put oi a o0.dst u p3).symm
        refine ⟨v, hv', .inl ⟨i0, (List.mem_erase_of_ne e).2 hi0, hr0, rdy_erase hd0, o0, ho0, u, ?_, ?_⟩⟩
        · exact hu.same (execOp_put o0 (fun cs b => hsel i0 o0 cs b ho0) a oi.dst v q3) (wanted_put o0 a oi.dst v q3)
        · rw [List.erase_comm, Act.put_comm a v u p2]; exact h
    · rw [hno i him hr] at hrd; cases hrd

theorem tr_push {c : Nat} {oc : Oper} (hc : ops[c]? = some oc) (hrc : rob c = false) (hsel : ∀ (j : Nat) (o : Oper) cs b, ops[j]? = some o → o.op ≠ .select cs b)
    (hpair : ∀ j k oj ok, j ≠ k → ops[j]? = some oj → ops[k]? = some ok → waits ops j k = false → waits ops k j = false → (rob j = true → oj.apart ops ok = true)) :
    ∀ (n : Nat) (rem : List Nat) (a : Act) (w : World), c ∈ rem → rdy ops rem c = true → wpTr P ops S rob need R (n + 1) rem a w → wpOp P ops NoOut c (fun a' w' => (need c = true → S w') ∧ wpTr P ops S rob need R n (rem.erase c) a' w') a w := by
  intro n
  induction n with
  | zero =>
    intro rem a w hcm hrd h
    rcases h with ⟨i0, hi0, hr0, hd0, o0, ho0, u, hu, h⟩ | ⟨_, h⟩
    · obtain ⟨hnil, hR⟩ := h
      have e : i0 ≠ c := fun e => by subst e; rw [hrc] at hr0; cases hr0
      have : c ∈ rem.erase i0 := (List.mem_erase_of_ne (fun h => e h.symm)).2 hcm
      rw [hnil] at this; cases this
    · exact h c hcm hrc hrd
  | succ n ih =>
    intro rem a w hcm hrd h
    rcases h with ⟨i0, hi0, hr0, hd0, o0, ho0, u, hu, h⟩ | ⟨_, h⟩
    · have e : i0 ≠ c := fun e => by subst e; rw [hrc] at hr0; cases hr0
      have hcm' : c ∈ rem.erase i0 := (List.mem_erase_of_ne (fun h => e h.symm)).2 hcm
      have h2 := ih _ _ _ hcm' (rdy_erase hrd) h
      have w1 := rdy_waits hrd hi0
      have w2 := rdy_waits hd0 hcm
      have ap := hpair i0 c o0 oc e ho0 hc w2 w1 hr0
      have h3 := wpOp_ahead hc ap (fun cs b => hsel i0 o0 cs b ho0) (fun cs b => hsel c oc cs b hc) hu h2
      refine wpOp_mono ?_ h3
      rintro a' w' ⟨hy, hn, hk⟩
      refine ⟨hn, .inl ⟨i0, (List.mem_erase_of_ne e).2 hi0, hr0, rdy_erase hd0, o0, ho0, u, hy, ?_⟩⟩
      rw [List.erase_comm]; exact hk
    · exact h c hcm hrc hrd

theorem filter_ne_erase {l : List Nat} (hl : l.Nodup) (i : Nat) : l.filter (· != i) = l.erase i := by
  rw [List.Nodup.erase_eq_filter hl]

theorem wpAny_of_tr (hok : trOK ops rob need = true) : ∀ (fuel : Nat) (listed : Array Bool) (a : Act) (w : World), listed.size = ops.size → Closed ops listed → (remOf ops listed).length = fuel →
    (∀ r ∈ remOf ops listed, rob r = true → S w) → wpTr P ops S rob need (Q .normal) fuel (remOf ops listed) a w → wpAny P .any ops Q fuel listed a w := by
  simp only [trOK, Bool.and_eq_true] at hok
  obtain ⟨⟨⟨hsel0, hback⟩, hpair0⟩, hneed⟩ := hok
  have hsel := Region.noSelect_spec hsel0
  have hp : ∀ i < ops.size, ∀ j < i, trPair ops rob i j = true := fun i hi j hj => List.all_eq_true.1 (List.all_eq_true.1 hpair0 i (List.mem_range.2 hi)) j (List.mem_range.2 hj)
  have hpair : ∀ j k oj ok, j ≠ k → ops[j]? = some oj → ops[k]? = some ok → waits ops j k = false → waits ops k j = false → (rob j = true → oj.apart ops ok = true) := by
    intro j k oj ok hjk hj hk w1 w2 hr
    have hjl := (Array.getElem?_eq_some_iff.1 hj).1
    have hkl := (Array.getElem?_eq_some_iff.1 hk).1
    rcases Nat.lt_or_gt_of_ne hjk with hlt | hlt
    · have h := hp k hkl j hlt
      unfold trPair at h
      simp only [hj, hk, w2, Bool.false_or, Bool.and_eq_true, Bool.or_eq_true, Bool.not_eq_true'] at h
      rcases h.2 with h0 | h0
      · rw [hr] at h0; cases h0
      · exact h0
    · have h := hp j hjl k hlt
      unfold trPair at h
      simp only [hj, hk, w1, Bool.false_or, Bool.and_eq_true, Bool.or_eq_true, Bool.not_eq_true'] at h
      rcases h.1 with h0 | h0
      · rw [hr] at h0; cases h0
      · exact h0
  have hbk : ∀ i o, ops[i]? = some o → ∀ e ∈ o.after, Region.binds .any e = true → e.on < i := fun i o ho e he hb => by
    have hi : i < ops.size := (Array.getElem?_eq_some_iff.1 ho).1
    have h := List.all_eq_true.1 hback i (List.mem_range.2 hi)
    simp only [ho] at h
    have h2 := Array.all_eq_true_iff_forall_mem.1 h e he
    simpa [hb] using h2
  have hnd : ∀ i < ops.size, rob i = false → ∀ r < ops.size, rob r = true → waits ops i r = false → need i = true := fun i hi hri r hr hrr hw => by
    have h := List.all_eq_true.1 hneed i (List.mem_range.2 hi)
    simp only [hri, Bool.false_or, Bool.or_eq_true, Bool.not_eq_true'] at h
    refine h.resolve_right fun h0 => ?_
    have : freeOf ops rob i = true := by
      refine List.any_eq_true.2 ⟨r, List.mem_range.2 hr, ?_⟩
      have : r ≠ i := fun e => by subst e; rw [hri] at hrr; cases hrr
      simp [hrr, hw, this]
    rw [this] at h0
    cases h0
  intro fuel
  induction fuel with
  | zero =>
    intro listed a w hs hc hlen _ h
    have hnil : remOf ops listed = [] := List.eq_nil_of_length_eq_zero hlen
    obtain ⟨_, h⟩ := h
    refine ⟨?_, h⟩
    refine List.eq_nil_iff_forall_not_mem.2 fun i hi => ?_
    obtain ⟨h0, o, ho, _⟩ := mem_ready.1 hi
    have : i ∈ remOf ops listed := mem_remOf.2 ⟨(Array.getElem?_eq_some_iff.1 ho).1, h0⟩
    rw [hnil] at this
    cases this
  | succ fuel ih =>
    intro listed a w hs hc hlen hS h
    refine ⟨fun h0 => ?_, fun i hi => ?_⟩
    · exfalso
      match hr : remOf ops listed, hlen with
      | i0 :: rest, _ =>
        have hm0 : i0 ∈ remOf ops listed := by rw [hr]; exact List.mem_cons_self ..
        obtain ⟨hlt, hun⟩ := mem_remOf.1 hm0
        have hsorted := remOf_sorted (ops := ops) listed
        rw [hr, List.pairwise_cons] at hsorted
        have : i0 ∈ Region.ready .any ops listed := by
          refine mem_ready.2 ⟨hun, ops[i0], Array.getElem?_eq_getElem hlt, fun e he hb => ?_⟩
          have hlt2 := hbk i0 _ (Array.getElem?_eq_getElem hlt) e he hb
          cases hl : listed.getD e.on false with
          | true => rfl
          | false =>
            have hm : e.on ∈ remOf ops listed := mem_remOf.2 ⟨by omega, by rw [listed_eq (by omega)]; exact hl⟩
            rw [hr] at hm
            rcases List.mem_cons.1 hm with hm | hm
            · omega
            · have := hsorted.1 _ hm; omega
        rw [h0] at this
        cases this
    · obtain ⟨hun, oi, hoi, hall⟩ := mem_ready.1 hi
      have hilt : i < ops.size := (Array.getElem?_eq_some_iff.1 hoi).1
      have him : i ∈ remOf ops listed := mem_remOf.2 ⟨hilt, hun⟩
      have hnodup : (remOf ops listed).Nodup := (remOf_sorted (ops := ops) listed).imp fun h => Nat.ne_of_lt h
      have hrem' : remOf ops (listed.setIfInBounds i true) = (remOf ops listed).erase i := by rw [remOf_set hs hilt, filter_ne_erase hnodup]
      have hlen' : (remOf ops (listed.setIfInBounds i true)).length = fuel := by
        rw [hrem', List.length_erase_of_mem him]; omega
      have hs' : (listed.setIfInBounds i true).size = ops.size := by simpa using hs
      have hc' : Closed ops (listed.setIfInBounds i true) := by
        intro k hk j hj
        by_cases hik : i = k
        · subst hik; exact getD_set_true (ready_waits hi hj)
        · rw [getD_set_ne false hik] at hk; exact getD_set_true (hc k hk j hj)
      have hrd : rdy ops (remOf ops listed) i = true := by
        unfold rdy
        rw [List.all_eq_true]
        intro j hj
        obtain ⟨h1, h2⟩ := mem_remOf.1 hj
        cases hw : waits ops i j with
        | false => rfl
        | true =>
          have := ready_waits hi hw
          rw [← listed_eq (by omega), h2] at this; cases this
      cases hri : rob i with
      | true =>
        have hSw : S w := hS i him hri
        obtain ⟨v, hv, hrest⟩ := tr_pull hoi hri hsel hpair fuel _ a w him hrd h
        refine hv.run hoi hSw (ih _ _ _ hs' hc' hlen' (fun _ _ _ => hSw) (by rw [hrem']; exact hrest))
      | false =>
        have h2 := tr_push hoi hri hsel hpair fuel _ a w him hrd h
        refine wpOp_out (wpOp_mono ?_ h2)
        rintro a' w' ⟨hn, hk⟩
        refine ih _ _ _ hs' hc' hlen' ?_ (by rw [hrem']; exact hk)
        intro r hr hrr
        rw [hrem'] at hr
        have hrm := List.mem_of_mem_erase hr
        exact hn (hnd i hilt hri r (mem_remOf.1 hrm).1 hrr (rdy_waits hrd hrm))

theorem wp_region_tr {id : Nat} {a : Act} {w : World} {l : List Oper} (S : World → Prop) (f : List Nat) (n : Nat) (rem : List Nat) (hm : P.follows .mixedOrders = true) (hok : trOK l.toArray (robOf f) (needOf f) = true)
    (hl : List.range l.toArray.size = rem) (hn : rem.length = n) (hS : S w.drew) (h : wpTr P l.toArray S (robOf f) (needOf f) (Q .normal) n rem a w.drew) : (Code.region id l.toArray true).wp P Q a w := by
  refine wp_region_any hm ?_
  have hrem : remOf l.toArray (Array.replicate l.toArray.size false) = List.range l.toArray.size := by
    unfold remOf
    refine List.filter_eq_self.2 fun i hi => ?_
    have := List.mem_range.1 hi
    simp at this
    simp [this]
  refine wpAny_of_tr hok l.toArray.size (Array.replicate l.toArray.size false) a _ (by simp) ?_ (by rw [hrem]; simp) (fun _ _ _ => hS) ?_
  · intro i hi
    rw [getD_replicate_f] at hi
    cases hi
  · rw [hrem, hl]
    have : l.toArray.size = n := by rw [← hn, ← hl]; simp
    rw [this]; exact h

/-! ### Steps -/
variable {D : List Deferred} {a : Act} {w : World} {N : Nat} {l : List (Nat × Value)} {o : Oper} {v : Value} {post : Value → World → Prop} {d i c n : Nat} {rem rem' : List Nat} {f : List Nat}
theorem R_rd (i : Nat) (rem' : List Nat) (hc : (rem.elem i && robOf f i && rdy ops rem i && rem.erase i == rem') = true) (ho : ops[i]? = some o) (K : Kd D a N l) (hw : Region.wanted o (yielded ops a.tmps) = true) (hd : o.dst = some d) (hN : Nat.blt d N = true) (hr : Rd P S a o v)
    (k : ∀ a', Kd D a' N ((d, v) :: l) → wpTr P ops S (robOf f) (needOf f) R n rem' a' w) : wpTr P ops S (robOf f) (needOf f) R (n + 1) rem a w := by
  simp only [Bool.and_eq_true, beq_iff_eq, List.elem_iff] at hc
  obtain ⟨⟨⟨h1, h2⟩, h3⟩, rfl⟩ := hc
  refine .inl ⟨i, h1, h2, h3, o, ho, v, .inl ⟨hw, hr⟩, ?_⟩
  have := K.put (d := o.dst) (by rw [hd]; exact hN) v
  rw [hd] at this ⊢
  exact k _ this
theorem R_no (i : Nat) (rem' : List Nat) (hc : (rem.elem i && robOf f i && rdy ops rem i && rem.erase i == rem') = true) (ho : ops[i]? = some o) (K : Kd D a N l) (hw : Region.wanted o (yielded ops a.tmps) = false) (hd : o.dst = some d) (hN : Nat.blt d N = true)
    (k : ∀ a', Kd D a' N ((d, undef) :: l) → wpTr P ops S (robOf f) (needOf f) R n rem' a' w) : wpTr P ops S (robOf f) (needOf f) R (n + 1) rem a w := by
  simp only [Bool.and_eq_true, beq_iff_eq, List.elem_iff] at hc
  obtain ⟨⟨⟨h1, h2⟩, h3⟩, rfl⟩ := hc
  refine .inl ⟨i, h1, h2, h3, o, ho, undef, .inr ⟨hw, rfl⟩, ?_⟩
  have := K.put (d := o.dst) (by rw [hd]; exact hN) undef
  rw [hd] at this ⊢
  exact k _ this
def AllC (p : Nat → Prop) : List Nat → Prop
  | [] => True
  | c :: cs => p c ∧ AllC p cs
theorem allC_mem {p : Nat → Prop} : ∀ {cs : List Nat}, AllC p cs → ∀ c ∈ cs, p c
  | [], _, c, h => by cases h
  | d :: cs, h, c, hc => by
    rcases List.mem_cons.1 hc with rfl | hc
    · exact h.1
    · exact allC_mem h.2 c hc
/-- One of several comes first. -/
theorem R_br (cs : List Nat) (hc : ((rem.all fun i => !robOf f i || !rdy ops rem i) && (rem.filter fun c => !robOf f c && rdy ops rem c) == cs) = true)
    (h : AllC (fun c => wpOp P ops NoOut c (fun a' w' => (needOf f c = true → S w') ∧ wpTr P ops S (robOf f) (needOf f) R n (rem.erase c) a' w') a w) cs) : wpTr P ops S (robOf f) (needOf f) R (n + 1) rem a w := by
  simp only [Bool.and_eq_true, beq_iff_eq] at hc
  obtain ⟨h1, rfl⟩ := hc
  refine .inr ⟨fun i hi hr => ?_, fun c hcm hr hrd => allC_mem h c (List.mem_filter.2 ⟨hcm, by simp [hr, hrd]⟩)⟩
  have := List.all_eq_true.1 h1 i hi
  simpa [hr] using this
theorem R_ac (rem' : List Nat) (hc : (rem.erase c == rem') = true) (ho : ops[c]? = some o) (K : Kd D a N l) (hw : Region.wanted o (yielded ops a.tmps) = true) (hd : o.dst = some d) (hN : Nat.blt d N = true) (h : Ac P o a w post)
    (k : ∀ v a' w', post v w' → Kd D a' N ((d, v) :: l) → (needOf f c = true → S w') ∧ wpTr P ops S (robOf f) (needOf f) R n rem' a' w') : wpOp P ops NoOut c (fun a' w' => (needOf f c = true → S w') ∧ wpTr P ops S (robOf f) (needOf f) R n (rem.erase c) a' w') a w := by
  obtain rfl : rem.erase c = rem' := by simpa using hc
  unfold wpOp
  simp only [ho, hw, if_true]
  refine .inl (h _ _ fun v w' hp => ?_)
  have := K.put (d := o.dst) (by rw [hd]; exact hN) v
  rw [hd] at this ⊢
  exact k v _ w' hp this
theorem R_a0 (rem' : List Nat) (hc : (rem.erase c == rem') = true) (ho : ops[c]? = some o) (K : Kd D a N l) (hw : Region.wanted o (yielded ops a.tmps) = true) (hd : o.dst = none) (h : Ac P o a w post)
    (k : ∀ v a' w', post v w' → Kd D a' N l → (needOf f c = true → S w') ∧ wpTr P ops S (robOf f) (needOf f) R n rem' a' w') : wpOp P ops NoOut c (fun a' w' => (needOf f c = true → S w') ∧ wpTr P ops S (robOf f) (needOf f) R n (rem.erase c) a' w') a w := by
  obtain rfl : rem.erase c = rem' := by simpa using hc
  unfold wpOp
  simp only [ho, hw, if_true]
  refine .inl (h _ _ fun v w' hp => ?_)
  rw [hd]
  exact k v _ w' hp K
theorem R_nc (rem' : List Nat) (hc : (rem.erase c == rem') = true) (ho : ops[c]? = some o) (K : Kd D a N l) (hw : Region.wanted o (yielded ops a.tmps) = false) (hd : o.dst = some d) (hN : Nat.blt d N = true)
    (k : ∀ a', Kd D a' N ((d, undef) :: l) → (needOf f c = true → S w) ∧ wpTr P ops S (robOf f) (needOf f) R n rem' a' w) : wpOp P ops NoOut c (fun a' w' => (needOf f c = true → S w') ∧ wpTr P ops S (robOf f) (needOf f) R n (rem.erase c) a' w') a w := by
  obtain rfl : rem.erase c = rem' := by simpa using hc
  unfold wpOp
  simp only [ho, hw, Bool.false_eq_true, if_false]
  have := K.put (d := o.dst) (by rw [hd]; exact hN) undef
  rw [hd] at this ⊢
  exact k _ this
theorem X_join {St Rt : Type} {Rel : St → Act → World → Prop} {kk : St → Option Rt} {jf : (St → Option Rt) → Option Rt} {r : Rt} {p : Code} (h : jf kk = some r) (hk : ∀ st a w, Rel st a w → kk st = some r → Q .normal a w)
    (hc : ∀ kk : St → Option Rt, (∀ st a w, Rel st a w → kk st = some r → Q .normal a w) → jf kk = some r → p.wp P Q a w) : p.wp P Q a w := hc kk hk h
theorem R_end (h : R a w) : wpTr P ops S (robOf f) (needOf f) R 0 [] a w := ⟨rfl, h⟩
end
end Go.Proofs.Ytpmnfhifmmfglaa
