/- Texts of the claim DiffReads, joined: PPf, PCodeR, PCodeD, PGen, PDown, PDifA, PDifW, PDifP, PDifWL, PDifR, PDifD, D7, D8. -/
import Derived.Laws.CopyRow
import Derived.Laws.IdiomCopy
import Derived.Lib.SliceRun
import Derived.LoopN
import Derived.WalkSpells
import Derived.Test.YtpmnfhifmmfglacDoorDiffReadsK1
import Derived.Test.YtpmnfhifmmfglacDoorDiffReadsK2
set_option linter.unusedVariables false
set_option linter.unusedSimpArgs false
set_option linter.unusedSectionVars false
namespace Go.Proofs.YtpmnfhifmmfglacDoor
open Go
section
variable {ns : List Nat}
theorem fold_other {i : Nat} : ∀ (o : List Nat) (st : List (List UInt8) × Nat), i ∉ o → (o.foldl (stp ns) st).1[i]? = st.1[i]?
  | [], _, _ => rfl
  | k :: o, st, h => by
    simp only [List.mem_cons, not_or] at h
    rw [List.foldl_cons, fold_other o _ h.2]
    show (st.1.set k _)[i]? = _
    rw [List.getElem?_set_ne (fun e => h.1 e.symm)]
theorem fold_at {i : Nat} (A B : List Nat) (st : List (List UInt8) × Nat) (hB : i ∉ B) (hi : i < st.1.length) : ((A ++ i :: B).foldl (stp ns) st).1[i]? = some (wrd (st.2 + tot ns A) (ky ns i)) := by
  rw [List.foldl_append, List.foldl_cons, fold_other B _ hB]
  show ((A.foldl (stp ns) st).1.set i _)[i]? = _
  rw [List.getElem?_set_self (by rw [stp_len]; exact hi), stp_snd]
theorem ordL_mem {f : Nat → Nat} {o : List Nat} {i : Nat} : i ∈ ordL f o ↔ i ∈ o ∧ 1 ≤ f i ∧ f i ≤ 15 := by
  unfold ordL
  rw [List.mem_flatMap]
  constructor
  · rintro ⟨s, hs, h⟩
    have h1 := List.mem_range'_1.1 hs
    have h2 := List.mem_filter.1 h
    have h3 := of_decide_eq_true h2.2
    exact ⟨h2.1, by omega, by omega⟩
  · rintro ⟨h1, h2, h3⟩
    exact ⟨f i, List.mem_range'_1.2 ⟨h2, by omega⟩, List.mem_filter.2 ⟨h1, dT rfl⟩⟩
theorem ordL_pair (f : Nat → Nat) {o : List Nat} (ho : o.Pairwise (· < ·)) : (ordL f o).Pairwise (fun a b => f a ≤ f b ∧ a ≠ b) := by
  unfold ordL
  have : ∀ (j s : Nat), ((List.range' s j).flatMap fun s => o.filter fun i => decide (f i = s)).Pairwise (fun a b => f a ≤ f b ∧ a ≠ b) := by
    intro j
    induction j with
    | zero => intro s; exact List.Pairwise.nil
    | succ j ih =>
      intro s
      rw [List.range'_succ, List.flatMap_cons, List.pairwise_append]
      refine ⟨?_, ih (s + 1), ?_⟩
      · refine List.Pairwise.imp_of_mem ?_ (ho.filter _)
        intro a b ha hb hab
        have h1 := of_decide_eq_true (List.mem_filter.1 ha).2
        have h2 := of_decide_eq_true (List.mem_filter.1 hb).2
        exact ⟨by omega, by omega⟩
      · intro a ha b hb
        have h1 := of_decide_eq_true (List.mem_filter.1 ha).2
        obtain ⟨q, hq, hb⟩ := List.mem_flatMap.1 hb
        have h3 := List.mem_range'_1.1 hq
        have h2 := of_decide_eq_true (List.mem_filter.1 hb).2
        exact ⟨by omega, fun e => by subst e; omega⟩
  exact this 15 1
/-- The order of a code's words. -/
def ord (ns : List Nat) : List Nat := ordL (ky ns) (List.range' 0 ns.length)
theorem ord_pair (ns : List Nat) : (ord ns).Pairwise (fun a b => ky ns a ≤ ky ns b ∧ a ≠ b) := ordL_pair _ List.pairwise_lt_range'
theorem ord_mem {i : Nat} (hn : ∀ n ∈ ns, n ≤ 15) : i ∈ ord ns ↔ i < ns.length ∧ 1 ≤ ky ns i := by
  unfold ord
  rw [ordL_mem, List.mem_range'_1]
  have := ky_le hn i
  omega
theorem word_none {i : Nat} (hn : ∀ n ∈ ns, n ≤ 15) (hi : i < ns.length) (h : ky ns i = 0) : (wordsL ns)[i]? = some [] := by
  unfold wordsL
  rw [fold_other _ _ (fun hm => by have := ((ord_mem hn).1 hm).2; omega)]
  simp [hi]
theorem word_at {i : Nat} {A B : List Nat} (h : ord ns = A ++ i :: B) (hi : i < ns.length) : (wordsL ns)[i]? = some (wrd (tot ns A) (ky ns i)) := by
  have hp := ord_pair ns
  rw [h, List.pairwise_append] at hp
  have hB : i ∉ B := fun hm => ((List.pairwise_cons.1 hp.2.1).1 i hm).2 rfl
  unfold wordsL
  have h' : ordL (ky ns) (List.range' 0 ns.length) = A ++ i :: B := h
  rw [h', fold_at A B _ hB (by simpa using hi), Nat.zero_add]
theorem wrd_len (S n : Nat) : (wrd S n).length = n := by unfold wrd; rw [chs_len, dig_len]
theorem dvd_tot {n : Nat} : ∀ {A : List Nat}, (∀ a ∈ A, ky ns a ≤ n) → n ≤ 15 → 2 ^ (15 - n) ∣ tot ns A
  | [], _, _ => Nat.dvd_zero _
  | a :: A, h, hn => by
    rw [tot_cons]
    refine Nat.dvd_add (Nat.pow_dvd_pow 2 ?_) (dvd_tot (fun b hb => h b (by simp [hb])) hn)
    have := h a (by simp)
    omega
theorem chs_inj {l m : List Nat} (hl : ∀ y ∈ l, y < 2) (hm : ∀ y ∈ m, y < 2) (h : chs l = chs m) : l = m := by
  have e : ∀ l : List Nat, (∀ y ∈ l, y < 2) → (chs l).map (fun c => c.toNat - 48) = l := fun l hl => by
    unfold chs
    rw [List.map_map]
    conv => rhs; rw [← List.map_id l]
    refine List.map_congr_left fun y hy => ?_
    have := hl y hy
    rcases (show y = 0 ∨ y = 1 by omega) with rfl | rfl <;> rfl
  rw [← e l hl, h, e m hm]
/-- The first bits of a word. -/
theorem wrd_take {S n m : Nat} (hmn : m ≤ n) (hn : n ≤ 15) : (wrd S n).take m = chs (dig 2 m (S / 2 ^ (15 - m))) := by
  unfold wrd
  rw [show n = m + (n - m) by omega, dig_add, chs_app, List.take_append_of_le_length (by rw [chs_len, dig_len]; exact Nat.le_refl _), List.take_of_length_le (by rw [chs_len, dig_len]; exact Nat.le_refl _), Nat.div_div_eq_div_mul, ← Nat.pow_add]
  congr 4
  omega
theorem wrd_pre {S T n m : Nat} (hmn : m ≤ n) (hn : n ≤ 15) (hS : S < 32768) (hT : T < 32768) (h : (wrd S m) <+: (wrd T n)) : S / 2 ^ (15 - m) = T / 2 ^ (15 - m) := by
  have e := List.prefix_iff_eq_take.1 h
  rw [wrd_len, wrd_take hmn hn] at e
  have h2 := chs_inj (dig_lt (by decide) _ _) (dig_lt (by decide) _ _) e
  have h3 := congrArg (num 2) h2
  rw [num_dig, num_dig] at h3
  have lt : ∀ X, X < 32768 → X / 2 ^ (15 - m) < 2 ^ m := fun X hX => by
    refine Nat.div_lt_of_lt_mul ?_
    rw [← Nat.pow_add, show 15 - m + m = 15 by omega]
    exact hX
  rwa [Nat.mod_eq_of_lt (lt S hS), Nat.mod_eq_of_lt (lt T hT)] at h3
theorem split_two {α : Type} {x y : α} : ∀ {l : List α}, x ∈ l → y ∈ l → x ≠ y → (∃ A B C, l = A ++ x :: (B ++ y :: C)) ∨ ∃ A B C, l = A ++ y :: (B ++ x :: C)
  | [], h, _, _ => by cases h
  | z :: l, hx, hy, hne => by
    rcases List.mem_cons.1 hx with rfl | hx'
    · rcases List.mem_cons.1 hy with rfl | hy'
      · exact absurd rfl hne
      · obtain ⟨B, C, rfl⟩ := List.append_of_mem hy'
        exact .inl ⟨[], B, C, rfl⟩
    · rcases List.mem_cons.1 hy with rfl | hy'
      · obtain ⟨B, C, rfl⟩ := List.append_of_mem hx'
        exact .inr ⟨[], B, C, rfl⟩
      · rcases split_two hx' hy' hne with ⟨A, B, C, rfl⟩ | ⟨A, B, C, rfl⟩
        · exact .inl ⟨z :: A, B, C, rfl⟩
        · exact .inr ⟨z :: A, B, C, rfl⟩
theorem words_pf (hn : ∀ n ∈ ns, n ≤ 15) (hK : tot ns (ups ns 0 ns.length) ≤ 32768) {i j : Nat} {u v : List UInt8} (hij : i ≠ j) (hu : (wordsL ns)[i]? = some u) (hv : (wordsL ns)[j]? = some v) (h0 : u ≠ []) : ¬ (u <+: v) := by
  intro hp
  have hlen : (wordsL ns).length = ns.length := by unfold wordsL; rw [stp_len, List.length_replicate]
  have hi : i < ns.length := by rw [← hlen]; exact (List.getElem?_eq_some_iff.1 hu).1
  have hj : j < ns.length := by rw [← hlen]; exact (List.getElem?_eq_some_iff.1 hv).1
  have hT : tot ns (ord ns) ≤ 32768 := by
    unfold ord
    rw [← ord_ups, tot_ord _ fun x hx => ⟨(ups_mem hx).2.2, ky_le hn x⟩]; exact hK
  have hki : 1 ≤ ky ns i := by
    rcases Nat.eq_zero_or_pos (ky ns i) with h | h
    · rw [word_none hn hi h] at hu; cases hu; exact absurd rfl h0
    · exact h
  have hkj : 1 ≤ ky ns j := by
    rcases Nat.eq_zero_or_pos (ky ns j) with h | h
    · rw [word_none hn hj h] at hv; cases hv
      exact absurd (List.prefix_nil.1 hp) h0
    · exact h
  have hi15 := ky_le hn i
  have hj15 := ky_le hn j
  have hpi := Nat.two_pow_pos (15 - ky ns i)
  have hpj := Nat.two_pow_pos (15 - ky ns j)
  have hpair := ord_pair ns
  rcases split_two ((ord_mem hn).2 ⟨hi, hki⟩) ((ord_mem hn).2 ⟨hj, hkj⟩) hij with ⟨A, B, C, h⟩ | ⟨A, B, C, h⟩
  · -- i comes first
    have w1 := word_at h hi
    have w2 := word_at (A := A ++ i :: B) (B := C) (by rw [h]; simp) hj
    rw [hu] at w1; rw [hv] at w2
    cases w1; cases w2
    have hle := hp.length_le
    rw [wrd_len, wrd_len] at hle
    rw [h, tot_app, tot_cons, tot_app, tot_cons] at hT
    rw [tot_app, tot_cons] at hp
    have e := wrd_pre hle hj15 (by omega) (by omega) hp
    rw [h, List.pairwise_append] at hpair
    have hd : 2 ^ (15 - ky ns i) ∣ tot ns A := dvd_tot (fun a ha => (hpair.2.2 a ha i (by simp)).1) hi15
    obtain ⟨q, hq⟩ := hd
    rw [hq, Nat.mul_div_cancel_left _ hpi, show 2 ^ (15 - ky ns i) * q + (2 ^ (15 - ky ns i) + tot ns B) = 2 ^ (15 - ky ns i) * (q + 1) + tot ns B by rw [Nat.mul_add]; omega, Nat.mul_add_div hpi] at e
    generalize tot ns B / 2 ^ (15 - ky ns i) = z at e
    omega
  · -- j comes first: both are of one length
    have w1 := word_at (A := A ++ j :: B) (B := C) (by rw [h]; simp) hi
    have w2 := word_at h hj
    rw [hu] at w1; rw [hv] at w2
    cases w1; cases w2
    have hle := hp.length_le
    rw [wrd_len, wrd_len] at hle
    rw [h, List.pairwise_append] at hpair
    have hle2 : ky ns j ≤ ky ns i := ((List.pairwise_cons.1 hpair.2.1).1 i (by simp)).1
    have hkk : ky ns i = ky ns j := by omega
    rw [h, tot_app, tot_cons, tot_app, tot_cons] at hT
    rw [tot_app, tot_cons] at hp
    have e := wrd_pre hle hj15 (by omega) (by omega) hp
    have hd : 2 ^ (15 - ky ns j) ∣ tot ns A := dvd_tot (fun a ha => (hpair.2.2 a ha j (by simp)).1) hj15
    obtain ⟨q, hq⟩ := hd
    rw [hkk, hq, Nat.mul_div_cancel_left _ hpj, show 2 ^ (15 - ky ns j) * q + (2 ^ (15 - ky ns j) + tot ns B) = 2 ^ (15 - ky ns j) * (q + 1) + tot ns B by rw [Nat.mul_add]; omega, Nat.mul_add_div hpj] at e
    generalize tot ns B / 2 ^ (15 - ky ns j) = z at e
    omega
end
/-- A set of words, none of which begins with another one. -/
def PF (W : List (List UInt8)) : Prop := ∀ (i j : Nat) (u v : List UInt8), i ≠ j → W[i]? = some u → W[j]? = some v → u ≠ [] → ¬ (u <+: v)
def bitW (W : List (List UInt8)) : Prop := ∀ w ∈ W, isB w = true ∧ w.length ≤ 15
theorem isB_chs {l : List Nat} (h : ∀ y ∈ l, y < 2) : isB (chs l) = true := by
  unfold isB chs
  rw [List.all_map, List.all_eq_true]
  intro y hy
  have := h y hy
  rcases (show y = 0 ∨ y = 1 by omega) with rfl | rfl <;> rfl
theorem wordsOf_pf (l : List Int) : PF (wordsOf l) := by
  intro i j u v hij hu hv h0
  unfold wordsOf at hu hv
  by_cases h : chkErr l = 0
  · obtain ⟨ns, rfl, h1, h2, h3, h4, h5⟩ := chk_ok h
    rw [if_pos h, toI_toNat] at hu hv
    exact words_pf h1 h4 hij hu hv h0
  · rw [if_neg h] at hu; simp at hu
theorem wordsOf_bits (l : List Int) : bitW (wordsOf l) := by
  intro w hw
  unfold wordsOf at hw
  by_cases h : chkErr l = 0
  · obtain ⟨ns, rfl, h1, h2, h3, h4, h5⟩ := chk_ok h
    rw [if_pos h, toI_toNat] at hw
    obtain ⟨i, hi⟩ := List.mem_iff_getElem?.1 hw
    have hlen : (wordsL ns).length = ns.length := by unfold wordsL; rw [stp_len, List.length_replicate]
    have hi' : i < ns.length := by rw [← hlen]; exact (List.getElem?_eq_some_iff.1 hi).1
    rcases Nat.eq_zero_or_pos (ky ns i) with h0 | h0
    · rw [word_none h1 hi' h0] at hi; cases hi; exact ⟨rfl, by simp⟩
    · obtain ⟨A, B, hAB⟩ := List.append_of_mem ((ord_mem h1).2 ⟨hi', h0⟩)
      rw [word_at hAB hi'] at hi
      cases hi
      refine ⟨isB_chs (dig_lt (by decide) _ _), ?_⟩
      rw [wrd_len]; exact ky_le h1 i
  · rw [if_neg h] at hw; cases hw
end Go.Proofs.YtpmnfhifmmfglacDoor

namespace Go.Proofs.YtpmnfhifmmfglacDoor
open Go
theorem sli_take {α : Type} {xs : List α} {k : Nat} (h : k ≤ xs.length) : sli xs 0 (k : Int) = some (xs.take k) := by
  rw [sli_eq (by omega), Int.toNat_natCast]; rfl
theorem sli_drop {α : Type} {xs : List α} {k : Nat} (h : k ≤ xs.length) : sli xs (k : Int) (xs.length : Int) = some (xs.drop k) := by
  rw [sli_eq (by omega), Int.toNat_natCast, Int.toNat_natCast, List.take_length]
theorem mlook_eq {m : List (List UInt8 × Int)} {s : List UInt8} (h : s.length ≤ 140737488355328) : mlook m s = some ((mget m s).getD 0, (mget m s).isSome) := by unfold mlook; rw [if_pos h]
theorem mput_eq {m : List (List UInt8 × Int)} {s : List UInt8} {v : Int} (h : m.length < 1099511627776 ∧ s.length ≤ 140737488355328 ∧ -9223372036854775808 ≤ v ∧ v ≤ 9223372036854775807) : mput m s v = some ((s, v) :: m) := by unfold mput; rw [if_pos h]
theorem mget_cons (k s : List UInt8) (v : Int) (m : List (List UInt8 × Int)) : mget ((k, v) :: m) s = if k = s then some v else mget m s := rfl
/-- What a book of words holds. -/
structure BK (V : List (List UInt8)) (m : List (List UInt8 × Int)) : Prop where
  wd : ∀ (i : Nat) (s : List UInt8), V[i]? = some s → s ≠ [] → mget m s = some (i : Int)
  pr : ∀ (s w : List UInt8), w ∈ V → s <+: w → s ≠ w → mget m s = some (-1)
  no : ∀ (s : List UInt8), (∀ w ∈ V, w ≠ [] → ¬ s <+: w) → mget m s = none
theorem PF.sub {V : List (List UInt8)} {w : List UInt8} (h : PF (V ++ [w])) : PF V := fun i j u v hij hu hv h0 =>
  h i j u v hij (by rw [List.getElem?_append_left (List.getElem?_eq_some_iff.1 hu).1]; exact hu) (by rw [List.getElem?_append_left (List.getElem?_eq_some_iff.1 hv).1]; exact hv) h0
theorem PF.last {V : List (List UInt8)} {w u : List UInt8} (h : PF (V ++ [w])) (hu : u ∈ V) : (u ≠ [] → ¬ u <+: w) ∧ (w ≠ [] → ¬ w <+: u) := by
  obtain ⟨i, hi⟩ := List.mem_iff_getElem?.1 hu
  have hlt := (List.getElem?_eq_some_iff.1 hi).1
  have h1 : (V ++ [w])[i]? = some u := by rw [List.getElem?_append_left hlt]; exact hi
  have h2 : (V ++ [w])[V.length]? = some w := by simp
  exact ⟨h i V.length u w (by omega) h1 h2, h V.length i w u (by omega) h2 h1⟩
/-- Behind the prefixes of a word. -/
theorem BK.step {V : List (List UInt8)} {w : List UInt8} {m m2 : List (List UInt8 × Int)} (B : BK V m) (hp : PF (V ++ [w])) (hw : w ≠ [])
    (h1 : ∀ s, s <+: w → s ≠ w → mget m s = none → mget m2 s = some (-1)) (h2 : ∀ s, ¬ (s <+: w ∧ s ≠ w ∧ mget m s = none) → mget m2 s = mget m s) : BK (V ++ [w]) ((w, (V.length : Int)) :: m2) := by
  have pre : ∀ s, s <+: w → s ≠ w → mget m2 s = some (-1) := fun s h3 h4 => by
    rcases hm : mget m s with _ | x
    · exact h1 s h3 h4 hm
    · rw [h2 s (fun h => by rw [h.2.2] at hm; cases hm), hm]
      by_cases hex : ∃ u ∈ V, u ≠ [] ∧ s <+: u
      · obtain ⟨u, hu, hu0, hsu⟩ := hex
        by_cases e : s = u
        · subst e; exact absurd h3 ((hp.last hu).1 hu0)
        · rw [← hm]; exact B.pr s u hu hsu e
      · rw [B.no s fun u hu hu0 hsu => hex ⟨u, hu, hu0, hsu⟩] at hm; cases hm
  refine ⟨fun i s hi h0 => ?_, fun s u hu h3 h4 => ?_, fun s h => ?_⟩
  · rw [mget_cons]
    by_cases hlt : i < V.length
    · rw [List.getElem?_append_left hlt] at hi
      have hmem := List.mem_of_getElem? hi
      rw [if_neg (fun e => by subst e; exact (hp.last hmem).1 h0 (List.prefix_refl _)), h2 s (fun h => (hp.last hmem).1 h0 h.1)]
      exact B.wd i s hi h0
    · have hl := (List.getElem?_eq_some_iff.1 hi).1
      simp at hl
      obtain rfl : i = V.length := by omega
      simp at hi
      rw [if_pos hi]
  · rw [mget_cons]
    rcases List.mem_append.1 hu with hu | hu
    · rw [if_neg (fun e => by subst e; exact (hp.last hu).2 hw h3)]
      have := B.pr s u hu h3 h4
      rw [h2 s (fun h => by rw [h.2.2] at this; cases this)]
      exact this
    · obtain rfl : u = w := by simpa using hu
      rw [if_neg (fun e => h4 e.symm)]
      exact pre s h3 h4
  · rw [mget_cons]
    have hsw := h w (by simp) hw
    rw [if_neg (fun e => hsw (by subst e; exact List.prefix_refl _)), h2 s (fun h => hsw h.1)]
    exact B.no s fun u hu hu0 => h u (by simp [hu]) hu0
theorem BK.nil {V : List (List UInt8)} {m : List (List UInt8 × Int)} (B : BK V m) : BK (V ++ [[]]) m := by
  refine ⟨fun i s hi h0 => ?_, fun s u hu h3 h4 => ?_, fun s h => ?_⟩
  · by_cases hlt : i < V.length
    · rw [List.getElem?_append_left hlt] at hi; exact B.wd i s hi h0
    · have hl := (List.getElem?_eq_some_iff.1 hi).1
      simp at hl
      obtain rfl : i = V.length := by omega
      simp at hi
      exact absurd hi h0
  · rcases List.mem_append.1 hu with hu | hu
    · exact B.pr s u hu h3 h4
    · obtain rfl : u = [] := by simpa using hu
      exact absurd (List.prefix_nil.1 h3) h4
  · exact B.no s fun u hu hu0 => h u (by simp [hu]) hu0
theorem read_l2 (N : Nat) {w : List UInt8} (hw : w.length ≤ 15) (m0 : List (List UInt8 × Int)) (kk : List (List UInt8 × Int) × Int → Option (List Int × List UInt8 × Int)) (r) (T : Nat) (hT : T ≤ 1000)
    (hk : ∀ m2 i, m2.length ≤ T + w.length → (∀ s, s <+: w → s ≠ w → mget m0 s = none → mget m2 s = some (-1)) → (∀ s, ¬ (s <+: w ∧ s ≠ w ∧ mget m0 s = none) → mget m2 s = mget m0 s) → kk (m2, i) = r) :
    ∀ (j k fuel : Nat) (m : List (List UInt8 × Int)), k + j = w.length → j < fuel → m.length ≤ T + k → (∀ s, mget m s = if (∃ q, q < k ∧ s = w.take q) ∧ mget m0 s = none then some (-1) else mget m0 s) →
    D_code_Read_l2 N w kk fuel (m, (k : Int)) = r := by
  intro j
  induction j with
  | zero =>
    intro k fuel m hkj hf hml hm
    obtain ⟨fuel, rfl⟩ : ∃ q, fuel = q + 1 := ⟨fuel - 1, by omega⟩
    unfold D_code_Read_l2
    rw [cF (dF (by omega))]
    refine hk m _ (by omega) (fun s h1 h2 h3 => ?_) (fun s h => ?_)
    · rw [hm, if_pos]
      refine ⟨⟨s.length, ?_, (List.prefix_iff_eq_take.1 h1)⟩, h3⟩
      have hle := h1.length_le
      rcases Nat.lt_or_ge s.length w.length with h | h
      · omega
      · exact absurd (h1.eq_of_length (by omega)) h2
    · rw [hm, if_neg]
      rintro ⟨⟨q, hq, rfl⟩, h3⟩
      refine h ⟨List.take_prefix _ _, fun e => ?_, h3⟩
      have := congrArg List.length e
      rw [List.length_take] at this
      omega
  | succ j ih =>
    intro k fuel m hkj hf hml hm
    obtain ⟨fuel, rfl⟩ : ∃ q, fuel = q + 1 := ⟨fuel - 1, by omega⟩
    have hnx : IntKind.i64.wrap ((k : Int) + 1) = ((k + 1 : Nat) : Int) := by rw [w64 (by omega)]; rfl
    have hlt : (w.take k).length = k := by rw [List.length_take]; omega
    have inj : ∀ q, q < k → w.take k ≠ w.take q := fun q hq e => by
      have := congrArg List.length e
      rw [hlt, List.length_take] at this
      omega
    have hsame : mget m (w.take k) = mget m0 (w.take k) := by
      rw [hm, if_neg]
      rintro ⟨⟨q, hq, e⟩, _⟩
      exact inj q hq e
    unfold D_code_Read_l2
    rw [cT (dT (by omega)), sli_take (by omega), bsome, mlook_eq (by omega), bsome, hsame]
    rcases h0 : mget m0 (w.take k) with _ | x
    · rw [cT (by rfl), bsome, mput_eq (by omega), bsome, hnx]
      refine ih (k + 1) fuel _ (by omega) (by omega) (by simp; omega) fun s => ?_
      rw [mget_cons, hm]
      by_cases e : w.take k = s
      · subst e
        rw [if_pos rfl, if_pos ⟨⟨k, by omega, rfl⟩, h0⟩]
      · rw [if_neg e]
        have : (∃ q, q < k + 1 ∧ s = w.take q) ↔ ∃ q, q < k ∧ s = w.take q := by
          constructor
          · rintro ⟨q, hq, rfl⟩
            rcases Nat.lt_or_ge q k with h | h
            · exact ⟨q, h, rfl⟩
            · obtain rfl : q = k := by omega
              exact absurd rfl e
          · rintro ⟨q, hq, rfl⟩; exact ⟨q, by omega, rfl⟩
        simp only [this]
    · rw [cF (by rfl), hnx]
      refine ih (k + 1) fuel m (by omega) (by omega) (by omega) fun s => ?_
      rw [hm]
      have : ((∃ q, q < k + 1 ∧ s = w.take q) ∧ mget m0 s = none) ↔ (∃ q, q < k ∧ s = w.take q) ∧ mget m0 s = none := by
        constructor
        · rintro ⟨⟨q, hq, rfl⟩, h3⟩
          rcases Nat.lt_or_ge q k with h | h
          · exact ⟨⟨q, h, rfl⟩, h3⟩
          · obtain rfl : q = k := by omega
            rw [h0] at h3; cases h3
        · rintro ⟨⟨q, hq, rfl⟩, h3⟩; exact ⟨⟨q, by omega, rfl⟩, h3⟩
      simp only [this]
theorem read_l1 (N : Nat) (hN : 100 ≤ N) {W : List (List UInt8)} (hW : W.length ≤ 17) (hb : bitW W) (hp : PF W) (e : Int) (kk : List (List UInt8 × Int) × Int → Option (List Int × List UInt8 × Int)) (r) (hk : ∀ m i, BK W m → kk (m, i) = r) :
    ∀ (j k fuel : Nat) (m : List (List UInt8 × Int)), k + j = W.length → j < fuel → m.length ≤ 16 * k → BK (W.take k) m → D_code_Read_l1 N (W, e) kk fuel (m, (k : Int)) = r := by
  intro j
  induction j with
  | zero =>
    intro k fuel m hkj hf hml B
    obtain ⟨fuel, rfl⟩ : ∃ q, fuel = q + 1 := ⟨fuel - 1, by omega⟩
    unfold D_code_Read_l1
    rw [cF (dF (by show ¬ ((k : Int) < (W.length : Int)); omega))]
    rw [List.take_of_length_le (by omega)] at B
    exact hk _ _ B
  | succ j ih =>
    intro k fuel m hkj hf hml B
    obtain ⟨fuel, rfl⟩ : ∃ q, fuel = q + 1 := ⟨fuel - 1, by omega⟩
    have hlt : k < W.length := by omega
    have hnx : IntKind.i64.wrap ((k : Int) + 1) = ((k + 1 : Nat) : Int) := by rw [w64 (by omega)]; rfl
    have hw := hb _ (List.getElem_mem hlt)
    have htk : W.take (k + 1) = W.take k ++ [W[k]] := by rw [List.take_add_one, List.getElem?_eq_getElem hlt]; rfl
    have hpk : PF (W.take k ++ [W[k]]) := by
      rw [← htk]
      intro i j' u v hij hu hv h0
      rw [List.getElem?_take] at hu hv
      split at hu
      · split at hv
        · exact hp i j' u v hij hu hv h0
        · cases hv
      · cases hu
    have hkl : (W.take k).length = k := by rw [List.length_take]; omega
    unfold D_code_Read_l1
    rw [cT (dT (by show (k : Int) < (W.length : Int); omega)), idx_nat]
    show Option.bind W[k]? _ = _
    rw [List.getElem?_eq_getElem hlt, bsome]
    refine read_l2 N hw.2 m _ r (16 * k) (by omega) (fun m2 i hm2 h1 h2 => ?_) W[k].length 0 N m (by omega) (by omega) (by omega) (fun s => by rw [if_neg]; rintro ⟨⟨q, hq, _⟩, _⟩; omega)
    dsimp only
    by_cases h0 : W[k] = []
    · rw [cF (by rw [dT h0]; rfl), hnx]
      refine ih (k + 1) fuel m2 (by omega) (by omega) (by have := hw.2; omega) ?_
      rw [htk, h0]
      have B2 := B.nil
      have same : ∀ s, mget m2 s = mget m s := fun s => h2 s fun h => by rw [h0] at h; exact h.2.1 (List.prefix_nil.1 h.1)
      exact ⟨fun i s a b => by rw [same]; exact B2.wd i s a b, fun s w a b c => by rw [same]; exact B2.pr s w a b c, fun s a => by rw [same]; exact B2.no s a⟩
    · rw [cT (by rw [dF h0]; rfl), mput_eq (by have := hw.2; omega), bsome, hnx]
      refine ih (k + 1) fuel _ (by omega) (by omega) (by have := hw.2; simp; omega) ?_
      rw [htk]
      have := B.step hpk h0 h1 h2
      rw [hkl] at this
      exact this
def isW (b w : List UInt8) : Bool := !w.isEmpty && w.isPrefixOf b
def frI (W : List (List UInt8)) (b : List UInt8) : Option Nat := W.findIdx? (isW b)
def frE (W : List (List UInt8)) (b : List UInt8) : Int := if W.any (fun w => !w.isEmpty && b.isPrefixOf w) = true then 5 else 4
def rdL (W : List (List UInt8)) : Nat → List Int → List UInt8 → List Int × List UInt8 × Int
  | 0, out, b => (out, b, 0)
  | n + 1, out, b => match frI W b with
    | some i => rdL W n (out ++ [(i : Int)]) (b.drop (W.getD i []).length)
    | none => ([], [], frE W b)
theorem isW_iff {b w : List UInt8} : isW b w = true ↔ w ≠ [] ∧ w <+: b := by
  unfold isW
  rw [Bool.and_eq_true, List.isPrefixOf_iff_prefix]
  cases w <;> simp
theorem frI_some {W : List (List UInt8)} {b : List UInt8} {i : Nat} (h : frI W b = some i) : ∃ u, W[i]? = some u ∧ u ≠ [] ∧ u <+: b := by
  obtain ⟨hi, h1, _⟩ := List.findIdx?_eq_some_iff_getElem.1 h
  obtain ⟨h2, h3⟩ := isW_iff.1 h1
  exact ⟨_, List.getElem?_eq_getElem hi, h2, h3⟩
theorem frI_none {W : List (List UInt8)} {b : List UInt8} (h : frI W b = none) : ∀ w ∈ W, w ≠ [] → ¬ w <+: b := fun w hw h0 hp => by
  have := List.findIdx?_eq_none_iff.1 h w hw
  rw [isW_iff.2 ⟨h0, hp⟩] at this
  cases this
theorem frI_of {W : List (List UInt8)} (hp : PF W) {b u : List UInt8} {i : Nat} (hi : W[i]? = some u) (h0 : u ≠ []) (hb : u <+: b) : frI W b = some i := by
  rcases h : frI W b with _ | j
  · exact absurd hb (frI_none h u (List.mem_of_getElem? hi) h0)
  · obtain ⟨v, hv, hv0, hvb⟩ := frI_some h
    by_cases e : j = i
    · rw [e]
    · exfalso
      rcases Nat.le_total u.length v.length with hl | hl
      · exact hp i j u v (fun q => e q.symm) hi hv h0 (List.prefix_of_prefix_length_le hb hvb hl)
      · exact hp j i v u e hv hi hv0 (List.prefix_of_prefix_length_le hvb hb hl)
section
variable {W : List (List UInt8)} {m : List (List UInt8 × Int)} (hb : bitW W) (B : BK W m) {b : List UInt8} (hbl : b.length ≤ 16777216)
  (kk : Int × Int → Option (List Int × List UInt8 × Int))
include B hbl in
theorem read_hit (N : Nat) {u : List UInt8} {i : Nat} (hi : W[i]? = some u) (h0 : u ≠ []) (hu : u <+: b) : ∀ (j k fuel : Nat), k + j = u.length → j + 1 < fuel → D_code_Read_l4 N m b kk fuel ((k : Int), -1) = kk ((u.length : Int), (i : Int)) := by
  intro j
  have hle := hu.length_le
  have hut := List.prefix_iff_eq_take.1 hu
  induction j with
  | zero =>
    intro k fuel hkj hf
    obtain ⟨fuel, rfl⟩ : ∃ q, fuel = q + 2 := ⟨fuel - 2, by omega⟩
    obtain rfl : k = u.length := by omega
    unfold D_code_Read_l4
    rw [cT (by decide), sli_take (by omega), bsome, mlook_eq (by rw [List.length_take]; omega), bsome, ← hut, B.wd i u hi h0, cF (by rfl), cT (by exact dT (Int.natCast_nonneg _))]
    show D_code_Read_l4 N m b kk (fuel + 1) ((u.length : Int), (i : Int)) = _
    unfold D_code_Read_l4
    rw [cF (dF (by omega))]
  | succ j ih =>
    intro k fuel hkj hf
    obtain ⟨fuel, rfl⟩ : ∃ q, fuel = q + 1 := ⟨fuel - 1, by omega⟩
    have hnx : IntKind.i64.wrap ((k : Int) + 1) = ((k + 1 : Nat) : Int) := by rw [w64 (by omega)]; rfl
    have hpr : mget m (b.take k) = some (-1) := by
      have e : b.take k = u.take k := by rw [hut, List.take_take, Nat.min_eq_left (by omega)]
      rw [e]
      refine B.pr _ u (List.mem_of_getElem? hi) (List.take_prefix _ _) fun e => ?_
      have := congrArg List.length e
      rw [List.length_take] at this
      omega
    unfold D_code_Read_l4
    rw [cT (by decide), sli_take (by omega), bsome, mlook_eq (by rw [List.length_take]; omega), bsome, hpr, cF (by rfl), cF (by rfl), cF (dF (by omega)), hnx, bsome]
    exact ih (k + 1) fuel (by omega) (by omega)
include hb B hbl in
theorem read_miss (N : Nat) (hno : ∀ w ∈ W, w ≠ [] → ¬ w <+: b) : ∀ (j k fuel : Nat), k + j = 16 → k ≤ b.length → j < fuel → D_code_Read_l4 N m b kk fuel ((k : Int), -1) = some ([], [], frE W b) := by
  intro j
  induction j with
  | zero =>
    intro k fuel hkj hkb hf
    obtain ⟨fuel, rfl⟩ : ∃ q, fuel = q + 1 := ⟨fuel - 1, by omega⟩
    have hno2 : ∀ w ∈ W, w ≠ [] → ¬ (b.take k) <+: w := fun w hw _ h => by
      have h1 := h.length_le
      have := (hb w hw).2
      rw [List.length_take] at h1
      omega
    unfold D_code_Read_l4
    rw [cT (by decide), sli_take (by omega), bsome, mlook_eq (by rw [List.length_take]; omega), bsome, B.no _ hno2, cT (by rfl)]
    unfold frE
    rw [if_neg]
    rw [List.any_eq_true]
    rintro ⟨w, hw, h⟩
    have h2 := isW_iff (b := w) (w := b)
    simp only [Bool.and_eq_true, List.isPrefixOf_iff_prefix] at h
    have h1 := h.2.length_le
    have := (hb w hw).2
    omega
  | succ j ih =>
    intro k fuel hkj hkb hf
    obtain ⟨fuel, rfl⟩ : ∃ q, fuel = q + 1 := ⟨fuel - 1, by omega⟩
    have hnx : IntKind.i64.wrap ((k : Int) + 1) = ((k + 1 : Nat) : Int) := by rw [w64 (by omega)]; rfl
    unfold D_code_Read_l4
    rw [cT (by decide), sli_take hkb, bsome, mlook_eq (by rw [List.length_take]; omega), bsome]
    by_cases hex : ∃ w ∈ W, w ≠ [] ∧ (b.take k) <+: w
    · obtain ⟨w, hw, hw0, hwp⟩ := hex
      have hne : b.take k ≠ w := fun e => hno w hw hw0 (by rw [← e]; exact List.take_prefix _ _)
      rw [B.pr _ w hw hwp hne, cF (by rfl), cF (by rfl)]
      by_cases he : k = b.length
      · rw [cT (dT (by omega))]
        unfold frE
        rw [if_pos]
        rw [List.any_eq_true]
        refine ⟨w, hw, ?_⟩
        rw [he, List.take_length] at hwp
        rw [Bool.and_eq_true, List.isPrefixOf_iff_prefix]
        exact ⟨by cases w; exact absurd rfl hw0; rfl, hwp⟩
      · rw [cF (dF (by omega)), hnx, bsome]
        exact ih (k + 1) fuel (by omega) (by omega) (by omega)
    · rw [B.no _ (fun w hw hw0 hwp => hex ⟨w, hw, hw0, hwp⟩), cT (by rfl)]
      unfold frE
      rw [if_neg]
      rw [List.any_eq_true]
      rintro ⟨w, hw, h⟩
      simp only [Bool.and_eq_true, List.isPrefixOf_iff_prefix] at h
      refine hex ⟨w, hw, ?_, (List.take_prefix _ _).trans h.2⟩
      intro e; rw [e] at h; simp at h
end
theorem read_l3 (N : Nat) (hN : 5000 ≤ N) {W : List (List UInt8)} {m : List (List UInt8 × Int)} (hb : bitW W) (B : BK W m) {p : Nat} (hp : p ≤ 4096) : ∀ (n fuel : Nat) (out : List Int) (b : List UInt8), out.length + n = p → n < fuel → b.length ≤ 16777216 →
    D_code_Read_l3 N (p : Int) m (fun (l6, o3) => some (l6, o3, 0)) fuel (out, b) = some (rdL W n out b) := by
  intro n
  induction n with
  | zero =>
    intro fuel out b ho hf hbl
    obtain ⟨fuel, rfl⟩ : ∃ q, fuel = q + 1 := ⟨fuel - 1, by omega⟩
    unfold D_code_Read_l3
    rw [cF (dF (by omega))]; rfl
  | succ n ih =>
    intro fuel out b ho hf hbl
    obtain ⟨fuel, rfl⟩ : ∃ q, fuel = q + 1 := ⟨fuel - 1, by omega⟩
    unfold D_code_Read_l3
    rw [cT (dT (by omega))]
    rcases h : frI W b with _ | i
    · have := read_miss hb B hbl (fun (i12, i13) => Option.bind (app 8 out ([i13] : List Int)) fun l5 => Option.bind (sli b i12 (b.length : Int)) fun s13 => D_code_Read_l3 N (p : Int) m (fun (l6, o3) => some (l6, o3, 0)) fuel (l5, s13)) N (frI_none h) 16 0 N (by omega) (by omega) (by omega)
      refine Eq.trans this ?_
      unfold rdL
      rw [h]
    · obtain ⟨u, hu, hu0, hub⟩ := frI_some h
      have hu15 := (hb u (List.mem_of_getElem? hu)).2
      have := read_hit B hbl (fun (i12, i13) => Option.bind (app 8 out ([i13] : List Int)) fun l5 => Option.bind (sli b i12 (b.length : Int)) fun s13 => D_code_Read_l3 N (p : Int) m (fun (l6, o3) => some (l6, o3, 0)) fuel (l5, s13)) N hu hu0 hub u.length 0 N (by omega) (by omega)
      refine Eq.trans this ?_
      dsimp only
      rw [app_eq (by simp; omega), bsome, sli_drop hub.length_le, bsome, ih fuel _ _ (by simp; omega) (by omega) (by rw [List.length_drop]; omega)]
      conv => rhs; unfold rdL
      rw [h]
      dsimp only
      rw [List.getD_eq_getElem?_getD, hu]; rfl
/-- What Read answers. -/
def readR (l : List Int) (b : List UInt8) (n : Int) : List Int × List UInt8 × Int :=
  if chkErr l ≠ 0 then ([], [], chkErr l) else if n < 0 ∨ 4096 < n then ([], [], 3) else if isB b = true then rdL (wordsOf l) n.toNat [] b else ([], [], 1)
theorem read_code (N : Nat) (l : List Int) (b : List UInt8) (n : Int) (hb : b.length ≤ 16777216) (hN : 5000 ≤ N ∧ b.length < N) : D_code_Read N l b n = some (readR l b n) := by
  unfold D_code_Read readR
  rw [words_code N (by omega), bsome]
  by_cases h : chkErr l = 0
  · rw [cF (by rw [show (wordsOf l, chkErr l).2 = 0 from h]; rfl), if_neg (by simpa using h)]
    by_cases h1 : n < 0
    · rw [cT (dT h1), if_pos (.inl h1)]
    rw [cF (dF h1)]
    by_cases h2 : 4096 < n
    · rw [cT (dT h2), if_pos (.inr h2)]
    rw [cF (dF h2), if_neg (by omega), bytes_code N hb hN.2, bsome]
    by_cases h3 : isB b = true
    · rw [if_pos h3, if_pos h3, cF (by rfl)]
      have hl17 : (wordsOf l).length ≤ 17 := by
        rw [wordsOf_len h]
        obtain ⟨ns, rfl, _, _, h17, _⟩ := chk_ok h
        rw [toI_len]; exact h17
      obtain ⟨q, rfl⟩ := Int.eq_ofNat_of_zero_le (show 0 ≤ n by omega)
      refine read_l1 N (by omega) hl17 (wordsOf_bits l) (wordsOf_pf l) (chkErr l) _ _ (fun m i B => ?_) (wordsOf l).length 0 N [] (by omega) (by omega) (by simp) ⟨fun i s h => by simp at h, fun s w h => by simp at h, fun s _ => rfl⟩
      exact read_l3 N hN.1 (wordsOf_bits l) B (by omega) q N [] b (by simp) (by omega) hb
    · rw [if_neg h3, if_neg h3, cT (by rfl)]
  · rw [cT (by rw [show (wordsOf l, chkErr l).2 = chkErr l from rfl, dF h]; rfl), if_pos h]
end Go.Proofs.YtpmnfhifmmfglacDoor

namespace Go.Proofs.YtpmnfhifmmfglacDoor
open Go
theorem begins_eq (N : Nat) (s w : List UInt8) (hs : s.length ≤ 16777216) : D_darkslideref_begins N s w = some (w.isPrefixOf s) := by
  unfold D_darkslideref_begins
  have e : w.isPrefixOf s = decide (w <+: s) := by rw [Bool.eq_iff_iff, List.isPrefixOf_iff_prefix, decide_eq_true_iff]
  rw [e]
  by_cases h : w.length ≤ s.length
  · rw [cT (dT (by omega)), sli_take h, bsome]
    congr 1
    rw [decide_eq_decide]
    constructor
    · intro q; rw [← q]; exact List.take_prefix _ _
    · intro q; exact (List.prefix_iff_eq_take.1 q).symm
  · rw [cF (dF (by omega)), dF (fun q => h q.length_le)]
theorem front_l1 (N : Nat) {W : List (List UInt8)} (hW : W.length ≤ 1000) (hb : bitW W) {b : List UInt8} (hbl : b.length ≤ 16777216) : ∀ (j k fuel : Nat) (short : Bool), k + j = W.length → j < fuel →
    D_darkslideref_front_l1 N W b (fun (short2, i8) => cond (short2) (some (0, 5)) (some (0, 4))) fuel (short, (k : Int)) =
      some (match (W.drop k).findIdx? (isW b) with | some i => (((k + i : Nat) : Int), 0) | none => if (short || (W.drop k).any fun w => !w.isEmpty && b.isPrefixOf w) = true then (0, 5) else (0, 4)) := by
  intro j
  induction j with
  | zero =>
    intro k fuel short hk hf
    obtain ⟨fuel, rfl⟩ : ∃ q, fuel = q + 1 := ⟨fuel - 1, by omega⟩
    obtain rfl : k = W.length := by omega
    unfold D_darkslideref_front_l1
    rw [cF (dF (by omega)), List.drop_length]
    cases short <;> rfl
  | succ j ih =>
    intro k fuel short hk hf
    obtain ⟨fuel, rfl⟩ : ∃ q, fuel = q + 1 := ⟨fuel - 1, by omega⟩
    have hlt : k < W.length := by omega
    have hnx : IntKind.i64.wrap ((k : Int) + 1) = ((k + 1 : Nat) : Int) := by rw [w64 (by omega)]; rfl
    have hw := (hb _ (List.getElem_mem hlt)).2
    have hsh : ∀ (o : Option Nat) (s1 s2 : Bool), s1 = s2 → (match o.map (· + 1) with | some i => (((k + i : Nat) : Int), (0 : Int)) | none => if s1 = true then (0, 5) else (0, 4)) = (match o with | some i => (((k + 1 + i : Nat) : Int), 0) | none => if s2 = true then (0, 5) else (0, 4)) := by
      intro o s1 s2 hs
      subst hs
      cases o with
      | none => rfl
      | some i => show (((k + (i + 1) : Nat) : Int), (0 : Int)) = (((k + 1 + i : Nat) : Int), 0); rw [show k + (i + 1) = k + 1 + i by omega]
    unfold D_darkslideref_front_l1
    rw [cT (dT (by omega)), idx_nat, List.getElem?_eq_getElem hlt, bsome, List.drop_eq_getElem_cons hlt, List.findIdx?_cons, List.any_cons]
    generalize W[k] = w at hw ⊢
    by_cases h0 : w = []
    · subst h0
      rw [cT (dT rfl), hnx, bsome, ih (k + 1) fuel short (by omega) (by omega), show isW b [] = false from rfl]
      rw [if_neg Bool.false_ne_true]
      exact congrArg some (hsh _ _ _ rfl).symm
    · have he : (!w.isEmpty) = true := by cases hc : w; exact absurd hc h0; rfl
      have hi : isW b w = w.isPrefixOf b := by unfold isW; rw [he, Bool.true_and]
      rw [cF (dF h0), bsome, begins_eq N b w hbl, bsome, hi, he, Bool.true_and]
      by_cases h1 : w.isPrefixOf b = true
      · rw [cT h1, if_pos h1]; rfl
      · rw [cF ((Bool.not_eq_true _).mp h1), if_neg h1]
        cases short with
        | true =>
          rw [cT rfl, hnx, bsome, ih (k + 1) fuel true (by omega) (by omega)]
          exact congrArg some (hsh _ _ _ rfl).symm
        | false =>
          rw [cF rfl, bsome, begins_eq N w b (by omega), bsome, hnx, bsome, ih (k + 1) fuel _ (by omega) (by omega)]
          exact congrArg some (hsh _ _ _ rfl).symm
theorem front_eq (N : Nat) (hN : 1001 ≤ N) {W : List (List UInt8)} (hW : W.length ≤ 1000) (hb : bitW W) {b : List UInt8} (hbl : b.length ≤ 16777216) : D_darkslideref_front N W b = some (match frI W b with | some i => ((i : Int), 0) | none => (0, frE W b)) := by
  unfold D_darkslideref_front
  have key := front_l1 N hW hb hbl W.length 0 N false (by omega) (by omega)
  rw [List.drop_zero] at key
  refine Eq.trans key ?_
  unfold frI frE
  congr 1
  cases h : List.findIdx? (isW b) W with
  | some i => simp
  | none =>
    dsimp only
    rw [Bool.false_or]
    split <;> rfl
theorem frE_ne (W : List (List UInt8)) (b : List UInt8) : frE W b ≠ 0 := by unfold frE; split <;> decide
theorem isB_app (a b : List UInt8) : isB (a ++ b) = (isB a && isB b) := by unfold isB; rw [List.all_append]
theorem sameI2 (N : Nat) (l : List Int) (hl : l.length < N) (h2 : l.length ≤ 1000000) : D_darkslideref_SameInts N l l = some true := by
  unfold D_darkslideref_SameInts
  rw [cF (by simp)]
  exact sameI_l1 N l _ (by omega) l.length 0 N (by omega) hl
end Go.Proofs.YtpmnfhifmmfglacDoor

namespace Go.Proofs.YtpmnfhifmmfglacDoor
open Go
def sideOK (W H : Int) (n : Nat) : Prop := 1 ≤ W ∧ W ≤ 64 ∧ 1 ≤ H ∧ H ≤ 64 ∧ (n : Int) = W * H
instance (W H : Int) (n : Nat) : Decidable (sideOK W H n) := by unfold sideOK; infer_instance
theorem mul_bd {W H : Int} (h : 1 ≤ W ∧ W ≤ 64 ∧ 1 ≤ H ∧ H ≤ 64) : 1 ≤ W * H ∧ W * H ≤ 4096 := by
  obtain ⟨h1, h2, h3, h4⟩ := h
  have a := Int.mul_le_mul h2 h4 (by omega) (by omega)
  have b := Int.mul_le_mul h1 h3 (by omega) (by omega)
  omega
theorem dm {W x : Nat} (y : Nat) (h : x < W) : (y * W + x) % W = x ∧ (y * W + x) / W = y := by
  have h1 : (y * W + x) % W = x := by rw [Nat.add_comm, Nat.add_mul_mod_self_right, Nat.mod_eq_of_lt h]
  have h2 : (y * W + x) / W = y := by rw [Nat.add_comm, Nat.add_mul_div_right _ _ (by omega), Nat.div_eq_of_lt h, Nat.zero_add]
  exact ⟨h1, h2⟩
theorem place_lt {W H x y : Nat} (hx : x < W) (hy : y < H) : y * W + x < W * H := by
  have := Nat.mul_le_mul_right W (show y + 1 ≤ H from hy)
  rw [Nat.add_mul, Nat.one_mul, Nat.mul_comm H W] at this
  omega
theorem tdm {W : Nat} (k : Nat) (hW : 0 < W) : Int.tmod (k : Int) (W : Int) = ((k % W : Nat) : Int) ∧ Int.tdiv (k : Int) (W : Int) = ((k / W : Nat) : Int) := by
  constructor
  · rw [Int.tmod_eq_emod_of_nonneg (by omega)]; rfl
  · rw [Int.tdiv_eq_ediv_of_nonneg (by omega)]; rfl
/-- A list by its places, as far as it has come. -/
def pre {α : Type} (W : Nat) (f : Nat → Nat → α) (n : Nat) : List α := (List.range n).map fun k => f (k % W) (k / W)
theorem shr_eq (m : Int) (n : Nat) (hn : n ≤ 64) : shrI .i64 m (n : Int) = m / 2 ^ n := by
  unfold shrI
  rw [Int.toNat_natCast, show min n IntKind.i64.bits = n from Nat.min_eq_left hn]
  exact Int.fdiv_eq_ediv_of_nonneg _ (Int.le_of_lt (Int.pow_pos (by decide)))
end Go.Proofs.YtpmnfhifmmfglacDoor

namespace Go.Proofs.YtpmnfhifmmfglacDoor
open Go
theorem down_eq (N : Nat) {n b : Int} (hb : 1 ≤ b ∧ b ≤ 1000000) (hn : -4611686018427387904 ≤ n ∧ n ≤ 4611686018427387904) : D_darkslideref_down N n b = some (n / b) := by
  have hd := Int.mul_ediv_add_emod n b
  have hr0 := Int.emod_nonneg n (show b ≠ 0 by omega)
  have hr1 := Int.emod_lt_of_pos n (show 0 < b by omega)
  obtain ⟨q, hq⟩ : ∃ q, n / b = q := ⟨_, rfl⟩
  obtain ⟨r, hr⟩ : ∃ r, n % b = r := ⟨_, rfl⟩
  rw [hq, hr] at hd
  rw [hr] at hr0 hr1
  have hqb : -4611686018427387905 ≤ q ∧ q ≤ 4611686018427387904 := by
    have h1 : q ≤ 4611686018427387904 := by
      rw [← hq]
      exact Int.le_trans (Int.ediv_le_ediv (by omega) hn.2) (Int.ediv_le_of_le_mul (by omega) (by omega))
    have h2 : -4611686018427387905 ≤ q := by
      rw [← hq]
      exact Int.le_ediv_of_mul_le (by omega) (by omega)
    exact ⟨h2, h1⟩
  unfold D_darkslideref_down
  rw [nz_eq (by omega), bsome, bsome, Int.tdiv_eq_ediv, hq]
  by_cases h : 0 ≤ n ∨ b ∣ n
  · rw [if_pos h, Int.add_zero, w64 (x := q) (by omega), Int.mul_comm q b, w64 (x := b * q) (by omega), cF (dF (by omega))]
  · rw [if_neg h, Int.sign_eq_one_of_pos (by omega), w64 (x := q + 1) (by omega), Int.mul_comm (q + 1) b, Int.mul_add, Int.mul_one, w64 (x := b * q + b) (by omega), cT (dT (by omega)), bsome, w64 (by omega), Int.add_sub_cancel]
end Go.Proofs.YtpmnfhifmmfglacDoor

namespace Go.Proofs.YtpmnfhifmmfglacDoor
open Go
def okE (e : Int) : Bool := decide (0 ≤ e ∧ e ≤ 65535)
def plF (W H : Int) (P : List Int) : Bool := decide (sideOK W H P.length) && P.all okE
theorem rfine_l1 (N : Nat) {P : List Int} (hP : P.length ≤ 4096) (kk) : ∀ (j k fuel : Nat), k + j = P.length → j < fuel → D_darkslideref_PlaneFine_l1 N P kk fuel (k : Int) = if (P.drop k).all okE = true then kk (P.length : Int) else some false := by
  intro j
  induction j with
  | zero =>
    intro k fuel hk hf
    obtain ⟨fuel, rfl⟩ : ∃ q, fuel = q + 1 := ⟨fuel - 1, by omega⟩
    obtain rfl : k = P.length := by omega
    unfold D_darkslideref_PlaneFine_l1
    rw [cF (dF (by omega)), List.drop_length, if_pos (by rfl)]
  | succ j ih =>
    intro k fuel hk hf
    obtain ⟨fuel, rfl⟩ : ∃ q, fuel = q + 1 := ⟨fuel - 1, by omega⟩
    have hlt : k < P.length := by omega
    have hnx : IntKind.i64.wrap ((k : Int) + 1) = ((k + 1 : Nat) : Int) := by rw [w64 (by omega)]; rfl
    unfold D_darkslideref_PlaneFine_l1
    rw [cT (dT (by omega)), idx_nat, List.getElem?_eq_getElem hlt, bsome, within2, bsome, List.drop_eq_getElem_cons hlt, List.all_cons]
    by_cases h1 : 0 ≤ P[k] ∧ P[k] ≤ 65535
    · rw [cF (by rw [dT h1]; rfl), hnx, bsome, ih (k + 1) fuel (by omega) (by omega), show okE P[k] = true from dT h1, Bool.true_and]
    · rw [cT (by rw [dF h1]; rfl), if_neg]
      rw [show okE P[k] = false from dF h1]; simp
theorem plF_no {W H : Int} {P : List Int} (h : ¬ sideOK W H P.length) : plF W H P = false := by unfold plF; rw [dF h]; rfl
theorem rfine_eq (N : Nat) (hN : 5000 ≤ N) (W H : Int) (P : List Int) : D_darkslideref_PlaneFine N W H P = some (plF W H P) := by
  unfold D_darkslideref_PlaneFine
  rw [within2, bsome]
  by_cases h1 : 1 ≤ W ∧ W ≤ 64
  rotate_left
  · rw [cT (by rw [dF h1]; rfl), plF_no (fun h => by unfold sideOK at h; omega)]
  rw [cF (by rw [dT h1]; rfl), within2, bsome]
  by_cases h3 : 1 ≤ H ∧ H ≤ 64
  rotate_left
  · rw [cT (by rw [dF h3]; rfl), plF_no (fun h => by unfold sideOK at h; omega)]
  have hb := mul_bd (W := W) (H := H) (by omega)
  rw [cF (by rw [dT h3]; rfl), w64 (by omega)]
  by_cases h5 : (P.length : Int) = W * H
  rotate_left
  · rw [cT (by rw [dF h5]; rfl), plF_no (fun h => by unfold sideOK at h; exact h5 h.2.2.2.2)]
  have hs : sideOK W H P.length := ⟨by omega, by omega, by omega, by omega, h5⟩
  rw [cF (by rw [dT h5]; rfl)]
  have key := rfine_l1 N (P := P) (by omega) (fun _ => some true) P.length 0 N (by omega) (by omega)
  refine Eq.trans key ?_
  unfold plF
  rw [dT hs, Bool.true_and, List.drop_zero]
  split
  · rename_i h; rw [h]
  · rename_i h; rw [(Bool.not_eq_true _).mp h]
def gsv (kind a b c : Int) : Int := if kind = 1 then a else if kind = 2 then b else if kind = 3 then c else if kind = 4 then a + b - c else if kind = 5 then a + (b - c) / 2 else if kind = 6 then b + (a - c) / 2 else (a + b) / 2
def gs (W : Nat) (P : List Int) (kind : Int) (i : Nat) : Int := if i = 0 then 32768 else if i / W = 0 then P.getD (i - 1) 0 else if i % W = 0 then P.getD (i - W) 0 else gsv kind (P.getD (i - 1) 0) (P.getD (i - W) 0) (P.getD (i - W - 1) 0)
theorem gsv_in {kind a b c : Int} (ha : 0 ≤ a ∧ a ≤ 65535) (hb : 0 ≤ b ∧ b ≤ 65535) (hc : 0 ≤ c ∧ c ≤ 65535) : -65535 ≤ gsv kind a b c ∧ gsv kind a b c ≤ 131070 := by
  unfold gsv
  repeat' split
  all_goals omega
section
variable {P : List Int} (hP : ∀ e ∈ P, 0 ≤ e ∧ e ≤ 65535)
include hP in
theorem P_at {j : Nat} (h : j < P.length) : idx P (j : Int) = some (P.getD j 0) ∧ 0 ≤ P.getD j 0 ∧ P.getD j 0 ≤ 65535 := by
  have e : P.getD j 0 = P[j] := by rw [List.getD_eq_getElem?_getD, List.getElem?_eq_getElem h]; rfl
  rw [e, idx_nat, List.getElem?_eq_getElem h]
  exact ⟨rfl, hP _ (List.getElem_mem h)⟩
include hP in
theorem gs_in {W : Nat} {kind : Int} {i : Nat} (hW : 1 ≤ W) (hi : i < P.length) : -65535 ≤ gs W P kind i ∧ gs W P kind i ≤ 131070 := by
  unfold gs
  split
  · omega
  · split
    · have := (P_at hP (j := i - 1) (by omega)).2; omega
    · split
      · have := (P_at hP (j := i - W) (by omega)).2; omega
      · exact gsv_in (P_at hP (by omega)).2 (P_at hP (by omega)).2 (P_at hP (by omega)).2
theorem nat_div_pos {i W : Nat} (h : i / W ≠ 0) : W ≤ i ∧ 0 < W := by
  rcases Nat.eq_zero_or_pos W with h0 | h0
  · subst h0; simp at h
  · refine ⟨?_, h0⟩
    rcases Nat.lt_or_ge i W with h1 | h1
    · exact absurd (Nat.div_eq_of_lt h1) h
    · exact h1
include hP in
theorem guess_code (N : Nat) {W : Nat} (hW : 1 ≤ W ∧ W ≤ 64) {kind : Int} (hk : 1 ≤ kind ∧ kind ≤ 7) (H : Int) {i : Nat} (hi : i < P.length) (hl : P.length ≤ 4096) : D_diff_guess N (W : Int) H P kind (i : Int) = some (gs W P kind i) := by
  unfold D_diff_guess gs
  obtain ⟨t1, t2⟩ := tdm (W := W) i (by omega)
  rw [nz_eq (by omega), bsome, bsome, t2, t1]
  by_cases h0 : i = 0
  · rw [cT (dT (by omega)), if_pos h0]
  have hdl : i / W ≤ i := Nat.div_le_self _ _
  rw [cF (dF (by omega)), if_neg h0, w64 (x := ((i / W : Nat) : Int)) ⟨Int.le_trans (by decide) (Int.natCast_nonneg _), Int.le_trans (Int.ofNat_le.2 hdl) (by omega)⟩]
  have e1 : IntKind.i64.wrap ((i : Int) - 1) = ((i - 1 : Nat) : Int) := by rw [w64 (by omega)]; omega
  by_cases h1 : i / W = 0
  · rw [cT (dT (by rw [h1]; rfl)), if_pos h1, e1, (P_at hP (j := i - 1) (by omega)).1]; rfl
  obtain ⟨hWi, hW0⟩ := nat_div_pos h1
  have e2 : IntKind.i64.wrap ((i : Int) - (W : Int)) = ((i - W : Nat) : Int) := by rw [w64 (by omega)]; omega
  rw [cF (dF (fun h => h1 (by exact_mod_cast h))), if_neg h1, e2]
  by_cases h2 : i % W = 0
  · rw [cT (dT (by rw [h2]; rfl)), if_pos h2, (P_at hP (j := i - W) (by omega)).1]; rfl
  have hlt : W < i := by
    rcases Nat.lt_or_ge W i with h | h
    · exact h
    · obtain rfl : i = W := by omega
      simp at h2
  have e3 : IntKind.i64.wrap (((i - W : Nat) : Int) - 1) = ((i - W - 1 : Nat) : Int) := by rw [w64 (by omega)]; omega
  obtain ⟨a1, a2⟩ := P_at hP (j := i - 1) (by omega)
  obtain ⟨b1, b2⟩ := P_at hP (j := i - W) (by omega)
  obtain ⟨c1, c2⟩ := P_at hP (j := i - W - 1) (by omega)
  rw [cF (dF (fun h => h2 (by exact_mod_cast h))), if_neg h2, e1, a1, bsome, b1, bsome, e3, c1, bsome]
  generalize P.getD (i - 1) 0 = a at *
  generalize P.getD (i - W) 0 = b at *
  generalize P.getD (i - W - 1) 0 = c at *
  have s1 : ∀ m : Int, shrI .i64 m 1 = m / 2 := fun m => shr_eq m 1 (by decide)
  rw [s1, s1, s1, w64 (x := a + b) (by omega), w64 (x := a + b - c) (by omega), w64 (x := b - c) (by omega), w64 (x := a - c) (by omega), w64 (x := a + (b - c) / 2) (by omega), w64 (x := b + (a - c) / 2) (by omega)]
  unfold gsv
  rcases (show kind = 1 ∨ kind = 2 ∨ kind = 3 ∨ kind = 4 ∨ kind = 5 ∨ kind = 6 ∨ kind = 7 by omega) with rfl | rfl | rfl | rfl | rfl | rfl | rfl <;> rfl
include hP in
theorem at_eq (N : Nat) {W x y : Nat} (H : Int) (hW : W ≤ 64) (hx : x ≤ 64) (hy : y ≤ 64) (h : y * W + x < P.length) : D_darkslideref_At N (W : Int) H P (x : Int) (y : Int) = some (P.getD (y * W + x) 0) := by
  have hyw : y * W ≤ 64 * 64 := Nat.mul_le_mul hy hW
  have e : (y : Int) * (W : Int) = ((y * W : Nat) : Int) := by simp
  have e2 : IntKind.i64.wrap (IntKind.i64.wrap ((y : Int) * (W : Int)) + (x : Int)) = ((y * W + x : Nat) : Int) := by
    rw [e, w64 (x := ((y * W : Nat) : Int)) (by omega), w64 (by omega)]; omega
  unfold D_darkslideref_At
  rw [e2, (P_at hP h).1]; rfl
include hP in
theorem guessOf_eq (N : Nat) {W : Nat} (hW : 1 ≤ W ∧ W ≤ 64) {kind : Int} (hk : 1 ≤ kind ∧ kind ≤ 7) (H : Int) {x y : Nat} (hx : x < W) (hy : y < 64) (hi : y * W + x < P.length) (hl : P.length ≤ 4096) : D_darkslideref_GuessOf N (W : Int) H P kind (x : Int) (y : Int) = some (gs W P kind (y * W + x)) := by
  obtain ⟨d1, d2⟩ := dm (W := W) y hx
  have fin : ∀ (a b c : Int), 0 ≤ a ∧ a ≤ 65535 → 0 ≤ b ∧ b ≤ 65535 → 0 ≤ c ∧ c ≤ 65535 → (cond (decide (kind = 1)) (
      some a) (
      cond (decide (kind = 2)) (
      some b) (
      cond (decide (kind = 3)) (
      some c) (
      cond (decide (kind = 4)) (
      some (IntKind.i64.wrap ((IntKind.i64.wrap (a + b)) - c))) (
      cond (decide (kind = 5)) (
      Option.bind (D_darkslideref_down N (IntKind.i64.wrap (b - c)) 2) fun r15 =>
      some (IntKind.i64.wrap (a + r15))) (
      cond (decide (kind = 6)) (
      Option.bind (D_darkslideref_down N (IntKind.i64.wrap (a - c)) 2) fun r16 =>
      some (IntKind.i64.wrap (b + r16))) (
      Option.bind (D_darkslideref_down N (IntKind.i64.wrap (a + b)) 2) fun r17 =>
      some r17)))))) : Option Int) = some (gsv kind a b c) := by
    intro a b c ha hb hc
    rw [w64 (x := a + b) (by omega), w64 (x := a + b - c) (by omega), w64 (x := b - c) (by omega), w64 (x := a - c) (by omega), down_eq N (by omega) (by omega), down_eq N (by omega) (by omega), down_eq N (by omega) (by omega), bsome, bsome, bsome, w64 (x := a + (b - c) / 2) (by omega), w64 (x := b + (a - c) / 2) (by omega)]
    unfold gsv
    rcases (show kind = 1 ∨ kind = 2 ∨ kind = 3 ∨ kind = 4 ∨ kind = 5 ∨ kind = 6 ∨ kind = 7 by omega) with rfl | rfl | rfl | rfl | rfl | rfl | rfl <;> rfl
  unfold D_darkslideref_GuessOf gs
  rw [d2, d1]
  by_cases h0 : x = 0
  · subst h0
    rw [cT (dT (by rfl))]
    by_cases h1 : y = 0
    · subst h1
      rw [cT (dT (by rfl)), if_pos (by simp)]
    · have hyw : 1 ≤ y * W := Nat.mul_pos (by omega) (by omega)
      have e : IntKind.i64.wrap ((y : Int) - 1) = ((y - 1 : Nat) : Int) := by rw [w64 (by omega)]; omega
      have e2 : (y - 1) * W + 0 = y * W + 0 - W := by rw [Nat.sub_mul]; omega
      have hle : (y - 1) * W ≤ y * W := Nat.mul_le_mul_right _ (by omega)
      rw [cF (dF (by omega)), cF (dF (by omega)), cT (dT (by rfl)), e]
      have := at_eq hP N (W := W) (x := 0) (y := y - 1) H (by omega) (by omega) (by omega) (by omega)
      rw [show ((0 : Nat) : Int) = 0 from rfl] at this
      rw [this, bsome, if_neg (by omega), if_neg (by omega), if_pos rfl, e2]
  · rw [cF (dF (by omega))]
    have ex : IntKind.i64.wrap ((x : Int) - 1) = ((x - 1 : Nat) : Int) := by rw [w64 (by omega)]; omega
    by_cases h1 : y = 0
    · subst h1
      have := at_eq hP N (W := W) (x := x - 1) (y := 0) H (by omega) (by omega) (by omega) (by omega)
      rw [show ((0 : Nat) : Int) = 0 from rfl] at this
      rw [cT (dT (by rfl)), ex, this, bsome, if_neg (by omega), if_pos rfl]
      congr 2
      omega
    · have e : IntKind.i64.wrap ((y : Int) - 1) = ((y - 1 : Nat) : Int) := by rw [w64 (by omega)]; omega
      have hsub : (y - 1) * W = y * W - W := by rw [Nat.sub_mul]; omega
      have hyw : W ≤ y * W := Nat.le_mul_of_pos_left W (by omega)
      rw [cF (dF (by omega)), cF (dF (by omega)), ex, e, at_eq hP N (W := W) (x := x - 1) (y := y) H (by omega) (by omega) (by omega) (by omega), bsome, at_eq hP N (W := W) (x := x) (y := y - 1) H (by omega) (by omega) (by omega) (by omega), bsome, at_eq hP N (W := W) (x := x - 1) (y := y - 1) H (by omega) (by omega) (by omega) (by omega), bsome, if_neg (by omega), if_neg (by omega), if_neg (by omega)]
      rw [show y * W + (x - 1) = y * W + x - 1 by omega, show (y - 1) * W + x = y * W + x - W by omega, show (y - 1) * W + (x - 1) = y * W + x - W - 1 by omega]
      exact fin _ _ _ (P_at hP (by omega)).2 (P_at hP (by omega)).2 (P_at hP (by omega)).2
end
theorem plF_nat {W H : Int} {P : List Int} (h : plF W H P = true) : ∃ w k : Nat, W = w ∧ H = k ∧ 1 ≤ w ∧ w ≤ 64 ∧ 1 ≤ k ∧ k ≤ 64 ∧ P.length = w * k ∧ w * k ≤ 4096 ∧ ∀ e ∈ P, 0 ≤ e ∧ e ≤ 65535 := by
  unfold plF at h
  rw [Bool.and_eq_true] at h
  obtain ⟨h1, h2⟩ := h
  obtain ⟨a, b, c, d, e⟩ := of_decide_eq_true h1
  obtain ⟨w, rfl⟩ := Int.eq_ofNat_of_zero_le (show 0 ≤ W by omega)
  obtain ⟨k, rfl⟩ := Int.eq_ofNat_of_zero_le (show 0 ≤ H by omega)
  have hm := Nat.mul_le_mul (show w ≤ 64 by omega) (show k ≤ 64 by omega)
  exact ⟨w, k, rfl, rfl, by omega, by omega, by omega, by omega, by exact_mod_cast e, by omega, fun e he => of_decide_eq_true (List.all_eq_true.1 h2 e he)⟩
end Go.Proofs.YtpmnfhifmmfglacDoor

namespace Go.Proofs.YtpmnfhifmmfglacDoor
open Go
/-- How many bits a number has. -/
def bl (n : Nat) : Nat := if n = 0 then 0 else Nat.log2 n + 1
theorem bl_half {n : Nat} (h : 0 < n) : bl n = bl (n / 2) + 1 := by
  unfold bl
  rw [if_neg (by omega)]
  by_cases h2 : 2 ≤ n
  · rw [if_neg (by omega), Nat.log2_def, if_pos h2]
  · obtain rfl : n = 1 := by omega
    rfl
theorem bl_pow : ∀ (k n : Nat), bl n ≤ k ↔ n < 2 ^ k
  | 0, n => by
    unfold bl
    split
    · subst n; simp
    · rw [Nat.pow_zero]; omega
  | k + 1, n => by
    rcases Nat.eq_zero_or_pos n with rfl | h
    · have := Nat.two_pow_pos (k + 1); simp [bl, this]
    · have ih := bl_pow k (n / 2)
      rw [bl_half h, Nat.pow_succ]
      constructor
      · intro q
        have := ih.1 (by omega)
        omega
      · intro q
        have := ih.2 (by omega)
        omega
/-- The class of a difference. -/
def cl (d : Int) : Nat := bl (max d (-d)).toNat
theorem classOf_l1 (N : Nat) : ∀ (j : Nat) (k n fuel : Nat), bl k = j → j < fuel → n + j ≤ 1000 → k ≤ 1000000 → D_darkslideref_classOf_l1 N (fun (n4, k5) => some n4) fuel ((n : Int), (k : Int)) = some ((n + j : Nat) : Int) := by
  intro j
  induction j with
  | zero =>
    intro k n fuel hb hf hn hk
    obtain ⟨fuel, rfl⟩ : ∃ q, fuel = q + 1 := ⟨fuel - 1, by omega⟩
    have := (bl_pow 0 k).1 (by omega)
    unfold D_darkslideref_classOf_l1
    rw [cF (dF (by omega))]; rfl
  | succ j ih =>
    intro k n fuel hb hf hn hk
    obtain ⟨fuel, rfl⟩ : ∃ q, fuel = q + 1 := ⟨fuel - 1, by omega⟩
    have hk0 : 0 < k := by
      rcases Nat.eq_zero_or_pos k with rfl | h
      · simp [bl] at hb
      · exact h
    have hb2 := bl_half hk0
    unfold D_darkslideref_classOf_l1
    rw [cT (dT (by omega)), w64 (x := (n : Int) + 1) (by omega), bsome, show Int.tdiv (k : Int) 2 = ((k / 2 : Nat) : Int) from rfl, w64 (x := ((k / 2 : Nat) : Int)) (by omega), bsome, show (n : Int) + 1 = ((n + 1 : Nat) : Int) by rfl, ih (k / 2) (n + 1) fuel (by omega) (by omega) (by omega) (by omega)]
    congr 2
    omega
theorem cl_le {d : Int} (h : -32768 < d ∧ d ≤ 32768) : cl d ≤ 16 := (bl_pow 16 _).2 (by omega)
theorem classOf_eq (N : Nat) (hN : 100 ≤ N) {d : Int} (h : -32768 < d ∧ d ≤ 32768) : D_darkslideref_classOf N d = some ((cl d : Nat) : Int) := by
  have hc := cl_le h
  unfold D_darkslideref_classOf
  rw [w64 (x := 0 - d) (by omega), bsome, show max d (0 - d) = (((max d (-d)).toNat : Nat) : Int) by omega]
  have := classOf_l1 N (cl d) (max d (-d)).toNat 0 N rfl (by omega) (by omega) (by omega)
  rw [Nat.zero_add] at this
  exact this
/-- What is behind a class's word. -/
def mor (d : Int) : List UInt8 := if cl d = 0 ∨ cl d = 16 then [] else chs (dig 2 (cl d) (if 0 < d then d else d + ((2 ^ cl d : Nat) : Int) - 1).toNat)
theorem cl_lt {d : Int} : -((2 ^ cl d : Nat) : Int) < d ∧ d < ((2 ^ cl d : Nat) : Int) := by
  have h := (bl_pow (cl d) (max d (-d)).toNat).1 (Nat.le_refl _)
  have h2 : (((max d (-d)).toNat : Nat) : Int) < ((2 ^ cl d : Nat) : Int) := Int.ofNat_lt.2 h
  omega
theorem cl_zero {d : Int} : cl d = 0 ↔ d = 0 := by
  have := bl_pow 0 (max d (-d)).toNat
  unfold cl
  constructor
  · intro h; have := this.1 (by omega); omega
  · intro h; have := this.2 (by omega); omega
theorem numv {d : Int} (h : cl d ≠ 0) (h2 : cl d ≠ 16) (hd : -32768 < d ∧ d ≤ 32768) : numErr (if 0 < d then d else d + ((2 ^ cl d : Nat) : Int) - 1) ((cl d : Nat) : Int) = 0 := by
  have hc := cl_le hd
  have hl := cl_lt (d := d)
  have h0 : d ≠ 0 := fun e => h (cl_zero.2 e)
  unfold numErr
  rw [if_pos (by omega), Int.toNat_natCast, if_pos]
  split
  · omega
  · omega
theorem more_eq (N : Nat) (hN : 100 ≤ N) {d : Int} (h : -32768 < d ∧ d ≤ 32768) : D_darkslideref_more N d = some (mor d) := by
  have hc := cl_le h
  unfold D_darkslideref_more mor
  rw [classOf_eq N hN h, bsome]
  by_cases h0 : cl d = 0
  · rw [cT (dT (by omega)), if_pos (.inl h0)]
  rw [cF (dF (by omega))]
  by_cases h1 : cl d = 16
  · rw [cT (dT (by omega)), if_pos (.inr h1)]
  have hv := numv h0 h1 h
  have hp := pow_le16 (d := cl d) hc
  have hl := cl_lt (d := d)
  rw [cF (dF (by omega)), if_neg (by omega)]
  by_cases h2 : 0 < d
  · rw [if_pos h2] at hv
    rw [cT (dT h2), number_doc N hN hv, bsome, Int.toNat_natCast, if_pos h2]
  · rw [if_neg h2] at hv
    rw [cF (dF h2), nn_nat, bsome, one_shl hc, w64 (x := d + _) (by omega), w64 (x := d + _ - 1) (by omega), number_doc N hN hv, bsome, Int.toNat_natCast, if_neg h2]
/-- The difference. -/
def dfn (n g : Int) : Int := if 32768 < (n - g) % 65536 then (n - g) % 65536 - 65536 else (n - g) % 65536
theorem dfn_in (n g : Int) : -32768 < dfn n g ∧ dfn n g ≤ 32768 := by unfold dfn; split <;> omega
theorem dif_l2 (N : Nat) {d : Int} (h : -200000 ≤ d ∧ d ≤ 32768) {fuel : Nat} (hf : 5 ≤ fuel) : D_darkslideref_difference_l2 N (fun d9 => some d9) fuel d = some (dfn d 0) := by
  obtain ⟨fuel, rfl⟩ : ∃ q, fuel = q + 5 := ⟨fuel - 5, by omega⟩
  have key : ∀ (e : Int) (m : Nat), -32768 < e → e ≤ 32768 → e % 65536 = d % 65536 → D_darkslideref_difference_l2 N (fun d9 => some d9) (m + 1) e = some (dfn d 0) := by
    intro e m h1 h2 h3
    unfold D_darkslideref_difference_l2
    rw [cF (dF (by omega))]
    congr 1
    unfold dfn
    split <;> omega
  by_cases h1 : -32768 < d
  · exact key d _ h1 h.2 rfl
  unfold D_darkslideref_difference_l2
  rw [cT (dT (by omega)), w64 (x := d + 65536) (by omega), bsome]
  by_cases h2 : -32768 < d + 65536
  · exact key (d + 65536) _ h2 (by omega) (by omega)
  unfold D_darkslideref_difference_l2
  rw [cT (dT (by omega)), w64 (x := d + 65536 + 65536) (by omega), bsome]
  by_cases h3 : -32768 < d + 65536 + 65536
  · exact key (d + 65536 + 65536) _ h3 (by omega) (by omega)
  unfold D_darkslideref_difference_l2
  rw [cT (dT (by omega)), w64 (x := d + 65536 + 65536 + 65536) (by omega), bsome]
  exact key (d + 65536 + 65536 + 65536) _ (by omega) (by omega) (by omega)
theorem dfn_mod {a b : Int} (h : a % 65536 = b % 65536) : dfn a 0 = dfn b 0 := by unfold dfn; rw [Int.sub_zero, Int.sub_zero, h]
theorem difference_eq (N : Nat) (hN : 100 ≤ N) {n g : Int} (hn : 0 ≤ n ∧ n ≤ 65535) (hg : -65535 ≤ g ∧ g ≤ 131070) : D_darkslideref_difference N n g = some (dfn n g) := by
  have e0 : dfn n g = dfn (n - g) 0 := by unfold dfn; rw [Int.sub_zero]
  unfold D_darkslideref_difference
  rw [w64 (x := n - g) (by omega), bsome, e0]
  obtain ⟨M, rfl⟩ : ∃ q, N = q + 5 := ⟨N - 5, by omega⟩
  generalize hd : n - g = d
  by_cases h1 : 32768 < d
  · unfold D_darkslideref_difference_l1
    rw [cT (dT h1), w64 (x := d - 65536) (by omega), bsome]
    by_cases h2 : 32768 < d - 65536
    · unfold D_darkslideref_difference_l1
      rw [cT (dT h2), w64 (x := d - 65536 - 65536) (by omega), bsome]
      unfold D_darkslideref_difference_l1
      rw [cF (dF (by omega)), dif_l2 _ (by omega) (by omega)]
      exact congrArg some (dfn_mod (by omega))
    · unfold D_darkslideref_difference_l1
      rw [cF (dF h2), dif_l2 _ (by omega) (by omega)]
      exact congrArg some (dfn_mod (by omega))
  · unfold D_darkslideref_difference_l1
    rw [cF (dF h1), dif_l2 _ (by omega) (by omega)]
/-- All differences. -/
def ds (W : Nat) (P : List Int) (kind : Int) : List Int := (List.range P.length).map fun i => dfn (P.getD i 0) (gs W P kind i)
section
variable {W H : Nat} {P : List Int} (hP : ∀ e ∈ P, 0 ≤ e ∧ e ≤ 65535) (hW : 1 ≤ W ∧ W ≤ 64) (hH : 1 ≤ H ∧ H ≤ 64) (hl : P.length = W * H) (hl2 : W * H ≤ 4096) {kind : Int} (hk : 1 ≤ kind ∧ kind ≤ 7)
include hP hW hH hl hl2 hk
theorem difs_l2 (N : Nat) (hN : 100 ≤ N) {y : Nat} (hy : y < H) (kk) : ∀ (j x fuel : Nat), x + j = W → j < fuel →
    D_darkslideref_differences_l2 N (W : Int) (H : Int) P kind (y : Int) kk fuel ((List.range (y * W + x)).map (fun i => dfn (P.getD i 0) (gs W P kind i)), (x : Int)) = kk ((List.range ((y + 1) * W)).map (fun i => dfn (P.getD i 0) (gs W P kind i)), (W : Int)) := by
  intro j
  induction j with
  | zero =>
    intro x fuel hx hf
    obtain ⟨fuel, rfl⟩ : ∃ q, fuel = q + 1 := ⟨fuel - 1, by omega⟩
    obtain rfl : x = W := by omega
    unfold D_darkslideref_differences_l2
    rw [cF (dF (by omega)), Nat.add_mul, Nat.one_mul]
  | succ j ih =>
    intro x fuel hx hf
    obtain ⟨fuel, rfl⟩ : ∃ q, fuel = q + 1 := ⟨fuel - 1, by omega⟩
    have hpl := place_lt (W := W) (H := H) (x := x) (y := y) (by omega) hy
    have hg := gs_in hP (W := W) (kind := kind) (i := y * W + x) hW.1 (by omega)
    have hs : (List.range (y * W + x)).map (fun i => dfn (P.getD i 0) (gs W P kind i)) ++ [dfn (P.getD (y * W + x) 0) (gs W P kind (y * W + x))] = (List.range (y * W + (x + 1))).map (fun i => dfn (P.getD i 0) (gs W P kind i)) := by
      rw [show y * W + (x + 1) = y * W + x + 1 by omega, List.range_succ, List.map_append, List.map_singleton]
    unfold D_darkslideref_differences_l2
    rw [cT (dT (by omega)), at_eq hP N (W := W) (x := x) (y := y) _ (by omega) (by omega) (by omega) (by omega), bsome, guessOf_eq hP N hW hk _ (by omega) (by omega) (by omega) (by omega), bsome, difference_eq N hN (P_at hP (by omega)).2 hg, bsome, app_eq (by simp; omega), bsome, hs, w64 (x := (x : Int) + 1) (by omega), bsome]
    exact ih (x + 1) fuel (by omega) (by omega)
theorem difs_eq (N : Nat) (hN : 100 ≤ N) : D_darkslideref_differences N (W : Int) (H : Int) P kind = some (ds W P kind) := by
  have main : ∀ (j y fuel : Nat), y + j = H → j < fuel → D_darkslideref_differences_l1 N (W : Int) (H : Int) P kind (fun (l12, y5) => some l12) fuel ((List.range (y * W)).map (fun i => dfn (P.getD i 0) (gs W P kind i)), (y : Int)) = some (ds W P kind) := by
    intro j
    induction j with
    | zero =>
      intro y fuel hx hf
      obtain ⟨fuel, rfl⟩ : ∃ q, fuel = q + 1 := ⟨fuel - 1, by omega⟩
      obtain rfl : y = H := by omega
      unfold D_darkslideref_differences_l1
      rw [cF (dF (by omega))]
      unfold ds
      rw [hl, Nat.mul_comm]
    | succ j ih =>
      intro y fuel hx hf
      obtain ⟨fuel, rfl⟩ : ∃ q, fuel = q + 1 := ⟨fuel - 1, by omega⟩
      have key := difs_l2 hP hW hH hl hl2 hk N hN (y := y) (by omega) (fun (l11, x10) => Option.bind (some (IntKind.i64.wrap ((y : Int) + 1))) fun y4 => D_darkslideref_differences_l1 N (W : Int) (H : Int) P kind (fun (l12, y5) => some l12) fuel (l11, y4)) W 0 N (by omega) (by omega)
      unfold D_darkslideref_differences_l1
      rw [cT (dT (by omega))]
      refine Eq.trans key ?_
      dsimp only
      rw [w64 (x := (y : Int) + 1) (by omega), bsome]
      exact ih (y + 1) fuel (by omega) (by omega)
  have := main H 0 N (by omega) (by omega)
  rw [Nat.zero_mul] at this
  exact this
end
def dOK (W : List (List UInt8)) (d : Int) : Bool := decide (cl d < W.length) && !(W.getD (cl d) []).isEmpty
def dbits (W : List (List UInt8)) (d : Int) : List UInt8 := W.getD (cl d) [] ++ mor d
def dcat (W : List (List UInt8)) (l : List Int) : List UInt8 := l.flatMap (dbits W)
theorem dcat_cons (W : List (List UInt8)) (d : Int) (l : List Int) : dcat W (d :: l) = dbits W d ++ dcat W l := rfl
theorem mor_len {d : Int} (h : -32768 < d ∧ d ≤ 32768) : (mor d).length ≤ 16 := by
  unfold mor
  split
  · simp
  · rw [chs_len, dig_len]; exact cl_le h
theorem getD_bits {W : List (List UInt8)} (hb : bitW W) (i : Nat) : (W.getD i []).length ≤ 15 ∧ isB (W.getD i []) = true := by
  rw [List.getD_eq_getElem?_getD]
  by_cases h : i < W.length
  · rw [List.getElem?_eq_getElem h]; exact ⟨(hb _ (List.getElem_mem h)).2, (hb _ (List.getElem_mem h)).1⟩
  · rw [List.getElem?_eq_none (by omega)]; exact ⟨by simp, rfl⟩
theorem dbits_len {W : List (List UInt8)} (hb : bitW W) {d : Int} (h : -32768 < d ∧ d ≤ 32768) : (dbits W d).length ≤ 31 := by
  unfold dbits
  rw [List.length_append]
  have := mor_len h
  have := (getD_bits hb (cl d)).1
  omega
theorem dOK_at {W : List (List UInt8)} {d : Int} (h : dOK W d = true) : ∃ u, W[cl d]? = some u ∧ u ≠ [] ∧ W.getD (cl d) [] = u ∧ cl d < W.length := by
  unfold dOK at h
  rw [Bool.and_eq_true] at h
  have hq := of_decide_eq_true h.1
  refine ⟨W[cl d], List.getElem?_eq_getElem hq, ?_, ?_, hq⟩
  · have h2 := h.2
    rw [List.getD_eq_getElem?_getD, List.getElem?_eq_getElem hq] at h2
    intro e
    rw [Option.getD_some, e] at h2
    cases h2
  · rw [List.getD_eq_getElem?_getD, List.getElem?_eq_getElem hq]; rfl
theorem dOK_no {W : List (List UInt8)} {d : Int} (h : ¬ dOK W d = true) (h2 : cl d < W.length) : W[cl d]? = some [] := by
  rw [List.getElem?_eq_getElem h2]
  unfold dOK at h
  rw [dT h2, Bool.true_and, List.getD_eq_getElem?_getD, List.getElem?_eq_getElem h2, Option.getD_some] at h
  cases hc : W[cl d]
  · rfl
  · rw [hc] at h; simp at h
theorem wdoc_l1 (N : Nat) (hN : 100 ≤ N) {W : List (List UInt8)} (hb : bitW W) {l : List Int} (hd : ∀ d ∈ l, -32768 < d ∧ d ≤ 32768) (hl : l.length ≤ 4096) (kk) : ∀ (j k fuel : Nat) (acc : List UInt8), k + j = l.length → j < fuel → acc.length ≤ 31 * k →
    D_darkslideref_WriteDiff_l1 N W l kk fuel (ofB acc, (k : Int)) = if (l.drop k).all (dOK W) = true then kk (ofB (acc ++ dcat W (l.drop k)), (l.length : Int)) else some ([], 4) := by
  intro j
  induction j with
  | zero =>
    intro k fuel acc hk hf ha
    obtain ⟨fuel, rfl⟩ : ∃ q, fuel = q + 1 := ⟨fuel - 1, by omega⟩
    obtain rfl : k = l.length := by omega
    unfold D_darkslideref_WriteDiff_l1
    rw [cF (dF (by omega)), List.drop_length, if_pos (by rfl)]
    simp [dcat]
  | succ j ih =>
    intro k fuel acc hk hf ha
    obtain ⟨fuel, rfl⟩ : ∃ q, fuel = q + 1 := ⟨fuel - 1, by omega⟩
    have hlt : k < l.length := by omega
    have hnx : IntKind.i64.wrap ((k : Int) + 1) = ((k + 1 : Nat) : Int) := by rw [w64 (by omega)]; rfl
    have hdk := hd _ (List.getElem_mem hlt)
    unfold D_darkslideref_WriteDiff_l1
    rw [cT (dT (by omega)), idx_nat, List.getElem?_eq_getElem hlt, bsome, classOf_eq N hN hdk, bsome, List.drop_eq_getElem_cons hlt, List.all_cons, dcat_cons]
    generalize l[k] = d at hdk ⊢
    by_cases h1 : W.length ≤ cl d
    · rw [cT (dT (by omega)), if_neg]
      rw [show dOK W d = false by unfold dOK; rw [dF (by omega)]; rfl]; simp
    rw [cF (dF (by omega)), idx_nat]
    by_cases h2 : dOK W d = true
    · obtain ⟨u, hu, hu0, hg, _⟩ := dOK_at h2
      have h15 := (getD_bits hb (cl d)).1
      have hm := mor_len hdk
      rw [hg] at h15
      rw [hu, bsome, cF (dF hu0), bsome, app_eq (by rw [ofB_length, ofB_length]; omega), bsome, bsome, more_eq N hN hdk, bsome, ← ofB_app, app_eq (by rw [ofB_length, ofB_length, List.length_append]; omega), bsome, ← ofB_app, hnx, bsome, ih (k + 1) fuel _ (by omega) (by omega) (by rw [List.length_append, List.length_append]; omega), h2, Bool.true_and]
      unfold dbits
      rw [hg, List.append_assoc, List.append_assoc, List.append_assoc]
    · rw [dOK_no h2 (by omega), bsome, cT (dT rfl), if_neg]
      rw [(Bool.not_eq_true _).mp h2]; simp
theorem ds_in (W : Nat) (P : List Int) (kind : Int) : ∀ d ∈ ds W P kind, -32768 < d ∧ d ≤ 32768 := fun d hd => by
  obtain ⟨i, _, rfl⟩ := List.mem_map.1 hd
  exact dfn_in _ _
theorem ds_len (W : Nat) (P : List Int) (kind : Int) : (ds W P kind).length = P.length := by simp [ds]
/-- Bits as bytes. -/
def byB (b : List UInt8) : List UInt8 := (gr ((b.length + 7) / 8) (btsOf b)).map UInt8.ofNat
def writeDR (W H : Int) (P : List Int) (kind : Int) (c : List Int) : List UInt8 × Int :=
  if plF W H P = false then ([], 1) else if ¬ (1 ≤ kind ∧ kind ≤ 7) then ([], 6) else if chkErr c ≠ 0 then ([], chkErr c) else
  if (ds W.toNat P kind).all (dOK (wordsOf c)) = true then (byB (dcat (wordsOf c) (ds W.toNat P kind)), 0) else ([], 4)
theorem mor_bits (d : Int) : isB (mor d) = true := by
  unfold mor
  split
  · rfl
  · exact isB_chs (dig_lt (by decide) _ _)
theorem dcat_bits {W : List (List UInt8)} (hb : bitW W) : ∀ l : List Int, isB (dcat W l) = true
  | [] => rfl
  | d :: l => by
    rw [dcat_cons, isB_app, dcat_bits hb l, Bool.and_true]
    unfold dbits
    rw [isB_app, (getD_bits hb (cl d)).2, mor_bits]; rfl
theorem dcat_len {W : List (List UInt8)} (hb : bitW W) : ∀ {l : List Int}, (∀ d ∈ l, -32768 < d ∧ d ≤ 32768) → (dcat W l).length ≤ 31 * l.length
  | [], _ => by simp [dcat]
  | d :: l, h => by
    have h1 := dcat_len hb (l := l) fun d hd => h d (by simp [hd])
    have h2 := dbits_len hb (h d (by simp))
    rw [dcat_cons, List.length_append, List.length_cons]; omega
theorem writeDiff_doc (N : Nat) (hN : 200000 ≤ N) (W H : Int) (P : List Int) (kind : Int) (c : List Int) : D_darkslideref_WriteDiff N W H P kind c = some (writeDR W H P kind c) := by
  unfold D_darkslideref_WriteDiff writeDR
  rw [rfine_eq N (by omega), bsome]
  by_cases hp : plF W H P = true
  rotate_left
  · rw [(Bool.not_eq_true _).mp hp, Bool.not_false, cT rfl, if_pos rfl]
  rw [hp, Bool.not_true, cF rfl, if_neg (by decide), within2, bsome]
  by_cases h1 : 1 ≤ kind ∧ kind ≤ 7
  rotate_left
  · rw [dF h1, Bool.not_false, cT rfl, if_pos h1]
  rw [dT h1, Bool.not_true, cF rfl, if_neg (by omega), check_doc N (by omega), bsome]
  by_cases h2 : chkErr c = 0
  rotate_left
  · rw [cT (by rw [dF h2]; rfl), if_pos h2]
  obtain ⟨w, k, rfl, rfl, a1, a2, a3, a4, a5, a6, hP⟩ := plF_nat hp
  rw [cF (by rw [dT h2]; rfl), if_neg (by omega), wordsOf_doc N (by omega) h2, bsome, difs_eq hP ⟨a1, a2⟩ ⟨a3, a4⟩ a5 a6 h1 N (by omega), bsome, Int.toNat_natCast]
  have hdl := ds_len w P kind
  have key := wdoc_l1 N (by omega) (wordsOf_bits c) (l := ds w P kind) (ds_in w P kind) (by omega) (fun (l9, i2) => Option.bind (D_darkslideref_Bytes N (toB l9)) fun r13 => some (r13, (0 : Int))) (ds w P kind).length 0 N [] (by omega) (by omega) (by simp)
  refine Eq.trans key ?_
  rw [List.drop_zero]
  by_cases h3 : (ds w P kind).all (dOK (wordsOf c)) = true
  · rw [if_pos h3, if_pos h3]
    dsimp only
    have hcl := dcat_len (wordsOf_bits c) (ds_in w P kind)
    rw [List.nil_append, toB_ofB, bytes_doc N (dcat_bits (wordsOf_bits c) _) (by omega) ⟨by omega, by omega⟩]
    rfl
  · rw [if_neg h3, if_neg h3]
end Go.Proofs.YtpmnfhifmmfglacDoor

namespace Go.Proofs.YtpmnfhifmmfglacDoor
open Go
/-- The bits of bytes. -/
def bitS (s : List UInt8) : List UInt8 := chs (dig 2 (8 * s.length) (byt s s.length))
theorem bitS_len (s : List UInt8) : (bitS s).length = 8 * s.length := by unfold bitS; rw [chs_len, dig_len]
theorem bitS_isB (s : List UInt8) : isB (bitS s) = true := isB_chs (dig_lt (by decide) _ _)
theorem bitS_nil : bitS [] = [] := rfl
theorem byt_all (s : List UInt8) : byt s s.length = num 256 (s.map UInt8.toNat) := by unfold byt; rw [List.take_length]
theorem bitS_cons (c : UInt8) (s : List UInt8) : bitS (c :: s) = bitS [c] ++ bitS s := by
  unfold bitS
  rw [← chs_app, byt_all, byt_all [c], List.map_cons, List.map_singleton, num_cons, List.length_map, pow256, ← byt_all s, dig_next (show byt s s.length < 2 ^ (8 * s.length) from byt_lt (d := 1) (by decide) s)]
  rw [show 8 * (c :: s).length = 8 * [c].length + 8 * s.length by simp; omega, show num 256 [c.toNat] = c.toNat by simp [num]]
theorem bts_chs {l : List Nat} (h : ∀ y ∈ l, y < 2) : btsOf (chs l) = l := by
  unfold btsOf chs
  rw [List.map_map]
  conv => rhs; rw [← List.map_id l]
  refine List.map_congr_left fun y hy => ?_
  have := h y hy
  show (UInt8.ofNat (48 + y)).toNat - 48 = y
  rw [UInt8.toNat_ofNat', Nat.mod_eq_of_lt (by omega)]
  omega
theorem gr_inj {M : Nat} {l m : List Nat} (hl : l.length = 8 * M) (hm : m.length = 8 * M) (h2 : ∀ y ∈ l, y < 2) (h3 : ∀ y ∈ m, y < 2) (h : gr M l = gr M m) : l = m := by
  have e1 := dig_num (B := 2) l h2
  have e2 := dig_num (B := 2) m h3
  have n1 := num_lt (B := 2) l h2
  have n2 := num_lt (B := 2) m h3
  rw [hl] at e1 n1
  rw [hm] at e2 n2
  have h4 : gr M (dig 2 (8 * M) (num 2 l)) = gr M (dig 2 (8 * M) (num 2 m)) := by rw [e1, e2, h]
  rw [gr_dig, gr_dig] at h4
  have h5 := congrArg (num 256) h4
  rw [num_dig, num_dig, pow256, Nat.mod_eq_of_lt n1, Nat.mod_eq_of_lt n2] at h5
  rw [← e1, ← e2, h5]
theorem gr_bitS (s : List UInt8) : (gr s.length (btsOf (bitS s))).map UInt8.ofNat = s := by
  unfold bitS
  rw [bts_chs (dig_lt (by decide) _ _), gr_dig, byt_all]
  have := dig_num (B := 256) (s.map UInt8.toNat) fun y hy => by
    obtain ⟨c, _, rfl⟩ := List.mem_map.1 hy
    exact c.toNat_lt
  rw [List.length_map] at this
  rw [this, toNat_ofNat]
theorem gr_bd {M : Nat} {l : List Nat} (h : ∀ y ∈ l, y < 2) : ∀ y ∈ gr M l, y < 256 := fun y hy => by
  unfold gr at hy
  obtain ⟨g, _, rfl⟩ := List.mem_map.1 hy
  have := num_lt (B := 2) ((List.range 8).map fun t => l.getD (8 * g + t) 0) fun y hy => by
    obtain ⟨t, _, rfl⟩ := List.mem_map.1 hy
    rw [List.getD_eq_getElem?_getD]
    by_cases hq : 8 * g + t < l.length
    · rw [List.getElem?_eq_getElem hq]; exact h _ (List.getElem_mem hq)
    · rw [List.getElem?_eq_none (by omega)]; exact (by decide : (0:Nat) < 2)
  simpa using this
theorem bts_zero : ∀ {R : List UInt8}, isB R = true → btsOf R = List.replicate R.length 0 → R = List.replicate R.length 48
  | [], _, _ => rfl
  | c :: R, h, h2 => by
    have e := chs_bts h
    rw [h2] at e
    rw [← e]
    unfold chs
    rw [List.map_replicate, List.length_replicate]; rfl
theorem fin_iff {s D R : List UInt8} (h : bitS s = D ++ R) : byB D = s ↔ R.length ≤ 7 ∧ R = List.replicate R.length 48 := by
  have hB := bitS_isB s
  rw [h, isB_app, Bool.and_eq_true] at hB
  have hL := bitS_len s
  rw [h, List.length_append] at hL
  have hb : btsOf (bitS s) = btsOf D ++ btsOf R := by rw [h]; unfold btsOf; rw [List.map_append]
  have hs := gr_bitS s
  have pad : gr s.length (btsOf D ++ List.replicate R.length 0) = gr s.length (btsOf D) := gr_pad _ _ _
  constructor
  · intro e
    have hl := congrArg List.length e
    unfold byB at hl e
    rw [List.length_map] at hl
    have hgl : ∀ M l, (gr M l).length = M := fun M l => by simp [gr]
    rw [hgl] at hl
    refine ⟨by omega, ?_⟩
    rw [hl] at e
    have e2 : gr s.length (btsOf D) = gr s.length (btsOf (bitS s)) := by
      have := congrArg (List.map UInt8.toNat) (e.trans hs.symm)
      rwa [ofNat_toNat (gr_bd (btsOf_lt hB.1)), ofNat_toNat (gr_bd (btsOf_lt (bitS_isB s)))] at this
    rw [← pad, hb] at e2
    have bl : ∀ b : List UInt8, (btsOf b).length = b.length := fun b => by simp [btsOf]
    have z2 : ∀ y ∈ btsOf D ++ List.replicate R.length 0, y < 2 := fun y hy => by
      rcases List.mem_append.1 hy with q | q
      · exact btsOf_lt hB.1 y q
      · rw [(List.mem_replicate.1 q).2]; decide
    have z3 : ∀ y ∈ btsOf D ++ btsOf R, y < 2 := fun y hy => by
      rcases List.mem_append.1 hy with q | q
      · exact btsOf_lt hB.1 y q
      · exact btsOf_lt hB.2 y q
    have := gr_inj (by rw [List.length_append, bl, List.length_replicate]; omega) (by rw [List.length_append, bl, bl]; omega) z2 z3 e2
    exact bts_zero hB.2 (List.append_cancel_left this).symm
  · rintro ⟨h7, hz⟩
    have e : btsOf R = List.replicate R.length 0 := by
      conv => lhs; rw [hz]
      unfold btsOf
      rw [List.map_replicate]; rfl
    unfold byB
    rw [show (D.length + 7) / 8 = s.length by omega, ← pad, ← e, ← hb]
    exact hs
def vd (t : List UInt8) : Int := if 2 * num 2 (btsOf t) < 2 ^ t.length then (num 2 (btsOf t) : Int) - ((2 ^ t.length : Nat) : Int) + 1 else (num 2 (btsOf t) : Int)
theorem cl_of {d : Int} {c : Nat} (h : 1 ≤ c) (h2 : ((2 ^ (c - 1) : Nat) : Int) ≤ max d (-d)) (h3 : max d (-d) < ((2 ^ c : Nat) : Int)) : cl d = c := by
  have a := bl_pow c (max d (-d)).toNat
  have b := bl_pow (c - 1) (max d (-d)).toNat
  have a1 : (max d (-d)).toNat < 2 ^ c := by omega
  have b1 : ¬ (max d (-d)).toNat < 2 ^ (c - 1) := by omega
  have a2 := a.2 a1
  have b2 : ¬ bl (max d (-d)).toNat ≤ c - 1 := fun q => b1 (b.1 q)
  unfold cl
  omega
theorem vd_spec {t : List UInt8} (hb : isB t = true) (hl : t.length ≤ 15) : cl (vd t) = t.length ∧ mor (vd t) = t ∧ -32768 < vd t ∧ vd t < 32768 := by
  have hn := num_lt (B := 2) (btsOf t) (btsOf_lt hb)
  have bl : (btsOf t).length = t.length := by simp [btsOf]
  rw [bl] at hn
  by_cases h0 : t.length = 0
  · obtain rfl : t = [] := List.length_eq_zero_iff.1 h0
    exact ⟨rfl, rfl, by decide, by decide⟩
  have hp : 2 ^ t.length = 2 * 2 ^ (t.length - 1) := by rw [← Nat.pow_succ']; congr 1; omega
  have hle : 2 ^ t.length ≤ 32768 := Nat.le_trans (Nat.pow_le_pow_right (by decide) hl) (by decide)
  have hpos : 0 < 2 ^ (t.length - 1) := Nat.two_pow_pos _
  have hr : -32768 < vd t ∧ vd t < 32768 := by unfold vd; split <;> omega
  have hc : cl (vd t) = t.length := by
    refine cl_of (by omega) ?_ ?_
    · unfold vd; split <;> omega
    · unfold vd; split <;> omega
  refine ⟨hc, ?_, hr⟩
  unfold mor
  rw [if_neg (by omega), hc]
  have : (if 0 < vd t then vd t else vd t + ((2 ^ t.length : Nat) : Int) - 1).toNat = num 2 (btsOf t) := by
    by_cases hq : 2 * num 2 (btsOf t) < 2 ^ t.length
    · have e : vd t = (num 2 (btsOf t) : Int) - ((2 ^ t.length : Nat) : Int) + 1 := by unfold vd; rw [if_pos hq]
      rw [e, if_neg (by omega)]
      omega
    · have e : vd t = (num 2 (btsOf t) : Int) := by unfold vd; rw [if_neg hq]
      rw [e, if_pos (by omega)]
      omega
  rw [this, ← bl, dig_num _ (btsOf_lt hb), chs_bts hb]
theorem top_spec : cl 32768 = 16 ∧ mor 32768 = [] := ⟨by decide +kernel, by
  unfold mor
  rw [if_pos (.inr (by decide +kernel))]⟩
def rdStep (W : List (List UInt8)) (R : List UInt8) : Option (Int × List UInt8) := match frI W R with
  | none => none
  | some c => if c = 16 then some (32768, R.drop (W.getD c []).length) else if (R.drop (W.getD c []).length).length < c then none else some (vd ((R.drop (W.getD c []).length).take c), (R.drop (W.getD c []).length).drop c)
def rdD (W : List (List UInt8)) (w : Nat) (kind : Int) : Nat → List Int → List UInt8 → Option (List Int × List UInt8)
  | 0, P, R => some (P, R)
  | n + 1, P, R => match rdStep W R with
    | none => none
    | some (d, R2) => rdD W w kind n (P ++ [(gs w P kind P.length + d) % 65536]) R2
theorem gs_app {w : Nat} (hw : 1 ≤ w) (P Q : List Int) (kind : Int) {i : Nat} (h : i ≤ P.length) : gs w (P ++ Q) kind i = gs w P kind i := by
  unfold gs
  by_cases h0 : i = 0
  · rw [if_pos h0, if_pos h0]
  have e : ∀ j, j < P.length → (P ++ Q).getD j 0 = P.getD j 0 := fun j hj => by
    rw [List.getD_eq_getElem?_getD, List.getD_eq_getElem?_getD, List.getElem?_append_left hj]
  rw [if_neg h0, if_neg h0, e (i - 1) (by omega), e (i - w) (by omega), e (i - w - 1) (by omega)]
theorem ds_snoc {w : Nat} (hw : 1 ≤ w) (P : List Int) (kind x : Int) : ds w (P ++ [x]) kind = ds w P kind ++ [dfn x (gs w P kind P.length)] := by
  unfold ds
  rw [List.length_append, List.length_singleton, List.range_succ, List.map_append, List.map_singleton]
  congr 1
  · refine List.map_congr_left fun i hi => ?_
    have hi := List.mem_range.1 hi
    rw [gs_app hw _ _ _ (by omega), List.getD_eq_getElem?_getD, List.getD_eq_getElem?_getD, List.getElem?_append_left hi]
  · rw [gs_app hw _ _ _ (Nat.le_refl _), List.getD_eq_getElem?_getD, List.getElem?_append_right (Nat.le_refl _)]
    simp
theorem dfn_back {g d : Int} (h : -32768 < d ∧ d ≤ 32768) : dfn ((g + d) % 65536) g = d := by
  unfold dfn
  split <;> omega
theorem step_ok {W : List (List UInt8)} (hb : bitW W) (hW : W.length ≤ 17) {R R2 : List UInt8} {d : Int} (hR : isB R = true) (h : rdStep W R = some (d, R2)) :
    (-32768 < d ∧ d ≤ 32768) ∧ dOK W d = true ∧ R = dbits W d ++ R2 := by
  unfold rdStep at h
  rcases hf : frI W R with _ | c
  · rw [hf] at h; cases h
  rw [hf] at h
  dsimp only at h
  obtain ⟨u, hu, hu0, hub⟩ := frI_some hf
  have hc : c < W.length := by
    rcases Nat.lt_or_ge c W.length with q | q
    · exact q
    · rw [List.getElem?_eq_none q] at hu; cases hu
  have hg : W.getD c [] = u := by rw [List.getD_eq_getElem?_getD, hu]; rfl
  obtain ⟨T, rfl⟩ := hub
  rw [isB_app, Bool.and_eq_true] at hR
  rw [hg, List.drop_left] at h
  have ok : ∀ e, cl e = c → dOK W e = true := fun e he => by
    unfold dOK
    rw [he, dT hc, Bool.true_and, hg]
    cases u
    · exact absurd rfl hu0
    · rfl
  by_cases h16 : c = 16
  · rw [if_pos h16] at h
    injection h with h; injection h with h1 h2
    subst h1 h2
    refine ⟨by decide, ok _ (by rw [top_spec.1, h16]), ?_⟩
    unfold dbits
    rw [top_spec.1, top_spec.2, ← h16, hg, List.append_nil]
  · rw [if_neg h16] at h
    by_cases hl : T.length < c
    · rw [if_pos hl] at h; cases h
    rw [if_neg hl] at h
    injection h with h; injection h with h1 h2
    have ht : isB (T.take c) = true := by
      have := hR.2
      rw [← List.take_append_drop c T, isB_app, Bool.and_eq_true] at this
      exact this.1
    have hlen : (T.take c).length = c := by rw [List.length_take]; omega
    obtain ⟨a1, a2, a3⟩ := vd_spec ht (by omega)
    rw [hlen] at a1
    subst h1 h2
    refine ⟨by omega, ok _ a1, ?_⟩
    unfold dbits
    rw [a1, a2, hg, List.append_assoc, List.take_append_drop]
theorem dcat_snoc (W : List (List UInt8)) (l : List Int) (d : Int) : dcat W (l ++ [d]) = dcat W l ++ dbits W d := by
  unfold dcat
  rw [List.flatMap_append]
  simp
theorem rdD_ok {W : List (List UInt8)} (hb : bitW W) (hW : W.length ≤ 17) {w : Nat} (hw : 1 ≤ w) {kind : Int} : ∀ (n : Nat) (P : List Int) (R D : List UInt8) (P2 : List Int) (R2 : List UInt8), isB R = true → (∀ e ∈ P, 0 ≤ e ∧ e ≤ 65535) → (ds w P kind).all (dOK W) = true →
    rdD W w kind n P R = some (P2, R2) → P2.length = P.length + n ∧ (∀ e ∈ P2, 0 ≤ e ∧ e ≤ 65535) ∧ (ds w P2 kind).all (dOK W) = true ∧ dcat W (ds w P kind) ++ R = dcat W (ds w P2 kind) ++ R2 ∧ isB R2 = true := by
  intro n
  induction n with
  | zero =>
    intro P R D P2 R2 hR hP ha h
    unfold rdD at h
    injection h with h; injection h with h1 h2
    subst h1 h2
    exact ⟨rfl, hP, ha, rfl, hR⟩
  | succ n ih =>
    intro P R D P2 R2 hR hP ha h
    unfold rdD at h
    rcases hs : rdStep W R with _ | ⟨d, R1⟩
    · rw [hs] at h; cases h
    rw [hs] at h
    dsimp only at h
    obtain ⟨hd, hok, hRR⟩ := step_ok hb hW hR hs
    have hR1 : isB R1 = true := by
      rw [hRR, isB_app, Bool.and_eq_true] at hR
      exact hR.2
    have e := dfn_back (g := gs w P kind P.length) hd
    obtain ⟨b1, b2, b3, b4, b5⟩ := ih (P ++ [(gs w P kind P.length + d) % 65536]) R1 D P2 R2 hR1 (fun x hx => by
      rcases List.mem_append.1 hx with q | q
      · exact hP x q
      · rw [List.mem_singleton.1 q]; omega) (by
      rw [ds_snoc hw, e, List.all_append, ha, Bool.true_and, List.all_cons, hok]; rfl) h
    refine ⟨by rw [b1, List.length_append, List.length_singleton]; omega, b2, b3, ?_, b5⟩
    rw [← b4, ds_snoc hw, e, dcat_snoc, List.append_assoc, ← hRR]
end Go.Proofs.YtpmnfhifmmfglacDoor

namespace Go.Proofs.YtpmnfhifmmfglacDoor
open Go
theorem diffBegun_200 : D_darkslidelaw_diffBegun 200000 = some true := by kernel_rfl
end Go.Proofs.YtpmnfhifmmfglacDoor

namespace Go.Proofs.YtpmnfhifmmfglacDoor
open Go
theorem sli_t1 {α : Type} {xs : List α} (h : 1 ≤ xs.length) : sli xs 0 1 = some (xs.take 1) := sli_take (k := 1) h
theorem sli_d1 {α : Type} {xs : List α} (h : 1 ≤ xs.length) : sli xs 1 (xs.length : Int) = some (xs.drop 1) := sli_drop (k := 1) h
theorem addS_eq {a b : List UInt8} (h : a.length + b.length ≤ 9223372036854775807) : addS a b = some (a ++ b) := by unfold addS; rw [if_pos h]
theorem bits1 (N : Nat) (hN : 100 ≤ N) (c : UInt8) : D_bits_Bits N [c] = some (bitS [c]) := bits_eq N (s := [c]) (by simp) (by simp; omega)
theorem l3_l4 (N : Nat) (kk) : ∀ (fuel : Nat) (x : List UInt8 × List UInt8), D_diff_Read_l3 N kk fuel x = D_diff_Read_l4 N 1 kk fuel x
  | 0, _ => rfl
  | fuel + 1, (a, b) => by
    unfold D_diff_Read_l3 D_diff_Read_l4
    simp only [l3_l4 N kk fuel]
/-- What a taking fills up. -/
theorem fill_l4 (N : Nat) (hN : 100 ≤ N) {n : Nat} (hn : n ≤ 15) : ∀ (j fuel : Nat) (b s : List UInt8), n ≤ b.length + 8 * j → j < fuel → b.length ≤ n + 7 →
    ∃ b2 s2, (∀ kk, D_diff_Read_l4 N (n : Int) kk fuel (b, s) = kk (b2, s2)) ∧ b ++ bitS s = b2 ++ bitS s2 ∧ b2.length ≤ n + 7 ∧ (b2.length < n → s2 = []) := by
  intro j
  induction j with
  | zero =>
    intro fuel b s hj hf hb
    obtain ⟨fuel, rfl⟩ : ∃ q, fuel = q + 1 := ⟨fuel - 1, by omega⟩
    refine ⟨b, s, fun kk => ?_, rfl, hb, fun h => by omega⟩
    unfold D_diff_Read_l4
    rw [cF (dF (by omega))]
  | succ j ih =>
    intro fuel b s hj hf hb
    obtain ⟨fuel, rfl⟩ : ∃ q, fuel = q + 1 := ⟨fuel - 1, by omega⟩
    by_cases h : b.length < n
    rotate_left
    · refine ⟨b, s, fun kk => ?_, rfl, hb, fun h2 => absurd h2 h⟩
      unfold D_diff_Read_l4
      rw [cF (dF (by omega))]
    cases s with
    | nil =>
      refine ⟨b, [], fun kk => ?_, rfl, hb, fun _ => rfl⟩
      unfold D_diff_Read_l4
      rw [cT (dT (by omega)), cF (by rw [dT rfl]; rfl)]
    | cons c s =>
      have h8 : (bitS [c]).length = 8 := bitS_len [c]
      obtain ⟨b2, s2, h1, h2, h3, h4⟩ := ih fuel (b ++ bitS [c]) s (by rw [List.length_append]; omega) (by omega) (by rw [List.length_append]; omega)
      refine ⟨b2, s2, fun kk => ?_, ?_, h3, h4⟩
      · rw [← h1 kk]
        conv => lhs; unfold D_diff_Read_l4
        rw [cT (dT (by omega)), cT (by rw [dF (by simp)]; rfl), sli_t1 (by simp), bsome, show (c :: s).take 1 = [c] from rfl, bits1 N hN, bsome, addS_eq (by omega), bsome, sli_d1 (by simp), bsome]
        rfl
      · rw [bitS_cons, ← List.append_assoc, h2]
theorem take_l {b T : List UInt8} {n : Nat} (h : n ≤ b.length) : (b ++ T).take n = b.take n ∧ (b ++ T).drop n = b.drop n ++ T := ⟨List.take_append_of_le_length h, List.drop_append_of_le_length h⟩
theorem frE5 {W : List (List UInt8)} {b : List UInt8} (h : frE W b = 5) : ∃ w ∈ W, w ≠ [] ∧ b <+: w := by
  unfold frE at h
  split at h
  · rename_i q
    rw [List.any_eq_true] at q
    obtain ⟨w, hw, h2⟩ := q
    rw [Bool.and_eq_true, List.isPrefixOf_iff_prefix] at h2
    exact ⟨w, hw, by intro e; rw [e] at h2; simp at h2, h2.2⟩
  · cases h
theorem frE_not {W : List (List UInt8)} {b : List UInt8} (h : frE W b ≠ 5) : ∀ w ∈ W, w ≠ [] → ¬ b <+: w := fun w hw h0 hp => by
  refine h ?_
  unfold frE
  rw [if_pos]
  rw [List.any_eq_true]
  exact ⟨w, hw, by rw [Bool.and_eq_true, List.isPrefixOf_iff_prefix]; exact ⟨by cases w; exact absurd rfl h0; rfl, hp⟩⟩
theorem frI_no {W : List (List UInt8)} {b : List UInt8} (h : ∀ w ∈ W, w ≠ [] → ¬ w <+: b) : frI W b = none := by
  unfold frI
  rw [List.findIdx?_eq_none_iff]
  intro w hw
  rw [Bool.eq_false_iff]
  intro q
  obtain ⟨h0, h1⟩ := isW_iff.1 q
  exact h w hw h0 h1
theorem next_l2 (N : Nat) (hN : 5000 ≤ N) {c : List Int} (hc : chkErr c = 0) {R : List UInt8} (hR : isB R = true) : ∀ (j k fuel : Nat) (b s : List UInt8), k + j = 16 → k ≤ R.length → j < fuel → b.length ≤ 7 → R.drop k = b ++ bitS s → (∀ w ∈ wordsOf c, w ≠ [] → w.length ≤ k → ¬ (k ≠ w.length ∧ w <+: R)) →
    ∃ b2 s2 w2, b2.length ≤ 7 ∧ ((∃ i u, frI (wordsOf c) R = some i ∧ (wordsOf c)[i]? = some u ∧ (∀ i4 i5 kk, D_diff_Read_l2 N c kk fuel (b, s, i4, i5, R.take k) = kk (b2, s2, (i : Int), 0, w2)) ∧ R.drop u.length = b2 ++ bitS s2) ∨
      (frI (wordsOf c) R = none ∧ ∀ i4 i5 kk, D_diff_Read_l2 N c kk fuel (b, s, i4, i5, R.take k) = kk (b2, s2, 0, 1, w2))) := by
  intro j
  have hbW := wordsOf_bits c
  have hpf := wordsOf_pf c
  generalize hWW : wordsOf c = W at *
  induction j with
  | zero =>
    intro k fuel b s hkj hkR hf hb hd hno
    obtain ⟨fuel, rfl⟩ : ∃ q, fuel = q + 1 := ⟨fuel - 1, by omega⟩
    have hlk : (R.take k).length = k := by rw [List.length_take]; omega
    have hBt : isB (R.take k) = true := by rw [← List.take_append_drop k R, isB_app, Bool.and_eq_true] at hR; exact hR.1
    have hrd : D_code_Read N c (R.take k) 1 = some (rdL W 1 [] (R.take k)) := by
      rw [read_code N c _ 1 (by omega) ⟨hN, by omega⟩]
      unfold readR
      rw [if_neg (by omega), if_neg (by omega), if_pos hBt, hWW]; rfl
    have hnone : ∀ w ∈ W, w ≠ [] → ¬ w <+: R := fun w hw h0 hp => hno w hw h0 (by have := (hbW w hw).2; omega) ⟨by have := (hbW w hw).2; omega, hp⟩
    have h1 : frI W (R.take k) = none := frI_no fun w hw h0 hp => hnone w hw h0 (hp.trans (List.take_prefix _ _))
    have h2 : frE W (R.take k) ≠ 5 := fun h => by
      obtain ⟨w, hw, _, hp⟩ := frE5 h
      have := hp.length_le
      have := (hbW w hw).2
      omega
    have hrd2 : rdL W 1 [] (R.take k) = ([], [], frE W (R.take k)) := by unfold rdL; rw [h1]
    obtain ⟨b2, s2, f1, f2, f3, f4⟩ := fill_l4 N (by omega) (n := 1) (by omega) 1 N b s (by omega) (by omega) (by omega)
    have f1' : ∀ kk, D_diff_Read_l4 N 1 kk N (b, s) = kk (b2, s2) := f1
    by_cases h3 : b2.length < 1
    · refine ⟨b2, s2, R.take k, by omega, .inr ⟨frI_no hnone, fun i4 i5 kk => ?_⟩⟩
      unfold D_diff_Read_l2
      rw [hrd, bsome, hrd2]
      dsimp only
      rw [cF (dF (frE_ne W _)), l3_l4, f1']
      dsimp only
      rw [cT (dT (by omega)), dF h2]; rfl
    · refine ⟨b2.drop 1, s2, R.take k, by rw [List.length_drop]; omega, .inr ⟨frI_no hnone, fun i4 i5 kk => ?_⟩⟩
      unfold D_diff_Read_l2
      rw [hrd, bsome, hrd2]
      dsimp only
      rw [cF (dF (frE_ne W _)), l3_l4, f1']
      dsimp only
      rw [cF (dF (by omega)), sli_t1 (by omega), bsome, sli_d1 (by omega), bsome, cT (by rw [dF h2]; rfl)]
  | succ j ih =>
    intro k fuel b s hkj hkR hf hb hd hno
    obtain ⟨fuel, rfl⟩ : ∃ q, fuel = q + 1 := ⟨fuel - 1, by omega⟩
    have hlk : (R.take k).length = k := by rw [List.length_take]; omega
    have hBt : isB (R.take k) = true := by
      have := hR
      rw [← List.take_append_drop k R, isB_app, Bool.and_eq_true] at this; exact this.1
    have hrd : D_code_Read N c (R.take k) 1 = some (rdL W 1 [] (R.take k)) := by
      rw [read_code N c _ 1 (by omega) ⟨hN, by omega⟩]
      unfold readR
      rw [if_neg (by omega), if_neg (by omega), if_pos hBt, hWW]; rfl
    rcases h1 : frI W (R.take k) with _ | i
    rotate_left
    · obtain ⟨u, hu, hu0, hub⟩ := frI_some h1
      have huR := hub.trans (List.take_prefix k R)
      have hul : u.length = k := by
        have hle := hub.length_le
        have := hno u (List.mem_of_getElem? hu) hu0 (by omega)
        by_cases e : k = u.length
        · exact e.symm
        · exact absurd ⟨e, huR⟩ this
      refine ⟨b, s, R.take k, hb, .inl ⟨i, u, frI_of hpf hu hu0 huR, hu, fun i4 i5 kk => ?_, by rw [hul, hd]⟩⟩
      unfold D_diff_Read_l2
      rw [hrd, bsome]
      have hrd2 : rdL W 1 [] (R.take k) = ([(i : Int)], (R.take k).drop (W.getD i []).length, 0) := by unfold rdL; rw [h1]; rfl
      rw [hrd2]
      rfl
    have hnone : ∀ w ∈ W, w ≠ [] → w.length ≤ k → ¬ w <+: R := fun w hw h0 hl hp => frI_none h1 w hw h0 (by
      rw [List.prefix_iff_eq_take.1 hp]
      have : R.take w.length = (R.take k).take w.length := by rw [List.take_take, Nat.min_eq_left hl]
      rw [this]
      exact List.take_prefix _ _)
    have hrd2 : rdL W 1 [] (R.take k) = ([], [], frE W (R.take k)) := by unfold rdL; rw [h1]
    obtain ⟨b2, s2, f1, f2, f3, f4⟩ := fill_l4 N (by omega) (n := 1) (by omega) 1 N b s (by omega) (by omega) (by omega)
    have f1' : ∀ kk, D_diff_Read_l4 N 1 kk N (b, s) = kk (b2, s2) := f1
    by_cases h3 : b2.length < 1
    · have hs2 := f4 h3
      have hb2 : b2 = [] := List.length_eq_zero_iff.1 (by omega)
      have hfull : R.length ≤ k := by
        rw [f2, hb2, hs2] at hd
        have := congrArg List.length hd
        rw [List.length_drop] at this
        simp [bitS_nil] at this
        omega
      have hno2 : frI W R = none := by rw [List.take_of_length_le hfull] at h1; exact h1
      refine ⟨b2, s2, R.take k, by omega, .inr ⟨hno2, fun i4 i5 kk => ?_⟩⟩
      unfold D_diff_Read_l2
      rw [hrd, bsome, hrd2]
      dsimp only
      rw [cF (dF (frE_ne W _)), l3_l4, f1']
      dsimp only
      rw [cT (dT (by omega))]
      cases (!decide (frE W (R.take k) = 5)) <;> rfl
    by_cases h2 : frE W (R.take k) = 5
    rotate_left
    · have hno2 : frI W R = none := frI_no fun w hw h0 hp => by
        rcases Nat.lt_or_ge k w.length with hl | hl
        · refine frE_not h2 w hw h0 ?_
          exact List.prefix_of_prefix_length_le (List.take_prefix k R) hp (by omega)
        · exact hnone w hw h0 hl hp
      refine ⟨b2.drop 1, s2, R.take k, by rw [List.length_drop]; omega, .inr ⟨hno2, fun i4 i5 kk => ?_⟩⟩
      unfold D_diff_Read_l2
      rw [hrd, bsome, hrd2]
      dsimp only
      rw [cF (dF (frE_ne W _)), l3_l4, f1']
      dsimp only
      rw [cF (dF (by omega)), sli_t1 (by omega), bsome, sli_d1 (by omega), bsome, cT (by rw [dF h2]; rfl)]
    obtain ⟨t1, t2⟩ := take_l (b := b2) (T := bitS s2) (n := 1) (by omega)
    rw [f2] at hd
    have hlt : k < R.length := by
      have := congrArg List.length hd
      rw [List.length_drop, List.length_append] at this
      omega
    have htk : R.take k ++ b2.take 1 = R.take (k + 1) := by
      rw [← t1, ← hd, List.take_add]
    have hdk : R.drop (k + 1) = b2.drop 1 ++ bitS s2 := by rw [← t2, ← hd, List.drop_drop]
    obtain ⟨b3, s3, w3, g1, g2⟩ := ih (k + 1) fuel (b2.drop 1) s2 (by omega) (by omega) (by omega) (by rw [List.length_drop]; omega) hdk (fun w hw h0 hl hx => by
      rcases Nat.lt_or_ge k w.length with q | q
      · exact hx.1 (by omega)
      · exact hnone w hw h0 q hx.2)
    have step : ∀ i4 i5 kk, D_diff_Read_l2 N c kk (fuel + 1) (b, s, i4, i5, R.take k) = D_diff_Read_l2 N c kk fuel (b2.drop 1, s2, i4, i5, R.take (k + 1)) := fun i4 i5 kk => by
      conv => lhs; unfold D_diff_Read_l2
      rw [hrd, bsome, hrd2]
      dsimp only
      rw [cF (dF (frE_ne W _)), l3_l4, f1']
      dsimp only
      rw [cF (dF (by omega)), sli_t1 (by omega), bsome, sli_d1 (by omega), bsome, cF (by rw [dT h2]; rfl), addS_eq (by rw [hlk, List.length_take]; omega), bsome, htk]
    refine ⟨b3, s3, w3, g1, ?_⟩
    rcases g2 with ⟨i, u, a1, a2, a3, a4⟩ | ⟨a1, a2⟩
    · exact .inl ⟨i, u, a1, a2, fun i4 i5 kk => by rw [step, a3], a4⟩
    · exact .inr ⟨a1, fun i4 i5 kk => by rw [step, a2]⟩
theorem lead_bit {t : List UInt8} (hb : isB t = true) (h : 1 ≤ t.length) : ∃ x, t[0]? = some x ∧ (((x.toNat : Int) = 48) ↔ 2 * num 2 (btsOf t) < 2 ^ t.length) := by
  cases t with
  | nil => simp at h
  | cons x t =>
    refine ⟨x, rfl, ?_⟩
    have hl := num_lt (B := 2) (btsOf t) (btsOf_lt (by unfold isB at hb ⊢; rw [List.all_cons, Bool.and_eq_true] at hb; exact hb.2))
    have bl : (btsOf t).length = t.length := by simp [btsOf]
    have hx : x = 48 ∨ x = 49 := by unfold isB at hb; rw [List.all_cons, Bool.and_eq_true] at hb; exact of_decide_eq_true hb.1
    rw [show btsOf (x :: t) = (x.toNat - 48) :: btsOf t from rfl, num_cons, List.length_cons, Nat.pow_succ, bl]
    rw [bl] at hl
    rcases hx with rfl | rfl
    · rw [show (48 : UInt8).toNat = 48 from rfl]
      constructor
      · intro _; omega
      · intro _; rfl
    · rw [show (49 : UInt8).toNat = 49 from rfl]
      constructor
      · intro h; omega
      · intro h; omega
theorem vd_lead {t : List UInt8} (h : 2 * num 2 (btsOf t) < 2 ^ t.length) : vd t = (num 2 (btsOf t) : Int) - (((2 ^ t.length : Nat) : Int) - 1) := by unfold vd; rw [if_pos h]; omega
theorem vd_high {t : List UInt8} (h : ¬ 2 * num 2 (btsOf t) < 2 ^ t.length) : vd t = (num 2 (btsOf t) : Int) := by unfold vd; rw [if_neg h]
theorem set_snoc {P : List Int} {x y : Int} : (P ++ [x]).set P.length y = P ++ [y] := by
  rw [List.set_append_right _ _ (Nat.le_refl _), Nat.sub_self]; rfl
theorem codeR_l1 (N : Nat) (hN : 5000 ≤ N) {c : List Int} (hc : chkErr c = 0) {w h : Nat} (hw : 1 ≤ w ∧ w ≤ 64) (hh : 1 ≤ h ∧ h ≤ 64) {kind : Int} (hk : 1 ≤ kind ∧ kind ≤ 7) (kk) : ∀ (j fuel : Nat) (P : List Int) (b s : List UInt8), P.length + j = w * h → j < fuel → (∀ e ∈ P, 0 ≤ e ∧ e ≤ 65535) → b.length ≤ 7 → isB (b ++ bitS s) = true →
    (rdD (wordsOf c) w kind j P (b ++ bitS s) = none ∧ D_diff_Read_l1 N (w : Int) (h : Int) kind c kk fuel (P, b, s, (P.length : Int)) = some (0, 0, [], 1)) ∨
    (∃ P2 b2 s2, rdD (wordsOf c) w kind j P (b ++ bitS s) = some (P2, b2 ++ bitS s2) ∧ b2.length ≤ 7 ∧ D_diff_Read_l1 N (w : Int) (h : Int) kind c kk fuel (P, b, s, (P.length : Int)) = kk (P2, b2, s2, ((w * h : Nat) : Int))) := by
  have hm := Nat.mul_le_mul hw.2 hh.2
  have hwh : IntKind.i64.wrap ((w : Int) * (h : Int)) = ((w * h : Nat) : Int) := by rw [show (w : Int) * (h : Int) = ((w * h : Nat) : Int) by simp, w64 (by omega)]
  have hbW := wordsOf_bits c
  have hWl : (wordsOf c).length ≤ 17 := by
    rw [wordsOf_len hc]
    obtain ⟨ns, rfl, _, _, h17, _⟩ := chk_ok hc
    rw [toI_len]; exact h17
  intro j
  induction j with
  | zero =>
    intro fuel P b s hj hf hP hb hB
    obtain ⟨fuel, rfl⟩ : ∃ q, fuel = q + 1 := ⟨fuel - 1, by omega⟩
    refine .inr ⟨P, b, s, rfl, hb, ?_⟩
    unfold D_diff_Read_l1
    rw [hwh, cF (dF (by omega)), show P.length = w * h by omega]
  | succ j ih =>
    intro fuel P b s hj hf hP hb hB
    obtain ⟨fuel, rfl⟩ : ∃ q, fuel = q + 1 := ⟨fuel - 1, by omega⟩
    have hlt : P.length < w * h := by omega
    have hnx : IntKind.i64.wrap ((P.length : Int) + 1) = ((P.length + 1 : Nat) : Int) := by rw [w64 (by omega)]; rfl
    have hP0 : ∀ e ∈ P ++ [0], 0 ≤ e ∧ e ≤ 65535 := fun e he => by
      rcases List.mem_append.1 he with q | q
      · exact hP e q
      · rw [List.mem_singleton.1 q]; decide
    have hP1 : (P ++ [(0 : Int)]).length = P.length + 1 := by simp
    have hg : D_diff_guess N (w : Int) (h : Int) (P ++ [0]) kind (P.length : Int) = some (gs w P kind P.length) := by
      rw [guess_code hP0 N hw hk _ (by omega) (by omega), gs_app hw.1 _ _ _ (Nat.le_refl _)]
    have hgi : -65535 ≤ gs w P kind P.length ∧ gs w P kind P.length ≤ 131070 := by
      rw [← gs_app hw.1 P [0] kind (Nat.le_refl _)]
      exact gs_in hP0 hw.1 (by omega)
    have hset : ∀ y : Int, setL (P ++ [0]) (P.length : Int) y = some (P ++ [y]) := fun y => by
      rw [setL_eq (by omega), Int.toNat_natCast, set_snoc]
    have hix : idx (P ++ [(0 : Int)]) (P.length : Int) = some 0 := by rw [idx_nat]; simp
    have hval : ∀ d : Int, -32768 < d ∧ d ≤ 32768 → IntKind.i64.wrap (IntKind.u16.wrap (IntKind.i64.wrap (gs w P kind P.length + d))) = (gs w P kind P.length + d) % 65536 := fun d hd => by
      rw [w64 (x := gs w P kind P.length + d) (by omega), show IntKind.u16.wrap (gs w P kind P.length + d) = (gs w P kind P.length + d) % 65536 by simp [IntKind.wrap, IntKind.bits, IntKind.signed], w64 (by omega)]
    have go : ∀ (d : Int) (b2 s2 : List UInt8), b2.length ≤ 7 → rdStep (wordsOf c) (b ++ bitS s) = some (d, b2 ++ bitS s2) → 
        D_diff_Read_l1 N (w : Int) (h : Int) kind c kk (fuel + 1) (P, b, s, (P.length : Int)) = D_diff_Read_l1 N (w : Int) (h : Int) kind c kk fuel (P ++ [(gs w P kind P.length + d) % 65536], b2, s2, ((P.length + 1 : Nat) : Int)) →
        (rdD (wordsOf c) w kind (j + 1) P (b ++ bitS s) = none ∧ D_diff_Read_l1 N (w : Int) (h : Int) kind c kk (fuel + 1) (P, b, s, (P.length : Int)) = some (0, 0, [], 1)) ∨
        (∃ P2 b2 s2, rdD (wordsOf c) w kind (j + 1) P (b ++ bitS s) = some (P2, b2 ++ bitS s2) ∧ b2.length ≤ 7 ∧ D_diff_Read_l1 N (w : Int) (h : Int) kind c kk (fuel + 1) (P, b, s, (P.length : Int)) = kk (P2, b2, s2, ((w * h : Nat) : Int))) := by
      intro d b2 s2 h1 h2 h3
      obtain ⟨hd, _, hRR⟩ := step_ok hbW hWl hB h2
      have hB2 : isB (b2 ++ bitS s2) = true := by
        rw [hRR, isB_app, Bool.and_eq_true] at hB
        exact hB.2
      have hl : (P ++ [(gs w P kind P.length + d) % 65536]).length = P.length + 1 := by simp
      have := ih fuel (P ++ [(gs w P kind P.length + d) % 65536]) b2 s2 (by omega) (by omega) (fun e he => by
        rcases List.mem_append.1 he with q | q
        · exact hP e q
        · rw [List.mem_singleton.1 q]; omega) h1 hB2
      have e : rdD (wordsOf c) w kind (j + 1) P (b ++ bitS s) = rdD (wordsOf c) w kind j (P ++ [(gs w P kind P.length + d) % 65536]) (b2 ++ bitS s2) := by
        conv => lhs; unfold rdD
        rw [h2]
      rw [hl] at this
      rw [e, h3]
      exact this
    have bad : rdStep (wordsOf c) (b ++ bitS s) = none → rdD (wordsOf c) w kind (j + 1) P (b ++ bitS s) = none := fun q => by unfold rdD; rw [q]
    obtain ⟨b2, s2, w2, n1, n2⟩ := next_l2 N hN hc hB 16 0 N b s rfl (by omega) (by omega) hb rfl (fun u hu h0 hl hx => hx.1 (by omega))
    have start : D_diff_Read_l1 N (w : Int) (h : Int) kind c kk (fuel + 1) (P, b, s, (P.length : Int)) = D_diff_Read_l1 N (w : Int) (h : Int) kind c kk (fuel + 1) (P, b, s, (P.length : Int)) := rfl
    rcases n2 with ⟨i, u, a1, a2, a3, a4⟩ | ⟨a1, a2⟩
    rotate_left
    · refine .inl ⟨bad (by unfold rdStep; rw [a1]), ?_⟩
      unfold D_diff_Read_l1
      rw [hwh, cT (dT (by omega)), app_eq (by simp; omega), bsome]
      refine (a2 0 0 _).trans ?_
      rfl
    have hgd : (wordsOf c).getD i [] = u := by rw [List.getD_eq_getElem?_getD, a2]; rfl
    have hil : i < (wordsOf c).length := (List.getElem?_eq_some_iff.1 a2).1
    have hst : rdStep (wordsOf c) (b ++ bitS s) = if i = 16 then some (32768, b2 ++ bitS s2) else if (b2 ++ bitS s2).length < i then none else some (vd ((b2 ++ bitS s2).take i), (b2 ++ bitS s2).drop i) := by
      unfold rdStep
      rw [a1]
      dsimp only
      rw [hgd, a4]
    by_cases h16 : i = 16
    · refine go 32768 b2 s2 n1 (by rw [hst, if_pos h16]) ?_
      conv => lhs; unfold D_diff_Read_l1
      rw [hwh, cT (dT (by omega)), app_eq (by simp; omega), bsome]
      refine (a3 0 0 _).trans ?_
      dsimp only
      rw [cF (by rfl), cT (dT (by omega)), hg, bsome, hix, bsome, hval _ (by decide), hset, bsome, hnx]
    rw [if_neg h16] at hst
    by_cases h0 : i = 0
    · subst h0
      refine go 0 b2 s2 n1 (by rw [hst, if_neg (by omega), List.take_zero, List.drop_zero]; rfl) ?_
      conv => lhs; unfold D_diff_Read_l1
      rw [hwh, cT (dT (by omega)), app_eq (by simp; omega), bsome]
      refine (a3 0 0 _).trans ?_
      dsimp only
      rw [cF (by rfl), cF (dF (by omega)), cF (dF (by omega)), hg, bsome, hix, bsome, hval _ (by decide), hset, bsome, hnx]
    obtain ⟨b3, s3, f1, f2, f3, f4⟩ := fill_l4 N (by omega) (n := i) (by omega) 2 N b2 s2 (by omega) (by omega) (by omega)
    rw [f2] at hst
    by_cases hs : b3.length < i
    · have hs3 := f4 hs
      refine .inl ⟨bad (by rw [hst, hs3, bitS_nil, List.append_nil, if_pos hs]), ?_⟩
      unfold D_diff_Read_l1
      rw [hwh, cT (dT (by omega)), app_eq (by simp; omega), bsome]
      refine (a3 0 0 _).trans ?_
      dsimp only
      rw [cF (by rfl), cF (dF (by omega)), cT (dT (by omega)), f1]
      dsimp only
      rw [cT (dT (by omega))]
    obtain ⟨t1, t2⟩ := take_l (b := b3) (T := bitS s3) (n := i) (by omega)
    have hB3 : isB (b3.take i) = true := by
      have e : b ++ bitS s = u ++ (b3.take i ++ (b3.drop i ++ bitS s3)) := by
        obtain ⟨u2, hu2, _, hub⟩ := frI_some a1
        rw [a2] at hu2
        cases hu2
        obtain ⟨T, hT⟩ := hub
        rw [← hT, List.drop_left] at a4
        rw [← hT, a4, f2, ← List.append_assoc (b3.take i), List.take_append_drop]
      rw [e, isB_app, isB_app, Bool.and_eq_true, Bool.and_eq_true] at hB
      exact hB.2.1
    have hlen : (b3.take i).length = i := by rw [List.length_take]; omega
    rw [if_neg (by rw [List.length_append]; omega), t1, t2] at hst
    obtain ⟨_, _, v1, v2⟩ := vd_spec hB3 (by omega)
    have hvl := num_lt (B := 2) (btsOf (b3.take i)) (btsOf_lt hB3)
    have bl : (btsOf (b3.take i)).length = i := by simp only [btsOf, List.length_map]; exact hlen
    rw [bl] at hvl
    have hp16 := pow_le16 (d := i) (by omega)
    obtain ⟨x, x1, x2⟩ := lead_bit hB3 (by omega)
    rw [hlen] at x2
    refine go (vd (b3.take i)) (b3.drop i) s3 (by rw [List.length_drop]; omega) hst ?_
    conv => lhs; unfold D_diff_Read_l1
    rw [hwh, cT (dT (by omega)), app_eq (by simp; omega), bsome]
    refine (a3 0 0 _).trans ?_
    dsimp only
    rw [cF (by rfl), cF (dF (by omega)), cT (dT (by omega)), f1]
    dsimp only
    rw [cF (dF (by omega)), sli_take (by omega), bsome, sli_drop (by omega), bsome, value_code N (by omega) (by omega), bsome, if_pos hB3, if_pos (by omega), show idx (b3.take i) 0 = (b3.take i)[0]? from idx_nat _ 0, x1, bsome]
    dsimp only
    by_cases hx : 2 * num 2 (btsOf (b3.take i)) < 2 ^ i
    · have hv := vd_lead (t := b3.take i) (by rw [hlen]; exact hx)
      rw [hlen] at hv
      rw [cT (dT (x2.2 hx)), nn_nat, bsome, one_shl (by omega), w64 (x := _ - 1) (by omega), w64 (x := _ - _) (by omega), bsome, hg, bsome, hix, bsome, ← hv, hval _ (by omega), hset, bsome, hnx]
    · have hv := vd_high (t := b3.take i) (by rw [hlen]; exact hx)
      rw [cF (dF (fun q => hx (x2.1 q))), hg, bsome, hix, bsome, ← hv, hval _ (by omega), hset, bsome, hnx]
end Go.Proofs.YtpmnfhifmmfglacDoor

namespace Go.Proofs.YtpmnfhifmmfglacDoor
open Go
/-- What Read answers. -/
def readDR (s : List UInt8) (W H kind : Int) (c : List Int) : Int × Int × List Int × Int :=
  if ¬ (1 ≤ W ∧ W ≤ 64) then (0, 0, [], 3) else if ¬ (1 ≤ H ∧ H ≤ 64) then (0, 0, [], 3) else if ¬ (1 ≤ kind ∧ kind ≤ 7) then (0, 0, [], 6) else if chkErr c ≠ 0 then (0, 0, [], chkErr c) else
  match rdD (wordsOf c) W.toNat kind (W.toNat * H.toNat) [] (bitS s) with
  | none => (0, 0, [], 1)
  | some (P, R) => if R.length ≤ 7 ∧ R = List.replicate R.length 48 then (W, H, P, 0) else (0, 0, [], 1)
theorem ib49 : ∀ {b : List UInt8}, isB b = true → (decide (0 ≤ Go.Lib.indexByte b 49)) = !decide (b = List.replicate b.length 48)
  | [], _ => rfl
  | x :: b, h => by
    have hx : x = 48 ∨ x = 49 := by unfold isB at h; rw [List.all_cons, Bool.and_eq_true] at h; exact of_decide_eq_true h.1
    have hb : isB b = true := by unfold isB at h ⊢; rw [List.all_cons, Bool.and_eq_true] at h; exact h.2
    have ih := ib49 hb
    have ge := Go.Lib.indexByte_ge b 49
    rcases hx with rfl | rfl
    · have e : decide (0 ≤ Go.Lib.indexByte (48 :: b) 49) = decide (0 ≤ Go.Lib.indexByte b 49) := by
        rw [decide_eq_decide]
        show 0 ≤ (if ((48 : UInt8) == 49) = true then (0 : Int) else if (Go.Lib.indexByte b 49 == -1) = true then -1 else Go.Lib.indexByte b 49 + 1) ↔ _
        rw [if_neg (by decide)]
        by_cases hq : Go.Lib.indexByte b 49 = -1
        · rw [if_pos (by rw [hq]; rfl), hq]
        · rw [if_neg (by simpa using hq)]; omega
      rw [e, ih]
      congr 1
      rw [decide_eq_decide, List.length_cons, List.replicate_succ]
      simp
    · rw [dF (show ¬ ((49 : UInt8) :: b = List.replicate ((49 : UInt8) :: b).length 48) by rw [List.length_cons, List.replicate_succ]; intro q; injection q with q _; revert q; decide)]
      exact dT (by show 0 ≤ (if ((49 : UInt8) == 49) = true then (0 : Int) else _); rw [if_pos (by decide)]; exact Int.le_refl _)
theorem readDiff_code (N : Nat) (hN : 200000 ≤ N) (s : List UInt8) (W H kind : Int) (c : List Int) : D_diff_Read N s W H kind c = some (readDR s W H kind c) := by
  unfold D_diff_Read readDR
  by_cases h1 : W < 1
  · rw [cT (dT h1), if_pos (by omega)]
  rw [cF (dF h1)]
  by_cases h2 : 64 < W
  · rw [cT (dT h2), if_pos (by omega)]
  rw [cF (dF h2), if_neg (by omega)]
  by_cases h3 : H < 1
  · rw [cT (dT h3), if_pos (by omega)]
  rw [cF (dF h3)]
  by_cases h4 : 64 < H
  · rw [cT (dT h4), if_pos (by omega)]
  rw [cF (dF h4), if_neg (by omega)]
  by_cases h5 : kind < 1
  · rw [cT (dT h5), if_pos (by omega)]
  rw [cF (dF h5)]
  by_cases h6 : 7 < kind
  · rw [cT (dT h6), if_pos (by omega)]
  rw [cF (dF h6), if_neg (by omega), check_code N (by omega), bsome]
  by_cases h7 : chkErr c = 0
  rotate_left
  · rw [cT (by rw [dF h7]; rfl), if_pos h7]
  rw [cF (by rw [dT h7]; rfl), if_neg (by omega)]
  obtain ⟨w, rfl⟩ := Int.eq_ofNat_of_zero_le (show 0 ≤ W by omega)
  obtain ⟨h, rfl⟩ := Int.eq_ofNat_of_zero_le (show 0 ≤ H by omega)
  have hm := Nat.mul_le_mul (show w ≤ 64 by omega) (show h ≤ 64 by omega)
  rw [Int.toNat_natCast, Int.toNat_natCast]
  have hB : isB ([] ++ bitS s) = true := bitS_isB s
  have key := codeR_l1 N (by omega) h7 (w := w) (h := h) (by omega) (by omega) (kind := kind) (by omega) (fun (x_P4, x27, x28, i8) =>
    cond (!decide (x28 = ([] : List UInt8))) (
    some (0, 0, ([] : List Int), 1)) (
    Option.bind (D_strings_Contains N x27 ([49] : List UInt8)) fun r23 =>
    cond (r23) (
    some (0, 0, ([] : List Int), 1)) (
    some ((w : Int), (h : Int), x_P4, 0)))) (w * h) N [] [] s (by simp) (by omega) (by simp) (by simp) hB
  rw [List.nil_append] at key
  rcases key with ⟨k1, k2⟩ | ⟨P2, b2, s2, k1, k2, k3⟩
  · rw [k1]; exact k2
  refine Eq.trans k3 ?_
  rw [k1]
  dsimp only
  have hB2 : isB (b2 ++ bitS s2) = true := (rdD_ok (wordsOf_bits c) (by
    rw [wordsOf_len h7]
    obtain ⟨ns, rfl, _, _, h17, _⟩ := chk_ok h7
    rw [toI_len]; exact h17) (by omega) _ _ _ [] _ _ (bitS_isB s) (by simp) rfl k1).2.2.2.2
  by_cases hs : s2 = []
  rotate_left
  · have : 1 ≤ s2.length := by
      rcases Nat.eq_zero_or_pos s2.length with q | q
      · exact absurd (List.length_eq_zero_iff.1 q) hs
      · exact q
    rw [cT (by rw [dF hs]; rfl), if_neg]
    rw [List.length_append, bitS_len]
    omega
  subst hs
  rw [bitS_nil, List.append_nil] at hB2 ⊢
  rw [cF (by rfl), show D_strings_Contains N b2 [49] = some (decide (0 ≤ Go.Lib.indexByte b2 49)) from rfl, bsome, ib49 hB2]
  by_cases hz : b2 = List.replicate b2.length 48
  · rw [dT hz, if_pos ⟨k2, hz⟩]; rfl
  · rw [dF hz, if_neg (fun q => hz q.2)]; rfl
theorem set_zero {P : List Int} {m : Nat} {y : Int} : (P ++ List.replicate (m + 1) 0).set P.length y = (P ++ [y]) ++ List.replicate m 0 := by
  rw [List.set_append_right _ _ (Nat.le_refl _), Nat.sub_self, List.replicate_succ, List.set_cons_zero, List.append_assoc]; rfl
theorem docR_l1 (N : Nat) (hN : 5000 ≤ N) {c : List Int} (hc : chkErr c = 0) {w h : Nat} (hw : 1 ≤ w ∧ w ≤ 64) (hh : 1 ≤ h ∧ h ≤ 64) {kind : Int} (hk : 1 ≤ kind ∧ kind ≤ 7) (kk) : ∀ (j fuel : Nat) (P : List Int) (R : List UInt8), P.length + j = w * h → j < fuel → (∀ e ∈ P, 0 ≤ e ∧ e ≤ 65535) → R.length ≤ 16777216 → isB R = true →
    D_darkslideref_ReadDiff_l1 N (w : Int) (h : Int) kind (wordsOf c) kk fuel (P ++ List.replicate j 0, R, (P.length : Int)) = match rdD (wordsOf c) w kind j P R with
      | none => some (0, 0, [], 1)
      | some (P2, R2) => kk (P2, R2, ((w * h : Nat) : Int)) := by
  have hm := Nat.mul_le_mul hw.2 hh.2
  have hwh : IntKind.i64.wrap ((w : Int) * (h : Int)) = ((w * h : Nat) : Int) := by rw [show (w : Int) * (h : Int) = ((w * h : Nat) : Int) by simp, w64 (by omega)]
  have hbW := wordsOf_bits c
  have hWl : (wordsOf c).length ≤ 17 := by
    rw [wordsOf_len hc]
    obtain ⟨ns, rfl, _, _, h17, _⟩ := chk_ok hc
    rw [toI_len]; exact h17
  intro j
  induction j with
  | zero =>
    intro fuel P R hj hf hP hRl hB
    obtain ⟨fuel, rfl⟩ : ∃ q, fuel = q + 1 := ⟨fuel - 1, by omega⟩
    unfold D_darkslideref_ReadDiff_l1 rdD
    rw [hwh, cF (dF (by omega)), show P.length = w * h by omega, List.replicate_zero, List.append_nil]
  | succ j ih =>
    intro fuel P R hj hf hP hRl hB
    obtain ⟨fuel, rfl⟩ : ∃ q, fuel = q + 1 := ⟨fuel - 1, by omega⟩
    have hlt : P.length < w * h := by omega
    have hnx : IntKind.i64.wrap ((P.length : Int) + 1) = ((P.length + 1 : Nat) : Int) := by rw [w64 (by omega)]; rfl
    have hP0 : ∀ e ∈ P ++ List.replicate (j + 1) 0, 0 ≤ e ∧ e ≤ 65535 := fun e he => by
      rcases List.mem_append.1 he with q | q
      · exact hP e q
      · rw [(List.mem_replicate.1 q).2]; decide
    have hP1 : (P ++ List.replicate (j + 1) (0 : Int)).length = w * h := by rw [List.length_append, List.length_replicate]; omega
    have hxy : P.length / w * w + P.length % w = P.length := by rw [Nat.mul_comm]; exact Nat.div_add_mod _ _
    have hxw := Nat.mod_lt P.length (show w > 0 by omega)
    have hyh : P.length / w < h := Nat.div_lt_of_lt_mul hlt
    obtain ⟨t1, t2⟩ := tdm (W := w) P.length (by omega)
    have hdl : P.length / w ≤ P.length := Nat.div_le_self _ _
    have hg : D_darkslideref_GuessOf N (w : Int) (h : Int) (P ++ List.replicate (j + 1) 0) kind (Int.tmod (P.length : Int) (w : Int)) (IntKind.i64.wrap (Int.tdiv (P.length : Int) (w : Int))) = some (gs w P kind P.length) := by
      rw [t1, t2, w64 (x := ((P.length / w : Nat) : Int)) ⟨Int.le_trans (by decide) (Int.natCast_nonneg _), Int.le_trans (Int.ofNat_le.2 hdl) (by omega)⟩, guessOf_eq hP0 N hw hk _ hxw (by omega) (by omega) (by omega), hxy, gs_app hw.1 _ _ _ (Nat.le_refl _)]
    have hgi : -65535 ≤ gs w P kind P.length ∧ gs w P kind P.length ≤ 131070 := by
      rw [← gs_app hw.1 P (List.replicate (j + 1) 0) kind (Nat.le_refl _)]
      exact gs_in hP0 hw.1 (by omega)
    have hset : ∀ y : Int, setL (P ++ List.replicate (j + 1) 0) (P.length : Int) y = some ((P ++ [y]) ++ List.replicate j 0) := fun y => by
      rw [setL_eq (by omega), Int.toNat_natCast, set_zero]
    have hix : idx (P ++ List.replicate (j + 1) (0 : Int)) (P.length : Int) = some 0 := by
      rw [idx_nat, List.getElem?_append_right (Nat.le_refl _), Nat.sub_self, List.replicate_succ]; rfl
    have hval : ∀ (d : Int) (kk2 : Int → Option (Int × Int × List Int × Int)), -32768 < d ∧ d ≤ 32768 → (Option.bind (some (IntKind.i64.wrap (gs w P kind P.length + d))) fun x => Option.bind (D_darkslideref_down N x 65536) fun r => kk2 (IntKind.i64.wrap (x - IntKind.i64.wrap (65536 * r)))) = kk2 ((gs w P kind P.length + d) % 65536) := fun d kk2 hd => by
      rw [w64 (x := gs w P kind P.length + d) (by omega), bsome, down_eq N (by omega) (by omega), bsome, w64 (x := 65536 * _) (by omega), w64 (by omega)]
      congr 1
      omega
    have nzw : nz (w : Int) = some () := nz_eq (by omega)
    have go : ∀ (d : Int) (R2 : List UInt8), rdStep (wordsOf c) R = some (d, R2) → -32768 < d ∧ d ≤ 32768 → R2.length ≤ R.length →
        (Option.bind (some (IntKind.i64.wrap (gs w P kind P.length + d))) fun x => Option.bind (D_darkslideref_down N x 65536) fun r =>
          Option.bind (idx (P ++ List.replicate (j + 1) 0) (P.length : Int)) fun e6 =>
          Option.bind (setL (P ++ List.replicate (j + 1) 0) (P.length : Int) (IntKind.i64.wrap (x - IntKind.i64.wrap (65536 * r)))) fun l6 =>
          Option.bind (some (IntKind.i64.wrap ((P.length : Int) + 1))) fun x11 =>
          D_darkslideref_ReadDiff_l1 N (w : Int) (h : Int) kind (wordsOf c) kk fuel (l6, R2, x11)) = match rdD (wordsOf c) w kind (j + 1) P R with
      | none => some (0, 0, [], 1)
      | some (P2, R2) => kk (P2, R2, ((w * h : Nat) : Int)) := by
      intro d R2 h2 hd hR2
      obtain ⟨_, _, hRR⟩ := step_ok hbW hWl hB h2
      have hB2 : isB R2 = true := by
        rw [hRR, isB_app, Bool.and_eq_true] at hB
        exact hB.2
      have hl : (P ++ [(gs w P kind P.length + d) % 65536]).length = P.length + 1 := by simp
      have := ih fuel (P ++ [(gs w P kind P.length + d) % 65536]) R2 (by omega) (by omega) (fun e he => by
        rcases List.mem_append.1 he with q | q
        · exact hP e q
        · rw [List.mem_singleton.1 q]; omega) (by omega) hB2
      rw [hl] at this
      have e := hval d (fun v => Option.bind (idx (P ++ List.replicate (j + 1) 0) (P.length : Int)) fun e6 =>
          Option.bind (setL (P ++ List.replicate (j + 1) 0) (P.length : Int) v) fun l6 =>
          Option.bind (some (IntKind.i64.wrap ((P.length : Int) + 1))) fun x11 =>
          D_darkslideref_ReadDiff_l1 N (w : Int) (h : Int) kind (wordsOf c) kk fuel (l6, R2, x11)) hd
      refine Eq.trans e ?_
      rw [hix, bsome, hset, bsome, hnx, bsome, this]
      conv => rhs; unfold rdD
      rw [h2]
    unfold D_darkslideref_ReadDiff_l1
    rw [hwh, cT (dT (by omega)), front_eq N (by omega) (by omega) hbW hRl, bsome]
    rcases hf1 : frI (wordsOf c) R with _ | i
    · dsimp only
      rw [cT (by rw [dF (frE_ne _ _)]; rfl)]
      unfold rdD rdStep
      rw [hf1]
    obtain ⟨u, a2, hu0, hub⟩ := frI_some hf1
    have hgd : (wordsOf c).getD i [] = u := by rw [List.getD_eq_getElem?_getD, a2]; rfl
    have hil : i < (wordsOf c).length := (List.getElem?_eq_some_iff.1 a2).1
    have hst : rdStep (wordsOf c) R = if i = 16 then some (32768, R.drop u.length) else if (R.drop u.length).length < i then none else some (vd ((R.drop u.length).take i), (R.drop u.length).drop i) := by
      unfold rdStep
      rw [hf1]
      dsimp only
      rw [hgd]
    have hdl2 : (R.drop u.length).length ≤ R.length := by rw [List.length_drop]; omega
    dsimp only
    rw [cF (by rfl), idx_nat, a2, bsome, sli_drop hub.length_le, bsome]
    by_cases h16 : i = 16
    · rw [cT (dT (by omega)), nzw, bsome, bsome, hg, bsome]
      exact go 32768 _ (by rw [hst, if_pos h16]) (by decide) hdl2
    rw [if_neg h16] at hst
    rw [cF (dF (by omega))]
    have hBd : isB (R.drop u.length) = true := by
      have := hB
      rw [← List.take_append_drop u.length R, isB_app, Bool.and_eq_true] at this; exact this.2
    generalize R.drop u.length = T at *
    by_cases hs : T.length < i
    · rw [cT (dT (by omega))]
      rw [if_pos hs] at hst
      unfold rdD
      rw [hst]
    rw [if_neg hs] at hst
    have hBt : isB (T.take i) = true := by
      have := hBd
      rw [← List.take_append_drop i T, isB_app, Bool.and_eq_true] at this; exact this.1
    have hlen : (T.take i).length = i := by rw [List.length_take]; omega
    have hp16 := pow_le16 (d := i) (by omega)
    have hvl := num_lt (B := 2) (btsOf (T.take i)) (btsOf_lt hBt)
    have bl : (btsOf (T.take i)).length = i := by simp only [btsOf, List.length_map]; exact hlen
    rw [bl] at hvl
    obtain ⟨_, _, v1, v2⟩ := vd_spec hBt (by omega)
    have hdl3 : (T.drop i).length ≤ R.length := by rw [List.length_drop]; omega
    have hpos := Nat.two_pow_pos i
    rw [cF (dF (by omega)), sli_take (by omega), bsome, value_doc N (by omega) hBt (by omega), bsome, nn_nat, bsome, bsome, one_shl (by omega), show Int.tdiv ((2 ^ i : Nat) : Int) 2 = ((2 ^ i / 2 : Nat) : Int) from rfl, w64 (x := ((2 ^ i / 2 : Nat) : Int)) (by omega)]
    by_cases hx : num 2 (btsOf (T.take i)) < 2 ^ i / 2
    · have hv := vd_lead (t := T.take i) (by rw [hlen]; omega)
      rw [hlen] at hv
      rw [cT (dT (by omega)), w64 (x := _ - ((2 ^ i : Nat) : Int)) (by omega), show ((num 2 (btsOf (T.take i)) : Nat) : Int) - ((2 ^ i : Nat) : Int) + 1 = vd (T.take i) by omega, w64 (x := vd _) (by omega), bsome, sli_drop (by omega), bsome, nzw, bsome, bsome, hg, bsome]
      exact go _ _ hst (by omega) hdl3
    · have hv : vd (T.take i) = (num 2 (btsOf (T.take i)) : Int) := by
        by_cases h0 : i = 0
        · subst h0; rfl
        · have hp : 2 ^ i = 2 * 2 ^ (i - 1) := by rw [← Nat.pow_succ']; congr 1; omega
          exact vd_high (by rw [hlen]; omega)
      rw [cF (dF (by omega)), sli_drop (by omega), bsome, nzw, bsome, bsome, hg, bsome, ← hv]
      exact go _ _ hst (by omega) hdl3
theorem writeDR_ok {w h : Nat} (hw : 1 ≤ w ∧ w ≤ 64) (hh : 1 ≤ h ∧ h ≤ 64) {P : List Int} (hP : ∀ e ∈ P, 0 ≤ e ∧ e ≤ 65535) (hl : P.length = w * h) {kind : Int} (hk : 1 ≤ kind ∧ kind ≤ 7) {c : List Int} (hc : chkErr c = 0) (ha : (ds w P kind).all (dOK (wordsOf c)) = true) : writeDR (w : Int) (h : Int) P kind c = (byB (dcat (wordsOf c) (ds w P kind)), 0) := by
  have hp : plF (w : Int) (h : Int) P = true := by
    unfold plF
    rw [dT (show sideOK (w : Int) (h : Int) P.length from ⟨by omega, by omega, by omega, by omega, by rw [hl]; simp⟩), Bool.true_and, List.all_eq_true]
    exact fun e he => dT (hP e he)
  unfold writeDR
  rw [hp, if_neg (by decide), if_neg (by omega), if_neg (by omega), Int.toNat_natCast, if_pos ha]
theorem readDiff_doc (N : Nat) (hN : 200000 ≤ N) (s : List UInt8) (W H kind : Int) (c : List Int) : D_darkslideref_ReadDiff N s W H kind c = some (readDR s W H kind c) := by
  unfold D_darkslideref_ReadDiff readDR
  rw [within2, bsome]
  by_cases h1 : 1 ≤ W ∧ W ≤ 64
  rotate_left
  · rw [cT (by rw [dF h1]; rfl), if_pos h1]
  rw [cF (by rw [dT h1]; rfl), if_neg (by omega), within2, bsome]
  by_cases h2 : 1 ≤ H ∧ H ≤ 64
  rotate_left
  · rw [cT (by rw [dF h2]; rfl), if_pos h2]
  rw [cF (by rw [dT h2]; rfl), if_neg (by omega), within2, bsome]
  by_cases h3 : 1 ≤ kind ∧ kind ≤ 7
  rotate_left
  · rw [cT (by rw [dF h3]; rfl), if_pos h3]
  rw [cF (by rw [dT h3]; rfl), if_neg (by omega), check_doc N (by omega), bsome]
  by_cases h7 : chkErr c = 0
  rotate_left
  · rw [cT (by rw [dF h7]; rfl), if_pos h7]
  rw [cF (by rw [dT h7]; rfl), if_neg (by omega), wordsOf_doc N (by omega) h7, bsome]
  obtain ⟨w, rfl⟩ := Int.eq_ofNat_of_zero_le (show 0 ≤ W by omega)
  obtain ⟨h, rfl⟩ := Int.eq_ofNat_of_zero_le (show 0 ≤ H by omega)
  have hm := Nat.mul_le_mul (show w ≤ 64 by omega) (show h ≤ 64 by omega)
  rw [Int.toNat_natCast, Int.toNat_natCast]
  have hWl : (wordsOf c).length ≤ 17 := by
    rw [wordsOf_len h7]
    obtain ⟨ns, rfl, _, _, h17, _⟩ := chk_ok h7
    rw [toI_len]; exact h17
  have fin : ∀ P2 R2, rdD (wordsOf c) w kind (w * h) [] (bitS s) = some (P2, R2) → writeDR (w : Int) (h : Int) P2 kind c = (byB (dcat (wordsOf c) (ds w P2 kind)), 0) ∧ bitS s = dcat (wordsOf c) (ds w P2 kind) ++ R2 ∧ (ds w P2 kind).length = w * h := fun P2 R2 hr => by
    obtain ⟨q1, q2, q3, q4, q5⟩ := rdD_ok (wordsOf_bits c) hWl (by omega) _ _ _ [] _ _ (bitS_isB s) (by simp) rfl hr
    rw [List.length_nil, Nat.zero_add] at q1
    refine ⟨writeDR_ok (by omega) (by omega) q2 q1 h3 h7 q3, q4, by rw [ds_len, q1]⟩
  by_cases h8 : 32768 < s.length
  · rw [cT (dT (by omega))]
    rcases hr : rdD (wordsOf c) w kind (w * h) [] (bitS s) with _ | ⟨P2, R2⟩
    · rfl
    dsimp only
    obtain ⟨_, q2, q3⟩ := fin P2 R2 hr
    have hcl := dcat_len (wordsOf_bits c) (ds_in w P2 kind)
    have := congrArg List.length q2
    rw [bitS_len, List.length_append] at this
    rw [if_neg (by omega)]
  have hwh : IntKind.i64.wrap ((w : Int) * (h : Int)) = ((w * h : Nat) : Int) := by rw [show (w : Int) * (h : Int) = ((w * h : Nat) : Int) by simp, w64 (by omega)]
  rw [cF (dF (by omega)), row_eq N (by omega) (by omega), bsome, hwh, bsome, mk_eq (by omega), bsome, Int.toNat_natCast]
  have key := docR_l1 N (by omega) h7 (w := w) (h := h) (by omega) (by omega) h3 (fun (x_P2, i3, i4) =>
    Option.bind (D_darkslideref_WriteDiff N (w : Int) (h : Int) x_P2 kind c) fun r24 =>
    cond (!decide (r24.2 = 0)) (
    some (0, 0, ([] : List Int), 1)) (
    cond (!decide (r24.1 = s)) (
    some (0, 0, ([] : List Int), 1)) (
    some ((w : Int), (h : Int), x_P2, 0)))) (w * h) N [] (bitS s) (by simp) (by omega) (by simp) (by rw [bitS_len]; omega) (bitS_isB s)
  rw [List.nil_append] at key
  refine Eq.trans key ?_
  rcases hr : rdD (wordsOf c) w kind (w * h) [] (bitS s) with _ | ⟨P2, R2⟩
  · rfl
  dsimp only
  obtain ⟨q1, q2, q3⟩ := fin P2 R2 hr
  have hfi := fin_iff q2
  rw [writeDiff_doc N hN, bsome, q1]
  dsimp only
  rw [cF (by rfl)]
  by_cases hz : R2.length ≤ 7 ∧ R2 = List.replicate R2.length 48
  · rw [if_pos hz, cF (by rw [dT (hfi.2 hz)]; rfl)]
  · rw [if_neg hz, cT (by rw [dF (fun q => hz (hfi.1 q))]; rfl)]
theorem same_pl (N : Nat) (hN : 5000 ≤ N) (W H : Int) {P : List Int} (hl : P.length ≤ 4096) : D_darkslideref_SamePlanes N W H P W H P = some true := by
  unfold D_darkslideref_SamePlanes
  rw [cT (dT rfl), cT (dT rfl), sameI2 N P (by omega) (by omega)]; rfl
theorem readDR_len (s : List UInt8) (W H kind : Int) (c : List Int) : (readDR s W H kind c).2.2.1.length ≤ 4096 := by
  unfold readDR
  split
  · simp
  split
  · simp
  split
  · simp
  split
  · simp
  rename_i h1 h2 h3 h4
  split
  · simp
  rename_i P R hr
  split
  rotate_left
  · simp
  have h7 : chkErr c = 0 := by omega
  have hWl : (wordsOf c).length ≤ 17 := by
    rw [wordsOf_len h7]
    obtain ⟨ns, rfl, _, _, h17, _⟩ := chk_ok h7
    rw [toI_len]; exact h17
  have hm := Nat.mul_le_mul (show W.toNat ≤ 64 by omega) (show H.toNat ≤ 64 by omega)
  have := (rdD_ok (wordsOf_bits c) hWl (by omega) _ _ _ [] _ _ (bitS_isB s) (by simp) rfl hr).1
  rw [List.length_nil, Nat.zero_add] at this
  show P.length ≤ _
  omega
theorem diffReads_true (s : List UInt8) (W H kind : Int) (c : List Int) : D_darkslidelaw_DiffReads 200000 s W H kind c = some true := by
  unfold D_darkslidelaw_DiffReads
  rw [readDiff_code _ (by decide), bsome, readDiff_doc _ (by decide), bsome, diffBegun_200, bsome, cT rfl, cT (dT rfl), same_pl _ (by decide) _ _ (readDR_len s W H kind c)]; rfl
end Go.Proofs.YtpmnfhifmmfglacDoor

namespace Go.Proofs.YtpmnfhifmmfglacDoor
open Go.RowKit
section
variable {P : Program} {ops : Array Oper} {Q O : Exit → Act → World → Prop} {S : World → Prop} {rob need : Nat → Bool} {R : Act → World → Prop}
def rdy (ops : Array Oper) (rem : List Nat) (i : Nat) : Bool := rem.all fun j => !waits ops i j
def wpTr (P : Program) (O : Exit → Act → World → Prop) (ops : Array Oper) (S : World → Prop) (rob need : Nat → Bool) (R : Act → World → Prop) : Nat → List Nat → Act → World → Prop
  | 0, rem, a, w => rem = [] ∧ R a w
  | n + 1, rem, a, w =>
    (∃ i ∈ rem, rob i = true ∧ rdy ops rem i = true ∧ ∃ o, ops[i]? = some o ∧ ∃ v, YldS P ops S o v a ∧ wpTr P O ops S rob need R n (rem.erase i) (a.put o.dst v) w) ∨
    ((∀ i ∈ rem, rob i = true → rdy ops rem i = false) ∧ ∀ c ∈ rem, rob c = false → rdy ops rem c = true → wpOp P ops O c (fun a' w' => (need c = true → S w') ∧ wpTr P O ops S rob need R n (rem.erase c) a' w') a w)
def trPair (ops : Array Oper) (rob : Nat → Bool) (i j : Nat) : Bool :=
  match ops[i]?, ops[j]? with
  | some oi, some oj => waits ops i j || ((!rob i || oi.apart ops oj) && (!rob j || oj.apart ops oi))
  | _, _ => false
def trOK (ops : Array Oper) (rob need : Nat → Bool) : Bool :=
  Region.noSelect ops && txtBack ops && ((List.range ops.size).all fun i => (List.range i).all fun j => trPair ops rob i j) &&
  (List.range ops.size).all fun i => rob i || need i || !freeOf ops rob i
/-- Ways out that ask nothing of the slots. -/
def Dull (O : Exit → Act → World → Prop) : Prop := (∀ e a d v w, O e (a.put d v) w → O e a w) ∧ ¬ LetsOut O
theorem dull_no : Dull NoOut := ⟨fun _ _ _ _ _ h => h.elim, fun ⟨_, _, h⟩ => h.elim⟩
theorem wpOp_aheadO (hO : Dull O) {j : Nat} {oi oj : Oper} {v : Value} (hj : ops[j]? = some oj) (hap : oi.apart ops oj = true)
    (hsi : ∀ cs b, oi.op ≠ .select cs b) (hsj : ∀ cs b, oj.op ≠ .select cs b) {K : Act → World → Prop} {a : Act} {w : World}
    (hy : YldS P ops S oi v a) (h : wpOp P ops O j K (a.put oi.dst v) w) :
    wpOp P ops O j (fun a' w' => YldS P ops S oi v a' ∧ K (a'.put oi.dst v) w') a w := by
  obtain ⟨h1, h2, h3⟩ := Oper.apart_spec hap
  have keep : ∀ (a : Act), YldS P ops S oi v a → ∀ u, YldS P ops S oi v (a.put oj.dst u) := fun a hy u =>
    hy.same (execOp_put oi hsi a oj.dst u h3) (wanted_put oi a oj.dst u h3)
  have keepD : ∀ d, YldS P ops S oi v { a with defers := d :: a.defers } := fun d => hy.same rfl rfl
  unfold wpOp at *
  simp only [hj] at *
  rw [wanted_put oj a oi.dst v h1] at h
  split
  · rename_i hw
    simp only [hw, if_true] at h
    rcases h with h | ⟨_, hl⟩
    case inr => exact absurd hl hO.2
    refine .inl ?_
    unfold Oper.wp at *
    rw [execOp_put oj hsj a oi.dst v h1] at h
    generalize (execOp a.eval oj).run P w = r at *
    cases r with
    | ok n w' =>
      cases n <;> simp only [Oper.upon] at h ⊢
      case value u => exact ⟨keep a hy u, by rw [← Act.put_comm a v u h2]; exact h⟩
      case skip => exact ⟨keep a hy _, by rw [← Act.put_comm a v undef h2]; exact h⟩
      case defer d =>
        refine ⟨keep _ (keepD d) _, ?_⟩
        rw [← Act.put_comm _ v undef h2, ← Act.put_defers]
        exact h
      case enter f args =>
        refine Calls.mono h fun e w'' he => ?_
        cases e with
        | returned u => exact ⟨keep a hy u, by rw [← Act.put_comm a v u h2]; exact he⟩
        | panicked c => exact hO.1 _ _ _ _ _ he
        | outgrown => exact absurd he hO.2
      case row row args => exact Rows.mono h fun u w'' he => ⟨keep a hy u, by rw [← Act.put_comm a v u h2]; exact he⟩
    | halt x w' => cases x <;> simp only [Oper.upon] at h ⊢; exact hO.1 _ _ _ _ _ h
  · rename_i hw
    simp only [hw] at h
    exact ⟨keep a hy _, by rw [← Act.put_comm a v undef h2]; exact h⟩
theorem wpOp_outO (hO : Dull O) (hQ : ∀ e a w, O e a w → Q e a w) {i : Nat} {K : Act → World → Prop} {a : Act} {w : World} (h : wpOp P ops O i K a w) : wpOp P ops Q i K a w := by
  unfold wpOp at *
  split
  · rename_i h0
    simp only [h0] at h
    exact h
  · rename_i o ho
    simp only [ho] at h
    split
    · rename_i hw
      rw [if_pos hw] at h
      rcases h with h | ⟨_, hl⟩
      case inr => exact absurd hl hO.2
      refine .inl ?_
      unfold Oper.wp at *
      generalize (execOp a.eval o).run P w = r at *
      cases r with
      | ok n w' =>
        cases n <;> simp only [Oper.upon] at h ⊢ <;> first
          | exact h
          | (refine Calls.mono h fun e w'' he => ?_
             cases e with
             | returned u => exact he
             | panicked c => exact hQ _ _ _ he
             | outgrown => exact absurd he hO.2)
      | halt x w' => cases x <;> simp only [Oper.upon] at h ⊢; exact hQ _ _ _ h
    · rename_i hw
      rw [if_neg hw] at h
      exact h
theorem rdy_erase {rem : List Nat} {i k : Nat} (h : rdy ops rem i = true) : rdy ops (rem.erase k) i = true := by
  unfold rdy at *
  rw [List.all_eq_true] at *
  exact fun j hj => h j (List.mem_of_mem_erase hj)
theorem rdy_waits {rem : List Nat} {i j : Nat} (h : rdy ops rem i = true) (hj : j ∈ rem) : waits ops i j = false := by
  unfold rdy at h
  rw [List.all_eq_true] at h
  simpa using h j hj
theorem tr_pull {i : Nat} {oi : Oper} (hi : ops[i]? = some oi) (hr : rob i = true) (hsel : ∀ (j : Nat) (o : Oper) cs b, ops[j]? = some o → o.op ≠ .select cs b)
    (hpair : ∀ j k oj ok, j ≠ k → ops[j]? = some oj → ops[k]? = some ok → waits ops j k = false → waits ops k j = false → (rob j = true → oj.apart ops ok = true)) :
    ∀ (n : Nat) (rem : List Nat) (a : Act) (w : World), i ∈ rem → rdy ops rem i = true → wpTr P O ops S rob need R (n + 1) rem a w → ∃ v, YldS P ops S oi v a ∧ wpTr P O ops S rob need R n (rem.erase i) (a.put oi.dst v) w := by
  intro n
  induction n with
  | zero =>
    intro rem a w him hrd h
    rcases h with ⟨i0, hi0, hr0, hd0, o0, ho0, u, hu, h⟩ | ⟨hno, _⟩
    · obtain ⟨hnil, hR⟩ := h
      have : i0 = i := by
        by_cases e : i0 = i
        · exact e
        · have : i ∈ rem.erase i0 := (List.mem_erase_of_ne (fun h => e h.symm)).2 him
          rw [hnil] at this; cases this
      subst this
      obtain rfl : o0 = oi := Option.some.inj (ho0.symm.trans hi)
      exact ⟨u, hu, hnil, hR⟩
    · rw [hno i him hr] at hrd; cases hrd
  | succ n ih =>
    intro rem a w him hrd h
    rcases h with ⟨i0, hi0, hr0, hd0, o0, ho0, u, hu, h⟩ | ⟨hno, _⟩
    · by_cases e : i0 = i
      · subst e
        obtain rfl : o0 = oi := Option.some.inj (ho0.symm.trans hi)
        exact ⟨u, hu, h⟩
      · have him' : i ∈ rem.erase i0 := (List.mem_erase_of_ne (fun h => e h.symm)).2 him
        obtain ⟨v, hv, h⟩ := ih _ _ _ him' (rdy_erase hrd) h
        have w1 := rdy_waits hrd hi0
        have w2 := rdy_waits hd0 him
        have ap1 := hpair i i0 oi o0 (fun h => e h.symm) hi ho0 w1 w2 hr
        have ap2 := hpair i0 i o0 oi e ho0 hi w2 w1 hr0
        obtain ⟨p1, p2, p3⟩ := Oper.apart_spec ap1
        obtain ⟨q1, q2, q3⟩ := Oper.apart_spec ap2
        have hv' : YldS P ops S oi v a := hv.same (execOp_put oi (fun cs b => hsel i oi cs b hi) a o0.dst u p3).symm (wanted_put oi a o0.dst u p3).symm
        refine ⟨v, hv', .inl ⟨i0, (List.mem_erase_of_ne e).2 hi0, hr0, rdy_erase hd0, o0, ho0, u, ?_, ?_⟩⟩
        · exact hu.same (execOp_put o0 (fun cs b => hsel i0 o0 cs b ho0) a oi.dst v q3) (wanted_put o0 a oi.dst v q3)
        · rw [List.erase_comm, Act.put_comm a v u p2]; exact h
    · rw [hno i him hr] at hrd; cases hrd
theorem tr_push (hO : Dull O) {c : Nat} {oc : Oper} (hc : ops[c]? = some oc) (hrc : rob c = false) (hsel : ∀ (j : Nat) (o : Oper) cs b, ops[j]? = some o → o.op ≠ .select cs b)
    (hpair : ∀ j k oj ok, j ≠ k → ops[j]? = some oj → ops[k]? = some ok → waits ops j k = false → waits ops k j = false → (rob j = true → oj.apart ops ok = true)) :
    ∀ (n : Nat) (rem : List Nat) (a : Act) (w : World), c ∈ rem → rdy ops rem c = true → wpTr P O ops S rob need R (n + 1) rem a w → wpOp P ops O c (fun a' w' => (need c = true → S w') ∧ wpTr P O ops S rob need R n (rem.erase c) a' w') a w := by
  intro n
  induction n with
  | zero =>
    intro rem a w hcm hrd h
    rcases h with ⟨i0, hi0, hr0, hd0, o0, ho0, u, hu, h⟩ | ⟨_, h⟩
    · obtain ⟨hnil, hR⟩ := h
      have e : i0 ≠ c := fun e => by subst e; rw [hrc] at hr0; cases hr0
      have : c ∈ rem.erase i0 := (List.mem_erase_of_ne (fun h => e h.symm)).2 hcm
      rw [hnil] at this; cases this
    · exact h c hcm hrc hrd
  | succ n ih =>
    intro rem a w hcm hrd h
    rcases h with ⟨i0, hi0, hr0, hd0, o0, ho0, u, hu, h⟩ | ⟨_, h⟩
    · have e : i0 ≠ c := fun e => by subst e; rw [hrc] at hr0; cases hr0
      have hcm' : c ∈ rem.erase i0 := (List.mem_erase_of_ne (fun h => e h.symm)).2 hcm
      have h2 := ih _ _ _ hcm' (rdy_erase hrd) h
      have w1 := rdy_waits hrd hi0
      have w2 := rdy_waits hd0 hcm
      have ap := hpair i0 c o0 oc e ho0 hc w2 w1 hr0
      have h3 := wpOp_aheadO hO hc ap (fun cs b => hsel i0 o0 cs b ho0) (fun cs b => hsel c oc cs b hc) hu h2
      refine wpOp_mono ?_ h3
      rintro a' w' ⟨hy, hn, hk⟩
      refine ⟨hn, .inl ⟨i0, (List.mem_erase_of_ne e).2 hi0, hr0, rdy_erase hd0, o0, ho0, u, hy, ?_⟩⟩
      rw [List.erase_comm]; exact hk
    · exact h c hcm hrc hrd
theorem filter_ne_erase {l : List Nat} (hl : l.Nodup) (i : Nat) : l.filter (· != i) = l.erase i := by
  rw [List.Nodup.erase_eq_filter hl]
theorem wpAny_of_tr (hO : Dull O) (hQ : ∀ e a w, O e a w → Q e a w) (hok : trOK ops rob need = true) : ∀ (fuel : Nat) (listed : Array Bool) (a : Act) (w : World), listed.size = ops.size → Closed ops listed → (remOf ops listed).length = fuel →
    (∀ r ∈ remOf ops listed, rob r = true → S w) → wpTr P O ops S rob need (Q .normal) fuel (remOf ops listed) a w → wpAny P .any ops Q fuel listed a w := by
  simp only [trOK, Bool.and_eq_true] at hok
  obtain ⟨⟨⟨hsel0, hback⟩, hpair0⟩, hneed⟩ := hok
  have hsel := Region.noSelect_spec hsel0
  have hp : ∀ i < ops.size, ∀ j < i, trPair ops rob i j = true := fun i hi j hj => List.all_eq_true.1 (List.all_eq_true.1 hpair0 i (List.mem_range.2 hi)) j (List.mem_range.2 hj)
  have hpair : ∀ j k oj ok, j ≠ k → ops[j]? = some oj → ops[k]? = some ok → waits ops j k = false → waits ops k j = false → (rob j = true → oj.apart ops ok = true) := by
    intro j k oj ok hjk hj hk w1 w2 hr
    have hjl := (Array.getElem?_eq_some_iff.1 hj).1
    have hkl := (Array.getElem?_eq_some_iff.1 hk).1
    rcases Nat.lt_or_gt_of_ne hjk with hlt | hlt
    · have h := hp k hkl j hlt
      unfold trPair at h
      simp only [hj, hk, w2, Bool.false_or, Bool.and_eq_true, Bool.or_eq_true, Bool.not_eq_true'] at h
      rcases h.2 with h0 | h0
      · rw [hr] at h0; cases h0
      · exact h0
    · have h := hp j hjl k hlt
      unfold trPair at h
      simp only [hj, hk, w1, Bool.false_or, Bool.and_eq_true, Bool.or_eq_true, Bool.not_eq_true'] at h
      rcases h.1 with h0 | h0
      · rw [hr] at h0; cases h0
      · exact h0
  have hbk : ∀ i o, ops[i]? = some o → ∀ e ∈ o.after, Region.binds .any e = true → e.on < i := fun i o ho e he hb => by
    have hi : i < ops.size := (Array.getElem?_eq_some_iff.1 ho).1
    have h := List.all_eq_true.1 hback i (List.mem_range.2 hi)
    simp only [ho] at h
    have h2 := Array.all_eq_true_iff_forall_mem.1 h e he
    simpa [hb] using h2
  have hnd : ∀ i < ops.size, rob i = false → ∀ r < ops.size, rob r = true → waits ops i r = false → need i = true := fun i hi hri r hr hrr hw => by
    have h := List.all_eq_true.1 hneed i (List.mem_range.2 hi)
    simp only [hri, Bool.false_or, Bool.or_eq_true, Bool.not_eq_true'] at h
    refine h.resolve_right fun h0 => ?_
    have : freeOf ops rob i = true := by
      refine List.any_eq_true.2 ⟨r, List.mem_range.2 hr, ?_⟩
      have : r ≠ i := fun e => by subst e; rw [hri] at hrr; cases hrr
      simp [hrr, hw, this]
    rw [this] at h0
    cases h0
  intro fuel
  induction fuel with
  | zero =>
    intro listed a w hs hc hlen _ h
    have hnil : remOf ops listed = [] := List.eq_nil_of_length_eq_zero hlen
    obtain ⟨_, h⟩ := h
    refine ⟨?_, h⟩
    refine List.eq_nil_iff_forall_not_mem.2 fun i hi => ?_
    obtain ⟨h0, o, ho, _⟩ := mem_ready.1 hi
    have : i ∈ remOf ops listed := mem_remOf.2 ⟨(Array.getElem?_eq_some_iff.1 ho).1, h0⟩
    rw [hnil] at this
    cases this
  | succ fuel ih =>
    intro listed a w hs hc hlen hS h
    refine ⟨fun h0 => ?_, fun i hi => ?_⟩
    · exfalso
      match hr : remOf ops listed, hlen with
      | i0 :: rest, _ =>
        have hm0 : i0 ∈ remOf ops listed := by rw [hr]; exact List.mem_cons_self ..
        obtain ⟨hlt, hun⟩ := mem_remOf.1 hm0
        have hsorted := remOf_sorted (ops := ops) listed
        rw [hr, List.pairwise_cons] at hsorted
        have : i0 ∈ Region.ready .any ops listed := by
          refine mem_ready.2 ⟨hun, ops[i0], Array.getElem?_eq_getElem hlt, fun e he hb => ?_⟩
          have hlt2 := hbk i0 _ (Array.getElem?_eq_getElem hlt) e he hb
          cases hl : listed.getD e.on false with
          | true => rfl
          | false =>
            have hm : e.on ∈ remOf ops listed := mem_remOf.2 ⟨by omega, by rw [listed_eq (by omega)]; exact hl⟩
            rw [hr] at hm
            rcases List.mem_cons.1 hm with hm | hm
            · omega
            · have := hsorted.1 _ hm; omega
        rw [h0] at this
        cases this
    · obtain ⟨hun, oi, hoi, hall⟩ := mem_ready.1 hi
      have hilt : i < ops.size := (Array.getElem?_eq_some_iff.1 hoi).1
      have him : i ∈ remOf ops listed := mem_remOf.2 ⟨hilt, hun⟩
      have hnodup : (remOf ops listed).Nodup := (remOf_sorted (ops := ops) listed).imp fun h => Nat.ne_of_lt h
      have hrem' : remOf ops (listed.setIfInBounds i true) = (remOf ops listed).erase i := by rw [remOf_set hs hilt, filter_ne_erase hnodup]
      have hlen' : (remOf ops (listed.setIfInBounds i true)).length = fuel := by
        rw [hrem', List.length_erase_of_mem him]; omega
      have hs' : (listed.setIfInBounds i true).size = ops.size := by simpa using hs
      have hc' : Closed ops (listed.setIfInBounds i true) := by
        intro k hk j hj
        by_cases hik : i = k
        · subst hik; exact getD_set_true (ready_waits hi hj)
        · rw [getD_set_ne false hik] at hk; exact getD_set_true (hc k hk j hj)
      have hrd : rdy ops (remOf ops listed) i = true := by
        unfold rdy
        rw [List.all_eq_true]
        intro j hj
        obtain ⟨h1, h2⟩ := mem_remOf.1 hj
        cases hw : waits ops i j with
        | false => rfl
        | true =>
          have := ready_waits hi hw
          rw [← listed_eq (by omega), h2] at this; cases this
      cases hri : rob i with
      | true =>
        have hSw : S w := hS i him hri
        obtain ⟨v, hv, hrest⟩ := tr_pull hoi hri hsel hpair fuel _ a w him hrd h
        refine hv.run hoi hSw (ih _ _ _ hs' hc' hlen' (fun _ _ _ => hSw) (by rw [hrem']; exact hrest))
      | false =>
        have h2 := tr_push hO hoi hri hsel hpair fuel _ a w him hrd h
        refine wpOp_outO hO hQ (wpOp_mono ?_ h2)
        rintro a' w' ⟨hn, hk⟩
        refine ih _ _ _ hs' hc' hlen' ?_ (by rw [hrem']; exact hk)
        intro r hr hrr
        rw [hrem'] at hr
        have hrm := List.mem_of_mem_erase hr
        exact hn (hnd i hilt hri r (mem_remOf.1 hrm).1 hrr (rdy_waits hrd hrm))
theorem wp_region_tO (hO : Dull O) (hQ : ∀ e a w, O e a w → Q e a w) {id : Nat} {a : Act} {w : World} {l : List Oper} (S : World → Prop) (f : List Nat) (n : Nat) (rem : List Nat) (hm : P.follows .mixedOrders = true) (hok : trOK l.toArray (robOf f) (needOf f) = true)
    (hl : List.range l.toArray.size = rem) (hn : rem.length = n) (hS : S w.drew) (h : wpTr P O l.toArray S (robOf f) (needOf f) (Q .normal) n rem a w.drew) : (Code.region id l.toArray true).wp P Q a w := by
  refine wp_region_any hm ?_
  have hrem : remOf l.toArray (Array.replicate l.toArray.size false) = List.range l.toArray.size := by
    unfold remOf
    refine List.filter_eq_self.2 fun i hi => ?_
    have := List.mem_range.1 hi
    simp at this
    simp [this]
  refine wpAny_of_tr hO hQ hok l.toArray.size (Array.replicate l.toArray.size false) a _ (by simp) ?_ (by rw [hrem]; simp) (fun _ _ _ => hS) ?_
  · intro i hi
    rw [getD_replicate_f] at hi
    cases hi
  · rw [hrem, hl]
    have : l.toArray.size = n := by rw [← hn, ← hl]; simp
    rw [this]; exact h
theorem wp_region_tr {id : Nat} {a : Act} {w : World} {l : List Oper} (S : World → Prop) (f : List Nat) (n : Nat) (rem : List Nat) (hm : P.follows .mixedOrders = true) (hok : trOK l.toArray (robOf f) (needOf f) = true)
    (hl : List.range l.toArray.size = rem) (hn : rem.length = n) (hS : S w.drew) (h : wpTr P NoOut l.toArray S (robOf f) (needOf f) (Q .normal) n rem a w.drew) : (Code.region id l.toArray true).wp P Q a w :=
  wp_region_tO dull_no (fun _ _ _ h => h.elim) S f n rem hm hok hl hn hS h
theorem put_defers (a : Act) (d : Option Nat) (v : Value) : (a.put d v).defers = a.defers := by cases d <;> rfl
variable {D : List Deferred} {a : Act} {w : World} {N : Nat} {l : List (Nat × Value)} {o : Oper} {v : Value} {post : Value → World → Prop} {d i c n : Nat} {rem rem' : List Nat} {f : List Nat}
theorem R_rd (i : Nat) (rem' : List Nat) (hc : (rem.elem i && robOf f i && rdy ops rem i && rem.erase i == rem') = true) (ho : ops[i]? = some o) (K : Kd D a N l) (hw : Region.wanted o (yielded ops a.tmps) = true) (hd : o.dst = some d) (hN : Nat.blt d N = true) (hr : Rd P S a o v)
    (k : ∀ a', Kd D a' N ((d, v) :: l) → wpTr P O ops S (robOf f) (needOf f) R n rem' a' w) : wpTr P O ops S (robOf f) (needOf f) R (n + 1) rem a w := by
  simp only [Bool.and_eq_true, beq_iff_eq, List.elem_iff] at hc
  obtain ⟨⟨⟨h1, h2⟩, h3⟩, rfl⟩ := hc
  refine .inl ⟨i, h1, h2, h3, o, ho, v, .inl ⟨hw, hr⟩, ?_⟩
  have := K.put (d := o.dst) (by rw [hd]; exact hN) v
  rw [hd] at this ⊢
  exact k _ this
def AllC (p : Nat → Prop) : List Nat → Prop
  | [] => True
  | c :: cs => p c ∧ AllC p cs
theorem allC_mem {p : Nat → Prop} : ∀ {cs : List Nat}, AllC p cs → ∀ c ∈ cs, p c
  | [], _, c, h => by cases h
  | d :: cs, h, c, hc => by
    rcases List.mem_cons.1 hc with rfl | hc
    · exact h.1
    · exact allC_mem h.2 c hc
/-- One of several comes first. -/
theorem R_br (cs : List Nat) (hc : ((rem.all fun i => !robOf f i || !rdy ops rem i) && (rem.filter fun c => !robOf f c && rdy ops rem c) == cs) = true)
    (h : AllC (fun c => wpOp P ops O c (fun a' w' => (needOf f c = true → S w') ∧ wpTr P O ops S (robOf f) (needOf f) R n (rem.erase c) a' w') a w) cs) : wpTr P O ops S (robOf f) (needOf f) R (n + 1) rem a w := by
  simp only [Bool.and_eq_true, beq_iff_eq] at hc
  obtain ⟨h1, rfl⟩ := hc
  refine .inr ⟨fun i hi hr => ?_, fun c hcm hr hrd => allC_mem h c (List.mem_filter.2 ⟨hcm, by simp [hr, hrd]⟩)⟩
  have := List.all_eq_true.1 h1 i hi
  simpa [hr] using this
theorem R_ac (rem' : List Nat) (hc : (rem.erase c == rem') = true) (ho : ops[c]? = some o) (K : Kd D a N l) (hw : Region.wanted o (yielded ops a.tmps) = true) (hd : o.dst = some d) (hN : Nat.blt d N = true) (h : Ac P o a w post)
    (k : ∀ v a' w', post v w' → Kd D a' N ((d, v) :: l) → (needOf f c = true → S w') ∧ wpTr P O ops S (robOf f) (needOf f) R n rem' a' w') : wpOp P ops O c (fun a' w' => (needOf f c = true → S w') ∧ wpTr P O ops S (robOf f) (needOf f) R n (rem.erase c) a' w') a w := by
  obtain rfl : rem.erase c = rem' := by simpa using hc
  unfold wpOp
  simp only [ho, hw, if_true]
  refine .inl (h _ _ fun v w' hp => ?_)
  have := K.put (d := o.dst) (by rw [hd]; exact hN) v
  rw [hd] at this ⊢
  exact k v _ w' hp this
theorem R_a0 (rem' : List Nat) (hc : (rem.erase c == rem') = true) (ho : ops[c]? = some o) (K : Kd D a N l) (hw : Region.wanted o (yielded ops a.tmps) = true) (hd : o.dst = none) (h : Ac P o a w post)
    (k : ∀ v a' w', post v w' → Kd D a' N l → (needOf f c = true → S w') ∧ wpTr P O ops S (robOf f) (needOf f) R n rem' a' w') : wpOp P ops O c (fun a' w' => (needOf f c = true → S w') ∧ wpTr P O ops S (robOf f) (needOf f) R n (rem.erase c) a' w') a w := by
  obtain rfl : rem.erase c = rem' := by simpa using hc
  unfold wpOp
  simp only [ho, hw, if_true]
  refine .inl (h _ _ fun v w' hp => ?_)
  rw [hd]
  exact k v _ w' hp K
theorem R_end (h : R a w) : wpTr P O ops S (robOf f) (needOf f) R 0 [] a w := ⟨rfl, h⟩
end
end Go.Proofs.YtpmnfhifmmfglacDoor

namespace Go.Proofs.YtpmnfhifmmfglacDoor
open Go.RowKit
section
variable {P : Program} {S : World → Prop} {base : Nat} {W w : World} {L : List Ent} {D : List Deferred} {a : Act} {N : Nat} {l : List (Nat × Value)} {o : Oper} {v v' : Value} {x y ix : Operand} {k : IntKind} {m n : Int} {t e t' : TypeId} {g off : Nat} {cs : List Value} {α : Type} {C : Cod α} {xs ys zs : List α} {A B : Option Addr} {c c' : Nat}
/-- A loop of which the rounds are walked one by one. -/
theorem X_rounds {p : Code} {Q : Exit → Act → World → Prop} {w : World} (n : Nat) (h : Code.rounds P p Q n a w) : (Code.loop p).wp P Q a w := wp_loop_rounds n h
theorem X_round {p : Code} {Q : Exit → Act → World → Prop} {w : World} {n : Nat} (h : p.wp P (Exit.then (Code.rounds P p Q n) Q) a w) : Code.rounds P p Q (n + 1) a w := h
end
end Go.Proofs.YtpmnfhifmmfglacDoor
