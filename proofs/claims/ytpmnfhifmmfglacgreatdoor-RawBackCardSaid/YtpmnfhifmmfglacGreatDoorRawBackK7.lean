/- Texts of the claim RawBack, joined and made small by a program. -/
import Derived.Test.YtpmnfhifmmfglacGreatDoorRawBackK5
import Derived.Test.YtpmnfhifmmfglacGreatDoorRawBackK6
set_option linter.unusedVariables false
set_option linter.unusedSimpArgs false
set_option linter.unusedSectionVars false
set_option maxRecDepth 100000
set_option maxHeartbeats 8000000
namespace Go.Proofs.YtpmnfhifmmfglacGreatDoor
section
open Go
section
variable {ns : List Nat} (hn : ∀ n ∈ ns, n ≤ 15) (hl : ns.length ≤ 17)
include hn hl in
theorem WQ (N : Nat) (hN : 100 ≤ N) {size : Nat} (hs : 1 ≤ size ∧ size ≤ 15) (kk : List (List UInt8) × Int × Int × Int → Option (List (List UInt8))) (r) : ∀ (j k fuel : Nat) (out : List (List UInt8)) (S nx la : Nat), k + j = ns.length → j < fuel → out.length = ns.length → la ≤ size → S = nx * 2 ^ (15 - la) → S + tot ns ((List.range' k j).filter fun i => decide (ky ns i = size)) ≤ 32768 →
  (∀ nx' la' : Nat, la' ≤ size → ∀ i' : Int, (((List.range' k j).filter fun i => decide (ky ns i = size)).foldl (NK ns) (out, S)).2 = nx' * 2 ^ (15 - la') → kk ((((List.range' k j).filter fun i => decide (ky ns i = size)).foldl (NK ns) (out, S)).1, (nx' : Int), (la' : Int), i') = r) →
  jR N (mW ns) (size : Int) kk fuel (out, (nx : Int), (la : Int), (k : Int)) = r := by
 intro j
 induction j with
 | zero =>
  intro k fuel out S nx la hk hf hout hla hS hT hkk;obtain ⟨fuel, rfl⟩ : ∃ m, fuel = m + 1 := ⟨fuel - 1, by omega⟩
  unfold jR;rw [cF (dF (by rw [hF]; omega))];exact hkk nx la hla _ hS
 | succ j ih =>
  intro k fuel out S nx la hk hf hout hla hS hT hkk;obtain ⟨fuel, rfl⟩ : ∃ m, fuel = m + 1 := ⟨fuel - 1, by omega⟩
  have hlt : k < ns.length := by omega
  have hnx : IntKind.i64.wrap ((k : Int) + 1) = ((k + 1 : Nat) : Int) := by rw [gE (by omega)]; rfl
  unfold jR;rw [cT (dT (by rw [hF]; omega)), Hj hlt, aD];rw [List.range'_succ, List.filter_cons] at hT hkk
  by_cases h : ky ns k = size
  ·rw [if_pos (dT h)] at hT hkk;rw [rZ, h] at hT;rw [List.foldl_cons] at hkk;have hp0 := Nat.two_pow_pos (15 - size);have hpw : 2 ^ (15 - la) = 2 ^ (size - la) * 2 ^ (15 - size) := by rw [← Nat.pow_add]; congr 1; omega
   have hdiv : S / 2 ^ (15 - size) = nx * 2 ^ (size - la) := by
    rw [hS, hpw, ← Nat.mul_assoc, Nat.mul_div_cancel _ hp0]
   have hle : nx * 2 ^ (size - la) ≤ 32768 := by rw [← hdiv]; exact Nat.le_trans (Nat.div_le_self _ _) (by omega)
   have hsub : IntKind.i64.wrap ((size : Int) - (la : Int)) = ((size - la : Nat) : Int) := by rw [gE (by omega)]; omega
   have hio : ∃ e, idx out (k : Int) = some e := by rw [eX]; exact ⟨_, List.getElem?_eq_getElem (by omega)⟩
   obtain ⟨e, he⟩ := hio;have hset : ∀ v, v6 out (k : Int) v = some (out.set k v) := fun v => by rw [DD (by omega), Int.toNat_natCast]
   rw [cF (by rw [dT (by omega)]; rfl), hsub, rY, aD, uW (by omega) (by omega), aD, number_eq hN (by omega) (by omega), aD, he, aD, hset, aD, gE (x := ((nx * 2 ^ (size - la) : Nat) : Int) + 1) (by omega), aD, hnx, aD];have hw : PR S size = wF (lZ 2 size (nx * 2 ^ (size - la))) := by unfold PR; rw [hdiv]
   have hst : NK ns (out, S) k = (out.set k (wF (lZ 2 size (nx * 2 ^ (size - la)))), S + 2 ^ (15 - size)) := by unfold NK; rw [h, hw]
   rw [hst] at hkk;refine ih (k + 1) fuel _ (S + 2 ^ (15 - size)) (nx * 2 ^ (size - la) + 1) size (by omega) (by omega) (by rw [List.length_set]; exact hout) (Nat.le_refl _) ?_ (by omega) hkk;rw [Nat.add_mul, Nat.one_mul, hS, hpw, Nat.mul_assoc]
  ·rw [if_neg (by rw [dF h]; simp)] at hT hkk;rw [cT (by rw [dF (by omega)]; rfl), hnx, aD];exact ih (k + 1) fuel out S nx la (by omega) (by omega) hout hla hS hT hkk
include hn hl in
theorem WR (N : Nat) (hN : 100 ≤ N) (kk : List (List UInt8) × Int × Int × Int → Option (List (List UInt8))) (r) : ∀ (j s fuel : Nat) (out : List (List UInt8)) (S nx la : Nat), s + j = 16 → 1 ≤ s → j < fuel → out.length = ns.length → la < s → S = nx * 2 ^ (15 - la) → S + tot ns ((List.range' s j).flatMap fun s => (List.range' 0 ns.length).filter fun i => decide (ky ns i = s)) ≤ 32768 →
  (∀ a b c, kk ((((List.range' s j).flatMap fun s => (List.range' 0 ns.length).filter fun i => decide (ky ns i = s)).foldl (NK ns) (out, S)).1, a, b, c) = r) →
  k8 N (mW ns) kk fuel (out, (nx : Int), (la : Int), (s : Int)) = r := by
 intro j
 induction j with
 | zero =>
  intro s fuel out S nx la hk h1 hf hout hla hS hT hkk;obtain ⟨fuel, rfl⟩ : ∃ m, fuel = m + 1 := ⟨fuel - 1, by omega⟩
  unfold k8;rw [cF (dF (by omega))];exact hkk _ _ _
 | succ j ih =>
  intro s fuel out S nx la hk h1 hf hout hla hS hT hkk;obtain ⟨fuel, rfl⟩ : ∃ m, fuel = m + 1 := ⟨fuel - 1, by omega⟩
  unfold k8;rw [cT (dT (by omega))];rw [List.range'_succ, List.flatMap_cons] at hT hkk;rw [yN] at hT;refine WQ hn hl N hN (size := s) (by omega) _ r ns.length 0 N out S nx la (by omega) (by omega) hout (by omega) hS (by omega) fun nx' la' aD2 i' hS' => ?_
  dsimp only
  rw [gE (x := (s : Int) + 1) (by omega), aD, show (s : Int) + 1 = ((s + 1 : Nat) : Int) by rfl];have h2 := JV ns ((List.range' 0 ns.length).filter fun i => decide (ky ns i = s)) (out, S);have h3 := DH ns ((List.range' 0 ns.length).filter fun i => decide (ky ns i = s)) (out, S);refine ih (s + 1) fuel _ _ nx' la' (by omega) (by omega) (by omega) (h3.trans hout) (by omega) (h2.symm.trans hS') (by show S + _ + _ ≤ _; omega) fun a b c => ?_
  have := hkk a b c;rw [List.foldl_append] at this;rw [← this]
  congr 3
  rw [← h2]
include hn hl in
theorem O6 (N : Nat) (hN : 100 ≤ N) (hK : tot ns (ups ns 0 ns.length) ≤ 32768) : mC N (mW ns) = some (u9 ns) := by
 unfold mC;rw [hF, aD, mk_eq (by omega), aD, Int.toNat_natCast]
 have ht : tot ns (vJ (ky ns) (List.range' 0 ns.length)) ≤ 32768 := by
  rw [← JY, JX]
  ·exact hK
  ·intro x hx;exact ⟨(GC hx).2.2, FX hn x⟩
 exact WR hn hl N hN _ _ 15 1 N (List.replicate ns.length []) 0 0 0 (by omega) (by omega) (by omega) (by simp) (by omega) (by omega) (by rw [Nat.zero_add]; exact ht) (fun a b c => rfl)
include hn hl in
theorem O7 (N : Nat) (hN : 100 ≤ N) (hK : tot ns (ups ns 0 ns.length) ≤ 32768) (hP : 0 < tot ns (ups ns 0 ns.length)) (hc : jK (mW ns) = 0) : p6 N (mW ns) = some (u9 ns, 0) := by
 unfold p6;have Zp : ∀ x ∈ ups ns 0 ns.length, 1 ≤ ky ns x ∧ ky ns x ≤ 15 := fun x hx => ⟨(GC hx).2.2, FX hn x⟩
 have hlen : (ups ns 0 ns.length).length ≤ 17 := by
  unfold ups;refine Nat.le_trans (List.length_filter_le _ _) ?_;rw [List.length_range']; exact hl
 have hmem : ∀ i ∈ ups ns 0 ns.length, i < ns.length := fun i hi => by have := (GC hi).2.1; omega
 rw [B7 N hN, hc, aD, cF (by decide)]
 have h1 := Rf (ns := ns) hl N (fun (l6, i2) =>
  cond (decide (20 ≤ (l6.length : Int))) none (
  Option.bind (some (IntKind.i64.wrap (0 + 1))) fun i3 =>
  lN N (mW ns) (fun (FW, b2, i7) =>
  Option.bind (Bw l6 FW) fun _ =>
  cond (decide (20 < (FW.length : Int))) none (
  Option.bind (Bw l6 FW) fun _ =>
  Option.bind (Bw l6 FW) fun _ =>
  Option.bind (some (((mW ns).length : Int))) fun x2 =>
  Option.bind (mk 16 x2 (([] : List UInt8) : List UInt8)) fun X9 =>
  mQ N (mW ns) FW (fun (Uz, FV, i11) =>
  some (Uz, 0)) N (X9, 0, 0))) N (l6, (l6.length : Int), i3))) ns.length 0 N [] (by omega) (by omega) (by simp)
 refine Eq.trans h1 ?_;rw [List.nil_append]
 dsimp only
 rw [show (List.range' 0 ns.length).filter (pos ns) = ups ns 0 ns.length from rfl, cF (dF (by rw [hF]; omega)), show IntKind.i64.wrap (0 + 1) = ((1 : Nat) : Int) by decide, aD, show ((mW (ups ns 0 ns.length)).length : Int) = ((ups ns 0 ns.length).length : Int) by rw [hF]];have hsrt := TI (ky ns) (ups ns 0 ns.length) Zp;have hsl := NO (ky ns) (ups ns 0 ns.length)
 have hfin : ∀ b j : Int, (fun (x : List Int × Int × Int) => (match x with
  | (FW, b2, i7) => Option.bind (Bw (mW (ups ns 0 ns.length)) FW) fun _ =>
  cond (decide (20 < (FW.length : Int))) none (
  Option.bind (Bw (mW (ups ns 0 ns.length)) FW) fun _ =>
  Option.bind (Bw (mW (ups ns 0 ns.length)) FW) fun _ =>
  Option.bind (some (((mW ns).length : Int))) fun x2 =>
  Option.bind (mk 16 x2 (([] : List UInt8) : List UInt8)) fun X9 =>
  mQ N (mW ns) FW (fun (Uz, FV, i11) =>
  some (Uz, (0 : Int))) N (X9, 0, 0)) : Option (List (List UInt8) × Int))) (mW (JW (ky ns) (ups ns 0 ns.length)), b, j) = some (u9 ns, 0) := by
  intro b j
  have hsame : Bw (mW (ups ns 0 ns.length)) (mW (JW (ky ns) (ups ns 0 ns.length))) = some () := by
   unfold Bw;rw [if_pos (by rw [hF, hF, hsl])]
  dsimp only
  rw [hsame, aD, cF (dF (by rw [hF, hsl]; omega)), aD, aD, hF, aD, mk_eq (by omega), aD, Int.toNat_natCast, hsrt];have ht : tot ns (vJ (ky ns) (ups ns 0 ns.length)) ≤ 32768 := by rw [JX _ Zp]; exact hK
  have hom : ∀ i ∈ vJ (ky ns) (ups ns 0 ns.length), i < ns.length := fun i hi => by
   obtain ⟨s, _, h⟩ := List.mem_flatMap.1 hi;exact hmem i (List.mem_filter.1 h).1
  have hol : (vJ (ky ns) (ups ns 0 ns.length)).length ≤ 17 := by rw [← hsrt, hsl]; exact hlen
  have h4 := Re hn hl N hN (vJ (ky ns) (ups ns 0 ns.length)) hom hol (fun (Uz, FV, i11) => some (Uz, (0 : Int))) (vJ (ky ns) (ups ns 0 ns.length)).length 0 N (List.replicate ns.length []) 0 (by omega) (by omega) (by simp) (by rw [List.drop_zero, Nat.zero_add]; exact ht);refine Eq.trans h4 ?_;rw [List.drop_zero, JY]
  rfl
 by_cases h0 : (ups ns 0 ns.length).length = 0
 ·rw [List.eq_nil_of_length_eq_zero h0, NL] at hP
  omega
 ·have h2 := fun kk hk => Rh (ns := ns) N hN kk (some (u9 ns, 0)) hmem hlen hk ((ups ns 0 ns.length).length - 1) 1 N (by omega) (by omega)
  have htk : JW (ky ns) ((ups ns 0 ns.length).take 1) ++ (ups ns 0 ns.length).drop 1 = ups ns 0 ns.length := by
   rcases hu : ups ns 0 ns.length with _ | ⟨x, u⟩
   ·rw [hu] at h0; exact absurd rfl h0
   ·rfl
  simp only [htk] at h2;refine h2 _ ?_;exact hfin
end
theorem wY {l : List Int} (h : jK l = 0) : ∃ ns : List Nat, l = mW ns ∧ (∀ n ∈ ns, n ≤ 15) ∧ 1 ≤ ns.length ∧ ns.length ≤ 17 ∧ tot ns (ups ns 0 ns.length) ≤ 32768 ∧ 0 < tot ns (ups ns 0 ns.length) := by
 unfold jK at h
 split at h
 ·cases h
 rename_i h1
 split at h
 rotate_left
 ·cases h
 rename_i h2
 split at h
 ·cases h
 rename_i h3
 have hall : ∀ e ∈ l, 0 ≤ e ∧ e ≤ 15 := fun e he => of_decide_eq_true (List.all_eq_true.1 h2 e he)
 have he : mW (l.map Int.toNat) = l := IY fun e h => (hall e h).1
 have hs := Rj (ns := l.map Int.toNat) (l.map Int.toNat).length 0 (by omega);rw [he, List.drop_zero] at hs;refine ⟨l.map Int.toNat, he.symm, ?_, by simp; omega, by simp; omega, by omega, by omega⟩;intro n hn;obtain ⟨e, h, rfl⟩ := List.mem_map.1 hn;have := hall e h
 omega
def wordsOf (l : List Int) : List (List UInt8) := if jK l = 0 then u9 (l.map Int.toNat) else []
theorem Hk (N : Nat) (hN : 100 ≤ N) (l : List Int) : p6 N l = some (wordsOf l, jK l) := by
 unfold wordsOf
 by_cases h : jK l = 0
 ·obtain ⟨ns, rfl, h1, h2, h3, h4, h5⟩ := wY h;rw [if_pos h, O7 h1 h3 N hN h4 h5 h, BA, h]
 ·rw [if_neg h];unfold p6;rw [B7 N hN, aD, cT (by rw [dF h]; rfl)]
theorem FY (N : Nat) (hN : 100 ≤ N) {l : List Int} (h : jK l = 0) : mC N l = some (wordsOf l) := by
 unfold wordsOf;obtain ⟨ns, rfl, h1, h2, h3, h4, h5⟩ := wY h;rw [if_pos h, O6 h1 h3 N hN h4, BA]
theorem sD {l : List Int} (h : jK l = 0) : (wordsOf l).length = l.length := by
 unfold wordsOf u9;rw [if_pos h, DH, List.length_replicate, List.length_map]
section
variable {ns : List Nat}
theorem Ek {i : Nat} : ∀ (o : List Nat) (st : List (List UInt8) × Nat), i ∉ o → (o.foldl (NK ns) st).1[i]? = st.1[i]?
 | [], _, _ => rfl
 | k :: o, st, h => by
  simp only [List.mem_cons, not_or] at h;rw [List.foldl_cons, Ek o _ h.2];show (st.1.set k _)[i]? = _;rw [List.getElem?_set_ne (fun e => h.1 e.symm)]
theorem fold_at {i : Nat} (A B : List Nat) (st : List (List UInt8) × Nat) (hB : i ∉ B) (hi : i < st.1.length) : ((A ++ i :: B).foldl (NK ns) st).1[i]? = some (PR (st.2 + tot ns A) (ky ns i)) := by
 rw [List.foldl_append, List.foldl_cons, Ek B _ hB];show ((A.foldl (NK ns) st).1.set i _)[i]? = _;rw [List.getElem?_set_self (by rw [DH]; exact hi), JV]
theorem Rk {f : Nat → Nat} {o : List Nat} {i : Nat} : i ∈ vJ f o ↔ i ∈ o ∧ 1 ≤ f i ∧ f i ≤ 15 := by
 unfold vJ;rw [List.mem_flatMap]
 constructor
 ·rintro ⟨s, hs, h⟩;have h1 := List.mem_range'_1.1 hs;have h2 := List.mem_filter.1 h;have h3 := of_decide_eq_true h2.2;exact ⟨h2.1, by omega, by omega⟩
 ·rintro ⟨h1, h2, h3⟩;exact ⟨f i, List.mem_range'_1.2 ⟨h2, by omega⟩, List.mem_filter.2 ⟨h1, dT rfl⟩⟩
theorem O8 (f : Nat → Nat) {o : List Nat} (ho : o.Pairwise (· < ·)) : (vJ f o).Pairwise (fun a b => f a ≤ f b ∧ a ≠ b) := by
 unfold vJ
 have : ∀ (j s : Nat), ((List.range' s j).flatMap fun s => o.filter fun i => decide (f i = s)).Pairwise (fun a b => f a ≤ f b ∧ a ≠ b) := by
  intro j
  induction j with
  | zero => intro s; exact List.Pairwise.nil
  | succ j ih =>
   intro s;rw [List.range'_succ, List.flatMap_cons, List.pairwise_append];refine ⟨?_, ih (s + 1), ?_⟩
   ·refine List.Pairwise.imp_of_mem ?_ (ho.filter _);intro a b ha hb hab;have h1 := of_decide_eq_true (List.mem_filter.1 ha).2;have h2 := of_decide_eq_true (List.mem_filter.1 hb).2;exact ⟨by omega, by omega⟩
   ·intro a ha b hb;have h1 := of_decide_eq_true (List.mem_filter.1 ha).2;obtain ⟨q, hq, hb⟩ := List.mem_flatMap.1 hb;have h3 := List.mem_range'_1.1 hq;have h2 := of_decide_eq_true (List.mem_filter.1 hb).2;exact ⟨by omega, fun e => by subst e; omega⟩
 exact this 15 1
def ord (ns : List Nat) : List Nat := vJ (ky ns) (List.range' 0 ns.length)
theorem Lu (ns : List Nat) : (ord ns).Pairwise (fun a b => ky ns a ≤ ky ns b ∧ a ≠ b) := O8 _ List.pairwise_lt_range'
theorem GE {i : Nat} (hn : ∀ n ∈ ns, n ≤ 15) : i ∈ ord ns ↔ i < ns.length ∧ 1 ≤ ky ns i := by
 unfold ord;rw [Rk, List.mem_range'_1];have := FX hn i
 omega
theorem FM {i : Nat} (hn : ∀ n ∈ ns, n ≤ 15) (hi : i < ns.length) (h : ky ns i = 0) : (u9 ns)[i]? = some [] := by
 unfold u9;rw [Ek _ _ (fun hm => by have := ((GE hn).1 hm).2; omega)]
 simp [hi]
theorem ET {i : Nat} {A B : List Nat} (h : ord ns = A ++ i :: B) (hi : i < ns.length) : (u9 ns)[i]? = some (PR (tot ns A) (ky ns i)) := by
 have hp := Lu ns;rw [h, List.pairwise_append] at hp;have hB : i ∉ B := fun hm => ((List.pairwise_cons.1 hp.2.1).1 i hm).2 rfl
 unfold u9;have h' : vJ (ky ns) (List.range' 0 ns.length) = A ++ i :: B := h;rw [h', fold_at A B _ hB (by simpa using hi), Nat.zero_add]
theorem DI (S n : Nat) : (PR S n).length = n := by unfold PR; rw [mM, iP]
theorem JZ {n : Nat} : ∀ {A : List Nat}, (∀ a ∈ A, ky ns a ≤ n) → n ≤ 15 → 2 ^ (15 - n) ∣ tot ns A
 | [], _, _ => Nat.dvd_zero _
 | a :: A, h, hn => by
  rw [rZ];refine Nat.dvd_add (Nat.pow_dvd_pow 2 ?_) (JZ (fun b hb => h b (by simp [hb])) hn);have := h a (by simp)
  omega
theorem TJ {l m : List Nat} (hl : ∀ y ∈ l, y < 2) (hm : ∀ y ∈ m, y < 2) (h : wF l = wF m) : l = m := by
 have e : ∀ l : List Nat, (∀ y ∈ l, y < 2) → (wF l).map (fun c => c.toNat - 48) = l := fun l hl => by
  unfold wF;rw [List.map_map]
  conv => rhs; rw [← List.map_id l]
  refine List.map_congr_left fun y hy => ?_
  have := hl y hy
  rcases (show y = 0 ∨ y = 1 by omega) with rfl | rfl <;> rfl
 rw [← e l hl, h, e m hm]
theorem Rl {S n m : Nat} (hmn : m ≤ n) (hn : n ≤ 15) : (PR S n).take m = wF (lZ 2 m (S / 2 ^ (15 - m))) := by
 unfold PR;rw [show n = m + (n - m) by omega, sM, ER, List.take_append_of_le_length (by rw [mM, iP]; exact Nat.le_refl _), List.take_of_length_le (by rw [mM, iP]; exact Nat.le_refl _), Nat.div_div_eq_div_mul, ← Nat.pow_add]
 congr 4
 omega
theorem NP {S T n m : Nat} (hmn : m ≤ n) (hn : n ≤ 15) (hS : S < 32768) (hT : T < 32768) (h : (PR S m) <+: (PR T n)) : S / 2 ^ (15 - m) = T / 2 ^ (15 - m) := by
 have e := List.prefix_iff_eq_take.1 h;rw [DI, Rl hmn hn] at e;have h2 := TJ (xT (by decide) _ _) (xT (by decide) _ _) e;have h3 := congrArg (num 2) h2;rw [yL, yL] at h3
 have lt : ∀ X, X < 32768 → X / 2 ^ (15 - m) < 2 ^ m := fun X hX => by
  refine Nat.div_lt_of_lt_mul ?_;rw [← Nat.pow_add, show 15 - m + m = 15 by omega];exact hX
 rwa [Nat.mod_eq_of_lt (lt S hS), Nat.mod_eq_of_lt (lt T hT)] at h3
theorem I2 {α : Type} {x y : α} : ∀ {l : List α}, x ∈ l → y ∈ l → x ≠ y → (∃ A B C, l = A ++ x :: (B ++ y :: C)) ∨ ∃ A B C, l = A ++ y :: (B ++ x :: C)
 | [], h, _, _ => by cases h
 | z :: l, hx, hy, hne => by
  rcases List.mem_cons.1 hx with rfl | hx'
  ·rcases List.mem_cons.1 hy with rfl | hy'
   ·exact absurd rfl hne
   ·obtain ⟨B, C, rfl⟩ := List.append_of_mem hy';exact .inl ⟨[], B, C, rfl⟩
  ·rcases List.mem_cons.1 hy with rfl | hy'
   ·obtain ⟨B, C, rfl⟩ := List.append_of_mem hx';exact .inr ⟨[], B, C, rfl⟩
   ·rcases I2 hx' hy' hne with ⟨A, B, C, rfl⟩ | ⟨A, B, C, rfl⟩
    ·exact .inl ⟨z :: A, B, C, rfl⟩
    ·exact .inr ⟨z :: A, B, C, rfl⟩
theorem Rm (hn : ∀ n ∈ ns, n ≤ 15) (hK : tot ns (ups ns 0 ns.length) ≤ 32768) {i j : Nat} {u v : List UInt8} (hij : i ≠ j) (hu : (u9 ns)[i]? = some u) (hv : (u9 ns)[j]? = some v) (h0 : u ≠ []) : ¬ (u <+: v) := by
 intro hp;have hlen : (u9 ns).length = ns.length := by unfold u9; rw [DH, List.length_replicate]
 have hi : i < ns.length := by rw [← hlen]; exact (List.getElem?_eq_some_iff.1 hu).1
 have hj : j < ns.length := by rw [← hlen]; exact (List.getElem?_eq_some_iff.1 hv).1
 have hT : tot ns (ord ns) ≤ 32768 := by
  unfold ord;rw [← JY, JX _ fun x hx => ⟨(GC hx).2.2, FX hn x⟩]; exact hK
 have hki : 1 ≤ ky ns i := by
  rcases Nat.eq_zero_or_pos (ky ns i) with h | h
  ·rw [FM hn hi h] at hu; cases hu; exact absurd rfl h0
  ·exact h
 have hkj : 1 ≤ ky ns j := by
  rcases Nat.eq_zero_or_pos (ky ns j) with h | h
  ·rw [FM hn hj h] at hv; cases hv;exact absurd (List.prefix_nil.1 hp) h0
  ·exact h
 have aDb := FX hn i;have WS := FX hn j;have hpi := Nat.two_pow_pos (15 - ky ns i);have hpj := Nat.two_pow_pos (15 - ky ns j);have wC := Lu ns
 rcases I2 ((GE hn).2 ⟨hi, hki⟩) ((GE hn).2 ⟨hj, hkj⟩) hij with ⟨A, B, C, h⟩ | ⟨A, B, C, h⟩
 ·
  have w1 := ET h hi;have w2 := ET (A := A ++ i :: B) (B := C) (by rw [h]; simp) hj;rw [hu] at w1; rw [hv] at w2;cases w1; cases w2;have hle := hp.length_le;rw [DI, DI] at hle;rw [h, yN, rZ, yN, rZ] at hT;rw [yN, rZ] at hp;have e := NP hle WS (by omega) (by omega) hp;rw [h, List.pairwise_append] at wC;have hd : 2 ^ (15 - ky ns i) ∣ tot ns A := JZ (fun a ha => (wC.2.2 a ha i (by simp)).1) aDb;obtain ⟨q, hq⟩ := hd;rw [hq, Nat.mul_div_cancel_left _ hpi, show 2 ^ (15 - ky ns i) * q + (2 ^ (15 - ky ns i) + tot ns B) = 2 ^ (15 - ky ns i) * (q + 1) + tot ns B by rw [Nat.mul_add]; omega, Nat.mul_add_div hpi] at e
  generalize tot ns B / 2 ^ (15 - ky ns i) = z at e
  omega
 ·
  have w1 := ET (A := A ++ j :: B) (B := C) (by rw [h]; simp) hi;have w2 := ET h hj;rw [hu] at w1; rw [hv] at w2;cases w1; cases w2;have hle := hp.length_le;rw [DI, DI] at hle;rw [h, List.pairwise_append] at wC;have hle2 : ky ns j ≤ ky ns i := ((List.pairwise_cons.1 wC.2.1).1 i (by simp)).1;have hkk : ky ns i = ky ns j := by omega
  rw [h, yN, rZ, yN, rZ] at hT;rw [yN, rZ] at hp;have e := NP hle WS (by omega) (by omega) hp;have hd : 2 ^ (15 - ky ns j) ∣ tot ns A := JZ (fun a ha => (wC.2.2 a ha j (by simp)).1) WS;obtain ⟨q, hq⟩ := hd;rw [hkk, hq, Nat.mul_div_cancel_left _ hpj, show 2 ^ (15 - ky ns j) * q + (2 ^ (15 - ky ns j) + tot ns B) = 2 ^ (15 - ky ns j) * (q + 1) + tot ns B by rw [Nat.mul_add]; omega, Nat.mul_add_div hpj] at e
  generalize tot ns B / 2 ^ (15 - ky ns j) = z at e
  omega
end
def PF (W : List (List UInt8)) : Prop := ∀ (i j : Nat) (u v : List UInt8), i ≠ j → W[i]? = some u → W[j]? = some v → u ≠ [] → ¬ (u <+: v)
def El (W : List (List UInt8)) : Prop := ∀ w ∈ W, wO w = true ∧ w.length ≤ 15
theorem J0 {l : List Nat} (h : ∀ y ∈ l, y < 2) : wO (wF l) = true := by
 unfold wO wF;rw [List.all_map, List.all_eq_true];intro y hy;have := h y hy
 rcases (show y = 0 ∨ y = 1 by omega) with rfl | rfl <;> rfl
theorem Em (l : List Int) : PF (wordsOf l) := by
 intro i j u v hij hu hv h0;unfold wordsOf at hu hv
 by_cases h : jK l = 0
 ·obtain ⟨ns, rfl, h1, h2, h3, h4, h5⟩ := wY h;rw [if_pos h, BA] at hu hv;exact Rm h1 h4 hij hu hv h0
 ·rw [if_neg h] at hu; simp at hu
theorem hG (l : List Int) : El (wordsOf l) := by
 intro w hw;unfold wordsOf at hw
 by_cases h : jK l = 0
 ·obtain ⟨ns, rfl, h1, h2, h3, h4, h5⟩ := wY h;rw [if_pos h, BA] at hw;obtain ⟨i, hi⟩ := List.mem_iff_getElem?.1 hw;have hlen : (u9 ns).length = ns.length := by unfold u9; rw [DH, List.length_replicate]
  have hi' : i < ns.length := by rw [← hlen]; exact (List.getElem?_eq_some_iff.1 hi).1
  rcases Nat.eq_zero_or_pos (ky ns i) with h0 | h0
  ·rw [FM h1 hi' h0] at hi; cases hi; exact ⟨rfl, by simp⟩
  ·obtain ⟨A, B, hAB⟩ := List.append_of_mem ((GE h1).2 ⟨hi', h0⟩);rw [ET hAB hi'] at hi;cases hi;refine ⟨J0 (xT (by decide) _ _), ?_⟩;rw [DI]; exact FX h1 i
 ·rw [if_neg h] at hw; cases hw
theorem wZ {α : Type} {xs : List α} {k : Nat} (h : k ≤ xs.length) : Bv xs 0 (k : Int) = some (xs.take k) := by
 rw [Bm (by omega), Int.toNat_natCast]; rfl
theorem BB {α : Type} {xs : List α} {k : Nat} (h : k ≤ xs.length) : Bv xs (k : Int) (xs.length : Int) = some (xs.drop k) := by
 rw [Bm (by omega), Int.toNat_natCast, Int.toNat_natCast, List.take_length]
theorem C6 {m : List (List UInt8 × Int)} {s : List UInt8} (h : s.length ≤ 140737488355328) : GS m s = some ((qH m s).getD 0, (qH m s).isSome) := by unfold GS; rw [if_pos h]
theorem NQ {m : List (List UInt8 × Int)} {s : List UInt8} {v : Int} (h : m.length < 1099511627776 ∧ s.length ≤ 140737488355328 ∧ -9223372036854775808 ≤ v ∧ v ≤ 9223372036854775807) : Mt m s v = some ((s, v) :: m) := by unfold Mt; rw [if_pos h]
theorem DJ (k s : List UInt8) (v : Int) (m : List (List UInt8 × Int)) : qH ((k, v) :: m) s = if k = s then some v else qH m s := rfl
structure BK (V : List (List UInt8)) (m : List (List UInt8 × Int)) : Prop where
 wd : ∀ (i : Nat) (s : List UInt8), V[i]? = some s → s ≠ [] → qH m s = some (i : Int)
 pr : ∀ (s w : List UInt8), w ∈ V → s <+: w → s ≠ w → qH m s = some (-1)
 no : ∀ (s : List UInt8), (∀ w ∈ V, w ≠ [] → ¬ s <+: w) → qH m s = none
theorem PF.sub {V : List (List UInt8)} {w : List UInt8} (h : PF (V ++ [w])) : PF V := fun i j u v hij hu hv h0 =>
 h i j u v hij (by rw [List.getElem?_append_left (List.getElem?_eq_some_iff.1 hu).1]; exact hu) (by rw [List.getElem?_append_left (List.getElem?_eq_some_iff.1 hv).1]; exact hv) h0
theorem PF.last {V : List (List UInt8)} {w u : List UInt8} (h : PF (V ++ [w])) (hu : u ∈ V) : (u ≠ [] → ¬ u <+: w) ∧ (w ≠ [] → ¬ w <+: u) := by
 obtain ⟨i, hi⟩ := List.mem_iff_getElem?.1 hu;have hlt := (List.getElem?_eq_some_iff.1 hi).1;have h1 : (V ++ [w])[i]? = some u := by rw [List.getElem?_append_left hlt]; exact hi
 have h2 : (V ++ [w])[V.length]? = some w := by simp
 exact ⟨h i V.length u w (by omega) h1 h2, h V.length i w u (by omega) h2 h1⟩
theorem BK.step {V : List (List UInt8)} {w : List UInt8} {m m2 : List (List UInt8 × Int)} (B : BK V m) (hp : PF (V ++ [w])) (hw : w ≠ [])
  (h1 : ∀ s, s <+: w → s ≠ w → qH m s = none → qH m2 s = some (-1)) (h2 : ∀ s, ¬ (s <+: w ∧ s ≠ w ∧ qH m s = none) → qH m2 s = qH m s) : BK (V ++ [w]) ((w, (V.length : Int)) :: m2) := by
 have pre : ∀ s, s <+: w → s ≠ w → qH m2 s = some (-1) := fun s h3 h4 => by
  rcases hm : qH m s with _ | x
  ·exact h1 s h3 h4 hm
  ·rw [h2 s (fun h => by rw [h.2.2] at hm; cases hm), hm]
   by_cases hex : ∃ u ∈ V, u ≠ [] ∧ s <+: u
   ·obtain ⟨u, hu, hu0, hsu⟩ := hex
    by_cases e : s = u
    ·subst e; exact absurd h3 ((hp.last hu).1 hu0)
    ·rw [← hm]; exact B.pr s u hu hsu e
   ·rw [B.no s fun u hu hu0 hsu => hex ⟨u, hu, hu0, hsu⟩] at hm; cases hm
 refine ⟨fun i s hi h0 => ?_, fun s u hu h3 h4 => ?_, fun s h => ?_⟩
 ·rw [DJ]
  by_cases hlt : i < V.length
  ·rw [List.getElem?_append_left hlt] at hi;have hmem := List.mem_of_getElem? hi;rw [if_neg (fun e => by subst e; exact (hp.last hmem).1 h0 (List.prefix_refl _)), h2 s (fun h => (hp.last hmem).1 h0 h.1)];exact B.wd i s hi h0
  ·have hl := (List.getElem?_eq_some_iff.1 hi).1
   simp at hl
   obtain rfl : i = V.length := by omega
   simp at hi
   rw [if_pos hi]
 ·rw [DJ]
  rcases List.mem_append.1 hu with hu | hu
  ·rw [if_neg (fun e => by subst e; exact (hp.last hu).2 hw h3)];have := B.pr s u hu h3 h4;rw [h2 s (fun h => by rw [h.2.2] at this; cases this)];exact this
  ·obtain rfl : u = w := by simpa using hu
   rw [if_neg (fun e => h4 e.symm)];exact pre s h3 h4
 ·rw [DJ];have hsw := h w (by simp) hw;rw [if_neg (fun e => hsw (by subst e; exact List.prefix_refl _)), h2 s (fun h => hsw h.1)];exact B.no s fun u hu hu0 => h u (by simp [hu]) hu0
theorem BK.nil {V : List (List UInt8)} {m : List (List UInt8 × Int)} (B : BK V m) : BK (V ++ [[]]) m := by
 refine ⟨fun i s hi h0 => ?_, fun s u hu h3 h4 => ?_, fun s h => ?_⟩
 ·by_cases hlt : i < V.length
  ·rw [List.getElem?_append_left hlt] at hi; exact B.wd i s hi h0
  ·have hl := (List.getElem?_eq_some_iff.1 hi).1
   simp at hl
   obtain rfl : i = V.length := by omega
   simp at hi
   exact absurd hi h0
 ·rcases List.mem_append.1 hu with hu | hu
  ·exact B.pr s u hu h3 h4
  ·obtain rfl : u = [] := by simpa using hu
   exact absurd (List.prefix_nil.1 h3) h4
 ·exact B.no s fun u hu hu0 => h u (by simp [hu]) hu0
theorem TK (N : Nat) {w : List UInt8} (hw : w.length ≤ 15) (m0 : List (List UInt8 × Int)) (kk : List (List UInt8 × Int) × Int → Option (List Int × List UInt8 × Int)) (r) (T : Nat) (hT : T ≤ 1000)
  (hk : ∀ m2 i, m2.length ≤ T + w.length → (∀ s, s <+: w → s ≠ w → qH m0 s = none → qH m2 s = some (-1)) → (∀ s, ¬ (s <+: w ∧ s ≠ w ∧ qH m0 s = none) → qH m2 s = qH m0 s) → kk (m2, i) = r) :
  ∀ (j k fuel : Nat) (m : List (List UInt8 × Int)), k + j = w.length → j < fuel → m.length ≤ T + k → (∀ s, qH m s = if (∃ q, q < k ∧ s = w.take q) ∧ qH m0 s = none then some (-1) else qH m0 s) →
  pC N w kk fuel (m, (k : Int)) = r := by
 intro j
 induction j with
 | zero =>
  intro k fuel m hkj hf hml hm;obtain ⟨fuel, rfl⟩ : ∃ q, fuel = q + 1 := ⟨fuel - 1, by omega⟩
  unfold pC;rw [cF (dF (by omega))];refine hk m _ (by omega) (fun s h1 h2 h3 => ?_) (fun s h => ?_)
  ·rw [hm, if_pos];refine ⟨⟨s.length, ?_, (List.prefix_iff_eq_take.1 h1)⟩, h3⟩;have hle := h1.length_le
   rcases Nat.lt_or_ge s.length w.length with h | h
   ·omega
   ·exact absurd (h1.eq_of_length (by omega)) h2
  ·rw [hm, if_neg];rintro ⟨⟨q, hq, rfl⟩, h3⟩;refine h ⟨List.take_prefix _ _, fun e => ?_, h3⟩;have := congrArg List.length e;rw [List.length_take] at this
   omega
 | succ j ih =>
  intro k fuel m hkj hf hml hm;obtain ⟨fuel, rfl⟩ : ∃ q, fuel = q + 1 := ⟨fuel - 1, by omega⟩
  have hnx : IntKind.i64.wrap ((k : Int) + 1) = ((k + 1 : Nat) : Int) := by rw [gE (by omega)]; rfl
  have hlt : (w.take k).length = k := by rw [List.length_take]; omega
  have inj : ∀ q, q < k → w.take k ≠ w.take q := fun q hq e => by
   have := congrArg List.length e;rw [hlt, List.length_take] at this
   omega
  have hsame : qH m (w.take k) = qH m0 (w.take k) := by
   rw [hm, if_neg];rintro ⟨⟨q, hq, e⟩, _⟩;exact inj q hq e
  unfold pC;rw [cT (dT (by omega)), wZ (by omega), aD, C6 (by omega), aD, hsame]
  rcases h0 : qH m0 (w.take k) with _ | x
  ·rw [cT (by rfl), aD, NQ (by omega), aD, hnx];refine ih (k + 1) fuel _ (by omega) (by omega) (by simp; omega) fun s => ?_
   rw [DJ, hm]
   by_cases e : w.take k = s
   ·subst e;rw [if_pos rfl, if_pos ⟨⟨k, by omega, rfl⟩, h0⟩]
   ·rw [if_neg e]
    have : (∃ q, q < k + 1 ∧ s = w.take q) ↔ ∃ q, q < k ∧ s = w.take q := by
     constructor
     ·rintro ⟨q, hq, rfl⟩
      rcases Nat.lt_or_ge q k with h | h
      ·exact ⟨q, h, rfl⟩
      ·obtain rfl : q = k := by omega
       exact absurd rfl e
     ·rintro ⟨q, hq, rfl⟩; exact ⟨q, by omega, rfl⟩
    simp only [this]
  ·rw [cF (by rfl), hnx];refine ih (k + 1) fuel m (by omega) (by omega) (by omega) fun s => ?_
   rw [hm]
   have : ((∃ q, q < k + 1 ∧ s = w.take q) ∧ qH m0 s = none) ↔ (∃ q, q < k ∧ s = w.take q) ∧ qH m0 s = none := by
    constructor
    ·rintro ⟨⟨q, hq, rfl⟩, h3⟩
     rcases Nat.lt_or_ge q k with h | h
     ·exact ⟨⟨q, h, rfl⟩, h3⟩
     ·obtain rfl : q = k := by omega
      rw [h0] at h3; cases h3
    ·rintro ⟨⟨q, hq, rfl⟩, h3⟩; exact ⟨⟨q, by omega, rfl⟩, h3⟩
   simp only [this]
theorem TM (N : Nat) (hN : 100 ≤ N) {W : List (List UInt8)} (hW : W.length ≤ 17) (hb : El W) (hp : PF W) (e : Int) (kk : List (List UInt8 × Int) × Int → Option (List Int × List UInt8 × Int)) (r) (hk : ∀ m i, BK W m → kk (m, i) = r) :
  ∀ (j k fuel : Nat) (m : List (List UInt8 × Int)), k + j = W.length → j < fuel → m.length ≤ 16 * k → BK (W.take k) m → pD N (W, e) kk fuel (m, (k : Int)) = r := by
 intro j
 induction j with
 | zero =>
  intro k fuel m hkj hf hml B;obtain ⟨fuel, rfl⟩ : ∃ q, fuel = q + 1 := ⟨fuel - 1, by omega⟩
  unfold pD;rw [cF (dF (by show ¬ ((k : Int) < (W.length : Int)); omega))];rw [List.take_of_length_le (by omega)] at B;exact hk _ _ B
 | succ j ih =>
  intro k fuel m hkj hf hml B;obtain ⟨fuel, rfl⟩ : ∃ q, fuel = q + 1 := ⟨fuel - 1, by omega⟩
  have hlt : k < W.length := by omega
  have hnx : IntKind.i64.wrap ((k : Int) + 1) = ((k + 1 : Nat) : Int) := by rw [gE (by omega)]; rfl
  have hw := hb _ (List.getElem_mem hlt);have htk : W.take (k + 1) = W.take k ++ [W[k]] := by rw [List.take_add_one, List.getElem?_eq_getElem hlt]; rfl
  have hpk : PF (W.take k ++ [W[k]]) := by
   rw [← htk];intro i j' u v hij hu hv h0;rw [List.getElem?_take] at hu hv
   split at hu
   ·split at hv
    ·exact hp i j' u v hij hu hv h0
    ·cases hv
   ·cases hu
  have hkl : (W.take k).length = k := by rw [List.length_take]; omega
  unfold pD;rw [cT (dT (by show (k : Int) < (W.length : Int); omega)), eX];show Option.bind W[k]? _ = _;rw [List.getElem?_eq_getElem hlt, aD];refine TK N hw.2 m _ r (16 * k) (by omega) (fun m2 i hm2 h1 h2 => ?_) W[k].length 0 N m (by omega) (by omega) (by omega) (fun s => by rw [if_neg]; rintro ⟨⟨q, hq, _⟩, _⟩; omega)
  dsimp only
  by_cases h0 : W[k] = []
  ·rw [cF (by rw [dT h0]; rfl), hnx];refine ih (k + 1) fuel m2 (by omega) (by omega) (by have := hw.2; omega) ?_;rw [htk, h0];have B2 := B.nil;have same : ∀ s, qH m2 s = qH m s := fun s => h2 s fun h => by rw [h0] at h; exact h.2.1 (List.prefix_nil.1 h.1)
   exact ⟨fun i s a b => by rw [same]; exact B2.wd i s a b, fun s w a b c => by rw [same]; exact B2.pr s w a b c, fun s a => by rw [same]; exact B2.no s a⟩
  ·rw [cT (by rw [dF h0]; rfl), NQ (by have := hw.2; omega), aD, hnx];refine ih (k + 1) fuel _ (by omega) (by omega) (by have := hw.2; simp; omega) ?_;rw [htk];have := B.step hpk h0 h1 h2;rw [hkl] at this;exact this
def UZ (b w : List UInt8) : Bool := !w.isEmpty && w.isPrefixOf b
def J1 (W : List (List UInt8)) (b : List UInt8) : Option Nat := W.findIdx? (UZ b)
def KN (W : List (List UInt8)) (b : List UInt8) : Int := if W.any (fun w => !w.isEmpty && b.isPrefixOf w) = true then 5 else 4
def O9 (W : List (List UInt8)) : Nat → List Int → List UInt8 → List Int × List UInt8 × Int
 | 0, out, b => (out, b, 0)
 | n + 1, out, b => match J1 W b with
  | some i => O9 W n (out ++ [(i : Int)]) (b.drop (W.getD i []).length)
  | none => ([], [], KN W b)
theorem GF {b w : List UInt8} : UZ b w = true ↔ w ≠ [] ∧ w <+: b := by
 unfold UZ;rw [Bool.and_eq_true, List.isPrefixOf_iff_prefix]
 cases w <;> simp
theorem BC {W : List (List UInt8)} {b : List UInt8} {i : Nat} (h : J1 W b = some i) : ∃ u, W[i]? = some u ∧ u ≠ [] ∧ u <+: b := by
 obtain ⟨hi, h1, _⟩ := List.findIdx?_eq_some_iff_getElem.1 h;obtain ⟨h2, h3⟩ := GF.1 h1;exact ⟨_, List.getElem?_eq_getElem hi, h2, h3⟩
theorem Hl {W : List (List UInt8)} {b : List UInt8} (h : J1 W b = none) : ∀ w ∈ W, w ≠ [] → ¬ w <+: b := fun w hw h0 hp => by
 have := List.findIdx?_eq_none_iff.1 h w hw;rw [GF.2 ⟨h0, hp⟩] at this;cases this
theorem Rn {W : List (List UInt8)} (hp : PF W) {b u : List UInt8} {i : Nat} (hi : W[i]? = some u) (h0 : u ≠ []) (hb : u <+: b) : J1 W b = some i := by
 rcases h : J1 W b with _ | j
 ·exact absurd hb (Hl h u (List.mem_of_getElem? hi) h0)
 ·obtain ⟨v, hv, hv0, hvb⟩ := BC h
  by_cases e : j = i
  ·rw [e]
  ·exfalso
   rcases Nat.le_total u.length v.length with hl | hl
   ·exact hp i j u v (fun q => e q.symm) hi hv h0 (List.prefix_of_prefix_length_le hb hvb hl)
   ·exact hp j i v u e hv hi hv0 (List.prefix_of_prefix_length_le hvb hb hl)
section
variable {W : List (List UInt8)} {m : List (List UInt8 × Int)} (hb : El W) (B : BK W m) {b : List UInt8} (hbl : b.length ≤ 16777216)
  (kk : Int × Int → Option (List Int × List UInt8 × Int))
include B hbl in
theorem Ro (N : Nat) {u : List UInt8} {i : Nat} (hi : W[i]? = some u) (h0 : u ≠ []) (hu : u <+: b) : ∀ (j k fuel : Nat), k + j = u.length → j + 1 < fuel → j1 N m b kk fuel ((k : Int), -1) = kk ((u.length : Int), (i : Int)) := by
 intro j;have hle := hu.length_le;have hut := List.prefix_iff_eq_take.1 hu
 induction j with
 | zero =>
  intro k fuel hkj hf;obtain ⟨fuel, rfl⟩ : ∃ q, fuel = q + 2 := ⟨fuel - 2, by omega⟩
  obtain rfl : k = u.length := by omega
  unfold j1;rw [cT (by decide), wZ (by omega), aD, C6 (by rw [List.length_take]; omega), aD, ← hut, B.wd i u hi h0, cF (by rfl), cT (by exact dT (Int.natCast_nonneg _))];show j1 N m b kk (fuel + 1) ((u.length : Int), (i : Int)) = _;unfold j1;rw [cF (dF (by omega))]
 | succ j ih =>
  intro k fuel hkj hf;obtain ⟨fuel, rfl⟩ : ∃ q, fuel = q + 1 := ⟨fuel - 1, by omega⟩
  have hnx : IntKind.i64.wrap ((k : Int) + 1) = ((k + 1 : Nat) : Int) := by rw [gE (by omega)]; rfl
  have hpr : qH m (b.take k) = some (-1) := by
   have e : b.take k = u.take k := by rw [hut, List.take_take, Nat.min_eq_left (by omega)]
   rw [e];refine B.pr _ u (List.mem_of_getElem? hi) (List.take_prefix _ _) fun e => ?_
   have := congrArg List.length e;rw [List.length_take] at this
   omega
  unfold j1;rw [cT (by decide), wZ (by omega), aD, C6 (by rw [List.length_take]; omega), aD, hpr, cF (by rfl), cF (by rfl), cF (dF (by omega)), hnx, aD];exact ih (k + 1) fuel (by omega) (by omega)
include hb B hbl in
theorem Pa (N : Nat) (hno : ∀ w ∈ W, w ≠ [] → ¬ w <+: b) : ∀ (j k fuel : Nat), k + j = 16 → k ≤ b.length → j < fuel → j1 N m b kk fuel ((k : Int), -1) = some ([], [], KN W b) := by
 intro j
 induction j with
 | zero =>
  intro k fuel hkj hkb hf;obtain ⟨fuel, rfl⟩ : ∃ q, fuel = q + 1 := ⟨fuel - 1, by omega⟩
  have Rq : ∀ w ∈ W, w ≠ [] → ¬ (b.take k) <+: w := fun w hw _ h => by
   have h1 := h.length_le;have := (hb w hw).2;rw [List.length_take] at h1
   omega
  unfold j1;rw [cT (by decide), wZ (by omega), aD, C6 (by rw [List.length_take]; omega), aD, B.no _ Rq, cT (by rfl)];unfold KN;rw [if_neg];rw [List.any_eq_true];rintro ⟨w, hw, h⟩;have h2 := GF (b := w) (w := b);simp only [Bool.and_eq_true, List.isPrefixOf_iff_prefix] at h;have h1 := h.2.length_le;have := (hb w hw).2
  omega
 | succ j ih =>
  intro k fuel hkj hkb hf;obtain ⟨fuel, rfl⟩ : ∃ q, fuel = q + 1 := ⟨fuel - 1, by omega⟩
  have hnx : IntKind.i64.wrap ((k : Int) + 1) = ((k + 1 : Nat) : Int) := by rw [gE (by omega)]; rfl
  unfold j1;rw [cT (by decide), wZ hkb, aD, C6 (by rw [List.length_take]; omega), aD]
  by_cases hex : ∃ w ∈ W, w ≠ [] ∧ (b.take k) <+: w
  ·obtain ⟨w, hw, hw0, hwp⟩ := hex;have hne : b.take k ≠ w := fun e => hno w hw hw0 (by rw [← e]; exact List.take_prefix _ _)
   rw [B.pr _ w hw hwp hne, cF (by rfl), cF (by rfl)]
   by_cases he : k = b.length
   ·rw [cT (dT (by omega))];unfold KN;rw [if_pos];rw [List.any_eq_true];refine ⟨w, hw, ?_⟩;rw [he, List.take_length] at hwp;rw [Bool.and_eq_true, List.isPrefixOf_iff_prefix];exact ⟨by cases w; exact absurd rfl hw0; rfl, hwp⟩
   ·rw [cF (dF (by omega)), hnx, aD];exact ih (k + 1) fuel (by omega) (by omega) (by omega)
  ·rw [B.no _ (fun w hw hw0 hwp => hex ⟨w, hw, hw0, hwp⟩), cT (by rfl)];unfold KN;rw [if_neg];rw [List.any_eq_true];rintro ⟨w, hw, h⟩;simp only [Bool.and_eq_true, List.isPrefixOf_iff_prefix] at h;refine hex ⟨w, hw, ?_, (List.take_prefix _ _).trans h.2⟩;intro e; rw [e] at h; simp at h
end
theorem TN (N : Nat) (hN : 5000 ≤ N) {W : List (List UInt8)} {m : List (List UInt8 × Int)} (hb : El W) (B : BK W m) {p : Nat} (hp : p ≤ 4096) : ∀ (n fuel : Nat) (out : List Int) (b : List UInt8), out.length + n = p → n < fuel → b.length ≤ 16777216 →
  nQ N (p : Int) m (fun (l6, o3) => some (l6, o3, 0)) fuel (out, b) = some (O9 W n out b) := by
 intro n
 induction n with
 | zero =>
  intro fuel out b ho hf hbl;obtain ⟨fuel, rfl⟩ : ∃ q, fuel = q + 1 := ⟨fuel - 1, by omega⟩
  unfold nQ;rw [cF (dF (by omega))]; rfl
 | succ n ih =>
  intro fuel out b ho hf hbl;obtain ⟨fuel, rfl⟩ : ∃ q, fuel = q + 1 := ⟨fuel - 1, by omega⟩
  unfold nQ;rw [cT (dT (by omega))]
  rcases h : J1 W b with _ | i
  ·have := Pa hb B hbl (fun (i12, JG) => Option.bind (app 8 out ([JG] : List Int)) fun l5 => Option.bind (Bv b i12 (b.length : Int)) fun s13 => nQ N (p : Int) m (fun (l6, o3) => some (l6, o3, 0)) fuel (l5, s13)) N (Hl h) 16 0 N (by omega) (by omega) (by omega);refine Eq.trans this ?_;unfold O9;rw [h]
  ·obtain ⟨u, hu, hu0, hub⟩ := BC h;have aD3 := (hb u (List.mem_of_getElem? hu)).2;have := Ro B hbl (fun (i12, JG) => Option.bind (app 8 out ([JG] : List Int)) fun l5 => Option.bind (Bv b i12 (b.length : Int)) fun s13 => nQ N (p : Int) m (fun (l6, o3) => some (l6, o3, 0)) fuel (l5, s13)) N hu hu0 hub u.length 0 N (by omega) (by omega);refine Eq.trans this ?_
   dsimp only
   rw [iO (by simp; omega), aD, BB hub.length_le, aD, ih fuel _ _ (by simp; omega) (by omega) (by rw [List.length_drop]; omega)]
   conv => rhs; unfold O9
   rw [h]
   dsimp only
   rw [List.getD_eq_getElem?_getD, hu]; rfl
def NR (l : List Int) (b : List UInt8) (n : Int) : List Int × List UInt8 × Int :=
 if jK l ≠ 0 then ([], [], jK l) else if n < 0 ∨ 4096 < n then ([], [], 3) else if wO b = true then O9 (wordsOf l) n.toNat [] b else ([], [], 1)
theorem I3 (N : Nat) (l : List Int) (b : List UInt8) (n : Int) (hb : b.length ≤ 16777216) (hN : 5000 ≤ N ∧ b.length < N) : uE N l b n = some (NR l b n) := by
 unfold uE NR;rw [Hk N (by omega), aD]
 by_cases h : jK l = 0
 ·rw [cF (by rw [show (wordsOf l, jK l).2 = 0 from h]; rfl), if_neg (by simpa using h)]
  by_cases h1 : n < 0
  ·rw [cT (dT h1), if_pos (.inl h1)]
  rw [cF (dF h1)]
  by_cases h2 : 4096 < n
  ·rw [cT (dT h2), if_pos (.inr h2)]
  rw [cF (dF h2), if_neg (by omega), Hh N hb hN.2, aD]
  by_cases h3 : wO b = true
  ·rw [if_pos h3, if_pos h3, cF (by rfl)]
   have aDc : (wordsOf l).length ≤ 17 := by
    rw [sD h];obtain ⟨ns, rfl, _, _, Lv, _⟩ := wY h;rw [hF]; exact Lv
   obtain ⟨q, rfl⟩ := Int.eq_ofNat_of_zero_le (show 0 ≤ n by omega);refine TM N (by omega) aDc (hG l) (Em l) (jK l) _ _ (fun m i B => ?_) (wordsOf l).length 0 N [] (by omega) (by omega) (by simp) ⟨fun i s h => by simp at h, fun s w h => by simp at h, fun s _ => rfl⟩;exact TN N hN.1 (hG l) B (by omega) q N [] b (by simp) (by omega) hb
  ·rw [if_neg h3, if_neg h3, cT (by rfl)]
 ·rw [cT (by rw [show (wordsOf l, jK l).2 = jK l from rfl, dF h]; rfl), if_pos h]
theorem I4 (N : Nat) (s w : List UInt8) (hs : s.length ≤ 16777216) : pK N s w = some (w.isPrefixOf s) := by
 unfold pK;have e : w.isPrefixOf s = decide (w <+: s) := by rw [Bool.eq_iff_iff, List.isPrefixOf_iff_prefix, decide_eq_true_iff]
 rw [e]
 by_cases h : w.length ≤ s.length
 ·rw [cT (dT (by omega)), wZ h, aD]
  congr 1
  rw [decide_eq_decide]
  constructor
  ·intro q; rw [← q]; exact List.take_prefix _ _
  ·intro q; exact (List.prefix_iff_eq_take.1 q).symm
 ·rw [cF (dF (by omega)), dF (fun q => h q.length_le)]
theorem Rr (N : Nat) {W : List (List UInt8)} (hW : W.length ≤ 1000) (hb : El W) {b : List UInt8} (hbl : b.length ≤ 16777216) : ∀ (j k fuel : Nat) (short : Bool), k + j = W.length → j < fuel →
  jH N W b (fun (MC, i8) => cond (MC) (some (0, 5)) (some (0, 4))) fuel (short, (k : Int)) =
   some (match (W.drop k).findIdx? (UZ b) with | some i => (((k + i : Nat) : Int), 0) | none => if (short || (W.drop k).any fun w => !w.isEmpty && b.isPrefixOf w) = true then (0, 5) else (0, 4)) := by
 intro j
 induction j with
 | zero =>
  intro k fuel short hk hf;obtain ⟨fuel, rfl⟩ : ∃ q, fuel = q + 1 := ⟨fuel - 1, by omega⟩
  obtain rfl : k = W.length := by omega
  unfold jH;rw [cF (dF (by omega)), List.drop_length]
  cases short <;> rfl
 | succ j ih =>
  intro k fuel short hk hf;obtain ⟨fuel, rfl⟩ : ∃ q, fuel = q + 1 := ⟨fuel - 1, by omega⟩
  have hlt : k < W.length := by omega
  have hnx : IntKind.i64.wrap ((k : Int) + 1) = ((k + 1 : Nat) : Int) := by rw [gE (by omega)]; rfl
  have hw := (hb _ (List.getElem_mem hlt)).2
  have hsh : ∀ (o : Option Nat) (s1 s2 : Bool), s1 = s2 → (match o.map (· + 1) with | some i => (((k + i : Nat) : Int), (0 : Int)) | none => if s1 = true then (0, 5) else (0, 4)) = (match o with | some i => (((k + 1 + i : Nat) : Int), 0) | none => if s2 = true then (0, 5) else (0, 4)) := by
   intro o s1 s2 hs;subst hs;cases o with
   | none => rfl
   | some i => show (((k + (i + 1) : Nat) : Int), (0 : Int)) = (((k + 1 + i : Nat) : Int), 0); rw [show k + (i + 1) = k + 1 + i by omega]
  unfold jH;rw [cT (dT (by omega)), eX, List.getElem?_eq_getElem hlt, aD, List.drop_eq_getElem_cons hlt, List.findIdx?_cons, List.any_cons]
  generalize W[k] = w at hw ⊢
  by_cases h0 : w = []
  ·subst h0;rw [cT (dT rfl), hnx, aD, ih (k + 1) fuel short (by omega) (by omega), show UZ b [] = false from rfl];rw [if_neg Bool.false_ne_true];exact congrArg some (hsh _ _ _ rfl).symm
  ·have he : (!w.isEmpty) = true := by cases hc : w; exact absurd hc h0; rfl
   have hi : UZ b w = w.isPrefixOf b := by unfold UZ; rw [he, Bool.true_and]
   rw [cF (dF h0), aD, I4 N b w hbl, aD, hi, he, Bool.true_and]
   by_cases h1 : w.isPrefixOf b = true
   ·rw [cT h1, if_pos h1]; rfl
   ·rw [cF ((Bool.not_eq_true _).mp h1), if_neg h1];cases short with
    | true =>
     rw [cT rfl, hnx, aD, ih (k + 1) fuel true (by omega) (by omega)];exact congrArg some (hsh _ _ _ rfl).symm
    | false =>
     rw [cF rfl, aD, I4 N w b (by omega), aD, hnx, aD, ih (k + 1) fuel _ (by omega) (by omega)];exact congrArg some (hsh _ _ _ rfl).symm
theorem front_eq (N : Nat) (hN : 1001 ≤ N) {W : List (List UInt8)} (hW : W.length ≤ 1000) (hb : El W) {b : List UInt8} (hbl : b.length ≤ 16777216) : uI N W b = some (match J1 W b with | some i => ((i : Int), 0) | none => (0, KN W b)) := by
 unfold uI;have key := Rr N hW hb hbl W.length 0 N false (by omega) (by omega);rw [List.drop_zero] at key;refine Eq.trans key ?_;unfold J1 KN
 congr 1
 cases h : List.findIdx? (UZ b) W with
 | some i => simp
 | none =>
  dsimp only
  rw [Bool.false_or]
  split <;> rfl
theorem FN (W : List (List UInt8)) (b : List UInt8) : KN W b ≠ 0 := by unfold KN; split <;> decide
theorem sO (a b : List UInt8) : wO (a ++ b) = (wO a && wO b) := by unfold wO; rw [List.all_append]
theorem Rs (N : Nat) (l : List Int) (hl : l.length < N) (h2 : l.length ≤ 1000000) : kH N l l = some true := by
 unfold kH;rw [cF (by simp)];exact Q5 N l _ (by omega) l.length 0 N (by omega) hl
def U0 (e : Int) : Bool := decide (0 ≤ e ∧ e ≤ 65535)
def I5 (W H : Int) (P : List Int) : Bool := decide (v8 W H P.length) && P.all U0
theorem Ru (N : Nat) {P : List Int} (hP : P.length ≤ 4096) (kk) : ∀ (j k fuel : Nat), k + j = P.length → j < fuel → rF N P kk fuel (k : Int) = if (P.drop k).all U0 = true then kk (P.length : Int) else some false := by
 intro j
 induction j with
 | zero =>
  intro k fuel hk hf;obtain ⟨fuel, rfl⟩ : ∃ q, fuel = q + 1 := ⟨fuel - 1, by omega⟩
  obtain rfl : k = P.length := by omega
  unfold rF;rw [cF (dF (by omega)), List.drop_length, if_pos (by rfl)]
 | succ j ih =>
  intro k fuel hk hf;obtain ⟨fuel, rfl⟩ : ∃ q, fuel = q + 1 := ⟨fuel - 1, by omega⟩
  have hlt : k < P.length := by omega
  have hnx : IntKind.i64.wrap ((k : Int) + 1) = ((k + 1 : Nat) : Int) := by rw [gE (by omega)]; rfl
  unfold rF;rw [cT (dT (by omega)), eX, List.getElem?_eq_getElem hlt, aD, List.drop_eq_getElem_cons hlt, List.all_cons]
  by_cases h1 : P[k] < 0
  ·rw [cT (dT h1), if_neg];rw [show U0 P[k] = false from dF (by omega)]; simp
  rw [cF (dF h1)]
  by_cases h2 : 65535 < P[k]
  ·rw [cT (dT h2), if_neg];rw [show U0 P[k] = false from dF (by omega)]; simp
  rw [cF (dF h2), hnx, ih (k + 1) fuel (by omega) (by omega), show U0 P[k] = true from dT (by omega), Bool.true_and]
theorem Rv (N : Nat) {P : List Int} (hP : P.length ≤ 4096) (kk) : ∀ (j k fuel : Nat), k + j = P.length → j < fuel → gF N P kk fuel (k : Int) = if (P.drop k).all U0 = true then kk (P.length : Int) else some false := by
 intro j
 induction j with
 | zero =>
  intro k fuel hk hf;obtain ⟨fuel, rfl⟩ : ∃ q, fuel = q + 1 := ⟨fuel - 1, by omega⟩
  obtain rfl : k = P.length := by omega
  unfold gF;rw [cF (dF (by omega)), List.drop_length, if_pos (by rfl)]
 | succ j ih =>
  intro k fuel hk hf;obtain ⟨fuel, rfl⟩ : ∃ q, fuel = q + 1 := ⟨fuel - 1, by omega⟩
  have hlt : k < P.length := by omega
  have hnx : IntKind.i64.wrap ((k : Int) + 1) = ((k + 1 : Nat) : Int) := by rw [gE (by omega)]; rfl
  unfold gF;rw [cT (dT (by omega)), eX, List.getElem?_eq_getElem hlt, aD, sN, aD, List.drop_eq_getElem_cons hlt, List.all_cons]
  by_cases h1 : 0 ≤ P[k] ∧ P[k] ≤ 65535
  ·rw [cF (by rw [dT h1]; rfl), hnx, aD, ih (k + 1) fuel (by omega) (by omega), show U0 P[k] = true from dT h1, Bool.true_and]
  ·rw [cT (by rw [dF h1]; rfl), if_neg];rw [show U0 P[k] = false from dF h1]; simp
theorem C7 {W H : Int} {P : List Int} (h : ¬ v8 W H P.length) : I5 W H P = false := by unfold I5; rw [dF h]; rfl
theorem Rw (N : Nat) (hN : 5000 ≤ N) (W H : Int) (P : List Int) : yV N W H P = some (I5 W H P) := by
 unfold yV
 by_cases h1 : W < 1
 ·rw [cT (dT h1), C7 (fun h => by unfold v8 at h; omega)]
 rw [cF (dF h1)]
 by_cases h2 : 64 < W
 ·rw [cT (dT h2), C7 (fun h => by unfold v8 at h; omega)]
 rw [cF (dF h2)]
 by_cases h3 : H < 1
 ·rw [cT (dT h3), C7 (fun h => by unfold v8 at h; omega)]
 rw [cF (dF h3)]
 by_cases h4 : 64 < H
 ·rw [cT (dT h4), C7 (fun h => by unfold v8 at h; omega)]
 have hb := MF (W := W) (H := H) (by omega);rw [cF (dF h4), gE (by omega)]
 by_cases h5 : (P.length : Int) = W * H
 rotate_left
 ·rw [cT (by rw [dF h5]; rfl), C7 (fun h => by unfold v8 at h; exact h5 h.2.2.2.2)]
 have hs : v8 W H P.length := ⟨by omega, by omega, by omega, by omega, h5⟩
 rw [cF (by rw [dT h5]; rfl)];have key := Ru N (P := P) (by omega) (fun _ => some true) P.length 0 N (by omega) (by omega);refine Eq.trans key ?_;unfold I5;rw [dT hs, Bool.true_and, List.drop_zero]
 split
 ·rename_i h; rw [h]
 ·rename_i h; rw [(Bool.not_eq_true _).mp h]
theorem Lw (N : Nat) (hN : 5000 ≤ N) (W H : Int) (P : List Int) : lK N W H P = some (I5 W H P) := by
 unfold lK;rw [sN, aD]
 by_cases h1 : 1 ≤ W ∧ W ≤ 64
 rotate_left
 ·rw [cT (by rw [dF h1]; rfl), C7 (fun h => by unfold v8 at h; omega)]
 rw [cF (by rw [dT h1]; rfl), sN, aD]
 by_cases h3 : 1 ≤ H ∧ H ≤ 64
 rotate_left
 ·rw [cT (by rw [dF h3]; rfl), C7 (fun h => by unfold v8 at h; omega)]
 have hb := MF (W := W) (H := H) (by omega);rw [cF (by rw [dT h3]; rfl), gE (by omega)]
 by_cases h5 : (P.length : Int) = W * H
 rotate_left
 ·rw [cT (by rw [dF h5]; rfl), C7 (fun h => by unfold v8 at h; exact h5 h.2.2.2.2)]
 have hs : v8 W H P.length := ⟨by omega, by omega, by omega, by omega, h5⟩
 rw [cF (by rw [dT h5]; rfl)];have key := Rv N (P := P) (by omega) (fun _ => some true) P.length 0 N (by omega) (by omega);refine Eq.trans key ?_;unfold I5;rw [dT hs, Bool.true_and, List.drop_zero]
 split
 ·rename_i h; rw [h]
 ·rename_i h; rw [(Bool.not_eq_true _).mp h]
def WT (kind a b c : Int) : Int := if kind = 1 then a else if kind = 2 then b else if kind = 3 then c else if kind = 4 then a + b - c else if kind = 5 then a + (b - c) / 2 else if kind = 6 then b + (a - c) / 2 else (a + b) / 2
def gs (W : Nat) (P : List Int) (kind : Int) (i : Nat) : Int := if i = 0 then 32768 else if i / W = 0 then P.getD (i - 1) 0 else if i % W = 0 then P.getD (i - W) 0 else WT kind (P.getD (i - 1) 0) (P.getD (i - W) 0) (P.getD (i - W - 1) 0)
theorem WU {kind a b c : Int} (ha : 0 ≤ a ∧ a ≤ 65535) (hb : 0 ≤ b ∧ b ≤ 65535) (hc : 0 ≤ c ∧ c ≤ 65535) : -65535 ≤ WT kind a b c ∧ WT kind a b c ≤ 131070 := by
 unfold WT
 repeat' split
 all_goals omega
section
variable {P : List Int} (hP : ∀ e ∈ P, 0 ≤ e ∧ e ≤ 65535)
include hP in
theorem C8 {j : Nat} (h : j < P.length) : idx P (j : Int) = some (P.getD j 0) ∧ 0 ≤ P.getD j 0 ∧ P.getD j 0 ≤ 65535 := by
 have e : P.getD j 0 = P[j] := by rw [List.getD_eq_getElem?_getD, List.getElem?_eq_getElem h]; rfl
 rw [e, eX, List.getElem?_eq_getElem h];exact ⟨rfl, hP _ (List.getElem_mem h)⟩
include hP in
theorem NS {W : Nat} {kind : Int} {i : Nat} (hW : 1 ≤ W) (hi : i < P.length) : -65535 ≤ gs W P kind i ∧ gs W P kind i ≤ 131070 := by
 unfold gs
 split
 ·omega
 ·split
  ·have := (C8 hP (j := i - 1) (by omega)).2; omega
  ·split
   ·have := (C8 hP (j := i - W) (by omega)).2; omega
   ·exact WU (C8 hP (by omega)).2 (C8 hP (by omega)).2 (C8 hP (by omega)).2
theorem Lx {i W : Nat} (h : i / W ≠ 0) : W ≤ i ∧ 0 < W := by
 rcases Nat.eq_zero_or_pos W with h0 | h0
 ·subst h0; simp at h
 ·refine ⟨?_, h0⟩
  rcases Nat.lt_or_ge i W with h1 | h1
  ·exact absurd (Nat.div_eq_of_lt h1) h
  ·exact h1
include hP in
theorem Hm (N : Nat) {W : Nat} (hW : 1 ≤ W ∧ W ≤ 64) {kind : Int} (hk : 1 ≤ kind ∧ kind ≤ 7) (H : Int) {i : Nat} (hi : i < P.length) (hl : P.length ≤ 4096) : nM N (W : Int) H P kind (i : Int) = some (gs W P kind i) := by
 unfold nM gs;obtain ⟨t1, t2⟩ := tdm (W := W) i (by omega);rw [Le (by omega), aD, aD, t2, t1]
 by_cases h0 : i = 0
 ·rw [cT (dT (by omega)), if_pos h0]
 have hdl : i / W ≤ i := Nat.div_le_self _ _;rw [cF (dF (by omega)), if_neg h0, gE (x := ((i / W : Nat) : Int)) ⟨Int.le_trans (by decide) (Int.natCast_nonneg _), Int.le_trans (Int.ofNat_le.2 hdl) (by omega)⟩];have e1 : IntKind.i64.wrap ((i : Int) - 1) = ((i - 1 : Nat) : Int) := by rw [gE (by omega)]; omega
 by_cases h1 : i / W = 0
 ·rw [cT (dT (by rw [h1]; rfl)), if_pos h1, e1, (C8 hP (j := i - 1) (by omega)).1]; rfl
 obtain ⟨hWi, hW0⟩ := Lx h1;have e2 : IntKind.i64.wrap ((i : Int) - (W : Int)) = ((i - W : Nat) : Int) := by rw [gE (by omega)]; omega
 rw [cF (dF (fun h => h1 (by exact_mod_cast h))), if_neg h1, e2]
 by_cases h2 : i % W = 0
 ·rw [cT (dT (by rw [h2]; rfl)), if_pos h2, (C8 hP (j := i - W) (by omega)).1]; rfl
 have hlt : W < i := by
  rcases Nat.lt_or_ge W i with h | h
  ·exact h
  ·obtain rfl : i = W := by omega
   simp at h2
 have e3 : IntKind.i64.wrap (((i - W : Nat) : Int) - 1) = ((i - W - 1 : Nat) : Int) := by rw [gE (by omega)]; omega
 obtain ⟨a1, a2⟩ := C8 hP (j := i - 1) (by omega);obtain ⟨b1, b2⟩ := C8 hP (j := i - W) (by omega);obtain ⟨c1, c2⟩ := C8 hP (j := i - W - 1) (by omega);rw [cF (dF (fun h => h2 (by exact_mod_cast h))), if_neg h2, e1, a1, aD, b1, aD, e3, c1, aD]
 generalize P.getD (i - 1) 0 = a at *
 generalize P.getD (i - W) 0 = b at *
 generalize P.getD (i - W - 1) 0 = c at *
 have s1 : ∀ m : Int, iZ .i64 m 1 = m / 2 := fun m => WG m 1 (by decide)
 rw [s1, s1, s1, gE (x := a + b) (by omega), gE (x := a + b - c) (by omega), gE (x := b - c) (by omega), gE (x := a - c) (by omega), gE (x := a + (b - c) / 2) (by omega), gE (x := b + (a - c) / 2) (by omega)];unfold WT
 rcases (show kind = 1 ∨ kind = 2 ∨ kind = 3 ∨ kind = 4 ∨ kind = 5 ∨ kind = 6 ∨ kind = 7 by omega) with rfl | rfl | rfl | rfl | rfl | rfl | rfl <;> rfl
include hP in
theorem FO (N : Nat) {W x y : Nat} (H : Int) (hW : W ≤ 64) (hx : x ≤ 64) (hy : y ≤ 64) (h : y * W + x < P.length) : gU N (W : Int) H P (x : Int) (y : Int) = some (P.getD (y * W + x) 0) := by
 have hyw : y * W ≤ 64 * 64 := Nat.mul_le_mul hy hW;have e : (y : Int) * (W : Int) = ((y * W : Nat) : Int) := by simp
 have e2 : IntKind.i64.wrap (IntKind.i64.wrap ((y : Int) * (W : Int)) + (x : Int)) = ((y * W + x : Nat) : Int) := by
  rw [e, gE (x := ((y * W : Nat) : Int)) (by omega), gE (by omega)]; omega
 unfold gU;rw [e2, (C8 hP h).1]; rfl
include hP in
theorem Hn (N : Nat) {W : Nat} (hW : 1 ≤ W ∧ W ≤ 64) {kind : Int} (hk : 1 ≤ kind ∧ kind ≤ 7) (H : Int) {x y : Nat} (hx : x < W) (hy : y < 64) (hi : y * W + x < P.length) (hl : P.length ≤ 4096) : jU N (W : Int) H P kind (x : Int) (y : Int) = some (gs W P kind (y * W + x)) := by
 obtain ⟨d1, d2⟩ := dm (W := W) y hx
 have fin : ∀ (a b c : Int), 0 ≤ a ∧ a ≤ 65535 → 0 ≤ b ∧ b ≤ 65535 → 0 ≤ c ∧ c ≤ 65535 → (cond (decide (kind = 1)) (
   some a) (
   cond (decide (kind = 2)) (
   some b) (
   cond (decide (kind = 3)) (
   some c) (
   cond (decide (kind = 4)) (
   some (IntKind.i64.wrap ((IntKind.i64.wrap (a + b)) - c))) (
   cond (decide (kind = 5)) (
   Option.bind (eI N (IntKind.i64.wrap (b - c)) 2) fun DC =>
   some (IntKind.i64.wrap (a + DC))) (
   cond (decide (kind = 6)) (
   Option.bind (eI N (IntKind.i64.wrap (a - c)) 2) fun r16 =>
   some (IntKind.i64.wrap (b + r16))) (
   Option.bind (eI N (IntKind.i64.wrap (a + b)) 2) fun Cj =>
   some Cj)))))) : Option Int) = some (WT kind a b c) := by
  intro a b c ha hb hc;rw [gE (x := a + b) (by omega), gE (x := a + b - c) (by omega), gE (x := b - c) (by omega), gE (x := a - c) (by omega), Gy N (by omega) (by omega), Gy N (by omega) (by omega), Gy N (by omega) (by omega), aD, aD, aD, gE (x := a + (b - c) / 2) (by omega), gE (x := b + (a - c) / 2) (by omega)];unfold WT
  rcases (show kind = 1 ∨ kind = 2 ∨ kind = 3 ∨ kind = 4 ∨ kind = 5 ∨ kind = 6 ∨ kind = 7 by omega) with rfl | rfl | rfl | rfl | rfl | rfl | rfl <;> rfl
 unfold jU gs;rw [d2, d1]
 by_cases h0 : x = 0
 ·subst h0;rw [cT (dT (by rfl))]
  by_cases h1 : y = 0
  ·subst h1;rw [cT (dT (by rfl)), if_pos (by simp)]
  ·have hyw : 1 ≤ y * W := Nat.mul_pos (by omega) (by omega);have e : IntKind.i64.wrap ((y : Int) - 1) = ((y - 1 : Nat) : Int) := by rw [gE (by omega)]; omega
   have e2 : (y - 1) * W + 0 = y * W + 0 - W := by rw [Nat.sub_mul]; omega
   have hle : (y - 1) * W ≤ y * W := Nat.mul_le_mul_right _ (by omega);rw [cF (dF (by omega)), cF (dF (by omega)), cT (dT (by rfl)), e];have := FO hP N (W := W) (x := 0) (y := y - 1) H (by omega) (by omega) (by omega) (by omega);rw [show ((0 : Nat) : Int) = 0 from rfl] at this;rw [this, aD, if_neg (by omega), if_neg (by omega), if_pos rfl, e2]
 ·rw [cF (dF (by omega))];have ex : IntKind.i64.wrap ((x : Int) - 1) = ((x - 1 : Nat) : Int) := by rw [gE (by omega)]; omega
  by_cases h1 : y = 0
  ·subst h1;have := FO hP N (W := W) (x := x - 1) (y := 0) H (by omega) (by omega) (by omega) (by omega);rw [show ((0 : Nat) : Int) = 0 from rfl] at this;rw [cT (dT (by rfl)), ex, this, aD, if_neg (by omega), if_pos rfl]
   congr 2
   omega
  ·have e : IntKind.i64.wrap ((y : Int) - 1) = ((y - 1 : Nat) : Int) := by rw [gE (by omega)]; omega
   have hsub : (y - 1) * W = y * W - W := by rw [Nat.sub_mul]; omega
   have hyw : W ≤ y * W := Nat.le_mul_of_pos_left W (by omega);rw [cF (dF (by omega)), cF (dF (by omega)), ex, e, FO hP N (W := W) (x := x - 1) (y := y) H (by omega) (by omega) (by omega) (by omega), aD, FO hP N (W := W) (x := x) (y := y - 1) H (by omega) (by omega) (by omega) (by omega), aD, FO hP N (W := W) (x := x - 1) (y := y - 1) H (by omega) (by omega) (by omega) (by omega), aD, if_neg (by omega), if_neg (by omega), if_neg (by omega)];rw [show y * W + (x - 1) = y * W + x - 1 by omega, show (y - 1) * W + x = y * W + x - W by omega, show (y - 1) * W + (x - 1) = y * W + x - W - 1 by omega];exact fin _ _ _ (C8 hP (by omega)).2 (C8 hP (by omega)).2 (C8 hP (by omega)).2
end
theorem EU {W H : Int} {P : List Int} (h : I5 W H P = true) : ∃ w k : Nat, W = w ∧ H = k ∧ 1 ≤ w ∧ w ≤ 64 ∧ 1 ≤ k ∧ k ≤ 64 ∧ P.length = w * k ∧ w * k ≤ 4096 ∧ ∀ e ∈ P, 0 ≤ e ∧ e ≤ 65535 := by
 unfold I5 at h;rw [Bool.and_eq_true] at h;obtain ⟨h1, h2⟩ := h;obtain ⟨a, b, c, d, e⟩ := of_decide_eq_true h1;obtain ⟨w, rfl⟩ := Int.eq_ofNat_of_zero_le (show 0 ≤ W by omega);obtain ⟨k, rfl⟩ := Int.eq_ofNat_of_zero_le (show 0 ≤ H by omega);have hm := Nat.mul_le_mul (show w ≤ 64 by omega) (show k ≤ 64 by omega);exact ⟨w, k, rfl, rfl, by omega, by omega, by omega, by omega, by exact_mod_cast e, by omega, fun e he => of_decide_eq_true (List.all_eq_true.1 h2 e he)⟩
def bl (n : Nat) : Nat := if n = 0 then 0 else Nat.log2 n + 1
theorem yO {n : Nat} (h : 0 < n) : bl n = bl (n / 2) + 1 := by
 unfold bl;rw [if_neg (by omega)]
 by_cases h2 : 2 ≤ n
 ·rw [if_neg (by omega), Nat.log2_def, if_pos h2]
 ·obtain rfl : n = 1 := by omega
  rfl
theorem Bn : ∀ (k n : Nat), bl n ≤ k ↔ n < 2 ^ k
 | 0, n => by
  unfold bl
  split
  ·subst n; simp
  ·rw [Nat.pow_zero]; omega
 | k + 1, n => by
  rcases Nat.eq_zero_or_pos n with rfl | h
  ·have := Nat.two_pow_pos (k + 1); simp [bl, this]
  ·have ih := Bn k (n / 2);rw [yO h, Nat.pow_succ]
   constructor
   ·intro q;have := ih.1 (by omega)
    omega
   ·intro q;have := ih.2 (by omega)
    omega
theorem Zr {n : Nat} (h : 256 ≤ n) : bl n = bl (n / 256) + 8 := by
 rw [yO (n := n) (by omega), yO (n := n / 2) (by omega), yO (n := n / 2 / 2) (by omega), yO (n := n / 2 / 2 / 2) (by omega), yO (n := n / 2 / 2 / 2 / 2) (by omega), yO (n := n / 2 / 2 / 2 / 2 / 2) (by omega), yO (n := n / 2 / 2 / 2 / 2 / 2 / 2) (by omega), yO (n := n / 2 / 2 / 2 / 2 / 2 / 2 / 2) (by omega)];have : n / 2 / 2 / 2 / 2 / 2 / 2 / 2 / 2 = n / 256 := by omega
 rw [this]
theorem Rx : ∀ n : Fin 256, Iv[n.val]? = some (UInt8.ofNat (bl n.val)) ∧ bl n.val ≤ 8 := by decide +kernel
theorem NT {n : Nat} (h : n < 256) : idx Iv (IntKind.u8.wrap (n : Int)) = some (UInt8.ofNat (bl n)) ∧ IntKind.i64.wrap ((UInt8.ofNat (bl n)).toNat : Int) = ((bl n : Nat) : Int) := by
 obtain ⟨h1, h2⟩ := Rx ⟨n, h⟩;rw [AA, Nat.mod_eq_of_lt h, eX];refine ⟨h1, ?_⟩
 have : (UInt8.ofNat (bl n)).toNat = bl n := by
  rw [UInt8.toNat_ofNat', Nat.mod_eq_of_lt];have : bl n ≤ 8 := h2
  omega
 rw [this, gE (by have : bl n ≤ 8 := h2; omega)]
theorem aDd {h k : Nat} (hk : k ≤ 64) : iZ .u64 (h : Int) (k : Int) = ((h / 2 ^ k : Nat) : Int) := by
 unfold iZ
 have : min ((k : Int)).toNat IntKind.u64.bits = k := by
  rw [Int.toNat_natCast];exact Nat.min_eq_left hk
 rw [this];rw [show (2 : Int) ^ k = ((2 ^ k : Nat) : Int) by simp, Int.fdiv_eq_ediv_of_nonneg _ (Int.natCast_nonneg _), Int.natCast_ediv]
theorem len_eq (N : Nat) {n : Nat} (h : n ≤ 65535) : oE N (n : Int) = some ((bl n : Nat) : Int) := by
 have h16 : bl n ≤ 16 := (Bn 16 n).2 (by omega);unfold oE tQ;rw [cF (dF (by omega)), cF (dF (by omega))]
 by_cases h1 : 256 ≤ n
 ·have hd : n / 2 ^ 8 < 256 := by omega
  obtain ⟨e1, e2⟩ := NT hd;rw [cT (dT (by omega)), show ((8 : Int)) = ((8 : Nat) : Int) from rfl, aDd (by omega), aD, show IntKind.i64.wrap (0 + ((8 : Nat) : Int)) = 8 by decide, aD, e1, aD, e2, show n / 2 ^ 8 = n / 256 from rfl, Zr h1];rw [Zr h1] at h16;rw [gE (by omega), aD, aD]
  congr 1
  omega
 ·obtain ⟨e1, e2⟩ := NT (show n < 256 by omega);rw [cF (dF (by omega)), e1, aD, e2, gE (by omega), aD, aD]
  congr 1
  omega
def tW (d : Int) : Nat := bl (max d (-d)).toNat
theorem MQ (N : Nat) : ∀ (j : Nat) (k n fuel : Nat), bl k = j → j < fuel → n + j ≤ 1000 → k ≤ 1000000 → lA N (fun (n4, k5) => some n4) fuel ((n : Int), (k : Int)) = some ((n + j : Nat) : Int) := by
 intro j
 induction j with
 | zero =>
  intro k n fuel hb hf hn hk;obtain ⟨fuel, rfl⟩ : ∃ q, fuel = q + 1 := ⟨fuel - 1, by omega⟩
  have := (Bn 0 k).1 (by omega);unfold lA;rw [cF (dF (by omega))]; rfl
 | succ j ih =>
  intro k n fuel hb hf hn hk;obtain ⟨fuel, rfl⟩ : ∃ q, fuel = q + 1 := ⟨fuel - 1, by omega⟩
  have hk0 : 0 < k := by
   rcases Nat.eq_zero_or_pos k with rfl | h
   ·simp [bl] at hb
   ·exact h
  have hb2 := yO hk0;unfold lA;rw [cT (dT (by omega)), gE (x := (n : Int) + 1) (by omega), aD, show Int.tdiv (k : Int) 2 = ((k / 2 : Nat) : Int) from rfl, gE (x := ((k / 2 : Nat) : Int)) (by omega), aD, show (n : Int) + 1 = ((n + 1 : Nat) : Int) by rfl, ih (k / 2) (n + 1) fuel (by omega) (by omega) (by omega) (by omega)]
  congr 2
  omega
theorem I6 {d : Int} (h : -32768 < d ∧ d ≤ 32768) : tW d ≤ 16 := (Bn 16 _).2 (by omega)
theorem Ho (N : Nat) (hN : 100 ≤ N) {d : Int} (h : -32768 < d ∧ d ≤ 32768) : oO N d = some ((tW d : Nat) : Int) := by
 have hc := I6 h;unfold oO;rw [gE (x := 0 - d) (by omega), aD, show max d (0 - d) = (((max d (-d)).toNat : Nat) : Int) by omega];have := MQ N (tW d) (max d (-d)).toNat 0 N rfl (by omega) (by omega) (by omega);rw [Nat.zero_add] at this;exact this
def EJ (d : Int) : List UInt8 := if tW d = 0 ∨ tW d = 16 then [] else wF (lZ 2 (tW d) (if 0 < d then d else d + ((2 ^ tW d : Nat) : Int) - 1).toNat)
theorem J2 {d : Int} : -((2 ^ tW d : Nat) : Int) < d ∧ d < ((2 ^ tW d : Nat) : Int) := by
 have h := (Bn (tW d) (max d (-d)).toNat).1 (Nat.le_refl _);have h2 : (((max d (-d)).toNat : Nat) : Int) < ((2 ^ tW d : Nat) : Int) := Int.ofNat_lt.2 h
 omega
theorem GG {d : Int} : tW d = 0 ↔ d = 0 := by
 have := Bn 0 (max d (-d)).toNat;unfold tW
 constructor
 ·intro h; have := this.1 (by omega); omega
 ·intro h; have := this.2 (by omega); omega
theorem Zs {d : Int} (h : tW d ≠ 0) (h2 : tW d ≠ 16) (hd : -32768 < d ∧ d ≤ 32768) : uK (if 0 < d then d else d + ((2 ^ tW d : Nat) : Int) - 1) ((tW d : Nat) : Int) = 0 := by
 have hc := I6 hd;have hl := J2 (d := d);have h0 : d ≠ 0 := fun e => h (GG.2 e)
 unfold uK;rw [if_pos (by omega), Int.toNat_natCast, if_pos]
 split
 ·omega
 ·omega
theorem TO (N : Nat) (hN : 100 ≤ N) {d : Int} (h : -32768 < d ∧ d ≤ 32768) : u6 N d = some (EJ d) := by
 have hc := I6 h;unfold u6 EJ;rw [Ho N hN h, aD]
 by_cases h0 : tW d = 0
 ·rw [cT (dT (by omega)), if_pos (.inl h0)]
 rw [cF (dF (by omega))]
 by_cases h1 : tW d = 16
 ·rw [cT (dT (by omega)), if_pos (.inr h1)]
 have hv := Zs h0 h1 h;have hp := vI (d := tW d) hc;have hl := J2 (d := d);rw [cF (dF (by omega)), if_neg (by omega)]
 by_cases h2 : 0 < d
 ·rw [if_pos h2] at hv;rw [cT (dT h2), Hi N hN hv, aD, Int.toNat_natCast, if_pos h2]
 ·rw [if_neg h2] at hv;rw [cF (dF h2), rY, aD, AS hc, gE (x := d + _) (by omega), gE (x := d + _ - 1) (by omega), Hi N hN hv, aD, Int.toNat_natCast, if_neg h2]
def dfn (n g : Int) : Int := if 32768 < (n - g) % 65536 then (n - g) % 65536 - 65536 else (n - g) % 65536
theorem MR (n g : Int) : -32768 < dfn n g ∧ dfn n g ≤ 32768 := by unfold dfn; split <;> omega
theorem MS (N : Nat) {d : Int} (h : -200000 ≤ d ∧ d ≤ 32768) {fuel : Nat} (hf : 5 ≤ fuel) : f6 N (fun d9 => some d9) fuel d = some (dfn d 0) := by
 obtain ⟨fuel, rfl⟩ : ∃ q, fuel = q + 5 := ⟨fuel - 5, by omega⟩
 have key : ∀ (e : Int) (m : Nat), -32768 < e → e ≤ 32768 → e % 65536 = d % 65536 → f6 N (fun d9 => some d9) (m + 1) e = some (dfn d 0) := by
  intro e m h1 h2 h3;unfold f6;rw [cF (dF (by omega))]
  congr 1
  unfold dfn
  split <;> omega
 by_cases h1 : -32768 < d
 ·exact key d _ h1 h.2 rfl
 unfold f6;rw [cT (dT (by omega)), gE (x := d + 65536) (by omega), aD]
 by_cases h2 : -32768 < d + 65536
 ·exact key (d + 65536) _ h2 (by omega) (by omega)
 unfold f6;rw [cT (dT (by omega)), gE (x := d + 65536 + 65536) (by omega), aD]
 by_cases h3 : -32768 < d + 65536 + 65536
 ·exact key (d + 65536 + 65536) _ h3 (by omega) (by omega)
 unfold f6;rw [cT (dT (by omega)), gE (x := d + 65536 + 65536 + 65536) (by omega), aD];exact key (d + 65536 + 65536 + 65536) _ (by omega) (by omega) (by omega)
theorem NU {a b : Int} (h : a % 65536 = b % 65536) : dfn a 0 = dfn b 0 := by unfold dfn; rw [Int.sub_zero, Int.sub_zero, h]
theorem difference_eq (N : Nat) (hN : 100 ≤ N) {n g : Int} (hn : 0 ≤ n ∧ n ≤ 65535) (hg : -65535 ≤ g ∧ g ≤ 131070) : pP N n g = some (dfn n g) := by
 have e0 : dfn n g = dfn (n - g) 0 := by unfold dfn; rw [Int.sub_zero]
 unfold pP;rw [gE (x := n - g) (by omega), aD, e0];obtain ⟨M, rfl⟩ : ∃ q, N = q + 5 := ⟨N - 5, by omega⟩
 generalize hd : n - g = d
 by_cases h1 : 32768 < d
 ·unfold gX;rw [cT (dT h1), gE (x := d - 65536) (by omega), aD]
  by_cases h2 : 32768 < d - 65536
  ·unfold gX;rw [cT (dT h2), gE (x := d - 65536 - 65536) (by omega), aD];unfold gX;rw [cF (dF (by omega)), MS _ (by omega) (by omega)];exact congrArg some (NU (by omega))
  ·unfold gX;rw [cF (dF h2), MS _ (by omega) (by omega)];exact congrArg some (NU (by omega))
 ·unfold gX;rw [cF (dF h1), MS _ (by omega) (by omega)]
def ds (W : Nat) (P : List Int) (kind : Int) : List Int := (List.range P.length).map fun i => dfn (P.getD i 0) (gs W P kind i)
section
variable {W H : Nat} {P : List Int} (hP : ∀ e ∈ P, 0 ≤ e ∧ e ≤ 65535) (hW : 1 ≤ W ∧ W ≤ 64) (hH : 1 ≤ H ∧ H ≤ 64) (hl : P.length = W * H) (hl2 : W * H ≤ 4096) {kind : Int} (hk : 1 ≤ kind ∧ kind ≤ 7)
include hP hW hH hl hl2 hk
theorem TP (N : Nat) (hN : 100 ≤ N) {y : Nat} (hy : y < H) (kk) : ∀ (j x fuel : Nat), x + j = W → j < fuel →
  jN N (W : Int) (H : Int) P kind (y : Int) kk fuel ((List.range (y * W + x)).map (fun i => dfn (P.getD i 0) (gs W P kind i)), (x : Int)) = kk ((List.range ((y + 1) * W)).map (fun i => dfn (P.getD i 0) (gs W P kind i)), (W : Int)) := by
 intro j
 induction j with
 | zero =>
  intro x fuel hx hf;obtain ⟨fuel, rfl⟩ : ∃ q, fuel = q + 1 := ⟨fuel - 1, by omega⟩
  obtain rfl : x = W := by omega
  unfold jN;rw [cF (dF (by omega)), Nat.add_mul, Nat.one_mul]
 | succ j ih =>
  intro x fuel hx hf;obtain ⟨fuel, rfl⟩ : ∃ q, fuel = q + 1 := ⟨fuel - 1, by omega⟩
  have hpl := QP (W := W) (H := H) (x := x) (y := y) (by omega) hy;have hg := NS hP (W := W) (kind := kind) (i := y * W + x) hW.1 (by omega)
  have hs : (List.range (y * W + x)).map (fun i => dfn (P.getD i 0) (gs W P kind i)) ++ [dfn (P.getD (y * W + x) 0) (gs W P kind (y * W + x))] = (List.range (y * W + (x + 1))).map (fun i => dfn (P.getD i 0) (gs W P kind i)) := by
   rw [show y * W + (x + 1) = y * W + x + 1 by omega, List.range_succ, List.map_append, List.map_singleton]
  unfold jN;rw [cT (dT (by omega)), FO hP N (W := W) (x := x) (y := y) _ (by omega) (by omega) (by omega) (by omega), aD, Hn hP N hW hk _ (by omega) (by omega) (by omega) (by omega), aD, difference_eq N hN (C8 hP (by omega)).2 hg, aD, iO (by simp; omega), aD, hs, gE (x := (x : Int) + 1) (by omega), aD];exact ih (x + 1) fuel (by omega) (by omega)
theorem TQ (N : Nat) (hN : 100 ≤ N) : uB N (W : Int) (H : Int) P kind = some (ds W P kind) := by
 have main : ∀ (j y fuel : Nat), y + j = H → j < fuel → iD N (W : Int) (H : Int) P kind (fun (UB, y5) => some UB) fuel ((List.range (y * W)).map (fun i => dfn (P.getD i 0) (gs W P kind i)), (y : Int)) = some (ds W P kind) := by
  intro j
  induction j with
  | zero =>
   intro y fuel hx hf;obtain ⟨fuel, rfl⟩ : ∃ q, fuel = q + 1 := ⟨fuel - 1, by omega⟩
   obtain rfl : y = H := by omega
   unfold iD;rw [cF (dF (by omega))];unfold ds;rw [hl, Nat.mul_comm]
  | succ j ih =>
   intro y fuel hx hf;obtain ⟨fuel, rfl⟩ : ∃ q, fuel = q + 1 := ⟨fuel - 1, by omega⟩
   have key := TP hP hW hH hl hl2 hk N hN (y := y) (by omega) (fun (Wv, x10) => Option.bind (some (IntKind.i64.wrap ((y : Int) + 1))) fun y4 => iD N (W : Int) (H : Int) P kind (fun (UB, y5) => some UB) fuel (Wv, y4)) W 0 N (by omega) (by omega);unfold iD;rw [cT (dT (by omega))];refine Eq.trans key ?_
   dsimp only
   rw [gE (x := (y : Int) + 1) (by omega), aD];exact ih (y + 1) fuel (by omega) (by omega)
 have := main H 0 N (by omega) (by omega);rw [Nat.zero_mul] at this;exact this
end
def EV (W : List (List UInt8)) (d : Int) : Bool := decide (tW d < W.length) && !(W.getD (tW d) []).isEmpty
def yZ (W : List (List UInt8)) (d : Int) : List UInt8 := W.getD (tW d) [] ++ EJ d
def AJ (W : List (List UInt8)) (l : List Int) : List UInt8 := l.flatMap (yZ W)
theorem BD (W : List (List UInt8)) (d : Int) (l : List Int) : AJ W (d :: l) = yZ W d ++ AJ W l := rfl
theorem J3 {d : Int} (h : -32768 < d ∧ d ≤ 32768) : (EJ d).length ≤ 16 := by
 unfold EJ
 split
 ·simp
 ·rw [mM, iP]; exact I6 h
theorem DK {W : List (List UInt8)} (hb : El W) (i : Nat) : (W.getD i []).length ≤ 15 ∧ wO (W.getD i []) = true := by
 rw [List.getD_eq_getElem?_getD]
 by_cases h : i < W.length
 ·rw [List.getElem?_eq_getElem h]; exact ⟨(hb _ (List.getElem_mem h)).2, (hb _ (List.getElem_mem h)).1⟩
 ·rw [List.getElem?_eq_none (by omega)]; exact ⟨by simp, rfl⟩
theorem I7 {W : List (List UInt8)} (hb : El W) {d : Int} (h : -32768 < d ∧ d ≤ 32768) : (yZ W d).length ≤ 31 := by
 unfold yZ;rw [List.length_append];have := J3 h;have := (DK hb (tW d)).1
 omega
theorem MT {W : List (List UInt8)} {d : Int} (h : EV W d = true) : ∃ u, W[tW d]? = some u ∧ u ≠ [] ∧ W.getD (tW d) [] = u ∧ tW d < W.length := by
 unfold EV at h;rw [Bool.and_eq_true] at h;have hq := of_decide_eq_true h.1;refine ⟨W[tW d], List.getElem?_eq_getElem hq, ?_, ?_, hq⟩
 ·have h2 := h.2;rw [List.getD_eq_getElem?_getD, List.getElem?_eq_getElem hq] at h2;intro e;rw [Option.getD_some, e] at h2;cases h2
 ·rw [List.getD_eq_getElem?_getD, List.getElem?_eq_getElem hq]; rfl
theorem Ry {W : List (List UInt8)} {d : Int} (h : ¬ EV W d = true) (h2 : tW d < W.length) : W[tW d]? = some [] := by
 rw [List.getElem?_eq_getElem h2];unfold EV at h;rw [dT h2, Bool.true_and, List.getD_eq_getElem?_getD, List.getElem?_eq_getElem h2, Option.getD_some] at h;cases hc : W[tW d]
 ·rfl
 ·rw [hc] at h; simp at h
theorem TR (N : Nat) (hN : 100 ≤ N) {W : List (List UInt8)} (hb : El W) {l : List Int} (hd : ∀ d ∈ l, -32768 < d ∧ d ≤ 32768) (hl : l.length ≤ 4096) (kk) : ∀ (j k fuel : Nat) (acc : List UInt8), k + j = l.length → j < fuel → acc.length ≤ 31 * k →
  kF N W l kk fuel (qX acc, (k : Int)) = if (l.drop k).all (EV W) = true then kk (qX (acc ++ AJ W (l.drop k)), (l.length : Int)) else some ([], 4) := by
 intro j
 induction j with
 | zero =>
  intro k fuel acc hk hf ha;obtain ⟨fuel, rfl⟩ : ∃ q, fuel = q + 1 := ⟨fuel - 1, by omega⟩
  obtain rfl : k = l.length := by omega
  unfold kF;rw [cF (dF (by omega)), List.drop_length, if_pos (by rfl)]
  simp [AJ]
 | succ j ih =>
  intro k fuel acc hk hf ha;obtain ⟨fuel, rfl⟩ : ∃ q, fuel = q + 1 := ⟨fuel - 1, by omega⟩
  have hlt : k < l.length := by omega
  have hnx : IntKind.i64.wrap ((k : Int) + 1) = ((k + 1 : Nat) : Int) := by rw [gE (by omega)]; rfl
  have hdk := hd _ (List.getElem_mem hlt);unfold kF;rw [cT (dT (by omega)), eX, List.getElem?_eq_getElem hlt, aD, Ho N hN hdk, aD, List.drop_eq_getElem_cons hlt, List.all_cons, BD]
  generalize l[k] = d at hdk ⊢
  by_cases h1 : W.length ≤ tW d
  ·rw [cT (dT (by omega)), if_neg];rw [show EV W d = false by unfold EV; rw [dF (by omega)]; rfl]; simp
  rw [cF (dF (by omega)), eX]
  by_cases h2 : EV W d = true
  ·obtain ⟨u, hu, hu0, hg, _⟩ := MT h2;have UY := (DK hb (tW d)).1;have hm := J3 hdk;rw [hg] at UY;rw [hu, aD, cF (dF hu0), aD, iO (by rw [qT, qT]; omega), aD, aD, TO N hN hdk, aD, ← JT, iO (by rw [qT, qT, List.length_append]; omega), aD, ← JT, hnx, aD, ih (k + 1) fuel _ (by omega) (by omega) (by rw [List.length_append, List.length_append]; omega), h2, Bool.true_and];unfold yZ;rw [hg, List.append_assoc, List.append_assoc, List.append_assoc]
  ·rw [Ry h2 (by omega), aD, cT (dT rfl), if_neg];rw [(Bool.not_eq_true _).mp h2]; simp
theorem Ly (W : Nat) (P : List Int) (kind : Int) : ∀ d ∈ ds W P kind, -32768 < d ∧ d ≤ 32768 := fun d hd => by
 obtain ⟨i, _, rfl⟩ := List.mem_map.1 hd;exact MR _ _
theorem En (W : Nat) (P : List Int) (kind : Int) : (ds W P kind).length = P.length := by simp [ds]
theorem U1 (W : Nat) (P : List Int) (kind : Int) {i : Nat} (h : i < P.length) : (ds W P kind)[i]? = some (dfn (P.getD i 0) (gs W P kind i)) := by
 unfold ds;rw [List.getElem?_map, List.getElem?_range h]; rfl
def MU (b : List UInt8) : List UInt8 := (gr ((b.length + 7) / 8) (fC b)).map UInt8.ofNat
def qB (W H : Int) (P : List Int) (kind : Int) (c : List Int) : List UInt8 × Int :=
 if I5 W H P = false then ([], 1) else if ¬ (1 ≤ kind ∧ kind ≤ 7) then ([], 6) else if jK c ≠ 0 then ([], jK c) else
 if (ds W.toNat P kind).all (EV (wordsOf c)) = true then (MU (AJ (wordsOf c) (ds W.toNat P kind)), 0) else ([], 4)
theorem Rz (d : Int) : wO (EJ d) = true := by
 unfold EJ
 split
 ·rfl
 ·exact J0 (xT (by decide) _ _)
theorem DL {W : List (List UInt8)} (hb : El W) : ∀ l : List Int, wO (AJ W l) = true
 | [] => rfl
 | d :: l => by
  rw [BD, sO, DL hb l, Bool.and_true];unfold yZ;rw [sO, (DK hb (tW d)).2, Rz]; rfl
theorem C9 {W : List (List UInt8)} (hb : El W) : ∀ {l : List Int}, (∀ d ∈ l, -32768 < d ∧ d ≤ 32768) → (AJ W l).length ≤ 31 * l.length
 | [], _ => by simp [AJ]
 | d :: l, h => by
  have h1 := C9 hb (l := l) fun d hd => h d (by simp [hd])
  have h2 := I7 hb (h d (by simp));rw [BD, List.length_append, List.length_cons]; omega
theorem IB (N : Nat) (hN : 200000 ≤ N) (W H : Int) (P : List Int) (kind : Int) (c : List Int) : nO N W H P kind c = some (qB W H P kind c) := by
 unfold nO qB;rw [Lw N (by omega), aD]
 by_cases hp : I5 W H P = true
 rotate_left
 ·rw [(Bool.not_eq_true _).mp hp, Bool.not_false, cT rfl, if_pos rfl]
 rw [hp, Bool.not_true, cF rfl, if_neg (by decide), sN, aD]
 by_cases h1 : 1 ≤ kind ∧ kind ≤ 7
 rotate_left
 ·rw [dF h1, Bool.not_false, cT rfl, if_pos h1]
 rw [dT h1, Bool.not_true, cF rfl, if_neg (by omega), FL N (by omega), aD]
 by_cases h2 : jK c = 0
 rotate_left
 ·rw [cT (by rw [dF h2]; rfl), if_pos h2]
 obtain ⟨w, k, rfl, rfl, a1, a2, a3, a4, a5, a6, hP⟩ := EU hp;rw [cF (by rw [dT h2]; rfl), if_neg (by omega), FY N (by omega) h2, aD, TQ hP ⟨a1, a2⟩ ⟨a3, a4⟩ a5 a6 h1 N (by omega), aD, Int.toNat_natCast];have hdl := En w P kind;have key := TR N (by omega) (hG c) (l := ds w P kind) (Ly w P kind) (by omega) (fun (l9, i2) => Option.bind (kL N (toB l9)) fun zE => some (zE, (0 : Int))) (ds w P kind).length 0 N [] (by omega) (by omega) (by simp);refine Eq.trans key ?_;rw [List.drop_zero]
 by_cases h3 : (ds w P kind).all (EV (wordsOf c)) = true
 ·rw [if_pos h3, if_pos h3]
  dsimp only
  have hcl := C9 (hG c) (Ly w P kind);rw [List.nil_append, JU, O3 N (DL (hG c) _) (by omega) ⟨by omega, by omega⟩]
  rfl
 ·rw [if_neg h3, if_neg h3]
def mS (s : List UInt8) : List UInt8 := wF (lZ 2 (8 * s.length) (Cv s s.length))
theorem BE (s : List UInt8) : (mS s).length = 8 * s.length := by unfold mS; rw [mM, iP]
theorem sT (s : List UInt8) : wO (mS s) = true := J0 (xT (by decide) _ _)
theorem Hp : mS [] = [] := rfl
theorem GH (s : List UInt8) : Cv s s.length = num 256 (s.map UInt8.toNat) := by unfold Cv; rw [List.take_length]
theorem Pb (c : UInt8) (s : List UInt8) : mS (c :: s) = mS [c] ++ mS s := by
 unfold mS;rw [← ER, GH, GH [c], List.map_cons, List.map_singleton, EQ, List.length_map, Ej, ← GH s, ES (show Cv s s.length < 2 ^ (8 * s.length) from Q6 (d := 1) (by decide) s)];rw [show 8 * (c :: s).length = 8 * [c].length + 8 * s.length by simp; omega, show num 256 [c.toNat] = c.toNat by simp [num]]
theorem NV {l : List Nat} (h : ∀ y ∈ l, y < 2) : fC (wF l) = l := by
 unfold fC wF;rw [List.map_map]
 conv => rhs; rw [← List.map_id l]
 refine List.map_congr_left fun y hy => ?_
 have := h y hy;show (UInt8.ofNat (48 + y)).toNat - 48 = y;rw [UInt8.toNat_ofNat', Nat.mod_eq_of_lt (by omega)]
 omega
theorem RA {M : Nat} {l m : List Nat} (hl : l.length = 8 * M) (hm : m.length = 8 * M) (h2 : ∀ y ∈ l, y < 2) (h3 : ∀ y ∈ m, y < 2) (h : gr M l = gr M m) : l = m := by
 have e1 := B6 (B := 2) l h2;have e2 := B6 (B := 2) m h3;have n1 := u7 (B := 2) l h2;have n2 := u7 (B := 2) m h3;rw [hl] at e1 n1;rw [hm] at e2 n2;have h4 : gr M (lZ 2 (8 * M) (num 2 l)) = gr M (lZ 2 (8 * M) (num 2 m)) := by rw [e1, e2, h]
 rw [Hg, Hg] at h4;have h5 := congrArg (num 256) h4;rw [yL, yL, Ej, Nat.mod_eq_of_lt n1, Nat.mod_eq_of_lt n2] at h5;rw [← e1, ← e2, h5]
theorem NW (s : List UInt8) : (gr s.length (fC (mS s))).map UInt8.ofNat = s := by
 unfold mS;rw [NV (xT (by decide) _ _), Hg, GH]
 have := B6 (B := 256) (s.map UInt8.toNat) fun y hy => by
  obtain ⟨c, _, rfl⟩ := List.mem_map.1 hy;exact c.toNat_lt
 rw [List.length_map] at this;rw [this, toNat_ofNat]
theorem NX {M : Nat} {l : List Nat} (h : ∀ y ∈ l, y < 2) : ∀ y ∈ gr M l, y < 256 := fun y hy => by
 unfold gr at hy;obtain ⟨g, _, rfl⟩ := List.mem_map.1 hy
 have := u7 (B := 2) ((List.range 8).map fun t => l.getD (8 * g + t) 0) fun y hy => by
  obtain ⟨t, _, rfl⟩ := List.mem_map.1 hy;rw [List.getD_eq_getElem?_getD]
  by_cases hq : 8 * g + t < l.length
  ·rw [List.getElem?_eq_getElem hq]; exact h _ (List.getElem_mem hq)
  ·rw [List.getElem?_eq_none (by omega)]; exact (by decide : (0:Nat) < 2)
 simpa using this
theorem RB : ∀ {R : List UInt8}, wO R = true → fC R = List.replicate R.length 0 → R = List.replicate R.length 48
 | [], _, _ => rfl
 | c :: R, h, h2 => by
  have e := AR h;rw [h2] at e;rw [← e];unfold wF;rw [List.map_replicate, List.length_replicate]; rfl
theorem NY {s D R : List UInt8} (h : mS s = D ++ R) : MU D = s ↔ R.length ≤ 7 ∧ R = List.replicate R.length 48 := by
 have hB := sT s;rw [h, sO, Bool.and_eq_true] at hB;have hL := BE s;rw [h, List.length_append] at hL;have hb : fC (mS s) = fC D ++ fC R := by rw [h]; unfold fC; rw [List.map_append]
 have hs := NW s;have pad : gr s.length (fC D ++ List.replicate R.length 0) = gr s.length (fC D) := MN _ _ _
 constructor
 ·intro e;have hl := congrArg List.length e;unfold MU at hl e;rw [List.length_map] at hl;have hgl : ∀ M l, (gr M l).length = M := fun M l => by simp [gr]
  rw [hgl] at hl;refine ⟨by omega, ?_⟩;rw [hl] at e
  have e2 : gr s.length (fC D) = gr s.length (fC (mS s)) := by
   have := congrArg (List.map UInt8.toNat) (e.trans hs.symm)
   rwa [ofNat_toNat (NX (nC hB.1)), ofNat_toNat (NX (nC (sT s)))] at this
  rw [← pad, hb] at e2;have bl : ∀ b : List UInt8, (fC b).length = b.length := fun b => by simp [fC]
  have z2 : ∀ y ∈ fC D ++ List.replicate R.length 0, y < 2 := fun y hy => by
   rcases List.mem_append.1 hy with q | q
   ·exact nC hB.1 y q
   ·rw [(List.mem_replicate.1 q).2]; decide
  have z3 : ∀ y ∈ fC D ++ fC R, y < 2 := fun y hy => by
   rcases List.mem_append.1 hy with q | q
   ·exact nC hB.1 y q
   ·exact nC hB.2 y q
  have := RA (by rw [List.length_append, bl, List.length_replicate]; omega) (by rw [List.length_append, bl, bl]; omega) z2 z3 e2;exact RB hB.2 (List.append_cancel_left this).symm
 ·rintro ⟨h7, hz⟩
  have e : fC R = List.replicate R.length 0 := by
   conv => lhs; rw [hz]
   unfold fC;rw [List.map_replicate]; rfl
  unfold MU;rw [show (D.length + 7) / 8 = s.length by omega, ← pad, ← e, ← hb];exact hs
def vd (t : List UInt8) : Int := if 2 * num 2 (fC t) < 2 ^ t.length then (num 2 (fC t) : Int) - ((2 ^ t.length : Nat) : Int) + 1 else (num 2 (fC t) : Int)
theorem Zt {d : Int} {c : Nat} (h : 1 ≤ c) (h2 : ((2 ^ (c - 1) : Nat) : Int) ≤ max d (-d)) (h3 : max d (-d) < ((2 ^ c : Nat) : Int)) : tW d = c := by
 have a := Bn c (max d (-d)).toNat;have b := Bn (c - 1) (max d (-d)).toNat;have a1 : (max d (-d)).toNat < 2 ^ c := by omega
 have b1 : ¬ (max d (-d)).toNat < 2 ^ (c - 1) := by omega
 have a2 := a.2 a1;have b2 : ¬ bl (max d (-d)).toNat ≤ c - 1 := fun q => b1 (b.1 q)
 unfold tW
 omega
theorem J4 {t : List UInt8} (hb : wO t = true) (hl : t.length ≤ 15) : tW (vd t) = t.length ∧ EJ (vd t) = t ∧ -32768 < vd t ∧ vd t < 32768 := by
 have hn := u7 (B := 2) (fC t) (nC hb);have bl : (fC t).length = t.length := by simp [fC]
 rw [bl] at hn
 by_cases h0 : t.length = 0
 ·obtain rfl : t = [] := List.length_eq_zero_iff.1 h0;exact ⟨rfl, rfl, by decide, by decide⟩
 have hp : 2 ^ t.length = 2 * 2 ^ (t.length - 1) := by rw [← Nat.pow_succ']; congr 1; omega
 have hle : 2 ^ t.length ≤ 32768 := Nat.le_trans (Nat.pow_le_pow_right (by decide) hl) (by decide);have hpos : 0 < 2 ^ (t.length - 1) := Nat.two_pow_pos _
 have hr : -32768 < vd t ∧ vd t < 32768 := by unfold vd; split <;> omega
 have hc : tW (vd t) = t.length := by
  refine Zt (by omega) ?_ ?_
  ·unfold vd; split <;> omega
  ·unfold vd; split <;> omega
 refine ⟨hc, ?_, hr⟩;unfold EJ;rw [if_neg (by omega), hc]
 have : (if 0 < vd t then vd t else vd t + ((2 ^ t.length : Nat) : Int) - 1).toNat = num 2 (fC t) := by
  by_cases hq : 2 * num 2 (fC t) < 2 ^ t.length
  ·have e : vd t = (num 2 (fC t) : Int) - ((2 ^ t.length : Nat) : Int) + 1 := by unfold vd; rw [if_pos hq]
   rw [e, if_neg (by omega)]
   omega
  ·have e : vd t = (num 2 (fC t) : Int) := by unfold vd; rw [if_neg hq]
   rw [e, if_pos (by omega)]
   omega
 rw [this, ← bl, B6 _ (nC hb), AR hb]
theorem EW : tW 32768 = 16 ∧ EJ 32768 = [] := ⟨by decide +kernel, by
 unfold EJ
 rw [if_pos (.inr (by decide +kernel))]⟩
def rdStep (W : List (List UInt8)) (R : List UInt8) : Option (Int × List UInt8) := match J1 W R with
 | none => none
 | some c => if c = 16 then some (32768, R.drop (W.getD c []).length) else if (R.drop (W.getD c []).length).length < c then none else some (vd ((R.drop (W.getD c []).length).take c), (R.drop (W.getD c []).length).drop c)
def Fv (W : List (List UInt8)) (w : Nat) (kind : Int) : Nat → List Int → List UInt8 → Option (List Int × List UInt8)
 | 0, P, R => some (P, R)
 | n + 1, P, R => match rdStep W R with
  | none => none
  | some (d, R2) => Fv W w kind n (P ++ [(gs w P kind P.length + d) % 65536]) R2
theorem Eo {w : Nat} (hw : 1 ≤ w) (P Q : List Int) (kind : Int) {i : Nat} (h : i ≤ P.length) : gs w (P ++ Q) kind i = gs w P kind i := by
 unfold gs
 by_cases h0 : i = 0
 ·rw [if_pos h0, if_pos h0]
 have e : ∀ j, j < P.length → (P ++ Q).getD j 0 = P.getD j 0 := fun j hj => by
  rw [List.getD_eq_getElem?_getD, List.getD_eq_getElem?_getD, List.getElem?_append_left hj]
 rw [if_neg h0, if_neg h0, e (i - 1) (by omega), e (i - w) (by omega), e (i - w - 1) (by omega)]
theorem NZ {w : Nat} (hw : 1 ≤ w) (P : List Int) (kind x : Int) : ds w (P ++ [x]) kind = ds w P kind ++ [dfn x (gs w P kind P.length)] := by
 unfold ds;rw [List.length_append, List.length_singleton, List.range_succ, List.map_append, List.map_singleton]
 congr 1
 ·refine List.map_congr_left fun i hi => ?_
  have hi := List.mem_range.1 hi;rw [Eo hw _ _ _ (by omega), List.getD_eq_getElem?_getD, List.getD_eq_getElem?_getD, List.getElem?_append_left hi]
 ·rw [Eo hw _ _ _ (Nat.le_refl _), List.getD_eq_getElem?_getD, List.getElem?_append_right (Nat.le_refl _)]
  simp
theorem RC {g d : Int} (h : -32768 < d ∧ d ≤ 32768) : dfn ((g + d) % 65536) g = d := by
 unfold dfn
 split <;> omega
theorem step_ok {W : List (List UInt8)} (hb : El W) (hW : W.length ≤ 17) {R R2 : List UInt8} {d : Int} (hR : wO R = true) (h : rdStep W R = some (d, R2)) :
  (-32768 < d ∧ d ≤ 32768) ∧ EV W d = true ∧ R = yZ W d ++ R2 := by
 unfold rdStep at h
 rcases hf : J1 W R with _ | c
 ·rw [hf] at h; cases h
 rw [hf] at h;dsimp only at h;obtain ⟨u, hu, hu0, hub⟩ := BC hf
 have hc : c < W.length := by
  rcases Nat.lt_or_ge c W.length with q | q
  ·exact q
  ·rw [List.getElem?_eq_none q] at hu; cases hu
 have hg : W.getD c [] = u := by rw [List.getD_eq_getElem?_getD, hu]; rfl
 obtain ⟨T, rfl⟩ := hub;rw [sO, Bool.and_eq_true] at hR;rw [hg, List.drop_left] at h
 have ok : ∀ e, tW e = c → EV W e = true := fun e he => by
  unfold EV;rw [he, dT hc, Bool.true_and, hg];cases u
  ·exact absurd rfl hu0
  ·rfl
 by_cases h16 : c = 16
 ·rw [if_pos h16] at h
  injection h with h; injection h with h1 h2
  subst h1 h2;refine ⟨by decide, ok _ (by rw [EW.1, h16]), ?_⟩;unfold yZ;rw [EW.1, EW.2, ← h16, hg, List.append_nil]
 ·rw [if_neg h16] at h
  by_cases hl : T.length < c
  ·rw [if_pos hl] at h; cases h
  rw [if_neg hl] at h
  injection h with h; injection h with h1 h2
  have ht : wO (T.take c) = true := by
   have := hR.2;rw [← List.take_append_drop c T, sO, Bool.and_eq_true] at this;exact this.1
  have hlen : (T.take c).length = c := by rw [List.length_take]; omega
  obtain ⟨a1, a2, a3⟩ := J4 ht (by omega);rw [hlen] at a1;subst h1 h2;refine ⟨by omega, ok _ a1, ?_⟩;unfold yZ;rw [a1, a2, hg, List.append_assoc, List.take_append_drop]
theorem Pc (W : List (List UInt8)) (l : List Int) (d : Int) : AJ W (l ++ [d]) = AJ W l ++ yZ W d := by
 unfold AJ;rw [List.flatMap_append]
 simp
theorem Hq {W : List (List UInt8)} (hb : El W) (hW : W.length ≤ 17) {w : Nat} (hw : 1 ≤ w) {kind : Int} : ∀ (n : Nat) (P : List Int) (R D : List UInt8) (P2 : List Int) (R2 : List UInt8), wO R = true → (∀ e ∈ P, 0 ≤ e ∧ e ≤ 65535) → (ds w P kind).all (EV W) = true →
  Fv W w kind n P R = some (P2, R2) → P2.length = P.length + n ∧ (∀ e ∈ P2, 0 ≤ e ∧ e ≤ 65535) ∧ (ds w P2 kind).all (EV W) = true ∧ AJ W (ds w P kind) ++ R = AJ W (ds w P2 kind) ++ R2 ∧ wO R2 = true := by
 intro n
 induction n with
 | zero =>
  intro P R D P2 R2 hR hP ha h;unfold Fv at h
  injection h with h; injection h with h1 h2
  subst h1 h2;exact ⟨rfl, hP, ha, rfl, hR⟩
 | succ n ih =>
  intro P R D P2 R2 hR hP ha h;unfold Fv at h
  rcases hs : rdStep W R with _ | ⟨d, R1⟩
  ·rw [hs] at h; cases h
  rw [hs] at h;dsimp only at h;obtain ⟨hd, hok, hRR⟩ := step_ok hb hW hR hs
  have hR1 : wO R1 = true := by
   rw [hRR, sO, Bool.and_eq_true] at hR;exact hR.2
  have e := RC (g := gs w P kind P.length) hd
  obtain ⟨b1, b2, b3, b4, b5⟩ := ih (P ++ [(gs w P kind P.length + d) % 65536]) R1 D P2 R2 hR1 (fun x hx => by
   rcases List.mem_append.1 hx with q | q
   ·exact hP x q
   ·rw [List.mem_singleton.1 q]; omega) (by
   rw [NZ hw, e, List.all_append, ha, Bool.true_and, List.all_cons, hok]; rfl) h
  refine ⟨by rw [b1, List.length_append, List.length_singleton]; omega, b2, b3, ?_, b5⟩;rw [← b4, NZ hw, e, Pc, List.append_assoc, ← hRR]
theorem MV {a b : List UInt8} (h : a.length + b.length ≤ 140737488355328) : K9 a b = some (a ++ b) := by unfold K9; rw [if_pos h]
theorem U2 (N : Nat) (hN : 100 ≤ N) {W : List (List UInt8) × Int} (hb : El W.1) {d : Int} (hd : -32768 < d ∧ d ≤ 32768) {acc : List UInt8} (ha : acc.length ≤ 1000000) (K : List UInt8 → Option (List UInt8 × Int)) :
  (Option.bind (oE N (IntKind.u64.wrap (max d (IntKind.i64.wrap (0 - d))))) fun jA =>
  cond (decide ((W.1.length : Int) ≤ jA)) (
  some (([] : List UInt8), (4 : Int))) (
  Option.bind (idx W.1 jA) fun e7 =>
  cond (decide (e7 = ([] : List UInt8))) (
  some (([] : List UInt8), (4 : Int))) (
  Option.bind (idx W.1 jA) fun e8 =>
  Option.bind (K9 acc e8) fun b7 =>
  cond (decide (0 < jA)) (
  cond (decide (jA < 16)) (
  cond (decide (d < 0)) (
  Option.bind (nn jA) fun _ =>
  Option.bind (some (IntKind.i64.wrap (d + (IntKind.i64.wrap ((nX .i64 1 jA) - 1))))) fun x8 =>
  Option.bind (lJ N x8 jA) fun zE =>
  Option.bind (K9 b7 zE.1) fun b8 => K b8) (
  Option.bind (lJ N d jA) fun Ft =>
  Option.bind (K9 b7 Ft.1) fun b9 => K b9)) (K b7)) (K b7)))) = if EV W.1 d = true then K (acc ++ yZ W.1 d) else some ([], 4) := by
 have hc := I6 hd
 have hmx : IntKind.u64.wrap (max d (IntKind.i64.wrap (0 - d))) = (((max d (-d)).toNat : Nat) : Int) := by
  rw [gE (x := 0 - d) (by omega), IntWalk.u64_in _ (by omega)]; omega
 rw [hmx, len_eq N (by omega), aD, show bl (max d (-d)).toNat = tW d from rfl]
 by_cases h1 : W.1.length ≤ tW d
 ·rw [cT (dT (by omega)), if_neg];rw [show EV W.1 d = false by unfold EV; rw [dF (by omega)]; rfl]; simp
 rw [cF (dF (by omega)), eX]
 by_cases h2 : EV W.1 d = true
 rotate_left
 ·rw [Ry h2 (by omega), aD, cT (dT rfl), if_neg h2]
 obtain ⟨u, hu, hu0, hg, _⟩ := MT h2;have UY := (DK hb (tW d)).1;rw [hg] at UY;have hm := J3 hd;have hl := J2 (d := d);have hp := vI (d := tW d) hc;rw [hu, aD, cF (dF hu0), aD, MV (by omega), aD, if_pos h2];have e0 : acc ++ yZ W.1 d = acc ++ u ++ EJ d := by unfold yZ; rw [hg, List.append_assoc]
 rw [e0]
 by_cases h3 : tW d = 0
 ·rw [cF (dF (by omega)), show EJ d = [] by unfold EJ; rw [if_pos (.inl h3)], List.append_nil]
 rw [cT (dT (by omega))]
 by_cases h4 : tW d = 16
 ·rw [cF (dF (by omega)), show EJ d = [] by unfold EJ; rw [if_pos (.inr h4)], List.append_nil]
 have hv := Zs h3 h4 hd;have h0 : d ≠ 0 := fun e => h3 (GG.2 e)
 have hmo : EJ d = wF (lZ 2 (tW d) (if 0 < d then d else d + ((2 ^ tW d : Nat) : Int) - 1).toNat) := by unfold EJ; rw [if_neg (by omega)]
 rw [cT (dT (by omega))]
 by_cases h5 : d < 0
 ·rw [if_neg (by omega)] at hv hmo;rw [cT (dT h5), rY, aD, AS hc, gE (x := _ - 1) (by omega), show d + (((2 ^ tW d : Nat) : Int) - 1) = d + ((2 ^ tW d : Nat) : Int) - 1 by omega, gE (by omega), aD, C5 N hN, hv, if_pos rfl, aD, Int.toNat_natCast, ← hmo, MV (by rw [List.length_append]; show acc.length + u.length + (EJ d).length ≤ _; omega), aD]
 ·rw [if_pos (by omega)] at hv hmo;rw [cF (dF h5), C5 N hN, hv, if_pos rfl, aD, Int.toNat_natCast, ← hmo, MV (by rw [List.length_append]; show acc.length + u.length + (EJ d).length ≤ _; omega), aD]
theorem RD (N : Nat) (hN : 100 ≤ N) {W : List (List UInt8) × Int} (hb : El W.1) {w : Nat} (hw : 1 ≤ w ∧ w ≤ 64) {kind : Int} (hk : 1 ≤ kind ∧ kind ≤ 7) (H : Int) {P : List Int} (hP : ∀ e ∈ P, 0 ≤ e ∧ e ≤ 65535) (hl : P.length ≤ 4096) (kk) : ∀ (j k fuel : Nat) (acc : List UInt8), k + j = P.length → j < fuel → acc.length ≤ 31 * k →
  gL N (w : Int) H P kind W kk fuel (acc, (k : Int)) = if ((ds w P kind).drop k).all (EV W.1) = true then kk (acc ++ AJ W.1 ((ds w P kind).drop k), (P.length : Int)) else some ([], 4) := by
 intro j;have hdl := En w P kind
 induction j with
 | zero =>
  intro k fuel acc hkj hf ha;obtain ⟨fuel, rfl⟩ : ∃ q, fuel = q + 1 := ⟨fuel - 1, by omega⟩
  obtain rfl : k = P.length := by omega
  unfold gL;rw [cF (dF (by omega)), ← hdl, List.drop_length, if_pos (by rfl)]
  simp [AJ]
 | succ j ih =>
  intro k fuel acc hkj hf ha;obtain ⟨fuel, rfl⟩ : ∃ q, fuel = q + 1 := ⟨fuel - 1, by omega⟩
  have hlt : k < P.length := by omega
  have hnx : IntKind.i64.wrap ((k : Int) + 1) = ((k + 1 : Nat) : Int) := by rw [gE (by omega)]; rfl
  obtain ⟨p1, p2⟩ := C8 hP hlt;have hg := NS hP (kind := kind) hw.1 hlt
  have hdr : (ds w P kind).drop k = dfn (P.getD k 0) (gs w P kind k) :: (ds w P kind).drop (k + 1) := by
   rw [List.drop_eq_getElem_cons (by omega)]
   congr 1
   have := U1 w P kind hlt;rw [List.getElem?_eq_getElem (by omega)] at this;exact Option.some.inj this
  have hd := MR (P.getD k 0) (gs w P kind k)
  have fin : (if EV W.1 (dfn (P.getD k 0) (gs w P kind k)) = true then gL N (w : Int) H P kind W kk fuel (acc ++ yZ W.1 (dfn (P.getD k 0) (gs w P kind k)), ((k + 1 : Nat) : Int)) else some ([], 4)) = if ((ds w P kind).drop k).all (EV W.1) = true then kk (acc ++ AJ W.1 ((ds w P kind).drop k), (P.length : Int)) else some ([], 4) := by
   rw [hdr, List.all_cons, BD]
   by_cases h : EV W.1 (dfn (P.getD k 0) (gs w P kind k)) = true
   ·have := I7 hb hd;rw [if_pos h, ih (k + 1) fuel _ (by omega) (by omega) (by rw [List.length_append]; omega), h, Bool.true_and, List.append_assoc]
   ·rw [if_neg h, (Bool.not_eq_true _).mp h, Bool.false_and, if_neg (by decide)]
  unfold gL
  have hx : IntKind.i64.wrap (IntKind.u16.wrap (IntKind.i64.wrap (P.getD k 0 - gs w P kind k))) = (P.getD k 0 - gs w P kind k) % 65536 := by
   rw [gE (x := P.getD k 0 - _) (by omega), show IntKind.u16.wrap (P.getD k 0 - gs w P kind k) = (P.getD k 0 - gs w P kind k) % 65536 by simp [IntKind.wrap, IntKind.bits, IntKind.signed], gE (by omega)]
  rw [cT (dT (by omega)), p1, aD, Hm hP N hw hk H hlt hl, aD, hx, aD, hnx];refine Eq.trans ?_ fin
  by_cases h : 32768 < (P.getD k 0 - gs w P kind k) % 65536
  ·have e : dfn (P.getD k 0) (gs w P kind k) = (P.getD k 0 - gs w P kind k) % 65536 - 65536 := by unfold dfn; rw [if_pos h]
   rw [cT (dT h), gE (x := _ - 65536) (by omega), aD, ← e];exact U2 N hN hb hd (by omega) fun b => gL N (w : Int) H P kind W kk fuel (b, ((k + 1 : Nat) : Int))
  ·have e : dfn (P.getD k 0) (gs w P kind k) = (P.getD k 0 - gs w P kind k) % 65536 := by unfold dfn; rw [if_neg h]
   rw [cF (dF h), ← e];exact U2 N hN hb hd (by omega) fun b => gL N (w : Int) H P kind W kk fuel (b, ((k + 1 : Nat) : Int))
theorem Hr (N : Nat) (hN : 200000 ≤ N) (W H : Int) (P : List Int) (kind : Int) (c : List Int) : wW N W H P kind c = some (qB W H P kind c) := by
 unfold wW qB;rw [Rw N (by omega), aD]
 by_cases hp : I5 W H P = true
 rotate_left
 ·rw [(Bool.not_eq_true _).mp hp, Bool.not_false, cT rfl, if_pos rfl]
 rw [hp, Bool.not_true, cF rfl, if_neg (by decide)]
 by_cases h1 : kind < 1
 ·rw [cT (dT h1), if_pos (by omega)]
 rw [cF (dF h1)]
 by_cases h2 : 7 < kind
 ·rw [cT (dT h2), if_pos (by omega)]
 rw [cF (dF h2), if_neg (by omega), Hk N (by omega), aD]
 by_cases h3 : jK c = 0
 rotate_left
 ·rw [cT (by rw [dF h3]; rfl), if_pos h3]
 obtain ⟨w, k, rfl, rfl, a1, a2, a3, a4, a5, a6, hP⟩ := EU hp;rw [cF (by rw [dT h3]; rfl), if_neg (by omega), Int.toNat_natCast];have hdl := En w P kind;have key := RD N (by omega) (W := (wordsOf c, jK c)) (hG c) ⟨a1, a2⟩ (kind := kind) (by omega) (k : Int) hP (by omega) (fun (l3, i2) => Option.bind (sH N l3) fun Bu => some (Bu.1, (0 : Int))) P.length 0 N [] (by omega) (by omega) (by simp);refine Eq.trans key ?_;rw [List.drop_zero]
 dsimp only
 by_cases h4 : (ds w P kind).all (EV (wordsOf c)) = true
 ·rw [if_pos h4, if_pos h4];have hcl := C9 (hG c) (Ly w P kind);rw [List.nil_append, Hh N (by omega) (by omega), aD, if_pos (DL (hG c) _)]
  rfl
 ·rw [if_neg h4, if_neg h4]
theorem J5 {α : Type} {xs : List α} (h : 1 ≤ xs.length) : Bv xs 0 1 = some (xs.take 1) := wZ (k := 1) h
theorem J6 {α : Type} {xs : List α} (h : 1 ≤ xs.length) : Bv xs 1 (xs.length : Int) = some (xs.drop 1) := BB (k := 1) h
theorem N0 {a b : List UInt8} (h : a.length + b.length ≤ 9223372036854775807) : G4 a b = some (a ++ b) := by unfold G4; rw [if_pos h]
theorem Zu (N : Nat) (hN : 100 ≤ N) (c : UInt8) : uF N [c] = some (mS [c]) := TH N (s := [c]) (by simp) (by simp; omega)
theorem I8 (N : Nat) (kk) : ∀ (fuel : Nat) (x : List UInt8 × List UInt8), uG N kk fuel x = j3 N 1 kk fuel x
 | 0, _ => rfl
 | fuel + 1, (a, b) => by
  unfold uG j3;simp only [I8 N kk fuel]
theorem J7 (N : Nat) (hN : 100 ≤ N) {n : Nat} (hn : n ≤ 15) : ∀ (j fuel : Nat) (b s : List UInt8), n ≤ b.length + 8 * j → j < fuel → b.length ≤ n + 7 →
  ∃ b2 s2, (∀ kk, j3 N (n : Int) kk fuel (b, s) = kk (b2, s2)) ∧ b ++ mS s = b2 ++ mS s2 ∧ b2.length ≤ n + 7 ∧ (b2.length < n → s2 = []) := by
 intro j
 induction j with
 | zero =>
  intro fuel b s hj hf hb;obtain ⟨fuel, rfl⟩ : ∃ q, fuel = q + 1 := ⟨fuel - 1, by omega⟩
  refine ⟨b, s, fun kk => ?_, rfl, hb, fun h => by omega⟩;unfold j3;rw [cF (dF (by omega))]
 | succ j ih =>
  intro fuel b s hj hf hb;obtain ⟨fuel, rfl⟩ : ∃ q, fuel = q + 1 := ⟨fuel - 1, by omega⟩
  by_cases h : b.length < n
  rotate_left
  ·refine ⟨b, s, fun kk => ?_, rfl, hb, fun h2 => absurd h2 h⟩;unfold j3;rw [cF (dF (by omega))]
  cases s with
  | nil =>
   refine ⟨b, [], fun kk => ?_, rfl, hb, fun _ => rfl⟩;unfold j3;rw [cT (dT (by omega)), cF (by rw [dT rfl]; rfl)]
  | cons c s =>
   have h8 : (mS [c]).length = 8 := BE [c];obtain ⟨b2, s2, h1, h2, h3, h4⟩ := ih fuel (b ++ mS [c]) s (by rw [List.length_append]; omega) (by omega) (by rw [List.length_append]; omega);refine ⟨b2, s2, fun kk => ?_, ?_, h3, h4⟩
   ·rw [← h1 kk]
    conv => lhs; unfold j3
    rw [cT (dT (by omega)), cT (by rw [dF (by simp)]; rfl), J5 (by simp), aD, show (c :: s).take 1 = [c] from rfl, Zu N hN, aD, N0 (by omega), aD, J6 (by simp), aD]
    rfl
   ·rw [Pb, ← List.append_assoc, h2]
theorem RE {b T : List UInt8} {n : Nat} (h : n ≤ b.length) : (b ++ T).take n = b.take n ∧ (b ++ T).drop n = b.drop n ++ T := ⟨List.take_append_of_le_length h, List.drop_append_of_le_length h⟩
theorem aDe {W : List (List UInt8)} {b : List UInt8} (h : KN W b = 5) : ∃ w ∈ W, w ≠ [] ∧ b <+: w := by
 unfold KN at h
 split at h
 ·rename_i q
  rw [List.any_eq_true] at q;obtain ⟨w, hw, h2⟩ := q;rw [Bool.and_eq_true, List.isPrefixOf_iff_prefix] at h2;exact ⟨w, hw, by intro e; rw [e] at h2; simp at h2, h2.2⟩
 ·cases h
theorem TS {W : List (List UInt8)} {b : List UInt8} (h : KN W b ≠ 5) : ∀ w ∈ W, w ≠ [] → ¬ b <+: w := fun w hw h0 hp => by
 refine h ?_;unfold KN;rw [if_pos];rw [List.any_eq_true];exact ⟨w, hw, by rw [Bool.and_eq_true, List.isPrefixOf_iff_prefix]; exact ⟨by cases w; exact absurd rfl h0; rfl, hp⟩⟩
theorem J8 {W : List (List UInt8)} {b : List UInt8} (h : ∀ w ∈ W, w ≠ [] → ¬ w <+: b) : J1 W b = none := by
 unfold J1;rw [List.findIdx?_eq_none_iff];intro w hw;rw [Bool.eq_false_iff];intro q;obtain ⟨h0, h1⟩ := GF.1 q;exact h w hw h0 h1
theorem TT (N : Nat) (hN : 5000 ≤ N) {c : List Int} (hc : jK c = 0) {R : List UInt8} (hR : wO R = true) : ∀ (j k fuel : Nat) (b s : List UInt8), k + j = 16 → k ≤ R.length → j < fuel → b.length ≤ 7 → R.drop k = b ++ mS s → (∀ w ∈ wordsOf c, w ≠ [] → w.length ≤ k → ¬ (k ≠ w.length ∧ w <+: R)) →
  ∃ b2 s2 w2, b2.length ≤ 7 ∧ ((∃ i u, J1 (wordsOf c) R = some i ∧ (wordsOf c)[i]? = some u ∧ (∀ i4 i5 kk, jG N c kk fuel (b, s, i4, i5, R.take k) = kk (b2, s2, (i : Int), 0, w2)) ∧ R.drop u.length = b2 ++ mS s2) ∨
   (J1 (wordsOf c) R = none ∧ ∀ i4 i5 kk, jG N c kk fuel (b, s, i4, i5, R.take k) = kk (b2, s2, 0, 1, w2))) := by
 intro j;have hbW := hG c;have hpf := Em c
 generalize hWW : wordsOf c = W at *
 induction j with
 | zero =>
  intro k fuel b s hkj hkR hf hb hd hno;obtain ⟨fuel, rfl⟩ : ∃ q, fuel = q + 1 := ⟨fuel - 1, by omega⟩
  have hlk : (R.take k).length = k := by rw [List.length_take]; omega
  have WV : wO (R.take k) = true := by rw [← List.take_append_drop k R, sO, Bool.and_eq_true] at hR; exact hR.1
  have hrd : uE N c (R.take k) 1 = some (O9 W 1 [] (R.take k)) := by
   rw [I3 N c _ 1 (by omega) ⟨hN, by omega⟩];unfold NR;rw [if_neg (by omega), if_neg (by omega), if_pos WV, hWW]; rfl
  have hnone : ∀ w ∈ W, w ≠ [] → ¬ w <+: R := fun w hw h0 hp => hno w hw h0 (by have := (hbW w hw).2; omega) ⟨by have := (hbW w hw).2; omega, hp⟩
  have h1 : J1 W (R.take k) = none := J8 fun w hw h0 hp => hnone w hw h0 (hp.trans (List.take_prefix _ _))
  have h2 : KN W (R.take k) ≠ 5 := fun h => by
   obtain ⟨w, hw, _, hp⟩ := aDe h;have := hp.length_le;have := (hbW w hw).2
   omega
  have Lz : O9 W 1 [] (R.take k) = ([], [], KN W (R.take k)) := by unfold O9; rw [h1]
  obtain ⟨b2, s2, f1, f2, f3, f4⟩ := J7 N (by omega) (n := 1) (by omega) 1 N b s (by omega) (by omega) (by omega);have WW : ∀ kk, j3 N 1 kk N (b, s) = kk (b2, s2) := f1
  by_cases h3 : b2.length < 1
  ·refine ⟨b2, s2, R.take k, by omega, .inr ⟨J8 hnone, fun i4 i5 kk => ?_⟩⟩;unfold jG;rw [hrd, aD, Lz]
   dsimp only
   rw [cF (dF (FN W _)), I8, WW]
   dsimp only
   rw [cT (dT (by omega)), dF h2]; rfl
  ·refine ⟨b2.drop 1, s2, R.take k, by rw [List.length_drop]; omega, .inr ⟨J8 hnone, fun i4 i5 kk => ?_⟩⟩;unfold jG;rw [hrd, aD, Lz]
   dsimp only
   rw [cF (dF (FN W _)), I8, WW]
   dsimp only
   rw [cF (dF (by omega)), J5 (by omega), aD, J6 (by omega), aD, cT (by rw [dF h2]; rfl)]
 | succ j ih =>
  intro k fuel b s hkj hkR hf hb hd hno;obtain ⟨fuel, rfl⟩ : ∃ q, fuel = q + 1 := ⟨fuel - 1, by omega⟩
  have hlk : (R.take k).length = k := by rw [List.length_take]; omega
  have WV : wO (R.take k) = true := by
   have := hR;rw [← List.take_append_drop k R, sO, Bool.and_eq_true] at this; exact this.1
  have hrd : uE N c (R.take k) 1 = some (O9 W 1 [] (R.take k)) := by
   rw [I3 N c _ 1 (by omega) ⟨hN, by omega⟩];unfold NR;rw [if_neg (by omega), if_neg (by omega), if_pos WV, hWW]; rfl
  rcases h1 : J1 W (R.take k) with _ | i
  rotate_left
  ·obtain ⟨u, hu, hu0, hub⟩ := BC h1;have huR := hub.trans (List.take_prefix k R)
   have hul : u.length = k := by
    have hle := hub.length_le;have := hno u (List.mem_of_getElem? hu) hu0 (by omega)
    by_cases e : k = u.length
    ·exact e.symm
    ·exact absurd ⟨e, huR⟩ this
   refine ⟨b, s, R.take k, hb, .inl ⟨i, u, Rn hpf hu hu0 huR, hu, fun i4 i5 kk => ?_, by rw [hul, hd]⟩⟩;unfold jG;rw [hrd, aD];have Lz : O9 W 1 [] (R.take k) = ([(i : Int)], (R.take k).drop (W.getD i []).length, 0) := by unfold O9; rw [h1]; rfl
   rw [Lz]
   rfl
  have hnone : ∀ w ∈ W, w ≠ [] → w.length ≤ k → ¬ w <+: R := fun w hw h0 hl hp => Hl h1 w hw h0 (by
   rw [List.prefix_iff_eq_take.1 hp];have : R.take w.length = (R.take k).take w.length := by rw [List.take_take, Nat.min_eq_left hl]
   rw [this]
   exact List.take_prefix _ _)
  have Lz : O9 W 1 [] (R.take k) = ([], [], KN W (R.take k)) := by unfold O9; rw [h1]
  obtain ⟨b2, s2, f1, f2, f3, f4⟩ := J7 N (by omega) (n := 1) (by omega) 1 N b s (by omega) (by omega) (by omega);have WW : ∀ kk, j3 N 1 kk N (b, s) = kk (b2, s2) := f1
  by_cases h3 : b2.length < 1
  ·have hs2 := f4 h3;have hb2 : b2 = [] := List.length_eq_zero_iff.1 (by omega)
   have hfull : R.length ≤ k := by
    rw [f2, hb2, hs2] at hd;have := congrArg List.length hd;rw [List.length_drop] at this
    simp [Hp] at this
    omega
   have Rq : J1 W R = none := by rw [List.take_of_length_le hfull] at h1; exact h1
   refine ⟨b2, s2, R.take k, by omega, .inr ⟨Rq, fun i4 i5 kk => ?_⟩⟩;unfold jG;rw [hrd, aD, Lz]
   dsimp only
   rw [cF (dF (FN W _)), I8, WW]
   dsimp only
   rw [cT (dT (by omega))]
   cases (!decide (KN W (R.take k) = 5)) <;> rfl
  by_cases h2 : KN W (R.take k) = 5
  rotate_left
  ·have Rq : J1 W R = none := J8 fun w hw h0 hp => by
    rcases Nat.lt_or_ge k w.length with hl | hl
    ·refine TS h2 w hw h0 ?_;exact List.prefix_of_prefix_length_le (List.take_prefix k R) hp (by omega)
    ·exact hnone w hw h0 hl hp
   refine ⟨b2.drop 1, s2, R.take k, by rw [List.length_drop]; omega, .inr ⟨Rq, fun i4 i5 kk => ?_⟩⟩;unfold jG;rw [hrd, aD, Lz]
   dsimp only
   rw [cF (dF (FN W _)), I8, WW]
   dsimp only
   rw [cF (dF (by omega)), J5 (by omega), aD, J6 (by omega), aD, cT (by rw [dF h2]; rfl)]
  obtain ⟨t1, t2⟩ := RE (b := b2) (T := mS s2) (n := 1) (by omega);rw [f2] at hd
  have hlt : k < R.length := by
   have := congrArg List.length hd;rw [List.length_drop, List.length_append] at this
   omega
  have htk : R.take k ++ b2.take 1 = R.take (k + 1) := by
   rw [← t1, ← hd, List.take_add]
  have hdk : R.drop (k + 1) = b2.drop 1 ++ mS s2 := by rw [← t2, ← hd, List.drop_drop]
  obtain ⟨b3, s3, w3, g1, g2⟩ := ih (k + 1) fuel (b2.drop 1) s2 (by omega) (by omega) (by omega) (by rw [List.length_drop]; omega) hdk (fun w hw h0 hl hx => by
   rcases Nat.lt_or_ge k w.length with q | q
   ·exact hx.1 (by omega)
   ·exact hnone w hw h0 q hx.2)
  have step : ∀ i4 i5 kk, jG N c kk (fuel + 1) (b, s, i4, i5, R.take k) = jG N c kk fuel (b2.drop 1, s2, i4, i5, R.take (k + 1)) := fun i4 i5 kk => by
   conv => lhs; unfold jG
   rw [hrd, aD, Lz]
   dsimp only
   rw [cF (dF (FN W _)), I8, WW]
   dsimp only
   rw [cF (dF (by omega)), J5 (by omega), aD, J6 (by omega), aD, cF (by rw [dT h2]; rfl), N0 (by rw [hlk, List.length_take]; omega), aD, htk]
  refine ⟨b3, s3, w3, g1, ?_⟩
  rcases g2 with ⟨i, u, a1, a2, a3, a4⟩ | ⟨a1, a2⟩
  ·exact .inl ⟨i, u, a1, a2, fun i4 i5 kk => by rw [step, a3], a4⟩
  ·exact .inr ⟨a1, fun i4 i5 kk => by rw [step, a2]⟩
theorem RF {t : List UInt8} (hb : wO t = true) (h : 1 ≤ t.length) : ∃ x, t[0]? = some x ∧ (((x.toNat : Int) = 48) ↔ 2 * num 2 (fC t) < 2 ^ t.length) := by
 cases t with
 | nil => simp at h
 | cons x t =>
  refine ⟨x, rfl, ?_⟩;have hl := u7 (B := 2) (fC t) (nC (by unfold wO at hb ⊢; rw [List.all_cons, Bool.and_eq_true] at hb; exact hb.2));have bl : (fC t).length = t.length := by simp [fC]
  have hx : x = 48 ∨ x = 49 := by unfold wO at hb; rw [List.all_cons, Bool.and_eq_true] at hb; exact of_decide_eq_true hb.1
  rw [show fC (x :: t) = (x.toNat - 48) :: fC t from rfl, EQ, List.length_cons, Nat.pow_succ, bl];rw [bl] at hl
  rcases hx with rfl | rfl
  ·rw [show (48 : UInt8).toNat = 48 from rfl]
   constructor
   ·intro _; omega
   ·intro _; rfl
  ·rw [show (49 : UInt8).toNat = 49 from rfl]
   constructor
   ·intro h; omega
   ·intro h; omega
theorem N1 {t : List UInt8} (h : 2 * num 2 (fC t) < 2 ^ t.length) : vd t = (num 2 (fC t) : Int) - (((2 ^ t.length : Nat) : Int) - 1) := by unfold vd; rw [if_pos h]; omega
theorem N2 {t : List UInt8} (h : ¬ 2 * num 2 (fC t) < 2 ^ t.length) : vd t = (num 2 (fC t) : Int) := by unfold vd; rw [if_neg h]
theorem RG {P : List Int} {x y : Int} : (P ++ [x]).set P.length y = P ++ [y] := by
 rw [List.set_append_right _ _ (Nat.le_refl _), Nat.sub_self]; rfl
theorem RH (N : Nat) (hN : 5000 ≤ N) {c : List Int} (hc : jK c = 0) {w h : Nat} (hw : 1 ≤ w ∧ w ≤ 64) (hh : 1 ≤ h ∧ h ≤ 64) {kind : Int} (hk : 1 ≤ kind ∧ kind ≤ 7) (kk) : ∀ (j fuel : Nat) (P : List Int) (b s : List UInt8), P.length + j = w * h → j < fuel → (∀ e ∈ P, 0 ≤ e ∧ e ≤ 65535) → b.length ≤ 7 → wO (b ++ mS s) = true →
  (Fv (wordsOf c) w kind j P (b ++ mS s) = none ∧ fB N (w : Int) (h : Int) kind c kk fuel (P, b, s, (P.length : Int)) = some (0, 0, [], 1)) ∨
  (∃ P2 b2 s2, Fv (wordsOf c) w kind j P (b ++ mS s) = some (P2, b2 ++ mS s2) ∧ b2.length ≤ 7 ∧ fB N (w : Int) (h : Int) kind c kk fuel (P, b, s, (P.length : Int)) = kk (P2, b2, s2, ((w * h : Nat) : Int))) := by
 have hm := Nat.mul_le_mul hw.2 hh.2;have RJ : IntKind.i64.wrap ((w : Int) * (h : Int)) = ((w * h : Nat) : Int) := by rw [show (w : Int) * (h : Int) = ((w * h : Nat) : Int) by simp, gE (by omega)]
 have hbW := hG c
 have RK : (wordsOf c).length ≤ 17 := by
  rw [sD hc];obtain ⟨ns, rfl, _, _, Lv, _⟩ := wY hc;rw [hF]; exact Lv
 intro j
 induction j with
 | zero =>
  intro fuel P b s hj hf hP hb hB;obtain ⟨fuel, rfl⟩ : ∃ q, fuel = q + 1 := ⟨fuel - 1, by omega⟩
  refine .inr ⟨P, b, s, rfl, hb, ?_⟩;unfold fB;rw [RJ, cF (dF (by omega)), show P.length = w * h by omega]
 | succ j ih =>
  intro fuel P b s hj hf hP hb hB;obtain ⟨fuel, rfl⟩ : ∃ q, fuel = q + 1 := ⟨fuel - 1, by omega⟩
  have hlt : P.length < w * h := by omega
  have hnx : IntKind.i64.wrap ((P.length : Int) + 1) = ((P.length + 1 : Nat) : Int) := by rw [gE (by omega)]; rfl
  have Zv : ∀ e ∈ P ++ [0], 0 ≤ e ∧ e ≤ 65535 := fun e he => by
   rcases List.mem_append.1 he with q | q
   ·exact hP e q
   ·rw [List.mem_singleton.1 q]; decide
  have hP1 : (P ++ [(0 : Int)]).length = P.length + 1 := by simp
  have hg : nM N (w : Int) (h : Int) (P ++ [0]) kind (P.length : Int) = some (gs w P kind P.length) := by
   rw [Hm Zv N hw hk _ (by omega) (by omega), Eo hw.1 _ _ _ (Nat.le_refl _)]
  have hgi : -65535 ≤ gs w P kind P.length ∧ gs w P kind P.length ≤ 131070 := by
   rw [← Eo hw.1 P [0] kind (Nat.le_refl _)];exact NS Zv hw.1 (by omega)
  have hset : ∀ y : Int, v6 (P ++ [0]) (P.length : Int) y = some (P ++ [y]) := fun y => by
   rw [DD (by omega), Int.toNat_natCast, RG]
  have hix : idx (P ++ [(0 : Int)]) (P.length : Int) = some 0 := by rw [eX]; simp
  have hval : ∀ d : Int, -32768 < d ∧ d ≤ 32768 → IntKind.i64.wrap (IntKind.u16.wrap (IntKind.i64.wrap (gs w P kind P.length + d))) = (gs w P kind P.length + d) % 65536 := fun d hd => by
   rw [gE (x := gs w P kind P.length + d) (by omega), show IntKind.u16.wrap (gs w P kind P.length + d) = (gs w P kind P.length + d) % 65536 by simp [IntKind.wrap, IntKind.bits, IntKind.signed], gE (by omega)]
  have go : ∀ (d : Int) (b2 s2 : List UInt8), b2.length ≤ 7 → rdStep (wordsOf c) (b ++ mS s) = some (d, b2 ++ mS s2) → 
    fB N (w : Int) (h : Int) kind c kk (fuel + 1) (P, b, s, (P.length : Int)) = fB N (w : Int) (h : Int) kind c kk fuel (P ++ [(gs w P kind P.length + d) % 65536], b2, s2, ((P.length + 1 : Nat) : Int)) →
    (Fv (wordsOf c) w kind (j + 1) P (b ++ mS s) = none ∧ fB N (w : Int) (h : Int) kind c kk (fuel + 1) (P, b, s, (P.length : Int)) = some (0, 0, [], 1)) ∨
    (∃ P2 b2 s2, Fv (wordsOf c) w kind (j + 1) P (b ++ mS s) = some (P2, b2 ++ mS s2) ∧ b2.length ≤ 7 ∧ fB N (w : Int) (h : Int) kind c kk (fuel + 1) (P, b, s, (P.length : Int)) = kk (P2, b2, s2, ((w * h : Nat) : Int))) := by
   intro d b2 s2 h1 h2 h3;obtain ⟨hd, _, hRR⟩ := step_ok hbW RK hB h2
   have hB2 : wO (b2 ++ mS s2) = true := by
    rw [hRR, sO, Bool.and_eq_true] at hB;exact hB.2
   have hl : (P ++ [(gs w P kind P.length + d) % 65536]).length = P.length + 1 := by simp
   have := ih fuel (P ++ [(gs w P kind P.length + d) % 65536]) b2 s2 (by omega) (by omega) (fun e he => by
    rcases List.mem_append.1 he with q | q
    ·exact hP e q
    ·rw [List.mem_singleton.1 q]; omega) h1 hB2
   have e : Fv (wordsOf c) w kind (j + 1) P (b ++ mS s) = Fv (wordsOf c) w kind j (P ++ [(gs w P kind P.length + d) % 65536]) (b2 ++ mS s2) := by
    conv => lhs; unfold Fv
    rw [h2]
   rw [hl] at this;rw [e, h3];exact this
  have bad : rdStep (wordsOf c) (b ++ mS s) = none → Fv (wordsOf c) w kind (j + 1) P (b ++ mS s) = none := fun q => by unfold Fv; rw [q]
  obtain ⟨b2, s2, w2, n1, n2⟩ := TT N hN hc hB 16 0 N b s rfl (by omega) (by omega) hb rfl (fun u hu h0 hl hx => hx.1 (by omega));have start : fB N (w : Int) (h : Int) kind c kk (fuel + 1) (P, b, s, (P.length : Int)) = fB N (w : Int) (h : Int) kind c kk (fuel + 1) (P, b, s, (P.length : Int)) := rfl
  rcases n2 with ⟨i, u, a1, a2, a3, a4⟩ | ⟨a1, a2⟩
  rotate_left
  ·refine .inl ⟨bad (by unfold rdStep; rw [a1]), ?_⟩;unfold fB;rw [RJ, cT (dT (by omega)), iO (by simp; omega), aD];refine (a2 0 0 _).trans ?_
   rfl
  have hgd : (wordsOf c).getD i [] = u := by rw [List.getD_eq_getElem?_getD, a2]; rfl
  have hil : i < (wordsOf c).length := (List.getElem?_eq_some_iff.1 a2).1
  have hst : rdStep (wordsOf c) (b ++ mS s) = if i = 16 then some (32768, b2 ++ mS s2) else if (b2 ++ mS s2).length < i then none else some (vd ((b2 ++ mS s2).take i), (b2 ++ mS s2).drop i) := by
   unfold rdStep;rw [a1]
   dsimp only
   rw [hgd, a4]
  by_cases h16 : i = 16
  ·refine go 32768 b2 s2 n1 (by rw [hst, if_pos h16]) ?_
   conv => lhs; unfold fB
   rw [RJ, cT (dT (by omega)), iO (by simp; omega), aD];refine (a3 0 0 _).trans ?_
   dsimp only
   rw [cF (by rfl), cT (dT (by omega)), hg, aD, hix, aD, hval _ (by decide), hset, aD, hnx]
  rw [if_neg h16] at hst
  by_cases h0 : i = 0
  ·subst h0;refine go 0 b2 s2 n1 (by rw [hst, if_neg (by omega), List.take_zero, List.drop_zero]; rfl) ?_
   conv => lhs; unfold fB
   rw [RJ, cT (dT (by omega)), iO (by simp; omega), aD];refine (a3 0 0 _).trans ?_
   dsimp only
   rw [cF (by rfl), cF (dF (by omega)), cF (dF (by omega)), hg, aD, hix, aD, hval _ (by decide), hset, aD, hnx]
  obtain ⟨b3, s3, f1, f2, f3, f4⟩ := J7 N (by omega) (n := i) (by omega) 2 N b2 s2 (by omega) (by omega) (by omega);rw [f2] at hst
  by_cases hs : b3.length < i
  ·have hs3 := f4 hs;refine .inl ⟨bad (by rw [hst, hs3, Hp, List.append_nil, if_pos hs]), ?_⟩;unfold fB;rw [RJ, cT (dT (by omega)), iO (by simp; omega), aD];refine (a3 0 0 _).trans ?_
   dsimp only
   rw [cF (by rfl), cF (dF (by omega)), cT (dT (by omega)), f1]
   dsimp only
   rw [cT (dT (by omega))]
  obtain ⟨t1, t2⟩ := RE (b := b3) (T := mS s3) (n := i) (by omega)
  have hB3 : wO (b3.take i) = true := by
   have e : b ++ mS s = u ++ (b3.take i ++ (b3.drop i ++ mS s3)) := by
    obtain ⟨u2, hu2, _, hub⟩ := BC a1;rw [a2] at hu2;cases hu2;obtain ⟨T, hT⟩ := hub;rw [← hT, List.drop_left] at a4;rw [← hT, a4, f2, ← List.append_assoc (b3.take i), List.take_append_drop]
   rw [e, sO, sO, Bool.and_eq_true, Bool.and_eq_true] at hB;exact hB.2.1
  have hlen : (b3.take i).length = i := by rw [List.length_take]; omega
  rw [if_neg (by rw [List.length_append]; omega), t1, t2] at hst;obtain ⟨_, _, v1, v2⟩ := J4 hB3 (by omega);have hvl := u7 (B := 2) (fC (b3.take i)) (nC hB3);have bl : (fC (b3.take i)).length = i := by simp only [fC, List.length_map]; exact hlen
  rw [bl] at hvl;have aDf := vI (d := i) (by omega);obtain ⟨x, x1, x2⟩ := RF hB3 (by omega);rw [hlen] at x2;refine go (vd (b3.take i)) (b3.drop i) s3 (by rw [List.length_drop]; omega) hst ?_
  conv => lhs; unfold fB
  rw [RJ, cT (dT (by omega)), iO (by simp; omega), aD];refine (a3 0 0 _).trans ?_
  dsimp only
  rw [cF (by rfl), cF (dF (by omega)), cT (dT (by omega)), f1]
  dsimp only
  rw [cF (dF (by omega)), wZ (by omega), aD, BB (by omega), aD, MO N (by omega) (by omega), aD, if_pos hB3, if_pos (by omega), show idx (b3.take i) 0 = (b3.take i)[0]? from eX _ 0, x1, aD]
  dsimp only
  by_cases hx : 2 * num 2 (fC (b3.take i)) < 2 ^ i
  ·have hv := N1 (t := b3.take i) (by rw [hlen]; exact hx);rw [hlen] at hv;rw [cT (dT (x2.2 hx)), rY, aD, AS (by omega), gE (x := _ - 1) (by omega), gE (x := _ - _) (by omega), aD, hg, aD, hix, aD, ← hv, hval _ (by omega), hset, aD, hnx]
  ·have hv := N2 (t := b3.take i) (by rw [hlen]; exact hx);rw [cF (dF (fun q => hx (x2.1 q))), hg, aD, hix, aD, ← hv, hval _ (by omega), hset, aD, hnx]
def mT (s : List UInt8) (W H kind : Int) (c : List Int) : Int × Int × List Int × Int :=
 if ¬ (1 ≤ W ∧ W ≤ 64) then (0, 0, [], 3) else if ¬ (1 ≤ H ∧ H ≤ 64) then (0, 0, [], 3) else if ¬ (1 ≤ kind ∧ kind ≤ 7) then (0, 0, [], 6) else if jK c ≠ 0 then (0, 0, [], jK c) else
 match Fv (wordsOf c) W.toNat kind (W.toNat * H.toNat) [] (mS s) with
 | none => (0, 0, [], 1)
 | some (P, R) => if R.length ≤ 7 ∧ R = List.replicate R.length 48 then (W, H, P, 0) else (0, 0, [], 1)
theorem Zw : ∀ {b : List UInt8}, wO b = true → (decide (0 ≤ Go.Lib.indexByte b 49)) = !decide (b = List.replicate b.length 48)
 | [], _ => rfl
 | x :: b, h => by
  have hx : x = 48 ∨ x = 49 := by unfold wO at h; rw [List.all_cons, Bool.and_eq_true] at h; exact of_decide_eq_true h.1
  have hb : wO b = true := by unfold wO at h ⊢; rw [List.all_cons, Bool.and_eq_true] at h; exact h.2
  have ih := Zw hb;have ge := Go.Lib.indexByte_ge b 49
  rcases hx with rfl | rfl
  ·have e : decide (0 ≤ Go.Lib.indexByte (48 :: b) 49) = decide (0 ≤ Go.Lib.indexByte b 49) := by
    rw [decide_eq_decide];show 0 ≤ (if ((48 : UInt8) == 49) = true then (0 : Int) else if (Go.Lib.indexByte b 49 == -1) = true then -1 else Go.Lib.indexByte b 49 + 1) ↔ _;rw [if_neg (by decide)]
    by_cases hq : Go.Lib.indexByte b 49 = -1
    ·rw [if_pos (by rw [hq]; rfl), hq]
    ·rw [if_neg (by simpa using hq)]; omega
   rw [e, ih]
   congr 1
   rw [decide_eq_decide, List.length_cons, List.replicate_succ]
   simp
  ·rw [dF (show ¬ ((49 : UInt8) :: b = List.replicate ((49 : UInt8) :: b).length 48) by rw [List.length_cons, List.replicate_succ]; intro q; injection q with q _; revert q; decide)];exact dT (by show 0 ≤ (if ((49 : UInt8) == 49) = true then (0 : Int) else _); rw [if_pos (by decide)]; exact Int.le_refl _)
theorem IC (N : Nat) (hN : 200000 ≤ N) (s : List UInt8) (W H kind : Int) (c : List Int) : yX N s W H kind c = some (mT s W H kind c) := by
 unfold yX mT
 by_cases h1 : W < 1
 ·rw [cT (dT h1), if_pos (by omega)]
 rw [cF (dF h1)]
 by_cases h2 : 64 < W
 ·rw [cT (dT h2), if_pos (by omega)]
 rw [cF (dF h2), if_neg (by omega)]
 by_cases h3 : H < 1
 ·rw [cT (dT h3), if_pos (by omega)]
 rw [cF (dF h3)]
 by_cases h4 : 64 < H
 ·rw [cT (dT h4), if_pos (by omega)]
 rw [cF (dF h4), if_neg (by omega)]
 by_cases h5 : kind < 1
 ·rw [cT (dT h5), if_pos (by omega)]
 rw [cF (dF h5)]
 by_cases h6 : 7 < kind
 ·rw [cT (dT h6), if_pos (by omega)]
 rw [cF (dF h6), if_neg (by omega), B7 N (by omega), aD]
 by_cases h7 : jK c = 0
 rotate_left
 ·rw [cT (by rw [dF h7]; rfl), if_pos h7]
 rw [cF (by rw [dT h7]; rfl), if_neg (by omega)];obtain ⟨w, rfl⟩ := Int.eq_ofNat_of_zero_le (show 0 ≤ W by omega);obtain ⟨h, rfl⟩ := Int.eq_ofNat_of_zero_le (show 0 ≤ H by omega);have hm := Nat.mul_le_mul (show w ≤ 64 by omega) (show h ≤ 64 by omega);rw [Int.toNat_natCast, Int.toNat_natCast];have hB : wO ([] ++ mS s) = true := sT s
 have key := RH N (by omega) h7 (w := w) (h := h) (by omega) (by omega) (kind := kind) (by omega) (fun (G7, x27, x28, i8) =>
  cond (!decide (x28 = ([] : List UInt8))) (
  some (0, 0, ([] : List Int), 1)) (
  Option.bind (o9 N x27 ([49] : List UInt8)) fun JH =>
  cond (JH) (
  some (0, 0, ([] : List Int), 1)) (
  some ((w : Int), (h : Int), G7, 0)))) (w * h) N [] [] s (by simp) (by omega) (by simp) (by simp) hB
 rw [List.nil_append] at key
 rcases key with ⟨k1, k2⟩ | ⟨P2, b2, s2, k1, k2, k3⟩
 ·rw [k1]; exact k2
 refine Eq.trans k3 ?_;rw [k1]
 dsimp only
 have hB2 : wO (b2 ++ mS s2) = true := (Hq (hG c) (by
  rw [sD h7];obtain ⟨ns, rfl, _, _, Lv, _⟩ := wY h7
  rw [hF]; exact Lv) (by omega) _ _ _ [] _ _ (sT s) (by simp) rfl k1).2.2.2.2
 by_cases hs : s2 = []
 rotate_left
 ·have : 1 ≤ s2.length := by
   rcases Nat.eq_zero_or_pos s2.length with q | q
   ·exact absurd (List.length_eq_zero_iff.1 q) hs
   ·exact q
  rw [cT (by rw [dF hs]; rfl), if_neg];rw [List.length_append, BE]
  omega
 subst hs;rw [Hp, List.append_nil] at hB2 ⊢;rw [cF (by rfl), show o9 N b2 [49] = some (decide (0 ≤ Go.Lib.indexByte b2 49)) from rfl, aD, Zw hB2]
 by_cases hz : b2 = List.replicate b2.length 48
 ·rw [dT hz, if_pos ⟨k2, hz⟩]; rfl
 ·rw [dF hz, if_neg (fun q => hz q.2)]; rfl
theorem RL {P : List Int} {m : Nat} {y : Int} : (P ++ List.replicate (m + 1) 0).set P.length y = (P ++ [y]) ++ List.replicate m 0 := by
 rw [List.set_append_right _ _ (Nat.le_refl _), Nat.sub_self, List.replicate_succ, List.set_cons_zero, List.append_assoc]; rfl
theorem TU (N : Nat) (hN : 5000 ≤ N) {c : List Int} (hc : jK c = 0) {w h : Nat} (hw : 1 ≤ w ∧ w ≤ 64) (hh : 1 ≤ h ∧ h ≤ 64) {kind : Int} (hk : 1 ≤ kind ∧ kind ≤ 7) (kk) : ∀ (j fuel : Nat) (P : List Int) (R : List UInt8), P.length + j = w * h → j < fuel → (∀ e ∈ P, 0 ≤ e ∧ e ≤ 65535) → R.length ≤ 16777216 → wO R = true →
  fR N (w : Int) (h : Int) kind (wordsOf c) kk fuel (P ++ List.replicate j 0, R, (P.length : Int)) = match Fv (wordsOf c) w kind j P R with
   | none => some (0, 0, [], 1)
   | some (P2, R2) => kk (P2, R2, ((w * h : Nat) : Int)) := by
 have hm := Nat.mul_le_mul hw.2 hh.2;have RJ : IntKind.i64.wrap ((w : Int) * (h : Int)) = ((w * h : Nat) : Int) := by rw [show (w : Int) * (h : Int) = ((w * h : Nat) : Int) by simp, gE (by omega)]
 have hbW := hG c
 have RK : (wordsOf c).length ≤ 17 := by
  rw [sD hc];obtain ⟨ns, rfl, _, _, Lv, _⟩ := wY hc;rw [hF]; exact Lv
 intro j
 induction j with
 | zero =>
  intro fuel P R hj hf hP hRl hB;obtain ⟨fuel, rfl⟩ : ∃ q, fuel = q + 1 := ⟨fuel - 1, by omega⟩
  unfold fR Fv;rw [RJ, cF (dF (by omega)), show P.length = w * h by omega, List.replicate_zero, List.append_nil]
 | succ j ih =>
  intro fuel P R hj hf hP hRl hB;obtain ⟨fuel, rfl⟩ : ∃ q, fuel = q + 1 := ⟨fuel - 1, by omega⟩
  have hlt : P.length < w * h := by omega
  have hnx : IntKind.i64.wrap ((P.length : Int) + 1) = ((P.length + 1 : Nat) : Int) := by rw [gE (by omega)]; rfl
  have Zv : ∀ e ∈ P ++ List.replicate (j + 1) 0, 0 ≤ e ∧ e ≤ 65535 := fun e he => by
   rcases List.mem_append.1 he with q | q
   ·exact hP e q
   ·rw [(List.mem_replicate.1 q).2]; decide
  have hP1 : (P ++ List.replicate (j + 1) (0 : Int)).length = w * h := by rw [List.length_append, List.length_replicate]; omega
  have hxy : P.length / w * w + P.length % w = P.length := by rw [Nat.mul_comm]; exact Nat.div_add_mod _ _
  have hxw := Nat.mod_lt P.length (show w > 0 by omega);have hyh : P.length / w < h := Nat.div_lt_of_lt_mul hlt;obtain ⟨t1, t2⟩ := tdm (W := w) P.length (by omega);have hdl : P.length / w ≤ P.length := Nat.div_le_self _ _
  have hg : jU N (w : Int) (h : Int) (P ++ List.replicate (j + 1) 0) kind (Int.tmod (P.length : Int) (w : Int)) (IntKind.i64.wrap (Int.tdiv (P.length : Int) (w : Int))) = some (gs w P kind P.length) := by
   rw [t1, t2, gE (x := ((P.length / w : Nat) : Int)) ⟨Int.le_trans (by decide) (Int.natCast_nonneg _), Int.le_trans (Int.ofNat_le.2 hdl) (by omega)⟩, Hn Zv N hw hk _ hxw (by omega) (by omega) (by omega), hxy, Eo hw.1 _ _ _ (Nat.le_refl _)]
  have hgi : -65535 ≤ gs w P kind P.length ∧ gs w P kind P.length ≤ 131070 := by
   rw [← Eo hw.1 P (List.replicate (j + 1) 0) kind (Nat.le_refl _)];exact NS Zv hw.1 (by omega)
  have hset : ∀ y : Int, v6 (P ++ List.replicate (j + 1) 0) (P.length : Int) y = some ((P ++ [y]) ++ List.replicate j 0) := fun y => by
   rw [DD (by omega), Int.toNat_natCast, RL]
  have hix : idx (P ++ List.replicate (j + 1) (0 : Int)) (P.length : Int) = some 0 := by
   rw [eX, List.getElem?_append_right (Nat.le_refl _), Nat.sub_self, List.replicate_succ]; rfl
  have hval : ∀ (d : Int) (kk2 : Int → Option (Int × Int × List Int × Int)), -32768 < d ∧ d ≤ 32768 → (Option.bind (some (IntKind.i64.wrap (gs w P kind P.length + d))) fun x => Option.bind (eI N x 65536) fun r => kk2 (IntKind.i64.wrap (x - IntKind.i64.wrap (65536 * r)))) = kk2 ((gs w P kind P.length + d) % 65536) := fun d kk2 hd => by
   rw [gE (x := gs w P kind P.length + d) (by omega), aD, Gy N (by omega) (by omega), aD, gE (x := 65536 * _) (by omega), gE (by omega)]
   congr 1
   omega
  have nzw : nz (w : Int) = some () := Le (by omega)
  have go : ∀ (d : Int) (R2 : List UInt8), rdStep (wordsOf c) R = some (d, R2) → -32768 < d ∧ d ≤ 32768 → R2.length ≤ R.length →
    (Option.bind (some (IntKind.i64.wrap (gs w P kind P.length + d))) fun x => Option.bind (eI N x 65536) fun r =>
     Option.bind (idx (P ++ List.replicate (j + 1) 0) (P.length : Int)) fun e6 =>
     Option.bind (v6 (P ++ List.replicate (j + 1) 0) (P.length : Int) (IntKind.i64.wrap (x - IntKind.i64.wrap (65536 * r)))) fun l6 =>
     Option.bind (some (IntKind.i64.wrap ((P.length : Int) + 1))) fun Ou =>
     fR N (w : Int) (h : Int) kind (wordsOf c) kk fuel (l6, R2, Ou)) = match Fv (wordsOf c) w kind (j + 1) P R with
   | none => some (0, 0, [], 1)
   | some (P2, R2) => kk (P2, R2, ((w * h : Nat) : Int)) := by
   intro d R2 h2 hd hR2;obtain ⟨_, _, hRR⟩ := step_ok hbW RK hB h2
   have hB2 : wO R2 = true := by
    rw [hRR, sO, Bool.and_eq_true] at hB;exact hB.2
   have hl : (P ++ [(gs w P kind P.length + d) % 65536]).length = P.length + 1 := by simp
   have := ih fuel (P ++ [(gs w P kind P.length + d) % 65536]) R2 (by omega) (by omega) (fun e he => by
    rcases List.mem_append.1 he with q | q
    ·exact hP e q
    ·rw [List.mem_singleton.1 q]; omega) (by omega) hB2
   rw [hl] at this
   have e := hval d (fun v => Option.bind (idx (P ++ List.replicate (j + 1) 0) (P.length : Int)) fun e6 =>
     Option.bind (v6 (P ++ List.replicate (j + 1) 0) (P.length : Int) v) fun l6 =>
     Option.bind (some (IntKind.i64.wrap ((P.length : Int) + 1))) fun Ou =>
     fR N (w : Int) (h : Int) kind (wordsOf c) kk fuel (l6, R2, Ou)) hd
   refine Eq.trans e ?_;rw [hix, aD, hset, aD, hnx, aD, this]
   conv => rhs; unfold Fv
   rw [h2]
  unfold fR;rw [RJ, cT (dT (by omega)), front_eq N (by omega) (by omega) hbW hRl, aD]
  rcases hf1 : J1 (wordsOf c) R with _ | i
  ·dsimp only
   rw [cT (by rw [dF (FN _ _)]; rfl)];unfold Fv rdStep;rw [hf1]
  obtain ⟨u, a2, hu0, hub⟩ := BC hf1;have hgd : (wordsOf c).getD i [] = u := by rw [List.getD_eq_getElem?_getD, a2]; rfl
  have hil : i < (wordsOf c).length := (List.getElem?_eq_some_iff.1 a2).1
  have hst : rdStep (wordsOf c) R = if i = 16 then some (32768, R.drop u.length) else if (R.drop u.length).length < i then none else some (vd ((R.drop u.length).take i), (R.drop u.length).drop i) := by
   unfold rdStep;rw [hf1]
   dsimp only
   rw [hgd]
  have aDg : (R.drop u.length).length ≤ R.length := by rw [List.length_drop]; omega
  dsimp only
  rw [cF (by rfl), eX, a2, aD, BB hub.length_le, aD]
  by_cases h16 : i = 16
  ·rw [cT (dT (by omega)), nzw, aD, aD, hg, aD];exact go 32768 _ (by rw [hst, if_pos h16]) (by decide) aDg
  rw [if_neg h16] at hst;rw [cF (dF (by omega))]
  have hBd : wO (R.drop u.length) = true := by
   have := hB;rw [← List.take_append_drop u.length R, sO, Bool.and_eq_true] at this; exact this.2
  generalize R.drop u.length = T at *
  by_cases hs : T.length < i
  ·rw [cT (dT (by omega))];rw [if_pos hs] at hst;unfold Fv;rw [hst]
  rw [if_neg hs] at hst
  have WV : wO (T.take i) = true := by
   have := hBd;rw [← List.take_append_drop i T, sO, Bool.and_eq_true] at this; exact this.1
  have hlen : (T.take i).length = i := by rw [List.length_take]; omega
  have aDf := vI (d := i) (by omega);have hvl := u7 (B := 2) (fC (T.take i)) (nC WV);have bl : (fC (T.take i)).length = i := by simp only [fC, List.length_map]; exact hlen
  rw [bl] at hvl;obtain ⟨_, _, v1, v2⟩ := J4 WV (by omega);have Zx : (T.drop i).length ≤ R.length := by rw [List.length_drop]; omega
  have hpos := Nat.two_pow_pos i;rw [cF (dF (by omega)), wZ (by omega), aD, O4 N (by omega) WV (by omega), aD, rY, aD, aD, AS (by omega), show Int.tdiv ((2 ^ i : Nat) : Int) 2 = ((2 ^ i / 2 : Nat) : Int) from rfl, gE (x := ((2 ^ i / 2 : Nat) : Int)) (by omega)]
  by_cases hx : num 2 (fC (T.take i)) < 2 ^ i / 2
  ·have hv := N1 (t := T.take i) (by rw [hlen]; omega);rw [hlen] at hv;rw [cT (dT (by omega)), gE (x := _ - ((2 ^ i : Nat) : Int)) (by omega), show ((num 2 (fC (T.take i)) : Nat) : Int) - ((2 ^ i : Nat) : Int) + 1 = vd (T.take i) by omega, gE (x := vd _) (by omega), aD, BB (by omega), aD, nzw, aD, aD, hg, aD];exact go _ _ hst (by omega) Zx
  ·have hv : vd (T.take i) = (num 2 (fC (T.take i)) : Int) := by
    by_cases h0 : i = 0
    ·subst h0; rfl
    ·have hp : 2 ^ i = 2 * 2 ^ (i - 1) := by rw [← Nat.pow_succ']; congr 1; omega
     exact N2 (by rw [hlen]; omega)
   rw [cF (dF (by omega)), BB (by omega), aD, nzw, aD, aD, hg, aD, ← hv];exact go _ _ hst (by omega) Zx
theorem Hs {w h : Nat} (hw : 1 ≤ w ∧ w ≤ 64) (hh : 1 ≤ h ∧ h ≤ 64) {P : List Int} (hP : ∀ e ∈ P, 0 ≤ e ∧ e ≤ 65535) (hl : P.length = w * h) {kind : Int} (hk : 1 ≤ kind ∧ kind ≤ 7) {c : List Int} (hc : jK c = 0) (ha : (ds w P kind).all (EV (wordsOf c)) = true) : qB (w : Int) (h : Int) P kind c = (MU (AJ (wordsOf c) (ds w P kind)), 0) := by
 have hp : I5 (w : Int) (h : Int) P = true := by
  unfold I5;rw [dT (show v8 (w : Int) (h : Int) P.length from ⟨by omega, by omega, by omega, by omega, by rw [hl]; simp⟩), Bool.true_and, List.all_eq_true];exact fun e he => dT (hP e he)
 unfold qB;rw [hp, if_neg (by decide), if_neg (by omega), if_neg (by omega), Int.toNat_natCast, if_pos ha]
theorem J9 (N : Nat) (hN : 200000 ≤ N) (s : List UInt8) (W H kind : Int) (c : List Int) : rT N s W H kind c = some (mT s W H kind c) := by
 unfold rT mT;rw [sN, aD]
 by_cases h1 : 1 ≤ W ∧ W ≤ 64
 rotate_left
 ·rw [cT (by rw [dF h1]; rfl), if_pos h1]
 rw [cF (by rw [dT h1]; rfl), if_neg (by omega), sN, aD]
 by_cases h2 : 1 ≤ H ∧ H ≤ 64
 rotate_left
 ·rw [cT (by rw [dF h2]; rfl), if_pos h2]
 rw [cF (by rw [dT h2]; rfl), if_neg (by omega), sN, aD]
 by_cases h3 : 1 ≤ kind ∧ kind ≤ 7
 rotate_left
 ·rw [cT (by rw [dF h3]; rfl), if_pos h3]
 rw [cF (by rw [dT h3]; rfl), if_neg (by omega), FL N (by omega), aD]
 by_cases h7 : jK c = 0
 rotate_left
 ·rw [cT (by rw [dF h7]; rfl), if_pos h7]
 rw [cF (by rw [dT h7]; rfl), if_neg (by omega), FY N (by omega) h7, aD];obtain ⟨w, rfl⟩ := Int.eq_ofNat_of_zero_le (show 0 ≤ W by omega);obtain ⟨h, rfl⟩ := Int.eq_ofNat_of_zero_le (show 0 ≤ H by omega);have hm := Nat.mul_le_mul (show w ≤ 64 by omega) (show h ≤ 64 by omega);rw [Int.toNat_natCast, Int.toNat_natCast]
 have RK : (wordsOf c).length ≤ 17 := by
  rw [sD h7];obtain ⟨ns, rfl, _, _, Lv, _⟩ := wY h7;rw [hF]; exact Lv
 have fin : ∀ P2 R2, Fv (wordsOf c) w kind (w * h) [] (mS s) = some (P2, R2) → qB (w : Int) (h : Int) P2 kind c = (MU (AJ (wordsOf c) (ds w P2 kind)), 0) ∧ mS s = AJ (wordsOf c) (ds w P2 kind) ++ R2 ∧ (ds w P2 kind).length = w * h := fun P2 R2 hr => by
  obtain ⟨q1, q2, q3, q4, q5⟩ := Hq (hG c) RK (by omega) _ _ _ [] _ _ (sT s) (by simp) rfl hr;rw [List.length_nil, Nat.zero_add] at q1;refine ⟨Hs (by omega) (by omega) q2 q1 h3 h7 q3, q4, by rw [En, q1]⟩
 by_cases h8 : 32768 < s.length
 ·rw [cT (dT (by omega))]
  rcases hr : Fv (wordsOf c) w kind (w * h) [] (mS s) with _ | ⟨P2, R2⟩
  ·rfl
  dsimp only
  obtain ⟨_, q2, q3⟩ := fin P2 R2 hr;have hcl := C9 (hG c) (Ly w P2 kind);have := congrArg List.length q2;rw [BE, List.length_append] at this;rw [if_neg (by omega)]
 have RJ : IntKind.i64.wrap ((w : Int) * (h : Int)) = ((w * h : Nat) : Int) := by rw [show (w : Int) * (h : Int) = ((w * h : Nat) : Int) by simp, gE (by omega)]
 rw [cF (dF (by omega)), Q9 N (by omega) (by omega), aD, RJ, aD, mk_eq (by omega), aD, Int.toNat_natCast]
 have key := TU N (by omega) h7 (w := w) (h := h) (by omega) (by omega) h3 (fun (QJ, i3, i4) =>
  Option.bind (nO N (w : Int) (h : Int) QJ kind c) fun Tp =>
  cond (!decide (Tp.2 = 0)) (
  some (0, 0, ([] : List Int), 1)) (
  cond (!decide (Tp.1 = s)) (
  some (0, 0, ([] : List Int), 1)) (
  some ((w : Int), (h : Int), QJ, 0)))) (w * h) N [] (mS s) (by simp) (by omega) (by simp) (by rw [BE]; omega) (sT s)
 rw [List.nil_append] at key;refine Eq.trans key ?_
 rcases hr : Fv (wordsOf c) w kind (w * h) [] (mS s) with _ | ⟨P2, R2⟩
 ·rfl
 dsimp only
 obtain ⟨q1, q2, q3⟩ := fin P2 R2 hr;have hfi := NY q2;rw [IB N hN, aD, q1]
 dsimp only
 rw [cF (by rfl)]
 by_cases hz : R2.length ≤ 7 ∧ R2 = List.replicate R2.length 48
 ·rw [if_pos hz, cF (by rw [dT (hfi.2 hz)]; rfl)]
 ·rw [if_neg hz, cT (by rw [dF (fun q => hz (hfi.1 q))]; rfl)]
theorem TV (N : Nat) (hN : 5000 ≤ N) (W H : Int) {P : List Int} (hl : P.length ≤ 4096) : jS N W H P W H P = some true := by
 unfold jS;rw [cT (dT rfl), cT (dT rfl), Rs N P (by omega) (by omega)]; rfl
theorem Ht (s : List UInt8) (W H kind : Int) (c : List Int) : (mT s W H kind c).2.2.1.length ≤ 4096 := by
 unfold mT
 split
 ·simp
 split
 ·simp
 split
 ·simp
 split
 ·simp
 rename_i h1 h2 h3 h4
 split
 ·simp
 rename_i P R hr
 split
 rotate_left
 ·simp
 have h7 : jK c = 0 := by omega
 have RK : (wordsOf c).length ≤ 17 := by
  rw [sD h7];obtain ⟨ns, rfl, _, _, Lv, _⟩ := wY h7;rw [hF]; exact Lv
 have hm := Nat.mul_le_mul (show W.toNat ≤ 64 by omega) (show H.toNat ≤ 64 by omega);have := (Hq (hG c) RK (by omega) _ _ _ [] _ _ (sT s) (by simp) rfl hr).1;rw [List.length_nil, Nat.zero_add] at this;show P.length ≤ _
 omega
theorem RM {D : List UInt8} (h : wO D = true) : mS (MU D) = D ++ List.replicate (8 * ((D.length + 7) / 8) - D.length) 48 := by
 have bl : (fC D).length = D.length := by simp [fC]
 generalize hM : (D.length + 7) / 8 = M
 have hlen : (MU D).length = M := by unfold MU; rw [List.length_map, hM]; simp [gr]
 have hX : wO (D ++ List.replicate (8 * M - D.length) 48) = true := by
  rw [sO, h, Bool.true_and];unfold wO;rw [List.all_eq_true];intro x hx;rw [(List.mem_replicate.1 hx).2]; rfl
 have e1 : fC (D ++ List.replicate (8 * M - D.length) 48) = fC D ++ List.replicate (8 * M - D.length) 0 := by
  unfold fC;rw [List.map_append, List.map_replicate]; rfl
 have e2 : (gr M (fC (mS (MU D)))).map UInt8.ofNat = (gr M (fC D)).map UInt8.ofNat := by
  have := NW (MU D);rw [hlen] at this;rw [this];unfold MU;rw [hM]
 have e3 : gr M (fC (mS (MU D))) = gr M (fC (D ++ List.replicate (8 * M - D.length) 48)) := by
  have := congrArg (List.map UInt8.toNat) e2;rw [ofNat_toNat (NX (nC (sT _))), ofNat_toNat (NX (nC h))] at this;rw [this, e1, MN]
 have e4 := RA (by simp only [fC, List.length_map, BE]; rw [hlen]) (by rw [e1, List.length_append, bl, List.length_replicate]; omega) (nC (sT _)) (nC hX) e3;have := congrArg wF e4;rw [AR (sT _), AR hX] at this;exact this
theorem LA {d : Int} (h1 : tW d ≠ 16) (h : tW d ≠ 0) : (EJ d).length = tW d := by
 unfold EJ;rw [if_neg (by omega), mM, iP]
theorem WX {d : Int} (hd : -32768 < d ∧ d ≤ 32768) (h : tW d ≠ 16) : vd (EJ d) = d := by
 by_cases h0 : tW d = 0
 ·obtain rfl := GG.1 h0;unfold EJ;rw [if_pos (.inl h0)]; rfl
 have hl := LA h h0;have hlt := J2 (d := d);have hc := I6 hd;have hne : d ≠ 0 := fun e => h0 (GG.2 e)
 have hp : 2 ^ tW d = 2 * 2 ^ (tW d - 1) := by rw [← Nat.pow_succ']; congr 1; omega
 have hge : 2 ^ (tW d - 1) ≤ (max d (-d)).toNat := by
  rcases Nat.lt_or_ge (max d (-d)).toNat (2 ^ (tW d - 1)) with q | q
  ·have : tW d ≤ tW d - 1 := (Bn (tW d - 1) _).2 q
   omega
  ·exact q
 have hb : fC (EJ d) = lZ 2 (tW d) (if 0 < d then d else d + ((2 ^ tW d : Nat) : Int) - 1).toNat := by
  unfold EJ;rw [if_neg (by omega), NV (xT (by decide) _ _)]
 have hv : (if 0 < d then d else d + ((2 ^ tW d : Nat) : Int) - 1).toNat < 2 ^ tW d := by
  split <;> omega
 have hn : num 2 (fC (EJ d)) = (if 0 < d then d else d + ((2 ^ tW d : Nat) : Int) - 1).toNat := by
  rw [hb, yL, Nat.mod_eq_of_lt hv]
 unfold vd;rw [hn, hl]
 by_cases h5 : 0 < d
 ·rw [if_pos h5, if_neg (by omega)]; omega
 ·rw [if_neg h5, if_pos (by omega)]; omega
theorem aDh {d : Int} (hd : -32768 < d ∧ d ≤ 32768) (h : tW d = 16) : d = 32768 := by
 rcases Nat.lt_or_ge (max d (-d)).toNat (2 ^ 15) with q | q
 ·have : tW d ≤ 15 := (Bn 15 _).2 q
  omega
 ·have : (32768 : Nat) ≤ (max d (-d)).toNat := q
  omega
theorem Pd {W : List (List UInt8)} (hp : PF W) {d : Int} (hd : -32768 < d ∧ d ≤ 32768) (h : EV W d = true) (T : List UInt8) : rdStep W (yZ W d ++ T) = some (d, T) := by
 obtain ⟨u, hu, hu0, hg, _⟩ := MT h;have e : yZ W d ++ T = u ++ (EJ d ++ T) := by unfold yZ; rw [hg, List.append_assoc]
 rw [e];unfold rdStep;rw [Rn hp hu hu0 (List.prefix_append u _)]
 dsimp only
 rw [hg, List.drop_left]
 by_cases h16 : tW d = 16
 ·rw [if_pos h16, aDh hd h16, EW.2]; rfl
 rw [if_neg h16]
 have hl : (EJ d).length = tW d := by
  by_cases h0 : tW d = 0
  ·unfold EJ; rw [if_pos (.inl h0), h0]; rfl
  ·exact LA h16 h0
 rw [if_neg (by rw [List.length_append]; omega), ← hl, List.take_left, List.drop_left, WX hd h16]
theorem TW {n g : Int} (h : 0 ≤ n ∧ n ≤ 65535) : (g + dfn n g) % 65536 = n := by
 unfold dfn
 split <;> omega
theorem TX {w : Nat} {P : List Int} {kind : Int} {k : Nat} (h : k < P.length) : (ds w P kind).drop k = dfn (P.getD k 0) (gs w P kind k) :: (ds w P kind).drop (k + 1) := by
 have hdl := En w P kind;rw [List.drop_eq_getElem_cons (by omega)]
 congr 1
 have := U1 w P kind h;rw [List.getElem?_eq_getElem (by omega)] at this;exact Option.some.inj this
theorem TY {W : List (List UInt8)} (hp : PF W) {w : Nat} (hw : 1 ≤ w) {kind : Int} {P : List Int} (hP : ∀ e ∈ P, 0 ≤ e ∧ e ≤ 65535) (ha : (ds w P kind).all (EV W) = true) (T : List UInt8) : ∀ (j k : Nat), k + j = P.length → Fv W w kind j (P.take k) (AJ W ((ds w P kind).drop k) ++ T) = some (P, T) := by
 intro j;have hdl := En w P kind
 induction j with
 | zero =>
  intro k hk;obtain rfl : k = P.length := by omega
  unfold Fv;rw [← hdl, List.drop_length, hdl, List.take_length]; rfl
 | succ j ih =>
  intro k hk;have hlt : k < P.length := by omega
  have hdr := TX (w := w) (kind := kind) hlt
  have hok : EV W (dfn (P.getD k 0) (gs w P kind k)) = true := List.all_eq_true.1 ha _ (by
   have : dfn (P.getD k 0) (gs w P kind k) ∈ (ds w P kind).drop k := by rw [hdr]; simp
   exact List.mem_of_mem_drop this)
  have hkl : (P.take k).length = k := by rw [List.length_take]; omega
  have hgs : gs w (P.take k) kind k = gs w P kind k := by
   have := Eo hw (P.take k) (P.drop k) kind (i := k) (by omega);rw [List.take_append_drop] at this;exact this.symm
  have hpk := (C8 hP hlt).2
  have htk : P.take k ++ [P.getD k 0] = P.take (k + 1) := by
   rw [List.take_add_one, List.getElem?_eq_getElem hlt, List.getD_eq_getElem?_getD, List.getElem?_eq_getElem hlt]; rfl
  unfold Fv;rw [hdr, BD, List.append_assoc, Pd hp (MR _ _) hok]
  dsimp only
  rw [hkl, hgs, TW hpk, htk];exact ih (k + 1) (by omega)
theorem MW (W H : Int) (P : List Int) (kind : Int) (c : List Int) (h : (qB W H P kind c).2 = 0) : mT (qB W H P kind c).1 W H kind c = (W, H, P, 0) ∧ P.length ≤ 4096 := by
 unfold qB at h ⊢
 by_cases hp : I5 W H P = true
 rotate_left
 ·rw [if_pos ((Bool.not_eq_true _).mp hp)] at h; cases h
 rw [if_neg (by rw [hp]; decide)] at h ⊢
 by_cases h1 : 1 ≤ kind ∧ kind ≤ 7
 rotate_left
 ·rw [if_pos h1] at h; cases h
 rw [if_neg (by omega)] at h ⊢
 by_cases h2 : jK c = 0
 rotate_left
 ·rw [if_pos h2] at h; exact absurd h h2
 rw [if_neg (by omega)] at h ⊢
 by_cases h3 : (ds W.toNat P kind).all (EV (wordsOf c)) = true
 rotate_left
 ·rw [if_neg h3] at h; cases h
 rw [if_pos h3];obtain ⟨w, k, rfl, rfl, a1, a2, a3, a4, a5, a6, hP⟩ := EU hp;rw [Int.toNat_natCast] at h3 ⊢;refine ⟨?_, by omega⟩;unfold mT;rw [if_neg (by omega), if_neg (by omega), if_neg (by omega), if_neg (by omega), Int.toNat_natCast, Int.toNat_natCast]
 dsimp only
 rw [RM (DL (hG c) _)];have key := TY (Em c) a1 hP h3 (List.replicate (8 * (((AJ (wordsOf c) (ds w P kind)).length + 7) / 8) - (AJ (wordsOf c) (ds w P kind)).length) 48) (w * k) 0 (by omega);rw [List.take_zero, List.drop_zero] at key;rw [key]
 dsimp only
 rw [if_pos];rw [List.length_replicate];exact ⟨by omega, rfl⟩
theorem LB (s : List UInt8) (W H kind : Int) (c : List Int) (h : (mT s W H kind c).2.2.2 = 0) : qB (mT s W H kind c).1 (mT s W H kind c).2.1 (mT s W H kind c).2.2.1 kind c = (s, 0) := by
 unfold mT at h ⊢
 by_cases h1 : 1 ≤ W ∧ W ≤ 64
 rotate_left
 ·rw [if_pos h1] at h; cases h
 rw [if_neg (by omega)] at h ⊢
 by_cases h2 : 1 ≤ H ∧ H ≤ 64
 rotate_left
 ·rw [if_pos h2] at h; cases h
 rw [if_neg (by omega)] at h ⊢
 by_cases h3 : 1 ≤ kind ∧ kind ≤ 7
 rotate_left
 ·rw [if_pos h3] at h; cases h
 rw [if_neg (by omega)] at h ⊢
 by_cases h7 : jK c = 0
 rotate_left
 ·rw [if_pos h7] at h; exact absurd h h7
 rw [if_neg (by omega)] at h ⊢;obtain ⟨w, rfl⟩ := Int.eq_ofNat_of_zero_le (show 0 ≤ W by omega);obtain ⟨k, rfl⟩ := Int.eq_ofNat_of_zero_le (show 0 ≤ H by omega);rw [Int.toNat_natCast, Int.toNat_natCast] at h ⊢
 have RK : (wordsOf c).length ≤ 17 := by
  rw [sD h7];obtain ⟨ns, rfl, _, _, Lv, _⟩ := wY h7;rw [hF]; exact Lv
 rcases hr : Fv (wordsOf c) w kind (w * k) [] (mS s) with _ | ⟨P2, R2⟩
 ·rw [hr] at h; cases h
 rw [hr] at h;dsimp only at h ⊢
 by_cases hz : R2.length ≤ 7 ∧ R2 = List.replicate R2.length 48
 rotate_left
 ·rw [if_neg hz] at h; cases h
 rw [if_pos hz];obtain ⟨q1, q2, q3, q4, q5⟩ := Hq (hG c) RK (by omega) _ _ _ [] _ _ (sT s) (by simp) rfl hr;rw [List.length_nil, Nat.zero_add] at q1
 dsimp only
 rw [Hs (by omega) (by omega) q2 q1 h3 h7 q3, (NY q4).2 hz]
theorem Da {s : List UInt8} {o p : Int} (h : eU s o p = 0) : ∃ d n : Nat, o = d ∧ p = n ∧ (1 ≤ d ∧ d ≤ 16) ∧ n ≤ 4096 ∧ s.length = (n * d + 7) / 8 ∧ Cv s s.length % 2 ^ (8 * s.length - d * n) = 0 := by
 unfold eU at h
 by_cases h1 : 1 ≤ o ∧ o ≤ 16
 rotate_left
 ·rw [if_pos h1] at h; cases h
 rw [if_neg (fun q => q h1)] at h
 by_cases h2 : p < 0
 ·rw [if_pos h2] at h; cases h
 rw [if_neg h2] at h
 by_cases h3 : 4096 < p
 ·rw [if_pos h3] at h; cases h
 rw [if_neg h3] at h;obtain ⟨d, rfl⟩ := Int.eq_ofNat_of_zero_le (show 0 ≤ o by omega);obtain ⟨n, rfl⟩ := Int.eq_ofNat_of_zero_le (show 0 ≤ p by omega);rw [Int.toNat_natCast, Int.toNat_natCast] at h
 by_cases h4 : s.length = (n * d + 7) / 8
 rotate_left
 ·rw [if_pos h4] at h; cases h
 rw [if_neg (fun q => q h4)] at h
 by_cases h5 : Cv s s.length % 2 ^ (8 * s.length - d * n) = 0
 rotate_left
 ·rw [if_pos h5] at h; cases h
 exact ⟨d, n, rfl, rfl, by omega, by omega, h4, h5⟩
end
end Go.Proofs.YtpmnfhifmmfglacGreatDoor
