/- The rules of the printed walks, of memory: slices that read as lists, loads, stores, new blocks, appends, calls. -/
import Derived.Test.YtpmnfhifmmfglaaD2
set_option linter.unusedVariables false
set_option linter.unusedSimpArgs false
set_option linter.unusedSectionVars false
namespace Go.Proofs.Ytpmnfhifmmfglaa
open Go.RowKit

/-! ### Lists in memory -/
structure Cod (α : Type) where
  enc : α → List Value
  size : Nat
  len : ∀ x, (enc x).length = size
  one : ∀ x, ∀ u ∈ enc x, u.oneCell' = true
  pos : 0 < size
def Cod.all {α : Type} (C : Cod α) (xs : List α) : List Value := xs.flatMap C.enc

section
variable {α : Type} {C : Cod α} {w w' W : World} {A : Option Addr} {xs ys : List α}
theorem Cod.all_len (C : Cod α) : ∀ xs : List α, (C.all xs).length = xs.length * C.size
  | [] => by simp [Cod.all]
  | x :: xs => by
    have := Cod.all_len C xs
    simp only [Cod.all, List.flatMap_cons, List.length_append, C.len, List.length_cons, Nat.add_mul, Nat.one_mul] at this ⊢
    omega
theorem Cod.all_get (C : Cod α) : ∀ (xs : List α) (i j : Nat) (x : α) (u : Value), xs[i]? = some x → (C.enc x)[j]? = some u → (C.all xs)[i * C.size + j]? = some u
  | [], i, j, x, u, h, _ => by simp at h
  | y :: xs, 0, j, x, u, h, hu => by
    simp at h; subst h
    have hj : j < (C.enc y).length := (List.getElem?_eq_some_iff.1 hu).1
    simp only [Cod.all, List.flatMap_cons, Nat.zero_mul, Nat.zero_add]
    rw [List.getElem?_append_left hj]; exact hu
  | y :: xs, i + 1, j, x, u, h, hu => by
    have := Cod.all_get C xs i j x u (by simpa using h) hu
    simp only [Cod.all, List.flatMap_cons] at this ⊢
    rw [List.getElem?_append_right (by rw [C.len, Nat.add_mul]; omega), C.len]
    rw [show (i + 1) * C.size + j - C.size = i * C.size + j by rw [Nat.add_mul]; omega]
    exact this
theorem Cod.all_inv (C : Cod α) : ∀ (xs : List α) (k : Nat) (u : Value), (C.all xs)[k]? = some u → ∃ i j x, k = i * C.size + j ∧ xs[i]? = some x ∧ (C.enc x)[j]? = some u
  | [], k, u, h => by simp [Cod.all] at h
  | y :: xs, k, u, h => by
    simp only [Cod.all, List.flatMap_cons, List.getElem?_append] at h
    split at h
    · exact ⟨0, k, y, by simp, by simp, h⟩
    · rename_i hk
      rw [C.len] at h hk
      obtain ⟨i, j, x, h1, h2, h3⟩ := Cod.all_inv C xs (k - C.size) u h
      exact ⟨i + 1, j, x, by rw [Nat.add_mul]; omega, by simpa using h2, h3⟩
theorem Cod.all_one (C : Cod α) (xs : List α) : ∀ u ∈ C.all xs, u.oneCell' = true := fun u hu => by
  obtain ⟨x, _, h⟩ := List.mem_flatMap.1 hu
  exact C.one x u h
theorem Cod.all_append (C : Cod α) (xs ys : List α) : C.all (xs ++ ys) = C.all xs ++ C.all ys := by simp [Cod.all]
theorem Cod.all_take (C : Cod α) : ∀ (k : Nat) (xs : List α), (C.all xs).take (k * C.size) = C.all (xs.take k)
  | 0, xs => by simp [Cod.all]
  | k + 1, [] => by simp [Cod.all]
  | k + 1, x :: xs => by
    have := Cod.all_take C k xs
    simp only [Cod.all, List.flatMap_cons, List.take_succ_cons] at this ⊢
    rw [List.take_append, C.len, List.take_of_length_le (by rw [C.len, Nat.add_mul]; omega), show (k + 1) * C.size - C.size = k * C.size by rw [Nat.add_mul]; omega, this]
theorem Cod.all_set (C : Cod α) (x : α) : ∀ (xs : List α) (i : Nat) (ws : List Value), i < xs.length → ws.length = xs.length * C.size →
    (∀ j, ws[j]? = if i * C.size ≤ j ∧ j < i * C.size + C.size then (C.enc x)[j - i * C.size]? else (C.all xs)[j]?) → ws = C.all (xs.set i x) := by
  intro xs i ws hi hl h
  apply List.ext_getElem?
  intro k
  have hL : (C.all (xs.set i x)).length = xs.length * C.size := by rw [Cod.all_len]; simp
  rw [h k]
  by_cases hk : k < xs.length * C.size
  · have hk2 : k < (C.all (xs.set i x)).length := by omega
    obtain ⟨u, hu⟩ : ∃ u, (C.all (xs.set i x))[k]? = some u := ⟨_, List.getElem?_eq_getElem hk2⟩
    obtain ⟨i', j, y, rfl, hy, hu'⟩ := Cod.all_inv C _ k u hu
    have hj : j < C.size := by have := (List.getElem?_eq_some_iff.1 hu').1; rw [C.len] at this; exact this
    rw [hu]
    rw [List.getElem?_set] at hy
    by_cases hii : i = i'
    · subst hii
      rw [if_pos rfl, if_pos hi] at hy; cases hy
      rw [if_pos ⟨by omega, by omega⟩, show i * C.size + j - i * C.size = j by omega]
      exact hu'
    · rw [if_neg hii] at hy
      have hno : ¬ (i * C.size ≤ i' * C.size + j ∧ i' * C.size + j < i * C.size + C.size) := by
        rintro ⟨h1, h2⟩
        rcases Nat.lt_or_gt_of_ne hii with hlt | hlt
        · have := Nat.mul_le_mul_right C.size (show i + 1 ≤ i' from hlt)
          rw [Nat.add_mul] at this; omega
        · have := Nat.mul_le_mul_right C.size (show i' + 1 ≤ i from hlt)
          rw [Nat.add_mul] at this; omega
      rw [if_neg hno]
      exact Cod.all_get C xs i' j y u hy hu'
  · rw [List.getElem?_eq_none (show (C.all (xs.set i x)).length ≤ k by omega)]
    have hb := Nat.mul_le_mul_right C.size (show i + 1 ≤ xs.length from hi)
    rw [Nat.add_mul] at hb
    rw [if_neg (by omega), List.getElem?_eq_none (by rw [Cod.all_len]; omega)]

/-- The slice at A reads as xs. -/
def SL (w : World) (C : Cod α) (A : Option Addr) (xs : List α) : Prop :=
  0 < xs.length → ∃ b o, A = some ⟨b, o, none⟩ ∧ ∀ j u, (C.all xs)[j]? = some u → w.cell? ⟨b, o + j, none⟩ = some u
def adr (A : Option Addr) : Addr := A.getD ⟨0, 0, none⟩
theorem SL.lt (h : SL w C A xs) (hn : 0 < xs.length) : ∃ b o, A = some ⟨b, o, none⟩ ∧ b < w.heap.size ∧ ∀ j u, (C.all xs)[j]? = some u → w.cell? ⟨b, o + j, none⟩ = some u := by
  obtain ⟨b, o, hA, hc⟩ := h hn
  refine ⟨b, o, hA, ?_, hc⟩
  have h0 : 0 < (C.all xs).length := by rw [Cod.all_len]; exact Nat.mul_pos hn C.pos
  exact block_lt_of_cell (hc 0 _ (List.getElem?_eq_getElem h0))
theorem SL.below (h : SL w C A xs) (hb : Below w.heap.size w w') : SL w' C A xs := fun hn => by
  obtain ⟨b, o, hA, hlt, hc⟩ := h.lt hn
  exact ⟨b, o, hA, fun j u hu => (hb.cell (p := ⟨b, o + j, none⟩) hlt).trans (hc j u hu)⟩
theorem SL.nil : SL w C A [] := fun h => absurd h (by simp)
theorem SL.el (h : SL w C A xs) {i : Nat} {x : α} (hx : xs[i]? = some x) {j : Nat} {u : Value} (hu : (C.enc x)[j]? = some u) :
    ∃ b o, A = some ⟨b, o, none⟩ ∧ w.cell? ⟨b, o + (i * C.size + j), none⟩ = some u := by
  have hi : i < xs.length := (List.getElem?_eq_some_iff.1 hx).1
  obtain ⟨b, o, hA, hc⟩ := h (by omega)
  exact ⟨b, o, hA, hc _ _ (Cod.all_get C xs i j x u hx hu)⟩
theorem SL.sub (h : SL w C A xs) (c lo hi : Nat) (h1 : lo ≤ hi) (h2 : hi ≤ xs.length) (h3 : xs.length ≤ c) : SL w C (if c = lo then A else A.map (·.add (lo * C.size))) ((xs.take hi).drop lo) := fun hn => by
  simp at hn
  obtain ⟨b, o, hA, hc⟩ := h (by omega)
  rw [if_neg (by omega)]
  refine ⟨b, o + lo * C.size, ?_, fun j u hu => ?_⟩
  · rw [hA]; simp only [Option.map_some, Addr.add]; split <;> simp_all
  · obtain ⟨i, j', x, rfl, hx, hu'⟩ := Cod.all_inv C _ j u hu
    rw [List.getElem?_drop, List.getElem?_take] at hx
    split at hx
    · have := hc _ _ (Cod.all_get C xs (lo + i) j' x u hx hu')
      rw [Nat.add_mul] at this
      rw [show o + lo * C.size + (i * C.size + j') = o + (lo * C.size + i * C.size + j') by omega]
      exact this
    · cases hx
end

section
variable {P : Program} {base : Nat} {W w : World} {L : List Ent} {S : World → Prop} {D : List Deferred} {a : Act} {N : Nat} {l : List (Nat × Value)} {o : Oper} {x y ix : Operand} {v u : Value} {t e t' : TypeId} {m n : Int} {k k' : IntKind}
  {g off : Nat} {cs ds : List Value} {α : Type} {C : Cod α} {A : Option Addr} {c : Nat} {xs ys : List α}

/-! ### Where a thing lies -/
theorem inM (i : Nat) (h : L[i]? = some (.blk g t cs)) : ∀ w, Mem base W w L → Blk w g t cs.toArray := fun _ M => M.blkAt h
theorem inO (h : Blk W g t cs.toArray) : ∀ w, Mem W.heap.size W w L → Blk w g t cs.toArray := fun _ M => h.below M.low h.lt
theorem inA (h : SL W C A xs) : ∀ w, Mem W.heap.size W w L → SL w C A xs := fun _ M => h.below M.low
theorem rowSL {s n : Nat} (h : Ent.holds w (.row e s A n c (C.all xs))) (hs : s = C.size) : SL w C A xs := fun hn => by
  subst hs
  have hlen := h.1
  rw [Cod.all_len] at hlen
  have hnn : n = xs.length := (Nat.eq_of_mul_eq_mul_right C.pos hlen).symm
  rcases h.2 with ⟨hv, h0⟩ | ⟨g, cap, cur, hv, hg, hh, hnc, _, hsz, htk⟩
  · omega
  · injection hv with e1 _ _
    refine ⟨g, 0, e1, fun j u hu => ?_⟩
    rw [Nat.zero_add, cell_of_row w g j cur e (0, 0) hh]
    rw [← htk, List.getElem?_take] at hu
    split at hu
    · simpa using hu
    · cases hu
theorem inR (i : Nat) {s n : Nat} (h : L[i]? = some (.row e s A n c (C.all xs))) (hs : s = C.size) : ∀ w, Mem base W w L → SL w C A xs := fun _ M => rowSL (M.has i _ h) hs
theorem inRS (i : Nat) {e' : Ent} (h : L[i]? = some e') (hr : ∀ w, Ent.holds w e' → SL w C A xs) : ∀ w, Mem base W w L → SL w C A xs := fun w M => hr w (M.has i _ h)

/-! ### Loads -/
theorem rd_ldA {n : Nat} (ho : o.op = .load t x) (ht : aggT P t n = true) (K : Kd D a N l) (hx : evo l x = some (.pointer (some ⟨g, off, none⟩))) (hb : ∀ w, S w → Blk w g t' cs.toArray) (hs : (cs.drop off).take n = ds) (hn : ds.length = n) :
    Rd P S a o (.agg ds.toArray) := fun w hS => by
  obtain ⟨d, hu, hd, hi⟩ := aggT_spec ht
  have hB := hb w hS
  subst hs
  have hl : (loadCells ⟨g, off, none⟩ ((cs.drop off).take n).length).run P w = .ok ((cs.drop off).take n).toArray w :=
    run_loadCells_list (P := P) w ⟨g, off, none⟩ ((cs.drop off).take n) (fun j v hv => by
      have hadd : (⟨g, off, none⟩ : Addr).add j = ⟨g, off + j, none⟩ := by unfold Addr.add; split <;> simp_all
      rw [hadd, hB.cell]
      rw [List.getElem?_take] at hv
      split at hv
      · simpa using hv
      · cases hv)
  rw [hn] at hl
  have hagg : (isAgg t).run P w = .ok true w := by
    unfold isAgg
    rw [Sem.run_bind, run_underlying hu w]
    cases d <;> simp_all
  simp only [Option.map_eq_some_iff] at hi
  obtain ⟨i, hi, hsz⟩ := hi
  unfold execOp
  simp [ho, K.ev hx, Instr.loadAt, Instr.sureAddr, loadVar, Sem.run_bind, hagg, sizeOf, typeInfo, hi, hsz, hl]
theorem rd_ldC (ho : o.op = .load t x) (ht : scT P t = true) (K : Kd D a N l) (hx : evo l x = some (.pointer (some ⟨g, off, none⟩))) (hb : ∀ w, S w → Blk w g t' cs.toArray) (hv : cs[off]? = some v) : Rd P S a o v := fun w hS => by
  have hc : w.cell? ⟨g, off, none⟩ = some v := by rw [(hb w hS).cell]; simpa using hv
  unfold execOp
  simp [ho, K.ev hx, Instr.loadAt, Instr.sureAddr, loadVar, Sem.run_bind, (scT_spec ht w).1, run_load, hc]
/-- A cell of an array that is told as a list of numbers. -/
theorem rd_ldI (ho : o.op = .load t x) (ht : scT P t = true) (K : Kd D a N l) {q : Nat} (hx : evo l x = some (.pointer (some ((⟨g, off, none⟩ : Addr).add (n.toNat * q))))) (hb : ∀ w, S w → Blk w g t' cs.toArray) (hq : q = 1) (hv : idx (cs.drop off) n = some v) : Rd P S a o v := fun w hS => by
  subst hq
  obtain ⟨_, _, h3⟩ := idx_spec hv
  rw [List.getElem?_drop] at h3
  have hadd : (⟨g, off, none⟩ : Addr).add n.toNat = ⟨g, off + n.toNat, none⟩ := by unfold Addr.add; split <;> simp_all
  have hc : w.cell? ⟨g, off + n.toNat, none⟩ = some v := by rw [(hb w hS).cell]; simpa using h3
  unfold execOp
  simp [ho, K.ev hx, hadd, Instr.loadAt, Instr.sureAddr, loadVar, Sem.run_bind, (scT_spec ht w).1, run_load, hc]
theorem adr_add {b o' : Nat} (hA : A = some ⟨b, o', none⟩) (j : Nat) : (adr A).add j = ⟨b, o' + j, none⟩ := by
  subst hA; unfold adr Addr.add; split <;> simp_all
theorem adr_add2 {b o' : Nat} (hA : A = some ⟨b, o', none⟩) (i j : Nat) : ((adr A).add i).add j = ⟨b, o' + (i + j), none⟩ := by
  rw [adr_add hA]; unfold Addr.add; split <;> simp_all <;> omega
theorem rd_elA {el : α} {q s : Nat} (ho : o.op = .load t x) (ht : aggT P t s = true) (K : Kd D a N l) (hx : evo l x = some (.pointer (some ((adr A).add (n.toNat * q))))) (hs : s = C.size) (hq : q = C.size) (hb : ∀ w, S w → SL w C A xs) (hi : idx xs n = some el) : Rd P S a o (.agg (C.enc el).toArray) := fun w hS => by
  subst hq hs
  obtain ⟨d, hu, hd, hsz⟩ := aggT_spec ht
  obtain ⟨h0, hlt, hel⟩ := idx_spec hi
  obtain ⟨b, o', hA, hc⟩ := hb w hS (by omega)
  have hl : (loadCells ⟨b, o' + n.toNat * C.size, none⟩ (C.enc el).length).run P w = .ok (C.enc el).toArray w :=
    run_loadCells_list (P := P) w ⟨b, o' + n.toNat * C.size, none⟩ (C.enc el) (fun j v hv => by
      have hadd : (⟨b, o' + n.toNat * C.size, none⟩ : Addr).add j = ⟨b, o' + n.toNat * C.size + j, none⟩ := by unfold Addr.add; split <;> simp_all
      rw [hadd, Nat.add_assoc]
      exact hc _ _ (Cod.all_get C xs _ j el v hel hv))
  rw [C.len] at hl
  have hagg : (isAgg t).run P w = .ok true w := by
    unfold isAgg
    rw [Sem.run_bind, run_underlying hu w]
    cases d <;> simp_all
  simp only [Option.map_eq_some_iff] at hsz
  obtain ⟨i, hi', hsz⟩ := hsz
  unfold execOp
  simp [ho, K.ev hx, adr_add hA, Instr.loadAt, Instr.sureAddr, loadVar, Sem.run_bind, hagg, sizeOf, typeInfo, hi', hsz, hl]
theorem rd_elC {el : α} {q : Nat} (ho : o.op = .load t x) (ht : scT P t = true) (K : Kd D a N l) (hx : evo l x = some (.pointer (some ((adr A).add (n.toNat * q))))) (hq : q = C.size) (hb : ∀ w, S w → SL w C A xs) (hi : idx xs n = some el) (hu : (C.enc el)[0]? = some u) : Rd P S a o u := fun w hS => by
  subst hq
  obtain ⟨h0, hlt, hel⟩ := idx_spec hi
  obtain ⟨b, o', hA, hc⟩ := (hb w hS).el hel hu
  unfold execOp
  simp only [Nat.add_zero] at hc
  simp [ho, K.ev hx, adr_add hA, Instr.loadAt, Instr.sureAddr, loadVar, Sem.run_bind, (scT_spec ht w).1, run_load, hc]
theorem rd_elF {el : α} {q f : Nat} (ho : o.op = .load t x) (ht : scT P t = true) (K : Kd D a N l) (hx : evo l x = some (.pointer (some (((adr A).add (n.toNat * q)).add f)))) (hq : q = C.size) (hb : ∀ w, S w → SL w C A xs) (hi : idx xs n = some el) (hu : (C.enc el)[f]? = some u) : Rd P S a o u := fun w hS => by
  subst hq
  obtain ⟨h0, hlt, hel⟩ := idx_spec hi
  obtain ⟨b, o', hA, hc⟩ := (hb w hS).el hel hu
  unfold execOp
  simp [ho, K.ev hx, adr_add2 hA, Instr.loadAt, Instr.sureAddr, loadVar, Sem.run_bind, (scT_spec ht w).1, run_load, hc]
theorem rd_ix {el : α} {b : Nat} {s : Nat} (ho : o.op = .indexAddr t x ix) (ht : slT P t e s b = true) (K : Kd D a N l) (hx : evo l x = some (.slice A xs.length c)) (hi : evo l ix = some (.int k n)) (hb : ∀ w, S w → SL w C A xs) (he : idx xs n = some el) : Rd P S a o (.pointer (some ((adr A).add (n.toNat * s)))) := fun w hS => by
  obtain ⟨hu, i, hinf, hs, _⟩ := slT_spec ht
  obtain ⟨h0, hlt, hel⟩ := idx_spec he
  obtain ⟨b', o', hA, hc⟩ := hb w hS (by omega)
  have h1 : n < xs.length := by omega
  unfold execOp
  subst hA
  simp [ho, K.ev hx, K.ev hi, Instr.indexAt, asIntOf, run_underlying hu, sizeOf, typeInfo, hinf, hs, h0, h1, adr]
theorem rd_ixA {len s : Nat} (ho : o.op = .indexAddr t x ix) (ht : P.underlying t = some (.array len e)) (hsz : (P.info? e).map (·.size) = some s) (K : Kd D a N l) {ad : Addr} (hx : evo l x = some (.pointer (some ad))) (hi : evo l ix = some (.int k n)) (h0 : 0 ≤ n) (h1 : n < len) : Rd P S a o (.pointer (some (ad.add (n.toNat * s)))) := fun w hS => by
  simp only [Option.map_eq_some_iff] at hsz
  obtain ⟨i, hinf, hs⟩ := hsz
  unfold execOp
  simp [ho, K.ev hx, K.ev hi, Instr.indexAt, Instr.sureAddr, asIntOf, run_underlying ht, sizeOf, typeInfo, hinf, hs, h0, h1]
theorem rd_ixS {s : ByteArray} (ho : o.op = .index t x ix) (ht : P.underlying t = some .string) (K : Kd D a N l) (hx : evo l x = some (.string s)) (hi : evo l ix = some (.int k n)) {b : UInt8} (he : idx s.data.toList n = some b) : Rd P S a o (.int .u8 b.toNat) := fun w hS => by
  obtain ⟨h0, hlt, hel⟩ := idx_spec he
  have hlt' : n.toNat < s.size := by simpa using hlt
  have hb : s[n.toNat] = b := by
    have := (List.getElem?_eq_some_iff.1 hel).2
    simp at this; exact this
  unfold execOp
  simp [ho, K.ev hx, K.ev hi, Instr.index, asIntOf, run_underlying ht, h0, hlt', hb]
theorem rd_build {parts : Array (Nat × Operand)} {vs : List (Nat × Value)} (ho : o.op = .build t parts) (K : Kd D a N l) (hp : parts.toList.map (fun p => (evo l p.2).map (fun v => (p.1, v))) = vs.map some) (hb : P.built t vs = some cs.toArray) : Rd P S a o (.agg cs.toArray) := fun w _ => by
  have hE : (parts.map fun (i, x) => (i, a.eval x)).toList = vs := by
    simp only [Array.toList_map]
    have : ∀ (ps : List (Nat × Operand)) (vs : List (Nat × Value)), ps.map (fun p => (evo l p.2).map (fun v => (p.1, v))) = vs.map some → ps.map (fun p => (p.1, a.eval p.2)) = vs := by
      intro ps
      induction ps with
      | nil => intro vs h; cases vs <;> simp_all
      | cons p ps ih =>
        intro vs h
        cases vs with
        | nil => simp at h
        | cons v vs =>
          simp only [List.map_cons, List.cons.injEq] at h ⊢
          refine ⟨?_, ih vs h.2⟩
          obtain ⟨u, hu, hv⟩ := Option.map_eq_some_iff.1 h.1
          rw [K.ev hu, hv]
    exact this _ _ hp
  have hr := run_build (P := P) w t (parts.map fun (i, x) => (i, a.eval x)) cs.toArray (by rw [hE]; exact hb)
  unfold execOp
  simp only [ho, Sem.run_bind, hr]; rfl
/-- A part of a slice. -/
def slA (A : Option Addr) (c : Nat) (p : Int) (s : Nat) : Option Addr := if c = p.toNat then A else A.map (·.add (p.toNat * s))
theorem slA_SL {p q : Int} (h : sli xs p q = some ys) (hc : xs.length ≤ c) (w : World) (R : SL w C A xs) : SL w C (slA A c p C.size) ys := by
  obtain ⟨h0, h1, h2, rfl⟩ := sli_spec h
  exact R.sub c p.toNat q.toNat (by omega) (by omega) hc
theorem sli_cap {p q : Int} (h : sli xs p q = some ys) (hc : xs.length ≤ c) : ys.length ≤ c - p.toNat := by
  obtain ⟨h0, h1, h2, rfl⟩ := sli_spec h
  simp; omega
theorem rd_slice {b s : Nat} {lo hi : Option Operand} {p q : Int} (ho : o.op = .slice t x lo hi none) (ht : slT P t e s b = true) (hs : s = C.size) (K : Kd D a N l) (hx : evo l x = some (.slice A xs.length c)) (hc : xs.length ≤ c)
    (hlo : (match lo with | some z => evo l z = some (.int k p) | none => p = 0)) (hhi : (match hi with | some z => evo l z = some (.int k' q) | none => q = xs.length)) (hy : sli xs p q = some ys) :
    Rd P S a o (.slice (slA A c p C.size) ys.length (c - p.toNat)) := fun w _ => by
  obtain ⟨h0, h1, h2, rfl⟩ := sli_spec hy
  obtain ⟨hu, i, hinf, hsz, _⟩ := slT_spec ht
  subst hs
  have hlen : ((xs.take q.toNat).drop p.toNat).length = q.toNat - p.toNat := by simp; omega
  rw [hlen]
  have hqc : q ≤ c := by omega
  have h0q : 0 ≤ q := by omega
  unfold execOp slA
  cases lo with
  | none =>
    simp only at hlo
    subst hlo
    cases hi with
    | none =>
      simp only at hhi
      subst hhi
      simp [ho, K.ev hx, Instr.sliceAt, Instr.slice, Instr.sliceBounds, run_underlying hu, sizeOf, typeInfo, hinf]
    | some z =>
      simp only at hhi
      simp [ho, K.ev hx, K.ev hhi, Instr.sliceAt, Instr.slice, Instr.sliceBounds, Instr.sliceBound, asIntOf, run_underlying hu, sizeOf, typeInfo, hinf, h0q, hqc]
  | some z' =>
    simp only at hlo
    cases hi with
    | none =>
      simp only at hhi
      subst hhi
      simp [ho, K.ev hx, K.ev hlo, Instr.sliceAt, Instr.slice, Instr.sliceBounds, Instr.sliceBound, asIntOf, run_underlying hu, sizeOf, typeInfo, hinf, hsz, h0, h1]
    | some z =>
      simp only at hhi
      simp [ho, K.ev hx, K.ev hlo, K.ev hhi, Instr.sliceAt, Instr.slice, Instr.sliceBounds, Instr.sliceBound, asIntOf, run_underlying hu, sizeOf, typeInfo, hinf, hsz, h0, h0q, hqc]
      intro hcon
      omega
end
end Go.Proofs.Ytpmnfhifmmfglaa
