/- Texts of the claim CodeBack, joined: DS, DB, Facts, Shelf, HStr, HBld, WBits, WCmp, WCode, WLawChoose, WLawLens, WRefSameints, WLawCodebegun, WRefIsrow. -/
import Derived.Laws.BytesArg
import Derived.Laws.IdiomStrings
import Derived.Laws.Strings2
import Derived.Laws.Strings3
import Derived.Lib.AppendStr
import Derived.Maps.OwnSet
import Derived.Recover
import Derived.Shelf.Strings.Builder1
import Derived.Shelf.Strings.Count
import Derived.Shelf.Strings.Search3
import Derived.Shelf.Strings.SlTrimAscii
import Derived.Test.YtpmnfhifmmfglacDoorChecked
import Derived.Test.YtpmnfhifmmfglacDoorProg
import Derived.WideMake
import Derived.Test.YtpmnfhifmmfglacDoorCodeBackK1
import Derived.Test.YtpmnfhifmmfglacDoorCodeBackK2
set_option linter.unusedVariables false
set_option linter.unusedSimpArgs false
set_option linter.unusedSectionVars false
namespace Go.Proofs.YtpmnfhifmmfglacDoor
open Go.RowKit
theorem bs_size (l : List UInt8) : (bs l).size = l.length := by simp [bs, ByteArray.size]
theorem bs_toList (l : List UInt8) : (bs l).toList = l := ByteArray.toList_mk l
theorem bs_append (l m : List UInt8) : bs l ++ bs m = bs (l ++ m) := by
  apply ByteArray.ext
  simp [bs, ByteArray.data_append]
section
variable {P : Program} {base : Nat} {W w : World} {L : List Ent} {S : World → Prop} {D : List Deferred} {a : Act} {N : Nat} {l : List (Nat × Value)} {o : Oper} {x y ix : Operand} {t t' e : TypeId} {m n p q : Int} {k k' : IntKind}
  {xs ys zs : List UInt8} {A : Option Addr} {c : Nat} {ns : List Int}
theorem rd_lenT (ho : o.op = .call { callee := .builtin .len, args := #[x], argTypes := #[t] }) (h : P.underlying t = some .string) (K : Kd D a N l) (hx : evo l x = some (.string (bs xs))) : Rd P S a o (.int .i64 xs.length) := by
  have := rd_lenS (P := P) (S := S) ho h K hx
  rw [bs_size] at this
  exact this
theorem rd_ixT (ho : o.op = .index t x ix) (ht : P.underlying t = some .string) (K : Kd D a N l) (hx : evo l x = some (.string (bs xs))) (hi : evo l ix = some (.int k n)) {b : UInt8} (he : idx xs n = some b) : Rd P S a o (.int .u8 (b.toNat : Int)) :=
  rd_ixS ho ht K hx hi he
theorem rd_addS (ho : o.op = .binOp .add t x y t') (K : Kd D a N l) (hx : evo l x = some (.string (bs xs))) (hy : evo l y = some (.string (bs ys))) (hz : addS xs ys = some zs) : Rd P S a o (.string (bs zs)) := by
  obtain ⟨rfl, h⟩ := addS_spec hz
  refine rd_bin ho K hx hy fun w => ?_
  have h1 := bs_size xs
  have h2 := bs_size ys
  simp [eqGuard, binOp_string_add, Op.stringOp, bs_append]
  omega
theorem rd_eqlS (ho : o.op = .binOp .eql t x y t') (K : Kd D a N l) (hx : evo l x = some (.string (bs xs))) (hy : evo l y = some (.string (bs ys))) : Rd P S a o (.bool (decide (xs = ys))) :=
  rd_bin ho K hx hy fun w => by
    have e : (xs == ys) = decide (xs = ys) := by rw [Bool.eq_iff_iff]; simp
    rw [Sem.run_bind]; simp [eqGuard, binOp_string_eql, bs_toList, e]
theorem rd_neqS (ho : o.op = .binOp .neq t x y t') (K : Kd D a N l) (hx : evo l x = some (.string (bs xs))) (hy : evo l y = some (.string (bs ys))) : Rd P S a o (.bool (!decide (xs = ys))) :=
  rd_bin ho K hx hy fun w => by
    have e : (xs == ys) = decide (xs = ys) := by rw [Bool.eq_iff_iff]; simp
    rw [Sem.run_bind]; simp [eqGuard, binOp_string_neq, bs_toList, e]
theorem rd_convBS {b : Nat} (ho : o.op = .convert t t' x) (ht : slT P t e 1 b = true) (he : P.underlying e = some (.int .u8)) (hd : P.underlying t' = some .string) (K : Kd D a N l) (hx : evo l x = some (.slice A ns.length c)) (hb : ∀ w, S w → SL w (cI .u8) A ns) : Rd P S a o (.string (bs (toB ns))) := fun w hS => by
  obtain ⟨hu, _⟩ := slT_spec ht
  unfold execOp
  simp only [ho, K.ev hx]
  have key : (convert t t' (.slice A ns.length c)).run P w = .ok (.string (bs (toB ns))) w := by
    by_cases h0 : 0 < ns.length
    · obtain ⟨b, off, rfl, hc⟩ := hb w hS h0
      refine run_convert_bytes_arg w t e hu he b off ns.length c ns rfl (fun i hi => ?_) t' hd
      refine hc i _ ?_
      have := Cod.all_get (cI .u8) ns i 0 ns[i] (.int .u8 ns[i]) (List.getElem?_eq_getElem hi) rfl
      rw [List.getD_eq_getElem?_getD, List.getElem?_eq_getElem hi]
      have h1 : (cI .u8).size = 1 := rfl
      rw [h1, Nat.mul_one, Nat.add_zero] at this
      exact this
    · have hn : ns = [] := List.eq_nil_of_length_eq_zero (by omega)
      subst hn
      cases A with
      | none => exact run_convert_bytes_nil w t e hu he _ _ t' hd
      | some ad =>
        rw [run_convert_bytes_string w t t' e (some ad) _ c hu he hd]
        exact run_bytesToString w ad 0 c [] (run_loadCells_list (P := P) w ad [] (fun j v hj => by simp at hj))
  simp [key]
theorem rd_sliceS {lo hi : Option Operand} (ho : o.op = .slice t x lo hi none) (ht : P.underlying t = some .string) (K : Kd D a N l) (hx : evo l x = some (.string (bs xs)))
    (hlo : (match lo with | some z => evo l z = some (.int k p) | none => p = 0)) (hhi : (match hi with | some z => evo l z = some (.int k' q) | none => q = xs.length)) (hy : sli xs p q = some ys) : Rd P S a o (.string (bs ys)) := fun w _ => by
  obtain ⟨h0, h1, h2, rfl⟩ := sli_spec hy
  have hs : ((bs xs).size : Int) = xs.length := by rw [bs_size]
  have hex : (bs xs).extract p.toNat q.toNat = bs ((xs.take q.toNat).drop p.toNat) := by
    rw [show bs xs = ByteArray.mk xs.toArray from rfl, ByteArray.extract_mk, List.drop_take]; rfl
  have hS : ∀ a b c, (Instr.sliceAt t (.string (bs xs)) a b c).run P w = (Instr.slice t (.string (bs xs)) a b c).run P w := fun a b c => by rw [run_sliceAt_string w t _ a b c ht]
  unfold execOp
  cases lo with
  | none =>
    simp only at hlo; subst hlo
    cases hi with
    | none =>
      simp only at hhi; subst hhi
      have := run_slice_string_all (P := P) w t (bs xs) ht
      rw [bs_size] at this
      rw [Int.toNat_zero, Int.toNat_natCast] at hex
      rw [hex] at this
      simp only [ho, K.ev hx, Sem.run_bind, Option.map, hS, this]
      simp
    | some z =>
      simp only at hhi
      have := run_slice_string_to_if (P := P) w t (bs xs) k' q ht
      rw [if_pos ⟨by omega, by omega⟩] at this
      rw [Int.toNat_zero] at hex
      rw [hex] at this
      simp only [ho, K.ev hx, K.ev hhi, Sem.run_bind, Option.map, hS, this]
      simp
  | some z =>
    simp only at hlo
    cases hi with
    | none =>
      simp only at hhi; subst hhi
      have := run_slice_string_from_if (P := P) w t (bs xs) k p ht
      rw [if_pos ⟨by omega, by omega⟩, bs_size] at this
      rw [Int.toNat_natCast] at hex
      rw [hex] at this
      simp only [ho, K.ev hx, K.ev hlo, Sem.run_bind, Option.map, hS, this]
      simp
    | some z2 =>
      simp only at hhi
      have := run_slice_string (P := P) w t (bs xs) k k' p q ht h0 h1 (by omega)
      rw [hex] at this
      simp only [ho, K.ev hx, K.ev hlo, K.ev hhi, Sem.run_bind, Option.map, hS, this]
      simp
theorem ofB_cells (s : List UInt8) : Lib.strCells (bs s) = (cI .u8).all (ofB s) := by
  show s.map (fun b => Value.int .u8 b.toNat) = _
  induction s with
  | nil => rfl
  | cons x s ih =>
    show _ = (cI .u8).enc (x.toNat : Int) ++ (cI .u8).all (ofB s)
    rw [List.map_cons, ih]; rfl
theorem ofB_len (s : List UInt8) : (ofB s).length = s.length := by simp [ofB]
theorem app_place {i : TypeInfo} {v v' : Value} {n : Nat} {vs : List Value} {w' : World} (s : ByteArray) (ht : P.underlying t = some (.slice e)) (hu : P.underlying t' = some .string) (hi : P.info? e = some i) (hz : i.zero = some (.int .u8 0)) (hsize : i.size = 1) (hby : i.bytes = 1)
    (hown : w.ownsRow 0 e 1 v n vs) (hb : n + s.size ≤ 140737488355328) (ty : TypeId) (hr : (Builtin.append_ #[t, t'] ty #[v, .string s]).run P w = .ok v' w') (h0 : v ≠ .slice none 0 0 ∨ 0 < s.size) : v'.ownBlock = v.ownBlock ∨ v'.ownBlock = some w.heap.size := by
  have hxl : vs.length = n := by simpa using hown.1
  rcases hown.2 with ⟨rfl, rfl⟩ | ⟨g, cap, cur, rfl, hbg, hg, hnc, hcm, hcs, htake⟩
  · have hm : 0 < s.size := by
      rcases h0 with h0 | h0
      · exact absurd rfl h0
      · exact h0
    have := run_append_nil_string (P := P) w t t' ty e i (.int .u8 0) ht hu hi hz s (by omega) (by omega) (by rw [hby]; omega)
    rw [hr] at this
    injection this with h1 _
    right; rw [h1]; rfl
  · by_cases hroom : n + s.size ≤ cap
    · have := Lib.run_append_room_string (P := P) w t t' ty e i ht hu hi hsize g n cap cur hg s hroom (by omega)
      rw [hr] at this
      injection this with h1 _
      left; rw [h1]; rfl
    · have holds : ∀ j u, vs[j]? = some u → w.cell? ((⟨g, 0, none⟩ : Addr).add j) = some u := hown.cells (g := g) rfl
      have := Lib.run_append_grow_string (P := P) w t t' ty e i (.int .u8 0) ht hu hi hz ⟨g, 0, none⟩ n cap vs (by rw [hsize]; simpa using hxl) holds s (by omega) (by omega) (by rw [hby]; exact growslice_fits (by omega) (by omega))
      rw [hr] at this
      injection this with h1 _
      right; rw [h1]; rfl
theorem ac_appS {zs : List Int} (ho : o.op = .call { callee := .builtin .append, args := #[x, y], argTypes := #[t, t'] }) (ht : slT P t e 1 1 = true) (hu : P.underlying t' = some .string) (hz : (P.info? e).bind (·.zero) = some (.int .u8 0)) (K : Kd D a N l)
    (hx : evo l x = some (.slice A ns.length c)) (hy : evo l y = some (.string (bs ys))) (i : Nat) (M : Mem base W w L) (hi : L[i]? = some (.row e 1 A ns.length c ((cI .u8).all ns))) (hlen : app 1 ns (ofB ys) = some zs) :
    Ac P o a w fun v w' => ∃ A' c'', v = .slice A' zs.length c'' ∧ Mem base W w' (L.set i (.row e 1 A' zs.length c'' ((cI .u8).all zs))) := by
  obtain ⟨rfl, hbytes⟩ := app_spec hlen
  rw [ofB_len] at hbytes
  obtain ⟨hsl, inf, hinf, hsz, hby⟩ := slT_spec ht
  have hzz : inf.zero = some (.int .u8 0) := by rw [hinf] at hz; exact hz
  have hown := M.has i _ hi
  have hsize : (bs ys).size = ys.length := bs_size ys
  have hb2 : ns.length + (bs ys).size ≤ 140737488355328 := by rw [hsize]; omega
  obtain ⟨v', w', hr, h2, h3, h4⟩ := Lib.run_append_own_string (P := P) w 0 t t' o.type e inf hsl hu hinf hzz hsz hby (.slice A ns.length c) ns.length ((cI .u8).all ns) hown (bs ys) (by simp only [maxLen]; omega) hb2 (Nat.zero_le _)
  rw [ofB_cells, hsize, ← Cod.all_append] at h2
  by_cases h0 : (Value.slice A ns.length c) = .slice none 0 0 ∧ ys = []
  · obtain ⟨h00, rfl⟩ := h0
    injection h00 with e1 e2 e3
    subst e1 e3
    have hns : ns = [] := List.eq_nil_of_length_eq_zero e2
    subst hns
    have hr2 : (Builtin.append_ #[t, t'] o.type #[.slice none ([] : List Int).length 0, .string (bs [])]).run P w = .ok (.slice none 0 0) w := by
      have hf := Lib.run_firstCells_string (P := P) w 1 (bs [])
      have hm : (bs []).size = 0 := rfl
      rw [hm] at hf
      simp [Builtin.append_, run_underlying hsl, run_underlying hu, sizeOf, typeInfo, hinf, hsz, Builtin.lenOf, hm, hf]
    refine ac_val (v := .slice none 0 0) (w' := w) ?_ ⟨none, 0, rfl, ?_⟩
    · unfold execOp
      simp only [ho, resolve, invoke, builtin, Sem.run_bind, Sem.run_pure, Result.andThen_ok, List.map_toArray, List.map_cons, List.map_nil, K.ev hx, K.ev hy]
      rw [hr2]; rfl
    · have : L.set i (.row e 1 none (([] : List Int) ++ ofB []).length 0 ((cI .u8).all ([] ++ ofB []))) = L := by
        obtain ⟨hlt, he⟩ := List.getElem?_eq_some_iff.1 hi
        exact he ▸ List.set_getElem_self hlt
      rw [this]; exact M
  have hne : (Value.slice A ns.length c) ≠ .slice none 0 0 ∨ 0 < (bs ys).size := by
    by_cases hy0 : ys = []
    · left; exact fun e => h0 ⟨e, hy0⟩
    · right; rw [hsize]; exact List.length_pos_iff.2 hy0
  have hpl := app_place (bs ys) hsl hu hinf hzz hsz hby hown hb2 o.type hr hne
  have hv' : v' ≠ .slice none 0 0 := fun e => by
    obtain ⟨q1, q2⟩ := h4.1 e
    rw [hsize] at q2
    exact h0 ⟨q1, List.eq_nil_of_length_eq_zero q2⟩
  rcases h2.2 with ⟨e1, _⟩ | ⟨g, cap, cur, rfl, _⟩
  · exact absurd e1 hv'
  refine ac_val (v := .slice (some ⟨g, 0, none⟩) (ns.length + ys.length) cap) (w' := w') ?_ ⟨some ⟨g, 0, none⟩, cap, by rw [List.length_append, ofB_len], ?_⟩
  · unfold execOp
    simp only [ho, resolve, invoke, builtin, Sem.run_bind, Sem.run_pure, Result.andThen_ok, List.map_toArray, List.map_cons, List.map_nil, K.ev hx, K.ev hy]
    rw [hr]; rfl
  · have h3' : w.grownBy w' (A.map (·.block)) := by
      cases A with
      | none => exact h3
      | some ad => exact h3
    rw [List.length_append, ofB_len]
    refine M.grown i hi h3' h2 ?_
    rcases hpl with hpl | hpl
    · left
      cases A with
      | none => simp [Value.ownBlock] at hpl
      | some ad => simpa [Value.ownBlock] using hpl.symm
    · right
      simp [Value.ownBlock] at hpl
      omega
end
end Go.Proofs.YtpmnfhifmmfglacDoor

namespace Go.Proofs.YtpmnfhifmmfglacDoor
open Go.RowKit Go.WideMaps
section
variable {P : Program} {base : Nat} {W w : World} {L : List Ent} {S : World → Prop} {D : List Deferred} {a : Act} {N : Nat} {l : List (Nat × Value)} {o : Oper} {x y z : Operand} {t k e T : TypeId} {g n c : Nat} {A : Option Addr}
  {m m' : List (List UInt8 × Int)} {s : List UInt8} {r : Int × Bool} {v : Int}
theorem Mem.swap {e e' : Ent} (M : Mem base W w L) (i : Nat) (hi : L[i]? = some e) (h : Ent.holds w e') (hf : e'.foot = e.foot) : Mem base W w (L.set i e') :=
  M.turn0 i hi (Below.refl _ _) h (fun _ _ _ => rfl) (fun g hg => .inl (hf ▸ hg)) M.oth
theorem Mem.asBld (e : TypeId) (M : Mem base W w (.blk g T [.pointer none, .slice none 0 0] :: L)) : Mem base W w (.row e 1 none ([] : List UInt8).length 0 ((cI .u8).all (ofB ([] : List UInt8))) :: .bld g T none ([] : List UInt8).length 0 :: L) :=
  Mem.nilrow e 1 (cI .u8) (M.swap 0 rfl (show Ent.holds w (.bld g T none 0 0) from ⟨none, .inl rfl, M.has 0 _ rfl⟩) rfl)
theorem Mem.unBld (M : Mem base W w L) (i : Nat) (hi : L[i]? = some (.blk g T [.pointer (some ⟨g, 0, none⟩), .slice A n c])) : Mem base W w (L.set i (.bld g T A n c)) :=
  M.swap i hi (show Ent.holds w (.bld g T A n c) from ⟨_, .inr rfl, M.has i _ hi⟩) rfl
theorem Mem.builder {b : List UInt8} (M : Mem base W w (.bld g T A b.length c :: .row e 1 A b.length c ((cI .u8).all (ofB b)) :: L)) : Lib.IsBuilder T e base g (Lib.byteCells b) w := by
  obtain ⟨p, hp, hb⟩ := M.has 0 _ rfl
  have hrow : w.ownsRow 0 e 1 (.slice A b.length c) b.length ((cI .u8).all (ofB b)) := M.has 1 _ rfl
  rw [← ofB_cells] at hrow
  have hup := M.up 0 _ g rfl rfl
  have hat : Lib.BuilderAt T e base g (.pointer p) (Lib.byteCells b) w := by
    refine ⟨hup, .slice A b.length c, hb, ?_, ?_⟩
    · rw [Lib.byteCells_length]
      obtain ⟨h1, h2⟩ := hrow
      refine ⟨h1, ?_⟩
      rcases h2 with h2 | ⟨g', cap, cur, q1, q2, q3⟩
      · exact .inl h2
      · refine .inr ⟨g', cap, cur, q1, ?_, q3⟩
        injection q1 with q1 _ _
        exact M.up 1 _ g' rfl (by simp [Ent.foot, q1])
    · intro h
      cases A with
      | none => simp [Value.ownBlock] at h
      | some ad =>
        have h' : ad.block = g := by simpa [Value.ownBlock] using h
        have := M.one 0 1 _ _ g rfl rfl rfl (by simp [Ent.foot, h'])
        omega
  rcases hp with rfl | rfl
  · exact .inl hat
  · exact .inr hat
theorem rd_ixP {α : Type} {C : Cod α} {xs : List α} {el : α} {b s' : Nat} {i : Int} {kk : IntKind} {w' : World} (ho : o.op = .indexAddr t x y) (ht : slT P t e s' b = true) (K : Kd D a N l) (hx : evo l x = some (.slice A xs.length c)) (hi : evo l y = some (.int kk i)) (hb : SL w' C A xs) (he : idx xs i = some el) : Rd P S a o (.pointer (some ((adr A).add (i.toNat * s')))) := fun w hS => by
  obtain ⟨hu, inf, hinf, hs, _⟩ := slT_spec ht
  obtain ⟨h0, hlt, hel⟩ := idx_spec he
  obtain ⟨b', o', hA, hc⟩ := hb (by omega)
  have h1 : i < xs.length := by omega
  unfold execOp
  subst hA
  simp [ho, K.ev hx, K.ev hi, Instr.indexAt, asIntOf, run_underlying hu, sizeOf, typeInfo, hinf, hs, h0, h1, adr]
theorem R_rdA {O : Exit → Act → World → Prop} {ops : Array Oper} {f : List Nat} {d cc n' : Nat} {u : Value} {R : Act → World → Prop} {rem : List Nat} (rem' : List Nat) (hc : (rem.erase cc == rem') = true) (ho : ops[cc]? = some o) (K : Kd D a N l) (hw : Region.wanted o (yielded ops a.tmps) = true) (hd : o.dst = some d) (hN : Nat.blt d N = true)
    (hr : Rd P (fun w => Mem base W w L) a o u) (M : Mem base W w L) (k : ∀ a', Kd D a' N ((d, u) :: l) → (needOf f cc = true → S w) ∧ wpTr P O ops S (robOf f) (needOf f) R n' rem' a' w) :
    wpOp P ops O cc (fun a' w' => (needOf f cc = true → S w') ∧ wpTr P O ops S (robOf f) (needOf f) R n' (rem.erase cc) a' w') a w :=
  R_ac rem' hc ho K hw hd hN (post := fun v' w' => v' = u ∧ w' = w) (ac_val (hr w M) ⟨rfl, rfl⟩) fun v' a' w' hp K' => by obtain ⟨rfl, rfl⟩ := hp; exact k a' K'
theorem inS (i : Nat) (h : L[i]? = some (.smp P k e g m)) : ∀ w, Mem base W w L → SMap P k e w g m := fun _ M => M.has i _ h
theorem SMap.new (w : World) : SMap P k e (w.alloc (.map #[] 0)) w.heap.size [] := ⟨.map [], World.ownsMap_made w P k _, fun s => ⟨rfl, fun z => rfl⟩⟩
theorem ac_makeMap (ho : o.op = .makeMap t none) (k e : TypeId) (M : Mem base W w L) : Ac P o a w fun v w' => ∃ g, v = .map (some g) ∧ Mem base W w' (.smp P k e g [] :: L) := by
  refine ac_val (v := .map (some w.heap.size)) (w' := w.alloc (.map #[] 0)) ?_ ⟨_, rfl, ?_⟩
  · unfold execOp
    simp [ho, run_makeMap_plain]
  · refine (M.below ((Below.refl _ _).alloc (Nat.le_refl _) _)).cons (show Ent.holds _ (.smp P k e w.heap.size []) from SMap.new w) fun g hg => ?_
    simp [Ent.foot] at hg
    subst hg
    exact ⟨M.sz, fun i e' h he => by have := M.feet i e' _ h he; omega⟩
theorem rd_look (ho : o.op = .lookup t x y true) (ht : P.underlying t = some (.map k e)) (hk : P.underlying k = some .string) (he : P.underlying e = some (.int .i64)) (hz : (P.info? e).bind (·.zero) = some (.int .i64 0)) (K : Kd D a N l)
    (hx : evo l x = some (.map (some g))) (hy : evo l y = some (.string (bs s))) (hM : ∀ w, S w → SMap P k e w g m) (hl : mlook m s = some r) : Rd P S a o (.tuple #[.int .i64 r.1, .bool r.2]) := fun w hS => by
  obtain ⟨rfl, hs⟩ := mlook_spec hl
  obtain ⟨D, hown, hD⟩ := hM w hS
  have hz : ∀ w, (zeroValue e).run P w = .ok (.int .i64 0) w := fun w => by
    simp only [Option.bind_eq_some_iff] at hz
    obtain ⟨inf, hinf, hz0⟩ := hz
    simp [zeroValue, typeInfo, hinf, hz0]
  have hkey : keyOf P k (.string (bs s)) = some (.string s) := keyOf_string_mk hk (by rw [bs_size]; unfold maxLen; omega)
  obtain ⟨v, ps, hrun, hv⟩ := hown.look_ok (Maps.string_keyed hk) ht (hz w) (plainElem_int he (by decide)) hkey
  obtain ⟨c, rfl, hc, _⟩ := plainElem_int_inv he hv
  obtain ⟨h1, h2⟩ := hD s
  simp only [Prod.mk.injEq] at hc
  have hcc : c = (mget m s).getD 0 := by
    have h3 := h2 (.lit (.int .i64 0))
    rw [hc.1] at h3
    cases hm : mget m s with
    | none => rw [hm] at h3; simp at h3; simp [h3]
    | some q => rw [hm] at h3; simp at h3; simp [h3]
  subst hcc
  rw [h1] at hrun
  unfold execOp
  simp [ho, K.ev hx, K.ev hy, hrun]
theorem ac_mapSet (ho : o.op = .mapUpdate t x y z) (ht : P.underlying t = some (.map k e)) (hk : P.underlying k = some .string) (he : P.underlying e = some (.int .i64)) (K : Kd D a N l)
    (hx : evo l x = some (.map (some g))) (hy : evo l y = some (.string (bs s))) (hv : evo l z = some (.int .i64 v)) (i : Nat) (M : Mem W.heap.size W w L) (hi : L[i]? = some (.smp P k e g m)) (hp : mput m s v = some m') :
    Ac P o a w fun _ w' => Mem W.heap.size W w' (L.set i (.smp P k e g m')) := by
  obtain ⟨rfl, h1, h2, h3, h4⟩ := mput_spec hp
  obtain ⟨D, hown, hD⟩ := M.has i _ hi
  have hkey : keyOf P k (.string (bs s)) = some (.string s) := keyOf_string_mk hk (by rw [bs_size]; unfold maxLen; omega)
  obtain ⟨w', hrun, hown', hg⟩ := hown.update (Maps.string_keyed hk) ht (by unfold maxLen; omega) hkey (plainElem_int he (WalkArith.wf_i64 ⟨h3, h4⟩))
  refine ac_skip (w' := w') ?_ (M.turnS rfl i hi ((Below.refl _ w).grown hg M.sz fun k hk => M.up i _ k hi (by cases hk; rfl)) (show Ent.holds w' (.smp P k e g ((s, v) :: m)) from ⟨_, hown', fun s' => ?_⟩) (fun j hj hne => hg.block j hj fun h => hne (by cases h; rfl)) (fun g' hg' => .inl hg'))
  · unfold execOp
    simp [ho, K.ev hx, K.ev hy, K.ev hv, hrun]
  · have hkl : WideAt.IsKeyLit (.string s) := trivial
    by_cases hs : s = s'
    · subst hs
      refine ⟨?_, fun z => ?_⟩
      · rw [Maps.has_put_same hown.isMap hkl]; simp [mget]
      · rw [Maps.atKey_put_same hown.isMap hkl]; simp [mget]
    · have hne : (Lit.string s' : Lit) ≠ .string s := fun h => hs (by injection h with h; exact h.symm)
      obtain ⟨q1, q2⟩ := hD s'
      refine ⟨?_, fun z => ?_⟩
      · rw [Maps.has_put_other hne, q1]; simp [mget, hs]
      · rw [Maps.atKey_put_other hne, q2]; simp [mget, hs]
end
end Go.Proofs.YtpmnfhifmmfglacDoor

namespace Go.Proofs.YtpmnfhifmmfglacDoor
open Go.RowKit
theorem z2 : zeroT Tryd.prog 2 = some [.int .i64 0] := by kernel_rfl
theorem sc3 : scT Tryd.prog 3 = true := by kernel_rfl
theorem z3 : zeroT Tryd.prog 3 = some [.int .i64 0] := by kernel_rfl
theorem zi3 : (Tryd.prog.info? 3).bind (·.zero) = some (.int .i64 0) := by kernel_rfl
theorem ik3 : Tryd.prog.underlying 3 = some (.int .i64) := by kernel_rfl
theorem sz3 : (Tryd.prog.info? 3).map (·.size) = some 1 := by kernel_rfl
theorem z4 : zeroT Tryd.prog 4 = some [.bool false] := by kernel_rfl
theorem sc5 : scT Tryd.prog 5 = true := by kernel_rfl
theorem z5 : zeroT Tryd.prog 5 = some [.int .u8 0] := by kernel_rfl
theorem ik5 : Tryd.prog.underlying 5 = some (.int .u8) := by kernel_rfl
theorem zu5 : (Tryd.prog.info? 5).bind (·.zero) = some (.int .u8 0) := by kernel_rfl
theorem sz5 : (Tryd.prog.info? 5).map (·.size) = some 1 := by kernel_rfl
theorem sc9 : scT Tryd.prog 9 = true := by kernel_rfl
theorem z9 : zeroT Tryd.prog 9 = some [.string (bs ([] : List UInt8))] := by kernel_rfl
theorem st9 : Tryd.prog.underlying 9 = some .string := by kernel_rfl
theorem sz9 : (Tryd.prog.info? 9).map (·.size) = some 1 := by kernel_rfl
theorem z20 : zeroT Tryd.prog 20 = some [.nilIface] := by kernel_rfl
theorem z21 : zeroT Tryd.prog 21 = some [.int .i32 0] := by kernel_rfl
theorem sc22 : scT Tryd.prog 22 = true := by kernel_rfl
theorem sl22 : slT Tryd.prog 22 3 1 8 = true := by kernel_rfl
theorem un22 : ∃ e, Tryd.prog.underlying 22 = some (.slice e) := ⟨_, (slT_spec sl22).1⟩
theorem sl31 : slT Tryd.prog 31 9 1 16 = true := by kernel_rfl
theorem un31 : ∃ e, Tryd.prog.underlying 31 = some (.slice e) := ⟨_, (slT_spec sl31).1⟩
theorem z37 : zeroT Tryd.prog 37 = some [.int .i64 0, .int .i64 0, .slice none 0 0] := by kernel_rfl
theorem sc52 : scT Tryd.prog 52 = true := by kernel_rfl
theorem sl52 : slT Tryd.prog 52 5 1 1 = true := by kernel_rfl
theorem un52 : ∃ e, Tryd.prog.underlying 52 = some (.slice e) := ⟨_, (slT_spec sl52).1⟩
theorem mp64 : Tryd.prog.underlying 64 = some (.map 9 3) := by kernel_rfl
theorem z70 : zeroT Tryd.prog 70 = some [.nilFunc] := by kernel_rfl
theorem z72 : zeroT Tryd.prog 72 = some [.nilFunc] := by kernel_rfl
theorem z75 : zeroT Tryd.prog 75 = some [.nilFunc] := by kernel_rfl
theorem z116 : zeroT Tryd.prog 116 = some [.nilFunc] := by kernel_rfl
theorem z119 : zeroT Tryd.prog 119 = some [.int .u8 0, .int .u8 0] := by kernel_rfl
theorem z124 : zeroT Tryd.prog 124 = some [] := by kernel_rfl
theorem z127 : zeroT Tryd.prog 127 = some [.nilFunc] := by kernel_rfl
theorem fok9 : FnOK Tryd.prog 9 = true := by kernel_rfl
theorem fok11 : FnOK Tryd.prog 11 = true := by kernel_rfl
theorem fok13 : FnOK Tryd.prog 13 = true := by kernel_rfl
theorem fok14 : FnOK Tryd.prog 14 = true := by kernel_rfl
theorem fok15 : FnOK Tryd.prog 15 = true := by kernel_rfl
theorem fok16 : FnOK Tryd.prog 16 = true := by kernel_rfl
theorem fok17 : FnOK Tryd.prog 17 = true := by kernel_rfl
theorem fok27 : FnOK Tryd.prog 27 = true := by kernel_rfl
theorem fok28 : FnOK Tryd.prog 28 = true := by kernel_rfl
theorem fok32 : FnOK Tryd.prog 32 = true := by kernel_rfl
theorem fok33 : FnOK Tryd.prog 33 = true := by kernel_rfl
theorem fok36 : FnOK Tryd.prog 36 = true := by kernel_rfl
theorem fok37 : FnOK Tryd.prog 37 = true := by kernel_rfl
theorem fok38 : FnOK Tryd.prog 38 = true := by kernel_rfl
theorem fok39 : FnOK Tryd.prog 39 = true := by kernel_rfl
theorem fok40 : FnOK Tryd.prog 40 = true := by kernel_rfl
theorem fok41 : FnOK Tryd.prog 41 = true := by kernel_rfl
theorem fok60 : FnOK Tryd.prog 60 = true := by kernel_rfl
theorem fok62 : FnOK Tryd.prog 62 = true := by kernel_rfl
theorem fok64 : FnOK Tryd.prog 64 = true := by kernel_rfl
theorem fok65 : FnOK Tryd.prog 65 = true := by kernel_rfl
theorem fok66 : FnOK Tryd.prog 66 = true := by kernel_rfl
theorem fok72 : FnOK Tryd.prog 72 = true := by kernel_rfl
theorem fok73 : FnOK Tryd.prog 73 = true := by kernel_rfl
theorem fok74 : FnOK Tryd.prog 74 = true := by kernel_rfl
end Go.Proofs.YtpmnfhifmmfglacDoor

namespace Go.Proofs.YtpmnfhifmmfglacDoor
open Go.Shelf Go.RowKit
def lays160_ren : Go.Shelf.Ren := ⟨fun | 160 => 72 | 232 => 78 | 231 => 77 | 227 => 79 | 234 => 81 | 233 => 80 | 236 => 83 | 235 => 82 | 228 => 91 | 271 => 94 | 151 => 93 | 197 => 92 | 120 => 100 | 152 => 99 | 260 => 98 | 137 => 101 | 119 => 102 | 224 => 89 | 225 => 88 | 217 => 87 | 266 => 96 | n => n, fun | 9 => 9 | 4 => 4 | 3 => 3 | 5 => 5 | 117 => 105 | 116 => 104 | 0 => 0 | 124 => 108 | 21 => 21 | 105 => 111 | 46 => 76 | 119 => 117 | 139 => 120 | 138 => 119 | n => n, fun | 3 => 1 | 4 => 2 | n => n⟩
theorem lays160 : Go.Proofs.Lays.n160 Tryd.prog lays160_ren := {
  mixed := by kernel_rfl
  f119 := Tryd.func102.trans (congrArg some (by kernel_rfl))
  f120 := Tryd.func100.trans (congrArg some (by kernel_rfl))
  f137 := Tryd.func101.trans (congrArg some (by kernel_rfl))
  f151 := Tryd.func93.trans (congrArg some (by kernel_rfl))
  f152 := Tryd.func99.trans (congrArg some (by kernel_rfl))
  f160 := Tryd.func72.trans (congrArg some (by kernel_rfl))
  f197 := Tryd.func92.trans (congrArg some (by kernel_rfl))
  f217 := Tryd.func87.trans (congrArg some (by kernel_rfl))
  f224 := Tryd.func89.trans (congrArg some (by kernel_rfl))
  f225 := Tryd.func88.trans (congrArg some (by kernel_rfl))
  f227 := Tryd.func79.trans (congrArg some (by kernel_rfl))
  f228 := Tryd.func91.trans (congrArg some (by kernel_rfl))
  f231 := Tryd.func77.trans (congrArg some (by kernel_rfl))
  f232 := Tryd.func78.trans (congrArg some (by kernel_rfl))
  f233 := Tryd.func80.trans (congrArg some (by kernel_rfl))
  f234 := Tryd.func81.trans (congrArg some (by kernel_rfl))
  f235 := Tryd.func82.trans (congrArg some (by kernel_rfl))
  f236 := Tryd.func83.trans (congrArg some (by kernel_rfl))
  f260 := Tryd.func98.trans (congrArg some (by kernel_rfl))
  f266 := Tryd.func96.trans (congrArg some (by kernel_rfl))
  f271 := Tryd.func94.trans (congrArg some (by kernel_rfl))
  t0 := Tryd.underlying0
  a0 := Tryd.isAgg0
  z0 := Tryd.sizeOf0
  v0 := Tryd.zeroValue0
  t3 := Tryd.underlying3
  a3 := Tryd.isAgg3
  z3 := Tryd.sizeOf3
  v3 := Tryd.zeroValue3
  t4 := Tryd.underlying4
  a4 := Tryd.isAgg4
  z4 := Tryd.sizeOf4
  v4 := Tryd.zeroValue4
  t5 := Tryd.underlying5
  a5 := Tryd.isAgg5
  z5 := Tryd.sizeOf5
  v5 := Tryd.zeroValue5
  t9 := Tryd.underlying9
  a9 := Tryd.isAgg9
  z9 := Tryd.sizeOf9
  v9 := Tryd.zeroValue9
  t21 := Tryd.underlying21
  a21 := Tryd.isAgg21
  z21 := Tryd.sizeOf21
  v21 := Tryd.zeroValue21
  t46 := Tryd.underlying76
  a46 := Tryd.isAgg76
  z46 := Tryd.sizeOf76
  v46 := Tryd.zeroValue76
  t105 := Tryd.underlying111
  a105 := Tryd.isAgg111
  z105 := Tryd.sizeOf111
  v105 := Tryd.zeroValue111
  t116 := Tryd.underlying104
  a116 := Tryd.isAgg104
  z116 := Tryd.sizeOf104
  t117 := Tryd.underlying105
  a117 := Tryd.isAgg105
  z117 := Tryd.sizeOf105
  v117 := Tryd.zeroValue105
  t119 := Tryd.underlying117
  a119 := Tryd.isAgg117
  z119 := Tryd.sizeOf117
  t124 := Tryd.underlying108
  a124 := Tryd.isAgg108
  z124 := Tryd.sizeOf108
  v124 := Tryd.zeroValue108
  t138 := Tryd.underlying119
  a138 := Tryd.isAgg119
  z138 := Tryd.sizeOf119
  v138 := Tryd.zeroValue119
  t139 := Tryd.underlying120
  a139 := Tryd.isAgg120
  z139 := Tryd.sizeOf120
  v139 := Tryd.zeroValue120
  g3 := by kernel_rfl
  g4 := by kernel_rfl }
def lays138_ren : Go.Shelf.Ren := ⟨fun | 138 => 73 | 195 => 84 | 218 => 85 | 143 => 70 | 219 => 76 | 217 => 87 | 225 => 88 | 224 => 89 | 267 => 90 | 266 => 96 | 314 => 97 | n => n, fun | 9 => 9 | 3 => 3 | 4 => 4 | 5 => 5 | 0 => 0 | 46 => 76 | 146 => 114 | 51 => 93 | n => n, fun | 1 => 0 | n => n⟩
theorem lays138 : Go.Proofs.Lays.n138 Tryd.prog lays138_ren := {
  mixed := by kernel_rfl
  f138 := Tryd.func73.trans (congrArg some (by kernel_rfl))
  f143 := Tryd.func70.trans (congrArg some (by kernel_rfl))
  f195 := Tryd.func84.trans (congrArg some (by kernel_rfl))
  f217 := Tryd.func87.trans (congrArg some (by kernel_rfl))
  f218 := Tryd.func85.trans (congrArg some (by kernel_rfl))
  f219 := Tryd.func76.trans (congrArg some (by kernel_rfl))
  f224 := Tryd.func89.trans (congrArg some (by kernel_rfl))
  f225 := Tryd.func88.trans (congrArg some (by kernel_rfl))
  f266 := Tryd.func96.trans (congrArg some (by kernel_rfl))
  f267 := Tryd.func90.trans (congrArg some (by kernel_rfl))
  f314 := Tryd.func97.trans (congrArg some (by kernel_rfl))
  t0 := Tryd.underlying0
  a0 := Tryd.isAgg0
  z0 := Tryd.sizeOf0
  v0 := Tryd.zeroValue0
  t3 := Tryd.underlying3
  a3 := Tryd.isAgg3
  z3 := Tryd.sizeOf3
  v3 := Tryd.zeroValue3
  t4 := Tryd.underlying4
  a4 := Tryd.isAgg4
  z4 := Tryd.sizeOf4
  v4 := Tryd.zeroValue4
  t5 := Tryd.underlying5
  a5 := Tryd.isAgg5
  z5 := Tryd.sizeOf5
  v5 := Tryd.zeroValue5
  t9 := Tryd.underlying9
  a9 := Tryd.isAgg9
  z9 := Tryd.sizeOf9
  v9 := Tryd.zeroValue9
  t46 := Tryd.underlying76
  a46 := Tryd.isAgg76
  z46 := Tryd.sizeOf76
  v46 := Tryd.zeroValue76
  t51 := Tryd.underlying93
  a51 := Tryd.isAgg93
  z51 := Tryd.sizeOf93
  v51 := Tryd.zeroValue93
  t146 := Tryd.underlying114
  a146 := Tryd.isAgg114
  z146 := Tryd.sizeOf114
  v146 := Tryd.zeroValue114
  g1 := by kernel_rfl }
def lays169_ren : Go.Shelf.Ren := ⟨fun | 169 => 28 | n => n, fun | 70 => 51 | 9 => 9 | 0 => 0 | 72 => 54 | 37 => 52 | 127 => 87 | 3 => 3 | 5 => 5 | n => n, fun | n => n⟩
theorem lays169 : Go.Proofs.Lays.n169 Tryd.prog lays169_ren := {
  mixed := by kernel_rfl
  f169 := Tryd.func28.trans (congrArg some (by kernel_rfl))
  t0 := Tryd.underlying0
  a0 := Tryd.isAgg0
  z0 := Tryd.sizeOf0
  v0 := Tryd.zeroValue0
  t3 := Tryd.underlying3
  a3 := Tryd.isAgg3
  z3 := Tryd.sizeOf3
  v3 := Tryd.zeroValue3
  t9 := Tryd.underlying9
  a9 := Tryd.isAgg9
  z9 := Tryd.sizeOf9
  v9 := Tryd.zeroValue9
  t37 := Tryd.underlying52
  a37 := Tryd.isAgg52
  z37 := Tryd.sizeOf52
  v37 := Tryd.zeroValue52
  t70 := Tryd.underlying51
  a70 := Tryd.isAgg51
  z70 := Tryd.sizeOf51
  v70 := Tryd.zeroValue51
  t72 := Tryd.underlying54
  a72 := Tryd.isAgg54
  z72 := Tryd.sizeOf54
  v72 := Tryd.zeroValue54
  t127 := Tryd.underlying87
  a127 := Tryd.isAgg87
  z127 := Tryd.sizeOf87
  v127 := Tryd.zeroValue87 }
def lays166_ren : Go.Shelf.Ren := ⟨fun | 166 => 27 | 240 => 60 | 276 => 71 | 169 => 28 | n => n, fun | 0 => 0 | 3 => 3 | 4 => 4 | 5 => 5 | 9 => 9 | 20 => 20 | 37 => 52 | 70 => 51 | 72 => 54 | 75 => 56 | 80 => 59 | 164 => 97 | 127 => 87 | n => n, fun | n => n⟩
theorem lays166 : Go.Proofs.Lays.n166 Tryd.prog lays166_ren := {
  mixed := by kernel_rfl
  f166 := Tryd.func27.trans (congrArg some (by kernel_rfl))
  f240 := Tryd.func60.trans (congrArg some (by kernel_rfl))
  f276 := Tryd.func71.trans (congrArg some (by kernel_rfl))
  t0 := Tryd.underlying0
  a0 := Tryd.isAgg0
  z0 := Tryd.sizeOf0
  v0 := Tryd.zeroValue0
  t3 := Tryd.underlying3
  a3 := Tryd.isAgg3
  z3 := Tryd.sizeOf3
  v3 := Tryd.zeroValue3
  t4 := Tryd.underlying4
  a4 := Tryd.isAgg4
  z4 := Tryd.sizeOf4
  v4 := Tryd.zeroValue4
  t9 := Tryd.underlying9
  a9 := Tryd.isAgg9
  z9 := Tryd.sizeOf9
  v9 := Tryd.zeroValue9
  t20 := Tryd.underlying20
  a20 := Tryd.isAgg20
  z20 := Tryd.sizeOf20
  v20 := Tryd.zeroValue20
  t37 := Tryd.underlying52
  a37 := Tryd.isAgg52
  z37 := Tryd.sizeOf52
  v37 := Tryd.zeroValue52
  t70 := Tryd.underlying51
  a70 := Tryd.isAgg51
  z70 := Tryd.sizeOf51
  v70 := Tryd.zeroValue51
  t72 := Tryd.underlying54
  a72 := Tryd.isAgg54
  z72 := Tryd.sizeOf54
  v72 := Tryd.zeroValue54
  t75 := Tryd.underlying56
  a75 := Tryd.isAgg56
  z75 := Tryd.sizeOf56
  v75 := Tryd.zeroValue56
  t164 := Tryd.underlying97
  a164 := Tryd.isAgg97
  z164 := Tryd.sizeOf97
  v164 := Tryd.zeroValue97 }
theorem Builder_Extra_166 : Builder.Extra Tryd.prog lays166_ren where
  sizeBuilder := by kernel_rfl
  liesBuilder := by kernel_rfl
  t5 := Tryd.underlying5
  a5 := Tryd.isAgg5
  z5 := Tryd.sizeOf5
  v5 := Tryd.zeroValue5
  infoByte := by kernel_rfl
  cellsByte := by kernel_rfl
  sizeByte := by kernel_rfl
  neB5 := by decide
theorem Builder_Extra_169 : Builder.Extra Tryd.prog lays169_ren where
  sizeBuilder := by kernel_rfl
  liesBuilder := by kernel_rfl
  t5 := Tryd.underlying5
  a5 := Tryd.isAgg5
  z5 := Tryd.sizeOf5
  v5 := Tryd.zeroValue5
  infoByte := by kernel_rfl
  cellsByte := by kernel_rfl
  sizeByte := by kernel_rfl
  neB5 := by decide
theorem Builder_String (B b : Nat) (l : List UInt8) (w : World) (h : Lib.IsBuilder 54 5 B b (Lib.byteCells l) w) (hBw : B ≤ w.heap.size) :
    Calls Tryd.prog 28 #[.pointer (some ⟨b, 0, none⟩)] w fun e w' => e = .returned (.string ⟨l.toArray⟩) ∧ Below B w w' := Any.Builder_String_any lays169 Builder_Extra_169 B b l w h hBw
end Go.Proofs.YtpmnfhifmmfglacDoor

namespace Go.Proofs.YtpmnfhifmmfglacDoor
open Go.RowKit Go.Shelf
theorem W_strings_Trim (N : Nat) (s cutset : List UInt8) (w0 : World) (r : List UInt8) (h : D_strings_Trim N s cutset = some r) :
    Calls Tryd.prog 72 #[.string (bs s), .string (bs cutset)] w0 fun e w' => ∃ v, e = .returned v ∧ v = .string (bs r) ∧ Mem w0.heap.size w0 w' [] := by
  unfold D_strings_Trim at h
  split at h
  · rename_i hc
    cases h
    obtain ⟨h1, h2, h3⟩ := hc
    refine (Any.strings_Trim_laid lays160 (by kernel_rfl) (bs s) (bs cutset) w0 (by rw [bs_size]; exact h1) (by rw [bs_size]; exact h2) (fun j b hb => ?_)).mono ?_
    · exact of_decide_eq_true (List.all_eq_true.1 h3 b (List.mem_of_getElem? hb))
    · rintro e w' ⟨rfl, hb⟩
      exact ⟨_, rfl, rfl, Mem.fin0 hb⟩
  · cases h
theorem W_strings_Count (N : Nat) (s substr : List UInt8) (w0 : World) (r : Int) (h : D_strings_Count N s substr = some r) :
    Calls Tryd.prog 73 #[.string (bs s), .string (bs substr)] w0 fun e w' => ∃ v, e = .returned v ∧ v = .int .i64 r ∧ Mem w0.heap.size w0 w' [] := by
  unfold D_strings_Count at h
  split at h
  · rename_i c
    cases h
    refine (Any.strings_Count_one lays138 (bs s) c w0).mono ?_
    rintro e w' ⟨rfl, rfl⟩
    exact ⟨_, rfl, rfl, Mem.start w'⟩
  · cases h
end Go.Proofs.YtpmnfhifmmfglacDoor

namespace Go.Proofs.YtpmnfhifmmfglacDoor
open Go.RowKit Go.Shelf
section
variable {base : Nat} {W w : World} {L : List Ent} {g c n : Nat} {A : Option Addr} {b d b2 : List UInt8}
theorem W_bld_check (M : Mem base W w (.bld g 54 A n c :: L)) :
    Calls Tryd.prog 60 #[.pointer (some ⟨g, 0, none⟩)] w fun e w' => ∃ v, e = .returned v ∧ Mem base W w' (.blk g 54 [.pointer (some ⟨g, 0, none⟩), .slice A n c] :: L) := by
  obtain ⟨p, hp, hb⟩ := M.has 0 _ rfl
  have hb' : w.heap[g]? = some (.cells #[.pointer p, .slice A n c] 54 (0, 0)) := hb
  have M1 : Mem base W w (.blk g 54 [.pointer p, .slice A n c] :: L) := M.swap 0 rfl hb rfl
  rcases hp with rfl | rfl
  · refine (Any.Builder_copyCheck_fresh { lays166 with } Builder_Extra_166.toX72 g w (M1.cell (i := 0) rfl (k := 0) rfl) (by simp [World.shape?, hb', lays166_ren]) (by simp [World.frozen?, hb'])).mono ?_
    rintro e w' ⟨rfl, rfl⟩
    exact ⟨_, rfl, M1.set 0 rfl 0 _⟩
  · refine (Any.Builder_copyCheck_used { lays166 with } Builder_Extra_166.toX72 g w (M1.cell (i := 0) rfl (k := 0) rfl)).mono ?_
    rintro e w' ⟨rfl, rfl⟩
    exact ⟨_, rfl, M1⟩
set_option maxRecDepth 100000 in
set_option maxHeartbeats 4000000 in
theorem W_bld_write (M : Mem base W w (.bld g 54 A b.length c :: .row 5 1 A b.length c ((cI .u8).all (ofB b)) :: L)) (h : bwr b d = some b2) :
    Calls Tryd.prog 27 #[.pointer (some ⟨g, 0, none⟩), .string (bs d)] w fun e w' => ∃ v, e = .returned v ∧ ∃ A' c', Mem base W w' (.bld g 54 A' b2.length c' :: .row 5 1 A' b2.length c' ((cI .u8).all (ofB b2)) :: L) := by
  obtain ⟨rfl, hl⟩ := bwr_spec h
  have happ : app 1 (ofB b) (ofB d) = some (ofB b ++ ofB d) := by
    unfold app
    rw [if_pos (by rw [ofB_len, ofB_len]; omega)]
  replace M : Mem base W w (.bld g 54 A (ofB b).length c :: .row 5 1 A (ofB b).length c ((cI .u8).all (ofB b)) :: L) := by rw [ofB_len]; exact M
  refine X_enter Tryd.func27 rfl Tryd.ntmps27 rfl ?_
  intro a K
  have K : Kn a 19 [(0, .pointer (some ⟨g, 0, none⟩)), (1, .string (bs d))] := K
  refine wp_seq (X_reg ?_)
  refine X_o K M ?_; clear K
  refine Y_o M ?_; intro a K
  refine wpList_nil (then_n (wp_seq (X_reg ?_)))
  refine X_o K M ?_; clear K; intro a K
  refine X_a K (ac_call (vs := [.pointer (some ⟨g, 0, none⟩)]) (cap := []) rfl fok60 K rfl rfl (W_bld_check M)) ?_
  clear K M; rintro _ a w M K
  refine wpList_nil (then_n (wp_seq (X_reg ?_)))
  refine X_o K M ?_; clear K
  refine Y_o M ?_
  refine Y_o M ?_
  refine Y_r (fun _ K => rd_field rfl (show fldT Tryd.prog 54 1 = some 1 by kernel_rfl) K rfl) M ?_
  refine Y_r (fun _ K => rd_ldC rfl sc52 K rfl (inM 0 rfl) rfl) M ?_
  refine Y_o M ?_; intro a K
  refine X_a K (ac_appS rfl sl52 st9 zu5 K rfl rfl 1 M rfl happ) ?_
  clear K M; rintro _ a w ⟨A', c', rfl, M⟩ K
  refine X_o K M ?_; clear K
  refine Y_r (fun _ K => rd_field rfl (show fldT Tryd.prog 54 1 = some 1 by kernel_rfl) K rfl) M ?_; intro a K
  refine X_b K (ac_storeC rfl sc52 K rfl rfl rfl 0 M rfl rfl) ?_
  clear K M; rintro _ a w M K
  refine wpList_nil (then_n (wp_seq (X_reg ?_)))
  refine X_o K M ?_; clear K
  refine Y_r (fun _ K => rd_lenT rfl st9 K rfl) M ?_
  refine Y_o M ?_
  refine Y_o M ?_; intro a K
  refine wpList_nil (then_n (wp_ret ?_))
  replace M : Mem base W w (.blk g 54 [.pointer (some ⟨g, 0, none⟩), .slice A' (ofB b ++ ofB d).length c'] :: .row 5 1 A' (ofB b ++ ofB d).length c' ((cI .u8).all (ofB b ++ ofB d)) :: L) := M
  have M2 : Mem base W w (.bld g 54 A' (ofB b ++ ofB d).length c' :: .row 5 1 A' (ofB b ++ ofB d).length c' ((cI .u8).all (ofB b ++ ofB d)) :: L) := M.unBld 0 rfl
  have e : (ofB b ++ ofB d) = ofB (b ++ d) := (List.map_append ..).symm
  rw [e, ofB_len] at M2
  exact ret2 K rfl (res_tmp K rfl) (res_tmp K rfl) ⟨_, rfl, A', c', M2⟩
theorem W_bld_string (M : Mem W.heap.size W w (.bld g 54 A b.length c :: .row 5 1 A b.length c ((cI .u8).all (ofB b)) :: L)) :
    Calls Tryd.prog 28 #[.pointer (some ⟨g, 0, none⟩)] w fun e w' => ∃ v, e = .returned v ∧ v = .string (bs b) ∧ Mem W.heap.size W w' [] := by
  refine (Builder_String W.heap.size g b w M.builder M.sz).mono ?_
  rintro e w' ⟨rfl, h2⟩
  exact ⟨_, rfl, rfl, Mem.fin0 (M.low.trans h2)⟩
end
end Go.Proofs.YtpmnfhifmmfglacDoor

namespace Go.Proofs.YtpmnfhifmmfglacDoor
open Go.RowKit
set_option maxRecDepth 100000 in
set_option maxHeartbeats 4000000 in
theorem W_bits_digits (N : Nat) (n : Int) (size : Int) (w0 : World)  (r : List UInt8) (h : D_bits_digits N n size = some r) :
    Calls Tryd.prog 66 #[I n, I size] w0 fun e w' => ∃ v, e = .returned v ∧ v = .string (bs r) ∧ Mem w0.heap.size w0 w' [] := by
  refine X_enter Tryd.func66 rfl Tryd.ntmps66 rfl ?_
  intro a K
  have M := Mem.start w0
  have K : Kn a 28 [(0, I n), (1, I size)] := K
  unfold D_bits_digits at h
  refine wp_seq (X_reg ?_)
  refine X_o K M ?_; clear K; intro a K
  refine wpList_nil (then_n (wp_seq (X_reg ?_)))
  refine X_o K M ?_; clear K; intro a K
  obtain ⟨l2, h_l2, h⟩ := obind h
  refine X_a K (ac_make (C := (cI .u8)) (z := 0) rfl sl52 rfl z5 rfl K rfl rfl M h_l2) ?_
  clear K M; rintro _ a w ⟨A, c, rfl, M⟩ K
  refine X_o K M ?_; clear K; intro a K
  refine wpList_nil (then_n (wp_seq (wp_seq (X_reg ?_))))
  refine X_o K M ?_; clear K
  refine Y_r (fun _ K => rd_len rfl un52 K rfl) M ?_
  refine Y_o M ?_; intro a K
  refine wpList_nil (then_n (wp_block ?_))
  refine X_lp (id := 0) (Rel := fun (⟨l3, i, i2⟩ : List Int × Int × Int) a w => Kn a 28 [(0, I n), (1, I size), (5, .slice A l3.length c), (10, I i), (11, I i2)] ∧ Mem w0.heap.size w0 w [.row 5 1 A l3.length c ((cI .u8).all l3)]) h (fun _ _ => rfl) ⟨K.pick [0,1,5,10,11], M.pick [0] (by decide)⟩ ?_ ?_
  · clear K M h
    rintro ⟨l6, i3, i4⟩ a w ⟨K, M⟩ h
    try dsimp only at h
    refine inb_e ?_
    refine then_n (wp_seq (X_reg ?_))
    refine X_o K M ?_; clear K
    refine Y_r (fun _ K => rd_convBS rfl sl52 ik5 st9 K rfl (inR (C := (cI .u8)) 0 rfl rfl)) M ?_
    refine Y_o M ?_; intro a K
    refine wpList_nil (then_n (wp_ret ?_))
    cases h
    exact ret1 K rfl (res_tmp K rfl) ⟨_, rfl, rfl, ((M).pick [] (by decide))⟩
  clear K M h
  rintro kk fuel ⟨l3, i, i2⟩ a w hk1 ⟨K, M⟩ h
  unfold D_bits_digits_l1 at h
  refine wp_seq (X_reg ?_)
  refine X_o K M ?_; clear K; intro a K
  refine wpList_nil (then_n (wp_seq ?_))
  refine X_cond K rfl (fun hb => ?_) (fun hb => ?_)
  · have h := ctrue hb h
    refine wp_skip (then_n (wp_seq (wp_block (wp_seq (X_reg ?_)))))
    refine X_o K M ?_; clear K
    refine Y_o M ?_; intro a K
    refine wpList_nil (then_n (X_reg ?_))
    refine X_o K M ?_; clear K
    iterate 6 (refine Y_o M ?_)
    intro a K
    obtain ⟨_, h0, h⟩ := obind h
    have h0 := nn_spec h0
    refine X_r K (rd_shr rfl K rfl rfl h0) M ?_; clear K
    refine Y_o M ?_
    obtain ⟨b2, h_b2, h⟩ := obind h
    refine Y_r (fun _ K => rd_ixT rfl st9 K rfl rfl h_b2) M ?_
    obtain ⟨e2, h_e2, h⟩ := obind h
    refine Y_r (fun _ K => rd_ix rfl sl52 K rfl rfl (inR (C := (cI .u8)) 0 rfl rfl) h_e2) M ?_; intro a K
    obtain ⟨l5, h_l5, h⟩ := obind h
    refine X_b K (ac_rowset (el := (b2.toNat : Int)) rfl sz5 rfl rfl K rfl rfl rfl 0 M rfl h_l5) ?_
    have M0 := M; clear K M; rintro _ a w M K
    have hl := setL_len h_l5
    try rw [hl] at M
    try rw [hl] at K
    clear hl
    clear M0
    refine wpList_nil (inb_n (then_n (X_reg ?_)))
    refine X_o K M ?_; clear K
    refine Y_o M ?_; intro a K
    refine wpList_nil ?_
    exact then_n ⟨(l5, i, IntKind.i64.wrap (i2 + 1)), ⟨K.pick [0,1,5,10,11], M.pick [0] (by decide)⟩, h⟩
  have h := cfalse hb h
  refine wp_exit ?_
  refine then_e ?_
  exact then_e (hk1 (l3, i, i2) _ _ ⟨K.pick [0,1,5,10,11], M.pick [0] (by decide)⟩ h)
set_option maxRecDepth 100000 in
set_option maxHeartbeats 4000000 in
theorem W_bits_Number (N : Nat) (n : Int) (size : Int) (w0 : World)  (r : List UInt8 × Int) (h : D_bits_Number N n size = some r) :
    Calls Tryd.prog 41 #[I n, I size] w0 fun e w' => ∃ v, e = .returned v ∧ v = .tuple #[.string (bs r.1), I r.2] ∧ Mem w0.heap.size w0 w' [] := by
  refine X_enter Tryd.func41 rfl Tryd.ntmps41 rfl ?_
  intro a K
  have M := Mem.start w0
  have K : Kn a 25 [(0, I n), (1, I size)] := K
  unfold D_bits_Number at h
  refine wp_seq (X_reg ?_)
  refine X_o K M ?_; clear K
  refine Y_o M ?_; intro a K
  refine wpList_nil (then_n (wp_seq (wp_seq (X_reg ?_))))
  refine X_o K M ?_; clear K
  iterate 2 (refine Y_o M ?_)
  intro a K
  rcases Bool.eq_false_or_eq_true (decide (size < 0)) with hb | hb
  · have h := ctrue hb h
    have K := K.reb (s := 8) rfl hb
    refine X_o K M ?_; clear K
    iterate 12 (refine Y_o M ?_)
    intro a K
    refine wpList_nil (then_n ?_)
    refine X_condT K rfl ?_
    refine wp_seq (X_reg ?_)
    refine X_o K M ?_; clear K
    refine Y_o M ?_; intro a K
    refine wpList_nil (then_n (wp_ret (then_r ?_)))
    cases h
    exact ret2 K rfl (res_tmp K rfl) (res_tmp K rfl) ⟨_, rfl, rfl, ((M).pick [] (by decide))⟩
  have h := cfalse hb h
  have K := K.reb (s := 8) rfl hb
  refine X_o K M ?_; clear K
  iterate 3 (refine Y_o M ?_)
  intro a K
  rcases Bool.eq_false_or_eq_true (decide (16 < size)) with hb | hb
  · have h := ctrue hb h
    have K := K.reb (s := 12) rfl hb
    refine X_o K M ?_; clear K
    iterate 8 (refine Y_o M ?_)
    intro a K
    refine wpList_nil (then_n ?_)
    refine X_condT K rfl ?_
    refine wp_seq (X_reg ?_)
    refine X_o K M ?_; clear K
    refine Y_o M ?_; intro a K
    refine wpList_nil (then_n (wp_ret (then_r ?_)))
    cases h
    exact ret2 K rfl (res_tmp K rfl) (res_tmp K rfl) ⟨_, rfl, rfl, ((M).pick [] (by decide))⟩
  have h := cfalse hb h
  have K := K.reb (s := 12) rfl hb
  refine X_o K M ?_; clear K
  iterate 3 (refine Y_o M ?_)
  intro a K
  rcases Bool.eq_false_or_eq_true (decide (n < 0)) with hb | hb
  · have h := ctrue hb h
    have K := K.reb (s := 16) rfl hb
    refine X_o K M ?_; clear K
    iterate 4 (refine Y_o M ?_)
    intro a K
    refine wpList_nil (then_n ?_)
    refine X_condT K rfl ?_
    refine wp_seq (X_reg ?_)
    refine X_o K M ?_; clear K
    refine Y_o M ?_; intro a K
    refine wpList_nil (then_n (wp_ret (then_r ?_)))
    cases h
    exact ret2 K rfl (res_tmp K rfl) (res_tmp K rfl) ⟨_, rfl, rfl, ((M).pick [] (by decide))⟩
  have h := cfalse hb h
  have K := K.reb (s := 16) rfl hb
  refine X_o K M ?_; clear K
  refine Y_o M ?_; intro a K
  obtain ⟨_, h0, h⟩ := obind h
  have h0 := nn_spec h0
  refine X_r K (rd_shl rfl K rfl rfl h0) M ?_; clear K
  iterate 2 (refine Y_o M ?_)
  intro a K
  refine wpList_nil (then_n ?_)
  refine X_cond K rfl (fun hb => ?_) (fun hb => ?_)
  · have h := ctrue hb h
    refine wp_seq (X_reg ?_)
    refine X_o K M ?_; clear K
    refine Y_o M ?_; intro a K
    refine wpList_nil (then_n (wp_ret (then_r ?_)))
    cases h
    exact ret2 K rfl (res_tmp K rfl) (res_tmp K rfl) ⟨_, rfl, rfl, ((M).pick [] (by decide))⟩
  have h := cfalse hb h
  refine wp_skip (then_n (wp_seq (X_reg ?_)))
  refine X_o K M ?_; clear K
  refine Y_o M ?_; intro a K
  obtain ⟨r2, h_r2, h⟩ := obind h
  refine X_a K (ac_call (vs := [I n, I size]) (cap := []) rfl fok66 K rfl rfl (W_bits_digits N n size _  r2 h_r2)) ?_
  have M0 := M; clear K M; rintro _ a w ⟨rfl, M⟩ K
  replace M := M0.call M; clear M0
  refine X_o K M ?_; clear K
  refine Y_o M ?_; intro a K
  refine wpList_nil (then_n (wp_ret ?_))
  cases h
  exact ret2 K rfl (res_tmp K rfl) (res_tmp K rfl) ⟨_, rfl, rfl, ((M).pick [] (by decide))⟩
set_option maxRecDepth 100000 in
set_option maxHeartbeats 4000000 in
theorem W_bits_all (N : Nat) (b : List UInt8) (w0 : World)  (r : Bool) (h : D_bits_all N b = some r) :
    Calls Tryd.prog 62 #[.string (bs b)] w0 fun e w' => ∃ v, e = .returned v ∧ v = .bool r ∧ Mem w0.heap.size w0 w' [] := by
  refine X_enter Tryd.func62 rfl Tryd.ntmps62 rfl ?_
  intro a K
  have M := Mem.start w0
  have K : Kn a 16 [(0, .string (bs b))] := K
  unfold D_bits_all at h
  refine wp_seq (X_reg ?_)
  refine X_o K M ?_; clear K; intro a K
  refine wpList_nil (then_n (wp_seq (X_reg ?_)))
  refine X_o K M ?_; clear K; intro a K
  obtain ⟨r2, h_r2, h⟩ := obind h
  refine X_a K (ac_call (vs := [.string (bs b), .string (bs ([48, 49] : List UInt8))]) (cap := []) rfl fok72 K rfl rfl (W_strings_Trim N b ([48, 49] : List UInt8) _  r2 h_r2)) ?_
  have M0 := M; clear K M; rintro _ a w ⟨rfl, M⟩ K
  replace M := M0.call M; clear M0
  refine X_r K (rd_eqlS rfl K rfl rfl) M ?_; clear K
  refine Y_o M ?_; intro a K
  rcases Bool.eq_false_or_eq_true (decide (r2 = ([] : List UInt8))) with hb | hb
  · have h := ctrue hb h
    have K := K.reb (s := 6) rfl hb
    refine X_o K M ?_; clear K; intro a K
    obtain ⟨r3, h_r3, h⟩ := obind h
    refine X_a K (ac_call (vs := [.string (bs b), .string (bs ([48] : List UInt8))]) (cap := []) rfl fok73 K rfl rfl (W_strings_Count N b ([48] : List UInt8) _  r3 h_r3)) ?_
    have M0 := M; clear K M; rintro _ a w ⟨rfl, M⟩ K
    replace M := M0.call M; clear M0
    refine X_o K M ?_; clear K; intro a K
    obtain ⟨r4, h_r4, h⟩ := obind h
    refine X_a K (ac_call (vs := [.string (bs b), .string (bs ([49] : List UInt8))]) (cap := []) rfl fok73 K rfl rfl (W_strings_Count N b ([49] : List UInt8) _  r4 h_r4)) ?_
    have M0 := M; clear K M; rintro _ a w ⟨rfl, M⟩ K
    replace M := M0.call M; clear M0
    refine X_o K M ?_; clear K
    refine Y_o M ?_
    refine Y_r (fun _ K => rd_lenT rfl st9 K rfl) M ?_
    iterate 3 (refine Y_o M ?_)
    intro a K
    refine wpList_nil (then_n (wp_ret ?_))
    cases h
    exact ret1 K rfl (res_tmp K rfl) ⟨_, rfl, rfl, ((M).pick [] (by decide))⟩
  have h := cfalse hb h
  have K := K.reb (s := 6) rfl hb
  refine X_o K M ?_; clear K
  iterate 9 (refine Y_o M ?_)
  intro a K
  refine wpList_nil (then_n (wp_ret ?_))
  cases h
  exact ret1 K rfl (res_tmp K rfl) ⟨_, rfl, rfl, ((M).pick [] (by decide))⟩
set_option maxRecDepth 100000 in
set_option maxHeartbeats 4000000 in
theorem W_bits_Bytes (N : Nat) (b : List UInt8) (w0 : World)  (r : List UInt8 × Int) (h : D_bits_Bytes N b = some r) :
    Calls Tryd.prog 32 #[.string (bs b)] w0 fun e w' => ∃ v, e = .returned v ∧ v = .tuple #[.string (bs r.1), I r.2] ∧ Mem w0.heap.size w0 w' [] := by
  refine X_enter Tryd.func32 rfl Tryd.ntmps32 rfl ?_
  intro a K
  have M := Mem.start w0
  have K : Kn a 37 [(0, .string (bs b))] := K
  unfold D_bits_Bytes at h
  refine wp_seq (X_reg ?_)
  refine X_o K M ?_; clear K
  refine Y_o M ?_; intro a K
  refine wpList_nil (then_n (wp_seq (wp_seq (X_reg ?_))))
  refine X_o K M ?_; clear K; intro a K
  obtain ⟨r2, h_r2, h⟩ := obind h
  refine X_a K (ac_call (vs := [.string (bs b)]) (cap := []) rfl fok62 K rfl rfl (W_bits_all N b _  r2 h_r2)) ?_
  have M0 := M; clear K M; rintro _ a w ⟨rfl, M⟩ K
  replace M := M0.call M; clear M0
  refine X_o K M ?_; clear K; intro a K
  refine wpList_nil (then_n ?_)
  refine X_cond K rfl (fun hb => ?_) (fun hb => ?_)
  · have h := ctrue hb h
    refine wp_seq (X_reg ?_)
    refine X_o K M ?_; clear K
    refine Y_o M ?_; intro a K
    refine wpList_nil (then_n (wp_ret (then_r ?_)))
    cases h
    exact ret2 K rfl (res_tmp K rfl) (res_tmp K rfl) ⟨_, rfl, rfl, ((M).pick [] (by decide))⟩
  have h := cfalse hb h
  refine wp_skip (then_n (wp_seq (X_reg ?_)))
  refine X_o K M ?_; clear K
  refine Y_r (fun _ K => rd_lenT rfl st9 K rfl) M ?_
  refine Y_o M ?_
  obtain ⟨x2, hx, h⟩ := olet h
  refine Y_r (fun _ K => rdi hx (rd_quo rfl K rfl rfl (by decide))) M ?_; intro a K
  obtain ⟨l2, h_l2, h⟩ := obind h
  refine X_a K (ac_make (C := (cI .u8)) (z := 0) rfl sl52 rfl z5 rfl K rfl rfl M h_l2) ?_
  clear K M; rintro _ a w ⟨A, c, rfl, M⟩ K
  refine X_o K M ?_; clear K; intro a K
  refine wpList_nil (then_n (wp_seq (wp_seq (X_reg ?_))))
  refine X_o K M ?_; clear K
  refine Y_r (fun _ K => rd_lenT rfl st9 K rfl) M ?_
  refine Y_o M ?_; intro a K
  refine wpList_nil (then_n (wp_block ?_))
  refine X_lp (id := 0) (Rel := fun (⟨l3, i⟩ : List Int × Int) a w => Kn a 37 [(0, .string (bs b)), (4, .slice A l3.length c), (15, I (b.length : Int)), (16, I i)] ∧ Mem w0.heap.size w0 w [.row 5 1 A l3.length c ((cI .u8).all l3)]) h (fun _ _ => rfl) ⟨K.pick [0,4,15,16], M.pick [0] (by decide)⟩ ?_ ?_
  · clear K M h
    rintro ⟨l6, i2⟩ a w ⟨K, M⟩ h
    try dsimp only at h
    refine inb_e ?_
    refine then_n (wp_seq (X_reg ?_))
    refine X_o K M ?_; clear K
    refine Y_r (fun _ K => rd_convBS rfl sl52 ik5 st9 K rfl (inR (C := (cI .u8)) 0 rfl rfl)) M ?_
    iterate 2 (refine Y_o M ?_)
    intro a K
    refine wpList_nil (then_n (wp_ret ?_))
    cases h
    exact ret2 K rfl (res_tmp K rfl) (res_tmp K rfl) ⟨_, rfl, rfl, ((M).pick [] (by decide))⟩
  clear K M h
  rintro kk fuel ⟨l3, i⟩ a w hk1 ⟨K, M⟩ h
  unfold D_bits_Bytes_l1 at h
  refine wp_seq (X_reg ?_)
  refine X_o K M ?_; clear K; intro a K
  refine wpList_nil (then_n (wp_seq ?_))
  refine X_cond K rfl (fun hb => ?_) (fun hb => ?_)
  · have h := ctrue hb h
    refine wp_skip (then_n (wp_seq (wp_block (wp_seq (X_reg ?_)))))
    refine X_o K M ?_; clear K
    refine Y_o M ?_; intro a K
    refine wpList_nil (then_n ?_)
    refine wp_region_tl (fun w => Mem _ _ w _) [0,0,0,0,0,0,0,0,0,0,0,0,0,0,0,2] (by kernel_rfl) (by kernel_rfl) M.drew ?_
    replace M := M.drew
    refine T_o K ?_; clear K
    refine U_o ?_
    obtain ⟨x4, hx, h⟩ := olet h
    refine U_r (fun _ K => rdi hx (rd_quo rfl K rfl rfl (by decide))) ?_
    obtain ⟨e3, h_e3, h⟩ := obind h
    refine U_r (fun _ K => rd_ixP rfl sl52 K rfl rfl ((inR (C := (cI .u8)) 0 rfl rfl) _ M) h_e3) ?_
    refine U_r (fun _ K => rd_elC rfl sc5 K rfl rfl (inR (C := (cI .u8)) 0 rfl rfl) h_e3 rfl) ?_
    iterate 2 (refine U_o ?_)
    obtain ⟨b3, h_b3, h⟩ := obind h
    refine U_r (fun _ K => rd_ixT rfl st9 K rfl rfl h_b3) ?_
    iterate 2 (refine U_o ?_)
    refine U_r (fun _ K => rd_rem rfl K rfl rfl (by decide)) ?_
    refine U_o ?_; intro a K
    obtain ⟨_, h0, h⟩ := obind h
    have h0 := nn_spec h0
    refine T_r K (rd_shl rfl K rfl rfl h0) ?_; clear K
    refine U_r (fun _ K => rd_or rfl K rfl rfl) ?_
    obtain ⟨e4, h_e4, h⟩ := obind h
    refine U_r (fun _ K => rd_ixP rfl sl52 K rfl rfl ((inR (C := (cI .u8)) 0 rfl rfl) _ M) h_e4) ?_; intro a K
    obtain ⟨l5, h_l5, h⟩ := obind h
    refine T_b K (ac_rowset (el := orI .u8 e3 (shlI .u8 (IntKind.u8.wrap ((b3.toNat : Int) - 48)) (IntKind.i64.wrap (7 - (Int.tmod i 8))))) rfl sz5 rfl rfl K rfl rfl rfl 0 M rfl h_l5) ?_
    have M0 := M; clear K M; rintro _ a w M K
    have hl := setL_len h_l5
    try rw [hl] at M
    try rw [hl] at K
    clear hl
    clear M0
    refine T_end ?_
    refine inb_n (then_n (X_reg ?_))
    refine X_o K M ?_; clear K
    refine Y_o M ?_; intro a K
    refine wpList_nil ?_
    exact then_n ⟨(l5, IntKind.i64.wrap (i + 1)), ⟨K.pick [0,4,15,16], M.pick [0] (by decide)⟩, h⟩
  have h := cfalse hb h
  refine wp_exit ?_
  refine then_e ?_
  exact then_e (hk1 (l3, i) _ _ ⟨K.pick [0,4,15,16], M.pick [0] (by decide)⟩ h)
end Go.Proofs.YtpmnfhifmmfglacDoor

namespace Go.Proofs.YtpmnfhifmmfglacDoor
open Go.RowKit
set_option maxRecDepth 100000 in
set_option maxHeartbeats 4000000 in
theorem W_cmp_isNaN_int (N : Nat) (x2 : Int) (w0 : World)  (r : Bool) (h : D_cmp_isNaN_int N x2 = some r) :
    Calls Tryd.prog 65 #[I x2] w0 fun e w' => ∃ v, e = .returned v ∧ v = .bool r ∧ Mem w0.heap.size w0 w' [] := by
  refine X_enter Tryd.func65 rfl Tryd.ntmps65 rfl ?_
  intro a K
  have M := Mem.start w0
  have K : Kn a 6 [(0, I x2)] := K
  unfold D_cmp_isNaN_int at h
  refine wp_seq (X_reg ?_)
  refine X_o K M ?_; clear K; intro a K
  refine wpList_nil (then_n (wp_seq (X_reg ?_)))
  refine X_o K M ?_; clear K
  iterate 3 (refine Y_o M ?_)
  intro a K
  refine wpList_nil (then_n (wp_ret ?_))
  cases h
  exact ret1 K rfl (res_tmp K rfl) ⟨_, rfl, rfl, ((M).pick [] (by decide))⟩
set_option maxRecDepth 100000 in
set_option maxHeartbeats 4000000 in
theorem W_cmp_Compare_int (N : Nat) (x2 : Int) (y : Int) (w0 : World)  (r : Int) (h : D_cmp_Compare_int N x2 y = some r) :
    Calls Tryd.prog 40 #[I x2, I y] w0 fun e w' => ∃ v, e = .returned v ∧ v = I r ∧ Mem w0.heap.size w0 w' [] := by
  refine X_enter Tryd.func40 rfl Tryd.ntmps40 rfl ?_
  intro a K
  have M := Mem.start w0
  have K : Kn a 20 [(0, I x2), (1, I y)] := K
  unfold D_cmp_Compare_int at h
  refine wp_seq (X_reg ?_)
  refine X_o K M ?_; clear K; intro a K
  refine wpList_nil (then_n (wp_seq (X_reg ?_)))
  refine X_o K M ?_; clear K; intro a K
  obtain ⟨r2, h_r2, h⟩ := obind h
  refine X_a K (ac_call (vs := [I x2]) (cap := []) rfl fok65 K rfl rfl (W_cmp_isNaN_int N x2 _  r2 h_r2)) ?_
  have M0 := M; clear K M; rintro _ a w ⟨rfl, M⟩ K
  replace M := M0.call M; clear M0
  refine X_o K M ?_; clear K; intro a K
  refine wpList_nil (then_n (wp_seq (X_reg ?_)))
  refine X_o K M ?_; clear K; intro a K
  obtain ⟨r3, h_r3, h⟩ := obind h
  refine X_a K (ac_call (vs := [I y]) (cap := []) rfl fok65 K rfl rfl (W_cmp_isNaN_int N y _  r3 h_r3)) ?_
  have M0 := M; clear K M; rintro _ a w ⟨rfl, M⟩ K
  replace M := M0.call M; clear M0
  refine X_o K M ?_; clear K; intro a K
  refine wpList_nil (then_n (wp_seq (wp_seq (X_reg ?_))))
  refine X_o K M ?_; clear K; intro a K
  refine wpList_nil (then_n ?_)
  refine X_cond K rfl (fun hb => ?_) (fun hb => ?_)
  · have h := ctrue hb h
    refine wp_seq (wp_seq (X_reg ?_))
    refine X_o K M ?_; clear K; intro a K
    refine wpList_nil (then_n ?_)
    refine X_cond K rfl (fun hb => ?_) (fun hb => ?_)
    · have h := ctrue hb h
      refine wp_seq (X_reg ?_)
      refine X_o K M ?_; clear K; intro a K
      refine wpList_nil (then_n (wp_ret (then_r (then_r ?_))))
      cases h
      exact ret1 K rfl (res_tmp K rfl) ⟨_, rfl, rfl, ((M).pick [] (by decide))⟩
    have h := cfalse hb h
    refine wp_skip (then_n (wp_seq (X_reg ?_)))
    refine X_o K M ?_; clear K; intro a K
    refine wpList_nil (then_n (wp_ret (then_r ?_)))
    cases h
    exact ret1 K rfl (res_tmp K rfl) ⟨_, rfl, rfl, ((M).pick [] (by decide))⟩
  have h := cfalse hb h
  refine wp_skip (then_n (wp_seq (wp_seq (X_reg ?_))))
  refine X_o K M ?_; clear K; intro a K
  refine wpList_nil (then_n ?_)
  refine X_cond K rfl (fun hb => ?_) (fun hb => ?_)
  · have h := ctrue hb h
    refine wp_seq (X_reg ?_)
    refine X_o K M ?_; clear K; intro a K
    refine wpList_nil (then_n (wp_ret (then_r ?_)))
    cases h
    exact ret1 K rfl (res_tmp K rfl) ⟨_, rfl, rfl, ((M).pick [] (by decide))⟩
  have h := cfalse hb h
  refine wp_skip (then_n (wp_seq (wp_seq (X_reg ?_))))
  refine X_o K M ?_; clear K
  iterate 2 (refine Y_o M ?_)
  intro a K
  refine wpList_nil (then_n ?_)
  refine X_cond K rfl (fun hb => ?_) (fun hb => ?_)
  · have h := ctrue hb h
    refine wp_seq (X_reg ?_)
    refine X_o K M ?_; clear K; intro a K
    refine wpList_nil (then_n (wp_ret (then_r ?_)))
    cases h
    exact ret1 K rfl (res_tmp K rfl) ⟨_, rfl, rfl, ((M).pick [] (by decide))⟩
  have h := cfalse hb h
  refine wp_skip (then_n (wp_seq (wp_seq (X_reg ?_))))
  refine X_o K M ?_; clear K
  iterate 2 (refine Y_o M ?_)
  intro a K
  refine wpList_nil (then_n ?_)
  refine X_cond K rfl (fun hb => ?_) (fun hb => ?_)
  · have h := ctrue hb h
    refine wp_seq (X_reg ?_)
    refine X_o K M ?_; clear K; intro a K
    refine wpList_nil (then_n (wp_ret (then_r ?_)))
    cases h
    exact ret1 K rfl (res_tmp K rfl) ⟨_, rfl, rfl, ((M).pick [] (by decide))⟩
  have h := cfalse hb h
  refine wp_skip (then_n (wp_seq (X_reg ?_)))
  refine X_o K M ?_; clear K; intro a K
  refine wpList_nil (then_n (wp_ret ?_))
  cases h
  exact ret1 K rfl (res_tmp K rfl) ⟨_, rfl, rfl, ((M).pick [] (by decide))⟩
end Go.Proofs.YtpmnfhifmmfglacDoor

namespace Go.Proofs.YtpmnfhifmmfglacDoor
open Go.RowKit
set_option maxRecDepth 100000 in
set_option maxHeartbeats 4000000 in
theorem W_code_Check (N : Nat) (lens : List Int) (A_lens : Option Addr) (c_lens : Nat) (w0 : World) (R_lens : SL w0 (cI .i64) A_lens lens) (C_lens : lens.length ≤ c_lens) (r : Int) (h : D_code_Check N lens = some r) :
    Calls Tryd.prog 37 #[.slice A_lens lens.length c_lens] w0 fun e w' => ∃ v, e = .returned v ∧ v = I r ∧ Mem w0.heap.size w0 w' [] := by
  refine X_enter Tryd.func37 rfl Tryd.ntmps37 rfl ?_
  intro a K
  have M := Mem.start w0
  have K : Kn a 40 [(0, .slice A_lens lens.length c_lens)] := K
  unfold D_code_Check at h
  refine wp_seq (X_reg ?_)
  refine X_o K M ?_; clear K; intro a K
  refine wpList_nil (then_n (wp_seq (wp_seq (X_reg ?_))))
  refine X_o K M ?_; clear K
  refine Y_r (fun _ K => rd_len rfl un22 K rfl) M ?_
  iterate 2 (refine Y_o M ?_)
  intro a K
  rcases Bool.eq_false_or_eq_true (decide ((lens.length : Int) < 1)) with hb | hb
  · have h := ctrue hb h
    have K := K.reb (s := 9) rfl hb
    refine X_o K M ?_; clear K
    iterate 3 (refine Y_o M ?_)
    intro a K
    refine wpList_nil (then_n ?_)
    refine X_condT K rfl ?_
    refine wp_seq (X_reg ?_)
    refine X_o K M ?_; clear K; intro a K
    refine wpList_nil (then_n (wp_ret (then_r ?_)))
    cases h
    exact ret1 K rfl (res_tmp K rfl) ⟨_, rfl, rfl, ((M).pick [] (by decide))⟩
  have h := cfalse hb h
  have K := K.reb (s := 9) rfl hb
  refine X_o K M ?_; clear K
  refine Y_r (fun _ K => rd_len rfl un22 K rfl) M ?_
  iterate 2 (refine Y_o M ?_)
  intro a K
  refine wpList_nil (then_n ?_)
  refine X_cond K rfl (fun hb => ?_) (fun hb => ?_)
  · have h := ctrue hb h
    refine wp_seq (X_reg ?_)
    refine X_o K M ?_; clear K; intro a K
    refine wpList_nil (then_n (wp_ret (then_r ?_)))
    cases h
    exact ret1 K rfl (res_tmp K rfl) ⟨_, rfl, rfl, ((M).pick [] (by decide))⟩
  have h := cfalse hb h
  refine wp_skip (then_n (wp_seq (X_reg ?_)))
  refine X_o K M ?_; clear K; intro a K
  refine wpList_nil (then_n (wp_seq (wp_seq (X_reg ?_))))
  refine X_o K M ?_; clear K
  refine Y_r (fun _ K => rd_len rfl un22 K rfl) M ?_
  refine Y_o M ?_; intro a K
  refine wpList_nil (then_n (wp_block ?_))
  refine X_lp (id := 0) (Rel := fun (⟨room, i⟩ : Int × Int) a w => Kn a 40 [(3, I room), (14, .slice A_lens lens.length c_lens), (15, I (lens.length : Int)), (16, I i)] ∧ Mem w0.heap.size w0 w []) h (fun _ _ => rfl) ⟨K.pick [3,14,15,16], M.pick [] (by decide)⟩ ?_ ?_
  · clear K M h
    rintro ⟨room4, i2⟩ a w ⟨K, M⟩ h
    try dsimp only at h
    refine inb_e ?_
    refine then_n (wp_seq (wp_seq (X_reg ?_)))
    refine X_o K M ?_; clear K
    iterate 2 (refine Y_o M ?_)
    intro a K
    rcases Bool.eq_false_or_eq_true (decide (room4 < 0)) with hb | hb
    · have h := ctrue hb h
      have K := K.reb (s := 36) rfl hb
      refine X_o K M ?_; clear K
      iterate 2 (refine Y_o M ?_)
      intro a K
      refine wpList_nil (then_n ?_)
      refine X_condT K rfl ?_
      refine wp_seq (X_reg ?_)
      refine X_o K M ?_; clear K; intro a K
      refine wpList_nil (then_n (wp_ret (then_r ?_)))
      cases h
      exact ret1 K rfl (res_tmp K rfl) ⟨_, rfl, rfl, ((M).pick [] (by decide))⟩
    have h := cfalse hb h
    have K := K.reb (s := 36) rfl hb
    refine X_o K M ?_; clear K
    iterate 2 (refine Y_o M ?_)
    intro a K
    refine wpList_nil (then_n ?_)
    refine X_cond K rfl (fun hb => ?_) (fun hb => ?_)
    · have h := ctrue hb h
      refine wp_seq (X_reg ?_)
      refine X_o K M ?_; clear K; intro a K
      refine wpList_nil (then_n (wp_ret (then_r ?_)))
      cases h
      exact ret1 K rfl (res_tmp K rfl) ⟨_, rfl, rfl, ((M).pick [] (by decide))⟩
    have h := cfalse hb h
    refine wp_skip (then_n (wp_seq (X_reg ?_)))
    refine X_o K M ?_; clear K; intro a K
    refine wpList_nil (then_n (wp_ret ?_))
    cases h
    exact ret1 K rfl (res_tmp K rfl) ⟨_, rfl, rfl, ((M).pick [] (by decide))⟩
  clear K M h
  rintro kk fuel ⟨room, i⟩ a w hk1 ⟨K, M⟩ h
  unfold D_code_Check_l1 at h
  refine wp_seq (X_reg ?_)
  refine X_o K M ?_; clear K; intro a K
  refine wpList_nil (then_n (wp_seq ?_))
  refine X_cond K rfl (fun hb => ?_) (fun hb => ?_)
  · have h := ctrue hb h
    refine wp_skip (then_n (wp_seq (wp_block (wp_seq (X_reg ?_)))))
    obtain ⟨e2, h_e2, h⟩ := obind h
    refine X_r K (rd_ix rfl sl22 K rfl rfl (inA R_lens) h_e2) M ?_; clear K
    refine Y_r (fun _ K => rd_elC rfl sc3 K rfl rfl (inA R_lens) h_e2 rfl) M ?_
    refine Y_o M ?_; intro a K
    refine wpList_nil (then_n (wp_seq (wp_seq (X_reg ?_))))
    refine X_o K M ?_; clear K
    iterate 2 (refine Y_o M ?_)
    intro a K
    rcases Bool.eq_false_or_eq_true (decide (e2 < 0)) with hb | hb
    · have h := ctrue hb h
      have K := K.reb (s := 22) rfl hb
      refine X_o K M ?_; clear K
      iterate 2 (refine Y_o M ?_)
      intro a K
      refine wpList_nil (then_n ?_)
      refine X_condT K rfl ?_
      refine wp_seq (X_reg ?_)
      refine X_o K M ?_; clear K; intro a K
      refine wpList_nil (then_n (wp_ret (then_r (inb_r (then_r (then_r (inb_r (then_r ?_))))))))
      cases h
      exact ret1 K rfl (res_tmp K rfl) ⟨_, rfl, rfl, ((M).pick [] (by decide))⟩
    have h := cfalse hb h
    have K := K.reb (s := 22) rfl hb
    refine X_o K M ?_; clear K
    iterate 2 (refine Y_o M ?_)
    intro a K
    refine wpList_nil (then_n ?_)
    refine X_cond K rfl (fun hb => ?_) (fun hb => ?_)
    · have h := ctrue hb h
      refine wp_seq (X_reg ?_)
      refine X_o K M ?_; clear K; intro a K
      refine wpList_nil (then_n (wp_ret (then_r (inb_r (then_r (then_r (inb_r (then_r ?_))))))))
      cases h
      exact ret1 K rfl (res_tmp K rfl) ⟨_, rfl, rfl, ((M).pick [] (by decide))⟩
    have h := cfalse hb h
    refine wp_skip (then_n (wp_seq (X_reg ?_)))
    refine X_o K M ?_; clear K
    refine Y_o M ?_; intro a K
    refine wpList_nil (then_n ?_)
    refine X_cond K rfl (fun hb => ?_) (fun hb => ?_)
    · have h := ctrue hb h
      refine X_reg ?_
      refine X_o K M ?_; clear K
      iterate 2 (refine Y_o M ?_)
      intro a K
      obtain ⟨_, h0, h⟩ := obind h
      have h0 := nn_spec h0
      refine X_r K (rd_shl rfl K rfl rfl h0) M ?_; clear K
      refine Y_o M ?_
      obtain ⟨room3, hx, h⟩ := olet h
      refine Y_r (fun _ K => rdi hx (rd_assign rfl K rfl)) M ?_; intro a K
      refine wpList_nil (inb_n (then_n (X_reg ?_)))
      refine X_o K M ?_; clear K
      refine Y_o M ?_; intro a K
      refine wpList_nil ?_
      exact then_n ⟨(room3, IntKind.i64.wrap (i + 1)), ⟨K.pick [3,14,15,16], M.pick [] (by decide)⟩, h⟩
    have h := cfalse hb h
    refine wp_skip (inb_n (then_n (X_reg ?_)))
    refine X_o K M ?_; clear K
    refine Y_o M ?_; intro a K
    refine wpList_nil ?_
    exact then_n ⟨(room, IntKind.i64.wrap (i + 1)), ⟨K.pick [3,14,15,16], M.pick [] (by decide)⟩, h⟩
  have h := cfalse hb h
  refine wp_exit ?_
  refine then_e ?_
  exact then_e (hk1 (room, i) _ _ ⟨K.pick [3,14,15,16], M.pick [] (by decide)⟩ h)
set_option maxRecDepth 100000 in
set_option maxHeartbeats 4000000 in
theorem W_code_Words_1 (N : Nat) (a2 : Int) (b : Int) (v0 : List Int) (A_v0 : Option Addr) (c_v0 : Nat) (g_v0 : Nat) (w0 : World) (R_v0 : SL w0 (cI .i64) A_v0 v0) (C_v0 : v0.length ≤ c_v0) (B_g_v0 : Blk w0 g_v0 22 #[.slice A_v0 v0.length c_v0]) (r : Int) (h : D_code_Words_1 N a2 b v0 = some r) :
    Calls Tryd.prog 39 #[I a2, I b, .pointer (some ⟨g_v0, 0, none⟩)] w0 fun e w' => ∃ v, e = .returned v ∧ v = I r ∧ Mem w0.heap.size w0 w' [] := by
  refine X_enter Tryd.func39 rfl Tryd.ntmps39 rfl ?_
  intro a K
  have M := Mem.start w0
  have K : Kn a 15 [(0, I a2), (1, I b), (2, .pointer (some ⟨g_v0, 0, none⟩))] := K
  unfold D_code_Words_1 at h
  refine wp_seq (X_reg ?_)
  refine X_o K M ?_; clear K; intro a K
  refine wpList_nil (then_n (wp_seq ?_))
  refine wp_region_tl (fun w => Mem _ _ w _) [0,0,0,0,0,0,0,0,1,0] (by kernel_rfl) (by kernel_rfl) M.drew ?_
  replace M := M.drew
  refine T_r K (rd_ldC rfl sc22 K rfl (inO B_g_v0) rfl) ?_; clear K
  refine U_o ?_
  obtain ⟨e, h_e, h⟩ := obind h
  refine U_r (fun _ K => rd_ixP rfl sl22 K rfl rfl ((inA R_v0) _ M) h_e) ?_
  refine U_r (fun _ K => rd_elC rfl sc3 K rfl rfl (inA R_v0) h_e rfl) ?_
  refine U_r (fun _ K => rd_ldC rfl sc22 K rfl (inO B_g_v0) rfl) ?_
  refine U_o ?_
  obtain ⟨e2, h_e2, h⟩ := obind h
  refine U_r (fun _ K => rd_ixP rfl sl22 K rfl rfl ((inA R_v0) _ M) h_e2) ?_
  refine U_r (fun _ K => rd_elC rfl sc3 K rfl rfl (inA R_v0) h_e2 rfl) ?_; intro a K
  obtain ⟨r2, h_r2, h⟩ := obind h
  refine T_a K (ac_call (vs := [I e, I e2]) (cap := []) rfl fok40 K rfl rfl (W_cmp_Compare_int N e e2 _  r2 h_r2)) ?_
  have M0 := M; clear K M; rintro _ a w ⟨rfl, M⟩ K
  replace M := M0.call M; clear M0
  refine ⟨M.pick [] (by decide), ?_⟩
  refine T_o K ?_; clear K; intro a K
  refine T_end ?_
  refine then_n (wp_ret ?_)
  cases h
  exact ret1 K rfl (res_tmp K rfl) ⟨_, rfl, rfl, ((M).pick [] (by decide))⟩
set_option maxRecDepth 100000 in
set_option maxHeartbeats 4000000 in
theorem W_code_Words (N : Nat) (d : List Int) (A_d : Option Addr) (c_d : Nat) (w0 : World) (R_d : SL w0 (cI .i64) A_d d) (C_d : d.length ≤ c_d) (r : List (List UInt8) × Int) (h : D_code_Words N d = some r) :
    Calls Tryd.prog 15 #[.slice A_d d.length c_d] w0 fun e w' => ∃ v, e = .returned v ∧ ∃ A0 c0, v = .tuple #[.slice A0 r.1.length c0, I r.2] ∧ Mem w0.heap.size w0 w' [.row 9 1 A0 r.1.length c0 (cS.all r.1)] := by
  refine X_enter Tryd.func15 rfl Tryd.ntmps15 rfl ?_
  intro a K
  have M := Mem.start w0
  have K : Kn a 74 [(0, .slice A_d d.length c_d)] := K
  unfold D_code_Words at h
  refine wp_seq (X_reg ?_)
  refine X_a K (ac_box rfl K rfl (cs := [.slice A_d d.length c_d]) rfl M) ?_
  clear K M; rintro _ a w ⟨g_o, rfl, M⟩ K
  refine X_o K M ?_; clear K
  refine Y_o M ?_; intro a K
  refine wpList_nil (then_n (wp_seq (wp_seq (X_reg ?_))))
  refine X_r K (rd_ldC rfl sc22 K rfl (inM 0 rfl) rfl) M ?_; clear K; intro a K
  obtain ⟨r2, h_r2, h⟩ := obind h
  refine X_a K (ac_call (vs := [.slice A_d d.length c_d]) (cap := []) rfl fok37 K rfl rfl (W_code_Check N d A_d c_d _ ((inA R_d) _ M) C_d r2 h_r2)) ?_
  have M0 := M; clear K M; rintro _ a w ⟨rfl, M⟩ K
  replace M := M0.call M; clear M0
  refine X_o K M ?_; clear K; intro a K
  refine wpList_nil (then_n (wp_seq (X_reg ?_)))
  refine X_o K M ?_; clear K
  refine Y_o M ?_; intro a K
  refine wpList_nil (then_n ?_)
  refine X_cond K rfl (fun hb => ?_) (fun hb => ?_)
  · have h := ctrue hb h
    refine wp_seq (X_reg ?_)
    refine X_o K M ?_; clear K
    iterate 2 (refine Y_o M ?_)
    intro a K
    refine wpList_nil (then_n (wp_ret (then_r ?_)))
    cases h
    exact ret2 K rfl (res_tmp K rfl) (res_tmp K rfl) ⟨_, rfl, _, _, rfl, (((Mem.nilrow 9 1 cS M)).pick [0] (by decide))⟩
  have h := cfalse hb h
  refine wp_skip (then_n (wp_seq (X_reg ?_)))
  refine X_o K M ?_; clear K; intro a K
  refine wpList_nil (then_n (wp_seq (wp_seq (X_reg ?_))))
  refine X_r K (rd_ldC rfl sc22 K rfl (inM 0 rfl) rfl) M ?_; clear K
  refine Y_r (fun _ K => rd_len rfl un22 K rfl) M ?_
  refine Y_o M ?_; intro a K
  refine wpList_nil (then_n (wp_block ?_))
  replace M := Mem.nilrow 3 1 (cI .i64) M
  refine X_lp (id := 0) (Rel := fun (⟨l3, i⟩ : List Int × Int) a w => ∃ (A2 : Option Addr) (c2 : Nat), Kn a 74 [(1, .pointer (some ⟨g_o, 0, none⟩)), (5, .slice A2 l3.length c2), (19, .slice A_d d.length c_d), (20, I (d.length : Int)), (21, I i)] ∧ Mem w0.heap.size w0 w [.row 3 1 A2 l3.length c2 ((cI .i64).all l3), .blk g_o 22 [.slice A_d d.length c_d]]) h (fun _ _ => rfl) ⟨none, 0, K.pick [1,5,19,20,21], M.pick [0,1] (by decide)⟩ ?_ ?_
  · clear K M h
    rintro ⟨l6, i2⟩ a w ⟨A5, c5, K, M⟩ h
    try dsimp only at h
    refine inb_e ?_
    refine then_n (wp_seq (X_reg ?_))
    refine X_o K M ?_; clear K
    refine Y_r (fun _ K => rd_func rfl K (vs := [.pointer (some ⟨g_o, 0, none⟩)]) rfl) M ?_; intro a K
    refine X_inl (vs := [.slice A5 l6.length c5, .func (.func 39) #[] #[.pointer (some ⟨g_o, 0, none⟩)]]) (cap := []) K (want_no rfl) rfl rfl rfl fok38 rfl rfl ?_; clear K
    refine X_enter Tryd.func38 rfl Tryd.ntmps38 rfl ?_
    intro a K
    have K : Kn a 9 [(0, .slice A5 l6.length c5), (1, .func (.func 39) #[] #[.pointer (some ⟨g_o, 0, none⟩)])] := K
    refine X_reg ?_
    refine X_o K M ?_; clear K
    refine Y_o M ?_
    refine Y_r (fun _ K => rd_len rfl un22 K rfl) M ?_
    refine Y_o M ?_; intro a K
    refine X_inl (vs := [.slice A5 l6.length c5, I (l6.length : Int), .func (.func 39) #[] #[.pointer (some ⟨g_o, 0, none⟩)]]) (cap := []) K (want_no rfl) rfl rfl rfl fok64 rfl rfl ?_; clear K
    refine X_enter Tryd.func64 rfl Tryd.ntmps64 rfl ?_
    intro a K
    have K : Kn a 63 [(0, .slice A5 l6.length c5), (1, I (l6.length : Int)), (2, .func (.func 39) #[] #[.pointer (some ⟨g_o, 0, none⟩)])] := K
    refine wp_seq (X_reg ?_)
    refine X_o K M ?_; clear K; intro a K
    refine wpList_nil (then_n (wp_seq (X_reg ?_)))
    refine X_o K M ?_; clear K
    iterate 2 (refine Y_o M ?_)
    intro a K
    refine wpList_nil (then_n (wp_seq (wp_block ?_)))
    refine X_rounds 1 ?_
    refine X_round ?_
    refine wp_seq (wp_seq (X_reg ?_))
    refine X_o K M ?_; clear K
    iterate 2 (refine Y_o M ?_)
    intro a K
    refine wpList_nil (then_n ?_)
    refine X_cond K rfl (fun hb => ?_) (fun hb => ?_)
    · have h := ctrue hb h
      cases h
    have h := cfalse hb h
    refine wp_exit ?_
    refine then_e (then_e ?_)
    refine inb_e ?_
    refine then_n (wp_seq (X_reg ?_))
    refine X_o K M ?_; clear K
    iterate 3 (refine Y_o M ?_)
    intro a K
    refine X_inl (vs := [.slice A5 l6.length c5, I 0, I (l6.length : Int), .func (.func 39) #[] #[.pointer (some ⟨g_o, 0, none⟩)]]) (cap := []) K (want_no rfl) rfl rfl rfl fok74 rfl rfl ?_; clear K
    refine X_enter Tryd.func74 rfl Tryd.ntmps74 rfl ?_
    intro a K
    have K : Kn a 53 [(0, .slice A5 l6.length c5), (1, I 0), (2, I (l6.length : Int)), (3, .func (.func 39) #[] #[.pointer (some ⟨g_o, 0, none⟩)])] := K
    refine wp_seq (X_reg ?_)
    refine X_o K M ?_; clear K
    refine Y_o M ?_
    obtain ⟨i3, hx, h⟩ := olet h
    refine Y_r (fun _ K => rdi hx (rd_assign rfl K rfl)) M ?_; intro a K
    refine wpList_nil (then_n (wp_block ?_))
    refine X_lp (id := 0) (Rel := fun (⟨l7, b, i4⟩ : List Int × Int × Int) a w => Kn a 53 [(0, .slice A5 l7.length c5), (1, I 0), (2, I b), (3, .func (.func 39) #[] #[.pointer (some ⟨g_o, 0, none⟩)]), (8, I i4)] ∧ Mem w0.heap.size w0 w [.row 3 1 A5 l7.length c5 ((cI .i64).all l7), .blk g_o 22 [.slice A_d d.length c_d]]) h (fun _ _ => rfl) ⟨K.pick [0,1,2,3,8], M.pick [0,1] (by decide)⟩ ?_ ?_
    · clear K M h
      rintro ⟨l23, b2, i7⟩ a w ⟨K, M⟩ h
      try dsimp only at h
      refine inb_e ?_
      refine ret_n ?_
      refine ret0 K rfl ⟨_, rfl, ?_⟩; clear K; intro a K
      obtain ⟨_, h0, h⟩ := obind h
      have h0 := sameL_spec h0
      try rw [h0] at K
      try rw [h0] at M
      refine wpList_nil (then_n (wp_block ?_))
      refine X_rounds 1 ?_
      refine X_round ?_
      refine wp_seq (wp_seq (X_reg ?_))
      refine X_o K M ?_; clear K
      iterate 2 (refine Y_o M ?_)
      intro a K
      refine wpList_nil (then_n ?_)
      refine X_cond K rfl (fun hb => ?_) (fun hb => ?_)
      · have h := ctrue hb h
        cases h
      have h := cfalse hb h
      refine wp_exit ?_
      refine then_e (then_e ?_)
      refine inb_e ?_
      refine ret_n ?_
      refine ret0 K rfl ⟨_, rfl, ?_⟩; clear K; intro a K
      obtain ⟨_, h0, h⟩ := obind h
      have h0 := sameL_spec h0
      try rw [h0] at K
      try rw [h0] at M
      refine wpList_nil ?_
      refine ret_n ?_
      refine ret0 K rfl ⟨_, rfl, ?_⟩; clear K; intro a K
      obtain ⟨_, h0, h⟩ := obind h
      have h0 := sameL_spec h0
      try rw [h0] at K
      try rw [h0] at M
      refine wpList_nil (then_n (wp_seq (X_reg ?_)))
      refine X_r K (rd_ldC rfl sc22 K rfl (inM 1 rfl) rfl) M ?_; clear K
      obtain ⟨x2, hx, h⟩ := olet h
      refine Y_r (fun _ K => rdi hx (rd_len rfl un22 K rfl)) M ?_; intro a K
      obtain ⟨l24, h_l24, h⟩ := obind h
      refine X_a K (ac_make (C := cS) (z := ([] : List UInt8)) rfl sl31 rfl z9 rfl K rfl rfl M h_l24) ?_
      clear K M; rintro _ a w ⟨A6, c6, rfl, M⟩ K
      refine X_o K M ?_; clear K; intro a K
      refine wpList_nil (then_n (wp_seq (X_reg ?_)))
      refine X_o K M ?_; clear K; intro a K
      refine wpList_nil (then_n (wp_seq (wp_seq (X_reg ?_))))
      refine X_o K M ?_; clear K
      refine Y_r (fun _ K => rd_len rfl un22 K rfl) M ?_
      refine Y_o M ?_; intro a K
      refine wpList_nil (then_n (wp_block ?_))
      refine X_lp (id := 2) (Rel := fun (⟨l25, i8, i9⟩ : List (List UInt8) × Int × Int) a w => Kn a 74 [(1, .pointer (some ⟨g_o, 0, none⟩)), (8, .slice A6 l25.length c6), (9, I i8), (39, .slice A5 l23.length c5), (40, I (l23.length : Int)), (41, I i9)] ∧ Mem w0.heap.size w0 w [.row 9 1 A6 l25.length c6 (cS.all l25), .row 3 1 A5 l23.length c5 ((cI .i64).all l23), .blk g_o 22 [.slice A_d d.length c_d]]) h (fun _ _ => rfl) ⟨K.pick [1,8,9,39,40,41], M.pick [0,1,2] (by decide)⟩ ?_ ?_
      · clear K M h
        rintro ⟨l28, i10, i11⟩ a w ⟨K, M⟩ h
        try dsimp only at h
        refine inb_e ?_
        refine then_n (wp_seq (X_reg ?_))
        refine X_o K M ?_; clear K
        iterate 2 (refine Y_o M ?_)
        intro a K
        refine wpList_nil (then_n (wp_ret ?_))
        cases h
        exact ret2 K rfl (res_tmp K rfl) (res_tmp K rfl) ⟨_, rfl, _, _, rfl, ((M).pick [0] (by decide))⟩
      clear K M h
      rintro kk fuel ⟨l25, i8, i9⟩ a w hk4 ⟨K, M⟩ h
      unfold D_code_Words_l4 at h
      refine wp_seq (X_reg ?_)
      refine X_o K M ?_; clear K; intro a K
      refine wpList_nil (then_n (wp_seq ?_))
      refine X_cond K rfl (fun hb => ?_) (fun hb => ?_)
      · have h := ctrue hb h
        refine wp_skip (then_n (wp_seq (wp_block (wp_seq (X_reg ?_)))))
        obtain ⟨e33, h_e33, h⟩ := obind h
        refine X_r K (rd_ix rfl sl22 K rfl rfl (inR (C := (cI .i64)) 1 rfl rfl) h_e33) M ?_; clear K
        refine Y_r (fun _ K => rd_elC rfl sc3 K rfl rfl (inR (C := (cI .i64)) 1 rfl rfl) h_e33 rfl) M ?_
        refine Y_o M ?_; intro a K
        refine wpList_nil (then_n (wp_seq ?_))
        refine wp_region_tl (fun w => Mem _ _ w _) [0,0,0,0,0,0,0,0,0,0,0,1,0,0,0,0,0] (by kernel_rfl) (by kernel_rfl) M.drew ?_
        replace M := M.drew
        refine T_o K ?_; clear K
        refine U_r (fun _ K => rd_ldC rfl sc22 K rfl (inM 2 rfl) rfl) ?_
        refine U_o ?_
        obtain ⟨e34, h_e34, h⟩ := obind h
        refine U_r (fun _ K => rd_ixP rfl sl22 K rfl rfl ((inA R_d) _ M) h_e34) ?_
        refine U_r (fun _ K => rd_elC rfl sc3 K rfl rfl (inA R_d) h_e34 rfl) ?_
        refine U_o ?_; intro a K
        obtain ⟨_, h0, h⟩ := obind h
        have h0 := nn_spec h0
        refine T_r K (rd_shr rfl K rfl rfl h0) ?_; clear K
        refine U_r (fun _ K => rd_ldC rfl sc22 K rfl (inM 2 rfl) rfl) ?_
        refine U_o ?_
        obtain ⟨e35, h_e35, h⟩ := obind h
        refine U_r (fun _ K => rd_ixP rfl sl22 K rfl rfl ((inA R_d) _ M) h_e35) ?_
        refine U_r (fun _ K => rd_elC rfl sc3 K rfl rfl (inA R_d) h_e35 rfl) ?_; intro a K
        obtain ⟨r7, h_r7, h⟩ := obind h
        refine T_a K (ac_call (vs := [I (shrI .i64 i8 (IntKind.i64.wrap (15 - e34))), I e35]) (cap := []) rfl fok41 K rfl rfl (W_bits_Number N (shrI .i64 i8 (IntKind.i64.wrap (15 - e34))) e35 _  r7 h_r7)) ?_
        have M0 := M; clear K M; rintro _ a w ⟨rfl, M⟩ K
        replace M := M0.call M; clear M0
        refine ⟨M.pick [0,1,2] (by decide), ?_⟩
        refine T_o K ?_; clear K
        iterate 4 (refine U_o ?_)
        intro a K
        refine T_end ?_
        refine then_n (wp_seq (X_reg ?_))
        refine X_o K M ?_; clear K
        iterate 2 (refine Y_o M ?_)
        obtain ⟨e36, h_e36, h⟩ := obind h
        refine Y_r (fun _ K => rd_ix rfl sl31 K rfl rfl (inR (C := cS) 0 rfl rfl) h_e36) M ?_; intro a K
        obtain ⟨l27, h_l27, h⟩ := obind h
        refine X_b K (ac_rowset (el := r7.1) rfl sz9 rfl rfl K rfl rfl rfl 0 M rfl h_l27) ?_
        have M0 := M; clear K M; rintro _ a w M K
        have hl := setL_len h_l27
        try rw [hl] at M
        try rw [hl] at K
        clear hl
        clear M0
        refine wpList_nil (then_n (X_reg ?_))
        refine X_o K M ?_; clear K
        refine Y_r (fun _ K => rd_ldC rfl sc22 K rfl (inM 2 rfl) rfl) M ?_
        refine Y_o M ?_
        obtain ⟨e37, h_e37, h⟩ := obind h
        refine Y_r (fun _ K => rd_ix rfl sl22 K rfl rfl (inA R_d) h_e37) M ?_
        refine Y_r (fun _ K => rd_elC rfl sc3 K rfl rfl (inA R_d) h_e37 rfl) M ?_
        refine Y_o M ?_; intro a K
        obtain ⟨_, h0, h⟩ := obind h
        have h0 := nn_spec h0
        refine X_r K (rd_shl rfl K rfl rfl h0) M ?_; clear K
        refine Y_o M ?_
        obtain ⟨x4, hx, h⟩ := olet h
        refine Y_r (fun _ K => rdi hx (rd_assign rfl K rfl)) M ?_; intro a K
        refine wpList_nil (inb_n (then_n (X_reg ?_)))
        refine X_o K M ?_; clear K
        refine Y_o M ?_; intro a K
        refine wpList_nil ?_
        exact then_n ⟨(l27, x4, IntKind.i64.wrap (i9 + 1)), ⟨K.pick [1,8,9,39,40,41], M.pick [0,1,2] (by decide)⟩, h⟩
      have h := cfalse hb h
      refine wp_exit ?_
      refine then_e ?_
      exact then_e (hk4 (l25, i8, i9) _ _ ⟨K.pick [1,8,9,39,40,41], M.pick [0,1,2] (by decide)⟩ h)
    clear K M h
    rintro kk fuel ⟨l7, b, i4⟩ a w hk2 ⟨K, M⟩ h
    unfold D_code_Words_l2 at h
    refine wp_seq (wp_seq (X_reg ?_))
    refine X_o K M ?_; clear K
    iterate 2 (refine Y_o M ?_)
    intro a K
    refine wpList_nil (then_n ?_)
    refine X_cond K rfl (fun hb => ?_) (fun hb => ?_)
    · have h := ctrue hb h
      refine wp_skip (then_n (wp_seq (wp_block (wp_seq (X_reg ?_)))))
      refine X_o K M ?_; clear K
      refine Y_o M ?_; intro a K
      refine wpList_nil (then_n (wp_block ?_))
      refine X_lp (id := 2) (Rel := fun (⟨l13, j4⟩ : List Int × Int) a w => Kn a 53 [(0, .slice A5 l13.length c5), (1, I 0), (2, I b), (3, .func (.func 39) #[] #[.pointer (some ⟨g_o, 0, none⟩)]), (8, I i4), (9, I j4)] ∧ Mem w0.heap.size w0 w [.row 3 1 A5 l13.length c5 ((cI .i64).all l13), .blk g_o 22 [.slice A_d d.length c_d]]) h (fun _ _ => rfl) ⟨K.pick [0,1,2,3,8,9], M.pick [0,1] (by decide)⟩ ?_ ?_
      · clear K M h
        rintro ⟨l22, j9⟩ a w ⟨K, M⟩ h
        try dsimp only at h
        refine inb_e ?_
        refine inb_n (then_n (X_reg ?_))
        refine X_o K M ?_; clear K
        refine Y_o M ?_
        obtain ⟨i6, hx, h⟩ := olet h
        refine Y_r (fun _ K => rdi hx (rd_assign rfl K rfl)) M ?_; intro a K
        refine wpList_nil ?_
        exact then_n ⟨(l22, b, i6), ⟨K.pick [0,1,2,3,8], M.pick [0,1] (by decide)⟩, h⟩
      clear K M h
      rintro kk fuel ⟨l13, j4⟩ a w hk3 ⟨K, M⟩ h
      unfold D_code_Words_l3 at h
      refine wp_seq (wp_seq ?_)
      refine wp_region_tl (fun w => Mem _ _ w _) [0,0,0,0,0,0,0,0,0,0,0,0,0,0,1,0,0] (by kernel_rfl) (by kernel_rfl) M.drew ?_
      replace M := M.drew
      refine T_o K ?_; clear K
      iterate 3 (refine U_o ?_)
      intro a K
      rcases Bool.eq_false_or_eq_true (decide (0 < j4)) with hb | hb
      · have h := ctrue hb h
        have K := K.reb (s := 21) rfl hb
        refine T_o K ?_; clear K
        iterate 2 (refine U_o ?_)
        obtain ⟨e20, h_e20, h⟩ := obind h
        refine U_r (fun _ K => rd_ixP rfl sl22 K rfl rfl ((inR (C := (cI .i64)) 0 rfl rfl) _ M) h_e20) ?_
        refine U_r (fun _ K => rd_elC rfl sc3 K rfl rfl (inR (C := (cI .i64)) 0 rfl rfl) h_e20 rfl) ?_
        iterate 3 (refine U_o ?_)
        obtain ⟨e21, h_e21, h⟩ := obind h
        refine U_r (fun _ K => rd_ixP rfl sl22 K rfl rfl ((inR (C := (cI .i64)) 0 rfl rfl) _ M) h_e21) ?_
        refine U_r (fun _ K => rd_elC rfl sc3 K rfl rfl (inR (C := (cI .i64)) 0 rfl rfl) h_e21 rfl) ?_; intro a K
        obtain ⟨r5, h_r5, h⟩ := obind h
        refine T_a K (ac_call (vs := [I e20, I e21]) (cap := [.pointer (some ⟨g_o, 0, none⟩)]) rfl fok39 K rfl rfl (W_code_Words_1 N e20 e21 d A_d c_d g_o _ ((inA R_d) _ M) C_d (M.blkAt (i := 1) rfl) r5 h_r5)) ?_
        have M0 := M; clear K M; rintro _ a w ⟨rfl, M⟩ K
        replace M := M0.call M; clear M0
        refine ⟨M.pick [0,1] (by decide), ?_⟩
        refine T_o K ?_; clear K
        refine U_o ?_; intro a K
        refine T_end ?_
        refine then_n ?_
        refine X_cond K rfl (fun hb => ?_) (fun hb => ?_)
        · have h := ctrue hb h
          refine wp_skip (then_n (wp_seq (wp_block ?_)))
          refine wp_region_tr (fun w => Mem _ _ w _) [0,0,0,0,0,0,0,0,0,1,0,0,0,1,0,1,0,2] 18 [0,1,2,3,4,5,6,7,8,9,10,11,12,13,14,15,16,17] (by kernel_rfl) (by kernel_rfl) (by kernel_rfl) rfl (M.pick [1] (by decide)).drew ?_
          replace M := M.drew
          refine R_rd 0 [1,2,3,4,5,6,7,8,9,10,11,12,13,14,15,16,17] (by kernel_rfl) rfl K (want_no rfl) rfl rfl (rd_move rfl K rfl) ?_; clear K; intro a K
          refine R_rd 1 [2,3,4,5,6,7,8,9,10,11,12,13,14,15,16,17] (by kernel_rfl) rfl K (want_no rfl) rfl rfl (rd_move rfl K rfl) ?_; clear K; intro a K
          refine R_rd 2 [3,4,5,6,7,8,9,10,11,12,13,14,15,16,17] (by kernel_rfl) rfl K (want_no rfl) rfl rfl (rd_move rfl K rfl) ?_; clear K; intro a K
          refine R_rd 3 [4,5,6,7,8,9,10,11,12,13,14,15,16,17] (by kernel_rfl) rfl K (want_no rfl) rfl rfl (rd_move rfl K rfl) ?_; clear K; intro a K
          refine R_rd 4 [5,6,7,8,9,10,11,12,13,14,15,16,17] (by kernel_rfl) rfl K (want_no rfl) rfl rfl (rd_sub rfl K rfl rfl) ?_; clear K; intro a K
          refine R_rd 5 [6,7,8,9,10,11,12,13,14,15,16,17] (by kernel_rfl) rfl K (want_no rfl) rfl rfl (rd_move rfl K rfl) ?_; clear K; intro a K
          refine R_rd 6 [7,8,9,10,11,12,13,14,15,16,17] (by kernel_rfl) rfl K (want_no rfl) rfl rfl (rd_move rfl K rfl) ?_; clear K; intro a K
          refine R_rd 7 [8,9,10,11,12,13,14,15,16,17] (by kernel_rfl) rfl K (want_no rfl) rfl rfl (rd_sub rfl K rfl rfl) ?_; clear K; intro a K
          obtain ⟨e22, h_e22, h⟩ := obind h
          refine R_rd 8 [9,10,11,12,13,14,15,16,17] (by kernel_rfl) rfl K (want_no rfl) rfl rfl (rd_ixP rfl sl22 K rfl rfl ((inR (C := (cI .i64)) 0 rfl rfl) _ M) h_e22) ?_; clear K; intro a K
          refine R_rd 10 [9,11,12,13,14,15,16,17] (by kernel_rfl) rfl K (want_no rfl) rfl rfl (rd_move rfl K rfl) ?_; clear K; intro a K
          refine R_rd 11 [9,12,13,14,15,16,17] (by kernel_rfl) rfl K (want_no rfl) rfl rfl (rd_move rfl K rfl) ?_; clear K; intro a K
          obtain ⟨e23, h_e23, h⟩ := obind h
          refine R_rd 12 [9,13,14,15,16,17] (by kernel_rfl) rfl K (want_no rfl) rfl rfl (rd_ixP rfl sl22 K rfl rfl ((inR (C := (cI .i64)) 0 rfl rfl) _ M) h_e23) ?_; clear K; intro a K
          refine R_br [9,13] (by kernel_rfl) ⟨?_, ?_, trivial⟩
          ·
            refine R_rdA [13,14,15,16,17] (by kernel_rfl) rfl K (want_no rfl) rfl rfl (rd_elC rfl sc3 K rfl rfl (inR (C := (cI .i64)) 0 rfl rfl) h_e22 rfl) M ?_; clear K; intro a K
            refine ⟨fun _ => M.pick [1] (by decide), ?_⟩
            refine R_br [13] (by kernel_rfl) ⟨?_, trivial⟩
            refine R_rdA [14,15,16,17] (by kernel_rfl) rfl K (want_no rfl) rfl rfl (rd_elC rfl sc3 K rfl rfl (inR (C := (cI .i64)) 0 rfl rfl) h_e23 rfl) M ?_; clear K; intro a K
            refine ⟨fun _ => M.pick [1] (by decide), ?_⟩
            obtain ⟨e24, h_e24, h⟩ := obind h
            refine R_rd 14 [15,16,17] (by kernel_rfl) rfl K (want_no rfl) rfl rfl (rd_ixP rfl sl22 K rfl rfl ((inR (C := (cI .i64)) 0 rfl rfl) _ M) h_e24) ?_; clear K; intro a K
            refine R_br [15] (by kernel_rfl) ⟨?_, trivial⟩
            obtain ⟨l18, h_l18, h⟩ := obind h
            refine R_a0 [16,17] (by kernel_rfl) rfl K (want_no rfl) rfl (ac_rowset (el := e22) rfl sz3 rfl rfl K rfl rfl rfl 0 M rfl h_l18) ?_
            have M0 := M; clear K M; rintro _ a w M K
            have hl := setL_len h_l18
            try rw [hl] at M
            try rw [hl] at K
            clear hl
            clear M0
            refine ⟨fun _ => M.pick [1] (by decide), ?_⟩
            obtain ⟨e25, h_e25, h⟩ := obind h
            refine R_rd 16 [17] (by kernel_rfl) rfl K (want_no rfl) rfl rfl (rd_ixP rfl sl22 K rfl rfl ((inR (C := (cI .i64)) 0 rfl rfl) _ M) h_e25) ?_; clear K; intro a K
            refine R_br [17] (by kernel_rfl) ⟨?_, trivial⟩
            obtain ⟨l19, h_l19, h⟩ := obind h
            refine R_a0 [] (by kernel_rfl) rfl K (want_no rfl) rfl (ac_rowset (el := e23) rfl sz3 rfl rfl K rfl rfl rfl 0 M rfl h_l19) ?_
            have M0 := M; clear K M; rintro _ a w M K
            have hl := setL_len h_l19
            try rw [hl] at M
            try rw [hl] at K
            clear hl
            clear M0
            refine ⟨fun h => absurd h (by decide), ?_⟩
            refine R_end ?_
            refine inb_n (then_n (X_reg ?_))
            refine X_o K M ?_; clear K
            refine Y_o M ?_
            obtain ⟨j7, hx, h⟩ := olet h
            refine Y_r (fun _ K => rdi hx (rd_assign rfl K rfl)) M ?_; intro a K
            refine wpList_nil ?_
            exact then_n ⟨(l19, j7), ⟨K.pick [0,1,2,3,8,9], M.pick [0,1] (by decide)⟩, h⟩
          ·
            refine R_rdA [9,14,15,16,17] (by kernel_rfl) rfl K (want_no rfl) rfl rfl (rd_elC rfl sc3 K rfl rfl (inR (C := (cI .i64)) 0 rfl rfl) h_e23 rfl) M ?_; clear K; intro a K
            refine ⟨fun _ => M.pick [1] (by decide), ?_⟩
            refine R_br [9] (by kernel_rfl) ⟨?_, trivial⟩
            refine R_rdA [14,15,16,17] (by kernel_rfl) rfl K (want_no rfl) rfl rfl (rd_elC rfl sc3 K rfl rfl (inR (C := (cI .i64)) 0 rfl rfl) h_e22 rfl) M ?_; clear K; intro a K
            refine ⟨fun _ => M.pick [1] (by decide), ?_⟩
            obtain ⟨e26, h_e26, h⟩ := obind h
            refine R_rd 14 [15,16,17] (by kernel_rfl) rfl K (want_no rfl) rfl rfl (rd_ixP rfl sl22 K rfl rfl ((inR (C := (cI .i64)) 0 rfl rfl) _ M) h_e26) ?_; clear K; intro a K
            refine R_br [15] (by kernel_rfl) ⟨?_, trivial⟩
            obtain ⟨l20, h_l20, h⟩ := obind h
            refine R_a0 [16,17] (by kernel_rfl) rfl K (want_no rfl) rfl (ac_rowset (el := e22) rfl sz3 rfl rfl K rfl rfl rfl 0 M rfl h_l20) ?_
            have M0 := M; clear K M; rintro _ a w M K
            have hl := setL_len h_l20
            try rw [hl] at M
            try rw [hl] at K
            clear hl
            clear M0
            refine ⟨fun _ => M.pick [1] (by decide), ?_⟩
            obtain ⟨e27, h_e27, h⟩ := obind h
            refine R_rd 16 [17] (by kernel_rfl) rfl K (want_no rfl) rfl rfl (rd_ixP rfl sl22 K rfl rfl ((inR (C := (cI .i64)) 0 rfl rfl) _ M) h_e27) ?_; clear K; intro a K
            refine R_br [17] (by kernel_rfl) ⟨?_, trivial⟩
            obtain ⟨l21, h_l21, h⟩ := obind h
            refine R_a0 [] (by kernel_rfl) rfl K (want_no rfl) rfl (ac_rowset (el := e23) rfl sz3 rfl rfl K rfl rfl rfl 0 M rfl h_l21) ?_
            have M0 := M; clear K M; rintro _ a w M K
            have hl := setL_len h_l21
            try rw [hl] at M
            try rw [hl] at K
            clear hl
            clear M0
            refine ⟨fun h => absurd h (by decide), ?_⟩
            refine R_end ?_
            refine inb_n (then_n (X_reg ?_))
            refine X_o K M ?_; clear K
            refine Y_o M ?_
            obtain ⟨j8, hx, h⟩ := olet h
            refine Y_r (fun _ K => rdi hx (rd_assign rfl K rfl)) M ?_; intro a K
            refine wpList_nil ?_
            exact then_n ⟨(l21, j8), ⟨K.pick [0,1,2,3,8,9], M.pick [0,1] (by decide)⟩, h⟩
        have h := cfalse hb h
        refine wp_exit ?_
        refine then_e ?_
        exact then_e (hk3 (l13, j4) _ _ ⟨K.pick [0,1,2,3,8,9], M.pick [0,1] (by decide)⟩ h)
      have h := cfalse hb h
      have K := K.reb (s := 21) rfl hb
      refine T_o K ?_; clear K
      iterate 9 (refine U_o ?_)
      intro a K
      refine T_no1 K (K.no rfl rfl rfl rfl) rfl rfl (M.pick [0,1] (by decide)) ?_; clear K; intro a K
      refine T_o K ?_; clear K
      refine U_o ?_; intro a K
      refine T_end ?_
      refine then_n ?_
      refine X_condF K rfl ?_
      refine wp_exit ?_
      refine then_e ?_
      exact then_e (hk3 (l13, j4) _ _ ⟨K.pick [0,1,2,3,8,9], M.pick [0,1] (by decide)⟩ h)
    have h := cfalse hb h
    refine wp_exit ?_
    refine then_e ?_
    exact then_e (hk2 (l7, b, i4) _ _ ⟨K.pick [0,1,2,3,8], M.pick [0,1] (by decide)⟩ h)
  clear K M h
  rintro kk fuel ⟨l3, i⟩ a w hk1 ⟨A2, c2, K, M⟩ h
  unfold D_code_Words_l1 at h
  refine wp_seq (X_reg ?_)
  refine X_o K M ?_; clear K; intro a K
  refine wpList_nil (then_n (wp_seq ?_))
  refine X_cond K rfl (fun hb => ?_) (fun hb => ?_)
  · have h := ctrue hb h
    refine wp_skip (then_n (wp_seq (wp_block (wp_seq (X_reg ?_)))))
    refine X_o K M ?_; clear K
    obtain ⟨e3, h_e3, h⟩ := obind h
    refine Y_r (fun _ K => rd_ix rfl sl22 K rfl rfl (inA R_d) h_e3) M ?_
    refine Y_r (fun _ K => rd_elC rfl sc3 K rfl rfl (inA R_d) h_e3 rfl) M ?_
    iterate 2 (refine Y_o M ?_)
    intro a K
    refine wpList_nil (then_n (wp_seq (X_reg ?_)))
    refine X_o K M ?_; clear K
    refine Y_o M ?_; intro a K
    refine wpList_nil (then_n ?_)
    refine X_cond K rfl (fun hb => ?_) (fun hb => ?_)
    · have h := ctrue hb h
      refine X_reg ?_
      refine X_o K M ?_; clear K
      refine Y_o M ?_; intro a K
      refine X_a K (ac_bslice rfl sl22 z3 K (vs := [(0, I i)]) (cs := [I i]) rfl (by kernel_rfl) rfl rfl M) ?_
      have M0 := M; clear K M; rintro _ a w ⟨gs3, rfl, M⟩ K
      replace M := M.asRow 0 rfl (cI .i64) ([i] : List Int) (n := 1) rfl rfl rfl
      clear M0
      obtain ⟨l5, h_l5, h⟩ := obind h
      refine X_a K (ac_app (C := (cI .i64)) (xs := l3) (ys := ([i] : List Int)) rfl sl22 rfl z3 rfl rfl K rfl rfl 1 M rfl ((inR (C := (cI .i64)) 0 rfl rfl) _ M) h_l5) ?_
      clear K M; rintro _ a w ⟨A4, c4, rfl, M⟩ K
      refine X_o K M ?_; clear K; intro a K
      refine wpList_nil (inb_n (then_n (X_reg ?_)))
      refine X_o K M ?_; clear K
      refine Y_o M ?_; intro a K
      refine wpList_nil ?_
      exact then_n ⟨(l5, IntKind.i64.wrap (i + 1)), ⟨A4, c4, K.pick [1,5,19,20,21], M.pick [1,2] (by decide)⟩, h⟩
    have h := cfalse hb h
    refine wp_skip (inb_n (then_n (X_reg ?_)))
    refine X_o K M ?_; clear K
    refine Y_o M ?_; intro a K
    refine wpList_nil ?_
    exact then_n ⟨(l3, IntKind.i64.wrap (i + 1)), ⟨A2, c2, K.pick [1,5,19,20,21], M.pick [0,1] (by decide)⟩, h⟩
  have h := cfalse hb h
  refine wp_exit ?_
  refine then_e ?_
  exact then_e (hk1 (l3, i) _ _ ⟨A2, c2, K.pick [1,5,19,20,21], M.pick [0,1] (by decide)⟩ h)
set_option maxRecDepth 100000 in
set_option maxHeartbeats 4000000 in
theorem W_code_Write (N : Nat) (lens : List Int) (A_lens : Option Addr) (c_lens : Nat) (l2 : List Int) (A_l2 : Option Addr) (c_l2 : Nat) (w0 : World) (R_lens : SL w0 (cI .i64) A_lens lens) (C_lens : lens.length ≤ c_lens) (R_l2 : SL w0 (cI .i64) A_l2 l2) (C_l2 : l2.length ≤ c_l2) (r : List UInt8 × Int) (h : D_code_Write N lens l2 = some r) :
    Calls Tryd.prog 9 #[.slice A_lens lens.length c_lens, .slice A_l2 l2.length c_l2] w0 fun e w' => ∃ v, e = .returned v ∧ v = .tuple #[.string (bs r.1), I r.2] ∧ Mem w0.heap.size w0 w' [] := by
  refine X_enter Tryd.func9 rfl Tryd.ntmps9 rfl ?_
  intro a K
  have M := Mem.start w0
  have K : Kn a 50 [(0, .slice A_lens lens.length c_lens), (1, .slice A_l2 l2.length c_l2)] := K
  unfold D_code_Write at h
  refine wp_seq (X_reg ?_)
  refine X_o K M ?_; clear K
  refine Y_o M ?_; intro a K
  refine wpList_nil (then_n (wp_seq (X_reg ?_)))
  refine X_o K M ?_; clear K; intro a K
  obtain ⟨r2, h_r2, h⟩ := obind h
  refine X_a K (ac_call (vs := [.slice A_lens lens.length c_lens]) (cap := []) rfl fok15 K rfl rfl (W_code_Words N lens A_lens c_lens _ ((inA R_lens) _ M) C_lens r2 h_r2)) ?_
  have M0 := M; clear K M; rintro _ a w ⟨A, c, rfl, M⟩ K
  replace M := M0.call M; clear M0
  refine X_o K M ?_; clear K
  iterate 4 (refine Y_o M ?_)
  intro a K
  refine wpList_nil (then_n (wp_seq (wp_seq (X_reg ?_))))
  refine X_o K M ?_; clear K
  refine Y_o M ?_; intro a K
  refine wpList_nil (then_n ?_)
  refine X_cond K rfl (fun hb => ?_) (fun hb => ?_)
  · have h := ctrue hb h
    refine wp_seq (X_reg ?_)
    refine X_o K M ?_; clear K
    iterate 2 (refine Y_o M ?_)
    intro a K
    refine wpList_nil (then_n (wp_ret (then_r ?_)))
    cases h
    exact ret2 K rfl (res_tmp K rfl) (res_tmp K rfl) ⟨_, rfl, rfl, ((M).pick [] (by decide))⟩
  have h := cfalse hb h
  refine wp_skip (then_n (wp_seq (wp_seq (X_reg ?_))))
  refine X_o K M ?_; clear K
  refine Y_r (fun _ K => rd_len rfl un22 K rfl) M ?_
  refine Y_o M ?_; intro a K
  refine wpList_nil (then_n ?_)
  refine X_cond K rfl (fun hb => ?_) (fun hb => ?_)
  · have h := ctrue hb h
    refine wp_seq (X_reg ?_)
    refine X_o K M ?_; clear K
    refine Y_o M ?_; intro a K
    refine wpList_nil (then_n (wp_ret (then_r ?_)))
    cases h
    exact ret2 K rfl (res_tmp K rfl) (res_tmp K rfl) ⟨_, rfl, rfl, ((M).pick [] (by decide))⟩
  have h := cfalse hb h
  refine wp_skip (then_n (wp_seq (X_reg ?_)))
  refine X_a K (ac_alloc rfl (show zeroT Tryd.prog 54 = some [.pointer none, .slice none 0 0] by kernel_rfl) M) ?_
  have M0 := M; clear K M; rintro _ a w ⟨g_b, rfl, M⟩ K
  replace M := Mem.asBld 5 M
  clear M0
  refine wpList_nil (then_n (wp_seq (wp_seq (X_reg ?_))))
  refine X_o K M ?_; clear K
  refine Y_r (fun _ K => rd_len rfl un22 K rfl) M ?_
  refine Y_o M ?_; intro a K
  refine wpList_nil (then_n (wp_block ?_))
  refine X_lp (id := 0) (Rel := fun (⟨l3, i⟩ : List UInt8 × Int) a w => ∃ (A2 : Option Addr) (c2 : Nat), Kn a 50 [(6, .slice A r2.1.length c), (8, .pointer (some ⟨g_b, 0, none⟩)), (22, .slice A_l2 l2.length c_l2), (23, I (l2.length : Int)), (24, I i)] ∧ Mem w0.heap.size w0 w [.row 5 1 A2 l3.length c2 ((cI .u8).all (ofB l3)), .bld g_b 54 A2 l3.length c2, .row 9 1 A r2.1.length c (cS.all r2.1)]) h (fun _ _ => rfl) ⟨none, 0, K.pick [6,8,22,23,24], M.pick [0,1,2] (by decide)⟩ ?_ ?_
  · clear K M h
    rintro ⟨l4, i2⟩ a w ⟨A5, c5, K, M⟩ h
    try dsimp only at h
    refine inb_e ?_
    refine then_n (wp_seq (X_reg ?_))
    refine X_a K (ac_call (vs := [.pointer (some ⟨g_b, 0, none⟩)]) (cap := []) rfl fok28 K rfl rfl (W_bld_string (show Mem _ _ _ [.bld g_b 54 A5 l4.length c5, .row 5 1 A5 l4.length c5 ((cI .u8).all (ofB l4)), .row 9 1 A r2.1.length c (cS.all r2.1)] from M.pick [1,0,2] (by decide)))) ?_
    clear K M; rintro _ a w ⟨rfl, M⟩ K
    refine X_o K M ?_; clear K
    refine Y_o M ?_; intro a K
    refine wpList_nil (then_n (wp_ret ?_))
    cases h
    exact ret2 K rfl (res_tmp K rfl) (res_tmp K rfl) ⟨_, rfl, rfl, ((M).pick [] (by decide))⟩
  clear K M h
  rintro kk fuel ⟨l3, i⟩ a w hk1 ⟨A2, c2, K, M⟩ h
  unfold D_code_Write_l1 at h
  refine wp_seq (X_reg ?_)
  refine X_o K M ?_; clear K; intro a K
  refine wpList_nil (then_n (wp_seq ?_))
  refine X_cond K rfl (fun hb => ?_) (fun hb => ?_)
  · have h := ctrue hb h
    refine wp_skip (then_n (wp_seq (wp_block (wp_seq (X_reg ?_)))))
    obtain ⟨e4, h_e4, h⟩ := obind h
    refine X_r K (rd_ix rfl sl22 K rfl rfl (inA R_l2) h_e4) M ?_; clear K
    refine Y_r (fun _ K => rd_elC rfl sc3 K rfl rfl (inA R_l2) h_e4 rfl) M ?_
    refine Y_o M ?_; intro a K
    refine wpList_nil (then_n (wp_seq (wp_seq (X_reg ?_))))
    refine X_o K M ?_; clear K
    iterate 2 (refine Y_o M ?_)
    intro a K
    rcases Bool.eq_false_or_eq_true (decide (e4 < 0)) with hb | hb
    · have h := ctrue hb h
      have K := K.reb (s := 30) rfl hb
      refine X_o K M ?_; clear K
      iterate 11 (refine Y_o M ?_)
      intro a K
      refine wpList_nil (then_n ?_)
      refine X_condT K rfl ?_
      refine wp_seq (X_reg ?_)
      refine X_o K M ?_; clear K
      refine Y_o M ?_; intro a K
      refine wpList_nil (then_n (wp_ret (then_r (inb_r (then_r (then_r (inb_r (then_r ?_))))))))
      cases h
      exact ret2 K rfl (res_tmp K rfl) (res_tmp K rfl) ⟨_, rfl, rfl, ((M).pick [] (by decide))⟩
    have h := cfalse hb h
    have K := K.reb (s := 30) rfl hb
    refine X_o K M ?_; clear K
    refine Y_o M ?_
    refine Y_r (fun _ K => rd_len rfl un31 K rfl) M ?_
    iterate 3 (refine Y_o M ?_)
    intro a K
    rcases Bool.eq_false_or_eq_true (decide ((r2.1.length : Int) ≤ e4)) with hb | hb
    · have h := ctrue hb h
      have K := K.reb (s := 36) rfl hb
      refine X_o K M ?_; clear K
      iterate 5 (refine Y_o M ?_)
      intro a K
      refine wpList_nil (then_n ?_)
      refine X_condT K rfl ?_
      refine wp_seq (X_reg ?_)
      refine X_o K M ?_; clear K
      refine Y_o M ?_; intro a K
      refine wpList_nil (then_n (wp_ret (then_r (inb_r (then_r (then_r (inb_r (then_r ?_))))))))
      cases h
      exact ret2 K rfl (res_tmp K rfl) (res_tmp K rfl) ⟨_, rfl, rfl, ((M).pick [] (by decide))⟩
    have h := cfalse hb h
    have K := K.reb (s := 36) rfl hb
    refine X_o K M ?_; clear K
    refine Y_o M ?_
    obtain ⟨e5, h_e5, h⟩ := obind h
    refine Y_r (fun _ K => rd_ix rfl sl31 K rfl rfl (inR (C := cS) 2 rfl rfl) h_e5) M ?_
    refine Y_r (fun _ K => rd_elC rfl sc9 K rfl rfl (inR (C := cS) 2 rfl rfl) h_e5 rfl) M ?_
    refine Y_r (fun _ K => rd_eqlS rfl K rfl rfl) M ?_
    refine Y_o M ?_; intro a K
    refine wpList_nil (then_n ?_)
    refine X_cond K rfl (fun hb => ?_) (fun hb => ?_)
    · have h := ctrue hb h
      refine wp_seq (X_reg ?_)
      refine X_o K M ?_; clear K
      refine Y_o M ?_; intro a K
      refine wpList_nil (then_n (wp_ret (then_r (inb_r (then_r (then_r (inb_r (then_r ?_))))))))
      cases h
      exact ret2 K rfl (res_tmp K rfl) (res_tmp K rfl) ⟨_, rfl, rfl, ((M).pick [] (by decide))⟩
    have h := cfalse hb h
    refine wp_skip (then_n (X_reg ?_))
    refine X_o K M ?_; clear K
    refine Y_o M ?_
    obtain ⟨e6, h_e6, h⟩ := obind h
    refine Y_r (fun _ K => rd_ix rfl sl31 K rfl rfl (inR (C := cS) 2 rfl rfl) h_e6) M ?_
    refine Y_r (fun _ K => rd_elC rfl sc9 K rfl rfl (inR (C := cS) 2 rfl rfl) h_e6 rfl) M ?_; intro a K
    obtain ⟨b2, h_b2, h⟩ := obind h
    refine X_a K (ac_call (vs := [.pointer (some ⟨g_b, 0, none⟩), .string (bs e6)]) (cap := []) rfl fok27 K rfl rfl (W_bld_write (show Mem _ _ _ [.bld g_b 54 A2 l3.length c2, .row 5 1 A2 l3.length c2 ((cI .u8).all (ofB l3)), .row 9 1 A r2.1.length c (cS.all r2.1)] from M.pick [1,0,2] (by decide)) h_b2)) ?_
    clear K M; rintro _ a w ⟨A4, c4, M⟩ K
    refine wpList_nil (inb_n (then_n (X_reg ?_)))
    refine X_o K M ?_; clear K
    refine Y_o M ?_; intro a K
    refine wpList_nil ?_
    exact then_n ⟨(b2, IntKind.i64.wrap (i + 1)), ⟨A4, c4, K.pick [6,8,22,23,24], M.pick [1,0,2] (by decide)⟩, h⟩
  have h := cfalse hb h
  refine wp_exit ?_
  refine then_e ?_
  exact then_e (hk1 (l3, i) _ _ ⟨A2, c2, K.pick [6,8,22,23,24], M.pick [0,1,2] (by decide)⟩ h)
set_option maxRecDepth 100000 in
set_option maxHeartbeats 4000000 in
theorem W_code_Read (N : Nat) (d : List Int) (A_d : Option Addr) (c_d : Nat) (o : List UInt8) (p2 : Int) (w0 : World) (R_d : SL w0 (cI .i64) A_d d) (C_d : d.length ≤ c_d) (r : List Int × List UInt8 × Int) (h : D_code_Read N d o p2 = some r) :
    Calls Tryd.prog 11 #[.slice A_d d.length c_d, .string (bs o), I p2] w0 fun e w' => ∃ v, e = .returned v ∧ ∃ A0 c0, v = .tuple #[.slice A0 r.1.length c0, .string (bs r.2.1), I r.2.2] ∧ Mem w0.heap.size w0 w' [.row 3 1 A0 r.1.length c0 ((cI .i64).all r.1)] := by
  refine X_enter Tryd.func11 rfl Tryd.ntmps11 rfl ?_
  intro a K
  have M := Mem.start w0
  have K : Kn a 79 [(0, .slice A_d d.length c_d), (1, .string (bs o)), (2, I p2)] := K
  unfold D_code_Read at h
  refine wp_seq (X_reg ?_)
  refine X_o K M ?_; clear K
  iterate 2 (refine Y_o M ?_)
  intro a K
  refine wpList_nil (then_n (wp_seq (X_reg ?_)))
  refine X_o K M ?_; clear K; intro a K
  obtain ⟨r2, h_r2, h⟩ := obind h
  refine X_a K (ac_call (vs := [.slice A_d d.length c_d]) (cap := []) rfl fok15 K rfl rfl (W_code_Words N d A_d c_d _ ((inA R_d) _ M) C_d r2 h_r2)) ?_
  have M0 := M; clear K M; rintro _ a w ⟨A, c, rfl, M⟩ K
  replace M := M0.call M; clear M0
  refine X_o K M ?_; clear K
  iterate 4 (refine Y_o M ?_)
  intro a K
  refine wpList_nil (then_n (wp_seq (wp_seq (X_reg ?_))))
  refine X_o K M ?_; clear K
  refine Y_o M ?_; intro a K
  refine wpList_nil (then_n ?_)
  refine X_cond K rfl (fun hb => ?_) (fun hb => ?_)
  · have h := ctrue hb h
    refine wp_seq (X_reg ?_)
    refine X_o K M ?_; clear K
    iterate 3 (refine Y_o M ?_)
    intro a K
    refine wpList_nil (then_n (wp_ret (then_r ?_)))
    cases h
    exact ret3 K rfl (res_tmp K rfl) (res_tmp K rfl) (res_tmp K rfl) ⟨_, rfl, _, _, rfl, (((Mem.nilrow 3 1 (cI .i64) M)).pick [0] (by decide))⟩
  have h := cfalse hb h
  refine wp_skip (then_n (wp_seq (wp_seq (X_reg ?_))))
  refine X_o K M ?_; clear K
  iterate 2 (refine Y_o M ?_)
  intro a K
  rcases Bool.eq_false_or_eq_true (decide (p2 < 0)) with hb | hb
  · have h := ctrue hb h
    have K := K.reb (s := 29) rfl hb
    refine X_o K M ?_; clear K
    iterate 2 (refine Y_o M ?_)
    intro a K
    refine wpList_nil (then_n ?_)
    refine X_condT K rfl ?_
    refine wp_seq (X_reg ?_)
    refine X_o K M ?_; clear K
    iterate 2 (refine Y_o M ?_)
    intro a K
    refine wpList_nil (then_n (wp_ret (then_r ?_)))
    cases h
    exact ret3 K rfl (res_tmp K rfl) (res_tmp K rfl) (res_tmp K rfl) ⟨_, rfl, _, _, rfl, (((Mem.nilrow 3 1 (cI .i64) M)).pick [0] (by decide))⟩
  have h := cfalse hb h
  have K := K.reb (s := 29) rfl hb
  refine X_o K M ?_; clear K
  iterate 2 (refine Y_o M ?_)
  intro a K
  refine wpList_nil (then_n ?_)
  refine X_cond K rfl (fun hb => ?_) (fun hb => ?_)
  · have h := ctrue hb h
    refine wp_seq (X_reg ?_)
    refine X_o K M ?_; clear K
    iterate 2 (refine Y_o M ?_)
    intro a K
    refine wpList_nil (then_n (wp_ret (then_r ?_)))
    cases h
    exact ret3 K rfl (res_tmp K rfl) (res_tmp K rfl) (res_tmp K rfl) ⟨_, rfl, _, _, rfl, (((Mem.nilrow 3 1 (cI .i64) M)).pick [0] (by decide))⟩
  have h := cfalse hb h
  refine wp_skip (then_n (wp_seq (wp_seq (X_reg ?_))))
  refine X_o K M ?_; clear K; intro a K
  obtain ⟨r3, h_r3, h⟩ := obind h
  refine X_a K (ac_call (vs := [.string (bs o)]) (cap := []) rfl fok32 K rfl rfl (W_bits_Bytes N o _  r3 h_r3)) ?_
  have M0 := M; clear K M; rintro _ a w ⟨rfl, M⟩ K
  replace M := M0.call M; clear M0
  refine X_o K M ?_; clear K
  iterate 4 (refine Y_o M ?_)
  intro a K
  refine wpList_nil (then_n (wp_seq (X_reg ?_)))
  refine X_o K M ?_; clear K
  refine Y_o M ?_; intro a K
  refine wpList_nil (then_n ?_)
  refine X_cond K rfl (fun hb => ?_) (fun hb => ?_)
  · have h := ctrue hb h
    refine wp_seq (X_reg ?_)
    refine X_o K M ?_; clear K
    iterate 2 (refine Y_o M ?_)
    intro a K
    refine wpList_nil (then_n (wp_ret (then_r ?_)))
    cases h
    exact ret3 K rfl (res_tmp K rfl) (res_tmp K rfl) (res_tmp K rfl) ⟨_, rfl, _, _, rfl, (((Mem.nilrow 3 1 (cI .i64) M)).pick [0] (by decide))⟩
  have h := cfalse hb h
  refine wp_skip (then_n (wp_seq (X_reg ?_)))
  refine X_o K M ?_; clear K; intro a K
  refine X_inl (vs := [.slice A r2.1.length c]) (cap := []) K (want_no rfl) rfl rfl rfl fok33 rfl rfl ?_; clear K
  refine X_enter Tryd.func33 rfl Tryd.ntmps33 rfl ?_
  intro a K
  have K : Kn a 44 [(0, .slice A r2.1.length c)] := K
  refine wp_seq (X_reg ?_)
  refine X_o K M ?_; clear K; intro a K
  refine wpList_nil (then_n (wp_seq (X_reg ?_)))
  refine X_a K (ac_makeMap rfl 9 3 M) ?_
  clear K M; rintro _ a w ⟨gm, rfl, M⟩ K
  refine X_o K M ?_; clear K; intro a K
  refine wpList_nil (then_n (wp_seq (wp_seq (X_reg ?_))))
  refine X_o K M ?_; clear K
  refine Y_r (fun _ K => rd_len rfl un31 K rfl) M ?_
  refine Y_o M ?_; intro a K
  refine wpList_nil (then_n (wp_block ?_))
  refine X_lp (id := 0) (Rel := fun (⟨m, i⟩ : List (List UInt8 × Int) × Int) a w => Kn a 44 [(3, .map (some gm)), (10, .slice A r2.1.length c), (11, I (r2.1.length : Int)), (12, I i)] ∧ Mem w0.heap.size w0 w [.smp Tryd.prog 9 3 gm m, .row 9 1 A r2.1.length c (cS.all r2.1)]) h (fun _ _ => rfl) ⟨K.pick [3,10,11,12], M.pick [0,1] (by decide)⟩ ?_ ?_
  · clear K M h
    rintro ⟨m10, i5⟩ a w ⟨K, M⟩ h
    try dsimp only at h
    refine inb_e ?_
    refine then_n (wp_seq (X_reg ?_))
    refine X_o K M ?_; clear K
    refine Y_o M ?_; intro a K
    refine wpList_nil (then_n (wp_ret ?_))
    refine ret1 K rfl (res_tmp K rfl) ⟨_, rfl, ?_⟩; clear K; intro a K
    refine X_o K M ?_; clear K; intro a K
    refine wpList_nil (then_n (wp_seq (X_reg ?_)))
    refine X_o K M ?_; clear K; intro a K
    refine wpList_nil (then_n (wp_seq (wp_block ?_)))
    replace M := Mem.nilrow 3 1 (cI .i64) M
    refine X_lp (id := 0) (Rel := fun (⟨l3, o2⟩ : List Int × List UInt8) a w => ∃ (A3 : Option Addr) (c3 : Nat), Kn a 79 [(1, .string (bs o2)), (2, I p2), (13, .map (some gm)), (14, .slice A3 l3.length c3)] ∧ Mem w0.heap.size w0 w [.row 3 1 A3 l3.length c3 ((cI .i64).all l3), .smp Tryd.prog 9 3 gm m10]) h (fun _ _ => rfl) ⟨none, 0, K.pick [1,2,13,14], M.pick [0,1] (by decide)⟩ ?_ ?_
    · clear K M h
      rintro ⟨l6, o3⟩ a w ⟨A6, c6, K, M⟩ h
      try dsimp only at h
      refine inb_e ?_
      refine then_n (wp_seq (X_reg ?_))
      refine X_o K M ?_; clear K
      iterate 4 (refine Y_o M ?_)
      intro a K
      refine wpList_nil (then_n (wp_ret ?_))
      cases h
      exact ret3 K rfl (res_tmp K rfl) (res_tmp K rfl) (res_tmp K rfl) ⟨_, rfl, _, _, rfl, ((M).pick [0] (by decide))⟩
    clear K M h
    rintro kk fuel ⟨l3, o2⟩ a w hk3 ⟨A3, c3, K, M⟩ h
    unfold D_code_Read_l3 at h
    refine wp_seq (wp_seq (X_reg ?_))
    refine X_o K M ?_; clear K
    refine Y_r (fun _ K => rd_len rfl un22 K rfl) M ?_
    iterate 2 (refine Y_o M ?_)
    intro a K
    refine wpList_nil (then_n ?_)
    refine X_cond K rfl (fun hb => ?_) (fun hb => ?_)
    · have h := ctrue hb h
      refine wp_skip (then_n (wp_block (wp_seq (X_reg ?_))))
      refine X_o K M ?_; clear K
      refine Y_o M ?_; intro a K
      refine wpList_nil (then_n (wp_seq (wp_block ?_)))
      refine X_lp (id := 2) (Rel := fun (⟨i10, i11⟩ : Int × Int) a w => Kn a 79 [(1, .string (bs o2)), (2, I p2), (13, .map (some gm)), (14, .slice A3 l3.length c3), (15, I i10), (16, I i11)] ∧ Mem w0.heap.size w0 w [.row 3 1 A3 l3.length c3 ((cI .i64).all l3), .smp Tryd.prog 9 3 gm m10]) h (fun _ _ => rfl) ⟨K.pick [1,2,13,14,15,16], M.pick [0,1] (by decide)⟩ ?_ ?_
      · clear K M h
        rintro ⟨i12, i13⟩ a w ⟨K, M⟩ h
        try dsimp only at h
        refine inb_e ?_
        refine then_n (wp_seq (X_reg ?_))
        refine X_o K M ?_; clear K
        refine Y_o M ?_; intro a K
        refine X_a K (ac_bslice rfl sl22 z3 K (vs := [(0, I i13)]) (cs := [I i13]) rfl (by kernel_rfl) rfl rfl M) ?_
        have M0 := M; clear K M; rintro _ a w ⟨gs3, rfl, M⟩ K
        replace M := M.asRow 0 rfl (cI .i64) ([i13] : List Int) (n := 1) rfl rfl rfl
        clear M0
        obtain ⟨l5, h_l5, h⟩ := obind h
        refine X_a K (ac_app (C := (cI .i64)) (xs := l3) (ys := ([i13] : List Int)) rfl sl22 rfl z3 rfl rfl K rfl rfl 1 M rfl ((inR (C := (cI .i64)) 0 rfl rfl) _ M) h_l5) ?_
        clear K M; rintro _ a w ⟨A5, c5, rfl, M⟩ K
        refine X_o K M ?_; clear K; intro a K
        refine wpList_nil (then_n (X_reg ?_))
        refine X_o K M ?_; clear K
        refine Y_o M ?_
        obtain ⟨s13, h_s13, h⟩ := obind h
        refine Y_r (fun _ K => rd_sliceS (k := .i64) (k' := .i64) rfl st9 K rfl rfl rfl h_s13) M ?_
        refine Y_o M ?_; intro a K
        refine wpList_nil (inb_n ?_)
        exact then_n ⟨(l5, s13), ⟨A5, c5, K.pick [1,2,13,14], M.pick [1,2] (by decide)⟩, h⟩
      clear K M h
      rintro kk fuel ⟨i10, i11⟩ a w hk4 ⟨K, M⟩ h
      unfold D_code_Read_l4 at h
      refine wp_seq (wp_seq (X_reg ?_))
      refine X_o K M ?_; clear K
      refine Y_o M ?_; intro a K
      refine wpList_nil (then_n ?_)
      refine X_cond K rfl (fun hb => ?_) (fun hb => ?_)
      · have h := ctrue hb h
        refine wp_skip (then_n (wp_block (wp_seq (X_reg ?_))))
        refine X_o K M ?_; clear K
        iterate 2 (refine Y_o M ?_)
        obtain ⟨s12, h_s12, h⟩ := obind h
        refine Y_r (fun _ K => rd_sliceS (k := .i64) (k' := .i64) rfl st9 K rfl rfl rfl h_s12) M ?_
        obtain ⟨q7, h_q7, h⟩ := obind h
        refine Y_r (fun _ K => rd_look rfl mp64 st9 ik3 zi3 K rfl rfl (inS 1 rfl) h_q7) M ?_
        iterate 5 (refine Y_o M ?_)
        intro a K
        refine wpList_nil (then_n (wp_block (wp_seq (X_reg ?_))))
        refine X_o K M ?_; clear K
        iterate 2 (refine Y_o M ?_)
        intro a K
        refine wpList_nil (then_n ?_)
        refine X_cond K rfl (fun hb => ?_) (fun hb => ?_)
        · have h := ctrue hb h
          refine wp_seq (X_reg ?_)
          refine X_o K M ?_; clear K
          iterate 2 (refine Y_o M ?_)
          intro a K
          refine wpList_nil (then_n (wp_ret (inb_r (inb_r (then_r (inb_r (then_r (inb_r (then_r (inb_r (then_r ?_)))))))))))
          cases h
          exact ret3 K rfl (res_tmp K rfl) (res_tmp K rfl) (res_tmp K rfl) ⟨_, rfl, _, _, rfl, (((Mem.nilrow 3 1 (cI .i64) M)).pick [0] (by decide))⟩
        have h := cfalse hb h
        refine wp_seq (X_reg ?_)
        refine X_o K M ?_; clear K
        iterate 2 (refine Y_o M ?_)
        intro a K
        refine wpList_nil (then_n ?_)
        refine X_cond K rfl (fun hb => ?_) (fun hb => ?_)
        · have h := ctrue hb h
          refine X_reg ?_
          refine X_o K M ?_; clear K
          refine Y_o M ?_; intro a K
          refine wpList_nil (inb_n (inb_n ?_))
          exact then_n ⟨(i10, q7.1), ⟨K.pick [1,2,13,14,15,16], M.pick [0,1] (by decide)⟩, h⟩
        have h := cfalse hb h
        refine wp_seq (X_reg ?_)
        refine X_o K M ?_; clear K
        refine Y_o M ?_
        refine Y_r (fun _ K => rd_lenT rfl st9 K rfl) M ?_
        iterate 2 (refine Y_o M ?_)
        intro a K
        refine wpList_nil (then_n ?_)
        refine X_cond K rfl (fun hb => ?_) (fun hb => ?_)
        · have h := ctrue hb h
          refine wp_seq (X_reg ?_)
          refine X_o K M ?_; clear K
          iterate 2 (refine Y_o M ?_)
          intro a K
          refine wpList_nil (then_n (wp_ret (inb_r (inb_r (then_r (inb_r (then_r (inb_r (then_r (inb_r (then_r ?_)))))))))))
          cases h
          exact ret3 K rfl (res_tmp K rfl) (res_tmp K rfl) (res_tmp K rfl) ⟨_, rfl, _, _, rfl, (((Mem.nilrow 3 1 (cI .i64) M)).pick [0] (by decide))⟩
        have h := cfalse hb h
        refine X_reg ?_
        refine X_o K M ?_; clear K
        refine Y_o M ?_
        obtain ⟨x5, hx, h⟩ := olet h
        refine Y_r (fun _ K => rdi hx (rd_assign rfl K rfl)) M ?_; intro a K
        refine wpList_nil (inb_n (inb_n ?_))
        exact then_n ⟨(x5, i11), ⟨K.pick [1,2,13,14,15,16], M.pick [0,1] (by decide)⟩, h⟩
      have h := cfalse hb h
      refine wp_exit ?_
      refine then_e ?_
      exact then_e (hk4 (i10, i11) _ _ ⟨K.pick [1,2,13,14,15,16], M.pick [0,1] (by decide)⟩ h)
    have h := cfalse hb h
    refine wp_exit ?_
    refine then_e ?_
    exact then_e (hk3 (l3, o2) _ _ ⟨A3, c3, K.pick [1,2,13,14], M.pick [0,1] (by decide)⟩ h)
  clear K M h
  rintro kk fuel ⟨m, i⟩ a w hk1 ⟨K, M⟩ h
  unfold D_code_Read_l1 at h
  refine wp_seq (X_reg ?_)
  refine X_o K M ?_; clear K; intro a K
  refine wpList_nil (then_n (wp_seq ?_))
  refine X_cond K rfl (fun hb => ?_) (fun hb => ?_)
  · have h := ctrue hb h
    refine wp_skip (then_n (wp_seq (wp_block (wp_seq (X_reg ?_)))))
    refine X_o K M ?_; clear K
    obtain ⟨e2, h_e2, h⟩ := obind h
    refine Y_r (fun _ K => rd_ix rfl sl31 K rfl rfl (inR (C := cS) 1 rfl rfl) h_e2) M ?_
    refine Y_r (fun _ K => rd_elC rfl sc9 K rfl rfl (inR (C := cS) 1 rfl rfl) h_e2 rfl) M ?_
    iterate 2 (refine Y_o M ?_)
    intro a K
    refine wpList_nil (then_n (wp_seq (wp_seq (X_reg ?_))))
    refine X_o K M ?_; clear K
    refine Y_r (fun _ K => rd_lenT rfl st9 K rfl) M ?_
    refine Y_o M ?_; intro a K
    refine wpList_nil (then_n (wp_block ?_))
    refine X_lp (id := 2) (Rel := fun (⟨m5, i3⟩ : List (List UInt8 × Int) × Int) a w => Kn a 44 [(3, .map (some gm)), (10, .slice A r2.1.length c), (11, I (r2.1.length : Int)), (12, I i), (4, I i), (5, .string (bs e2)), (18, I (e2.length : Int)), (19, I i3)] ∧ Mem w0.heap.size w0 w [.smp Tryd.prog 9 3 gm m5, .row 9 1 A r2.1.length c (cS.all r2.1)]) h (fun _ _ => rfl) ⟨K.pick [3,10,11,12,4,5,18,19], M.pick [0,1] (by decide)⟩ ?_ ?_
    · clear K M h
      rintro ⟨m8, i4⟩ a w ⟨K, M⟩ h
      try dsimp only at h
      refine inb_e ?_
      refine then_n (wp_seq (X_reg ?_))
      refine X_o K M ?_; clear K
      refine Y_r (fun _ K => rd_neqS rfl K rfl rfl) M ?_; intro a K
      refine wpList_nil (then_n ?_)
      refine X_cond K rfl (fun hb => ?_) (fun hb => ?_)
      · have h := ctrue hb h
        refine X_reg ?_
        refine X_o K M ?_; clear K
        iterate 2 (refine Y_o M ?_)
        intro a K
        obtain ⟨m9, h_m9, h⟩ := obind h
        refine X_b K (ac_mapSet rfl mp64 st9 ik3 K rfl rfl rfl 0 M rfl h_m9) ?_
        clear K M; rintro _ a w M K
        refine wpList_nil (inb_n (then_n (X_reg ?_)))
        refine X_o K M ?_; clear K
        refine Y_o M ?_; intro a K
        refine wpList_nil ?_
        exact then_n ⟨(m9, IntKind.i64.wrap (i + 1)), ⟨K.pick [3,10,11,12], M.pick [0,1] (by decide)⟩, h⟩
      have h := cfalse hb h
      refine wp_skip (inb_n (then_n (X_reg ?_)))
      refine X_o K M ?_; clear K
      refine Y_o M ?_; intro a K
      refine wpList_nil ?_
      exact then_n ⟨(m8, IntKind.i64.wrap (i + 1)), ⟨K.pick [3,10,11,12], M.pick [0,1] (by decide)⟩, h⟩
    clear K M h
    rintro kk fuel ⟨m5, i3⟩ a w hk2 ⟨K, M⟩ h
    unfold D_code_Read_l2 at h
    refine wp_seq (X_reg ?_)
    refine X_o K M ?_; clear K; intro a K
    refine wpList_nil (then_n (wp_seq ?_))
    refine X_cond K rfl (fun hb => ?_) (fun hb => ?_)
    · have h := ctrue hb h
      refine wp_skip (then_n (wp_seq (wp_block (wp_seq (X_reg ?_)))))
      refine X_o K M ?_; clear K
      refine Y_o M ?_; intro a K
      refine wpList_nil (then_n (wp_seq (X_reg ?_)))
      refine X_o K M ?_; clear K
      iterate 2 (refine Y_o M ?_)
      obtain ⟨s5, h_s5, h⟩ := obind h
      refine Y_r (fun _ K => rd_sliceS (k := .i64) (k' := .i64) rfl st9 K rfl rfl rfl h_s5) M ?_
      obtain ⟨q3, h_q3, h⟩ := obind h
      refine Y_r (fun _ K => rd_look rfl mp64 st9 ik3 zi3 K rfl rfl (inS 0 rfl) h_q3) M ?_
      iterate 5 (refine Y_o M ?_)
      intro a K
      refine wpList_nil (then_n (wp_seq (X_reg ?_)))
      refine X_o K M ?_; clear K
      refine Y_o M ?_; intro a K
      refine wpList_nil (then_n ?_)
      refine X_cond K rfl (fun hb => ?_) (fun hb => ?_)
      · have h := ctrue hb h
        refine X_reg ?_
        refine X_o K M ?_; clear K
        iterate 2 (refine Y_o M ?_)
        obtain ⟨s6, h_s6, h⟩ := obind h
        refine Y_r (fun _ K => rd_sliceS (k := .i64) (k' := .i64) rfl st9 K rfl rfl rfl h_s6) M ?_; intro a K
        obtain ⟨m7, h_m7, h⟩ := obind h
        refine X_b K (ac_mapSet rfl mp64 st9 ik3 K rfl rfl rfl 0 M rfl h_m7) ?_
        clear K M; rintro _ a w M K
        refine wpList_nil (inb_n (then_n (X_reg ?_)))
        refine X_o K M ?_; clear K
        refine Y_o M ?_; intro a K
        refine wpList_nil ?_
        exact then_n ⟨(m7, IntKind.i64.wrap (i3 + 1)), ⟨K.pick [3,10,11,12,4,5,18,19], M.pick [0,1] (by decide)⟩, h⟩
      have h := cfalse hb h
      refine wp_skip (inb_n (then_n (X_reg ?_)))
      refine X_o K M ?_; clear K
      refine Y_o M ?_; intro a K
      refine wpList_nil ?_
      exact then_n ⟨(m5, IntKind.i64.wrap (i3 + 1)), ⟨K.pick [3,10,11,12,4,5,18,19], M.pick [0,1] (by decide)⟩, h⟩
    have h := cfalse hb h
    refine wp_exit ?_
    refine then_e ?_
    exact then_e (hk2 (m5, i3) _ _ ⟨K.pick [3,10,11,12,4,5,18,19], M.pick [0,1] (by decide)⟩ h)
  have h := cfalse hb h
  refine wp_exit ?_
  refine then_e ?_
  exact then_e (hk1 (m, i) _ _ ⟨K.pick [3,10,11,12], M.pick [0,1] (by decide)⟩ h)
end Go.Proofs.YtpmnfhifmmfglacDoor

namespace Go.Proofs.YtpmnfhifmmfglacDoor
open Go.RowKit
set_option maxRecDepth 100000 in
set_option maxHeartbeats 4000000 in
theorem W_darkslidelaw_choose (N : Nat) (c : Int) (n : Int) (w0 : World)  (r : Int) (h : D_darkslidelaw_choose N c n = some r) :
    Calls Tryd.prog 16 #[I c, I n] w0 fun e w' => ∃ v, e = .returned v ∧ v = I r ∧ Mem w0.heap.size w0 w' [] := by
  refine X_enter Tryd.func16 rfl Tryd.ntmps16 rfl ?_
  intro a K
  have M := Mem.start w0
  have K : Kn a 13 [(0, I c), (1, I n)] := K
  unfold D_darkslidelaw_choose at h
  refine wp_seq (X_reg ?_)
  refine X_o K M ?_; clear K; intro a K
  refine wpList_nil (then_n (wp_seq (wp_seq (X_reg ?_))))
  refine X_o K M ?_; clear K
  refine Y_o M ?_; intro a K
  refine wpList_nil (then_n ?_)
  refine X_cond K rfl (fun hb => ?_) (fun hb => ?_)
  · have h := ctrue hb h
    refine X_reg ?_
    refine X_o K M ?_; clear K
    refine Y_o M ?_
    refine Y_r (fun _ K => rd_neg rfl K rfl) M ?_
    obtain ⟨c2, hx, h⟩ := olet h
    refine Y_r (fun _ K => rdi hx (rd_assign rfl K rfl)) M ?_; intro a K
    refine wpList_nil (then_n (wp_seq (X_reg ?_)))
    refine X_o K M ?_; clear K
    refine Y_o M ?_; intro a K
    obtain ⟨_, h0, h⟩ := obind h
    have h0 := nz_spec h0
    refine X_r K (rd_rem rfl K rfl rfl h0) M ?_; clear K
    refine Y_o M ?_; intro a K
    refine wpList_nil (then_n (wp_ret ?_))
    cases h
    exact ret1 K rfl (res_tmp K rfl) ⟨_, rfl, rfl, ((M).pick [] (by decide))⟩
  have h := cfalse hb h
  refine wp_skip (then_n (wp_seq (X_reg ?_)))
  refine X_o K M ?_; clear K
  refine Y_o M ?_; intro a K
  obtain ⟨_, h0, h⟩ := obind h
  have h0 := nz_spec h0
  refine X_r K (rd_rem rfl K rfl rfl h0) M ?_; clear K
  refine Y_o M ?_; intro a K
  refine wpList_nil (then_n (wp_ret ?_))
  cases h
  exact ret1 K rfl (res_tmp K rfl) ⟨_, rfl, rfl, ((M).pick [] (by decide))⟩
end Go.Proofs.YtpmnfhifmmfglacDoor

namespace Go.Proofs.YtpmnfhifmmfglacDoor
open Go.RowKit
set_option maxRecDepth 100000 in
set_option maxHeartbeats 4000000 in
theorem W_darkslidelaw_lens (N : Nat)  (w0 : World)  (r : List Int) (h : D_darkslidelaw_lens N  = some r) :
    Calls Tryd.prog 36 #[] w0 fun e w' => ∃ v, e = .returned v ∧ ∃ A0 c0, v = .slice A0 r.length c0 ∧ Mem w0.heap.size w0 w' [.row 3 1 A0 r.length c0 ((cI .i64).all r)] := by
  refine X_enter Tryd.func36 rfl Tryd.ntmps36 rfl ?_
  intro a K
  have M := Mem.start w0
  have K : Kn a 2 [] := K
  unfold D_darkslidelaw_lens at h
  refine wp_seq (X_reg ?_)
  refine X_o K M ?_; clear K; intro a K
  refine wpList_nil (then_n (wp_seq (X_reg ?_)))
  refine X_a K (ac_bslice rfl sl22 z3 K (vs := [(0, I 1), (1, I 2), (2, I 2)]) (cs := [I 1, I 2, I 2]) rfl (by kernel_rfl) rfl rfl M) ?_
  have M0 := M; clear K M; rintro _ a w ⟨gs, rfl, M⟩ K
  replace M := M.asRow 0 rfl (cI .i64) ([1, 2, 2] : List Int) (n := 3) rfl rfl rfl
  clear M0
  refine X_o K M ?_; clear K; intro a K
  refine wpList_nil (then_n (wp_ret ?_))
  cases h
  exact ret1 K rfl (res_tmp K rfl) ⟨_, rfl, _, _, rfl, ((M).pick [0] (by decide))⟩
end Go.Proofs.YtpmnfhifmmfglacDoor

namespace Go.Proofs.YtpmnfhifmmfglacDoor
open Go.RowKit
set_option maxRecDepth 100000 in
set_option maxHeartbeats 4000000 in
theorem W_darkslideref_SameInts (N : Nat) (a2 : List Int) (A_a2 : Option Addr) (c_a2 : Nat) (b : List Int) (A_b : Option Addr) (c_b : Nat) (w0 : World) (R_a2 : SL w0 (cI .i64) A_a2 a2) (C_a2 : a2.length ≤ c_a2) (R_b : SL w0 (cI .i64) A_b b) (C_b : b.length ≤ c_b) (r : Bool) (h : D_darkslideref_SameInts N a2 b = some r) :
    Calls Tryd.prog 14 #[.slice A_a2 a2.length c_a2, .slice A_b b.length c_b] w0 fun e w' => ∃ v, e = .returned v ∧ v = .bool r ∧ Mem w0.heap.size w0 w' [] := by
  refine X_enter Tryd.func14 rfl Tryd.ntmps14 rfl ?_
  intro a K
  have M := Mem.start w0
  have K : Kn a 26 [(0, .slice A_a2 a2.length c_a2), (1, .slice A_b b.length c_b)] := K
  unfold D_darkslideref_SameInts at h
  refine wp_seq (X_reg ?_)
  refine X_o K M ?_; clear K; intro a K
  refine wpList_nil (then_n (wp_seq (wp_seq (X_reg ?_))))
  refine X_o K M ?_; clear K
  refine Y_r (fun _ K => rd_len rfl un22 K rfl) M ?_
  refine Y_o M ?_
  refine Y_r (fun _ K => rd_len rfl un22 K rfl) M ?_
  refine Y_o M ?_; intro a K
  refine wpList_nil (then_n ?_)
  refine X_cond K rfl (fun hb => ?_) (fun hb => ?_)
  · have h := ctrue hb h
    refine wp_seq (X_reg ?_)
    refine X_o K M ?_; clear K; intro a K
    refine wpList_nil (then_n (wp_ret (then_r ?_)))
    cases h
    exact ret1 K rfl (res_tmp K rfl) ⟨_, rfl, rfl, ((M).pick [] (by decide))⟩
  have h := cfalse hb h
  refine wp_skip (then_n (wp_seq (wp_seq (X_reg ?_))))
  refine X_o K M ?_; clear K; intro a K
  refine wpList_nil (then_n (wp_block ?_))
  refine X_lp (id := 0) (Rel := fun (i : Int) a w => Kn a 26 [(0, .slice A_a2 a2.length c_a2), (1, .slice A_b b.length c_b), (5, I i)] ∧ Mem w0.heap.size w0 w []) h (fun _ _ => rfl) ⟨K.pick [0,1,5], M.pick [] (by decide)⟩ ?_ ?_
  · clear K M h
    rintro i4 a w ⟨K, M⟩ h
    try dsimp only at h
    refine inb_e ?_
    refine then_n (wp_seq (X_reg ?_))
    refine X_o K M ?_; clear K; intro a K
    refine wpList_nil (then_n (wp_ret ?_))
    cases h
    exact ret1 K rfl (res_tmp K rfl) ⟨_, rfl, rfl, ((M).pick [] (by decide))⟩
  clear K M h
  rintro kk fuel i a w hk1 ⟨K, M⟩ h
  unfold D_darkslideref_SameInts_l1 at h
  refine wp_seq (wp_seq (X_reg ?_))
  refine X_o K M ?_; clear K
  refine Y_o M ?_
  refine Y_r (fun _ K => rd_len rfl un22 K rfl) M ?_
  refine Y_o M ?_; intro a K
  refine wpList_nil (then_n ?_)
  refine X_cond K rfl (fun hb => ?_) (fun hb => ?_)
  · have h := ctrue hb h
    refine wp_skip (then_n (wp_seq (wp_block (wp_seq ?_))))
    refine wp_region_tl (fun w => Mem _ _ w _) [0,0,0,0,0,0,0,0,0] (by kernel_rfl) (by kernel_rfl) M.drew ?_
    replace M := M.drew
    refine T_o K ?_; clear K
    refine U_o ?_
    obtain ⟨e3, h_e3, h⟩ := obind h
    refine U_r (fun _ K => rd_ixP rfl sl22 K rfl rfl ((inA R_a2) _ M) h_e3) ?_
    refine U_r (fun _ K => rd_elC rfl sc3 K rfl rfl (inA R_a2) h_e3 rfl) ?_
    iterate 2 (refine U_o ?_)
    obtain ⟨e4, h_e4, h⟩ := obind h
    refine U_r (fun _ K => rd_ixP rfl sl22 K rfl rfl ((inA R_b) _ M) h_e4) ?_
    refine U_r (fun _ K => rd_elC rfl sc3 K rfl rfl (inA R_b) h_e4 rfl) ?_
    refine U_o ?_; intro a K
    refine T_end ?_
    refine then_n ?_
    refine X_cond K rfl (fun hb => ?_) (fun hb => ?_)
    · have h := ctrue hb h
      refine wp_seq (X_reg ?_)
      refine X_o K M ?_; clear K; intro a K
      refine wpList_nil (then_n (wp_ret (inb_r (then_r (then_r (inb_r (then_r ?_)))))))
      cases h
      exact ret1 K rfl (res_tmp K rfl) ⟨_, rfl, rfl, ((M).pick [] (by decide))⟩
    have h := cfalse hb h
    refine wp_skip (inb_n (then_n (X_reg ?_)))
    refine X_o K M ?_; clear K
    refine Y_o M ?_
    obtain ⟨i3, hx, h⟩ := olet h
    refine Y_r (fun _ K => rdi hx (rd_assign rfl K rfl)) M ?_; intro a K
    refine wpList_nil ?_
    exact then_n ⟨i3, ⟨K.pick [0,1,5], M.pick [] (by decide)⟩, h⟩
  have h := cfalse hb h
  refine wp_exit ?_
  refine then_e ?_
  exact then_e (hk1 i _ _ ⟨K.pick [0,1,5], M.pick [] (by decide)⟩ h)
end Go.Proofs.YtpmnfhifmmfglacDoor

namespace Go.Proofs.YtpmnfhifmmfglacDoor
open Go.RowKit
set_option maxRecDepth 100000 in
set_option maxHeartbeats 4000000 in
theorem W_darkslidelaw_codeBegun (N : Nat)  (w0 : World)  (r : Bool) (h : D_darkslidelaw_codeBegun N  = some r) :
    Calls Tryd.prog 13 #[] w0 fun e w' => ∃ v, e = .returned v ∧ v = .bool r ∧ Mem w0.heap.size w0 w' [] := by
  refine X_enter Tryd.func13 rfl Tryd.ntmps13 rfl ?_
  intro a K
  have M := Mem.start w0
  have K : Kn a 76 [] := K
  unfold D_darkslidelaw_codeBegun at h
  refine wp_seq (X_reg ?_)
  refine X_o K M ?_; clear K; intro a K
  refine wpList_nil (then_n (wp_seq (X_reg ?_)))
  obtain ⟨r2, h_r2, h⟩ := obind h
  refine X_a K (ac_call (vs := []) (cap := []) rfl fok36 K rfl rfl (W_darkslidelaw_lens N  _  r2 h_r2)) ?_
  have M0 := M; clear K M; rintro _ a w ⟨A, c, rfl, M⟩ K
  replace M := M0.call M; clear M0
  obtain ⟨r3, h_r3, h⟩ := obind h
  refine X_a K (ac_call (vs := [.slice A r2.length c]) (cap := []) rfl fok15 K rfl rfl (W_code_Words N r2 A c _ ((inR (C := (cI .i64)) 0 rfl rfl) _ M) (M.cap 0 rfl) r3 h_r3)) ?_
  have M0 := M; clear K M; rintro _ a w ⟨A2, c2, rfl, M⟩ K
  replace M := M0.call M; clear M0
  refine X_o K M ?_; clear K
  iterate 4 (refine Y_o M ?_)
  intro a K
  refine wpList_nil (then_n (wp_seq (X_reg ?_)))
  obtain ⟨r4, h_r4, h⟩ := obind h
  refine X_a K (ac_call (vs := []) (cap := []) rfl fok36 K rfl rfl (W_darkslidelaw_lens N  _  r4 h_r4)) ?_
  have M0 := M; clear K M; rintro _ a w ⟨A3, c3, rfl, M⟩ K
  replace M := M0.call M; clear M0
  refine X_a K (ac_bslice rfl sl22 z3 K (vs := [(0, I 2), (1, I 0), (2, I 1)]) (cs := [I 2, I 0, I 1]) rfl (by kernel_rfl) rfl rfl M) ?_
  have M0 := M; clear K M; rintro _ a w ⟨gs, rfl, M⟩ K
  replace M := M.asRow 0 rfl (cI .i64) ([2, 0, 1] : List Int) (n := 3) rfl rfl rfl
  clear M0
  obtain ⟨r5, h_r5, h⟩ := obind h
  refine X_a K (ac_call (vs := [.slice A3 r4.length c3, .slice (some ⟨gs, 0, none⟩) ([2, 0, 1] : List Int).length 3]) (cap := []) rfl fok9 K rfl rfl (W_code_Write N r4 A3 c3 ([2, 0, 1] : List Int) (some ⟨gs, 0, none⟩) 3 _ ((inR (C := (cI .i64)) 1 rfl rfl) _ M) (M.cap 1 rfl) ((inR (C := (cI .i64)) 0 rfl rfl) _ M) (M.cap 0 rfl) r5 h_r5)) ?_
  have M0 := M; clear K M; rintro _ a w ⟨rfl, M⟩ K
  replace M := M0.call M; clear M0
  refine X_o K M ?_; clear K
  iterate 4 (refine Y_o M ?_)
  intro a K
  refine wpList_nil (then_n (wp_seq (X_reg ?_)))
  obtain ⟨r6, h_r6, h⟩ := obind h
  refine X_a K (ac_call (vs := []) (cap := []) rfl fok36 K rfl rfl (W_darkslidelaw_lens N  _  r6 h_r6)) ?_
  have M0 := M; clear K M; rintro _ a w ⟨A4, c4, rfl, M⟩ K
  replace M := M0.call M; clear M0
  obtain ⟨r7, h_r7, h⟩ := obind h
  refine X_a K (ac_call (vs := [.slice A4 r6.length c4, .string (bs ([49, 49, 48, 49, 48] : List UInt8)), I 2]) (cap := []) rfl fok11 K rfl rfl (W_code_Read N r6 A4 c4 ([49, 49, 48, 49, 48] : List UInt8) 2 _ ((inR (C := (cI .i64)) 0 rfl rfl) _ M) (M.cap 0 rfl) r7 h_r7)) ?_
  have M0 := M; clear K M; rintro _ a w ⟨A5, c5, rfl, M⟩ K
  replace M := M0.call M; clear M0
  refine X_o K M ?_; clear K
  iterate 6 (refine Y_o M ?_)
  intro a K
  refine wpList_nil (then_n (wp_seq (X_reg ?_)))
  refine X_o K M ?_; clear K
  iterate 2 (refine Y_o M ?_)
  intro a K
  rcases Bool.eq_false_or_eq_true (decide (r3.2 = 0)) with hb | hb
  · have h := ctrue hb h
    have K := K.reb (s := 27) rfl hb
    refine X_o K M ?_; clear K
    iterate 3 (refine Y_o M ?_)
    intro a K
    rcases Bool.eq_false_or_eq_true (decide (r5.2 = 0)) with hb | hb
    · have h := ctrue hb h
      have K := K.reb (s := 31) rfl hb
      refine X_o K M ?_; clear K
      iterate 3 (refine Y_o M ?_)
      intro a K
      rcases Bool.eq_false_or_eq_true (decide (r7.2.2 = 0)) with hb | hb
      · have h := ctrue hb h
        have K := K.reb (s := 35) rfl hb
        refine X_o K M ?_; clear K
        refine Y_r (fun _ K => rd_len rfl un31 K rfl) M ?_
        iterate 3 (refine Y_o M ?_)
        intro a K
        rcases Bool.eq_false_or_eq_true (decide ((r3.1.length : Int) = 3)) with hb | hb
        · have h := ctrue hb h
          have K := K.reb (s := 40) rfl hb
          refine X_o K M ?_; clear K
          obtain ⟨e, h_e, h⟩ := obind h
          refine Y_r (fun _ K => rd_ix rfl sl31 K rfl rfl (inR (C := cS) 4 rfl rfl) h_e) M ?_
          refine Y_r (fun _ K => rd_elC rfl sc9 K rfl rfl (inR (C := cS) 4 rfl rfl) h_e rfl) M ?_
          refine Y_r (fun _ K => rd_eqlS rfl K rfl rfl) M ?_
          iterate 2 (refine Y_o M ?_)
          intro a K
          rcases Bool.eq_false_or_eq_true (decide (e = ([48] : List UInt8))) with hb | hb
          · have h := ctrue hb h
            have K := K.reb (s := 46) rfl hb
            refine X_o K M ?_; clear K
            obtain ⟨e2, h_e2, h⟩ := obind h
            refine Y_r (fun _ K => rd_ix rfl sl31 K rfl rfl (inR (C := cS) 4 rfl rfl) h_e2) M ?_
            refine Y_r (fun _ K => rd_elC rfl sc9 K rfl rfl (inR (C := cS) 4 rfl rfl) h_e2 rfl) M ?_
            refine Y_r (fun _ K => rd_eqlS rfl K rfl rfl) M ?_
            iterate 2 (refine Y_o M ?_)
            intro a K
            rcases Bool.eq_false_or_eq_true (decide (e2 = ([49, 48] : List UInt8))) with hb | hb
            · have h := ctrue hb h
              have K := K.reb (s := 52) rfl hb
              refine X_o K M ?_; clear K
              obtain ⟨e3, h_e3, h⟩ := obind h
              refine Y_r (fun _ K => rd_ix rfl sl31 K rfl rfl (inR (C := cS) 4 rfl rfl) h_e3) M ?_
              refine Y_r (fun _ K => rd_elC rfl sc9 K rfl rfl (inR (C := cS) 4 rfl rfl) h_e3 rfl) M ?_
              refine Y_r (fun _ K => rd_eqlS rfl K rfl rfl) M ?_
              iterate 2 (refine Y_o M ?_)
              intro a K
              rcases Bool.eq_false_or_eq_true (decide (e3 = ([49, 49] : List UInt8))) with hb | hb
              · have h := ctrue hb h
                have K := K.reb (s := 58) rfl hb
                refine X_o K M ?_; clear K
                refine Y_r (fun _ K => rd_eqlS rfl K rfl rfl) M ?_
                iterate 2 (refine Y_o M ?_)
                intro a K
                rcases Bool.eq_false_or_eq_true (decide (r5.1 = ([49, 49, 48, 49, 48] : List UInt8))) with hb | hb
                · have h := ctrue hb h
                  have K := K.reb (s := 62) rfl hb
                  refine X_o K M ?_; clear K; intro a K
                  refine X_a K (ac_bslice rfl sl22 z3 K (vs := [(0, I 2), (1, I 0)]) (cs := [I 2, I 0]) rfl (by kernel_rfl) rfl rfl M) ?_
                  have M0 := M; clear K M; rintro _ a w ⟨gs2, rfl, M⟩ K
                  replace M := M.asRow 0 rfl (cI .i64) ([2, 0] : List Int) (n := 2) rfl rfl rfl
                  clear M0
                  obtain ⟨r8, h_r8, h⟩ := obind h
                  refine X_a K (ac_call (vs := [.slice A5 r7.1.length c5, .slice (some ⟨gs2, 0, none⟩) ([2, 0] : List Int).length 2]) (cap := []) rfl fok14 K rfl rfl (W_darkslideref_SameInts N r7.1 A5 c5 ([2, 0] : List Int) (some ⟨gs2, 0, none⟩) 2 _ ((inR (C := (cI .i64)) 1 rfl rfl) _ M) (M.cap 1 rfl) ((inR (C := (cI .i64)) 0 rfl rfl) _ M) (M.cap 0 rfl) r8 h_r8)) ?_
                  have M0 := M; clear K M; rintro _ a w ⟨rfl, M⟩ K
                  replace M := M0.call M; clear M0
                  refine X_o K M ?_; clear K
                  refine Y_o M ?_; intro a K
                  rcases Bool.eq_false_or_eq_true (r8) with hb | hb
                  · have h := ctrue hb h
                    have K := K.reb (s := 67) rfl hb
                    refine X_o K M ?_; clear K
                    refine Y_r (fun _ K => rd_eqlS rfl K rfl rfl) M ?_
                    iterate 2 (refine Y_o M ?_)
                    intro a K
                    rcases Bool.eq_false_or_eq_true (decide (r7.2.1 = ([49, 48] : List UInt8))) with hb | hb
                    · have h := ctrue hb h
                      have K := K.reb (s := 71) rfl hb
                      refine X_a K (ac_bslice rfl sl22 z3 K (vs := [(0, I 1), (1, I 1), (2, I 1)]) (cs := [I 1, I 1, I 1]) rfl (by kernel_rfl) rfl rfl M) ?_
                      have M0 := M; clear K M; rintro _ a w ⟨gs3, rfl, M⟩ K
                      replace M := M.asRow 0 rfl (cI .i64) ([1, 1, 1] : List Int) (n := 3) rfl rfl rfl
                      clear M0
                      obtain ⟨r9, h_r9, h⟩ := obind h
                      refine X_a K (ac_call (vs := [.slice (some ⟨gs3, 0, none⟩) ([1, 1, 1] : List Int).length 3]) (cap := []) rfl fok37 K rfl rfl (W_code_Check N ([1, 1, 1] : List Int) (some ⟨gs3, 0, none⟩) 3 _ ((inR (C := (cI .i64)) 0 rfl rfl) _ M) (M.cap 0 rfl) r9 h_r9)) ?_
                      have M0 := M; clear K M; rintro _ a w ⟨rfl, M⟩ K
                      replace M := M0.call M; clear M0
                      refine X_o K M ?_; clear K
                      iterate 2 (refine Y_o M ?_)
                      intro a K
                      refine wpList_nil (then_n (wp_ret ?_))
                      cases h
                      exact ret1 K rfl (res_tmp K rfl) ⟨_, rfl, rfl, ((M).pick [] (by decide))⟩
                    have h := cfalse hb h
                    have K := K.reb (s := 71) rfl hb
                    refine X_o K M ?_; clear K
                    iterate 4 (refine Y_o M ?_)
                    intro a K
                    refine wpList_nil (then_n (wp_ret ?_))
                    cases h
                    exact ret1 K rfl (res_tmp K rfl) ⟨_, rfl, rfl, ((M).pick [] (by decide))⟩
                  have h := cfalse hb h
                  have K := K.reb (s := 67) rfl hb
                  refine X_o K M ?_; clear K
                  iterate 8 (refine Y_o M ?_)
                  intro a K
                  refine wpList_nil (then_n (wp_ret ?_))
                  cases h
                  exact ret1 K rfl (res_tmp K rfl) ⟨_, rfl, rfl, ((M).pick [] (by decide))⟩
                have h := cfalse hb h
                have K := K.reb (s := 62) rfl hb
                refine X_o K M ?_; clear K
                iterate 13 (refine Y_o M ?_)
                intro a K
                refine wpList_nil (then_n (wp_ret ?_))
                cases h
                exact ret1 K rfl (res_tmp K rfl) ⟨_, rfl, rfl, ((M).pick [] (by decide))⟩
              have h := cfalse hb h
              have K := K.reb (s := 58) rfl hb
              refine X_o K M ?_; clear K
              iterate 17 (refine Y_o M ?_)
              intro a K
              refine wpList_nil (then_n (wp_ret ?_))
              cases h
              exact ret1 K rfl (res_tmp K rfl) ⟨_, rfl, rfl, ((M).pick [] (by decide))⟩
            have h := cfalse hb h
            have K := K.reb (s := 52) rfl hb
            refine X_o K M ?_; clear K
            iterate 23 (refine Y_o M ?_)
            intro a K
            refine wpList_nil (then_n (wp_ret ?_))
            cases h
            exact ret1 K rfl (res_tmp K rfl) ⟨_, rfl, rfl, ((M).pick [] (by decide))⟩
          have h := cfalse hb h
          have K := K.reb (s := 46) rfl hb
          refine X_o K M ?_; clear K
          iterate 29 (refine Y_o M ?_)
          intro a K
          refine wpList_nil (then_n (wp_ret ?_))
          cases h
          exact ret1 K rfl (res_tmp K rfl) ⟨_, rfl, rfl, ((M).pick [] (by decide))⟩
        have h := cfalse hb h
        have K := K.reb (s := 40) rfl hb
        refine X_o K M ?_; clear K
        iterate 35 (refine Y_o M ?_)
        intro a K
        refine wpList_nil (then_n (wp_ret ?_))
        cases h
        exact ret1 K rfl (res_tmp K rfl) ⟨_, rfl, rfl, ((M).pick [] (by decide))⟩
      have h := cfalse hb h
      have K := K.reb (s := 35) rfl hb
      refine X_o K M ?_; clear K
      iterate 40 (refine Y_o M ?_)
      intro a K
      refine wpList_nil (then_n (wp_ret ?_))
      cases h
      exact ret1 K rfl (res_tmp K rfl) ⟨_, rfl, rfl, ((M).pick [] (by decide))⟩
    have h := cfalse hb h
    have K := K.reb (s := 31) rfl hb
    refine X_o K M ?_; clear K
    iterate 44 (refine Y_o M ?_)
    intro a K
    refine wpList_nil (then_n (wp_ret ?_))
    cases h
    exact ret1 K rfl (res_tmp K rfl) ⟨_, rfl, rfl, ((M).pick [] (by decide))⟩
  have h := cfalse hb h
  have K := K.reb (s := 27) rfl hb
  refine X_o K M ?_; clear K
  iterate 48 (refine Y_o M ?_)
  intro a K
  refine wpList_nil (then_n (wp_ret ?_))
  cases h
  exact ret1 K rfl (res_tmp K rfl) ⟨_, rfl, rfl, ((M).pick [] (by decide))⟩
end Go.Proofs.YtpmnfhifmmfglacDoor

namespace Go.Proofs.YtpmnfhifmmfglacDoor
open Go.RowKit
set_option maxRecDepth 100000 in
set_option maxHeartbeats 4000000 in
theorem W_darkslideref_IsRow (N : Nat) (b : List UInt8) (w0 : World)  (r : Bool) (h : D_darkslideref_IsRow N b = some r) :
    Calls Tryd.prog 17 #[.string (bs b)] w0 fun e w' => ∃ v, e = .returned v ∧ v = .bool r ∧ Mem w0.heap.size w0 w' [] := by
  refine X_enter Tryd.func17 rfl Tryd.ntmps17 rfl ?_
  intro a K
  have M := Mem.start w0
  have K : Kn a 20 [(0, .string (bs b))] := K
  unfold D_darkslideref_IsRow at h
  refine wp_seq (X_reg ?_)
  refine X_o K M ?_; clear K; intro a K
  refine wpList_nil (then_n (wp_seq (wp_seq (X_reg ?_))))
  refine X_o K M ?_; clear K; intro a K
  refine wpList_nil (then_n (wp_block ?_))
  refine X_lp (id := 0) (Rel := fun (i : Int) a w => Kn a 20 [(0, .string (bs b)), (3, I i)] ∧ Mem w0.heap.size w0 w []) h (fun _ _ => rfl) ⟨K.pick [0,3], M.pick [] (by decide)⟩ ?_ ?_
  · clear K M h
    rintro i6 a w ⟨K, M⟩ h
    try dsimp only at h
    refine inb_e ?_
    refine then_n (wp_seq (X_reg ?_))
    refine X_o K M ?_; clear K; intro a K
    refine wpList_nil (then_n (wp_ret ?_))
    cases h
    exact ret1 K rfl (res_tmp K rfl) ⟨_, rfl, rfl, ((M).pick [] (by decide))⟩
  clear K M h
  rintro kk fuel i a w hk1 ⟨K, M⟩ h
  unfold D_darkslideref_IsRow_l1 at h
  refine wp_seq (wp_seq (X_reg ?_))
  refine X_o K M ?_; clear K
  refine Y_o M ?_
  refine Y_r (fun _ K => rd_lenT rfl st9 K rfl) M ?_
  refine Y_o M ?_; intro a K
  refine wpList_nil (then_n ?_)
  refine X_cond K rfl (fun hb => ?_) (fun hb => ?_)
  · have h := ctrue hb h
    refine wp_skip (then_n (wp_seq (wp_block (wp_seq (X_reg ?_)))))
    refine X_o K M ?_; clear K
    refine Y_o M ?_
    obtain ⟨b4, h_b4, h⟩ := obind h
    refine Y_r (fun _ K => rd_ixT rfl st9 K rfl rfl h_b4) M ?_
    iterate 2 (refine Y_o M ?_)
    intro a K
    rcases Bool.eq_false_or_eq_true (!decide ((b4.toNat : Int) = 48)) with hb | hb
    · have h := ctrue hb h
      have K := K.reb (s := 14) rfl hb
      refine X_o K M ?_; clear K
      refine Y_o M ?_
      obtain ⟨b5, h_b5, h⟩ := obind h
      refine Y_r (fun _ K => rd_ixT rfl st9 K rfl rfl h_b5) M ?_
      iterate 2 (refine Y_o M ?_)
      intro a K
      refine wpList_nil (then_n ?_)
      refine X_cond K rfl (fun hb => ?_) (fun hb => ?_)
      · have h := ctrue hb h
        refine wp_seq (X_reg ?_)
        refine X_o K M ?_; clear K; intro a K
        refine wpList_nil (then_n (wp_ret (inb_r (then_r (then_r (inb_r (then_r ?_)))))))
        cases h
        exact ret1 K rfl (res_tmp K rfl) ⟨_, rfl, rfl, ((M).pick [] (by decide))⟩
      have h := cfalse hb h
      refine wp_skip (inb_n (then_n (X_reg ?_)))
      refine X_o K M ?_; clear K
      refine Y_o M ?_
      obtain ⟨i4, hx, h⟩ := olet h
      refine Y_r (fun _ K => rdi hx (rd_assign rfl K rfl)) M ?_; intro a K
      refine wpList_nil ?_
      exact then_n ⟨i4, ⟨K.pick [0,3], M.pick [] (by decide)⟩, h⟩
    have h := cfalse hb h
    have K := K.reb (s := 14) rfl hb
    refine X_o K M ?_; clear K
    iterate 4 (refine Y_o M ?_)
    intro a K
    refine wpList_nil (then_n ?_)
    refine X_condF K rfl ?_
    refine wp_skip (inb_n (then_n (X_reg ?_)))
    refine X_o K M ?_; clear K
    refine Y_o M ?_
    obtain ⟨i5, hx, h⟩ := olet h
    refine Y_r (fun _ K => rdi hx (rd_assign rfl K rfl)) M ?_; intro a K
    refine wpList_nil ?_
    exact then_n ⟨i5, ⟨K.pick [0,3], M.pick [] (by decide)⟩, h⟩
  have h := cfalse hb h
  refine wp_exit ?_
  refine then_e ?_
  exact then_e (hk1 i _ _ ⟨K.pick [0,3], M.pick [] (by decide)⟩ h)
end Go.Proofs.YtpmnfhifmmfglacDoor
