/- Texts of the claim RawPlanes, joined and made small by a program. -/
import Derived.ChangeKeysEq
import Derived.Laws.BytesArg
import Derived.Laws.IdiomStrings
import Derived.Laws.Strings2
import Derived.Laws.Strings3
import Derived.Lib.AppendStr
import Derived.Maps.OwnSet
import Derived.Recover
import Derived.Scope
import Derived.Shelf.Strings.Builder1
import Derived.Shelf.Strings.Count
import Derived.Shelf.Strings.Search3
import Derived.Shelf.Strings.SlTrimAscii
import Derived.Test.YtpmnfhifmmfglacGreatDoorChecked
import Derived.Test.YtpmnfhifmmfglacGreatDoorProg
import Derived.WideMake
import Derived.Test.YtpmnfhifmmfglacGreatDoorRawPlanesK4
import Derived.Test.YtpmnfhifmmfglacGreatDoorRawPlanesK5
import Derived.Test.YtpmnfhifmmfglacGreatDoorRawPlanesK7
set_option linter.unusedVariables false
set_option linter.unusedSimpArgs false
set_option linter.unusedSectionVars false
set_option maxRecDepth 100000
set_option maxHeartbeats 8000000
namespace Go.Proofs.YtpmnfhifmmfglacGreatDoor
section
open Go.RowKit
theorem uS (l : List UInt8) : (bs l).size = l.length := by simp [bs, ByteArray.size]
theorem HT (l : List UInt8) : (bs l).toList = l := ByteArray.toList_mk l
theorem Nv (l m : List UInt8) : bs l ++ bs m = bs (l ++ m) := by
 apply ByteArray.ext
 simp [bs, ByteArray.data_append]
section
variable {P : Program} {base : Nat} {W w : World} {L : List mA} {S : World → Prop} {D : List Deferred} {a : Act} {N : Nat} {l : List (Nat × Value)} {o : Oper} {x y ix : Operand} {t t' e : TypeId} {m n p q : Int} {k k' : IntKind}
  {xs ys zs : List UInt8} {A : Option Addr} {c : Nat} {ns : List Int}
theorem iT (ho : o.op = .call { callee := .builtin .len, args := #[x], argTypes := #[t] }) (h : P.underlying t = some .string) (K : Kd D a N l) (hx : kK l x = some (.string (bs xs))) : Rd P S a o (.int .i64 xs.length) := by
 have := QU (P := P) (S := S) ho h K hx;rw [uS] at this;exact this
theorem tI (ho : o.op = .index t x ix) (ht : P.underlying t = some .string) (K : Kd D a N l) (hx : kK l x = some (.string (bs xs))) (hi : kK l ix = some (.int k n)) {b : UInt8} (he : idx xs n = some b) : Rd P S a o (.int .u8 (b.toNat : Int)) :=
 TG ho ht K hx hi he
theorem CV (ho : o.op = .binOp .add t x y t') (K : Kd D a N l) (hx : kK l x = some (.string (bs xs))) (hy : kK l y = some (.string (bs ys))) (hz : F9 xs ys = some zs) : Rd P S a o (.string (bs zs)) := by
 obtain ⟨rfl, h⟩ := MI hz;refine rF ho K hx hy fun w => ?_
 have h1 := uS xs;have h2 := uS ys
 simp [eqGuard, binOp_string_add, Op.stringOp, Nv]
 omega
theorem CW (ho : o.op = .binOp .eql t x y t') (K : Kd D a N l) (hx : kK l x = some (.string (bs xs))) (hy : kK l y = some (.string (bs ys))) : Rd P S a o (.bool (decide (xs = ys))) :=
 rF ho K hx hy fun w => by
  have e : (xs == ys) = decide (xs = ys) := by rw [Bool.eq_iff_iff]; simp
  rw [Sem.run_bind]; simp [eqGuard, binOp_string_eql, HT, e]
theorem yJ (ho : o.op = .binOp .neq t x y t') (K : Kd D a N l) (hx : kK l x = some (.string (bs xs))) (hy : kK l y = some (.string (bs ys))) : Rd P S a o (.bool (!decide (xs = ys))) :=
 rF ho K hx hy fun w => by
  have e : (xs == ys) = decide (xs = ys) := by rw [Bool.eq_iff_iff]; simp
  rw [Sem.run_bind]; simp [eqGuard, binOp_string_neq, HT, e]
theorem sF {b : Nat} (ho : o.op = .convert t t' x) (ht : G5 P t e 1 b = true) (he : P.underlying e = some (.int .u8)) (hd : P.underlying t' = some .string) (K : Kd D a N l) (hx : kK l x = some (.slice A ns.length c)) (hb : ∀ w, S w → SL w (cI .u8) A ns) : Rd P S a o (.string (bs (toB ns))) := fun w hS => by
 obtain ⟨hu, _⟩ := mQ ht;unfold execOp;simp only [ho, K.ev hx]
 have key : (convert t t' (.slice A ns.length c)).run P w = .ok (.string (bs (toB ns))) w := by
  by_cases h0 : 0 < ns.length
  ·obtain ⟨b, off, rfl, hc⟩ := hb w hS h0;refine run_convert_bytes_arg w t e hu he b off ns.length c ns rfl (fun i hi => ?_) t' hd;refine hc i _ ?_;have := tQ.wW (cI .u8) ns i 0 ns[i] (.int .u8 ns[i]) (List.getElem?_eq_getElem hi) rfl;rw [List.getD_eq_getElem?_getD, List.getElem?_eq_getElem hi];have h1 : (cI .u8).size = 1 := rfl;rw [h1, Nat.mul_one, Nat.add_zero] at this;exact this
  ·have hn : ns = [] := List.eq_nil_of_length_eq_zero (by omega);subst hn;cases A with
   | none => exact run_convert_bytes_nil w t e hu he _ _ t' hd
   | some ad =>
    rw [run_convert_bytes_string w t t' e (some ad) _ c hu he hd];exact run_bytesToString w ad 0 c [] (run_loadCells_list (P := P) w ad [] (fun j v hj => by simp at hj))
 simp [key]
theorem EX {b : Nat} (ho : o.op = .convert t t' x) (ht : G5 P t e 1 b = true) (he : P.underlying e = some (.int .u8)) (hd : P.underlying t' = some .string) (K : Kd D a N l) (hx : kK l x = some (.slice A ns.length c)) (M : Mem base W w L) (R : SL w (cI .u8) A ns) :
  Ac P o a w fun v w' => v = .string (bs (toB ns)) ∧ Mem base W w' L :=
 vI (sF (S := fun w' => w' = w) ho ht he hd K hx (fun w' hw => hw ▸ R) w rfl) ⟨rfl, M⟩
theorem jV {lo hi : Option Operand} (ho : o.op = .slice t x lo hi none) (ht : P.underlying t = some .string) (K : Kd D a N l) (hx : kK l x = some (.string (bs xs)))
  (hlo : (match lo with | some z => kK l z = some (.int k p) | none => p = 0)) (hhi : (match hi with | some z => kK l z = some (.int k' q) | none => q = xs.length)) (hy : B5 xs p q = some ys) : Rd P S a o (.string (bs ys)) := fun w _ => by
 obtain ⟨h0, h1, h2, rfl⟩ := DQ hy;have hs : ((bs xs).size : Int) = xs.length := by rw [uS]
 have hex : (bs xs).extract p.toNat q.toNat = bs ((xs.take q.toNat).drop p.toNat) := by
  rw [show bs xs = ByteArray.mk xs.toArray from rfl, ByteArray.extract_mk, List.drop_take]; rfl
 have hS : ∀ a b c, (Instr.sliceAt t (.string (bs xs)) a b c).run P w = (Instr.slice t (.string (bs xs)) a b c).run P w := fun a b c => by rw [run_sliceAt_string w t _ a b c ht]
 unfold execOp;cases lo with
 | none =>
  simp only at hlo; subst hlo;cases hi with
  | none =>
   simp only at hhi; subst hhi;have := run_slice_string_all (P := P) w t (bs xs) ht;rw [uS] at this;rw [Int.toNat_zero, Int.toNat_natCast] at hex;rw [hex] at this;simp only [ho, K.ev hx, Sem.run_bind, Option.map, hS, this]
   simp
  | some z =>
   simp only at hhi;have := run_slice_string_to_if (P := P) w t (bs xs) k' q ht;rw [if_pos ⟨by omega, by omega⟩] at this;rw [Int.toNat_zero] at hex;rw [hex] at this;simp only [ho, K.ev hx, K.ev hhi, Sem.run_bind, Option.map, hS, this]
   simp
 | some z =>
  simp only at hlo;cases hi with
  | none =>
   simp only at hhi; subst hhi;have := run_slice_string_from_if (P := P) w t (bs xs) k p ht;rw [if_pos ⟨by omega, by omega⟩, uS] at this;rw [Int.toNat_natCast] at hex;rw [hex] at this;simp only [ho, K.ev hx, K.ev hlo, Sem.run_bind, Option.map, hS, this]
   simp
  | some z2 =>
   simp only at hhi;have := run_slice_string (P := P) w t (bs xs) k k' p q ht h0 h1 (by omega);rw [hex] at this;simp only [ho, K.ev hx, K.ev hlo, K.ev hhi, Sem.run_bind, Option.map, hS, this]
   simp
theorem EY (s : List UInt8) : Lib.strCells (bs s) = (cI .u8).all (qG s) := by
 show s.map (fun b => Value.int .u8 b.toNat) = _
 induction s with
 | nil => rfl
 | cons x s ih =>
  show _ = (cI .u8).enc (x.toNat : Int) ++ (cI .u8).all (qG s);rw [List.map_cons, ih]; rfl
theorem Ag (s : List UInt8) : (qG s).length = s.length := by simp [qG]
theorem Nw {i : TypeInfo} {v v' : Value} {n : Nat} {vs : List Value} {w' : World} (s : ByteArray) (ht : P.underlying t = some (.slice e)) (hu : P.underlying t' = some .string) (hi : P.info? e = some i) (hz : i.zero = some (.int .u8 0)) (hsize : i.size = 1) (hby : i.bytes = 1)
  (hown : w.ownsRow 0 e 1 v n vs) (hb : n + s.size ≤ 140737488355328) (ty : TypeId) (hr : (Builtin.append_ #[t, t'] ty #[v, .string s]).run P w = .ok v' w') (h0 : v ≠ .slice none 0 0 ∨ 0 < s.size) : v'.ownBlock = v.ownBlock ∨ v'.ownBlock = some w.heap.size := by
 have hxl : vs.length = n := by simpa using hown.1
 rcases hown.2 with ⟨rfl, rfl⟩ | ⟨g, cap, cur, rfl, hbg, hg, hnc, hcm, hcs, htake⟩
 ·have hm : 0 < s.size := by
   rcases h0 with h0 | h0
   ·exact absurd rfl h0
   ·exact h0
  have := run_append_nil_string (P := P) w t t' ty e i (.int .u8 0) ht hu hi hz s (by omega) (by omega) (by rw [hby]; omega);rw [hr] at this
  injection this with h1 _
  right; rw [h1]; rfl
 ·by_cases hroom : n + s.size ≤ cap
  ·have := Lib.run_append_room_string (P := P) w t t' ty e i ht hu hi hsize g n cap cur hg s hroom (by omega);rw [hr] at this
   injection this with h1 _
   left; rw [h1]; rfl
  ·have holds : ∀ j u, vs[j]? = some u → w.cell? ((⟨g, 0, none⟩ : Addr).add j) = some u := hown.cells (g := g) rfl;have := Lib.run_append_grow_string (P := P) w t t' ty e i (.int .u8 0) ht hu hi hz ⟨g, 0, none⟩ n cap vs (by rw [hsize]; simpa using hxl) holds s (by omega) (by omega) (by rw [hby]; exact growslice_fits (by omega) (by omega));rw [hr] at this
   injection this with h1 _
   right; rw [h1]; rfl
theorem D6 {zs : List Int} (ho : o.op = .call { callee := .builtin .append, args := #[x, y], argTypes := #[t, t'] }) (ht : G5 P t e 1 1 = true) (hu : P.underlying t' = some .string) (hz : (P.info? e).bind (·.zero) = some (.int .u8 0)) (K : Kd D a N l)
  (hx : kK l x = some (.slice A ns.length c)) (hy : kK l y = some (.string (bs ys))) (i : Nat) (M : Mem base W w L) (hi : L[i]? = some (.row e 1 A ns.length c ((cI .u8).all ns))) (hlen : app 1 ns (qG ys) = some zs) :
  Ac P o a w fun v w' => ∃ A' c'', v = .slice A' zs.length c'' ∧ Mem base W w' (L.set i (.row e 1 A' zs.length c'' ((cI .u8).all zs))) := by
 obtain ⟨rfl, hbytes⟩ := Jk hlen;rw [Ag] at hbytes;obtain ⟨hsl, inf, rN, hsz, hby⟩ := mQ ht;have hzz : inf.zero = some (.int .u8 0) := by rw [rN] at hz; exact hz
 have hown := M.has i _ hi;have hsize : (bs ys).size = ys.length := uS ys;have hb2 : ns.length + (bs ys).size ≤ 140737488355328 := by rw [hsize]; omega
 obtain ⟨v', w', hr, h2, h3, h4⟩ := Lib.run_append_own_string (P := P) w 0 t t' o.type e inf hsl hu rN hzz hsz hby (.slice A ns.length c) ns.length ((cI .u8).all ns) hown (bs ys) (by simp only [maxLen]; omega) hb2 (Nat.zero_le _);rw [EY, hsize, ← tQ.all_append] at h2
 by_cases h0 : (Value.slice A ns.length c) = .slice none 0 0 ∧ ys = []
 ·obtain ⟨h00, rfl⟩ := h0
  injection h00 with e1 e2 e3
  subst e1 e3;have hns : ns = [] := List.eq_nil_of_length_eq_zero e2;subst hns
  have hr2 : (Builtin.append_ #[t, t'] o.type #[.slice none ([] : List Int).length 0, .string (bs [])]).run P w = .ok (.slice none 0 0) w := by
   have hf := Lib.run_firstCells_string (P := P) w 1 (bs []);have hm : (bs []).size = 0 := rfl;rw [hm] at hf
   simp [Builtin.append_, run_underlying hsl, run_underlying hu, sizeOf, typeInfo, rN, hsz, Builtin.lenOf, hm, hf]
  refine vI (v := .slice none 0 0) (w' := w) ?_ ⟨none, 0, rfl, ?_⟩
  ·unfold execOp;simp only [ho, resolve, invoke, builtin, Sem.run_bind, Sem.run_pure, Result.andThen_ok, List.map_toArray, List.map_cons, List.map_nil, K.ev hx, K.ev hy];rw [hr2]; rfl
  ·have : L.set i (.row e 1 none (([] : List Int) ++ qG []).length 0 ((cI .u8).all ([] ++ qG []))) = L := by
    obtain ⟨hlt, he⟩ := List.getElem?_eq_some_iff.1 hi;exact he ▸ List.set_getElem_self hlt
   rw [this]; exact M
 have hne : (Value.slice A ns.length c) ≠ .slice none 0 0 ∨ 0 < (bs ys).size := by
  by_cases hy0 : ys = []
  ·left; exact fun e => h0 ⟨e, hy0⟩
  ·right; rw [hsize]; exact List.length_pos_iff.2 hy0
 have hpl := Nw (bs ys) hsl hu rN hzz hsz hby hown hb2 o.type hr hne
 have hv' : v' ≠ .slice none 0 0 := fun e => by
  obtain ⟨q1, q2⟩ := h4.1 e;rw [hsize] at q2;exact h0 ⟨q1, List.eq_nil_of_length_eq_zero q2⟩
 rcases h2.2 with ⟨e1, _⟩ | ⟨g, cap, cur, rfl, _⟩
 ·exact absurd e1 hv'
 refine vI (v := .slice (some ⟨g, 0, none⟩) (ns.length + ys.length) cap) (w' := w') ?_ ⟨some ⟨g, 0, none⟩, cap, by rw [List.length_append, Ag], ?_⟩
 ·unfold execOp;simp only [ho, resolve, invoke, builtin, Sem.run_bind, Sem.run_pure, Result.andThen_ok, List.map_toArray, List.map_cons, List.map_nil, K.ev hx, K.ev hy];rw [hr]; rfl
 ·have h3' : w.grownBy w' (A.map (·.block)) := by
   cases A with
   | none => exact h3
   | some ad => exact h3
  rw [List.length_append, Ag];refine M.grown i hi h3' h2 ?_
  rcases hpl with hpl | hpl
  ·left
   cases A with
   | none => simp [Value.ownBlock] at hpl
   | some ad => simpa [Value.ownBlock] using hpl.symm
  ·right
   simp [Value.ownBlock] at hpl
   omega
end
end
section
open Go.RowKit Go.WideMaps
section
variable {P : Program} {base : Nat} {W w : World} {L : List mA} {S : World → Prop} {D : List Deferred} {a : Act} {N : Nat} {l : List (Nat × Value)} {o : Oper} {x y z : Operand} {t k e T : TypeId} {g n c : Nat} {A : Option Addr}
  {m m' : List (List UInt8 × Int)} {s : List UInt8} {r : Int × Bool} {v : Int}
theorem Mem.swap {e e' : mA} (M : Mem base W w L) (i : Nat) (hi : L[i]? = some e) (h : mA.holds w e') (hf : e'.foot = e.foot) : Mem base W w (L.set i e') :=
 M.Of i hi (Below.refl _ _) h (fun _ _ _ => rfl) (fun g hg => .inl (hf ▸ hg)) M.ME
theorem Mem.SD (e : TypeId) (M : Mem base W w (.blk g T [.pointer none, .slice none 0 0] :: L)) : Mem base W w (.row e 1 none ([] : List UInt8).length 0 ((cI .u8).all (qG ([] : List UInt8))) :: .Ex g T none ([] : List UInt8).length 0 :: L) :=
 Mem.bH e 1 (cI .u8) (M.swap 0 rfl (show mA.holds w (.Ex g T none 0 0) from ⟨none, .inl rfl, M.has 0 _ rfl⟩) rfl)
theorem Mem.WV (M : Mem base W w L) (i : Nat) (hi : L[i]? = some (.blk g T [.pointer (some ⟨g, 0, none⟩), .slice A n c])) : Mem base W w (L.set i (.Ex g T A n c)) :=
 M.swap i hi (show mA.holds w (.Ex g T A n c) from ⟨_, .inr rfl, M.has i _ hi⟩) rfl
theorem Mem.builder {b : List UInt8} (M : Mem base W w (.Ex g T A b.length c :: .row e 1 A b.length c ((cI .u8).all (qG b)) :: L)) : Lib.IsBuilder T e base g (Lib.byteCells b) w := by
 obtain ⟨p, hp, hb⟩ := M.has 0 _ rfl;have hrow : w.ownsRow 0 e 1 (.slice A b.length c) b.length ((cI .u8).all (qG b)) := M.has 1 _ rfl;rw [← EY] at hrow;have hup := M.up 0 _ g rfl rfl
 have hat : Lib.BuilderAt T e base g (.pointer p) (Lib.byteCells b) w := by
  refine ⟨hup, .slice A b.length c, hb, ?_, ?_⟩
  ·rw [Lib.byteCells_length];obtain ⟨h1, h2⟩ := hrow;refine ⟨h1, ?_⟩
   rcases h2 with h2 | ⟨g', cap, cur, q1, q2, q3⟩
   ·exact .inl h2
   ·refine .inr ⟨g', cap, cur, q1, ?_, q3⟩
    injection q1 with q1 _ _
    exact M.up 1 _ g' rfl (by simp [mA.foot, q1])
  ·intro h;cases A with
   | none => simp [Value.ownBlock] at h
   | some ad =>
    have h' : ad.block = g := by simpa [Value.ownBlock] using h
    have := M.one 0 1 _ _ g rfl rfl rfl (by simp [mA.foot, h'])
    omega
 rcases hp with rfl | rfl
 ·exact .inl hat
 ·exact .inr hat
theorem hZ {α : Type} {C : tQ α} {xs : List α} {el : α} {b s' : Nat} {i : Int} {kk : IntKind} {w' : World} (ho : o.op = .indexAddr t x y) (ht : G5 P t e s' b = true) (K : Kd D a N l) (hx : kK l x = some (.slice A xs.length c)) (hi : kK l y = some (.int kk i)) (hb : SL w' C A xs) (he : idx xs i = some el) : Rd P S a o (.pointer (some ((Og A).add (i.toNat * s')))) := fun w hS => by
 obtain ⟨hu, inf, rN, hs, _⟩ := mQ ht;obtain ⟨h0, hlt, hel⟩ := vD he;obtain ⟨b', o', hA, hc⟩ := hb (by omega);have h1 : i < xs.length := by omega
 unfold execOp;subst hA
 simp [ho, K.ev hx, K.ev hi, Instr.indexAt, asIntOf, run_underlying hu, sizeOf, typeInfo, rN, hs, h0, h1, Og]
theorem BN {O : Exit → Act → World → Prop} {ops : Array Oper} {f : List Nat} {d cc n' : Nat} {u : Value} {R : Act → World → Prop} {rem : List Nat} (Bz : List Nat) (hc : (rem.erase cc == Bz) = true) (ho : ops[cc]? = some o) (K : Kd D a N l) (hw : Region.wanted o (yielded ops a.tmps) = true) (hd : o.dst = some d) (hN : Nat.blt d N = true)
  (hr : Rd P (fun w => Mem base W w L) a o u) (M : Mem base W w L) (k : ∀ a', Kd D a' N ((d, u) :: l) → (kN f cc = true → S w) ∧ wT P O ops S (pP f) (kN f) R n' Bz a' w) :
  wpOp P ops O cc (fun a' w' => (kN f cc = true → S w') ∧ wT P O ops S (pP f) (kN f) R n' (rem.erase cc) a' w') a w :=
 oG Bz hc ho K hw hd hN (post := fun v' w' => v' = u ∧ w' = w) (vI (hr w M) ⟨rfl, rfl⟩) fun v' a' w' hp K' => by obtain ⟨rfl, rfl⟩ := hp; exact k a' K'
theorem WW {Q : Exit → Act → World → Prop} {St Rt : Type} {Rel : St → Act → World → Prop} {kk : St → Option Rt} {lf : (St → Option Rt) → Nat → St → Option Rt} {r : Rt} {p : Code} {n : Nat} {st : St}
  (h : lf kk n st = some r) (hz : ∀ kk st, lf kk 0 st = none) (h0 : Rel st a w) (hk : ∀ st a w, Rel st a w → kk st = some r → Q .ret a w)
  (round : ∀ (kk : St → Option Rt) n st a w, (∀ st a w, Rel st a w → kk st = some r → Q .ret a w) → Rel st a w → lf kk (n + 1) st = some r → p.wp P (Exit.then (fun a w => ∃ st, Rel st a w ∧ lf kk n st = some r) Q) a w) : (Code.loop p).wp P Q a w := by
 refine Oj (I := fun n a w => ∃ st, Rel st a w ∧ lf kk n st = some r) n ⟨st, h0, h⟩ (fun a w ⟨st, _, h⟩ => by rw [hz] at h; cases h) ?_;rintro n a w ⟨st, hr, h⟩;exact round kk n st a w hk hr h
theorem inS (i : Nat) (h : L[i]? = some (.DR P k e g m)) : ∀ w, Mem base W w L → SMap P k e w g m := fun _ M => M.has i _ h
theorem SMap.new (w : World) : SMap P k e (w.alloc (.map #[] 0)) w.heap.size [] := ⟨.map [], World.ownsMap_made w P k _, fun s => ⟨rfl, fun z => rfl⟩⟩
theorem LI (ho : o.op = .makeMap t none) (k e : TypeId) (M : Mem base W w L) : Ac P o a w fun v w' => ∃ g, v = .map (some g) ∧ Mem base W w' (.DR P k e g [] :: L) := by
 refine vI (v := .map (some w.heap.size)) (w' := w.alloc (.map #[] 0)) ?_ ⟨_, rfl, ?_⟩
 ·unfold execOp
  simp [ho, run_makeMap_plain]
 ·refine (M.below ((Below.refl _ _).alloc (Nat.le_refl _) _)).cons (show mA.holds _ (.DR P k e w.heap.size []) from SMap.new w) fun g hg => ?_
  simp [mA.foot] at hg
  subst hg;exact ⟨M.sz, fun i e' h he => by have := M.Ey i e' _ h he; omega⟩
theorem Mr (ho : o.op = .lookup t x y true) (ht : P.underlying t = some (.map k e)) (hk : P.underlying k = some .string) (he : P.underlying e = some (.int .i64)) (hz : (P.info? e).bind (·.zero) = some (.int .i64 0)) (K : Kd D a N l)
  (hx : kK l x = some (.map (some g))) (hy : kK l y = some (.string (bs s))) (hM : ∀ w, S w → SMap P k e w g m) (hl : F2 m s = some r) : Rd P S a o (.tuple #[.int .i64 r.1, .bool r.2]) := fun w hS => by
 obtain ⟨rfl, hs⟩ := K8 hl;obtain ⟨D, hown, hD⟩ := hM w hS
 have hz : ∀ w, (zeroValue e).run P w = .ok (.int .i64 0) w := fun w => by
  simp only [Option.bind_eq_some_iff] at hz;obtain ⟨inf, rN, hz0⟩ := hz
  simp [zeroValue, typeInfo, rN, hz0]
 have hkey : keyOf P k (.string (bs s)) = some (.string s) := keyOf_string_mk hk (by rw [uS]; unfold maxLen; omega);obtain ⟨v, ps, hrun, hv⟩ := hown.look_ok (Maps.string_keyed hk) ht (hz w) (plainElem_int he (by decide)) hkey;obtain ⟨c, rfl, hc, _⟩ := plainElem_int_inv he hv;obtain ⟨h1, h2⟩ := hD s;simp only [Prod.mk.injEq] at hc
 have hcc : c = (pZ m s).getD 0 := by
  have h3 := h2 (.lit (.int .i64 0));rw [hc.1] at h3;cases hm : pZ m s with
  | none => rw [hm] at h3; simp at h3; simp [h3]
  | some q => rw [hm] at h3; simp at h3; simp [h3]
 subst hcc;rw [h1] at hrun;unfold execOp
 simp [ho, K.ev hx, K.ev hy, hrun]
theorem HU (ho : o.op = .mapUpdate t x y z) (ht : P.underlying t = some (.map k e)) (hk : P.underlying k = some .string) (he : P.underlying e = some (.int .i64)) (K : Kd D a N l)
  (hx : kK l x = some (.map (some g))) (hy : kK l y = some (.string (bs s))) (hv : kK l z = some (.int .i64 v)) (i : Nat) (M : Mem W.heap.size W w L) (hi : L[i]? = some (.DR P k e g m)) (hp : K7 m s v = some m') :
  Ac P o a w fun _ w' => Mem W.heap.size W w' (L.set i (.DR P k e g m')) := by
 obtain ⟨rfl, h1, h2, h3, h4⟩ := MD hp;obtain ⟨D, hown, hD⟩ := M.has i _ hi;have hkey : keyOf P k (.string (bs s)) = some (.string s) := keyOf_string_mk hk (by rw [uS]; unfold maxLen; omega);obtain ⟨w', hrun, hown', hg⟩ := hown.update (Maps.string_keyed hk) ht (by unfold maxLen; omega) hkey (plainElem_int he (WalkArith.wf_i64 ⟨h3, h4⟩));refine FE (w' := w') ?_ (M.VW rfl i hi ((Below.refl _ w).grown hg M.sz fun k hk => M.up i _ k hi (by cases hk; rfl)) (show mA.holds w' (.DR P k e g ((s, v) :: m)) from ⟨_, hown', fun s' => ?_⟩) (fun j hj hne => hg.block j hj fun h => hne (by cases h; rfl)) (fun g' hg' => .inl hg'))
 ·unfold execOp
  simp [ho, K.ev hx, K.ev hy, K.ev hv, hrun]
 ·have hkl : WideAt.IsKeyLit (.string s) := trivial
  by_cases hs : s = s'
  ·subst hs;refine ⟨?_, fun z => ?_⟩
   ·rw [Maps.has_put_same hown.isMap hkl]; simp [pZ]
   ·rw [Maps.atKey_put_same hown.isMap hkl]; simp [pZ]
  ·have hne : (Lit.string s' : Lit) ≠ .string s := fun h => hs (by injection h with h; exact h.symm)
   obtain ⟨q1, q2⟩ := hD s';refine ⟨?_, fun z => ?_⟩
   ·rw [Maps.has_put_other hne, q1]; simp [pZ, hs]
   ·rw [Maps.atKey_put_other hne, q2]; simp [pZ, hs]
end
end
section
open Go.RowKit
section
variable {P : Program} {base : Nat} {W w : World} {L H T : List mA} {e : mA}
theorem Mem.tl (M : Mem base W w (e :: L)) : Mem base W w L :=
 ⟨M.low, M.ME, M.bs, fun i e' h => M.has (i + 1) e' h, fun i e' g h hf => M.up (i + 1) e' g h hf, fun i j e1 e2 g h1 h2 f1 f2 => by
  have := M.one (i + 1) (j + 1) e1 e2 g h1 h2 f1 f2
  omega⟩
theorem Mem.pD (n : Nat) (hn : H.length = n) (M : Mem base W w (H ++ T)) (is : List Nat) (h : is.Nodup) (hl : ∀ i ∈ is, i < n) : Mem base W w (F4 H is ++ T) := by
 have h2 : (is ++ (List.range T.length).map (n + ·)).Nodup := by
  rw [List.nodup_append];refine ⟨h, ?_, ?_⟩
  ·exact List.Pairwise.map _ (fun a b (hab : a ≠ b) => show n + a ≠ n + b by omega) List.nodup_range
  ·intro a ha b hb;obtain ⟨j, _, rfl⟩ := List.mem_map.1 hb;have := hl a ha
   omega
 have := M.pick _ h2
 have e : F4 (H ++ T) (is ++ (List.range T.length).map (n + ·)) = F4 H is ++ T := by
  unfold F4;rw [List.map_append]
  congr 1
  ·refine List.map_congr_left fun i hi => ?_
   have := hl i hi;rw [List.getD_eq_getElem?_getD, List.getD_eq_getElem?_getD, List.getElem?_append_left (by omega)]
  ·rw [List.map_map];refine List.ext_getElem? fun i => ?_
   rw [List.getElem?_map]
   by_cases hi : i < T.length
   ·rw [List.getElem?_range hi]
    simp [← hn, List.getElem?_append_right, List.getElem?_eq_getElem hi]
   ·rw [List.getElem?_eq_none (by simp; omega), List.getElem?_eq_none (by omega)]; rfl
 rwa [e] at this
theorem YN {α : Type} {C : tQ α} {xs : List α} {g : Nat} (i : Nat) (h : L[i]? = some (.KG g (C.all xs))) : ∀ w, Mem base W w L → SL w C (some ⟨g, 0, none⟩) xs := fun w M _ => by
 obtain ⟨arr, t, q, hh, hp⟩ := M.has i _ h;refine ⟨g, 0, rfl, fun j u hu => ?_⟩;rw [Nat.zero_add, cell_of_row w g j arr t q hh];exact hp j u hu
variable {S : World → Prop} {D : List Deferred} {a : Act} {N : Nat} {l : List (Nat × Value)} {o : Oper} {x y z : Operand} {t t' et : TypeId} {s : List UInt8}
theorem HW {b : Nat} (ho : o.op = .convert t t' x) (hs : P.underlying t = some .string) (ht : G5 P t' et 1 b = true) (he : P.underlying et = some (.int .u8)) (K : Kd D a N l) (hx : kK l x = some (.string (bs s))) (M : Mem base W w L) :
  Ac P o a w fun v w' => ∃ g c, v = .slice (some ⟨g, 0, none⟩) (qG s).length c ∧ (qG s).length ≤ c ∧ Mem base W w' (.KG g ((cI .u8).all (qG s)) :: L) := by
 obtain ⟨hu, _⟩ := mQ ht;have hr := run_bytes_of_string (P := P) w t t' et (bs s) hs hu he;have hsz : (bs s).size = (qG s).length := by rw [Ag]; exact uS s
 have hcap : (qG s).length ≤ grownCap w (bs s).size 0 et := by
  rw [← hsz]; exact grownCap_ge _ _ _ _
 have hrun : (execOp a.eval o).run P w = .ok (.value (.slice (some ⟨w.heap.size, 0, none⟩) (qG s).length (grownCap w (bs s).size 0 et))) (w.drew.alloc (.cells (bytesRow (bs s) (grownCap w (bs s).size 0 et)) et ((bytesRow (bs s) (grownCap w (bs s).size 0 et)).size, (bytesRow (bs s) (grownCap w (bs s).size 0 et)).size + 1))) := by
  unfold execOp;simp only [ho, K.ev hx, Sem.run_bind, hr, ← hsz]; rfl
 refine vI hrun ⟨w.heap.size, grownCap w (bs s).size 0 et, rfl, hcap, ?_⟩
 ·refine ((M.drew).below ((Below.refl _ _).alloc (Nat.le_refl _) _)).cons ?_ fun g hg => ?_
  ·refine ⟨_, _, _, heap_alloc_new w.drew _, fun j u hu => ?_⟩;rw [← EY] at hu;have hl : (Lib.strCells (bs s)).length = (bs s).size := by unfold Lib.strCells; simp [bs, ByteArray.size]
   unfold bytesRow;have hj := (List.getElem?_eq_some_iff.1 hu).1;rw [hl] at hj;rw [Array.getElem?_append_left (by rw [Array.size_map]; exact hj)]
   have : Lib.strCells (bs s) = ((bs s).data.map (fun b => Value.int .u8 b.toNat)).toList := by
    show s.map _ = _
    simp [bs]
   rw [this] at hu
   simpa using hu
  ·simp [mA.foot] at hg
   subst hg;exact ⟨M.sz, fun i e' h he => by have := M.Ey i e' _ h he; omega⟩
theorem J0 {e : TypeId} {k : IntKind} (he : P.underlying e = some (.int k)) (hc : P.cellsOf e = 1) (d : Nat) (w : World) : ∀ (m i : Nat) (xs ys : List Int), xs.length = i + m → ys.length = i + m →
  (Op.eqItems (d + 1) e (P.cellsOf e) (xs.map (Value.int k)).toArray (ys.map (Value.int k)).toArray (List.range' i m)).run P w = .ok (decide (xs.drop i = ys.drop i)) w := by
 have hp : P.plainKey e = true := by unfold Program.plainKey; rw [he]
 intro m
 induction m with
 | zero =>
  intro i xs ys hx hy;rw [List.range'_zero, List.drop_of_length_le (by omega), List.drop_of_length_le (by omega)]
  simp [Op.eqItems]
 | succ m ih =>
  intro i xs ys hx hy;have hxi : i < xs.length := by omega
  have hyi : i < ys.length := by omega
  have p1 : (part e (xs.map (Value.int k)).toArray i).run P w = .ok (.int k xs[i]) w := run_part_plain w hp (by simp [hxi]);have p2 : (part e (ys.map (Value.int k)).toArray i).run P w = .ok (.int k ys[i]) w := run_part_plain w hp (by simp [hyi])
  have p3 : (Op.equalIn (d + 1) e (.int k xs[i]) (.int k ys[i])).run P w = .ok (decide (xs[i] = ys[i])) w := by
   simp [Op.equalIn, run_underlying he]
   rw [Bool.eq_iff_iff]; simp
  have hih := ih (i + 1) xs ys (by omega) (by omega);rw [hc] at hih;rw [List.range'_succ, hc];have ex := List.drop_eq_getElem_cons hxi;have ey := List.drop_eq_getElem_cons hyi;unfold Op.eqItems;simp only [Nat.mul_one, Sem.run_bind, p1, p2, p3, Result.andThen_ok]
  by_cases h : xs[i] = ys[i]
  ·rw [decide_eq_true h];simp only [Bool.not_true, Bool.false_eq_true, if_false];rw [hih, ex, ey, h]
   congr 1
   rw [decide_eq_decide];exact ⟨fun q => by rw [q], fun q => (List.cons.inj q).2⟩
  ·rw [decide_eq_false h, ex, ey, decide_eq_false fun q => h (List.cons.inj q).1]
   rfl
theorem PB {t e : TypeId} {k : IntKind} {n : Nat} (hu : P.underlying t = some (.array n e)) (he : P.underlying e = some (.int k)) (hsz : (P.info? e).map (·.size) = some 1) (xs ys : List Int) (hx : xs.length = n) (hy : ys.length = n) (w : World) :
  (Op.equalIn 10000 t (.agg (xs.map (Value.int k)).toArray) (.agg (ys.map (Value.int k)).toArray)).run P w = .ok (decide (xs = ys)) w := by
 obtain ⟨i, hi, hs⟩ := Option.map_eq_some_iff.1 hsz;have hc : P.cellsOf e = 1 := by unfold Program.cellsOf; rw [hi]; exact hs
 have h1 := run_equalIn_array (P := P) (w := w) 9999 (t := t) (xs.map (Value.int k)).toArray (ys.map (Value.int k)).toArray hu hi;rw [h1, List.range_eq_range'];have := J0 he hc 9998 w n 0 xs ys (by omega) (by omega)
 simpa using this
end
section
variable {P : Program} {ops : Array Oper} {Q O : Exit → Act → World → Prop} {S : World → Prop} {oL need : Nat → Bool} {R : Act → World → Prop}
theorem J1 (hL : ¬ LetsOut O) {j : Nat} {oi oj : Oper} {v : Value} (hj : ops[j]? = some oj) (hap : oi.apart ops oj = true) (hO : ∀ e a v w, O e (a.put oi.dst v) w → O e a w)
  (hsi : ∀ cs b, oi.op ≠ .select cs b) (hsj : ∀ cs b, oj.op ≠ .select cs b) {K : Act → World → Prop} {a : Act} {w : World}
  (hy : sQ P ops S oi v a) (h : wpOp P ops O j K (a.put oi.dst v) w) :
  wpOp P ops O j (fun a' w' => sQ P ops S oi v a' ∧ K (a'.put oi.dst v) w') a w := by
 obtain ⟨h1, h2, h3⟩ := Oper.apart_spec hap
 have keep : ∀ (a : Act), sQ P ops S oi v a → ∀ u, sQ P ops S oi v (a.put oj.dst u) := fun a hy u =>
  hy.same (execOp_put oi hsi a oj.dst u h3) (wanted_put oi a oj.dst u h3)
 have keepD : ∀ d, sQ P ops S oi v { a with defers := d :: a.defers } := fun d => hy.same rfl rfl
 unfold wpOp at *;simp only [hj] at *;rw [wanted_put oj a oi.dst v h1] at h
 split
 ·rename_i hw
  simp only [hw, if_true] at h
  rcases h with h | ⟨_, hl⟩
  case inr => exact absurd hl hL
  refine .inl ?_;unfold Oper.wp at *;rw [execOp_put oj hsj a oi.dst v h1] at h
  generalize (execOp a.eval oj).run P w = r at *
  cases r with
  | ok n w' =>
   cases n <;> simp only [Oper.upon] at h ⊢
   case value u => exact ⟨keep a hy u, by rw [← Act.put_comm a v u h2]; exact h⟩
   case skip => exact ⟨keep a hy _, by rw [← Act.put_comm a v undef h2]; exact h⟩
   case defer d =>
    refine ⟨keep _ (keepD d) _, ?_⟩;rw [← Act.put_comm _ v undef h2, ← Act.put_defers];exact h
   case enter f args =>
    refine Calls.mono h fun e w'' he => ?_
    cases e with
    | returned u => exact ⟨keep a hy u, by rw [← Act.put_comm a v u h2]; exact he⟩
    | panicked c => exact hO _ _ _ _ he
    | outgrown => exact absurd he hL
   case row row args => exact Rows.mono h fun u w'' he => ⟨keep a hy u, by rw [← Act.put_comm a v u h2]; exact he⟩
  | halt x w' => cases x <;> simp only [Oper.upon] at h ⊢; exact hO _ _ _ _ h
 ·rename_i hw
  simp only [hw] at h;exact ⟨keep a hy _, by rw [← Act.put_comm a v undef h2]; exact h⟩
theorem Nx (hL : ¬ LetsOut O) (hQ : ∀ e a w, O e a w → Q e a w) {i : Nat} {K : Act → World → Prop} {a : Act} {w : World} (h : wpOp P ops O i K a w) : wpOp P ops Q i K a w := by
  unfold wpOp at *
  split
  · rename_i h0
    simp only [h0] at h
    exact h
  · rename_i o ho
    simp only [ho] at h
    split
    · rename_i hw
      rw [if_pos hw] at h
      rcases h with h | ⟨_, hl⟩
      case inr => exact absurd hl hL
      refine .inl ?_
      unfold Oper.wp at *
      generalize (execOp a.eval o).run P w = r at *
      cases r with
      | ok n w' =>
        cases n <;> simp only [Oper.upon] at h ⊢ <;> first
          | exact h
          | (refine Calls.mono h fun e w'' he => ?_
             cases e with
             | returned u => exact he
             | panicked c => exact hQ _ _ _ he
             | outgrown => exact absurd he hL)
      | halt x w' => cases x <;> simp only [Oper.upon] at h ⊢; exact hQ _ _ _ h
    · rename_i hw
      rw [if_neg hw] at h
      exact h
theorem PC (hL : ¬ LetsOut O) (hO : ∀ (i : Nat) (o : Oper), ops[i]? = some o → ∀ e a v w, O e (a.put o.dst v) w → O e a w) {c : Nat} {oc : Oper} (hc : ops[c]? = some oc) (hrc : oL c = false) (hsel : ∀ (j : Nat) (o : Oper) cs b, ops[j]? = some o → o.op ≠ .select cs b)
  (uZ : ∀ j k oj ok, j ≠ k → ops[j]? = some oj → ops[k]? = some ok → waits ops j k = false → waits ops k j = false → (oL j = true → oj.apart ops ok = true)) :
  ∀ (n : Nat) (rem : List Nat) (a : Act) (w : World), c ∈ rem → Je ops rem c = true → wT P O ops S oL need R (n + 1) rem a w → wpOp P ops O c (fun a' w' => (need c = true → S w') ∧ wT P O ops S oL need R n (rem.erase c) a' w') a w := by
 intro n
 induction n with
 | zero =>
  intro rem a w hcm hrd h
  rcases h with ⟨i0, hi0, hr0, hd0, o0, ho0, u, hu, h⟩ | ⟨_, h⟩
  ·obtain ⟨hnil, hR⟩ := h;have e : i0 ≠ c := fun e => by subst e; rw [hrc] at hr0; cases hr0
   have : c ∈ rem.erase i0 := (List.mem_erase_of_ne (fun h => e h.symm)).2 hcm;rw [hnil] at this; cases this
  ·exact h c hcm hrc hrd
 | succ n ih =>
  intro rem a w hcm hrd h
  rcases h with ⟨i0, hi0, hr0, hd0, o0, ho0, u, hu, h⟩ | ⟨_, h⟩
  ·have e : i0 ≠ c := fun e => by subst e; rw [hrc] at hr0; cases hr0
   have hcm' : c ∈ rem.erase i0 := (List.mem_erase_of_ne (fun h => e h.symm)).2 hcm;have h2 := ih _ _ _ hcm' (yN hrd) h;have w1 := u4 hrd hi0;have w2 := u4 hd0 hcm;have ap := uZ i0 c o0 oc e ho0 hc w2 w1 hr0;have h3 := J1 hL hc ap (hO i0 o0 ho0) (fun cs b => hsel i0 o0 cs b ho0) (fun cs b => hsel c oc cs b hc) hu h2;refine wpOp_mono ?_ h3;rintro a' w' ⟨hy, hn, hk⟩;refine ⟨hn, .inl ⟨i0, (List.mem_erase_of_ne e).2 hi0, hr0, yN hd0, o0, ho0, u, hy, ?_⟩⟩;rw [List.erase_comm]; exact hk
  ·exact h c hcm hrc hrd
theorem IV (hL : ¬ LetsOut O) (hO : ∀ (i : Nat) (o : Oper), ops[i]? = some o → ∀ e a v w, O e (a.put o.dst v) w → O e a w) (hQ : ∀ e a w, O e a w → Q e a w) (hok : JW ops oL need = true) : ∀ (fuel : Nat) (listed : Array Bool) (a : Act) (w : World), listed.size = ops.size → Closed ops listed → (jY ops listed).length = fuel →
  (∀ r ∈ jY ops listed, oL r = true → S w) → wT P O ops S oL need (Q .normal) fuel (jY ops listed) a w → wpAny P .any ops Q fuel listed a w := by
 simp only [JW, Bool.and_eq_true] at hok;obtain ⟨⟨⟨Ji, hback⟩, LG⟩, Jj⟩ := hok;have hsel := Region.noSelect_spec Ji;have hp : ∀ i < ops.size, ∀ j < i, Dw ops oL i j = true := fun i hi j hj => List.all_eq_true.1 (List.all_eq_true.1 LG i (List.mem_range.2 hi)) j (List.mem_range.2 hj)
 have uZ : ∀ j k oj ok, j ≠ k → ops[j]? = some oj → ops[k]? = some ok → waits ops j k = false → waits ops k j = false → (oL j = true → oj.apart ops ok = true) := by
  intro j k oj ok hjk hj hk w1 w2 hr;have hjl := (Array.getElem?_eq_some_iff.1 hj).1;have hkl := (Array.getElem?_eq_some_iff.1 hk).1
  rcases Nat.lt_or_gt_of_ne hjk with hlt | hlt
  ·have h := hp k hkl j hlt;unfold Dw at h;simp only [hj, hk, w2, Bool.false_or, Bool.and_eq_true, Bool.or_eq_true, Bool.not_eq_true'] at h
   rcases h.2 with h0 | h0
   ·rw [hr] at h0; cases h0
   ·exact h0
  ·have h := hp j hjl k hlt;unfold Dw at h;simp only [hj, hk, w1, Bool.false_or, Bool.and_eq_true, Bool.or_eq_true, Bool.not_eq_true'] at h
   rcases h.1 with h0 | h0
   ·rw [hr] at h0; cases h0
   ·exact h0
 have hbk : ∀ i o, ops[i]? = some o → ∀ e ∈ o.after, Region.binds .any e = true → e.on < i := fun i o ho e he hb => by
  have hi : i < ops.size := (Array.getElem?_eq_some_iff.1 ho).1;have h := List.all_eq_true.1 hback i (List.mem_range.2 hi);simp only [ho] at h;have h2 := Array.all_eq_true_iff_forall_mem.1 h e he
  simpa [hb] using h2
 have hnd : ∀ i < ops.size, oL i = false → ∀ r < ops.size, oL r = true → waits ops i r = false → need i = true := fun i hi BH r hr hrr hw => by
  have h := List.all_eq_true.1 Jj i (List.mem_range.2 hi);simp only [BH, Bool.false_or, Bool.or_eq_true, Bool.not_eq_true'] at h;refine h.resolve_right fun h0 => ?_
  have : FW ops oL i = true := by
   refine List.any_eq_true.2 ⟨r, List.mem_range.2 hr, ?_⟩;have : r ≠ i := fun e => by subst e; rw [BH] at hrr; cases hrr
   simp [hrr, hw, this]
  rw [this] at h0;cases h0
 intro fuel
 induction fuel with
 | zero =>
  intro listed a w hs hc hlen _ h;have hnil : jY ops listed = [] := List.eq_nil_of_length_eq_zero hlen;obtain ⟨_, h⟩ := h;refine ⟨?_, h⟩;refine List.eq_nil_iff_forall_not_mem.2 fun i hi => ?_
  obtain ⟨h0, o, ho, _⟩ := mem_ready.1 hi;have : i ∈ jY ops listed := lT.2 ⟨(Array.getElem?_eq_some_iff.1 ho).1, h0⟩;rw [hnil] at this;cases this
 | succ fuel ih =>
  intro listed a w hs hc hlen hS h;refine ⟨fun h0 => ?_, fun i hi => ?_⟩
  ·exfalso
   match hr : jY ops listed, hlen with
   | i0 :: rest, _ =>
    have hm0 : i0 ∈ jY ops listed := by rw [hr]; exact List.mem_cons_self ..
    obtain ⟨hlt, hun⟩ := lT.1 hm0;have Ab := tR (ops := ops) listed;rw [hr, List.pairwise_cons] at Ab
    have : i0 ∈ Region.ready .any ops listed := by
     refine mem_ready.2 ⟨hun, ops[i0], Array.getElem?_eq_getElem hlt, fun e he hb => ?_⟩;have hlt2 := hbk i0 _ (Array.getElem?_eq_getElem hlt) e he hb;cases hl : listed.getD e.on false with
     | true => rfl
     | false =>
      have hm : e.on ∈ jY ops listed := lT.2 ⟨by omega, by rw [yL (by omega)]; exact hl⟩;rw [hr] at hm
      rcases List.mem_cons.1 hm with hm | hm
      ·omega
      ·have := Ab.1 _ hm; omega
    rw [h0] at this;cases this
  ·obtain ⟨hun, oi, hoi, hall⟩ := mem_ready.1 hi;have hilt : i < ops.size := (Array.getElem?_eq_some_iff.1 hoi).1;have him : i ∈ jY ops listed := lT.2 ⟨hilt, hun⟩;have LH : (jY ops listed).Nodup := (tR (ops := ops) listed).imp fun h => Nat.ne_of_lt h
   have Ad : jY ops (listed.setIfInBounds i true) = (jY ops listed).erase i := by rw [Ev hs hilt, BM LH]
   have hlen' : (jY ops (listed.setIfInBounds i true)).length = fuel := by
    rw [Ad, List.length_erase_of_mem him]; omega
   have hs' : (listed.setIfInBounds i true).size = ops.size := by simpa using hs
   have hc' : Closed ops (listed.setIfInBounds i true) := by
    intro k hk j hj
    by_cases hik : i = k
    ·subst hik; exact getD_set_true (sT hi hj)
    ·rw [getD_set_ne false hik] at hk; exact getD_set_true (hc k hk j hj)
   have hrd : Je ops (jY ops listed) i = true := by
    unfold Je;rw [List.all_eq_true];intro j hj;obtain ⟨h1, h2⟩ := lT.1 hj;cases hw : waits ops i j with
    | false => rfl
    | true =>
     have := sT hi hw;rw [← yL (by omega), h2] at this; cases this
   cases BH : oL i with
   | true =>
    have hSw : S w := hS i him BH;obtain ⟨v, hv, hrest⟩ := Mq hoi BH hsel uZ fuel _ a w him hrd h;refine hv.run hoi hSw (ih _ _ _ hs' hc' hlen' (fun _ _ _ => hSw) (by rw [Ad]; exact hrest))
   | false =>
    have h2 := PC hL hO hoi BH hsel uZ fuel _ a w him hrd h;refine Nx hL hQ (wpOp_mono ?_ h2);rintro a' w' ⟨hn, hk⟩;refine ih _ _ _ hs' hc' hlen' ?_ (by rw [Ad]; exact hk);intro r hr hrr;rw [Ad] at hr;have hrm := List.mem_of_mem_erase hr;exact hn (hnd i hilt BH r (lT.1 hrm).1 hrr (u4 hrd hrm))
theorem IW (hL : ¬ LetsOut O) (hQ : ∀ e a w, O e a w → Q e a w) {id : Nat} {a : Act} {w : World} {l : List Oper} (hO : ∀ (i : Nat) (o : Oper), l.toArray[i]? = some o → ∀ e a v w, O e (a.put o.dst v) w → O e a w) (S : World → Prop) (f : List Nat) (n : Nat) (rem : List Nat) (hm : P.follows .mixedOrders = true) (hok : JW l.toArray (pP f) (kN f) = true)
  (hl : List.range l.toArray.size = rem) (hn : rem.length = n) (hS : S w.drew) (h : wT P O l.toArray S (pP f) (kN f) (Q .normal) n rem a w.drew) : (Code.region id l.toArray true).wp P Q a w := by
 refine wp_region_any hm ?_
 have Fl : jY l.toArray (Array.replicate l.toArray.size false) = List.range l.toArray.size := by
  unfold jY;refine List.filter_eq_self.2 fun i hi => ?_
  have := List.mem_range.1 hi
  simp at this
  simp [this]
 refine IV hL hO hQ hok l.toArray.size (Array.replicate l.toArray.size false) a _ (by simp) ?_ (by rw [Fl]; simp) (fun _ _ _ => hS) ?_
 ·intro i hi;rw [wN] at hi;cases hi
 ·rw [Fl, hl];have : l.toArray.size = n := by rw [← hn, ← hl]; simp
  rw [this]; exact h
def Bk (D : List Deferred) (N : Nat) (l0 : List (Nat × Value)) (Pn : List PanicEntry → World → Prop) : Exit → Act → World → Prop := fun e a w => ∃ ch, e = .panic ch ∧ Pn ch w ∧ Kd D a N l0
def Ms (ops : List Oper) (l0 : List (Nat × Value)) : Bool := ops.all fun o => match o.dst with
 | some d => (yG l0 d).isNone
 | none => true
theorem Kd.WX {D : List Deferred} {a : Act} {N : Nat} {l0 : List (Nat × Value)} {d : Option Nat} {v : Value} (h : ∀ s, d = some s → yG l0 s = none) (K : Kd D (a.put d v) N l0) : Kd D a N l0 := by
 cases d with
 | none => exact K
 | some d =>
  refine ⟨K.defs, by have := K.size; simpa [Act.put] using this, fun s u hs => ?_⟩;have h2 := K.get s u hs;have hne : d ≠ s := fun e => by subst e; rw [h d rfl] at hs; cases hs
  simp only [Act.put] at h2;rw [← h2]
  simp [Array.getD_eq_getD_getElem?, Array.getElem?_setIfInBounds, hne]
theorem lR {id : Nat} {a : Act} {w : World} {l : List Oper} {D : List Deferred} {N : Nat} (l0 : List (Nat × Value)) (Pn : List PanicEntry → World → Prop) (hcl : Ms l l0 = true) (hQ : ∀ ch a w, Pn ch w → Kd D a N l0 → Q (.panic ch) a w) (S : World → Prop) (f : List Nat) (n : Nat) (rem : List Nat) (hm : P.follows .mixedOrders = true) (hok : JW l.toArray (pP f) (kN f) = true)
  (hl : List.range l.toArray.size = rem) (hn : rem.length = n) (hS : S w.drew) (h : wT P (Bk D N l0 Pn) l.toArray S (pP f) (kN f) (Q .normal) n rem a w.drew) : (Code.region id l.toArray true).wp P Q a w :=
 IW (O := Bk D N l0 Pn) (fun ⟨_, _, _, h, _⟩ => by cases h) (fun e a w ⟨ch, h1, h2, h3⟩ => by subst h1; exact hQ ch a w h2 h3)
  (fun i o ho e a v w ⟨ch, h1, h2, h3⟩ => ⟨ch, h1, h2, Kd.WX (fun s hs => by
   unfold Ms at hcl;rw [List.all_eq_true] at hcl;have hm := hcl o (by simpa using Array.mem_of_getElem? ho);rw [hs] at hm
   simpa using hm) h3⟩) S f n rem hm hok hl hn hS h
variable {D : List Deferred} {a : Act} {w : World} {N : Nat} {l l0 : List (Nat × Value)} {o : Oper} {v : Value} {d c n : Nat} {rem : List Nat} {f : List Nat} {Pn : List PanicEntry → World → Prop} {x : Operand}
theorem Fq {kk : Act → World → Prop} (ho : ops[c]? = some o) (K0 : Kd D a N l0) (hw : Region.wanted o (yielded ops a.tmps) = true) (h : Bo P o a w Pn) : wpOp P ops (Bk D N l0 Pn) c kk a w := by
 unfold wpOp;simp only [ho, hw, if_true];exact .inl (h _ _ fun ch w' hp => ⟨ch, rfl, hp, K0⟩)
theorem PD {fid : FuncId} {cap vs : List Value} {args : Array Operand} {ts : Array TypeId} (K : Kd D a N l) (ho : o.op = .call { callee := .value x, args := args, argTypes := ts }) (hf : fD P fid = true) (hx : kK l x = some (.func (.func fid) #[] cap.toArray)) (hargs : args.toList.map (kK l) = vs.map some)
  {K2 : Act → World → Prop} {Q2 : Exit → Act → World → Prop} (h : Calls P fid (vs ++ cap).toArray w fun e w' => (∃ v, e = .returned v ∧ K2 (a.put o.dst v) w') ∨ ∃ ch, e = .panicked ch ∧ Q2 (.panic ch) a w') : o.wp P a w K2 Q2 := by
 have hE : args.map a.eval = vs.toArray := by
  apply Array.ext'
  simp only [Array.toList_map]
  have : ∀ (xs : List Operand) (vs : List Value), xs.map (kK l) = vs.map some → xs.map a.eval = vs := by
   intro xs
   induction xs with
   | nil => intro vs h; cases vs <;> simp_all
   | cons x xs ih =>
    intro vs h;cases vs with
    | nil => simp at h
    | cons v vs => simp only [List.map_cons, List.cons.injEq] at h ⊢; exact ⟨K.ev h.1, ih vs h.2⟩
  exact this _ _ hargs
 have hrun : (execOp a.eval o).run P w = .ok (.enter fid (vs ++ cap).toArray) w := by
  unfold fD at hf
  split at hf
  ·rename_i fn hfn
   simp only [Bool.and_eq_true, bne_iff_ne, ne_eq] at hf;obtain ⟨b, hb⟩ := Option.isSome_iff_exists.1 hf.1;unfold execOp
   simp [ho, resolve, K.ev hx, hE, Deferred.ofValue, invoke, callFunc, hfn, hb, hf.2]
  ·cases hf
 unfold Oper.wp;rw [hrun, Oper.upon_enter];refine h.mono ?_;rintro e w' (⟨v, rfl, hp⟩ | ⟨ch, rfl, hp⟩)
 ·exact hp
 ·exact hp
theorem Cp {rest : List Oper} {fid : FuncId} {cap vs : List Value} {args : Array Operand} {ts : Array TypeId} (K : Kd D a N l) (hw : Region.wanted o (yielded ops a.tmps) = true) (hd : o.dst = some d) (hN : Nat.blt d N = true)
  (ho : o.op = .call { callee := .value x, args := args, argTypes := ts }) (hf : fD P fid = true) (hx : kK l x = some (.func (.func fid) #[] cap.toArray)) (hargs : args.toList.map (kK l) = vs.map some)
  (h : Calls P fid (vs ++ cap).toArray w fun e w' => (∃ v, e = .returned v ∧ ∀ a', Kd D a' N ((d, v) :: l) → wpList P ops Q rest a' w') ∨ ∃ ch, e = .panicked ch ∧ Q (.panic ch) a w') : wpList P ops Q (o :: rest) a w := by
 refine wpList_step fun Kc hK => ?_
 rw [if_pos hw];refine PD K ho hf hx hargs (h.mono ?_);rintro e w' (⟨v, he, hp⟩ | hp)
 ·refine .inl ⟨v, he, hK _ _ ?_⟩;have := K.put (d := o.dst) (by rw [hd]; exact hN) v;rw [hd] at this ⊢;exact hp _ this
 ·exact .inr hp
theorem IX {fid : FuncId} {cap vs : List Value} {args : Array Operand} {ts : Array TypeId} (Bz : List Nat) (hc : (rem.erase c == Bz) = true) (hop : ops[c]? = some o) (K : Kd D a N l) (hw : Region.wanted o (yielded ops a.tmps) = true) (hd : o.dst = some d) (hN : Nat.blt d N = true) (K0 : Kd D a N l0)
  (ho : o.op = .call { callee := .value x, args := args, argTypes := ts }) (hf : fD P fid = true) (hx : kK l x = some (.func (.func fid) #[] cap.toArray)) (hargs : args.toList.map (kK l) = vs.map some)
  (h : Calls P fid (vs ++ cap).toArray w fun e w' => (∃ v, e = .returned v ∧ ∀ a', Kd D a' N ((d, v) :: l) → (kN f c = true → S w') ∧ wT P (Bk D N l0 Pn) ops S (pP f) (kN f) R n Bz a' w') ∨ ∃ ch, e = .panicked ch ∧ Pn ch w') : wpOp P ops (Bk D N l0 Pn) c (fun a' w' => (kN f c = true → S w') ∧ wT P (Bk D N l0 Pn) ops S (pP f) (kN f) R n (rem.erase c) a' w') a w := by
 obtain rfl : rem.erase c = Bz := by simpa using hc
 unfold wpOp;simp only [hop, hw, if_true];refine .inl (PD K ho hf hx hargs (h.mono ?_));rintro e w' (⟨v, he, hp⟩ | ⟨ch, he, hp⟩)
 ·refine .inl ⟨v, he, ?_⟩;have := K.put (d := o.dst) (by rw [hd]; exact hN) v;rw [hd] at this ⊢;exact hp _ this
 ·exact .inr ⟨ch, he, ch, rfl, hp, K0⟩
theorem PE {fn : Func} {code : Code} {fid : FuncId} {args : Array Value} {Rp : Ending → World → Prop} (hf : P.funcs[fid]? = some fn) (hb : fn.body = some code) (hN : fn.ntmps = N) (hs : Nat.ble args.size N = true)
  (h : ∀ a, Kn a N (F3 0 args.toList) → code.wp P (bodyPostD P fn Rp) a w) : Calls P fid args w Rp := by
 refine calls_of_wp_defers hf hb ?_;rw [hN];exact h _ (Kd.start args N hs)
theorem aAm {rest : List Oper} {fid : FuncId} {cap : List Value} (K : Kd D a N l) (hw : Region.wanted o (yielded ops a.tmps) = true) (hd : o.dst = none) (ho : o.op = .defer { callee := .value x, args := #[], argTypes := #[] }) (hx : kK l x = some (.func (.func fid) #[] cap.toArray))
  (k : ∀ a', Kd ({ target := .fn (.func fid) cap.toArray, args := #[] } :: D) a' N l → wpList P ops Q rest a' w) : wpList P ops Q (o :: rest) a w := by
 refine wpList_step fun Kc hK => ?_
 rw [if_pos hw];unfold Oper.wp
 have hrun : (execOp a.eval o).run P w = .ok (.defer { target := .fn (.func fid) cap.toArray, args := #[] }) w := by
  unfold execOp
  simp [ho, resolve, K.ev hx, Deferred.ofValue]
 rw [hrun, Oper.upon_defer];refine hK _ _ ?_;rw [hd];exact k _ ⟨by show _ :: a.defers = _; rw [K.defs], K.size, K.get⟩
theorem WY {fn : Func} {Rp : Ending → World → Prop} {r1 r2 : ResultVar} {v1 v2 : Value} {fid : FuncId} {cap : Array Value} (K : Kd [{ target := .fn (.func fid) cap, args := #[] }] a N l) (hr : fn.results = #[r1, r2]) (h1 : wJ P a w r1 v1) (h2 : wJ P a w r2 v2)
  (hi : (invoke (.fn (.func fid) cap) #[]).run P w = .ok (.enter fid cap) w) (hc : CallsD P fid cap .returning w fun e u' w' => e = .returned (.tuple #[]) ∧ u' = .returning ∧ w' = w) (h : Rp (.returned (.tuple #[v1, v2])) w) : bodyPostD P fn Rp .ret a w := by
 show Leaves P fn a.tmps Rp a.defers .returning w;rw [K.defs];refine leaves_cons (by intro h; cases h) hi (hc.mono ?_);rintro e u' w' ⟨rfl, rfl, rfl⟩;refine ⟨.tuple #[v1, v2], ?_, h⟩;unfold wJ at h1 h2;rw [u1, hr]; simp [h1, h2]
theorem mK {fn : Func} {Rp : Ending → World → Prop} {r1 r2 : ResultVar} {v1 v2 : Value} {fid : FuncId} {cap : Array Value} {pe : PanicEntry} {post : World → Prop} (K : Kd [{ target := .fn (.func fid) cap, args := #[] }] a N l) (hr : fn.results = #[r1, r2])
  (hi : (invoke (.fn (.func fid) cap) #[]).run P w = .ok (.enter fid cap) w) (hc : CallsD P fid cap (.panicking [pe]) w fun e u' w' => e = .returned (.tuple #[]) ∧ u' = .panicking [{ pe with recovered := true }] ∧ post w') (hres : ∀ w', post w' → wJ P a w' r1 v1 ∧ wJ P a w' r2 v2 ∧ Rp (.returned (.tuple #[v1, v2])) w') : bodyPostD P fn Rp (.panic [pe]) a w := by
 show Leaves P fn a.tmps Rp a.defers (.panicking [pe]) w;rw [K.defs];refine leaves_cons (by intro h; cases h) hi (hc.mono ?_);rintro e u' w' ⟨rfl, rfl, hp⟩;obtain ⟨h1, h2, h⟩ := hres w' hp;refine ⟨.tuple #[v1, v2], ?_, h⟩;unfold wJ at h1 h2;rw [u1, hr]; simp [h1, h2]
end
theorem gT {P : Program} {f : FuncId} {cap : Array Value} {w : World} (hf : fD P f = true) : (invoke (.fn (.func f) cap) #[]).run P w = .ok (.enter f cap) w := by
 unfold fD at hf
 split at hf
 ·rename_i fn hfn
  simp only [Bool.and_eq_true, bne_iff_ne, ne_eq] at hf;obtain ⟨b, hb⟩ := Option.isSome_iff_exists.1 hf.1
  simp [invoke, callFunc, hfn, hb, hf.2]
 ·cases hf
theorem p8 {P : Program} {S : World → Prop} {D : List Deferred} {a : Act} {N : Nat} {l : List (Nat × Value)} {o : Oper} {x ix : Operand} {t e : TypeId} {g off c : Nat} {k : IntKind} {b s j len : Nat} (ho : o.op = .indexAddr t x ix) (ht : G5 P t e s b = true) (K : Kd D a N l) (hx : kK l x = some (.slice (some ⟨g, off, none⟩) len c)) (hi : kK l ix = some (.int k j)) (hj : Nat.blt j len = true) : Rd P S a o (.pointer (some ⟨g, off + j * s, none⟩)) := fun w _ => by
  obtain ⟨hu, i, rN, hs, _⟩ := mQ ht
  have h1 : (j : Int) < len := by have : j < len := by simpa [Nat.blt_eq] using hj
                                  omega
  have hadd : (⟨g, off, none⟩ : Addr).add (j * s) = ⟨g, off + j * s, none⟩ := by unfold Addr.add; split <;> simp_all
  unfold execOp
  simp [ho, K.ev hx, K.ev hi, Instr.indexAt, asIntOf, run_underlying hu, sizeOf, typeInfo, rN, hs, h1, hadd]
  intro hh; omega
theorem z1 : lU Tryz.prog 1 = some [.nilFunc] := by kernel_rfl
theorem z2 : lU Tryz.prog 2 = some [.int .i64 0] := by kernel_rfl
theorem fR : G1 Tryz.prog 3 = true := by kernel_rfl
theorem z3 : lU Tryz.prog 3 = some [.int .i64 0] := by kernel_rfl
theorem zi3 : (Tryz.prog.info? 3).bind (·.zero) = some (.int .i64 0) := by kernel_rfl
theorem D7 : Tryz.prog.underlying 3 = some (.int .i64) := by kernel_rfl
theorem B6 : (Tryz.prog.info? 3).map (·.size) = some 1 := by kernel_rfl
theorem z4 : lU Tryz.prog 4 = some [.bool false] := by kernel_rfl
theorem sc5 : G1 Tryz.prog 5 = true := by kernel_rfl
theorem z5 : lU Tryz.prog 5 = some [.int .u8 0] := by kernel_rfl
theorem EZ : Tryz.prog.underlying 5 = some (.int .u8) := by kernel_rfl
theorem WZ : (Tryz.prog.info? 5).bind (·.zero) = some (.int .u8 0) := by kernel_rfl
theorem sz5 : (Tryz.prog.info? 5).map (·.size) = some 1 := by kernel_rfl
theorem wV : G1 Tryz.prog 9 = true := by kernel_rfl
theorem z9 : lU Tryz.prog 9 = some [.string (bs ([] : List UInt8))] := by kernel_rfl
theorem oQ : Tryz.prog.underlying 9 = some .string := by kernel_rfl
theorem sz9 : (Tryz.prog.info? 9).map (·.size) = some 1 := by kernel_rfl
theorem z20 : lU Tryz.prog 20 = some [.nilIface] := by kernel_rfl
theorem z21 : lU Tryz.prog 21 = some [.int .i32 0] := by kernel_rfl
theorem W0 : Tryz.prog.underlying 21 = some (.int .i32) := by kernel_rfl
theorem W1 : Dj Tryz.prog 22 4 = true := by kernel_rfl
theorem PG : Tryz.prog.underlying 22 = some (.array 4 3) := by kernel_rfl
theorem Ax : G1 Tryz.prog 23 = true := by kernel_rfl
theorem C4 : G5 Tryz.prog 23 92 2 16 = true := by kernel_rfl
theorem Fr : ∃ e, Tryz.prog.underlying 23 = some (.slice e) := ⟨_, (mQ C4).1⟩
theorem W2 : Dj Tryz.prog 24 3 = true := by kernel_rfl
theorem PH : Tryz.prog.underlying 24 = some (.array 3 3) := by kernel_rfl
theorem Uq : Dj Tryz.prog 25 9 = true := by kernel_rfl
theorem PI : Tryz.prog.underlying 25 = some (.array 9 3) := by kernel_rfl
theorem zR : G1 Tryz.prog 26 = true := by kernel_rfl
theorem uC : G5 Tryz.prog 26 47 2 16 = true := by kernel_rfl
theorem Cq : ∃ e, Tryz.prog.underlying 26 = some (.slice e) := ⟨_, (mQ uC).1⟩
theorem J2 : Dj Tryz.prog 28 21 = true := by kernel_rfl
theorem z28 : lU Tryz.prog 28 = some [.int .i64 0, .int .i64 0, .int .i64 0, .int .i64 0, .int .i64 0, .int .i64 0, .slice none 0 0, .int .i64 0, .int .i64 0, .int .i64 0, .int .i64 0, .int .i64 0, .int .i64 0, .int .i64 0, .int .i64 0, .int .i64 0, .int .i64 0, .int .i64 0, .int .i64 0, .slice none 0 0, .int .i64 0] := by kernel_rfl
theorem CX : vF Tryz.prog 28 0 = some 0 := by kernel_rfl
theorem CY : vF Tryz.prog 28 1 = some 1 := by kernel_rfl
theorem Ah : vF Tryz.prog 28 2 = some 5 := by kernel_rfl
theorem oH : vF Tryz.prog 28 3 = some 6 := by kernel_rfl
theorem CZ : vF Tryz.prog 28 4 = some 7 := by kernel_rfl
theorem C0 : vF Tryz.prog 28 5 = some 10 := by kernel_rfl
theorem rK : vF Tryz.prog 28 6 = some 19 := by kernel_rfl
theorem C1 : vF Tryz.prog 28 7 = some 20 := by kernel_rfl
theorem mD : G1 Tryz.prog 29 = true := by kernel_rfl
theorem gW : G5 Tryz.prog 29 3 1 8 = true := by kernel_rfl
theorem rC : ∃ e, Tryz.prog.underlying 29 = some (.slice e) := ⟨_, (mQ gW).1⟩
theorem gN : Dj Tryz.prog 31 3 = true := by kernel_rfl
theorem z31 : lU Tryz.prog 31 = some [.int .i64 0, .int .i64 0, .slice none 0 0] := by kernel_rfl
theorem o8 : vF Tryz.prog 31 0 = some 0 := by kernel_rfl
theorem yK : vF Tryz.prog 31 1 = some 1 := by kernel_rfl
theorem iE : vF Tryz.prog 31 2 = some 2 := by kernel_rfl
theorem Ay : G1 Tryz.prog 35 = true := by kernel_rfl
theorem wH : G5 Tryz.prog 35 9 1 16 = true := by kernel_rfl
theorem Dy : ∃ e, Tryz.prog.underlying 35 = some (.slice e) := ⟨_, (mQ wH).1⟩
theorem jX : Dj Tryz.prog 37 28 = true := by kernel_rfl
theorem z37 : lU Tryz.prog 37 = some [.int .i64 0, .int .i64 0, .int .i64 0, .int .i64 0, .int .i64 0, .slice none 0 0, .slice none 0 0, .int .i64 0, .int .i64 0, .int .i64 0, .int .i64 0, .int .i64 0, .int .i64 0, .slice none 0 0, .int .i64 0, .int .i64 0, .int .i64 0, .int .i64 0, .int .i64 0, .int .i64 0, .int .i64 0, .int .i64 0, .int .i64 0, .int .i64 0, .int .i64 0, .int .i64 0, .slice none 0 0, .int .i64 0] := by kernel_rfl
theorem qB : vF Tryz.prog 37 0 = some 0 := by kernel_rfl
theorem o9 : vF Tryz.prog 37 1 = some 1 := by kernel_rfl
theorem sN : vF Tryz.prog 37 2 = some 2 := by kernel_rfl
theorem pV : vF Tryz.prog 37 3 = some 3 := by kernel_rfl
theorem tW : vF Tryz.prog 37 4 = some 4 := by kernel_rfl
theorem qC : vF Tryz.prog 37 5 = some 5 := by kernel_rfl
theorem Ur : fdT Tryz.prog 37 6 = some (35, 6) := by kernel_rfl
theorem nT : vF Tryz.prog 37 6 = some 6 := by kernel_rfl
theorem uT : vF Tryz.prog 37 7 = some 7 := by kernel_rfl
theorem uL : G1 Tryz.prog 38 = true := by kernel_rfl
theorem z38 : lU Tryz.prog 38 = some [.int .i64 0] := by kernel_rfl
theorem z46 : lU Tryz.prog 46 = some [.int .i64 0, .int .i64 0] := by kernel_rfl
theorem He : Dj Tryz.prog 47 2 = true := by kernel_rfl
theorem z47 : lU Tryz.prog 47 = some [.int .i64 0, .int .i64 0] := by kernel_rfl
theorem qD : vF Tryz.prog 47 0 = some 0 := by kernel_rfl
theorem rL : vF Tryz.prog 47 1 = some 1 := by kernel_rfl
theorem aAn : (Tryz.prog).eqGuardType (Tryz.prog).depth 47 = false := by kernel_rfl
theorem W3 (x0 y0 x1 y1 : Int) (w : World) : (Op.equalIn 10000 47 (.agg #[.int .i64 x0, .int .i64 x1]) (.agg #[.int .i64 y0, .int .i64 y1])).run Tryz.prog w = .ok (decide (x0 = y0) && decide (x1 = y1)) w := by
 have hp : Tryz.prog.stoodInHeld 47 = false := by kernel_rfl
 have ht : Tryz.prog.underlying 47 = some (.struct (Tryz.prog.fieldsOf 47)) := by kernel_rfl
 rw [run_equalIn_agg (d := 9999) _ _ _ _ ht hp]
 by_cases h0 : x0 = y0 <;> by_cases h1 : x1 = y1 <;> simp [Program.fieldsOf, Tryz.underlying47, go_sem, Op.eqFields, h0, h1]
theorem z51 : lU Tryz.prog 51 = some [.nilFunc] := by kernel_rfl
theorem z70 : lU Tryz.prog 70 = some [.nilFunc] := by kernel_rfl
theorem z72 : lU Tryz.prog 72 = some [.nilFunc] := by kernel_rfl
theorem Ny : Dj Tryz.prog 92 2 = true := by kernel_rfl
theorem SE : lU Tryz.prog 92 = some [.int .i64 0, .int .i64 0] := by kernel_rfl
theorem FR : vF Tryz.prog 92 0 = some 0 := by kernel_rfl
theorem qQq : vF Tryz.prog 92 1 = some 1 := by kernel_rfl
theorem aAo : (Tryz.prog).eqGuardType (Tryz.prog).depth 92 = false := by kernel_rfl
theorem W4 (x0 y0 x1 y1 : Int) (w : World) : (Op.equalIn 10000 92 (.agg #[.int .i64 x0, .int .i64 x1]) (.agg #[.int .i64 y0, .int .i64 y1])).run Tryz.prog w = .ok (decide (x0 = y0) && decide (x1 = y1)) w := by
 have hp : Tryz.prog.stoodInHeld 92 = false := by kernel_rfl
 have ht : Tryz.prog.underlying 92 = some (.struct (Tryz.prog.fieldsOf 92)) := by kernel_rfl
 rw [run_equalIn_agg (d := 9999) _ _ _ _ ht hp]
 by_cases h0 : x0 = y0 <;> by_cases h1 : x1 = y1 <;> simp [Program.fieldsOf, Tryz.underlying92, go_sem, Op.eqFields, h0, h1]
theorem PJ : G5 Tryz.prog 94 96 2 16 = true := by kernel_rfl
theorem W5 : ∃ e, Tryz.prog.underlying 94 = some (.slice e) := ⟨_, (mQ PJ).1⟩
theorem W6 : Dj Tryz.prog 96 2 = true := by kernel_rfl
theorem z96 : lU Tryz.prog 96 = some [.int .i64 0, .int .i64 0] := by kernel_rfl
theorem PK : Tryz.prog.underlying 96 = some (.array 2 3) := by kernel_rfl
theorem z105 : lU Tryz.prog 105 = some [.nilFunc] := by kernel_rfl
theorem z116 : lU Tryz.prog 116 = some [.nilFunc] := by kernel_rfl
theorem D8 : G1 Tryz.prog 123 = true := by kernel_rfl
theorem lE : G5 Tryz.prog 123 5 1 1 = true := by kernel_rfl
theorem PL : ∃ e, Tryz.prog.underlying 123 = some (.slice e) := ⟨_, (mQ lE).1⟩
theorem z124 : lU Tryz.prog 124 = some [.slice none 0 0] := by kernel_rfl
theorem AR : vF Tryz.prog 125 0 = some 0 := by kernel_rfl
theorem z127 : lU Tryz.prog 127 = some [.nilFunc] := by kernel_rfl
theorem t7 : G1 Tryz.prog 131 = true := by kernel_rfl
theorem z131 : lU Tryz.prog 131 = some [.pointer none] := by kernel_rfl
theorem rA : vF Tryz.prog 133 0 = some 0 := by kernel_rfl
theorem z138 : lU Tryz.prog 138 = some [.int .i64 0, .int .i64 0, .int .i64 0, .int .i64 0, .int .i64 0] := by kernel_rfl
theorem HY : Tryz.prog.underlying 138 = some (.array 5 3) := by kernel_rfl
theorem z139 : lU Tryz.prog 139 = some [.nilFunc] := by kernel_rfl
theorem Cr : G1 Tryz.prog 141 = true := by kernel_rfl
theorem z141 : lU Tryz.prog 141 = some [.pointer none] := by kernel_rfl
theorem z146 : lU Tryz.prog 146 = some [.pointer none] := by kernel_rfl
theorem PM : Tryz.prog.underlying 154 = some (.int .u64) := by kernel_rfl
theorem z164 : lU Tryz.prog 164 = some [.nilFunc] := by kernel_rfl
theorem J3 : Tryz.prog.underlying 189 = some (.int .u16) := by kernel_rfl
theorem W7 : Tryz.prog.underlying 227 = some (.array 8 3) := by kernel_rfl
theorem Mt : Tryz.prog.underlying 272 = some (.map 9 3) := by kernel_rfl
theorem aAp : (Tryz.prog).eqGuardType (Tryz.prog).depth 22 = false := by kernel_rfl
theorem W8 (x0 y0 x1 y1 x2 y2 x3 y3 : Int) (w : World) : (Op.equalIn 10000 22 (.agg #[.int .i64 x0, .int .i64 x1, .int .i64 x2, .int .i64 x3]) (.agg #[.int .i64 y0, .int .i64 y1, .int .i64 y2, .int .i64 y3])).run Tryz.prog w = .ok (decide ([x0, x1, x2, x3] = [y0, y1, y2, y3])) w := PB PG D7 B6 [x0, x1, x2, x3] [y0, y1, y2, y3] rfl rfl w
theorem aAq : (Tryz.prog).eqGuardType (Tryz.prog).depth 24 = false := by kernel_rfl
theorem W9 (x0 y0 x1 y1 x2 y2 : Int) (w : World) : (Op.equalIn 10000 24 (.agg #[.int .i64 x0, .int .i64 x1, .int .i64 x2]) (.agg #[.int .i64 y0, .int .i64 y1, .int .i64 y2])).run Tryz.prog w = .ok (decide ([x0, x1, x2] = [y0, y1, y2])) w := PB PH D7 B6 [x0, x1, x2] [y0, y1, y2] rfl rfl w
theorem aAr : (Tryz.prog).eqGuardType (Tryz.prog).depth 25 = false := by kernel_rfl
theorem Xa (x0 y0 x1 y1 x2 y2 x3 y3 x4 y4 x5 y5 x6 y6 x7 y7 x8 y8 : Int) (w : World) : (Op.equalIn 10000 25 (.agg #[.int .i64 x0, .int .i64 x1, .int .i64 x2, .int .i64 x3, .int .i64 x4, .int .i64 x5, .int .i64 x6, .int .i64 x7, .int .i64 x8]) (.agg #[.int .i64 y0, .int .i64 y1, .int .i64 y2, .int .i64 y3, .int .i64 y4, .int .i64 y5, .int .i64 y6, .int .i64 y7, .int .i64 y8])).run Tryz.prog w = .ok (decide ([x0, x1, x2, x3, x4, x5, x6, x7, x8] = [y0, y1, y2, y3, y4, y5, y6, y7, y8])) w := PB PI D7 B6 [x0, x1, x2, x3, x4, x5, x6, x7, x8] [y0, y1, y2, y3, y4, y5, y6, y7, y8] rfl rfl w
theorem Xb : fD Tryz.prog 11 = true := by kernel_rfl
theorem SF : fD Tryz.prog 14 = true := by kernel_rfl
theorem Xc : fD Tryz.prog 16 = true := by kernel_rfl
theorem Xd : fD Tryz.prog 19 = true := by kernel_rfl
theorem PN : fD Tryz.prog 20 = true := by kernel_rfl
theorem Xe : fD Tryz.prog 21 = true := by kernel_rfl
theorem Xf : fD Tryz.prog 22 = true := by kernel_rfl
theorem Mu : fD Tryz.prog 23 = true := by kernel_rfl
theorem SG : fD Tryz.prog 24 = true := by kernel_rfl
theorem Xg : fD Tryz.prog 25 = true := by kernel_rfl
theorem Xh : fD Tryz.prog 27 = true := by kernel_rfl
theorem Xi : fD Tryz.prog 35 = true := by kernel_rfl
theorem Xj : fD Tryz.prog 36 = true := by kernel_rfl
theorem SH : fD Tryz.prog 45 = true := by kernel_rfl
theorem SI : fD Tryz.prog 46 = true := by kernel_rfl
theorem SJ : fD Tryz.prog 47 = true := by kernel_rfl
theorem Xk : fD Tryz.prog 48 = true := by kernel_rfl
theorem Xl : fD Tryz.prog 49 = true := by kernel_rfl
theorem Xm : fD Tryz.prog 50 = true := by kernel_rfl
theorem SK : fD Tryz.prog 51 = true := by kernel_rfl
theorem Xn : fD Tryz.prog 52 = true := by kernel_rfl
theorem Xo : fD Tryz.prog 53 = true := by kernel_rfl
theorem Xp : fD Tryz.prog 55 = true := by kernel_rfl
theorem Xq : fD Tryz.prog 56 = true := by kernel_rfl
theorem SM : fD Tryz.prog 57 = true := by kernel_rfl
theorem Xr : fD Tryz.prog 59 = true := by kernel_rfl
theorem Xs : fD Tryz.prog 60 = true := by kernel_rfl
theorem Xt : fD Tryz.prog 61 = true := by kernel_rfl
theorem Xu : fD Tryz.prog 62 = true := by kernel_rfl
theorem Xv : fD Tryz.prog 63 = true := by kernel_rfl
theorem Xw : fD Tryz.prog 72 = true := by kernel_rfl
theorem rP : fD Tryz.prog 74 = true := by kernel_rfl
theorem Xx : fD Tryz.prog 75 = true := by kernel_rfl
theorem Xy : fD Tryz.prog 76 = true := by kernel_rfl
theorem J4 : fD Tryz.prog 77 = true := by kernel_rfl
theorem SN : fD Tryz.prog 78 = true := by kernel_rfl
theorem SO : fD Tryz.prog 79 = true := by kernel_rfl
theorem AS : fD Tryz.prog 80 = true := by kernel_rfl
theorem pE : fD Tryz.prog 83 = true := by kernel_rfl
theorem GA : fD Tryz.prog 84 = true := by kernel_rfl
theorem gJ : fD Tryz.prog 85 = true := by kernel_rfl
theorem Mv : fD Tryz.prog 86 = true := by kernel_rfl
theorem Mw : fD Tryz.prog 87 = true := by kernel_rfl
theorem Xz : fD Tryz.prog 88 = true := by kernel_rfl
theorem XA : fD Tryz.prog 89 = true := by kernel_rfl
theorem XB : fD Tryz.prog 90 = true := by kernel_rfl
theorem XC : fD Tryz.prog 91 = true := by kernel_rfl
theorem GB : fD Tryz.prog 95 = true := by kernel_rfl
theorem SP : fD Tryz.prog 98 = true := by kernel_rfl
theorem PO : fD Tryz.prog 104 = true := by kernel_rfl
theorem Cs : fD Tryz.prog 107 = true := by kernel_rfl
theorem Us : fD Tryz.prog 108 = true := by kernel_rfl
theorem Ut : fD Tryz.prog 109 = true := by kernel_rfl
theorem LJ : fD Tryz.prog 118 = true := by kernel_rfl
theorem PP : fD Tryz.prog 119 = true := by kernel_rfl
theorem Uu : fD Tryz.prog 120 = true := by kernel_rfl
theorem PQ : fD Tryz.prog 121 = true := by kernel_rfl
theorem Uv : fD Tryz.prog 122 = true := by kernel_rfl
theorem PR : fD Tryz.prog 123 = true := by kernel_rfl
theorem GC : fD Tryz.prog 124 = true := by kernel_rfl
theorem PS : fD Tryz.prog 125 = true := by kernel_rfl
theorem GD : fD Tryz.prog 126 = true := by kernel_rfl
theorem PT : fD Tryz.prog 127 = true := by kernel_rfl
theorem IY : fD Tryz.prog 129 = true := by kernel_rfl
theorem Uw : fD Tryz.prog 130 = true := by kernel_rfl
theorem PU : fD Tryz.prog 131 = true := by kernel_rfl
theorem Dz : fD Tryz.prog 132 = true := by kernel_rfl
theorem PV : fD Tryz.prog 133 = true := by kernel_rfl
theorem PW : fD Tryz.prog 134 = true := by kernel_rfl
theorem Ux : fD Tryz.prog 135 = true := by kernel_rfl
theorem PX : fD Tryz.prog 136 = true := by kernel_rfl
theorem Uy : fD Tryz.prog 137 = true := by kernel_rfl
theorem zS : fD Tryz.prog 141 = true := by kernel_rfl
theorem BA : fD Tryz.prog 142 = true := by kernel_rfl
theorem Uz : fD Tryz.prog 144 = true := by kernel_rfl
theorem UA : fD Tryz.prog 145 = true := by kernel_rfl
theorem UB : fD Tryz.prog 146 = true := by kernel_rfl
theorem UC : fD Tryz.prog 147 = true := by kernel_rfl
theorem PY : fD Tryz.prog 148 = true := by kernel_rfl
theorem UD : fD Tryz.prog 149 = true := by kernel_rfl
theorem UE : fD Tryz.prog 150 = true := by kernel_rfl
theorem UF : fD Tryz.prog 157 = true := by kernel_rfl
theorem UG : fD Tryz.prog 158 = true := by kernel_rfl
theorem UH : fD Tryz.prog 159 = true := by kernel_rfl
theorem UI : fD Tryz.prog 160 = true := by kernel_rfl
theorem UJ : fD Tryz.prog 161 = true := by kernel_rfl
theorem PZ : fD Tryz.prog 163 = true := by kernel_rfl
theorem UK : fD Tryz.prog 164 = true := by kernel_rfl
theorem UL : fD Tryz.prog 165 = true := by kernel_rfl
theorem UM : fD Tryz.prog 166 = true := by kernel_rfl
theorem UN : fD Tryz.prog 168 = true := by kernel_rfl
theorem P0 : fD Tryz.prog 169 = true := by kernel_rfl
theorem P1 : fD Tryz.prog 170 = true := by kernel_rfl
theorem UO : fD Tryz.prog 172 = true := by kernel_rfl
theorem UP : fD Tryz.prog 173 = true := by kernel_rfl
theorem UQ : fD Tryz.prog 174 = true := by kernel_rfl
theorem IZ : fD Tryz.prog 175 = true := by kernel_rfl
theorem P3 : fD Tryz.prog 176 = true := by kernel_rfl
theorem P4 : fD Tryz.prog 177 = true := by kernel_rfl
theorem UR : fD Tryz.prog 178 = true := by kernel_rfl
theorem US : fD Tryz.prog 179 = true := by kernel_rfl
theorem UT : fD Tryz.prog 180 = true := by kernel_rfl
theorem P5 : fD Tryz.prog 181 = true := by kernel_rfl
theorem P6 : fD Tryz.prog 182 = true := by kernel_rfl
theorem UU : fD Tryz.prog 183 = true := by kernel_rfl
theorem UV : fD Tryz.prog 190 = true := by kernel_rfl
theorem UW : fD Tryz.prog 191 = true := by kernel_rfl
theorem UX : fD Tryz.prog 192 = true := by kernel_rfl
theorem UY : fD Tryz.prog 193 = true := by kernel_rfl
theorem P7 : fD Tryz.prog 194 = true := by kernel_rfl
theorem UZ : fD Tryz.prog 195 = true := by kernel_rfl
theorem P8 : fD Tryz.prog 196 = true := by kernel_rfl
theorem U0 : fD Tryz.prog 197 = true := by kernel_rfl
theorem U1 : fD Tryz.prog 209 = true := by kernel_rfl
theorem U2 : fD Tryz.prog 220 = true := by kernel_rfl
theorem cc9 : Program.concrete Tryz.prog 9 = true := by kernel_rfl
theorem zT : Program.concrete Tryz.prog 137 = true := by kernel_rfl
theorem bZ {p : Prop} (h : p := by kernel_rfl) : p := h
theorem aM {p : Prop} (h : p := by decide) : p := h
abbrev aK := @wpList_nil
theorem fS {P : Program} {D : List Deferred} {a : Act} {w : World} {N : Nat} {l : List (Nat × Value)} {o : Oper} {x : Operand} {post : Value → World → Prop} {f : FuncId} {vs : List Value} {args : Array Operand} {ts : Array TypeId} (hf : fD P f = true) (K : Kd D a N l) (h : Calls P f vs.toArray w fun e w' => ∃ v, e = .returned v ∧ post v w') (ho : o.op = .call { callee := .value x, args := args, argTypes := ts } := by exact rfl) (hx : kK l x = some (.func (.func f) #[] #[]) := by exact rfl) (hargs : args.toList.map (kK l) = vs.map some := by exact rfl) : Ac P o a w post := lP (cap := []) ho hf K hx hargs (by rw [List.append_nil]; exact h)
theorem Br {P : Program} {D : List Deferred} {a : Act} {w : World} {N : Nat} {l : List (Nat × Value)} {o : Oper} {x : Operand} {Pn : List PanicEntry → World → Prop} {f : FuncId} {vs : List Value} {args : Array Operand} {ts : Array TypeId} (hf : fD P f = true) (K : Kd D a N l) (h : Calls P f vs.toArray w fun e w' => ∃ ch, e = .panicked ch ∧ Pn ch w') (ho : o.op = .call { callee := .value x, args := args, argTypes := ts } := by exact rfl) (hx : kK l x = some (.func (.func f) #[] #[]) := by exact rfl) (hargs : args.toList.map (kK l) = vs.map some := by exact rfl) : Bo P o a w Pn := RW (cap := []) ho hf K hx hargs (by rw [List.append_nil]; exact h)
theorem Mem.rM {base : Nat} {W w : World} {x0 x1 : mA} {TL : List mA} (M : Mem base W w (x0 :: x1 :: TL)) : Mem base W w (x1 :: x0 :: TL) := Mem.pD (H := [x0, x1]) 2 rfl M [1,0] (by decide) (by decide)
theorem Mem.AT {base : Nat} {W w : World} {x0 x1 x2 : mA} {TL : List mA} (M : Mem base W w (x0 :: x1 :: x2 :: TL)) : Mem base W w (x1 :: x2 :: x0 :: TL) := Mem.pD (H := [x0, x1, x2]) 3 rfl M [1,2,0] (by decide) (by decide)
theorem Mem.J5 {base : Nat} {W w : World} {x0 x1 x2 : mA} {TL : List mA} (M : Mem base W w (x0 :: x1 :: x2 :: TL)) : Mem base W w (x2 :: x0 :: x1 :: TL) := Mem.pD (H := [x0, x1, x2]) 3 rfl M [2,0,1] (by decide) (by decide)
theorem Mem.DA {base : Nat} {W w : World} {x0 x1 x2 x3 : mA} {TL : List mA} (M : Mem base W w (x0 :: x1 :: x2 :: x3 :: TL)) : Mem base W w (x2 :: x3 :: x0 :: x1 :: TL) := Mem.pD (H := [x0, x1, x2, x3]) 4 rfl M [2,3,0,1] (by decide) (by decide)
theorem DB {N : Nat} {w0 : World} {r : List Int} (h : uV N  = some r) :
  Calls Tryz.prog 149 #[] w0 fun e w' => ∃ v, e = .returned v ∧ ∃ A0 c0, v = .slice A0 r.length c0 ∧ Mem w0.heap.size w0 w' [.row 3 1 A0 r.length c0 ((cI .i64).all r)] := by
 refine bW Tryz.func149 rfl Tryz.ntmps149 rfl ?_;intro a K;have M := Mem.start w0;have K : Kn a 2 [] := K;unfold uV at h;refine wp_seq (aB ?_);refine aI K M ?_; clear K; intro a K;refine aK (aA (wp_seq (aB ?_)));refine eA K (eH rfl gW z3 K (vs := [(0, I 2), (1, I 3), (2, I 3), (3, I 4), (4, I 4), (5, I 4), (6, I 5), (7, I 5), (8, I 5), (9, I 6), (10, I 6), (11, I 6), (12, I 7), (13, I 7), (14, I 7), (15, I 8), (16, I 8)]) (cs := [I 2, I 3, I 3, I 4, I 4, I 4, I 5, I 5, I 5, I 6, I 6, I 6, I 7, I 7, I 7, I 8, I 8]) rfl bZ rfl rfl M) ?_;have M0 := M; clear K M; rintro _ a w ⟨gs, rfl, M⟩ K;replace M := M.lD 0 rfl (cI .i64) ([2, 3, 3, 4, 4, 4, 5, 5, 5, 6, 6, 6, 7, 7, 7, 8, 8] : List Int) (n := 17) rfl rfl rfl;clear M0;refine aI K M ?_; clear K; intro a K;refine aK (aA (wp_ret ?_));cases h;exact dH K rfl (aC K rfl) ⟨_, rfl, _, _, rfl, M.pick [0] aM⟩
theorem Ct {N : Nat} {w0 : World} {r : List (Int × Int)} (h : s0 N  = some r) :
  Calls Tryz.prog 144 #[] w0 fun e w' => ∃ v, e = .returned v ∧ ∃ A0 c0, v = .slice A0 r.length c0 ∧ Mem w0.heap.size w0 w' [.row 47 2 A0 r.length c0 (f5.all r)] := by
 refine bW Tryz.func144 rfl Tryz.ntmps144 rfl ?_;intro a K;have M := Mem.start w0;have K : Kn a 4 [] := K;unfold s0 at h;refine wp_seq (aB ?_);refine aI K M ?_; clear K; intro a K;refine aK (aA (wp_seq (aB ?_)));refine d7 K (dN rfl K (vs := []) (cs := [I 0, I 0]) rfl bZ) M ?_; clear K;refine bL (fun _ K => dN rfl K (vs := [(0, I 65535), (1, I 65535)]) (cs := [I 65535, I 65535]) rfl bZ) M ?_; intro a K;refine eA K (eH rfl uC z47 K (vs := [(0, .agg #[I 0, I 0]), (1, .agg #[I 65535, I 65535])]) (cs := [I 0, I 0, I 65535, I 65535]) rfl bZ rfl rfl M) ?_;have M0 := M; clear K M; rintro _ a w ⟨gs, rfl, M⟩ K;replace M := M.lD 0 rfl f5 ([(0, 0), (65535, 65535)] : List (Int × Int)) (n := 2) rfl rfl rfl;clear M0;refine aI K M ?_; clear K; intro a K;refine aK (aA (wp_ret ?_));cases h;exact dH K rfl (aC K rfl) ⟨_, rfl, _, _, rfl, M.pick [0] aM⟩
theorem Cu {N : Nat} {w0 : World} {r : Int × Int × Int × Int × Int × Int × List (Int × Int) × Int × Int × Int × Int × Int × Int × Int × Int × Int × Int × Int × Int × List (Int × Int) × Int} (h : s9 N  = some r) :
  Calls Tryz.prog 72 #[] w0 fun e w' => ∃ v, e = .returned v ∧ ∃ A6 c6 Ow c19, v = .agg #[I r.1, I r.2.1, I r.2.2.1, I r.2.2.2.1, I r.2.2.2.2.1, I r.2.2.2.2.2.1, .slice A6 r.2.2.2.2.2.2.1.length c6, I r.2.2.2.2.2.2.2.1, I r.2.2.2.2.2.2.2.2.1, I r.2.2.2.2.2.2.2.2.2.1, I r.2.2.2.2.2.2.2.2.2.2.1, I r.2.2.2.2.2.2.2.2.2.2.2.1, I r.2.2.2.2.2.2.2.2.2.2.2.2.1, I r.2.2.2.2.2.2.2.2.2.2.2.2.2.1, I r.2.2.2.2.2.2.2.2.2.2.2.2.2.2.1, I r.2.2.2.2.2.2.2.2.2.2.2.2.2.2.2.1, I r.2.2.2.2.2.2.2.2.2.2.2.2.2.2.2.2.1, I r.2.2.2.2.2.2.2.2.2.2.2.2.2.2.2.2.2.1, I r.2.2.2.2.2.2.2.2.2.2.2.2.2.2.2.2.2.2.1, .slice Ow r.2.2.2.2.2.2.2.2.2.2.2.2.2.2.2.2.2.2.2.1.length c19, I r.2.2.2.2.2.2.2.2.2.2.2.2.2.2.2.2.2.2.2.2] ∧ Mem w0.heap.size w0 w' [.row 92 2 A6 r.2.2.2.2.2.2.1.length c6 (f5.all r.2.2.2.2.2.2.1), .row 47 2 Ow r.2.2.2.2.2.2.2.2.2.2.2.2.2.2.2.2.2.2.2.1.length c19 (f5.all r.2.2.2.2.2.2.2.2.2.2.2.2.2.2.2.2.2.2.2.1)] := by
 refine bW Tryz.func72 rfl Tryz.ntmps72 rfl ?_;intro a K;have M := Mem.start w0;have K : Kn a 5 [] := K;unfold s9 at h;refine wp_seq (aB ?_);refine eA K (fX rfl z28 M) ?_;clear K M; rintro _ a w ⟨gL, rfl, M⟩ K;refine aK (aA (wp_seq (aB ?_)));refine d7 K (dN rfl K (vs := [(0, I 256), (1, I 256), (2, I 256)]) (cs := [I 256, I 256, I 256]) rfl bZ) M ?_; clear K;refine bL (fun _ K => dN rfl K (vs := [(0, I 4096), (1, I 0), (2, I 0), (3, I 0), (4, I 4096), (5, I 0), (6, I 0), (7, I 0), (8, I 4096)]) (cs := [I 4096, I 0, I 0, I 0, I 4096, I 0, I 0, I 0, I 4096]) rfl bZ) M ?_; intro a K;obtain ⟨r2, gX, h⟩ := aF h;refine eA K (fS Uz K (Ct gX)) ?_;clear K; rintro _ a w ⟨A, c, rfl, Zq⟩ K;replace M := M.call Zq; clear Zq;refine d7 K (dN rfl K (vs := [(2, I 65535), (4, .agg #[I 256, I 256, I 256]), (5, .agg #[I 4096, I 0, I 0, I 0, I 4096, I 0, I 0, I 0, I 4096]), (6, .slice A r2.length c), (7, I 64)]) (cs := [I 0, I 0, I 0, I 0, I 0, I 65535, .slice none (([] : List (Int × Int))).length 0, I 256, I 256, I 256, I 4096, I 0, I 0, I 0, I 4096, I 0, I 0, I 0, I 4096, .slice A r2.length c, I 64]) rfl bZ) M ?_; clear K; intro a K;refine nB K (dC rfl J2 K rfl (ds := [I 0, I 0, I 0, I 0, I 0, I 65535, .slice none (([] : List (Int × Int))).length 0, I 256, I 256, I 256, I 4096, I 0, I 0, I 0, I 4096, I 0, I 0, I 0, I 4096, .slice A r2.length c, I 64]) rfl rfl 1 M rfl rfl rfl) ?_;clear K M; rintro _ a w M K;refine aK (aA (wp_ret ?_));cases h;exact dH K rfl (cO K rfl J2 (M.dX (i := 1) rfl) rfl) ⟨_, rfl, _, _, _, _, rfl, (((Mem.bH 92 2 f5 M)).pick [0,1] aM)⟩
theorem xH {N : Nat} {w0 : World} {r : Int × Int × List Int} (h : pT N  = some r) :
  Calls Tryz.prog 78 #[] w0 fun e w' => ∃ v, e = .returned v ∧ ∃ A2 c2, v = .agg #[I r.1, I r.2.1, .slice A2 r.2.2.length c2] ∧ Mem w0.heap.size w0 w' [.row 3 1 A2 r.2.2.length c2 ((cI .i64).all r.2.2)] := by
 refine bW Tryz.func78 rfl Tryz.ntmps78 rfl ?_;intro a K;have M := Mem.start w0;have K : Kn a 3 [] := K;unfold pT at h;refine wp_seq (aB ?_);refine eA K (fX rfl z31 M) ?_;clear K M; rintro _ a w ⟨gL, rfl, M⟩ K;refine aK (aA (wp_seq (aB ?_)));refine eA K (eH rfl gW z3 K (vs := [(0, I 10), (1, I 65535), (2, I 0), (3, I 7)]) (cs := [I 10, I 65535, I 0, I 7]) rfl bZ rfl rfl M) ?_;have M0 := M; clear K M; rintro _ a w ⟨gs, rfl, M⟩ K;replace M := M.lD 0 rfl (cI .i64) ([10, 65535, 0, 7] : List Int) (n := 4) rfl rfl rfl;clear M0;refine d7 K (dN rfl K (vs := [(0, I 2), (1, I 2), (2, .slice (some ⟨gs, 0, none⟩) ([10, 65535, 0, 7] : List Int).length 4)]) (cs := [I 2, I 2, .slice (some ⟨gs, 0, none⟩) ([10, 65535, 0, 7] : List Int).length 4]) rfl bZ) M ?_; clear K; intro a K;refine nB K (dC rfl gN K rfl (ds := [I 2, I 2, .slice (some ⟨gs, 0, none⟩) ([10, 65535, 0, 7] : List Int).length 4]) rfl rfl 1 M rfl rfl rfl) ?_;clear K M; rintro _ a w M K;refine aK (aA (wp_ret ?_));cases h;exact dH K rfl (cO K rfl gN (M.dX (i := 1) rfl) rfl) ⟨_, rfl, _, _, rfl, M.pick [0] aM⟩
theorem vA {N : Nat} {s : List (Int × Int)} {Dc : Option Addr} {D9 : Nat} {w0 : World} {r : List (Int × Int)} (h : mC N s = some r) (GE : SL w0 f5 Dc s) (P9 : s.length ≤ D9) :
  Calls Tryz.prog 49 #[.slice Dc s.length D9] w0 fun e w' => ∃ v, e = .returned v ∧ ∃ A0 c0, v = .slice A0 r.length c0 ∧ Mem w0.heap.size w0 w' [.row 92 2 A0 r.length c0 (f5.all r)] := by
 refine bW Tryz.func49 rfl Tryz.ntmps49 rfl ?_;intro a K;have M := Mem.start w0;have K : Kn a 8 [(0, _)] := K;unfold mC at h;refine wp_seq (aB ?_);refine aI K M ?_; clear K; intro a K;refine aK (aA (wp_seq (wp_seq (aB ?_))));refine aI K M ?_; clear K; intro a K
 by_cases hA : (Dc).isNone = true
 ·have hs := SL.Gz GE hA;replace h : some ([] : List (Int × Int)) = some r := by rw [hs] at h; exact h
  clear hs;refine d7 K (Dk (b' := true) hA (yO rfl Fr K rfl rfl)) M ?_; clear K; intro a K;refine aK (aA ?_);refine cA K rfl ?_;refine wp_seq (aB ?_);refine aI K M ?_; clear K; intro a K;refine aK (aA (wp_ret (aH ?_)));cases h;exact dH K rfl (aC K rfl) ⟨_, rfl, _, _, rfl, (((Mem.bH 92 2 f5 M)).pick [0] aM)⟩
 refine d7 K (Dk (b' := false) ((Bool.not_eq_true _).mp hA) (yO rfl Fr K rfl rfl)) M ?_; clear K; intro a K;refine aK (aA ?_);refine nC K rfl ?_;refine wp_skip (aA (wp_seq (aB ?_)));refine eA K (Dx (C := f5) rfl C4 rfl K M) ?_;clear K M; rintro _ a w ⟨gs, rfl, M⟩ K;refine aI K M ?_; clear K; intro a K;obtain ⟨l2, DC, h⟩ := aF h;refine eA K (mN (C := f5) (xs := ([] : List (Int × Int))) (ys := s) rfl C4 rfl SE rfl rfl K rfl rfl 0 M rfl ((eS GE) _ M) DC) ?_;clear K M; rintro _ a w ⟨A, c, rfl, M⟩ K;refine aI K M ?_; clear K; intro a K;refine aK (aA (wp_ret ?_));cases h;exact dH K rfl (aC K rfl) ⟨_, rfl, _, _, rfl, M.pick [0] aM⟩
theorem uM {N : Nat} {s : List (Int × Int)} {Dc : Option Addr} {D9 : Nat} {w0 : World} {r : List (Int × Int)} (h : lJ N s = some r) (GE : SL w0 f5 Dc s) (P9 : s.length ≤ D9) :
  Calls Tryz.prog 50 #[.slice Dc s.length D9] w0 fun e w' => ∃ v, e = .returned v ∧ ∃ A0 c0, v = .slice A0 r.length c0 ∧ Mem w0.heap.size w0 w' [.row 47 2 A0 r.length c0 (f5.all r)] := by
 refine bW Tryz.func50 rfl Tryz.ntmps50 rfl ?_;intro a K;have M := Mem.start w0;have K : Kn a 8 [(0, _)] := K;unfold lJ at h;refine wp_seq (aB ?_);refine aI K M ?_; clear K; intro a K;refine aK (aA (wp_seq (wp_seq (aB ?_))));refine aI K M ?_; clear K; intro a K
 by_cases hA : (Dc).isNone = true
 ·have hs := SL.Gz GE hA;replace h : some ([] : List (Int × Int)) = some r := by rw [hs] at h; exact h
  clear hs;refine d7 K (Dk (b' := true) hA (yO rfl Cq K rfl rfl)) M ?_; clear K; intro a K;refine aK (aA ?_);refine cA K rfl ?_;refine wp_seq (aB ?_);refine aI K M ?_; clear K; intro a K;refine aK (aA (wp_ret (aH ?_)));cases h;exact dH K rfl (aC K rfl) ⟨_, rfl, _, _, rfl, (((Mem.bH 47 2 f5 M)).pick [0] aM)⟩
 refine d7 K (Dk (b' := false) ((Bool.not_eq_true _).mp hA) (yO rfl Cq K rfl rfl)) M ?_; clear K; intro a K;refine aK (aA ?_);refine nC K rfl ?_;refine wp_skip (aA (wp_seq (aB ?_)));refine eA K (Dx (C := f5) rfl uC rfl K M) ?_;clear K M; rintro _ a w ⟨gs, rfl, M⟩ K;refine aI K M ?_; clear K; intro a K;obtain ⟨l2, DC, h⟩ := aF h;refine eA K (mN (C := f5) (xs := ([] : List (Int × Int))) (ys := s) rfl uC rfl z47 rfl rfl K rfl rfl 0 M rfl ((eS GE) _ M) DC) ?_;clear K M; rintro _ a w ⟨A, c, rfl, M⟩ K;refine aI K M ?_; clear K; intro a K;refine aK (aA (wp_ret ?_));cases h;exact dH K rfl (aC K rfl) ⟨_, rfl, _, _, rfl, M.pick [0] aM⟩
end
section
open Go.RowKit Go.Shelf
def J6 : Go.Shelf.Ren := ⟨fun | 160 => 195 | 232 => 212 | 231 => 211 | 227 => 213 | 234 => 215 | 233 => 214 | 236 => 217 | 235 => 216 | 228 => 233 | 271 => 236 | 151 => 235 | 197 => 234 | 120 => 246 | 152 => 245 | 260 => 244 | 137 => 247 | 119 => 248 | 224 => 227 | 225 => 226 | 217 => 225 | 266 => 239 | n => n, fun | 9 => 9 | 4 => 4 | 3 => 3 | 5 => 5 | 117 => 267 | 116 => 266 | 0 => 0 | 124 => 270 | 21 => 21 | 105 => 284 | 46 => 154 | 119 => 296 | 139 => 299 | 138 => 298 | n => n, fun | 3 => 6 | 4 => 7 | n => n⟩
theorem RX : Go.Proofs.Lays.n160 Tryz.prog J6 := {
 mixed := by kernel_rfl
 f119 := Tryz.func248.trans (congrArg some (by kernel_rfl))
 f120 := Tryz.func246.trans (congrArg some (by kernel_rfl))
 f137 := Tryz.func247.trans (congrArg some (by kernel_rfl))
 f151 := Tryz.func235.trans (congrArg some (by kernel_rfl))
 f152 := Tryz.func245.trans (congrArg some (by kernel_rfl))
 f160 := Tryz.func195.trans (congrArg some (by kernel_rfl))
 f197 := Tryz.func234.trans (congrArg some (by kernel_rfl))
 f217 := Tryz.func225.trans (congrArg some (by kernel_rfl))
 f224 := Tryz.func227.trans (congrArg some (by kernel_rfl))
 f225 := Tryz.func226.trans (congrArg some (by kernel_rfl))
 f227 := Tryz.func213.trans (congrArg some (by kernel_rfl))
 f228 := Tryz.func233.trans (congrArg some (by kernel_rfl))
 f231 := Tryz.func211.trans (congrArg some (by kernel_rfl))
 f232 := Tryz.func212.trans (congrArg some (by kernel_rfl))
 f233 := Tryz.func214.trans (congrArg some (by kernel_rfl))
 f234 := Tryz.func215.trans (congrArg some (by kernel_rfl))
 f235 := Tryz.func216.trans (congrArg some (by kernel_rfl))
 f236 := Tryz.func217.trans (congrArg some (by kernel_rfl))
 f260 := Tryz.func244.trans (congrArg some (by kernel_rfl))
 f266 := Tryz.func239.trans (congrArg some (by kernel_rfl))
 f271 := Tryz.func236.trans (congrArg some (by kernel_rfl))
 t0 := Tryz.underlying0
 a0 := Tryz.isAgg0
 z0 := Tryz.sizeOf0
 v0 := Tryz.zeroValue0
 t3 := Tryz.underlying3
 a3 := Tryz.isAgg3
 z3 := Tryz.sizeOf3
 v3 := Tryz.zeroValue3
 t4 := Tryz.underlying4
 a4 := Tryz.isAgg4
 z4 := Tryz.sizeOf4
 v4 := Tryz.zeroValue4
 t5 := Tryz.underlying5
 a5 := Tryz.isAgg5
 z5 := Tryz.sizeOf5
 v5 := Tryz.zeroValue5
 t9 := Tryz.underlying9
 a9 := Tryz.isAgg9
 z9 := Tryz.sizeOf9
 v9 := Tryz.zeroValue9
 t21 := Tryz.underlying21
 a21 := Tryz.isAgg21
 z21 := Tryz.sizeOf21
 v21 := Tryz.zeroValue21
 t46 := Tryz.underlying154
 a46 := Tryz.isAgg154
 z46 := Tryz.sizeOf154
 v46 := Tryz.zeroValue154
 t105 := Tryz.underlying284
 a105 := Tryz.isAgg284
 z105 := Tryz.sizeOf284
 v105 := Tryz.zeroValue284
 t116 := Tryz.underlying266
 a116 := Tryz.isAgg266
 z116 := Tryz.sizeOf266
 t117 := Tryz.underlying267
 a117 := Tryz.isAgg267
 z117 := Tryz.sizeOf267
 v117 := Tryz.zeroValue267
 t119 := Tryz.underlying296
 a119 := Tryz.isAgg296
 z119 := Tryz.sizeOf296
 t124 := Tryz.underlying270
 a124 := Tryz.isAgg270
 z124 := Tryz.sizeOf270
 v124 := Tryz.zeroValue270
 t138 := Tryz.underlying298
 a138 := Tryz.isAgg298
 z138 := Tryz.sizeOf298
 v138 := Tryz.zeroValue298
 t139 := Tryz.underlying299
 a139 := Tryz.isAgg299
 z139 := Tryz.sizeOf299
 v139 := Tryz.zeroValue299
 g3 := by kernel_rfl
 g4 := by kernel_rfl }
def J7 : Go.Shelf.Ren := ⟨fun | 138 => 196 | 195 => 218 | 218 => 219 | 143 => 198 | 219 => 203 | 217 => 225 | 225 => 226 | 224 => 227 | 267 => 228 | 266 => 239 | 314 => 240 | n => n, fun | 9 => 9 | 3 => 3 | 4 => 4 | 5 => 5 | 0 => 0 | 46 => 154 | 146 => 287 | 51 => 229 | n => n, fun | 1 => 1 | n => n⟩
theorem RY : Go.Proofs.Lays.n138 Tryz.prog J7 := {
 mixed := by kernel_rfl
 f138 := Tryz.func196.trans (congrArg some (by kernel_rfl))
 f143 := Tryz.func198.trans (congrArg some (by kernel_rfl))
 f195 := Tryz.func218.trans (congrArg some (by kernel_rfl))
 f217 := Tryz.func225.trans (congrArg some (by kernel_rfl))
 f218 := Tryz.func219.trans (congrArg some (by kernel_rfl))
 f219 := Tryz.func203.trans (congrArg some (by kernel_rfl))
 f224 := Tryz.func227.trans (congrArg some (by kernel_rfl))
 f225 := Tryz.func226.trans (congrArg some (by kernel_rfl))
 f266 := Tryz.func239.trans (congrArg some (by kernel_rfl))
 f267 := Tryz.func228.trans (congrArg some (by kernel_rfl))
 f314 := Tryz.func240.trans (congrArg some (by kernel_rfl))
 t0 := Tryz.underlying0
 a0 := Tryz.isAgg0
 z0 := Tryz.sizeOf0
 v0 := Tryz.zeroValue0
 t3 := Tryz.underlying3
 a3 := Tryz.isAgg3
 z3 := Tryz.sizeOf3
 v3 := Tryz.zeroValue3
 t4 := Tryz.underlying4
 a4 := Tryz.isAgg4
 z4 := Tryz.sizeOf4
 v4 := Tryz.zeroValue4
 t5 := Tryz.underlying5
 a5 := Tryz.isAgg5
 z5 := Tryz.sizeOf5
 v5 := Tryz.zeroValue5
 t9 := Tryz.underlying9
 a9 := Tryz.isAgg9
 z9 := Tryz.sizeOf9
 v9 := Tryz.zeroValue9
 t46 := Tryz.underlying154
 a46 := Tryz.isAgg154
 z46 := Tryz.sizeOf154
 v46 := Tryz.zeroValue154
 t51 := Tryz.underlying229
 a51 := Tryz.isAgg229
 z51 := Tryz.sizeOf229
 v51 := Tryz.zeroValue229
 t146 := Tryz.underlying287
 a146 := Tryz.isAgg287
 z146 := Tryz.sizeOf287
 v146 := Tryz.zeroValue287
 g1 := by kernel_rfl }
def Fa : Go.Shelf.Ren := ⟨fun | 169 => 98 | n => n, fun | 70 => 146 | 9 => 9 | 0 => 0 | 72 => 148 | 37 => 123 | 127 => 219 | 3 => 3 | 5 => 5 | n => n, fun | n => n⟩
theorem RZ : Go.Proofs.Lays.n169 Tryz.prog Fa := {
 mixed := by kernel_rfl
 f169 := Tryz.func98.trans (congrArg some (by kernel_rfl))
 t0 := Tryz.underlying0
 a0 := Tryz.isAgg0
 z0 := Tryz.sizeOf0
 v0 := Tryz.zeroValue0
 t3 := Tryz.underlying3
 a3 := Tryz.isAgg3
 z3 := Tryz.sizeOf3
 v3 := Tryz.zeroValue3
 t9 := Tryz.underlying9
 a9 := Tryz.isAgg9
 z9 := Tryz.sizeOf9
 v9 := Tryz.zeroValue9
 t37 := Tryz.underlying123
 a37 := Tryz.isAgg123
 z37 := Tryz.sizeOf123
 v37 := Tryz.zeroValue123
 t70 := Tryz.underlying146
 a70 := Tryz.isAgg146
 z70 := Tryz.sizeOf146
 v70 := Tryz.zeroValue146
 t72 := Tryz.underlying148
 a72 := Tryz.isAgg148
 z72 := Tryz.sizeOf148
 v72 := Tryz.zeroValue148
 t127 := Tryz.underlying219
 a127 := Tryz.isAgg219
 z127 := Tryz.sizeOf219
 v127 := Tryz.zeroValue219 }
def J8 : Go.Shelf.Ren := ⟨fun | 144 => 180 | 143 => 198 | 219 => 203 | 217 => 225 | 225 => 226 | 224 => 227 | 267 => 228 | 266 => 239 | 314 => 240 | n => n, fun | 9 => 9 | 4 => 4 | 3 => 3 | 5 => 5 | 46 => 154 | 146 => 287 | 51 => 229 | n => n, fun | 1 => 1 | n => n⟩
theorem R0 : Go.Proofs.Lays.n144 Tryz.prog J8 := {
 mixed := by kernel_rfl
 f143 := Tryz.func198.trans (congrArg some (by kernel_rfl))
 f144 := Tryz.func180.trans (congrArg some (by kernel_rfl))
 f217 := Tryz.func225.trans (congrArg some (by kernel_rfl))
 f219 := Tryz.func203.trans (congrArg some (by kernel_rfl))
 f224 := Tryz.func227.trans (congrArg some (by kernel_rfl))
 f225 := Tryz.func226.trans (congrArg some (by kernel_rfl))
 f266 := Tryz.func239.trans (congrArg some (by kernel_rfl))
 f267 := Tryz.func228.trans (congrArg some (by kernel_rfl))
 f314 := Tryz.func240.trans (congrArg some (by kernel_rfl))
 t3 := Tryz.underlying3
 a3 := Tryz.isAgg3
 z3 := Tryz.sizeOf3
 v3 := Tryz.zeroValue3
 t4 := Tryz.underlying4
 a4 := Tryz.isAgg4
 z4 := Tryz.sizeOf4
 v4 := Tryz.zeroValue4
 t5 := Tryz.underlying5
 a5 := Tryz.isAgg5
 z5 := Tryz.sizeOf5
 v5 := Tryz.zeroValue5
 t9 := Tryz.underlying9
 a9 := Tryz.isAgg9
 z9 := Tryz.sizeOf9
 v9 := Tryz.zeroValue9
 t46 := Tryz.underlying154
 a46 := Tryz.isAgg154
 z46 := Tryz.sizeOf154
 v46 := Tryz.zeroValue154
 t51 := Tryz.underlying229
 a51 := Tryz.isAgg229
 z51 := Tryz.sizeOf229
 v51 := Tryz.zeroValue229
 t146 := Tryz.underlying287
 a146 := Tryz.isAgg287
 z146 := Tryz.sizeOf287
 v146 := Tryz.zeroValue287
 g1 := by kernel_rfl }
def Cv : Go.Shelf.Ren := ⟨fun | 166 => 95 | 240 => 150 | 276 => 184 | 169 => 98 | n => n, fun | 0 => 0 | 3 => 3 | 4 => 4 | 5 => 5 | 9 => 9 | 20 => 20 | 37 => 123 | 70 => 146 | 72 => 148 | 75 => 150 | 80 => 145 | 164 => 241 | 127 => 219 | n => n, fun | n => n⟩
theorem Mx : Go.Proofs.Lays.n166 Tryz.prog Cv := {
 mixed := by kernel_rfl
 f166 := Tryz.func95.trans (congrArg some (by kernel_rfl))
 f240 := Tryz.func150.trans (congrArg some (by kernel_rfl))
 f276 := Tryz.func184.trans (congrArg some (by kernel_rfl))
 t0 := Tryz.underlying0
 a0 := Tryz.isAgg0
 z0 := Tryz.sizeOf0
 v0 := Tryz.zeroValue0
 t3 := Tryz.underlying3
 a3 := Tryz.isAgg3
 z3 := Tryz.sizeOf3
 v3 := Tryz.zeroValue3
 t4 := Tryz.underlying4
 a4 := Tryz.isAgg4
 z4 := Tryz.sizeOf4
 v4 := Tryz.zeroValue4
 t9 := Tryz.underlying9
 a9 := Tryz.isAgg9
 z9 := Tryz.sizeOf9
 v9 := Tryz.zeroValue9
 t20 := Tryz.underlying20
 a20 := Tryz.isAgg20
 z20 := Tryz.sizeOf20
 v20 := Tryz.zeroValue20
 t37 := Tryz.underlying123
 a37 := Tryz.isAgg123
 z37 := Tryz.sizeOf123
 v37 := Tryz.zeroValue123
 t70 := Tryz.underlying146
 a70 := Tryz.isAgg146
 z70 := Tryz.sizeOf146
 v70 := Tryz.zeroValue146
 t72 := Tryz.underlying148
 a72 := Tryz.isAgg148
 z72 := Tryz.sizeOf148
 v72 := Tryz.zeroValue148
 t75 := Tryz.underlying150
 a75 := Tryz.isAgg150
 z75 := Tryz.sizeOf150
 v75 := Tryz.zeroValue150
 t164 := Tryz.underlying241
 a164 := Tryz.isAgg241
 z164 := Tryz.sizeOf241
 v164 := Tryz.zeroValue241 }
theorem Ai : Builder.Extra Tryz.prog Cv where
 sizeBuilder := by kernel_rfl
 liesBuilder := by kernel_rfl
 t5 := Tryz.underlying5
 a5 := Tryz.isAgg5
 z5 := Tryz.sizeOf5
 v5 := Tryz.zeroValue5
 infoByte := by kernel_rfl
 cellsByte := by kernel_rfl
 sizeByte := by kernel_rfl
 neB5 := by decide
theorem Ea : Builder.Extra Tryz.prog Fa where
 sizeBuilder := by kernel_rfl
 liesBuilder := by kernel_rfl
 t5 := Tryz.underlying5
 a5 := Tryz.isAgg5
 z5 := Tryz.sizeOf5
 v5 := Tryz.zeroValue5
 infoByte := by kernel_rfl
 cellsByte := by kernel_rfl
 sizeByte := by kernel_rfl
 neB5 := by decide
theorem Builder_String (B b : Nat) (l : List UInt8) (w : World) (h : Lib.IsBuilder 148 5 B b (Lib.byteCells l) w) (hBw : B ≤ w.heap.size) :
  Calls Tryz.prog 98 #[.pointer (some ⟨b, 0, none⟩)] w fun e w' => e = .returned (.string ⟨l.toArray⟩) ∧ Below B w w' := Any.Builder_String_any RZ Ea B b l w h hBw
theorem GF (N : Nat) (s cutset : List UInt8) (w0 : World) (r : List UInt8) (h : sW N s cutset = some r) :
  Calls Tryz.prog 195 #[.string (bs s), .string (bs cutset)] w0 fun e w' => ∃ v, e = .returned v ∧ v = .string (bs r) ∧ Mem w0.heap.size w0 w' [] := by
 unfold sW at h
 split at h
 ·rename_i hc
  cases h;obtain ⟨h1, h2, h3⟩ := hc;refine (Any.strings_Trim_laid RX (by kernel_rfl) (bs s) (bs cutset) w0 (by rw [uS]; exact h1) (by rw [uS]; exact h2) (fun j b hb => ?_)).mono ?_
  ·exact of_decide_eq_true (List.all_eq_true.1 h3 b (List.mem_of_getElem? hb))
  ·rintro e w' ⟨rfl, hb⟩;exact ⟨_, rfl, rfl, Mem.QY hb⟩
 ·cases h
theorem BO (N : Nat) (s substr : List UInt8) (w0 : World) (r : Int) (h : pG N s substr = some r) :
  Calls Tryz.prog 196 #[.string (bs s), .string (bs substr)] w0 fun e w' => ∃ v, e = .returned v ∧ v = .int .i64 r ∧ Mem w0.heap.size w0 w' [] := by
 unfold pG at h
 split at h
 ·rename_i c
  cases h;refine (Any.strings_Count_one RY (bs s) c w0).mono ?_;rintro e w' ⟨rfl, rfl⟩;exact ⟨_, rfl, rfl, Mem.start w'⟩
 ·cases h
section
variable {base : Nat} {W w : World} {L : List mA} {g c n : Nat} {A : Option Addr} {b d b2 : List UInt8}
theorem J9 (M : Mem base W w (.Ex g 148 A n c :: L)) :
  Calls Tryz.prog 150 #[.pointer (some ⟨g, 0, none⟩)] w fun e w' => ∃ v, e = .returned v ∧ Mem base W w' (.blk g 148 [.pointer (some ⟨g, 0, none⟩), .slice A n c] :: L) := by
 obtain ⟨p, hp, hb⟩ := M.has 0 _ rfl;have hb' : w.heap[g]? = some (.cells #[.pointer p, .slice A n c] 148 (0, 0)) := hb;have M1 : Mem base W w (.blk g 148 [.pointer p, .slice A n c] :: L) := M.swap 0 rfl hb rfl
 rcases hp with rfl | rfl
 ·refine (Any.Builder_copyCheck_fresh { Mx with } Ai.toX72 g w (M1.cell (i := 0) rfl (k := 0) rfl) (by simp [World.shape?, hb', Cv]) (by simp [World.frozen?, hb'])).mono ?_;rintro e w' ⟨rfl, rfl⟩;exact ⟨_, rfl, M1.set 0 rfl 0 _⟩
 ·refine (Any.Builder_copyCheck_used { Mx with } Ai.toX72 g w (M1.cell (i := 0) rfl (k := 0) rfl)).mono ?_;rintro e w' ⟨rfl, rfl⟩;exact ⟨_, rfl, M1⟩
theorem tJ (M : Mem base W w (.Ex g 148 A b.length c :: .row 5 1 A b.length c ((cI .u8).all (qG b)) :: L)) (h : NR b d = some b2) :
  Calls Tryz.prog 95 #[.pointer (some ⟨g, 0, none⟩), .string (bs d)] w fun e w' => ∃ v, e = .returned v ∧ ∃ A' c', Mem base W w' (.Ex g 148 A' b2.length c' :: .row 5 1 A' b2.length c' ((cI .u8).all (qG b2)) :: L) := by
 obtain ⟨rfl, hl⟩ := Ox h
 have happ : app 1 (qG b) (qG d) = some (qG b ++ qG d) := by
  unfold app;rw [if_pos (by rw [Ag, Ag]; omega)]
 replace M : Mem base W w (.Ex g 148 A (qG b).length c :: .row 5 1 A (qG b).length c ((cI .u8).all (qG b)) :: L) := by rw [Ag]; exact M
 refine bW Tryz.func95 rfl Tryz.ntmps95 rfl ?_;intro a K;have K : Kn a 19 [(0, .pointer (some ⟨g, 0, none⟩)), (1, .string (bs d))] := K;refine wp_seq (aB ?_);refine aI K M ?_; clear K;refine aQ M ?_; intro a K;refine wpList_nil (aA (wp_seq (aB ?_)));refine aI K M ?_; clear K; intro a K;refine eA K (lP (vs := [.pointer (some ⟨g, 0, none⟩)]) (cap := []) rfl UE K rfl rfl (J9 M)) ?_;clear K M; rintro _ a w M K;refine wpList_nil (aA (wp_seq (aB ?_)));refine aI K M ?_; clear K;refine aQ M ?_;refine aQ M ?_;refine bL (fun _ K => aE rfl (show vF Tryz.prog 148 1 = some 1 by kernel_rfl) K rfl) M ?_;refine bL (fun _ K => aJ rfl D8 K rfl (dV 0 rfl) rfl) M ?_;refine aQ M ?_; intro a K;refine eA K (D6 rfl lE oQ WZ K rfl rfl 1 M rfl happ) ?_;clear K M; rintro _ a w ⟨A', c', rfl, M⟩ K;refine aI K M ?_; clear K;refine bL (fun _ K => aE rfl (show vF Tryz.prog 148 1 = some 1 by kernel_rfl) K rfl) M ?_; intro a K;refine nB K (dM rfl D8 K rfl rfl rfl 0 M rfl rfl) ?_;clear K M; rintro _ a w M K;refine wpList_nil (aA (wp_seq (aB ?_)));refine aI K M ?_; clear K;refine bL (fun _ K => iT rfl oQ K rfl) M ?_;refine aQ M ?_;refine aQ M ?_; intro a K;refine wpList_nil (aA (wp_ret ?_));replace M : Mem base W w (.blk g 148 [.pointer (some ⟨g, 0, none⟩), .slice A' (qG b ++ qG d).length c'] :: .row 5 1 A' (qG b ++ qG d).length c' ((cI .u8).all (qG b ++ qG d)) :: L) := M;have M2 : Mem base W w (.Ex g 148 A' (qG b ++ qG d).length c' :: .row 5 1 A' (qG b ++ qG d).length c' ((cI .u8).all (qG b ++ qG d)) :: L) := M.WV 0 rfl;have e : (qG b ++ qG d) = qG (b ++ d) := (List.map_append ..).symm;rw [e, Ag] at M2;exact gM K rfl (aC K rfl) (aC K rfl) ⟨_, rfl, A', c', M2⟩
theorem Eb (M : Mem W.heap.size W w (.Ex g 148 A b.length c :: .row 5 1 A b.length c ((cI .u8).all (qG b)) :: L)) :
  Calls Tryz.prog 98 #[.pointer (some ⟨g, 0, none⟩)] w fun e w' => ∃ v, e = .returned v ∧ v = .string (bs b) ∧ Mem W.heap.size W w' [] := by
 refine (Builder_String W.heap.size g b w M.builder M.sz).mono ?_;rintro e w' ⟨rfl, h2⟩;exact ⟨_, rfl, rfl, Mem.QY (M.low.trans h2)⟩
end
end
section
open Go.RowKit
theorem Dd {N : Nat} {n : Int} {w0 : World} {r : Bool} (h : rV N n = some r) :
  Calls Tryz.prog 121 #[I n] w0 fun e w' => ∃ v, e = .returned v ∧ v = .bool r ∧ Mem w0.heap.size w0 w' [] := by
 refine bW Tryz.func121 rfl Tryz.ntmps121 rfl ?_;intro a K;have M := Mem.start w0;have K : Kn a 9 [(0, _)] := K;unfold rV at h;refine wp_seq (aB ?_);refine aI K M ?_; clear K; intro a K;refine aK (aA (wp_seq (aB ?_)));refine aI K M ?_; clear K;iterate 2 (refine aQ M ?_)
 intro a K
 rcases Bool.eq_false_or_eq_true (decide (1 ≤ n)) with hb | hb
 ·have h := aN hb h;have K := K.gG (s := 5) rfl hb;refine aI K M ?_; clear K;iterate 3 (refine aQ M ?_)
  intro a K;refine aK (aA (wp_ret ?_));cases h;exact dH K rfl (aC K rfl) ⟨_, rfl, rfl, M.pick [] aM⟩
 have h := aG hb h;have K := K.gG (s := 5) rfl hb;refine aI K M ?_; clear K;iterate 3 (refine aQ M ?_)
 intro a K;refine aK (aA (wp_ret ?_));cases h;exact dH K rfl (aC K rfl) ⟨_, rfl, rfl, M.pick [] aM⟩
theorem Ka {N : Nat} {d : List Int} {FT : Option Addr} {FU : Nat} {o : Int} {w0 : World} {r : List UInt8 × Int} (h : Cf N d o = some r) (zU : SL w0 (cI .i64) FT d) (SQ : d.length ≤ FU) :
  Calls Tryz.prog 52 #[.slice FT d.length FU, I o] w0 fun e w' => ∃ v, e = .returned v ∧ v = .tuple #[.string (bs r.1), I r.2] ∧ Mem w0.heap.size w0 w' [] := by
 refine bW Tryz.func52 rfl Tryz.ntmps52 rfl ?_;intro a K;have M := Mem.start w0;have K : Kn a 75 [(0, _), (1, _)] := K;unfold Cf at h;refine wp_seq (aB ?_);refine aI K M ?_; clear K;refine aQ M ?_; intro a K;refine aK (aA (wp_seq (wp_seq (aB ?_))));refine aI K M ?_; clear K; intro a K;obtain ⟨r2, gX, h⟩ := aF h;refine eA K (fS PQ K (Dd gX)) ?_;clear K; rintro _ a w ⟨rfl, Zq⟩ K;replace M := M.call Zq; clear Zq;refine aI K M ?_; clear K; intro a K;refine aK (aA ?_);refine aR K rfl (fun hb => ?_) (fun hb => ?_)
 ·have h := aN hb h;refine wp_seq (aB ?_);refine aI K M ?_; clear K;refine aQ M ?_; intro a K;refine aK (aA (wp_ret (aH ?_)));cases h;exact gM K rfl (aC K rfl) (aC K rfl) ⟨_, rfl, rfl, M.pick [] aM⟩
 have h := aG hb h;refine wp_skip (aA (wp_seq (wp_seq (aB ?_))));refine aI K M ?_; clear K;refine bL (fun _ K => eB rfl rC K rfl) M ?_;refine aQ M ?_; intro a K;refine aK (aA ?_);refine aR K rfl (fun hb => ?_) (fun hb => ?_)
 ·have h := aN hb h;refine wp_seq (aB ?_);refine aI K M ?_; clear K;refine aQ M ?_; intro a K;refine aK (aA (wp_ret (aH ?_)));cases h;exact gM K rfl (aC K rfl) (aC K rfl) ⟨_, rfl, rfl, M.pick [] aM⟩
 have h := aG hb h;refine wp_skip (aA (wp_seq (aB ?_)));refine aI K M ?_; clear K;refine bL (fun _ K => eB rfl rC K rfl) M ?_;iterate 3 (refine aQ M ?_)
 refine bL (fun _ K => sU rfl K rfl rfl aM) M ?_; intro a K;obtain ⟨_, h0, h⟩ := aF h;have h0 := F1 h0;refine eA K (F6 (C := (cI .u8)) rfl lE rfl (by rw [z5]; rfl) rfl K rfl rfl M h0) ?_;clear K M; rintro _ a w ⟨A, c, rfl, M⟩ K;refine aI K M ?_; clear K; intro a K;refine aK (aA (wp_seq (aB ?_)));refine aI K M ?_; clear K;refine aQ M ?_; intro a K;refine aK (aA (wp_seq (wp_seq (aB ?_))));refine aI K M ?_; clear K;refine bL (fun _ K => eB rfl rC K rfl) M ?_;refine aQ M ?_; intro a K;refine aK (aA (wp_block ?_));refine kL (id := 0) (Rel := fun (⟨l2, i, i2, i3⟩ : List Int × Int × Int × Int) a w => ∃ (A2 : Option Addr) (c2 : Nat), Kn a 75 [(1, I o), (6, .slice A2 l2.length c2), (7, I i), (8, I i2), (24, .slice FT d.length FU), (25, I (d.length : Int)), (26, I i3)] ∧ Mem w0.heap.size w0 w [.row 5 1 A2 l2.length c2 ((cI .u8).all l2)]) h (fun _ _ => rfl) ⟨A, c, K.pick [1,6,7,8,24,25,26], M.pick [0] aM⟩ ?_ ?_
 ·clear K M h;rintro ⟨l9, i7, i8, i9⟩ a w ⟨A9, c9, K, M⟩ h;try dsimp only at h
  refine fV ?_;refine aA (wp_seq (wp_seq (aB ?_)));refine aI K M ?_; clear K;refine aQ M ?_; intro a K;refine aK (aA ?_);refine aR K rfl (fun hb => ?_) (fun hb => ?_)
  ·have h := aN hb h;refine aB ?_;refine aI K M ?_; clear K;iterate 3 (refine aQ M ?_)
   intro a K;obtain ⟨_, h0, h⟩ := aF h;have h0 := lC h0;refine d7 K (pF rfl K rfl rfl h0) M ?_; clear K;refine bL (fun _ K => gH rfl rfl EZ K rfl) M ?_; intro a K;refine eA K (eH rfl lE z5 K (vs := [(0, .int .u8 (IntKind.u8.wrap (rB .i64 i7 (IntKind.i64.wrap (8 - i8)))))]) (cs := [.int .u8 (IntKind.u8.wrap (rB .i64 i7 (IntKind.i64.wrap (8 - i8))))]) rfl bZ rfl rfl M) ?_;have M0 := M; clear K M; rintro _ a w ⟨gs4, rfl, M⟩ K;replace M := M.lD 0 rfl (cI .u8) ([IntKind.u8.wrap (rB .i64 i7 (IntKind.i64.wrap (8 - i8)))] : List Int) (n := 1) rfl rfl rfl;clear M0;obtain ⟨l10, Kb, h⟩ := aF h;refine eA K (mN (C := (cI .u8)) (xs := l9) (ys := ([IntKind.u8.wrap (rB .i64 i7 (IntKind.i64.wrap (8 - i8)))] : List Int)) rfl lE rfl z5 rfl rfl K rfl rfl 1 M rfl ((kD (C := (cI .u8)) 0 rfl rfl) _ M) Kb) ?_;clear K M; rintro _ a w ⟨KY, c10, rfl, M⟩ K;refine aI K M ?_; clear K; intro a K;refine aK (aA (wp_seq (aB ?_)));refine aI K M ?_; clear K;refine bL (fun _ K => sF rfl lE EZ oQ K rfl (kD (C := (cI .u8)) 1 rfl rfl)) M ?_;iterate 2 (refine aQ M ?_)
   intro a K;refine aK (aA (wp_ret ?_));cases h;exact gM K rfl (aC K rfl) (aC K rfl) ⟨_, rfl, rfl, M.pick [] aM⟩
  have h := aG hb h;refine wp_skip (aA (wp_seq (aB ?_)));refine aI K M ?_; clear K;refine bL (fun _ K => sF rfl lE EZ oQ K rfl (kD (C := (cI .u8)) 0 rfl rfl)) M ?_;iterate 2 (refine aQ M ?_)
  intro a K;refine aK (aA (wp_ret ?_));cases h;exact gM K rfl (aC K rfl) (aC K rfl) ⟨_, rfl, rfl, M.pick [] aM⟩
 clear K M h;rintro kk fuel ⟨l2, i, i2, i3⟩ a w hk1 ⟨A2, c2, K, M⟩ h;unfold zI at h;refine wp_seq (aB ?_);refine aI K M ?_; clear K; intro a K;refine aK (aA (wp_seq ?_));refine aR K rfl (fun hb => ?_) (fun hb => ?_)
 ·have h := aN hb h;refine wp_skip (aA (wp_seq (wp_block (wp_seq (aB ?_)))));obtain ⟨e2, lO, h⟩ := aF h;refine d7 K (jB rfl gW K rfl rfl (eS zU) lO) M ?_; clear K;refine bL (fun _ K => fW rfl fR K rfl rfl (eS zU) lO rfl) M ?_;refine aQ M ?_; intro a K;refine aK (aA (wp_seq (wp_seq (aB ?_))));refine aI K M ?_; clear K;iterate 2 (refine aQ M ?_)
  intro a K
  rcases Bool.eq_false_or_eq_true (decide (e2 < 0)) with hb | hb
  ·have h := aN hb h;have K := K.gG (s := 32) rfl hb;refine aI K M ?_; clear K;iterate 4 (refine aQ M ?_)
   intro a K;refine aK (aA ?_);refine cA K rfl ?_;refine wp_seq (aB ?_);refine aI K M ?_; clear K;refine aQ M ?_; intro a K;refine aK (aA (wp_ret (aH (dW (aH (aH (dW (aH ?_))))))));cases h;exact gM K rfl (aC K rfl) (aC K rfl) ⟨_, rfl, rfl, M.pick [] aM⟩
  have h := aG hb h;have K := K.gG (s := 32) rfl hb;refine aI K M ?_; clear K;refine aQ M ?_; intro a K;obtain ⟨_, h0, h⟩ := aF h;have h0 := lC h0;refine d7 K (pF rfl K rfl rfl h0) M ?_; clear K;iterate 2 (refine aQ M ?_)
  intro a K;refine aK (aA ?_);refine aR K rfl (fun hb => ?_) (fun hb => ?_)
  ·have h := aN hb h;refine wp_seq (aB ?_);refine aI K M ?_; clear K;refine aQ M ?_; intro a K;refine aK (aA (wp_ret (aH (dW (aH (aH (dW (aH ?_))))))));cases h;exact gM K rfl (aC K rfl) (aC K rfl) ⟨_, rfl, rfl, M.pick [] aM⟩
  have h := aG hb h;refine wp_skip (aA (wp_seq (aB ?_)));refine aI K M ?_; clear K;refine aQ M ?_; intro a K;obtain ⟨_, h0, h⟩ := aF h;have h0 := lC h0;refine d7 K (pF rfl K rfl rfl h0) M ?_; clear K;refine aQ M ?_;refine bL (fun _ K => Jm rfl K rfl rfl) M ?_;iterate 3 (refine aQ M ?_)
  obtain ⟨x6, hx, h⟩ := gI h;refine bL (fun _ K => mR hx (bK rfl K rfl)) M ?_;obtain ⟨x7, hx, h⟩ := gI h;refine bL (fun _ K => mR hx (bK rfl K rfl)) M ?_; intro a K;refine aK (aA (wp_seq (wp_block ?_)));refine kL (id := 2) (Rel := fun (⟨l5, i5⟩ : List Int × Int) a w => ∃ (A5 : Option Addr) (c5 : Nat), Kn a 75 [(1, I o), (6, .slice A5 l5.length c5), (7, I x6), (8, I i5), (24, .slice FT d.length FU), (25, I (d.length : Int)), (26, I i3), (33, I e2), (34, I o), (35, I (rB .i64 1 o)), (36, .bool (decide ((rB .i64 1 o) ≤ e2)))] ∧ Mem w0.heap.size w0 w [.row 5 1 A5 l5.length c5 ((cI .u8).all l5)]) h (fun _ _ => rfl) ⟨A2, c2, K.pick [1,6,7,8,24,25,26,33,34,35,36], M.pick [0] aM⟩ ?_ ?_
  ·clear K M h;rintro ⟨l8, i6⟩ a w ⟨A8, c8, K, M⟩ h;try dsimp only at h
   refine fV ?_;refine aA (aB ?_);refine aI K M ?_; clear K;refine aQ M ?_; intro a K;obtain ⟨_, h0, h⟩ := aF h;have h0 := lC h0;refine d7 K (pF rfl K rfl rfl h0) M ?_; clear K;iterate 2 (refine aQ M ?_)
   obtain ⟨x10, hx, h⟩ := gI h;refine bL (fun _ K => mR hx (bK rfl K rfl)) M ?_; intro a K;refine aK (dO (aA (aB ?_)));refine aI K M ?_; clear K;refine aQ M ?_; intro a K;refine aK ?_;exact aA ⟨(l8, x10, i6, IntKind.i64.wrap (i3 + 1)), ⟨A8, c8, K.pick [1,6,7,8,24,25,26], M.pick [0] aM⟩, h⟩
  clear K M h;rintro kk fuel ⟨l5, i5⟩ a w hk2 ⟨A5, c5, K, M⟩ h;unfold zH at h;refine wp_seq (wp_seq (aB ?_));refine aI K M ?_; clear K;refine aQ M ?_; intro a K;refine aK (aA ?_);refine aR K rfl (fun hb => ?_) (fun hb => ?_)
  ·have h := aN hb h;refine wp_skip (aA (wp_block (wp_seq (aB ?_))));refine aI K M ?_; clear K;refine aQ M ?_;obtain ⟨x9, hx, h⟩ := gI h;refine bL (fun _ K => mR hx (bK rfl K rfl)) M ?_; intro a K;refine aK (aA (aB ?_));refine aI K M ?_; clear K;iterate 2 (refine aQ M ?_)
   intro a K;obtain ⟨_, h0, h⟩ := aF h;have h0 := lC h0;refine d7 K (rG rfl K rfl rfl h0) M ?_; clear K;refine bL (fun _ K => gH rfl rfl EZ K rfl) M ?_; intro a K;refine eA K (eH rfl lE z5 K (vs := [(0, .int .u8 (IntKind.u8.wrap (jN .i64 x6 x9)))]) (cs := [.int .u8 (IntKind.u8.wrap (jN .i64 x6 x9))]) rfl bZ rfl rfl M) ?_;have M0 := M; clear K M; rintro _ a w ⟨SR, rfl, M⟩ K;replace M := M.lD 0 rfl (cI .u8) ([IntKind.u8.wrap (jN .i64 x6 x9)] : List Int) (n := 1) rfl rfl rfl;clear M0;obtain ⟨l7, GG, h⟩ := aF h;refine eA K (mN (C := (cI .u8)) (xs := l5) (ys := ([IntKind.u8.wrap (jN .i64 x6 x9)] : List Int)) rfl lE rfl z5 rfl rfl K rfl rfl 1 M rfl ((kD (C := (cI .u8)) 0 rfl rfl) _ M) GG) ?_;clear K M; rintro _ a w ⟨A7, c7, rfl, M⟩ K;refine aI K M ?_; clear K; intro a K;refine aK (dO ?_);exact aA ⟨(l7, x9), ⟨A7, c7, K.pick [1,6,7,8,24,25,26,33,34,35,36], M.pick [1] aM⟩, h⟩
  have h := aG hb h;refine wp_exit ?_;refine bR ?_;exact bR (hk2 (l5, i5) _ _ ⟨A5, c5, K.pick [1,6,7,8,24,25,26,33,34,35,36], M.pick [0] aM⟩ h)
 have h := aG hb h;refine wp_exit ?_;refine bR ?_;exact bR (hk1 (l2, i, i2, i3) _ _ ⟨A2, c2, K.pick [1,6,7,8,24,25,26], M.pick [0] aM⟩ h)
theorem De {N : Nat} {n size : Int} {w0 : World} {r : List UInt8} (h : p6 N n size = some r) :
  Calls Tryz.prog 169 #[I n, I size] w0 fun e w' => ∃ v, e = .returned v ∧ v = .string (bs r) ∧ Mem w0.heap.size w0 w' [] := by
 refine bW Tryz.func169 rfl Tryz.ntmps169 rfl ?_;intro a K;have M := Mem.start w0;have K : Kn a 28 [(0, _), (1, _)] := K;unfold p6 at h;refine wp_seq (aB ?_);refine aI K M ?_; clear K; intro a K;refine aK (aA (wp_seq (aB ?_)));refine aI K M ?_; clear K; intro a K;obtain ⟨l2, DC, h⟩ := aF h;refine eA K (DS (C := (cI .u8)) (z := 0) rfl lE rfl z5 rfl K rfl rfl M DC) ?_;clear K M; rintro _ a w ⟨A, c, rfl, M⟩ K;refine aI K M ?_; clear K; intro a K;refine aK (aA (wp_seq (wp_seq (aB ?_))));refine aI K M ?_; clear K;refine bL (fun _ K => eB rfl PL K rfl) M ?_;refine aQ M ?_; intro a K;refine aK (aA (wp_block ?_));refine kL (id := 0) (Rel := fun (⟨l3, i, i2⟩ : List Int × Int × Int) a w => Kn a 28 [(0, I n), (1, I size), (5, .slice A l3.length c), (10, I i), (11, I i2)] ∧ Mem w0.heap.size w0 w [.row 5 1 A l3.length c ((cI .u8).all l3)]) h (fun _ _ => rfl) ⟨K.pick [0,1,5,10,11], M.pick [0] aM⟩ ?_ ?_
 ·clear K M h;rintro ⟨l6, i3, i4⟩ a w ⟨K, M⟩ h;try dsimp only at h
  refine fV ?_;refine aA (wp_seq (aB ?_));refine aI K M ?_; clear K;refine bL (fun _ K => sF rfl lE EZ oQ K rfl (kD (C := (cI .u8)) 0 rfl rfl)) M ?_;refine aQ M ?_; intro a K;refine aK (aA (wp_ret ?_));cases h;exact dH K rfl (aC K rfl) ⟨_, rfl, rfl, M.pick [] aM⟩
 clear K M h;rintro kk fuel ⟨l3, i, i2⟩ a w hk1 ⟨K, M⟩ h;unfold oN at h;refine wp_seq (aB ?_);refine aI K M ?_; clear K; intro a K;refine aK (aA (wp_seq ?_));refine aR K rfl (fun hb => ?_) (fun hb => ?_)
 ·have h := aN hb h;refine wp_skip (aA (wp_seq (wp_block (wp_seq (aB ?_)))));refine aI K M ?_; clear K;refine aQ M ?_; intro a K;refine aK (aA (aB ?_));refine aI K M ?_; clear K;iterate 6 (refine aQ M ?_)
  intro a K;obtain ⟨_, h0, h⟩ := aF h;have h0 := lC h0;refine d7 K (rG rfl K rfl rfl h0) M ?_; clear K;refine aQ M ?_;obtain ⟨b2, Qa, h⟩ := aF h;refine bL (fun _ K => tI rfl oQ K rfl rfl Qa) M ?_;obtain ⟨e2, lO, h⟩ := aF h;refine bL (fun _ K => jB rfl lE K rfl rfl (kD (C := (cI .u8)) 0 rfl rfl) lO) M ?_; intro a K;obtain ⟨l5, E0, h⟩ := aF h;refine nB K (mW (el := (b2.toNat : Int)) rfl sz5 rfl rfl K rfl rfl rfl 0 M rfl E0) ?_;have M0 := M; clear K M; rintro _ a w M K;have hl := oS E0;try rw [hl] at M
  try rw [hl] at K
  clear hl;clear M0;refine aK (dO (aA (aB ?_)));refine aI K M ?_; clear K;refine aQ M ?_; intro a K;refine aK ?_;exact aA ⟨(l5, i, IntKind.i64.wrap (i2 + 1)), ⟨K.pick [0,1,5,10,11], M.pick [0] aM⟩, h⟩
 have h := aG hb h;refine wp_exit ?_;refine bR ?_;exact bR (hk1 (l3, i, i2) _ _ ⟨K.pick [0,1,5,10,11], M.pick [0] aM⟩ h)
theorem uN {N : Nat} {n size : Int} {w0 : World} {r : List UInt8 × Int} (h : nE N n size = some r) :
  Calls Tryz.prog 126 #[I n, I size] w0 fun e w' => ∃ v, e = .returned v ∧ v = .tuple #[.string (bs r.1), I r.2] ∧ Mem w0.heap.size w0 w' [] := by
 refine bW Tryz.func126 rfl Tryz.ntmps126 rfl ?_;intro a K;have M := Mem.start w0;have K : Kn a 25 [(0, _), (1, _)] := K;unfold nE at h;refine wp_seq (aB ?_);refine aI K M ?_; clear K;refine aQ M ?_; intro a K;refine aK (aA (wp_seq (wp_seq (aB ?_))));refine aI K M ?_; clear K;iterate 2 (refine aQ M ?_)
 intro a K
 rcases Bool.eq_false_or_eq_true (decide (size < 0)) with hb | hb
 ·have h := aN hb h;have K := K.gG (s := 8) rfl hb;refine aI K M ?_; clear K;iterate 12 (refine aQ M ?_)
  intro a K;refine aK (aA ?_);refine cA K rfl ?_;refine wp_seq (aB ?_);refine aI K M ?_; clear K;refine aQ M ?_; intro a K;refine aK (aA (wp_ret (aH ?_)));cases h;exact gM K rfl (aC K rfl) (aC K rfl) ⟨_, rfl, rfl, M.pick [] aM⟩
 have h := aG hb h;have K := K.gG (s := 8) rfl hb;refine aI K M ?_; clear K;iterate 3 (refine aQ M ?_)
 intro a K
 rcases Bool.eq_false_or_eq_true (decide (16 < size)) with hb | hb
 ·have h := aN hb h;have K := K.gG (s := 12) rfl hb;refine aI K M ?_; clear K;iterate 8 (refine aQ M ?_)
  intro a K;refine aK (aA ?_);refine cA K rfl ?_;refine wp_seq (aB ?_);refine aI K M ?_; clear K;refine aQ M ?_; intro a K;refine aK (aA (wp_ret (aH ?_)));cases h;exact gM K rfl (aC K rfl) (aC K rfl) ⟨_, rfl, rfl, M.pick [] aM⟩
 have h := aG hb h;have K := K.gG (s := 12) rfl hb;refine aI K M ?_; clear K;iterate 3 (refine aQ M ?_)
 intro a K
 rcases Bool.eq_false_or_eq_true (decide (n < 0)) with hb | hb
 ·have h := aN hb h;have K := K.gG (s := 16) rfl hb;refine aI K M ?_; clear K;iterate 4 (refine aQ M ?_)
  intro a K;refine aK (aA ?_);refine cA K rfl ?_;refine wp_seq (aB ?_);refine aI K M ?_; clear K;refine aQ M ?_; intro a K;refine aK (aA (wp_ret (aH ?_)));cases h;exact gM K rfl (aC K rfl) (aC K rfl) ⟨_, rfl, rfl, M.pick [] aM⟩
 have h := aG hb h;have K := K.gG (s := 16) rfl hb;refine aI K M ?_; clear K;refine aQ M ?_; intro a K;obtain ⟨_, h0, h⟩ := aF h;have h0 := lC h0;refine d7 K (pF rfl K rfl rfl h0) M ?_; clear K;iterate 2 (refine aQ M ?_)
 intro a K;refine aK (aA ?_);refine aR K rfl (fun hb => ?_) (fun hb => ?_)
 ·have h := aN hb h;refine wp_seq (aB ?_);refine aI K M ?_; clear K;refine aQ M ?_; intro a K;refine aK (aA (wp_ret (aH ?_)));cases h;exact gM K rfl (aC K rfl) (aC K rfl) ⟨_, rfl, rfl, M.pick [] aM⟩
 have h := aG hb h;refine wp_skip (aA (wp_seq (aB ?_)));refine aI K M ?_; clear K;refine aQ M ?_; intro a K;obtain ⟨r2, gX, h⟩ := aF h;refine eA K (fS P0 K (De gX)) ?_;clear K; rintro _ a w ⟨rfl, Zq⟩ K;replace M := M.call Zq; clear Zq;refine aI K M ?_; clear K;refine aQ M ?_; intro a K;refine aK (aA (wp_ret ?_));cases h;exact gM K rfl (aC K rfl) (aC K rfl) ⟨_, rfl, rfl, M.pick [] aM⟩
theorem GH {N : Nat} {b : List UInt8} {w0 : World} {r : Bool} (h : wR N b = some r) :
  Calls Tryz.prog 170 #[.string (bs b)] w0 fun e w' => ∃ v, e = .returned v ∧ v = .bool r ∧ Mem w0.heap.size w0 w' [] := by
 refine bW Tryz.func170 rfl Tryz.ntmps170 rfl ?_;intro a K;have M := Mem.start w0;have K : Kn a 16 [(0, _)] := K;unfold wR at h;refine wp_seq (aB ?_);refine aI K M ?_; clear K; intro a K;refine aK (aA (wp_seq (aB ?_)));refine aI K M ?_; clear K; intro a K;obtain ⟨r2, gX, h⟩ := aF h;refine eA K (lP (vs := [.string (bs b), .string (bs ([48, 49] : List UInt8))]) (cap := []) rfl UZ K rfl rfl (GF N b ([48, 49] : List UInt8) _  r2 gX)) ?_;clear K; rintro _ a w ⟨rfl, Zq⟩ K;replace M := M.call Zq; clear Zq;refine d7 K (CW rfl K rfl rfl) M ?_; clear K;refine aQ M ?_; intro a K
 rcases Bool.eq_false_or_eq_true (decide (r2 = ([] : List UInt8))) with hb | hb
 ·have h := aN hb h;have K := K.gG (s := 6) rfl hb;refine aI K M ?_; clear K; intro a K;obtain ⟨r3, kY, h⟩ := aF h;refine eA K (lP (vs := [.string (bs b), .string (bs ([48] : List UInt8))]) (cap := []) rfl P8 K rfl rfl (BO N b ([48] : List UInt8) _  r3 kY)) ?_;clear K; rintro _ a w ⟨rfl, Zq⟩ K;replace M := M.call Zq; clear Zq;refine aI K M ?_; clear K; intro a K;obtain ⟨r4, oI, h⟩ := aF h;refine eA K (lP (vs := [.string (bs b), .string (bs ([49] : List UInt8))]) (cap := []) rfl P8 K rfl rfl (BO N b ([49] : List UInt8) _  r4 oI)) ?_;clear K; rintro _ a w ⟨rfl, Zq⟩ K;replace M := M.call Zq; clear Zq;refine aI K M ?_; clear K;refine aQ M ?_;refine bL (fun _ K => iT rfl oQ K rfl) M ?_;iterate 3 (refine aQ M ?_)
  intro a K;refine aK (aA (wp_ret ?_));cases h;exact dH K rfl (aC K rfl) ⟨_, rfl, rfl, M.pick [] aM⟩
 have h := aG hb h;have K := K.gG (s := 6) rfl hb;refine aI K M ?_; clear K;iterate 9 (refine aQ M ?_)
 intro a K;refine aK (aA (wp_ret ?_));cases h;exact dH K rfl (aC K rfl) ⟨_, rfl, rfl, M.pick [] aM⟩
theorem Ec {N : Nat} {b : List UInt8} {w0 : World} {r : List UInt8 × Int} (h : tS N b = some r) :
  Calls Tryz.prog 127 #[.string (bs b)] w0 fun e w' => ∃ v, e = .returned v ∧ v = .tuple #[.string (bs r.1), I r.2] ∧ Mem w0.heap.size w0 w' [] := by
 refine bW Tryz.func127 rfl Tryz.ntmps127 rfl ?_;intro a K;have M := Mem.start w0;have K : Kn a 37 [(0, _)] := K;unfold tS at h;refine wp_seq (aB ?_);refine aI K M ?_; clear K;refine aQ M ?_; intro a K;refine aK (aA (wp_seq (wp_seq (aB ?_))));refine aI K M ?_; clear K; intro a K;obtain ⟨r2, gX, h⟩ := aF h;refine eA K (fS P1 K (GH gX)) ?_;clear K; rintro _ a w ⟨rfl, Zq⟩ K;replace M := M.call Zq; clear Zq;refine aI K M ?_; clear K; intro a K;refine aK (aA ?_);refine aR K rfl (fun hb => ?_) (fun hb => ?_)
 ·have h := aN hb h;refine wp_seq (aB ?_);refine aI K M ?_; clear K;refine aQ M ?_; intro a K;refine aK (aA (wp_ret (aH ?_)));cases h;exact gM K rfl (aC K rfl) (aC K rfl) ⟨_, rfl, rfl, M.pick [] aM⟩
 have h := aG hb h;refine wp_skip (aA (wp_seq (aB ?_)));refine aI K M ?_; clear K;refine bL (fun _ K => iT rfl oQ K rfl) M ?_;refine aQ M ?_;obtain ⟨x2, hx, h⟩ := gI h;refine bL (fun _ K => mR hx (sU rfl K rfl rfl aM)) M ?_; intro a K;obtain ⟨l2, DC, h⟩ := aF h;refine eA K (DS (C := (cI .u8)) (z := 0) rfl lE rfl z5 rfl K rfl rfl M DC) ?_;clear K M; rintro _ a w ⟨A, c, rfl, M⟩ K;refine aI K M ?_; clear K; intro a K;refine aK (aA (wp_seq (wp_seq (aB ?_))));refine aI K M ?_; clear K;refine bL (fun _ K => iT rfl oQ K rfl) M ?_;refine aQ M ?_; intro a K;refine aK (aA (wp_block ?_));refine kL (id := 0) (Rel := fun (⟨l3, i⟩ : List Int × Int) a w => Kn a 37 [(0, .string (bs b)), (4, .slice A l3.length c), (15, I (b.length : Int)), (16, I i)] ∧ Mem w0.heap.size w0 w [.row 5 1 A l3.length c ((cI .u8).all l3)]) h (fun _ _ => rfl) ⟨K.pick [0,4,15,16], M.pick [0] aM⟩ ?_ ?_
 ·clear K M h;rintro ⟨l6, i2⟩ a w ⟨K, M⟩ h;try dsimp only at h
  refine fV ?_;refine aA (wp_seq (aB ?_));refine aI K M ?_; clear K;refine bL (fun _ K => sF rfl lE EZ oQ K rfl (kD (C := (cI .u8)) 0 rfl rfl)) M ?_;iterate 2 (refine aQ M ?_)
  intro a K;refine aK (aA (wp_ret ?_));cases h;exact gM K rfl (aC K rfl) (aC K rfl) ⟨_, rfl, rfl, M.pick [] aM⟩
 clear K M h;rintro kk fuel ⟨l3, i⟩ a w hk1 ⟨K, M⟩ h;unfold pN at h;refine wp_seq (aB ?_);refine aI K M ?_; clear K; intro a K;refine aK (aA (wp_seq ?_));refine aR K rfl (fun hb => ?_) (fun hb => ?_)
 ·have h := aN hb h;refine wp_skip (aA (wp_seq (wp_block (wp_seq (aB ?_)))));refine aI K M ?_; clear K;refine aQ M ?_; intro a K;refine aK (aA ?_);refine dL (fun w => Mem _ _ w _) [0,0,0,0,0,0,0,0,0,0,0,0,0,0,0,2] bZ bZ M.drew ?_;replace M := M.drew;refine pC K ?_; clear K;refine kC ?_;obtain ⟨x4, hx, h⟩ := gI h;refine g7 (fun _ K => mR hx (sU rfl K rfl rfl aM)) ?_;obtain ⟨e3, tK, h⟩ := aF h;refine g7 (fun _ K => hZ rfl lE K rfl rfl ((kD (C := (cI .u8)) 0 rfl rfl) _ M) tK) ?_;refine g7 (fun _ K => fW rfl sc5 K rfl rfl (kD (C := (cI .u8)) 0 rfl rfl) tK rfl) ?_;iterate 2 (refine kC ?_)
  obtain ⟨b3, E1, h⟩ := aF h;refine g7 (fun _ K => tI rfl oQ K rfl rfl E1) ?_;iterate 2 (refine kC ?_)
  refine g7 (fun _ K => EB rfl K rfl rfl aM) ?_;refine kC ?_; intro a K;obtain ⟨_, h0, h⟩ := aF h;have h0 := lC h0;refine t6 K (pF rfl K rfl rfl h0) ?_; clear K;refine g7 (fun _ K => Jm rfl K rfl rfl) ?_;obtain ⟨e4, uD, h⟩ := aF h;refine g7 (fun _ K => hZ rfl lE K rfl rfl ((kD (C := (cI .u8)) 0 rfl rfl) _ M) uD) ?_; intro a K;obtain ⟨l5, E0, h⟩ := aF h;refine QM K (mW (el := MC .u8 e3 (rB .u8 (IntKind.u8.wrap ((b3.toNat : Int) - 48)) (IntKind.i64.wrap (7 - (Int.tmod i 8))))) rfl sz5 rfl rfl K rfl rfl rfl 0 M rfl E0) ?_;have M0 := M; clear K M; rintro _ a w M K;have hl := oS E0;try rw [hl] at M
  try rw [hl] at K
  clear hl;clear M0;refine g9 ?_;refine dO (aA (aB ?_));refine aI K M ?_; clear K;refine aQ M ?_; intro a K;refine aK ?_;exact aA ⟨(l5, IntKind.i64.wrap (i + 1)), ⟨K.pick [0,4,15,16], M.pick [0] aM⟩, h⟩
 have h := aG hb h;refine wp_exit ?_;refine bR ?_;exact bR (hk1 (l3, i) _ _ ⟨K.pick [0,4,15,16], M.pick [0] aM⟩ h)
theorem Hf {N : Nat} {d : List UInt8} {o p2 : Int} {w0 : World} {r : List Int × Int} (h : uI N d o p2 = some r) :
  Calls Tryz.prog 145 #[.string (bs d), I o, I p2] w0 fun e w' => ∃ v, e = .returned v ∧ ∃ A0 c0, v = .tuple #[.slice A0 r.1.length c0, I r.2] ∧ Mem w0.heap.size w0 w' [.row 3 1 A0 r.1.length c0 ((cI .i64).all r.1)] := by
 refine bW Tryz.func145 rfl Tryz.ntmps145 rfl ?_;intro a K;have M := Mem.start w0;have K : Kn a 70 [(0, _), (1, _), (2, _)] := K;unfold uI at h;refine wp_seq (aB ?_);refine aI K M ?_; clear K;refine aQ M ?_; intro a K;refine aK (aA (wp_seq (wp_seq (aB ?_))));refine aI K M ?_; clear K; intro a K;obtain ⟨r2, gX, h⟩ := aF h;refine eA K (fS PQ K (Dd gX)) ?_;clear K; rintro _ a w ⟨rfl, Zq⟩ K;replace M := M.call Zq; clear Zq;refine aI K M ?_; clear K;refine aQ M ?_; intro a K
 rcases Bool.eq_false_or_eq_true (!(r2)) with hb | hb
 ·have h := aN hb h;have K := K.gG (s := 15) rfl hb;refine aI K M ?_; clear K;iterate 2 (refine aQ M ?_)
  intro a K;refine aK (aA ?_);refine cA K rfl ?_;refine wp_seq (aB ?_);refine aI K M ?_; clear K;refine aQ M ?_; intro a K;refine aK (aA (wp_ret (aH ?_)));cases h;exact gM K rfl (aC K rfl) (aC K rfl) ⟨_, rfl, _, _, rfl, (((Mem.bH 3 1 (cI .i64) M)).pick [0] aM)⟩
 have h := aG hb h;have K := K.gG (s := 15) rfl hb;refine aI K M ?_; clear K;iterate 2 (refine aQ M ?_)
 intro a K;refine aK (aA ?_);refine aR K rfl (fun hb => ?_) (fun hb => ?_)
 ·have h := aN hb h;refine wp_seq (aB ?_);refine aI K M ?_; clear K;refine aQ M ?_; intro a K;refine aK (aA (wp_ret (aH ?_)));cases h;exact gM K rfl (aC K rfl) (aC K rfl) ⟨_, rfl, _, _, rfl, (((Mem.bH 3 1 (cI .i64) M)).pick [0] aM)⟩
 have h := aG hb h;refine wp_skip (aA (wp_seq (wp_seq (aB ?_))));refine aI K M ?_; clear K;refine aQ M ?_; intro a K;refine aK (aA ?_);refine aR K rfl (fun hb => ?_) (fun hb => ?_)
 ·have h := aN hb h;refine wp_seq (aB ?_);refine aI K M ?_; clear K;refine aQ M ?_; intro a K;refine aK (aA (wp_ret (aH ?_)));cases h;exact gM K rfl (aC K rfl) (aC K rfl) ⟨_, rfl, _, _, rfl, (((Mem.bH 3 1 (cI .i64) M)).pick [0] aM)⟩
 have h := aG hb h;refine wp_skip (aA (wp_seq (wp_seq (aB ?_))));refine aI K M ?_; clear K;refine bL (fun _ K => iT rfl oQ K rfl) M ?_;iterate 4 (refine aQ M ?_)
 refine bL (fun _ K => sU rfl K rfl rfl aM) M ?_;refine aQ M ?_; intro a K;refine aK (aA ?_);refine aR K rfl (fun hb => ?_) (fun hb => ?_)
 ·have h := aN hb h;refine wp_seq (aB ?_);refine aI K M ?_; clear K;refine aQ M ?_; intro a K;refine aK (aA (wp_ret (aH ?_)));cases h;exact gM K rfl (aC K rfl) (aC K rfl) ⟨_, rfl, _, _, rfl, (((Mem.bH 3 1 (cI .i64) M)).pick [0] aM)⟩
 have h := aG hb h;refine wp_skip (aA (wp_seq (aB ?_)));refine aI K M ?_; clear K; intro a K;refine aK (aA (wp_seq (aB ?_)));refine aI K M ?_; clear K;refine aQ M ?_; intro a K;refine aK (aA (wp_seq (wp_seq (aB ?_))));refine aI K M ?_; clear K;refine bL (fun _ K => iT rfl oQ K rfl) M ?_;refine aQ M ?_; intro a K;refine aK (aA (wp_block ?_));replace M := Mem.bH 3 1 (cI .i64) M;refine kL (id := 0) (Rel := fun (⟨l5, i3, i4, i5⟩ : List Int × Int × Int × Int) a w => ∃ (A4 : Option Addr) (c4 : Nat), Kn a 70 [(0, .string (bs d)), (1, I o), (2, I p2), (8, .slice A4 l5.length c4), (9, I i3), (10, I i4), (30, I (d.length : Int)), (31, I i5)] ∧ Mem w0.heap.size w0 w [.row 3 1 A4 l5.length c4 ((cI .i64).all l5)]) h (fun _ _ => rfl) ⟨none, 0, K.pick [0,1,2,8,9,10,30,31], M.pick [0] aM⟩ ?_ ?_
 ·clear K M h;rintro ⟨Q8, i12, L3, Wv⟩ a w ⟨NU, c11, K, M⟩ h;try dsimp only at h
  refine fV ?_;refine aA (wp_seq (wp_seq (aB ?_)));refine aI K M ?_; clear K;refine aQ M ?_; intro a K;refine aK (aA ?_);refine aR K rfl (fun hb => ?_) (fun hb => ?_)
  ·have h := aN hb h;refine wp_seq (aB ?_);refine aI K M ?_; clear K;refine aQ M ?_; intro a K;refine aK (aA (wp_ret (aH ?_)));cases h;exact gM K rfl (aC K rfl) (aC K rfl) ⟨_, rfl, _, _, rfl, (((Mem.bH 3 1 (cI .i64) M)).pick [0] aM)⟩
  have h := aG hb h;refine wp_skip (aA (wp_seq (aB ?_)));refine aI K M ?_; clear K;iterate 2 (refine aQ M ?_)
  intro a K;refine aK (aA (wp_ret ?_));cases h;exact gM K rfl (aC K rfl) (aC K rfl) ⟨_, rfl, _, _, rfl, M.pick [0] aM⟩
 clear K M h;rintro kk fuel ⟨l5, i3, i4, i5⟩ a w hk1 ⟨A4, c4, K, M⟩ h;unfold oP at h;refine wp_seq (aB ?_);refine aI K M ?_; clear K; intro a K;refine aK (aA (wp_seq ?_));refine aR K rfl (fun hb => ?_) (fun hb => ?_)
 ·have h := aN hb h;refine wp_skip (aA (wp_seq (wp_block (wp_seq (aB ?_)))));refine aI K M ?_; clear K;refine aQ M ?_; intro a K;refine aK (aA (wp_seq (aB ?_)));refine aI K M ?_; clear K;refine bL (fun _ K => pF rfl K rfl rfl aM) M ?_;iterate 2 (refine aQ M ?_)
  obtain ⟨b3, E1, h⟩ := aF h;refine bL (fun _ K => tI rfl oQ K rfl rfl E1) M ?_;refine bL (fun _ K => gH rfl rfl D7 K rfl) M ?_;refine bL (fun _ K => Jm rfl K rfl rfl) M ?_;iterate 2 (refine aQ M ?_)
  obtain ⟨I9, hx, h⟩ := gI h;refine bL (fun _ K => mR hx (bK rfl K rfl)) M ?_;obtain ⟨G3, hx, h⟩ := gI h;refine bL (fun _ K => mR hx (bK rfl K rfl)) M ?_; intro a K;refine aK (aA (wp_block ?_));refine kL (id := 2) (Rel := fun (⟨l8, i8, i9⟩ : List Int × Int × Int) a w => ∃ (A7 : Option Addr) (c7 : Nat), Kn a 70 [(0, .string (bs d)), (1, I o), (2, I p2), (8, .slice A7 l8.length c7), (9, I i8), (10, I i9), (30, I (d.length : Int)), (31, I i5)] ∧ Mem w0.heap.size w0 w [.row 3 1 A7 l8.length c7 ((cI .i64).all l8)]) h (fun _ _ => rfl) ⟨A4, c4, K.pick [0,1,2,8,9,10,30,31], M.pick [0] aM⟩ ?_ ?_
  ·clear K M h;rintro ⟨Q7, Fo, i11⟩ a w ⟨KY, c10, K, M⟩ h;try dsimp only at h
   refine fV ?_;refine dO (aA (aB ?_));refine aI K M ?_; clear K;refine aQ M ?_; intro a K;refine aK ?_;exact aA ⟨(Q7, Fo, i11, IntKind.i64.wrap (i5 + 1)), ⟨KY, c10, K.pick [0,1,2,8,9,10,30,31], M.pick [0] aM⟩, h⟩
  clear K M h;rintro kk fuel ⟨l8, i8, i9⟩ a w hk2 ⟨A7, c7, K, M⟩ h;unfold oO at h;refine wp_seq (wp_seq (aB ?_));refine aI K M ?_; clear K;iterate 3 (refine aQ M ?_)
  intro a K
  rcases Bool.eq_false_or_eq_true (decide (o ≤ i9)) with hb | hb
  ·have h := aN hb h;have K := K.gG (s := 46) rfl hb;refine aI K M ?_; clear K;refine bL (fun _ K => eB rfl rC K rfl) M ?_;iterate 3 (refine aQ M ?_)
   intro a K;refine aK (aA ?_);refine aR K rfl (fun hb => ?_) (fun hb => ?_)
   ·have h := aN hb h;refine wp_skip (aA (wp_block (wp_seq (aB ?_))));refine aI K M ?_; clear K;iterate 2 (refine aQ M ?_)
    obtain ⟨C8, hx, h⟩ := gI h;refine bL (fun _ K => mR hx (bK rfl K rfl)) M ?_; intro a K;refine aK (aA (wp_seq (aB ?_)));refine aI K M ?_; clear K;iterate 2 (refine aQ M ?_)
    intro a K;obtain ⟨_, h0, h⟩ := aF h;have h0 := lC h0;refine d7 K (rG rfl K rfl rfl h0) M ?_; clear K; intro a K;refine eA K (eH rfl gW z3 K (vs := [(0, I (jN .i64 i8 C8))]) (cs := [I (jN .i64 i8 C8)]) rfl bZ rfl rfl M) ?_;have M0 := M; clear K M; rintro _ a w ⟨VJ, rfl, M⟩ K;replace M := M.lD 0 rfl (cI .i64) ([jN .i64 i8 C8] : List Int) (n := 1) rfl rfl rfl;clear M0;obtain ⟨l10, Kb, h⟩ := aF h;refine eA K (mN (C := (cI .i64)) (xs := l8) (ys := ([jN .i64 i8 C8] : List Int)) rfl gW rfl z3 rfl rfl K rfl rfl 1 M rfl ((kD (C := (cI .i64)) 0 rfl rfl) _ M) Kb) ?_;clear K M; rintro _ a w ⟨A9, c9, rfl, M⟩ K;refine aI K M ?_; clear K; intro a K;refine aK (aA (aB ?_));refine aI K M ?_; clear K;refine aQ M ?_; intro a K;obtain ⟨_, h0, h⟩ := aF h;have h0 := lC h0;refine d7 K (pF rfl K rfl rfl h0) M ?_; clear K;iterate 2 (refine aQ M ?_)
    obtain ⟨G7, hx, h⟩ := gI h;refine bL (fun _ K => mR hx (bK rfl K rfl)) M ?_; intro a K;refine aK (dO ?_);exact aA ⟨(l10, G7, C8), ⟨A9, c9, K.pick [0,1,2,8,9,10,30,31], M.pick [1] aM⟩, h⟩
   have h := aG hb h;refine wp_exit ?_;refine bR ?_;exact bR (hk2 (l8, i8, i9) _ _ ⟨A7, c7, K.pick [0,1,2,8,9,10,30,31], M.pick [0] aM⟩ h)
  have h := aG hb h;have K := K.gG (s := 46) rfl hb;refine aI K M ?_; clear K;iterate 4 (refine aQ M ?_)
  intro a K;refine aK (aA ?_);refine nC K rfl ?_;refine wp_exit ?_;refine bR ?_;exact bR (hk2 (l8, i8, i9) _ _ ⟨A7, c7, K.pick [0,1,2,8,9,10,30,31], M.pick [0] aM⟩ h)
 have h := aG hb h;refine wp_exit ?_;refine bR ?_;exact bR (hk1 (l5, i3, i4, i5) _ _ ⟨A4, c4, K.pick [0,1,2,8,9,10,30,31], M.pick [0] aM⟩ h)
theorem Fb {N : Nat} {s : List UInt8} {w0 : World} {r : List UInt8} (h : tB N s = some r) :
  Calls Tryz.prog 177 #[.string (bs s)] w0 fun e w' => ∃ v, e = .returned v ∧ v = .string (bs r) ∧ Mem w0.heap.size w0 w' [] := by
 refine bW Tryz.func177 rfl Tryz.ntmps177 rfl ?_;intro a K;have M := Mem.start w0;have K : Kn a 18 [(0, _)] := K;unfold tB at h;refine wp_seq (aB ?_);refine aI K M ?_; clear K; intro a K;refine aK (aA (wp_seq (aB ?_)));refine eA K (fX rfl (show lU Tryz.prog 148 = some [.pointer none, .slice none 0 0] by kernel_rfl) M) ?_;have M0 := M; clear K M; rintro _ a w ⟨SS, rfl, M⟩ K;replace M := Mem.SD 5 M;clear M0;refine aK (aA (wp_seq (wp_seq (aB ?_))));refine aI K M ?_; clear K; intro a K;refine aK (aA (wp_block ?_));refine kL (id := 0) (Rel := fun (⟨l2, i⟩ : List UInt8 × Int) a w => ∃ (A : Option Addr) (c : Nat), Kn a 18 [(0, .string (bs s)), (3, .pointer (some ⟨SS, 0, none⟩)), (4, I i)] ∧ Mem w0.heap.size w0 w [.row 5 1 A l2.length c ((cI .u8).all (qG l2)), .Ex SS 148 A l2.length c]) h (fun _ _ => rfl) ⟨none, 0, K.pick [0,3,4], M.pick [0,1] aM⟩ ?_ ?_
 ·clear K M h;rintro ⟨l3, i4⟩ a w ⟨A4, c4, K, M⟩ h;try dsimp only at h
  refine fV ?_;refine aA (wp_seq (aB ?_));refine eA K (lP (vs := [.pointer (some ⟨SS, 0, none⟩)]) (cap := []) rfl SP K rfl rfl (Eb (show Mem _ _ _ [.Ex SS 148 A4 l3.length c4, .row 5 1 A4 l3.length c4 ((cI .u8).all (qG l3))] from M.pick [1,0] aM))) ?_;clear K M; rintro _ a w ⟨rfl, M⟩ K;refine aI K M ?_; clear K; intro a K;refine aK (aA (wp_ret ?_));cases h;exact dH K rfl (aC K rfl) ⟨_, rfl, rfl, M.pick [] aM⟩
 clear K M h;rintro kk fuel ⟨l2, i⟩ a w hk1 ⟨A, c, K, M⟩ h;unfold qT at h;refine wp_seq (wp_seq (aB ?_));refine aI K M ?_; clear K;refine aQ M ?_;refine bL (fun _ K => iT rfl oQ K rfl) M ?_;refine aQ M ?_; intro a K;refine aK (aA ?_);refine aR K rfl (fun hb => ?_) (fun hb => ?_)
 ·have h := aN hb h;refine wp_skip (aA (wp_seq (wp_block (aB ?_))));refine aI K M ?_; clear K;refine aQ M ?_;obtain ⟨b3, E1, h⟩ := aF h;refine bL (fun _ K => tI rfl oQ K rfl rfl E1) M ?_;refine bL (fun _ K => gH rfl rfl D7 K rfl) M ?_; intro a K;obtain ⟨r3, kY, h⟩ := aF h;refine eA K (fS P0 K (De kY)) ?_;clear K; rintro _ a w ⟨rfl, Zq⟩ K;replace M := M.call Zq; clear Zq;obtain ⟨b4, Qb, h⟩ := aF h;refine eA K (lP (vs := [.pointer (some ⟨SS, 0, none⟩), .string (bs r3)]) (cap := []) rfl GB K rfl rfl (tJ (show Mem _ _ _ [.Ex SS 148 A l2.length c, .row 5 1 A l2.length c ((cI .u8).all (qG l2))] from M.pick [1,0] aM) Qb)) ?_;clear K M; rintro _ a w ⟨A3, c3, M⟩ K;refine aK (dO (aA (aB ?_)));refine aI K M ?_; clear K;refine aQ M ?_;obtain ⟨i3, hx, h⟩ := gI h;refine bL (fun _ K => mR hx (bK rfl K rfl)) M ?_; intro a K;refine aK ?_;exact aA ⟨(b4, i3), ⟨A3, c3, K.pick [0,3,4], M.pick [1,0] aM⟩, h⟩
 have h := aG hb h;refine wp_exit ?_;refine bR ?_;exact bR (hk1 (l2, i) _ _ ⟨A, c, K.pick [0,3,4], M.pick [0,1] aM⟩ h)
theorem I0 {N : Nat} {b : List UInt8} {w0 : World} {r : Int × Int} (h : vO N b = some r) :
  Calls Tryz.prog 179 #[.string (bs b)] w0 fun e w' => ∃ v, e = .returned v ∧ v = .tuple #[I r.1, I r.2] ∧ Mem w0.heap.size w0 w' [] := by
 refine bW Tryz.func179 rfl Tryz.ntmps179 rfl ?_;intro a K;have M := Mem.start w0;have K : Kn a 27 [(0, _)] := K;unfold vO at h;refine wp_seq (aB ?_);refine aI K M ?_; clear K;refine aQ M ?_; intro a K;refine aK (aA (wp_seq (wp_seq (aB ?_))));refine aI K M ?_; clear K; intro a K;obtain ⟨r2, gX, h⟩ := aF h;refine eA K (fS P1 K (GH gX)) ?_;clear K; rintro _ a w ⟨rfl, Zq⟩ K;replace M := M.call Zq; clear Zq;refine aI K M ?_; clear K; intro a K;refine aK (aA ?_);refine aR K rfl (fun hb => ?_) (fun hb => ?_)
 ·have h := aN hb h;refine wp_seq (aB ?_);refine aI K M ?_; clear K;refine aQ M ?_; intro a K;refine aK (aA (wp_ret (aH ?_)));cases h;exact gM K rfl (aC K rfl) (aC K rfl) ⟨_, rfl, rfl, M.pick [] aM⟩
 have h := aG hb h;refine wp_skip (aA (wp_seq (wp_seq (aB ?_))));refine aI K M ?_; clear K;refine bL (fun _ K => iT rfl oQ K rfl) M ?_;refine aQ M ?_; intro a K;refine aK (aA ?_);refine aR K rfl (fun hb => ?_) (fun hb => ?_)
 ·have h := aN hb h;refine wp_seq (aB ?_);refine aI K M ?_; clear K;refine aQ M ?_; intro a K;refine aK (aA (wp_ret (aH ?_)));cases h;exact gM K rfl (aC K rfl) (aC K rfl) ⟨_, rfl, rfl, M.pick [] aM⟩
 have h := aG hb h;refine wp_skip (aA (wp_seq (aB ?_)));refine aI K M ?_; clear K; intro a K;refine aK (aA (wp_seq (wp_seq (aB ?_))));refine aI K M ?_; clear K;refine bL (fun _ K => iT rfl oQ K rfl) M ?_;refine aQ M ?_; intro a K;refine aK (aA (wp_block ?_));refine kL (id := 0) (Rel := fun (⟨n, i⟩ : Int × Int) a w => Kn a 27 [(0, .string (bs b)), (4, I n), (13, I (b.length : Int)), (14, I i)] ∧ Mem w0.heap.size w0 w []) h (fun _ _ => rfl) ⟨K.pick [0,4,13,14], M.pick [] aM⟩ ?_ ?_
 ·clear K M h;rintro ⟨n4, i2⟩ a w ⟨K, M⟩ h;try dsimp only at h
  refine fV ?_;refine aA (wp_seq (aB ?_));refine aI K M ?_; clear K;iterate 2 (refine aQ M ?_)
  intro a K;refine aK (aA (wp_ret ?_));cases h;exact gM K rfl (aC K rfl) (aC K rfl) ⟨_, rfl, rfl, M.pick [] aM⟩
 clear K M h;rintro kk fuel ⟨n, i⟩ a w hk1 ⟨K, M⟩ h;unfold pO at h;refine wp_seq (aB ?_);refine aI K M ?_; clear K; intro a K;refine aK (aA (wp_seq ?_));refine aR K rfl (fun hb => ?_) (fun hb => ?_)
 ·have h := aN hb h;refine wp_skip (aA (wp_seq (wp_block (wp_seq (aB ?_)))));refine aI K M ?_; clear K;refine aQ M ?_; intro a K;refine aK (aA (aB ?_));refine aI K M ?_; clear K;refine bL (fun _ K => pF rfl K rfl rfl aM) M ?_;iterate 2 (refine aQ M ?_)
  obtain ⟨b3, E1, h⟩ := aF h;refine bL (fun _ K => tI rfl oQ K rfl rfl E1) M ?_;refine aQ M ?_;refine bL (fun _ K => gH rfl rfl D7 K rfl) M ?_;refine aQ M ?_;obtain ⟨n3, hx, h⟩ := gI h;refine bL (fun _ K => mR hx (bK rfl K rfl)) M ?_; intro a K;refine aK (dO (aA (aB ?_)));refine aI K M ?_; clear K;refine aQ M ?_; intro a K;refine aK ?_;exact aA ⟨(n3, IntKind.i64.wrap (i + 1)), ⟨K.pick [0,4,13,14], M.pick [] aM⟩, h⟩
 have h := aG hb h;refine wp_exit ?_;refine bR ?_;exact bR (hk1 (n, i) _ _ ⟨K.pick [0,4,13,14], M.pick [] aM⟩ h)
theorem BP {N : Nat} {x2 : Int} {w0 : World} {r : Bool} (h : rO N x2 = some r) :
  Calls Tryz.prog 194 #[I x2] w0 fun e w' => ∃ v, e = .returned v ∧ v = .bool r ∧ Mem w0.heap.size w0 w' [] := by
 refine bW Tryz.func194 rfl Tryz.ntmps194 rfl ?_;intro a K;have M := Mem.start w0;have K : Kn a 6 [(0, _)] := K;unfold rO at h;refine wp_seq (aB ?_);refine aI K M ?_; clear K; intro a K;refine aK (aA (wp_seq (aB ?_)));refine aI K M ?_; clear K;iterate 3 (refine aQ M ?_)
 intro a K;refine aK (aA (wp_ret ?_));cases h;exact dH K rfl (aC K rfl) ⟨_, rfl, rfl, M.pick [] aM⟩
theorem Ed {N : Nat} {x2 y : Int} {w0 : World} {r : Int} (h : sL N x2 y = some r) :
  Calls Tryz.prog 166 #[I x2, I y] w0 fun e w' => ∃ v, e = .returned v ∧ v = I r ∧ Mem w0.heap.size w0 w' [] := by
 refine bW Tryz.func166 rfl Tryz.ntmps166 rfl ?_;intro a K;have M := Mem.start w0;have K : Kn a 20 [(0, _), (1, _)] := K;unfold sL at h;refine wp_seq (aB ?_);refine aI K M ?_; clear K; intro a K;refine aK (aA (wp_seq (aB ?_)));refine aI K M ?_; clear K; intro a K;obtain ⟨r2, gX, h⟩ := aF h;refine eA K (fS P7 K (BP gX)) ?_;clear K; rintro _ a w ⟨rfl, Zq⟩ K;replace M := M.call Zq; clear Zq;refine aI K M ?_; clear K; intro a K;refine aK (aA (wp_seq (aB ?_)));refine aI K M ?_; clear K; intro a K;obtain ⟨r3, kY, h⟩ := aF h;refine eA K (fS P7 K (BP kY)) ?_;clear K; rintro _ a w ⟨rfl, Zq⟩ K;replace M := M.call Zq; clear Zq;refine aI K M ?_; clear K; intro a K;refine aK (aA (wp_seq (wp_seq (aB ?_))));refine aI K M ?_; clear K; intro a K;refine aK (aA ?_);refine aR K rfl (fun hb => ?_) (fun hb => ?_)
 ·have h := aN hb h;refine wp_seq (wp_seq (aB ?_));refine aI K M ?_; clear K; intro a K;refine aK (aA ?_);refine aR K rfl (fun hb => ?_) (fun hb => ?_)
  ·have h := aN hb h;refine wp_seq (aB ?_);refine aI K M ?_; clear K; intro a K;refine aK (aA (wp_ret (aH (aH ?_))));cases h;exact dH K rfl (aC K rfl) ⟨_, rfl, rfl, M.pick [] aM⟩
  have h := aG hb h;refine wp_skip (aA (wp_seq (aB ?_)));refine aI K M ?_; clear K; intro a K;refine aK (aA (wp_ret (aH ?_)));cases h;exact dH K rfl (aC K rfl) ⟨_, rfl, rfl, M.pick [] aM⟩
 have h := aG hb h;refine wp_skip (aA (wp_seq (wp_seq (aB ?_))));refine aI K M ?_; clear K; intro a K;refine aK (aA ?_);refine aR K rfl (fun hb => ?_) (fun hb => ?_)
 ·have h := aN hb h;refine wp_seq (aB ?_);refine aI K M ?_; clear K; intro a K;refine aK (aA (wp_ret (aH ?_)));cases h;exact dH K rfl (aC K rfl) ⟨_, rfl, rfl, M.pick [] aM⟩
 have h := aG hb h;refine wp_skip (aA (wp_seq (wp_seq (aB ?_))));refine aI K M ?_; clear K;iterate 2 (refine aQ M ?_)
 intro a K;refine aK (aA ?_);refine aR K rfl (fun hb => ?_) (fun hb => ?_)
 ·have h := aN hb h;refine wp_seq (aB ?_);refine aI K M ?_; clear K; intro a K;refine aK (aA (wp_ret (aH ?_)));cases h;exact dH K rfl (aC K rfl) ⟨_, rfl, rfl, M.pick [] aM⟩
 have h := aG hb h;refine wp_skip (aA (wp_seq (wp_seq (aB ?_))));refine aI K M ?_; clear K;iterate 2 (refine aQ M ?_)
 intro a K;refine aK (aA ?_);refine aR K rfl (fun hb => ?_) (fun hb => ?_)
 ·have h := aN hb h;refine wp_seq (aB ?_);refine aI K M ?_; clear K; intro a K;refine aK (aA (wp_ret (aH ?_)));cases h;exact dH K rfl (aC K rfl) ⟨_, rfl, rfl, M.pick [] aM⟩
 have h := aG hb h;refine wp_skip (aA (wp_seq (aB ?_)));refine aI K M ?_; clear K; intro a K;refine aK (aA (wp_ret ?_));cases h;exact dH K rfl (aC K rfl) ⟨_, rfl, rfl, M.pick [] aM⟩
end
end Go.Proofs.YtpmnfhifmmfglacGreatDoor
