/- Texts of the claim ShotWrites, joined and made small by a program. -/
import Derived.Scope
import Derived.Shelf.Strconv.ErrVarAll
import Derived.Shelf.Strconv.Itoa3
import Derived.Shelf.Strings.Builder1
import Derived.Shelf.Strings.Count
import Derived.Shelf.Strings.Search2
import Derived.Shelf.Strings.Search3
import Derived.Shelf.Strings.SlTrimAscii
import Derived.Stop.IfaceNil
import Derived.Test.YtpmnfhifmmfglacGreatDoorChecked
import Derived.Test.YtpmnfhifmmfglacGreatDoorProg
import Derived.Test.YtpmnfhifmmfglacGreatDoorShotWritesK4
import Derived.Test.YtpmnfhifmmfglacGreatDoorShotWritesK5
import Derived.Test.YtpmnfhifmmfglacGreatDoorShotWritesK6
set_option linter.unusedVariables false
set_option linter.unusedSimpArgs false
set_option linter.unusedSectionVars false
set_option maxRecDepth 100000
set_option maxHeartbeats 8000000
namespace Go.Proofs.YtpmnfhifmmfglacGreatDoor
section
open Go.RowKit
section
variable {Q : Exit → Act → World → Prop} {a : Act} {w : World}
theorem U2 (h : Q .ret a w) : Exit.noGoto Q .ret a w := h
end
theorem fK {P : Program} {f : FuncId} {cap : Array Value} {w : World} (hf : gM P f = true) : (invoke (.fn (.func f) cap) #[]).run P w = .ok (.enter f cap) w := by
 unfold gM at hf
 split at hf
 ·rename_i fn hfn
  simp only [Bool.and_eq_true, bne_iff_ne, ne_eq] at hf;obtain ⟨b, hb⟩ := Option.isSome_iff_exists.1 hf.1
  simp [invoke, callFunc, hfn, hb, hf.2]
 ·cases hf
theorem Pb {P : Program} {S : World → Prop} {D : List Deferred} {a : Act} {N : Nat} {l : List (Nat × Value)} {o : Oper} {x : Operand} {t t' u : TypeId} {v : Value} (hi : P.isIface t = true) (ho : o.op = .binOp .eql t x (.const .nilIface) t') (K : Kd D a N l) (hx : gC l x = some (.iface u v)) : Rd P S a o (.bool false) :=
 oH ho K hx (show gC l (.const .nilIface) = some .nilIface from rfl) fun w => by rw [Sem.run_bind]; simp [eqGuard, run_eql_iface_nil w t hi u v]
theorem Pc {P : Program} {S : World → Prop} {D : List Deferred} {a : Act} {N : Nat} {l : List (Nat × Value)} {o : Oper} {x : Operand} {t t' : TypeId} (hi : P.isIface t = true) (ho : o.op = .binOp .eql t x (.const .nilIface) t') (K : Kd D a N l) (hx : gC l x = some .nilIface) : Rd P S a o (.bool true) :=
 oH ho K hx (show gC l (.const .nilIface) = some .nilIface from rfl) fun w => by rw [Sem.run_bind]; simp [eqGuard, run_eql_nil_nil_at w t hi]
theorem pP {P : Program} {S : World → Prop} {D : List Deferred} {a : Act} {N : Nat} {l : List (Nat × Value)} {o : Oper} {x ix : Operand} {t e : TypeId} {g off c : Nat} {k : IntKind} {b s j len : Nat} (ho : o.op = .indexAddr t x ix) (ht : Hc P t e s b = true) (K : Kd D a N l) (hx : gC l x = some (.slice (some ⟨g, off, none⟩) len c)) (hi : gC l ix = some (.int k j)) (hj : Nat.blt j len = true) : Rd P S a o (.pointer (some ⟨g, off + j * s, none⟩)) := fun w _ => by
  obtain ⟨hu, i, oA, hs, _⟩ := jR ht
  have h1 : (j : Int) < len := by have : j < len := by simpa [Nat.blt_eq] using hj
                                  omega
  have hadd : (⟨g, off, none⟩ : Addr).add (j * s) = ⟨g, off + j * s, none⟩ := by unfold Addr.add; split <;> simp_all
  unfold execOp
  simp [ho, K.ev hx, K.ev hi, Instr.indexAt, asIntOf, run_underlying hu, sizeOf, typeInfo, oA, hs, h1, hadd]
  intro hh; omega
theorem BG (P : Program) (g o : Nat) (t : TypeId) (fz : Nat × Nat) : ∀ (vs : List Value) (i : Nat) (cur : Array Value) (w : World), w.heap[g]? = some (.cells cur t fz) → (fz.2 ≤ fz.1 ∨ o + i + vs.length ≤ fz.1) → o + i + vs.length ≤ cur.size → (∀ v ∈ vs, v.oneCell' = true) →
  (storeCells ⟨g, o, none⟩ vs i).run P w = .ok () (w.setRow g (cur.toList.take (o + i) ++ vs ++ cur.toList.drop (o + i + vs.length)).toArray)
 | [], i, cur, w, hg, _, _, _ => by
  simp only [storeCells, List.append_nil, List.length_nil, Nat.add_zero, List.take_append_drop, Array.toArray_toList];rw [setRow_self w g cur t fz hg]
  rfl
 | v :: rest, i, cur, w, hg, hfz, hl, h1 => by
  have hi : o + i < cur.size := by simp at hl; omega
  have hadd : (⟨g, o, none⟩ : Addr).add i = ⟨g, o + i, none⟩ := by unfold Addr.add; split <;> simp_all
  have hcell : w.cell? ⟨g, o + i, none⟩ = some cur[o + i] := by simp [World.cell?, hg, hi]
  have hfro : w.frozen? ⟨g, o + i, none⟩ = false := by
   obtain ⟨lo, hi'⟩ := fz;simp only [World.frozen?, hg, Bool.and_eq_false_iff, decide_eq_false_iff_not];simp only [List.length_cons] at hfz
   omega
  have hst : (store ((⟨g, o, none⟩ : Addr).add i) v).run P w = .ok () (w.setRow g (cur.setIfInBounds (o + i) v)) := by
   rw [hadd, run_store P w _ v _ (h1 v (by simp)), hcell]
   simp [hfro, setCell_eq_setRow w g (o + i) cur t fz v hg]
  have ih := BG P g o t fz rest (i + 1) (cur.setIfInBounds (o + i) v) (w.setRow g (cur.setIfInBounds (o + i) v)) (setRow_heap w g cur _ t _ hg) (by simp only [List.length_cons] at hfz; omega) (by simp at hl ⊢; omega) (fun x hx => h1 x (by simp [hx]));simp only [storeCells, Sem.run_bind, hst, Result.andThen_ok, ih, setRow_setRow]
  congr 3
  have e := list_seg_step cur.toList (o + i) v rest (by simp at hl ⊢; omega)
  simpa [Array.toList_setIfInBounds, Nat.add_assoc] using e
section
variable {P : Program} {base : Nat} {W w : World} {L : List jM} {S : World → Prop} {D : List Deferred} {a : Act} {N : Nat} {l : List (Nat × Value)} {o : Oper} {x y : Operand} {t t' et : TypeId} {s : List UInt8} {A : Option Addr} {c : Nat} {xs ys zs : List Int}
theorem YX (i : Nat) {n : Nat} (h : L[i]? = some (.PS et A n c ((cI .u8).all xs))) : ∀ w, Mem base W w L → SL w (cI .u8) A xs := fun w M _ => by
 obtain ⟨g, cur, fz, rfl, hg, hfz, hn, hnc, hcm, hcs, htk⟩ := M.has i _ h;refine ⟨g, 0, rfl, fun j u hu => ?_⟩;rw [Nat.zero_add, cell_of_row w g j cur _ _ hg];rw [← htk, List.getElem?_take] at hu
 split at hu
 ·simpa using hu
 ·cases hu
theorem Nx {b : Nat} (ho : o.op = .convert t t' x) (hs : P.underlying t = some .string) (ht : Hc P t' et 1 b = true) (he : P.underlying et = some (.int .u8)) (hlen : s.length ≤ 140737488355328) (K : Kd D a N l) (hx : gC l x = some (.string (bs s))) (M : Mem base W w L) :
  Ac P o a w fun v w' => ∃ A c, v = .slice A (lL s).length c ∧ Mem base W w' (.PS et A (lL s).length c ((cI .u8).all (lL s)) :: L) := by
 obtain ⟨hu, _⟩ := jR ht;have hr := run_bytes_of_string (P := P) w t t' et (bs s) hs hu he;have hsz : (bs s).size = (lL s).length := by rw [sR]; exact pU s
 have hl : (lL s).length = s.length := sR s
 have hcap : (lL s).length ≤ grownCap w (bs s).size 0 et := by
  rw [← hsz]; exact grownCap_ge _ _ _ _
 have S6 : grownCap w (bs s).size 0 et ≤ maxLen := grownCap_le_maxLen _ _ _ _ (by rw [hsz]; simp only [maxLen]; omega)
 have hrun : (execOp a.eval o).run P w = .ok (.value (.slice (some ⟨w.heap.size, 0, none⟩) (lL s).length (grownCap w (bs s).size 0 et))) (w.drew.alloc (.cells (bytesRow (bs s) (grownCap w (bs s).size 0 et)) et ((bytesRow (bs s) (grownCap w (bs s).size 0 et)).size, (bytesRow (bs s) (grownCap w (bs s).size 0 et)).size + 1))) := by
  unfold execOp;simp only [ho, K.ev hx, Sem.run_bind, hr, ← hsz]; rfl
 refine rU hrun ⟨some ⟨w.heap.size, 0, none⟩, grownCap w (bs s).size 0 et, rfl, ?_⟩
 ·refine ((M.drew).below ((Below.refl _ _).alloc (Nat.le_refl _) _)).cons ?_ fun g hg => ?_
  ·have hbz : (bytesRow (bs s) (grownCap w (bs s).size 0 et)).size = grownCap w (bs s).size 0 et := by
    unfold bytesRow;rw [Array.size_append, Array.size_map, Array.size_replicate];have : (bs s).data.size = (bs s).size := rfl;rw [this]; omega
   refine ⟨w.heap.size, _, _, rfl, heap_alloc_new w.drew _, .inr (Nat.le_refl _), by rw [qQ.rI]; simp [cI], hcap, S6, hbz, ?_⟩;rw [← EM, ← hsz];unfold bytesRow
   have e1 : Lib.strCells (bs s) = ((bs s).data.map (fun b => Value.int .u8 b.toNat)).toList := by
    show s.map _ = _
    simp [bs]
   rw [e1, Array.toList_append, List.take_append_of_le_length (by rw [Array.length_toList, Array.size_map]; exact Nat.le_refl _)];exact List.take_of_length_le (by rw [Array.length_toList, Array.size_map]; exact Nat.le_refl _)
  ·simp [jM.foot] at hg
   subst hg;exact ⟨M.sz, fun i e' h he => by have := M.Fw i e' _ h he; omega⟩
theorem Ow (ho : o.op = .call { callee := .builtin .append, args := #[x, y], argTypes := #[t, t] }) (ht : Hc P t et 1 1 = true) (hz : (P.info? et).bind (·.zero) = some (.int .u8 0)) (K : Kd D a N l)
  (hx : gC l x = some (.slice A xs.length c)) {B : Option Addr} {c' : Nat} (hy : gC l y = some (.slice B ys.length c')) (i : Nat) (M : Mem base W w L) (hi : L[i]? = some (.PS et A xs.length c ((cI .u8).all xs))) (R : SL w (cI .u8) B ys) (hm : 0 < ys.length) (hlen : app 1 xs ys = some zs) :
  Ac P o a w fun v w' => ∃ A' c'', v = .slice A' zs.length c'' ∧ Mem base W w' (L.set i (.PS et A' zs.length c'' ((cI .u8).all zs))) := by
 obtain ⟨rfl, hbytes⟩ := IC hlen;obtain ⟨hsl, inf, oA, hsz, hby⟩ := jR ht;have hzz : inf.zero = some (.int .u8 0) := by rw [oA] at hz; exact hz
 obtain ⟨g, cur, fz, rfl, hg, hfz, hn, hnc, hcm, hcs, htk⟩ := M.has i _ hi;obtain ⟨bb, oo, rfl, hc⟩ := R hm;have hall : ∀ l : List Int, ((cI .u8).all l).length = l.length := fun l => by rw [qQ.rI]; simp [cI]
 have hnews : ∀ j u, ((cI .u8).all ys)[j]? = some u → w.cell? ((⟨bb, oo, none⟩ : Addr).add j) = some u := fun j u hu => by
  have hadd : (⟨bb, oo, none⟩ : Addr).add j = ⟨bb, oo + j, none⟩ := by unfold Addr.add; split <;> simp_all
  rw [hadd]; exact hc j u hu
 have hone : ∀ u ∈ (cI .u8).all ys, u.oneCell' = true := (cI .u8).Oa ys;have hup := M.up i _ g hi rfl;have hlt : i < L.length := (List.getElem?_eq_some_iff.1 hi).1
 have Qt : ∀ {v : Value} {w' : World}, (Builtin.append_ #[t, t] o.type #[.slice (some ⟨g, 0, none⟩) xs.length c, .slice (some ⟨bb, oo, none⟩) ys.length c']).run P w = .ok v w' → (execOp a.eval o).run P w = .ok (.value v) w' := fun {v w'} hr => by
  unfold execOp;simp only [ho, resolve, invoke, builtin, Sem.run_bind, Sem.run_pure, Result.andThen_ok, List.map_toArray, List.map_cons, List.map_nil, K.ev hx, K.ev hy];rw [hr]; rfl
 by_cases hroom : xs.length + ys.length ≤ c
 ·have hf := run_firstCells_some (P := P) w inf.size ys.length ⟨bb, oo, none⟩ ys.length c' ((cI .u8).all ys) (by rw [hall, hsz]; omega) hnews;have hst := BG P g (xs.length * inf.size) et fz ((cI .u8).all ys) 0 cur w hg (by rw [hall, hsz]; omega) (by rw [hall, hsz]; omega) hone;simp only [Nat.add_zero] at hst
  have hr : (Builtin.append_ #[t, t] o.type #[.slice (some ⟨g, 0, none⟩) xs.length c, .slice (some ⟨bb, oo, none⟩) ys.length c']).run P w = .ok (.slice (some ⟨g, 0, none⟩) (xs.length + ys.length) c) (w.setRow g (cur.toList.take (xs.length * inf.size) ++ (cI .u8).all ys ++ cur.toList.drop (xs.length * inf.size + ((cI .u8).all ys).length)).toArray) := by
   simp [Builtin.append_, run_underlying hsl, sizeOf, typeInfo, oA, Builtin.lenOf, hroom, hf, Addr.add_lit, hst]
  refine rU (Qt hr) ⟨some ⟨g, 0, none⟩, c, by rw [List.length_append], ?_⟩;refine M.turn i hi ⟨rfl, rfl, rfl, by simp, fun k hk => setRow_other w g k _ (by omega)⟩ ?_ (fun j _ hj => setRow_other w g j _ fun e => hj (by simp [jM.foot, e])) (fun g' hg' => .inl hg');rw [hsz, Nat.mul_one, hall];refine ⟨g, _, fz, rfl, setRow_heap w g cur _ et _ hg, ?_, by rw [hall, List.length_append], by rw [List.length_append]; exact hroom, hcm, ?_, ?_⟩
  ·simp only [List.size_toArray, List.length_append, List.length_take, List.length_drop, Array.length_toList, hall]
   omega
  ·simp only [List.size_toArray, List.length_append, List.length_take, List.length_drop, Array.length_toList, hall]
   omega
  ·rw [htk, qQ.all_append, List.length_append];have h2 : (((cI .u8).all xs) ++ ((cI .u8).all ys)).length = xs.length + ys.length := by rw [List.length_append, hall, hall]
   show List.take (xs.length + ys.length) ((cI .u8).all xs ++ (cI .u8).all ys ++ _) = _;rw [← h2];exact List.take_left
 ·have holds : ∀ j u, ((cI .u8).all xs)[j]? = some u → w.cell? ((⟨g, 0, none⟩ : Addr).add j) = some u := fun j u hu => by
   have hadd : (⟨g, 0, none⟩ : Addr).add j = ⟨g, 0 + j, none⟩ := by unfold Addr.add; split <;> simp_all
   rw [hadd, Nat.zero_add, cell_of_row w g j cur _ _ hg];rw [← htk, List.getElem?_take] at hu
   split at hu
   ·simpa using hu
   ·cases hu
  have hb1 : inf.bytes = 1 := hby;have hr := run_append_grow (P := P) w t o.type et inf (.int .u8 0) hsl oA hzz ⟨g, 0, none⟩ xs.length c ((cI .u8).all xs) (by rw [hall, hsz]; omega) holds ⟨bb, oo, none⟩ ys.length c' ((cI .u8).all ys) (by rw [hall, hsz]; omega) hnews (by omega) (by omega) (growslice_fits (by omega) (by rw [hb1]; omega));refine rU (Qt hr) ⟨some ⟨w.heap.size, 0, none⟩, _, by rw [List.length_append], ?_⟩;have hge := grownCap_ge w (xs.length + ys.length) c et;have hcm2 : grownCap w (xs.length + ys.length) c et ≤ maxLen := grownCap_le_maxLen w (xs.length + ys.length) c et (by simp only [maxLen]; omega);refine (M.drew).turn i hi ((Below.refl _ _).alloc M.drew.sz _) ?_ (fun k hk _ => heap_alloc_old w.drew _ hk) (fun g' hg' => .inr ?_)
  ·refine ⟨w.heap.size, _, _, rfl, heap_alloc_new w.drew _, .inl (Nat.le_refl _), by rw [hall, List.length_append], by rw [List.length_append]; exact hge, hcm2, ?_, ?_⟩
   ·simp only [Array.size_append, List.size_toArray, hall, Builtin.zeroCells]
    simp [Value.cells]
    omega
   ·simp only [Array.toList_append, List.append_assoc];rw [qQ.all_append, List.length_append];have h2 : (((cI .u8).all xs) ++ ((cI .u8).all ys)).length = xs.length + ys.length := by rw [List.length_append, hall, hall]
    rw [← List.append_assoc, ← h2];exact List.take_left
  ·simp [jM.foot] at hg'
   subst hg';exact Nat.le_refl _
end
theorem z1 : iA Tryz.prog 1 = some [.nilFunc] := by kernel_rfl
theorem z2 : iA Tryz.prog 2 = some [.int .i64 0] := by kernel_rfl
theorem iN : H8 Tryz.prog 3 = true := by kernel_rfl
theorem z3 : iA Tryz.prog 3 = some [.int .i64 0] := by kernel_rfl
theorem ZN : (Tryz.prog.info? 3).bind (·.zero) = some (.int .i64 0) := by kernel_rfl
theorem Wh : Tryz.prog.underlying 3 = some (.int .i64) := by kernel_rfl
theorem wW : (Tryz.prog.info? 3).map (·.size) = some 1 := by kernel_rfl
theorem XO : Tryz.prog.underlying 4 = some .bool := by kernel_rfl
theorem z4 : iA Tryz.prog 4 = some [.bool false] := by kernel_rfl
theorem XP : H8 Tryz.prog 5 = true := by kernel_rfl
theorem z5 : iA Tryz.prog 5 = some [.int .u8 0] := by kernel_rfl
theorem Pd : Tryz.prog.underlying 5 = some (.int .u8) := by kernel_rfl
theorem XQ : (Tryz.prog.info? 5).bind (·.zero) = some (.int .u8 0) := by kernel_rfl
theorem ZO : (Tryz.prog.info? 5).map (·.size) = some 1 := by kernel_rfl
theorem ML : H8 Tryz.prog 9 = true := by kernel_rfl
theorem z9 : iA Tryz.prog 9 = some [.string (bs ([] : List UInt8))] := by kernel_rfl
theorem nY : Tryz.prog.underlying 9 = some .string := by kernel_rfl
theorem sz9 : (Tryz.prog.info? 9).map (·.size) = some 1 := by kernel_rfl
theorem z20 : iA Tryz.prog 20 = some [.nilIface] := by kernel_rfl
theorem z21 : iA Tryz.prog 21 = some [.int .i32 0] := by kernel_rfl
theorem Wi : Ce Tryz.prog 22 4 = true := by kernel_rfl
theorem KQ : Tryz.prog.underlying 22 = some (.array 4 3) := by kernel_rfl
theorem Js : H8 Tryz.prog 23 = true := by kernel_rfl
theorem Dt : Hc Tryz.prog 23 92 2 16 = true := by kernel_rfl
theorem SC : ∃ e, Tryz.prog.underlying 23 = some (.slice e) := ⟨_, (jR Dt).1⟩
theorem BH : Tryz.prog.underlying 24 = some (.array 3 3) := by kernel_rfl
theorem Ny : Tryz.prog.underlying 25 = some (.array 9 3) := by kernel_rfl
theorem LV : H8 Tryz.prog 26 = true := by kernel_rfl
theorem zO : Hc Tryz.prog 26 47 2 16 = true := by kernel_rfl
theorem U3 : ∃ e, Tryz.prog.underlying 26 = some (.slice e) := ⟨_, (jR zO).1⟩
theorem U4 : Ce Tryz.prog 28 21 = true := by kernel_rfl
theorem Ox : vK Tryz.prog 28 0 = some 0 := by kernel_rfl
theorem KT : vK Tryz.prog 28 1 = some 1 := by kernel_rfl
theorem KU : vK Tryz.prog 28 2 = some 5 := by kernel_rfl
theorem Du : vK Tryz.prog 28 3 = some 6 := by kernel_rfl
theorem KV : vK Tryz.prog 28 4 = some 7 := by kernel_rfl
theorem KW : vK Tryz.prog 28 5 = some 10 := by kernel_rfl
theorem Gj : vK Tryz.prog 28 6 = some 19 := by kernel_rfl
theorem KY : vK Tryz.prog 28 7 = some 20 := by kernel_rfl
theorem Hn : H8 Tryz.prog 29 = true := by kernel_rfl
theorem eZ : Hc Tryz.prog 29 3 1 8 = true := by kernel_rfl
theorem Jt : ∃ e, Tryz.prog.underlying 29 = some (.slice e) := ⟨_, (jR eZ).1⟩
theorem CD : Ce Tryz.prog 31 3 = true := by kernel_rfl
theorem z31 : iA Tryz.prog 31 = some [.int .i64 0, .int .i64 0, .slice none 0 0] := by kernel_rfl
theorem Dv : vK Tryz.prog 31 0 = some 0 := by kernel_rfl
theorem Dw : vK Tryz.prog 31 2 = some 2 := by kernel_rfl
theorem SD : H8 Tryz.prog 32 = true := by kernel_rfl
theorem jX : Hc Tryz.prog 32 42 3 24 = true := by kernel_rfl
theorem Ju : ∃ e, Tryz.prog.underlying 32 = some (.slice e) := ⟨_, (jR jX).1⟩
theorem qH : Ce Tryz.prog 34 3 = true := by kernel_rfl
theorem z34 : iA Tryz.prog 34 = some [.int .i64 0, .int .i64 0, .slice none 0 0] := by kernel_rfl
theorem U5 : H8 Tryz.prog 35 = true := by kernel_rfl
theorem Ev : Hc Tryz.prog 35 9 1 16 = true := by kernel_rfl
theorem YY : ∃ e, Tryz.prog.underlying 35 = some (.slice e) := ⟨_, (jR Ev).1⟩
theorem sE : Ce Tryz.prog 37 28 = true := by kernel_rfl
theorem z37 : iA Tryz.prog 37 = some [.int .i64 0, .int .i64 0, .int .i64 0, .int .i64 0, .int .i64 0, .slice none 0 0, .slice none 0 0, .int .i64 0, .int .i64 0, .int .i64 0, .int .i64 0, .int .i64 0, .int .i64 0, .slice none 0 0, .int .i64 0, .int .i64 0, .int .i64 0, .int .i64 0, .int .i64 0, .int .i64 0, .int .i64 0, .int .i64 0, .int .i64 0, .int .i64 0, .int .i64 0, .int .i64 0, .slice none 0 0, .int .i64 0] := by kernel_rfl
theorem Oy : vK Tryz.prog 37 0 = some 0 := by kernel_rfl
theorem Oz : vK Tryz.prog 37 1 = some 1 := by kernel_rfl
theorem OA : vK Tryz.prog 37 2 = some 2 := by kernel_rfl
theorem OB : vK Tryz.prog 37 3 = some 3 := by kernel_rfl
theorem OC : vK Tryz.prog 37 4 = some 4 := by kernel_rfl
theorem KZ : vK Tryz.prog 37 5 = some 5 := by kernel_rfl
theorem K3 : vK Tryz.prog 37 6 = some 6 := by kernel_rfl
theorem OD : vK Tryz.prog 37 7 = some 7 := by kernel_rfl
theorem tA : H8 Tryz.prog 38 = true := by kernel_rfl
theorem z38 : iA Tryz.prog 38 = some [.int .i64 0] := by kernel_rfl
theorem sS : Ce Tryz.prog 42 3 = true := by kernel_rfl
theorem z42 : iA Tryz.prog 42 = some [.int .i64 0, .int .i64 0, .int .i64 0] := by kernel_rfl
theorem yG : vK Tryz.prog 42 0 = some 0 := by kernel_rfl
theorem yH : vK Tryz.prog 42 1 = some 1 := by kernel_rfl
theorem yI : vK Tryz.prog 42 2 = some 2 := by kernel_rfl
theorem YZ : (Tryz.prog).eqGuardType (Tryz.prog).depth 42 = false := by kernel_rfl
theorem Wj (x0 y0 x1 y1 x2 y2 : Int) (w : World) : (Op.equalIn 10000 42 (.agg #[.int .i64 x0, .int .i64 x1, .int .i64 x2]) (.agg #[.int .i64 y0, .int .i64 y1, .int .i64 y2])).run Tryz.prog w = .ok (decide (x0 = y0) && decide (x1 = y1) && decide (x2 = y2)) w := by
 have hp : Tryz.prog.stoodInHeld 42 = false := by kernel_rfl
 have ht : Tryz.prog.underlying 42 = some (.struct (Tryz.prog.fieldsOf 42)) := by kernel_rfl
 rw [run_equalIn_agg (d := 9999) _ _ _ _ ht hp]
 by_cases h0 : x0 = y0 <;> by_cases h1 : x1 = y1 <;> by_cases h2 : x2 = y2 <;> simp [Program.fieldsOf, Tryz.underlying42, go_sem, Op.eqFields, h0, h1, h2]
theorem Gk : (Tryz.prog.info? 42).map (·.size) = some 3 := by kernel_rfl
theorem z46 : iA Tryz.prog 46 = some [.int .i64 0, .int .i64 0] := by kernel_rfl
theorem LW : Ce Tryz.prog 47 2 = true := by kernel_rfl
theorem z47 : iA Tryz.prog 47 = some [.int .i64 0, .int .i64 0] := by kernel_rfl
theorem z51 : iA Tryz.prog 51 = some [.nilFunc] := by kernel_rfl
theorem z53 : iA Tryz.prog 53 = some [.nilFunc] := by kernel_rfl
theorem z70 : iA Tryz.prog 70 = some [.nilFunc] := by kernel_rfl
theorem z72 : iA Tryz.prog 72 = some [.nilFunc] := by kernel_rfl
theorem z76 : iA Tryz.prog 76 = some [.nilFunc] := by kernel_rfl
theorem z80 : iA Tryz.prog 80 = some [.nilFunc] := by kernel_rfl
theorem Wk : Ce Tryz.prog 83 3 = true := by kernel_rfl
theorem Y0 : Tryz.prog.underlying 84 = some (.array 9 83) := by kernel_rfl
theorem z85 : iA Tryz.prog 85 = some [.nilFunc] := by kernel_rfl
theorem Pe : Ce Tryz.prog 92 2 = true := by kernel_rfl
theorem Py : iA Tryz.prog 92 = some [.int .i64 0, .int .i64 0] := by kernel_rfl
theorem Pf : Hc Tryz.prog 94 96 2 16 = true := by kernel_rfl
theorem Y1 : ∃ e, Tryz.prog.underlying 94 = some (.slice e) := ⟨_, (jR Pf).1⟩
theorem Wl : Ce Tryz.prog 96 2 = true := by kernel_rfl
theorem Y2 : iA Tryz.prog 96 = some [.int .i64 0, .int .i64 0] := by kernel_rfl
theorem Qu : Tryz.prog.underlying 96 = some (.array 2 3) := by kernel_rfl
theorem z105 : iA Tryz.prog 105 = some [.nilFunc] := by kernel_rfl
theorem z116 : iA Tryz.prog 116 = some [.nilFunc] := by kernel_rfl
theorem Gl : H8 Tryz.prog 123 = true := by kernel_rfl
theorem lZ : Hc Tryz.prog 123 5 1 1 = true := by kernel_rfl
theorem Wm : ∃ e, Tryz.prog.underlying 123 = some (.slice e) := ⟨_, (jR lZ).1⟩
theorem z124 : iA Tryz.prog 124 = some [.slice none 0 0] := by kernel_rfl
theorem z127 : iA Tryz.prog 127 = some [.nilFunc] := by kernel_rfl
theorem sF : H8 Tryz.prog 131 = true := by kernel_rfl
theorem z131 : iA Tryz.prog 131 = some [.pointer none] := by kernel_rfl
theorem CV : vK Tryz.prog 133 0 = some 0 := by kernel_rfl
theorem z138 : iA Tryz.prog 138 = some [.int .i64 0, .int .i64 0, .int .i64 0, .int .i64 0, .int .i64 0] := by kernel_rfl
theorem Kh : Tryz.prog.underlying 138 = some (.array 5 3) := by kernel_rfl
theorem z139 : iA Tryz.prog 139 = some [.nilFunc] := by kernel_rfl
theorem DJ : H8 Tryz.prog 141 = true := by kernel_rfl
theorem z141 : iA Tryz.prog 141 = some [.pointer none] := by kernel_rfl
theorem z143 : iA Tryz.prog 143 = some [.string (bs ([] : List UInt8)), .bool false] := by kernel_rfl
theorem z145 : iA Tryz.prog 145 = some [.nilFunc] := by kernel_rfl
theorem z146 : iA Tryz.prog 146 = some [.pointer none] := by kernel_rfl
theorem Wn : Tryz.prog.underlying 159 = some (.array 3 9) := by kernel_rfl
theorem z164 : iA Tryz.prog 164 = some [.nilFunc] := by kernel_rfl
theorem Wo : (Tryz.prog).eqGuardType (Tryz.prog).depth 166 = false := by kernel_rfl
theorem U6 (x0 y0 x1 y1 x2 y2 x3 y3 : Int) (w : World) : (Op.equalIn 10000 166 (.agg #[.int .i64 x0, .int .i64 x1, .int .i64 x2, .int .i64 x3]) (.agg #[.int .i64 y0, .int .i64 y1, .int .i64 y2, .int .i64 y3])).run Tryz.prog w = .ok (decide (x0 = y0) && decide (x1 = y1) && decide (x2 = y2) && decide (x3 = y3)) w := by
 have hp : Tryz.prog.stoodInHeld 166 = false := by kernel_rfl
 have ht : Tryz.prog.underlying 166 = some (.struct (Tryz.prog.fieldsOf 166)) := by kernel_rfl
 rw [run_equalIn_agg (d := 9999) _ _ _ _ ht hp]
 by_cases h0 : x0 = y0 <;> by_cases h1 : x1 = y1 <;> by_cases h2 : x2 = y2 <;> by_cases h3 : x3 = y3 <;> simp [Program.fieldsOf, Tryz.underlying166, go_sem, Op.eqFields, h0, h1, h2, h3]
theorem z167 : iA Tryz.prog 167 = some [.int .i64 0, .int .i64 0, .int .i64 0, .int .i64 0, .int .i64 0, .int .i64 0, .bool false] := by kernel_rfl
theorem z168 : iA Tryz.prog 168 = some [.int .i64 0, .int .i64 0, .int .i64 0, .int .i64 0, .int .i64 0, .int .i64 0, .bool false] := by kernel_rfl
theorem z175 : iA Tryz.prog 175 = some [.int .i64 0, .int .i64 0, .int .i64 0, .int .i64 0, .int .i64 0, .int .i64 0, .int .i64 0, .int .i64 0] := by kernel_rfl
theorem Fb : Hc Tryz.prog 210 212 1 16 = true := by kernel_rfl
theorem Tc : ∃ e, Tryz.prog.underlying 210 = some (.slice e) := ⟨_, (jR Fb).1⟩
theorem z212 : iA Tryz.prog 212 = some [.nilIface] := by kernel_rfl
theorem Wp : Tryz.prog.underlying 227 = some (.array 8 3) := by kernel_rfl
theorem z232 : iA Tryz.prog 232 = some [.nilFunc] := by kernel_rfl
theorem z233 : iA Tryz.prog 233 = some [.nilFunc] := by kernel_rfl
theorem OE : Tryz.prog.underlying 272 = some (.map 9 3) := by kernel_rfl
theorem Td : gM Tryz.prog 23 = true := by kernel_rfl
theorem Qv : gM Tryz.prog 37 = true := by kernel_rfl
theorem Qw : gM Tryz.prog 42 = true := by kernel_rfl
theorem Qx : gM Tryz.prog 43 = true := by kernel_rfl
theorem Qy : gM Tryz.prog 44 = true := by kernel_rfl
theorem Qz : gM Tryz.prog 47 = true := by kernel_rfl
theorem Te : gM Tryz.prog 48 = true := by kernel_rfl
theorem Tf : gM Tryz.prog 49 = true := by kernel_rfl
theorem Tg : gM Tryz.prog 50 = true := by kernel_rfl
theorem Th : gM Tryz.prog 54 = true := by kernel_rfl
theorem OF : gM Tryz.prog 71 = true := by kernel_rfl
theorem Ti : gM Tryz.prog 75 = true := by kernel_rfl
theorem QA : gM Tryz.prog 79 = true := by kernel_rfl
theorem B8 : gM Tryz.prog 80 = true := by kernel_rfl
theorem oL : gM Tryz.prog 83 = true := by kernel_rfl
theorem HM : gM Tryz.prog 84 = true := by kernel_rfl
theorem fB : gM Tryz.prog 85 = true := by kernel_rfl
theorem LX : gM Tryz.prog 86 = true := by kernel_rfl
theorem LY : gM Tryz.prog 87 = true := by kernel_rfl
theorem Tj : gM Tryz.prog 88 = true := by kernel_rfl
theorem Tk : gM Tryz.prog 89 = true := by kernel_rfl
theorem Tl : gM Tryz.prog 90 = true := by kernel_rfl
theorem Tm : gM Tryz.prog 91 = true := by kernel_rfl
theorem Fc : gM Tryz.prog 95 = true := by kernel_rfl
theorem IT : gM Tryz.prog 96 = true := by kernel_rfl
theorem LZ : gM Tryz.prog 97 = true := by kernel_rfl
theorem L0 : gM Tryz.prog 98 = true := by kernel_rfl
theorem K4 : gM Tryz.prog 103 = true := by kernel_rfl
theorem QB : gM Tryz.prog 105 = true := by kernel_rfl
theorem FL : gM Tryz.prog 107 = true := by kernel_rfl
theorem QC : gM Tryz.prog 108 = true := by kernel_rfl
theorem Nz : gM Tryz.prog 113 = true := by kernel_rfl
theorem K5 : gM Tryz.prog 114 = true := by kernel_rfl
theorem K6 : gM Tryz.prog 116 = true := by kernel_rfl
theorem BI : gM Tryz.prog 117 = true := by kernel_rfl
theorem QD : gM Tryz.prog 120 = true := by kernel_rfl
theorem IU : gM Tryz.prog 124 = true := by kernel_rfl
theorem QE : gM Tryz.prog 126 = true := by kernel_rfl
theorem QF : gM Tryz.prog 128 = true := by kernel_rfl
theorem NA : gM Tryz.prog 150 = true := by kernel_rfl
theorem QG : gM Tryz.prog 152 = true := by kernel_rfl
theorem QH : gM Tryz.prog 155 = true := by kernel_rfl
theorem QI : gM Tryz.prog 158 = true := by kernel_rfl
theorem QJ : gM Tryz.prog 159 = true := by kernel_rfl
theorem K7 : gM Tryz.prog 161 = true := by kernel_rfl
theorem QK : gM Tryz.prog 164 = true := by kernel_rfl
theorem QL : gM Tryz.prog 165 = true := by kernel_rfl
theorem QM : gM Tryz.prog 166 = true := by kernel_rfl
theorem QN : gM Tryz.prog 171 = true := by kernel_rfl
theorem NB : gM Tryz.prog 176 = true := by kernel_rfl
theorem NC : gM Tryz.prog 177 = true := by kernel_rfl
theorem QO : gM Tryz.prog 178 = true := by kernel_rfl
theorem QP : gM Tryz.prog 192 = true := by kernel_rfl
theorem QQ : gM Tryz.prog 193 = true := by kernel_rfl
theorem QR : gM Tryz.prog 209 = true := by kernel_rfl
theorem QS : gM Tryz.prog 220 = true := by kernel_rfl
theorem QT : gM Tryz.prog 265 = true := by kernel_rfl
theorem ND : gM Tryz.prog 267 = true := by kernel_rfl
theorem QU : gM Tryz.prog 268 = true := by kernel_rfl
theorem QV : gM Tryz.prog 269 = true := by kernel_rfl
theorem NE : gM Tryz.prog 271 = true := by kernel_rfl
theorem QW : gM Tryz.prog 272 = true := by kernel_rfl
theorem QX : gM Tryz.prog 273 = true := by kernel_rfl
theorem K8 : gM Tryz.prog 275 = true := by kernel_rfl
theorem QY : gM Tryz.prog 276 = true := by kernel_rfl
theorem NF : gM Tryz.prog 278 = true := by kernel_rfl
theorem QZ : gM Tryz.prog 279 = true := by kernel_rfl
theorem NG : gM Tryz.prog 281 = true := by kernel_rfl
theorem Q4 : gM Tryz.prog 282 = true := by kernel_rfl
theorem K9 : gM Tryz.prog 284 = true := by kernel_rfl
theorem NH : gM Tryz.prog 285 = true := by kernel_rfl
theorem cc9 : Program.concrete Tryz.prog 9 = true := by kernel_rfl
theorem BJ : Program.concrete Tryz.prog 137 = true := by kernel_rfl
theorem Wq : Program.concrete Tryz.prog 203 = true := by kernel_rfl
theorem Wr : Program.concrete Tryz.prog 204 = true := by kernel_rfl
theorem Ws : Program.concrete Tryz.prog 205 = true := by kernel_rfl
theorem Wt : Program.concrete Tryz.prog 206 = true := by kernel_rfl
theorem Wu : Program.concrete Tryz.prog 207 = true := by kernel_rfl
theorem Wv : Program.concrete Tryz.prog 208 = true := by kernel_rfl
theorem Ww : Program.concrete Tryz.prog 209 = true := by kernel_rfl
theorem Wx : ∀ v w, (method (Tryz.prog.types.size + Made.depth) 203 v "darkslide/line.work").run Tryz.prog w = .ok (265, v) w := by
 intro v w
 kernel_rfl
theorem Wy : ∀ v w, (method (Tryz.prog.types.size + Made.depth) 204 v "darkslide/line.work").run Tryz.prog w = .ok (268, v) w := by
 intro v w
 kernel_rfl
theorem Wz : ∀ v w, (method (Tryz.prog.types.size + Made.depth) 205 v "darkslide/line.work").run Tryz.prog w = .ok (269, v) w := by
 intro v w
 kernel_rfl
theorem WA : ∀ v w, (method (Tryz.prog.types.size + Made.depth) 206 v "darkslide/line.work").run Tryz.prog w = .ok (272, v) w := by
 intro v w
 kernel_rfl
theorem WB : ∀ v w, (method (Tryz.prog.types.size + Made.depth) 207 v "darkslide/line.work").run Tryz.prog w = .ok (273, v) w := by
 intro v w
 kernel_rfl
theorem WC : ∀ v w, (method (Tryz.prog.types.size + Made.depth) 208 v "darkslide/line.work").run Tryz.prog w = .ok (279, v) w := by
 intro v w
 kernel_rfl
theorem WD : ∀ v w, (method (Tryz.prog.types.size + Made.depth) 209 v "darkslide/line.work").run Tryz.prog w = .ok (282, v) w := by
 intro v w
 kernel_rfl
theorem aF {p : Prop} (h : p := by kernel_rfl) : p := h
theorem aC {p : Prop} (h : p := by decide) : p := h
abbrev dX := @wpList_nil
theorem Q5 (b : Bool) : b = true ∨ b = false := Bool.eq_false_or_eq_true b
theorem nZ {P : Program} {D : List Deferred} {a : Act} {w : World} {N : Nat} {l : List (Nat × Value)} {o : Oper} {x : Operand} {post : Value → World → Prop} {f : FuncId} {vs : List Value} {args : Array Operand} {ts : Array TypeId} (hf : gM P f = true) (K : Kd D a N l) (h : Calls P f vs.toArray w fun e w' => ∃ v, e = .returned v ∧ post v w') (ho : o.op = .call { callee := .value x, args := args, argTypes := ts } := by exact rfl) (hx : gC l x = some (.func (.func f) #[] #[]) := by exact rfl) (hargs : args.toList.map (gC l) = vs.map some := by exact rfl) : Ac P o a w post := dH (cap := []) ho hf K hx hargs (by rw [List.append_nil]; exact h)
theorem Da {P : Program} {D : List Deferred} {a : Act} {w : World} {N : Nat} {l : List (Nat × Value)} {o : Oper} {x : Operand} {Pn : List PanicEntry → World → Prop} {f : FuncId} {vs : List Value} {args : Array Operand} {ts : Array TypeId} (hf : gM P f = true) (K : Kd D a N l) (h : Calls P f vs.toArray w fun e w' => ∃ ch, e = .panicked ch ∧ Pn ch w') (ho : o.op = .call { callee := .value x, args := args, argTypes := ts } := by exact rfl) (hx : gC l x = some (.func (.func f) #[] #[]) := by exact rfl) (hargs : args.toList.map (gC l) = vs.map some := by exact rfl) : Bo P o a w Pn := SB (cap := []) ho hf K hx hargs (by rw [List.append_nil]; exact h)

structure Ct (n : Nat) (p : Prop) : Prop where
 out : p
structure Hq (p : Prop) : Prop where
 out : p
inductive KS (l : List (Nat × Value)) : List (Nat × Value) → Prop where
 | nil : KS l []
 | cons {s : Nat} {v : Value} {t : List (Nat × Value)} (h : vC l s = some v) (k : KS l t) : KS l ((s, v) :: t)
inductive Seg : List Value → Nat → Nat → List Value → Prop where
 | nil {l : List Value} : Seg l 0 0 []
 | cons {v : Value} {l r : List Value} {n : Nat} (h : Seg l 0 n r) : Seg (v :: l) 0 (n + 1) (v :: r)
 | skip {v : Value} {l r : List Value} {o n : Nat} (h : Seg l o n r) : Seg (v :: l) (o + 1) n r
theorem Seg.eq : ∀ {l : List Value} {o n : Nat} {r : List Value}, Seg l o n r → (l.drop o).take n = r ∧ r.length = n
 | _, _, _, _, .nil => ⟨rfl, rfl⟩
 | _, _, _, _, .cons h => by have := h.eq; simp at this; simp [this]
 | _, _, _, _, .skip h => by have := h.eq; simpa using this
theorem KS.get {l : List (Nat × Value)} : ∀ {t : List (Nat × Value)}, KS l t → ∀ s v, vC t s = some v → vC l s = some v
 | _, .nil, s, v, h => by cases h
 | (s0, v0) :: t, .cons h0 k, s, v, h => by
  simp only [vC] at h
  by_cases e : s0 = s
  · subst e; simp at h; rw [h0, h]
  · rw [PR e] at h; exact k.get s v h
theorem Kd.to {D : List Deferred} {a : Act} {N : Nat} {l l' : List (Nat × Value)} (K : Kd D a N l) (h : KS l l' := by repeat (first | exact KS.nil | refine KS.cons rfl ?_)) : Kd D a N l' := K.sub h.get

class zX (t f : Nat) (off : outParam Nat) : Prop where
 out : vK Tryz.prog t f = some off
class F0 (t : Nat) : Prop where
 out : H8 Tryz.prog t = true
class G6 (t : Nat) (n : outParam Nat) : Prop where
 out : Ce Tryz.prog t n = true
class SE (t : Nat) : Prop where
 out : ∃ e, Tryz.prog.underlying t = some (.slice e)
class Au (t : Nat) (cs : outParam (List Value)) : Prop where
 out : iA Tryz.prog t = some cs
class jF (f : Nat) : Prop where
 out : gM Tryz.prog f = true
class Tn (t : Nat) (e s b : outParam Nat) : Prop where
 out : Hc Tryz.prog t e s b = true
class SF (t : Nat) (k : outParam IntKind) : Prop where
 out : Tryz.prog.underlying t = some (.int k)
class StI (t : Nat) : Prop where
 out : Tryz.prog.underlying t = some .string
section
variable {base : Nat} {W w : World} {L : List jM} {D : List Deferred} {a : Act} {N : Nat} {l : List (Nat × Value)} {ops : Array Oper} {Q : Exit → Act → World → Prop} {rest : List Oper} {o : Oper} {x y ix : Operand} {t t' e : TypeId} {g off n : Nat} {cs ds : List Value} {v : Value} {α : Type} {C : qQ α} {A : Option Addr} {c : Nat} {xs : List α} {el : α} {q : Nat}
theorem lcQ (ho : o.op = .load t x := by exact rfl) (ht : H8 Tryz.prog t = true := by exact F0.out) (hx : gC l x = some (.pointer (some ⟨g, off, none⟩)) := by exact rfl) (hb : ∀ w, Mem base W w L → gK w g t' cs.toArray := by first | exact kO 0 rfl | exact kO 1 rfl | exact kO 2 rfl | exact kO 3 rfl | exact kO 4 rfl | exact kO 5 rfl | exact kO 6 rfl | exact kO 7 rfl | exact kO 8 rfl | exact kO 9 rfl | exact kO 10 rfl | exact kO 11 rfl | exact yS (by assumption)) (hv : cs[off]? = some v := by exact rfl) : ∀ a, Kd D a N l → Rd Tryz.prog (fun w => Mem base W w L) a o v := fun a K => a6 ho ht K hx hb hv
theorem laQ (ho : o.op = .load t x := by exact rfl) (ht : Ce Tryz.prog t n = true := by exact G6.out) (hx : gC l x = some (.pointer (some ⟨g, off, none⟩)) := by exact rfl) (hb : ∀ w, Mem base W w L → gK w g t' cs.toArray := by first | exact kO 0 rfl | exact kO 1 rfl | exact kO 2 rfl | exact kO 3 rfl | exact kO 4 rfl | exact kO 5 rfl | exact kO 6 rfl | exact kO 7 rfl | exact kO 8 rfl | exact kO 9 rfl | exact kO 10 rfl | exact kO 11 rfl | exact yS (by assumption)) (hs : Seg cs off n ds := by repeat (first | exact Seg.nil | apply Seg.cons | apply Seg.skip)) : ∀ a, Kd D a N l → Rd Tryz.prog (fun w => Mem base W w L) a o (.agg ds.toArray) := fun a K => Eb ho ht K hx hb hs.eq.1 hs.eq.2
class IV (t : Nat) (cs : outParam (List Value)) : Prop where
 out : Tryz.prog.built t [] = some cs.toArray
inductive To (l : List (Nat × Value)) : List Operand → List Value → Prop where
 | nil : To l [] []
 | cons {x : Operand} {v : Value} {xs : List Operand} {vs : List Value} (h : gC l x = some v) (k : To l xs vs) : To l (x :: xs) (v :: vs)
theorem To.eq {l : List (Nat × Value)} : ∀ {xs : List Operand} {vs : List Value}, To l xs vs → xs.map (gC l) = vs.map some
 | _, _, .nil => rfl
 | _, _, .cons h k => by simp [h, k.eq]
theorem rfQ {fn : Fn} {cap : Array Operand} {vs : List Value} (ho : o.op = .makeFunc fn #[] cap := by exact rfl) (h : To l cap.toList vs := by repeat (first | exact To.nil | apply To.cons | exact rfl)) : ∀ a, Kd D a N l → Rd Tryz.prog (fun w => Mem base W w L) a o (.func fn #[] vs.toArray) := fun a K => Dc ho K h.eq
theorem XR {i : Nat} {vs : List Value} (K : Kd D a N l) (ho : o.op = .extract x i := by exact rfl) (hx : gC l x = some (.tuple vs.toArray) := by exact rfl) (hi : vs[i]? = some v := by exact rfl) : Rd Tryz.prog (fun w => Mem base W w L) a o v := AE ho K hx (by simpa using hi)
theorem aAd {k : IntKind} {m n : Int} (h : ∀ a, Kd D a N l → Rd Tryz.prog (fun w => Mem base W w L) a o (.int k m)) (he : m = n := by assumption) : ∀ a, Kd D a N l → Rd Tryz.prog (fun w => Mem base W w L) a o (.int k n) := fun a K => MD he (h a K)
def WE (base : Nat) (W : World) (L : List jM) (D : List Deferred) (N : Nat) (ops : Array Oper) (l : List (Nat × Value)) (o : Oper) (d : Nat) (v : Value) : Prop := o.dst = some d ∧ Nat.blt d N = true ∧ Stp Tryz.prog ops (fun w => Mem base W w L) D N l o v
theorem ZP (h : ∀ a, Kd D a N l → Rd Tryz.prog (fun w => Mem base W w L) a o v := by
   first
   | exact fun a K => fM rfl K rfl
   | exact fun a K => aR rfl zX.out K rfl
   | exact lcQ
   | exact fun a K => u4 rfl K rfl
   | exact fun a K => oW rfl K rfl
   | exact fun a K => rS rfl SE.out K rfl
   | exact fun a K => XR K
   | exact fun a K => jJ rfl K rfl rfl
   | exact fun a K => D7 rfl K rfl rfl
   | exact fun a K => Db rfl K rfl rfl
   | exact fun a K => iT rfl K rfl rfl
   | exact fun a K => IG rfl K rfl rfl
   | exact fun a K => IH rfl K rfl rfl
   | exact fun a K => Hd rfl K rfl rfl
   | exact fun a K => IE rfl K rfl rfl
   | exact fun a K => IF rfl K rfl rfl
   | exact fun a K => rd_not rfl K rfl
   | exact fun a K => iQ rfl K rfl rfl
   | exact fun a K => rR rfl K rfl rfl
   | exact fun a K => Ea rfl K rfl rfl
   | exact fun a K => D9 rfl K rfl rfl
   | exact fun a K => D8 rfl K rfl rfl
   | exact laQ
   | exact fun a K => aO rfl K (vs := []) rfl IV.out
   | exact rfQ
   | exact fun a K => EH rfl rfl SF.out K rfl) : ∀ a, Kd D a N l → Rd Tryz.prog (fun w => Mem base W w L) a o v := h
theorem XS {d : Nat} (hd : o.dst = some d := by exact rfl) (hN : Nat.blt d N = true := by exact rfl) (h : Stp Tryz.prog ops (fun w => Mem base W w L) D N l o v := by
 first
 | exact .yes (fun a K => aA rfl) ZP
 | exact .no (fun a K => K.no rfl rfl rfl rfl) rfl
 | exact .yes (fun a K => K.yes rfl rfl rfl) ZP
 | exact .no (fun a K => K.VM rfl rfl rfl) rfl) : WE base W L D N ops l o d v := ⟨hd, hN, h⟩
variable {d : Nat} {p p' : Code} {id id' : Nat} {K' : Act → World → Prop} {f : List Nat} {R : Act → World → Prop} {b : Bool}
theorem zY (M : Mem base W w L) (k : Ct n (∀ a, Kd D a N ((d, v) :: l) → wpList Tryz.prog ops Q rest a w)) (h : WE base W L D N ops l o d v := by exact XS) : Ct (n + 1) (∀ a, Kd D a N l → wpList Tryz.prog ops Q (o :: rest) a w) := ⟨eO M k.out h.1 h.2.1 h.2.2⟩
theorem zZ (k : Ct n (∀ a, Kd D a N ((d, v) :: l) → mW Tryz.prog ops (fun w => Mem base W w L) R (marked f rest) a w)) (h : WE base W L D N ops l o d v := by exact XS) : Ct (n + 1) (∀ a, Kd D a N l → mW Tryz.prog ops (fun w => Mem base W w L) R (marked (0 :: f) (o :: rest)) a w) := ⟨Kb k.out h.1 h.2.1 h.2.2⟩
theorem z6 (k : Ct n (∀ a, Kd D a N ((d, v) :: l) → mW Tryz.prog ops (fun w => Mem base W w L) R (marked [] rest) a w)) (h : WE base W L D N ops l o d v := by exact XS) : Ct (n + 1) (∀ a, Kd D a N l → mW Tryz.prog ops (fun w => Mem base W w L) R (marked [] (o :: rest)) a w) := ⟨Kb (f := []) k.out h.1 h.2.1 h.2.2⟩
theorem z7 (k : Ct n (∀ a, Kd D a N l → R a w)) {S : World → Prop} : Ct (n + 1) (∀ a, Kd D a N l → mW Tryz.prog ops S R (marked f []) a w) := ⟨k.1⟩
theorem tB (k : Ct n (∀ a, Kd D a N l → Q .normal a w)) : Ct (n + 1) (∀ a, Kd D a N l → wpList Tryz.prog ops Q [] a w) := ⟨k.1⟩
theorem z8 (k : Ct n (∀ a, Kd D a N l → K' a w)) : Ct (n + 1) (∀ a, Kd D a N l → Exit.then K' Q .normal a w) := ⟨k.1⟩
theorem Aa (k : Ct n (∀ a, Kd D a N l → Q .ret a w)) : Ct (n + 1) (∀ a, Kd D a N l → Exit.then K' Q .ret a w) := ⟨k.1⟩
theorem Ab (k : Ct n (∀ a, Kd D a N l → Q (.exit id) a w)) : Ct (n + 1) (∀ a, Kd D a N l → Exit.then K' Q (.exit id) a w) := ⟨k.1⟩
theorem Ad (k : Ct n (∀ a, Kd D a N l → Q .normal a w)) : Ct (n + 1) (∀ a, Kd D a N l → Exit.inBlock id Q .normal a w) := ⟨k.1⟩
theorem Ae (k : Ct n (∀ a, Kd D a N l → Q .ret a w)) : Ct (n + 1) (∀ a, Kd D a N l → Exit.inBlock id Q .ret a w) := ⟨k.1⟩
theorem Af (k : Ct n (∀ a, Kd D a N l → Q .normal a w)) : Ct (n + 1) (∀ a, Kd D a N l → Exit.inBlock id Q (.exit id) a w) := ⟨fun a K => E0 (k.1 a K)⟩
theorem Ag (hne : id' ≠ id) (k : Ct n (∀ a, Kd D a N l → Q (.exit id') a w)) : Ct (n + 1) (∀ a, Kd D a N l → Exit.inBlock id Q (.exit id') a w) := ⟨fun a K => VQ hne (k.1 a K)⟩
theorem tC (k : Ct n (∀ a, Kd D a N l → p.wp Tryz.prog (Exit.then (p'.wp Tryz.prog Q) Q) a w)) : Ct (n + 1) (∀ a, Kd D a N l → (Code.seq p p').wp Tryz.prog Q a w) := ⟨fun a K => wp_seq (k.1 a K)⟩
theorem tD {ol : List Oper} (k : Ct n (∀ a, Kd D a N l → wpList Tryz.prog ol.toArray Q ol a w)) : Ct (n + 1) (∀ a, Kd D a N l → (Code.region id ol.toArray false).wp Tryz.prog Q a w) := ⟨fun a K => aG (k.1 a K)⟩
theorem pV (k : Ct n (∀ a, Kd D a N l → Q .normal a w)) : Ct (n + 1) (∀ a, Kd D a N l → Code.skip.wp Tryz.prog Q a w) := ⟨fun a K => wp_skip (k.1 a K)⟩
theorem tE (k : Ct n (∀ a, Kd D a N l → Q .normal a w)) : Ct (n + 1) (∀ a, Kd D a N l → (Code.label id).wp Tryz.prog Q a w) := ⟨fun a K => wp_label (k.1 a K)⟩
theorem tF (k : Ct n (∀ a, Kd D a N l → Q .ret a w)) : Ct (n + 1) (∀ a, Kd D a N l → Code.ret.wp Tryz.prog Q a w) := ⟨fun a K => wp_ret (k.1 a K)⟩
theorem pW (k : Ct n (∀ a, Kd D a N l → Q (.exit id) a w)) : Ct (n + 1) (∀ a, Kd D a N l → (Code.exit id).wp Tryz.prog Q a w) := ⟨fun a K => wp_exit (k.1 a K)⟩
theorem tG (k : Ct n (∀ a, Kd D a N l → p.wp Tryz.prog (Exit.inBlock id Q) a w)) : Ct (n + 1) (∀ a, Kd D a N l → (Code.block id p).wp Tryz.prog Q a w) := ⟨fun a K => wp_block (k.1 a K)⟩
theorem Ah (hc : gC l x = some (.bool true)) (k : Ct n (∀ a, Kd D a N l → p.wp Tryz.prog Q a w)) : Ct (n + 1) (∀ a, Kd D a N l → (Code.cond x p p').wp Tryz.prog Q a w) := ⟨fun a K => kE K hc (k.1 a K)⟩
theorem Ai (hc : gC l x = some (.bool false)) (k : Ct n (∀ a, Kd D a N l → p'.wp Tryz.prog Q a w)) : Ct (n + 1) (∀ a, Kd D a N l → (Code.cond x p p').wp Tryz.prog Q a w) := ⟨fun a K => F9 K hc (k.1 a K)⟩
theorem Aj {O : Exit → Act → World → Prop} {i : Nat} {rem : List Nat} {m : Nat} (k : Ct n (∀ a, Kd D a N ((d, v) :: l) → tQ Tryz.prog O ops (fun w => Mem base W w L) (lN f) (gZ f) R m rem a w)) (ho : ops[i]? = some o := by exact rfl) (h : WE base W L D N ops l o d v := by exact XS) (hc : ((i :: rem).elem i && lN f i && Ka ops (i :: rem) i && (i :: rem).erase i == rem) = true := by kernel_rfl) : Ct (n + 1) (∀ a, Kd D a N l → tQ Tryz.prog O ops (fun w => Mem base W w L) (lN f) (gZ f) R (m + 1) (i :: rem) a w) := ⟨fun a K => by
 cases h.2.2 with
 | yes hw hr => exact eQ i rem hc ho K (hw a K) h.1 h.2.1 (hr a K) k.1
 | no hw hv => subst hv; exact YU i rem hc ho K (hw a K) h.1 h.2.1 k.1⟩
theorem Ak {O : Exit → Act → World → Prop} {S : World → Prop} (k : Ct n (∀ a, Kd D a N l → R a w)) : Ct (n + 1) (∀ a, Kd D a N l → tQ Tryz.prog O ops S (lN f) (gZ f) R 0 [] a w) := ⟨fun a K => yL (k.1 a K)⟩
theorem gcE (hc : gC l x = some (.bool b)) (k1 : b = true → ∀ a, Kd D a N l → p.wp Tryz.prog Q a w) (k2 : b = false → ∀ a, Kd D a N l → p'.wp Tryz.prog Q a w) : Ct 0 (∀ a, Kd D a N l → (Code.cond x p p').wp Tryz.prog Q a w) := ⟨fun a K => kD K hc (fun hb => k1 hb a K) (fun hb => k2 hb a K)⟩
theorem gkE {G : Act → Prop} (s : Nat) (hs : vC l s = some (.bool b)) (k1 : b = true → ∀ a, Kd D a N ((s, .bool true) :: l) → G a) (k2 : b = false → ∀ a, Kd D a N ((s, .bool false) :: l) → G a) : Ct 0 (∀ a, Kd D a N l → G a) := ⟨fun a K => by
 rcases Bool.eq_false_or_eq_true b with hb | hb
 · exact k1 hb a (K.Pq hs hb)
 · exact k2 hb a (K.Pq hs hb)⟩
theorem gE {fn : Func} {code : Code} {fid : FuncId} {args : Array Value} {Rp : Ending → World → Prop} (hf : Tryz.prog.funcs[fid]? = some fn) (hN : fn.ntmps = N) (k : Mem w.heap.size w w [] → ∀ a, Kn a N (F6 0 args.toList) → code.wp Tryz.prog (bodyPost Tryz.prog fn Rp) a w) (hb : fn.body = some code := by exact rfl) (hs : Nat.ble args.size N = true := by exact rfl) : Calls Tryz.prog fid args w Rp := gD hf hb hN hs (k (Mem.start w))
theorem Ig (M : Mem base W w L) (K : Kd D a N l) (i : Nat) (ho : o.op = .store t x y := by exact rfl) (ht : Ce Tryz.prog t n = true := by exact G6.out) (hx : gC l x = some (.pointer (some ⟨g, 0, none⟩)) := by exact rfl) (hi : L[i]? = some (.blk g t' cs) := by exact rfl) (hy : gC l y = some (.agg ds.toArray) := by exact rfl) (h1 : ds.all (·.oneCell') = true := by exact rfl) (hn : ds.length = n := by exact rfl) (hl : cs.length = n := by exact rfl) : Ac Tryz.prog o a w fun _ w' => Mem base W w' (L.set i (.blk g t' ds)) := bS ho ht K hx hy h1 i M hi hn hl
theorem Ih (M : Mem base W w L) (K : Kd D a N l) (i : Nat) (ho : o.op = .store t x y := by exact rfl) (ht : H8 Tryz.prog t = true := by exact F0.out) (hx : gC l x = some (.pointer (some ⟨g, off, none⟩)) := by exact rfl) (hi : L[i]? = some (.blk g t' cs) := by exact rfl) (hy : gC l y = some v := by exact rfl) (h1 : v.oneCell' = true := by exact rfl) (hl : Nat.blt off cs.length = true := by exact rfl) : Ac Tryz.prog o a w fun _ w' => Mem base W w' (L.set i (.blk g t' (cs.set off v))) := aN ho ht K hx hy h1 i M hi hl
theorem Mem.nQ (M : Mem base W w L) : Mem base W w [] := M.pick [] (by decide)
theorem Mem.oQ {e : jM} (M : Mem base W w (e :: L)) : Mem base W w [e] := M.pick [0] (by decide)
theorem Y3 (M : Mem base W w L) (K : Kd D a N l) (ho : o.op = .box t x := by exact rfl) (hx : gC l x = some (.agg ds.toArray) := by exact rfl) (hc : (Value.agg ds.toArray).cells = ds.toArray := by exact rfl) : Ac Tryz.prog o a w fun v w' => ∃ g, v = .pointer (some ⟨g, 0, none⟩) ∧ Mem base W w' (.blk g t ds :: L) := Ed ho K hx hc M
theorem Y4 (M : Mem base W w L) (K : Kd D a N l) (ho : o.op = .box t x := by exact rfl) (hx : gC l x = some v := by exact rfl) (hc : v.cells = [v].toArray := by exact rfl) : Ac Tryz.prog o a w fun v' w' => ∃ g, v' = .pointer (some ⟨g, 0, none⟩) ∧ Mem base W w' (.blk g t [v] :: L) := Ed ho K hx hc M
theorem gfE {post : Value → World → Prop} {fi : FuncId} {vs : List Value} {args : Array Operand} {ts : Array TypeId} (X : Calls Tryz.prog fi vs.toArray w fun e w' => ∃ v, e = .returned v ∧ post v w') (k : ∀ v w', post v w' → ∀ a, Kd D a N ((d, v) :: l) → wpList Tryz.prog ops Q rest a w') (hf : gM Tryz.prog fi = true := by exact jF.out) (hd : o.dst = some d := by exact rfl) (hN : Nat.blt d N = true := by exact rfl) (ho : o.op = .call { callee := .value x, args := args, argTypes := ts } := by exact rfl) (hx : gC l x = some (.func (.func fi) #[] #[]) := by exact rfl) (hargs : args.toList.map (gC l) = vs.map some := by exact rfl) (hw : ∀ a, Kd D a N l → Region.wanted o (yielded ops a.tmps) = true := by first | exact fun a K => aA rfl | exact fun a K => K.yes rfl rfl rfl) : ∀ a, Kd D a N l → wpList Tryz.prog ops Q (o :: rest) a w := fun a K => Ut K (hw a K) hd hN (nZ hf K X ho hx hargs) fun v a w' hp K => k v w' hp a K
end
theorem aI (n : Nat) {q p : Prop} (k : q) (H : Hq q → Ct n p := by
 intro k
 (repeat (first
 | with_reducible (first | refine tB ?_ | refine z8 ?_ | refine Aa ?_ | refine Ab ?_ | refine tC ?_ | refine tD ?_ | refine pV ?_ | refine tG ?_ | refine tF ?_ | refine Ad ?_ | refine Ae ?_ | refine Af ?_ | refine pW ?_ | refine tE ?_ | refine z7 ?_)
 | refine Ag (by decide) ?_
 | refine zY M ?_
 | refine z6 ?_
 | refine zZ ?_
 | refine Aj ?_
 | refine Ak ?_
 | refine Ah rfl ?_
 | refine Ai rfl ?_))
 exact (⟨k.out⟩ : Ct 0 _)) : p := (H ⟨k⟩).out
theorem gnE {base : Nat} {W w : World} {L : List jM} {D : List Deferred} {N : Nat} {l : List (Nat × Value)} {ops : Array Oper} {Q : Exit → Act → World → Prop} {rest : List Oper} {o : Oper} {d : Nat} {k : IntKind} {m n : Int} (hx : m = n) (M : Mem base W w L) (kk : ∀ a, Kd D a N ((d, .int k n) :: l) → wpList Tryz.prog ops Q rest a w) (hr : ∀ a, Kd D a N l → Rd Tryz.prog (fun w => Mem base W w L) a o (.int k m) := by intro a K; exact (by first | exact u4 rfl K rfl | exact jJ rfl K rfl rfl | exact D7 rfl K rfl rfl | exact Db rfl K rfl rfl | exact EH rfl rfl SF.out K rfl | exact D8 rfl K rfl rfl | exact fM rfl K rfl | exact XR K | exact Ea rfl K rfl rfl | exact D9 rfl K rfl rfl)) (hw : ∀ a, Kd D a N l → Region.wanted o (yielded ops a.tmps) = true := by first | exact fun a K => aA rfl | exact fun a K => K.yes rfl rfl rfl) (hd : o.dst = some d := by exact rfl) (hN : Nat.blt d N = true := by exact rfl) : ∀ a, Kd D a N l → wpList Tryz.prog ops Q (o :: rest) a w := aP (fun a K => MD hx (hr a K)) M kk hw hd hN
theorem rO (n : Nat) {e x : Int} (hx : e = x) {q p : Prop} (k : q) (H : e = x → Hq q → Ct n p := by
 intro hx k
 (repeat (first
 | with_reducible (first | refine tB ?_ | refine z8 ?_ | refine Aa ?_ | refine Ab ?_ | refine tC ?_ | refine tD ?_ | refine pV ?_ | refine tG ?_ | refine tF ?_ | refine Ad ?_ | refine Ae ?_ | refine Af ?_ | refine pW ?_ | refine tE ?_ | refine z7 ?_)
 | refine Ag (by decide) ?_
 | refine zY M ?_
 | refine z6 ?_
 | refine zZ ?_
 | refine Aj ?_
 | refine Ak ?_
 | refine Ah rfl ?_
 | refine Ai rfl ?_))
 refine (⟨?_⟩ : Ct 0 _)
 exact gnE hx M k.out) : p := (H hx ⟨k⟩).out
theorem Y5 {base : Nat} {W w : World} {L : List jM} {D : List Deferred} {N : Nat} {l : List (Nat × Value)} {ops : Array Oper} {rest : List Oper} {R : Act → World → Prop} {o : Oper} {d : Nat} {k : IntKind} {m n : Int} (hx : m = n) (kk : ∀ a, Kd D a N ((d, .int k n) :: l) → mW Tryz.prog ops (fun w => Mem base W w L) R (marked [] rest) a w) (hr : ∀ a, Kd D a N l → Rd Tryz.prog (fun w => Mem base W w L) a o (.int k m) := by intro a K; exact (by first | exact u4 rfl K rfl | exact jJ rfl K rfl rfl | exact D7 rfl K rfl rfl | exact Db rfl K rfl rfl | exact EH rfl rfl SF.out K rfl | exact D8 rfl K rfl rfl | exact fM rfl K rfl | exact XR K | exact Ea rfl K rfl rfl | exact D9 rfl K rfl rfl)) (hw : ∀ a, Kd D a N l → Region.wanted o (yielded ops a.tmps) = true := by first | exact fun a K => aA rfl | exact fun a K => K.yes rfl rfl rfl) (hd : o.dst = some d := by exact rfl) (hN : Nat.blt d N = true := by exact rfl) : ∀ a, Kd D a N l → mW Tryz.prog ops (fun w => Mem base W w L) R (marked [] (o :: rest)) a w := fU (f := []) (fun a K => MD hx (hr a K)) kk hw hd hN
theorem Y6 {base : Nat} {W w : World} {L : List jM} {D : List Deferred} {N : Nat} {l : List (Nat × Value)} {ops : Array Oper} {rest : List Oper} {f : List Nat} {R : Act → World → Prop} {o : Oper} {d : Nat} {k : IntKind} {m n : Int} (hx : m = n) (kk : ∀ a, Kd D a N ((d, .int k n) :: l) → mW Tryz.prog ops (fun w => Mem base W w L) R (marked f rest) a w) (hr : ∀ a, Kd D a N l → Rd Tryz.prog (fun w => Mem base W w L) a o (.int k m) := by intro a K; exact (by first | exact u4 rfl K rfl | exact jJ rfl K rfl rfl | exact D7 rfl K rfl rfl | exact Db rfl K rfl rfl | exact EH rfl rfl SF.out K rfl | exact D8 rfl K rfl rfl | exact fM rfl K rfl | exact XR K | exact Ea rfl K rfl rfl | exact D9 rfl K rfl rfl)) (hw : ∀ a, Kd D a N l → Region.wanted o (yielded ops a.tmps) = true := by first | exact fun a K => aA rfl | exact fun a K => K.yes rfl rfl rfl) (hd : o.dst = some d := by exact rfl) (hN : Nat.blt d N = true := by exact rfl) : ∀ a, Kd D a N l → mW Tryz.prog ops (fun w => Mem base W w L) R (marked (0 :: f) (o :: rest)) a w := fU (f := f) (fun a K => MD hx (hr a K)) kk hw hd hN
theorem XT (n : Nat) {e x : Int} (hx : e = x) {q p : Prop} (k : q) (H : e = x → Hq q → Ct n p := by
 intro hx k
 (repeat (first
 | with_reducible (first | refine tB ?_ | refine z8 ?_ | refine Aa ?_ | refine Ab ?_ | refine tC ?_ | refine tD ?_ | refine pV ?_ | refine tG ?_ | refine tF ?_ | refine Ad ?_ | refine Ae ?_ | refine Af ?_ | refine pW ?_ | refine tE ?_ | refine z7 ?_)
 | refine Ag (by decide) ?_
 | refine zY M ?_
 | refine z6 ?_
 | refine zZ ?_
 | refine Aj ?_
 | refine Ak ?_
 | refine Ah rfl ?_
 | refine Ai rfl ?_))
 refine (⟨?_⟩ : Ct 0 _)
 first | exact Y5 hx k.out | exact Y6 hx k.out) : p := (H hx ⟨k⟩).out
theorem Pg (n : Nat) {q p : Prop} (k : q) (H : Hq q → Ct n p := by
 intro k
 (repeat (first
 | with_reducible (first | refine tB ?_ | refine z8 ?_ | refine Aa ?_ | refine Ab ?_ | refine tC ?_ | refine tD ?_ | refine pV ?_ | refine tG ?_ | refine tF ?_ | refine Ad ?_ | refine Ae ?_ | refine Af ?_ | refine pW ?_ | refine tE ?_ | refine z7 ?_)
 | refine Ag (by decide) ?_
 | refine zY M ?_
 | refine z6 ?_
 | refine zZ ?_
 | refine Aj ?_
 | refine Ak ?_
 | refine Ah rfl ?_
 | refine Ai rfl ?_))
 refine (⟨?_⟩ : Ct 0 _)
 intro a K
 refine aM (fun w => Mem _ _ w _) [] (by kernel_rfl) (by kernel_rfl) M.drew ?_
 revert a; exact k.out) : p := (H ⟨k⟩).out
theorem dR (n : Nat) {b : Bool} {β : Type} {s t r : β} (h : cond b s t = r) {q1 q2 p : Prop} (k1 : b = true → s = r → q1) (k2 : b = false → t = r → q2) (H : Hq (b = true → q1) → Hq (b = false → q2) → Ct n p := by
 intro k1 k2
 (repeat (first
 | with_reducible (first | refine tB ?_ | refine z8 ?_ | refine Aa ?_ | refine Ab ?_ | refine tC ?_ | refine tD ?_ | refine pV ?_ | refine tG ?_ | refine tF ?_ | refine Ad ?_ | refine Ae ?_ | refine Af ?_ | refine pW ?_ | refine tE ?_ | refine z7 ?_)
 | refine Ag (by decide) ?_
 | refine zY M ?_
 | refine z6 ?_
 | refine zZ ?_
 | refine Aj ?_
 | refine Ak ?_
 | refine Ah rfl ?_
 | refine Ai rfl ?_))
 exact gcE rfl k1.out k2.out) : p := (H ⟨fun hb => k1 hb (kC hb h)⟩ ⟨fun hb => k2 hb (gH hb h)⟩).out
structure Bx {α : Type} (x : α) : Prop
theorem gkS {s : Nat} {D : List Deferred} {N : Nat} {l : List (Nat × Value)} {b : Bool} {G : Act → Prop} (_ : Bx s) (k1 : b = true → ∀ a, Kd D a N ((s, .bool true) :: l) → G a) (k2 : b = false → ∀ a, Kd D a N ((s, .bool false) :: l) → G a) (hs : vC l s = some (.bool b)) : Ct 0 (∀ a, Kd D a N l → G a) := gkE s hs k1 k2
theorem jL (n s : Nat) {b : Bool} {β : Type} {x t r : β} (h : cond b x t = r) {q1 q2 p : Prop} (k1 : b = true → x = r → q1) (k2 : b = false → t = r → q2) (H : Bx s → Hq (b = true → q1) → Hq (b = false → q2) → Ct n p := by
 intro S0 k1 k2
 (repeat (first
 | with_reducible (first | refine tB ?_ | refine z8 ?_ | refine Aa ?_ | refine Ab ?_ | refine tC ?_ | refine tD ?_ | refine pV ?_ | refine tG ?_ | refine tF ?_ | refine Ad ?_ | refine Ae ?_ | refine Af ?_ | refine pW ?_ | refine tE ?_ | refine z7 ?_)
 | refine Ag (by decide) ?_
 | refine zY M ?_
 | refine z6 ?_
 | refine zZ ?_
 | refine Aj ?_
 | refine Ak ?_
 | refine Ah rfl ?_
 | refine Ai rfl ?_))
 exact gkS S0 k1.out k2.out rfl) : p := (H ⟨⟩ ⟨fun hb => k1 hb (kC hb h)⟩ ⟨fun hb => k2 hb (gH hb h)⟩).out
theorem iC (n : Nat) {Y q p : Prop} (X : Y) (k : q) (H : Y → Hq q → Ct n p := by
 intro X k
 (repeat (first
 | with_reducible (first | refine tB ?_ | refine z8 ?_ | refine Aa ?_ | refine Ab ?_ | refine tC ?_ | refine tD ?_ | refine pV ?_ | refine tG ?_ | refine tF ?_ | refine Ad ?_ | refine Ae ?_ | refine Af ?_ | refine pW ?_ | refine tE ?_ | refine z7 ?_)
 | refine Ag (by decide) ?_
 | refine zY M ?_
 | refine z6 ?_
 | refine zZ ?_
 | refine Aj ?_
 | refine Ak ?_
 | refine Ah rfl ?_
 | refine Ai rfl ?_))
 refine (⟨?_⟩ : Ct 0 _)
 refine gfE X ?_
 first | (rintro _ w ⟨rfl, Z⟩; have M := M.call Z; clear Z; revert w; exact k.out) | (rintro _ w ⟨A, c, rfl, Z⟩; have M := M.call Z; clear Z; revert w; revert A c; exact k.out) | (rintro _ w ⟨A, c, A2, c2, rfl, Z⟩; have M := M.call Z; clear Z; revert w; revert A c A2 c2; exact k.out) | (rintro _ w ⟨A, c, A2, c2, A3, c3, rfl, Z⟩; have M := M.call Z; clear Z; revert w; revert A c A2 c2 A3 c3; exact k.out) | (rintro _ w ⟨A, c, A2, c2, A3, c3, A4, c4, rfl, Z⟩; have M := M.call Z; clear Z; revert w; revert A c A2 c2 A3 c3 A4 c4; exact k.out)) : p := (H X ⟨k⟩).out
theorem fN (n : Nat) {q p : Prop} (k : q) (H : Hq q → Ct n p := by
 intro k
 (repeat (first
 | with_reducible (first | refine tB ?_ | refine z8 ?_ | refine Aa ?_ | refine Ab ?_ | refine tC ?_ | refine tD ?_ | refine pV ?_ | refine tG ?_ | refine tF ?_ | refine Ad ?_ | refine Ae ?_ | refine Af ?_ | refine pW ?_ | refine tE ?_ | refine z7 ?_)
 | refine Ag (by decide) ?_
 | refine zY M ?_
 | refine z6 ?_
 | refine zZ ?_
 | refine Aj ?_
 | refine Ak ?_
 | refine Ah rfl ?_
 | refine Ai rfl ?_))
 refine (⟨?_⟩ : Ct 0 _)
 intro a K
 first | (refine iB K (Y4 M K) ?_; rintro _ a w ⟨g, rfl, M⟩ K; revert a; revert w; revert g; exact k.out) | (refine iB K (Y3 M K) ?_; rintro _ a w ⟨g, rfl, M⟩ K; revert a; revert w; revert g; exact k.out) | (refine iB K (eK rfl Au.out M) ?_; rintro _ a w ⟨g, rfl, M⟩ K; revert a; revert w; revert g; exact k.out)) : p := (H ⟨k⟩).out
theorem dU (n : Nat) {q p : Prop} (k : q) (H : Hq q → Ct n p := by
 intro k
 (repeat (first
 | with_reducible (first | refine tB ?_ | refine z8 ?_ | refine Aa ?_ | refine Ab ?_ | refine tC ?_ | refine tD ?_ | refine pV ?_ | refine tG ?_ | refine tF ?_ | refine Ad ?_ | refine Ae ?_ | refine Af ?_ | refine pW ?_ | refine tE ?_ | refine z7 ?_)
 | refine Ag (by decide) ?_
 | refine zY M ?_
 | refine z6 ?_
 | refine zZ ?_
 | refine Aj ?_
 | refine Ak ?_
 | refine Ah rfl ?_
 | refine Ai rfl ?_))
 refine (⟨?_⟩ : Ct 0 _)
 intro a K
 first | refine qG K (Ig M K 0) ?_ | refine qG K (Ih M K 0) ?_ | refine qG K (Ig M K 1) ?_ | refine qG K (Ih M K 1) ?_ | refine qG K (Ig M K 2) ?_ | refine qG K (Ih M K 2) ?_ | refine qG K (Ig M K 3) ?_ | refine qG K (Ih M K 3) ?_ | refine qG K (Ig M K 4) ?_ | refine qG K (Ih M K 4) ?_ | refine qG K (Ig M K 5) ?_ | refine qG K (Ih M K 5) ?_ | refine qG K (Ig M K 6) ?_ | refine qG K (Ih M K 6) ?_ | refine qG K (Ig M K 7) ?_ | refine qG K (Ih M K 7) ?_ | refine qG K (Ig M K 8) ?_ | refine qG K (Ih M K 8) ?_ | refine qG K (Ig M K 9) ?_ | refine qG K (Ih M K 9) ?_ | refine qG K (Ig M K 10) ?_ | refine qG K (Ih M K 10) ?_ | refine qG K (Ig M K 11) ?_ | refine qG K (Ih M K 11) ?_
 rintro _ a w M K; revert a; revert w; exact k.out) : p := (H ⟨k⟩).out
theorem Al {p : Prop} (h : p := by first | exact cQ K rfl | exact aV K rfl G6.out (M.aK (i := 0) rfl) rfl | exact dD K rfl F0.out (M.aK (i := 0) rfl) rfl | exact aV K rfl G6.out (M.aK (i := 1) rfl) rfl | exact dD K rfl F0.out (M.aK (i := 1) rfl) rfl | exact aV K rfl G6.out (M.aK (i := 2) rfl) rfl | exact dD K rfl F0.out (M.aK (i := 2) rfl) rfl | exact aV K rfl G6.out (M.aK (i := 3) rfl) rfl | exact dD K rfl F0.out (M.aK (i := 3) rfl) rfl | exact aV K rfl G6.out (M.aK (i := 4) rfl) rfl | exact dD K rfl F0.out (M.aK (i := 4) rfl) rfl | exact aV K rfl G6.out (M.aK (i := 5) rfl) rfl | exact dD K rfl F0.out (M.aK (i := 5) rfl) rfl | exact aV K rfl G6.out (M.aK (i := 6) rfl) rfl | exact dD K rfl F0.out (M.aK (i := 6) rfl) rfl | exact aV K rfl G6.out (M.aK (i := 7) rfl) rfl | exact dD K rfl F0.out (M.aK (i := 7) rfl) rfl | exact aV K rfl G6.out (M.aK (i := 8) rfl) rfl | exact dD K rfl F0.out (M.aK (i := 8) rfl) rfl | exact aV K rfl G6.out (M.aK (i := 9) rfl) rfl | exact dD K rfl F0.out (M.aK (i := 9) rfl) rfl | exact aV K rfl G6.out (M.aK (i := 10) rfl) rfl | exact dD K rfl F0.out (M.aK (i := 10) rfl) rfl | exact aV K rfl G6.out (M.aK (i := 11) rfl) rfl | exact dD K rfl F0.out (M.aK (i := 11) rfl) rfl) : p := h
theorem aZ (n : Nat) {Y p : Prop} (X : Y) (H : Y → Ct n p := by
 intro X
 (repeat (first
 | with_reducible (first | refine tB ?_ | refine z8 ?_ | refine Aa ?_ | refine Ab ?_ | refine tC ?_ | refine tD ?_ | refine pV ?_ | refine tG ?_ | refine tF ?_ | refine Ad ?_ | refine Ae ?_ | refine Af ?_ | refine pW ?_ | refine tE ?_ | refine z7 ?_)
 | refine Ag (by decide) ?_
 | refine zY M ?_
 | refine z6 ?_
 | refine zZ ?_
 | refine Aj ?_
 | refine Ak ?_
 | refine Ah rfl ?_
 | refine Ai rfl ?_))
 refine (⟨?_⟩ : Ct 0 _)
 intro a K
 cases h
 first | exact oJ K rfl Al  ⟨_, rfl, rfl, X⟩ | exact oJ K rfl Al  ⟨_, rfl, _, _, rfl, X⟩ | exact oJ K rfl Al  ⟨_, rfl, _, _, _, _, rfl, X⟩ | exact oJ K rfl Al  ⟨_, rfl, _, _, _, _, _, _, rfl, X⟩ | exact oJ K rfl Al  ⟨_, rfl, _, _, _, _, _, _, _, _, rfl, X⟩) : p := (H X).out
theorem bU (n : Nat) {Y p : Prop} (X : Y) (H : Y → Ct n p := by
 intro X
 (repeat (first
 | with_reducible (first | refine tB ?_ | refine z8 ?_ | refine Aa ?_ | refine Ab ?_ | refine tC ?_ | refine tD ?_ | refine pV ?_ | refine tG ?_ | refine tF ?_ | refine Ad ?_ | refine Ae ?_ | refine Af ?_ | refine pW ?_ | refine tE ?_ | refine z7 ?_)
 | refine Ag (by decide) ?_
 | refine zY M ?_
 | refine z6 ?_
 | refine zZ ?_
 | refine Aj ?_
 | refine Ak ?_
 | refine Ah rfl ?_
 | refine Ai rfl ?_))
 refine (⟨?_⟩ : Ct 0 _)
 intro a K
 cases h
 first | exact II K rfl Al Al  ⟨_, rfl, rfl, X⟩ | exact II K rfl Al Al  ⟨_, rfl, _, _, rfl, X⟩ | exact II K rfl Al Al  ⟨_, rfl, _, _, _, _, rfl, X⟩ | exact II K rfl Al Al  ⟨_, rfl, _, _, _, _, _, _, rfl, X⟩ | exact II K rfl Al Al  ⟨_, rfl, _, _, _, _, _, _, _, _, rfl, X⟩) : p := (H X).out
theorem ES (n : Nat) {Y p : Prop} (X : Y) (H : Y → Ct n p := by
 intro X
 (repeat (first
 | with_reducible (first | refine tB ?_ | refine z8 ?_ | refine Aa ?_ | refine Ab ?_ | refine tC ?_ | refine tD ?_ | refine pV ?_ | refine tG ?_ | refine tF ?_ | refine Ad ?_ | refine Ae ?_ | refine Af ?_ | refine pW ?_ | refine tE ?_ | refine z7 ?_)
 | refine Ag (by decide) ?_
 | refine zY M ?_
 | refine z6 ?_
 | refine zZ ?_
 | refine Aj ?_
 | refine Ak ?_
 | refine Ah rfl ?_
 | refine Ai rfl ?_))
 refine (⟨?_⟩ : Ct 0 _)
 intro a K
 cases h
 first | exact Fx K rfl Al Al Al  ⟨_, rfl, rfl, X⟩ | exact Fx K rfl Al Al Al  ⟨_, rfl, _, _, rfl, X⟩ | exact Fx K rfl Al Al Al  ⟨_, rfl, _, _, _, _, rfl, X⟩ | exact Fx K rfl Al Al Al  ⟨_, rfl, _, _, _, _, _, _, rfl, X⟩ | exact Fx K rfl Al Al Al  ⟨_, rfl, _, _, _, _, _, _, _, _, rfl, X⟩) : p := (H X).out
theorem aAe (n : Nat) {Y p : Prop} (X : Y) (H : Y → Ct n p := by
 intro X
 (repeat (first
 | with_reducible (first | refine tB ?_ | refine z8 ?_ | refine Aa ?_ | refine Ab ?_ | refine tC ?_ | refine tD ?_ | refine pV ?_ | refine tG ?_ | refine tF ?_ | refine Ad ?_ | refine Ae ?_ | refine Af ?_ | refine pW ?_ | refine tE ?_ | refine z7 ?_)
 | refine Ag (by decide) ?_
 | refine zY M ?_
 | refine z6 ?_
 | refine zZ ?_
 | refine Aj ?_
 | refine Ak ?_
 | refine Ah rfl ?_
 | refine Ai rfl ?_))
 refine (⟨?_⟩ : Ct 0 _)
 intro a K
 cases h
 first | exact SG K rfl Al Al Al Al  ⟨_, rfl, rfl, X⟩ | exact SG K rfl Al Al Al Al  ⟨_, rfl, _, _, rfl, X⟩ | exact SG K rfl Al Al Al Al  ⟨_, rfl, _, _, _, _, rfl, X⟩ | exact SG K rfl Al Al Al Al  ⟨_, rfl, _, _, _, _, _, _, rfl, X⟩ | exact SG K rfl Al Al Al Al  ⟨_, rfl, _, _, _, _, _, _, _, _, rfl, X⟩) : p := (H X).out
theorem lJ (n : Nat) {S : Type} (st : S) {Y p : Prop} (X : Y) (H : (∀ {p q : S → Prop}, p st → q st → ∃ s, p s ∧ q s) → Y → Ct n p := by
 intro wt X
 (repeat (first
 | with_reducible (first | refine tB ?_ | refine z8 ?_ | refine Aa ?_ | refine Ab ?_ | refine tC ?_ | refine tD ?_ | refine pV ?_ | refine tG ?_ | refine tF ?_ | refine Ad ?_ | refine Ae ?_ | refine Af ?_ | refine pW ?_ | refine tE ?_ | refine z7 ?_)
 | refine Ag (by decide) ?_
 | refine zY M ?_
 | refine z6 ?_
 | refine zZ ?_
 | refine Aj ?_
 | refine Ak ?_
 | refine Ah rfl ?_
 | refine Ai rfl ?_))
 refine (⟨?_⟩ : Ct 0 _)
 intro a K
 first | exact wt ⟨K.to, X⟩ h | exact wt ⟨_, _, K.to, X⟩ h | exact wt ⟨_, _, _, _, K.to, X⟩ h | exact wt ⟨_, _, _, _, _, _, K.to, X⟩ h | exact wt ⟨_, _, _, _, _, _, _, _, K.to, X⟩ h | exact wt ⟨_, _, _, _, _, _, _, _, _, _, K.to, X⟩ h) : p := (H (fun hp hq => ⟨st, hp, hq⟩) X).out
theorem lS (n : Nat) {F Y p : Prop} (f : F) (X : Y) (H : F → Y → Ct n p := by
 intro f X
 (repeat (first
 | with_reducible (first | refine tB ?_ | refine z8 ?_ | refine Aa ?_ | refine Ab ?_ | refine tC ?_ | refine tD ?_ | refine pV ?_ | refine tG ?_ | refine tF ?_ | refine Ad ?_ | refine Ae ?_ | refine Af ?_ | refine pW ?_ | refine tE ?_ | refine z7 ?_)
 | refine Ag (by decide) ?_
 | refine zY M ?_
 | refine z6 ?_
 | refine zZ ?_
 | refine Aj ?_
 | refine Ak ?_
 | refine Ah rfl ?_
 | refine Ai rfl ?_))
 refine (⟨?_⟩ : Ct 0 _)
 intro a K
 first | exact f _ _ ⟨K.to, X⟩ h | exact f _ _ ⟨_, _, K.to, X⟩ h | exact f _ _ ⟨_, _, _, _, K.to, X⟩ h | exact f _ _ ⟨_, _, _, _, _, _, K.to, X⟩ h | exact f _ _ ⟨_, _, _, _, _, _, _, _, K.to, X⟩ h | exact f _ _ ⟨_, _, _, _, _, _, _, _, _, _, K.to, X⟩ h) : p := (H f X).out
def LpT {St : Type} (Rel : St → Act → World → Prop) (id : Nat) : Prop := ∀ {Rt : Type} {P : Program} {Q : Exit → Act → World → Prop} {a : Act} {w : World} {kk : St → Option Rt} {lf : (St → Option Rt) → Nat → St → Option Rt} {r : Rt} {p : Code} {n : Nat} {st : St}
 (_ : lf kk n st = some r) (_ : ∀ kk st, lf kk 0 st = none) (_ : Rel st a w) (_ : ∀ st a w, Rel st a w → kk st = some r → Q (.exit id) a w)
 (_ : ∀ (kk : St → Option Rt) n st a w, (∀ st a w, Rel st a w → kk st = some r → Q (.exit id) a w) → Rel st a w → lf kk (n + 1) st = some r → p.wp P (Exit.then (fun a w => ∃ st, Rel st a w ∧ lf kk n st = some r) Q) a w), (Code.loop p).wp P Q a w
theorem pT (n id : Nat) {S : Type} (Rel : S → Act → World → Prop) {Y q1 q2 p : Prop} (X : Y) (k1 : q1) (k2 : q2) (H : LpT Rel id → Y → Hq q1 → Hq q2 → Ct n p := by
 intro lp X k1 k2
 (repeat (first
 | with_reducible (first | refine tB ?_ | refine z8 ?_ | refine Aa ?_ | refine Ab ?_ | refine tC ?_ | refine tD ?_ | refine pV ?_ | refine tG ?_ | refine tF ?_ | refine Ad ?_ | refine Ae ?_ | refine Af ?_ | refine pW ?_ | refine tE ?_ | refine z7 ?_)
 | refine Ag (by decide) ?_
 | refine zY M ?_
 | refine z6 ?_
 | refine zZ ?_
 | refine Aj ?_
 | refine Ak ?_
 | refine Ah rfl ?_
 | refine Ai rfl ?_))
 refine (⟨?_⟩ : Ct 0 _)
 intro a K
 refine lp h (fun _ _ => rfl) ?_ k1.out k2.out
 first | exact ⟨K.to, X⟩ | exact ⟨_, _, K.to, X⟩ | exact ⟨_, _, _, _, K.to, X⟩ | exact ⟨_, _, _, _, _, _, K.to, X⟩ | exact ⟨_, _, _, _, _, _, _, _, K.to, X⟩ | exact ⟨_, _, _, _, _, _, _, _, _, _, K.to, X⟩) : p := (H (fun h hz h0 hk rd => OT h hz h0 hk rd) X ⟨k1⟩ ⟨k2⟩).out
instance : zX 28 0 0 := ⟨Ox⟩
instance : zX 28 1 1 := ⟨KT⟩
instance : zX 28 2 5 := ⟨KU⟩
instance : zX 28 3 6 := ⟨Du⟩
instance : zX 28 4 7 := ⟨KV⟩
instance : zX 28 5 10 := ⟨KW⟩
instance : zX 28 6 19 := ⟨Gj⟩
instance : zX 28 7 20 := ⟨KY⟩
instance : zX 31 0 0 := ⟨Dv⟩
instance : zX 31 1 1 := ⟨aF⟩
instance : zX 31 2 2 := ⟨Dw⟩
instance : zX 34 0 0 := ⟨aF⟩
instance : zX 34 1 1 := ⟨aF⟩
instance : zX 34 2 2 := ⟨aF⟩
instance : zX 37 0 0 := ⟨Oy⟩
instance : zX 37 1 1 := ⟨Oz⟩
instance : zX 37 2 2 := ⟨OA⟩
instance : zX 37 3 3 := ⟨OB⟩
instance : zX 37 4 4 := ⟨OC⟩
instance : zX 37 5 5 := ⟨KZ⟩
instance : zX 37 6 6 := ⟨K3⟩
instance : zX 37 7 7 := ⟨OD⟩
instance : zX 42 0 0 := ⟨yG⟩
instance : zX 42 1 1 := ⟨yH⟩
instance : zX 42 2 2 := ⟨yI⟩
instance : zX 47 0 0 := ⟨aF⟩
instance : zX 47 1 1 := ⟨aF⟩
instance : zX 83 0 0 := ⟨aF⟩
instance : zX 83 1 1 := ⟨aF⟩
instance : zX 83 2 2 := ⟨aF⟩
instance : zX 92 0 0 := ⟨aF⟩
instance : zX 92 1 1 := ⟨aF⟩
instance : zX 125 0 0 := ⟨aF⟩
instance : zX 133 0 0 := ⟨CV⟩
instance : zX 166 0 0 := ⟨aF⟩
instance : zX 166 1 1 := ⟨aF⟩
instance : zX 166 2 2 := ⟨aF⟩
instance : zX 166 3 3 := ⟨aF⟩
instance : zX 168 0 0 := ⟨aF⟩
instance : zX 168 1 1 := ⟨aF⟩
instance : zX 168 2 5 := ⟨aF⟩
instance : zX 168 3 6 := ⟨aF⟩
instance : zX 203 0 0 := ⟨aF⟩
instance : zX 204 0 0 := ⟨aF⟩
instance : zX 205 0 0 := ⟨aF⟩
instance : zX 206 0 0 := ⟨aF⟩
instance : zX 207 0 0 := ⟨aF⟩
instance : zX 208 0 0 := ⟨aF⟩
instance : zX 209 0 0 := ⟨aF⟩
instance : SE 23 := ⟨SC⟩
instance : SE 26 := ⟨U3⟩
instance : SE 29 := ⟨Jt⟩
instance : SE 32 := ⟨Ju⟩
instance : SE 35 := ⟨YY⟩
instance : SE 94 := ⟨Y1⟩
instance : SE 123 := ⟨Wm⟩
instance : SE 210 := ⟨Tc⟩
instance : F0 3 := ⟨iN⟩
instance : F0 4 := ⟨aF⟩
instance : F0 5 := ⟨XP⟩
instance : F0 9 := ⟨ML⟩
instance : F0 23 := ⟨Js⟩
instance : F0 26 := ⟨LV⟩
instance : F0 29 := ⟨Hn⟩
instance : F0 32 := ⟨SD⟩
instance : F0 35 := ⟨U5⟩
instance : F0 38 := ⟨tA⟩
instance : F0 88 := ⟨aF⟩
instance : F0 123 := ⟨Gl⟩
instance : F0 131 := ⟨sF⟩
instance : F0 141 := ⟨DJ⟩
instance : F0 212 := ⟨aF⟩
instance : F0 316 := ⟨aF⟩
instance : G6 22 4 := ⟨Wi⟩
instance : G6 24 3 := ⟨aF⟩
instance : G6 25 9 := ⟨aF⟩
instance : G6 28 21 := ⟨U4⟩
instance : G6 31 3 := ⟨CD⟩
instance : G6 34 3 := ⟨qH⟩
instance : G6 37 28 := ⟨sE⟩
instance : G6 42 3 := ⟨sS⟩
instance : G6 47 2 := ⟨LW⟩
instance : G6 83 3 := ⟨Wk⟩
instance : G6 84 27 := ⟨aF⟩
instance : G6 92 2 := ⟨Pe⟩
instance : G6 96 2 := ⟨Wl⟩
instance : G6 166 4 := ⟨aF⟩
instance : Au 1 [.nilFunc] := ⟨z1⟩
instance : Au 2 [.int .i64 0] := ⟨z2⟩
instance : Au 3 [.int .i64 0] := ⟨z3⟩
instance : Au 4 [.bool false] := ⟨z4⟩
instance : Au 5 [.int .u8 0] := ⟨z5⟩
instance : Au 9 [.string (bs ([] : List UInt8))] := ⟨z9⟩
instance : Au 20 [.nilIface] := ⟨z20⟩
instance : Au 21 [.int .i32 0] := ⟨z21⟩
instance : Au 24 [.int .i64 0, .int .i64 0, .int .i64 0] := ⟨aF⟩
instance : Au 28 [.int .i64 0, .int .i64 0, .int .i64 0, .int .i64 0, .int .i64 0, .int .i64 0, .slice none 0 0, .int .i64 0, .int .i64 0, .int .i64 0, .int .i64 0, .int .i64 0, .int .i64 0, .int .i64 0, .int .i64 0, .int .i64 0, .int .i64 0, .int .i64 0, .int .i64 0, .slice none 0 0, .int .i64 0] := ⟨aF⟩
instance : Au 31 [.int .i64 0, .int .i64 0, .slice none 0 0] := ⟨z31⟩
instance : Au 34 [.int .i64 0, .int .i64 0, .slice none 0 0] := ⟨z34⟩
instance : Au 37 [.int .i64 0, .int .i64 0, .int .i64 0, .int .i64 0, .int .i64 0, .slice none 0 0, .slice none 0 0, .int .i64 0, .int .i64 0, .int .i64 0, .int .i64 0, .int .i64 0, .int .i64 0, .slice none 0 0, .int .i64 0, .int .i64 0, .int .i64 0, .int .i64 0, .int .i64 0, .int .i64 0, .int .i64 0, .int .i64 0, .int .i64 0, .int .i64 0, .int .i64 0, .int .i64 0, .slice none 0 0, .int .i64 0] := ⟨z37⟩
instance : Au 38 [.int .i64 0] := ⟨z38⟩
instance : Au 42 [.int .i64 0, .int .i64 0, .int .i64 0] := ⟨z42⟩
instance : Au 46 [.int .i64 0, .int .i64 0] := ⟨z46⟩
instance : Au 47 [.int .i64 0, .int .i64 0] := ⟨z47⟩
instance : Au 51 [.nilFunc] := ⟨z51⟩
instance : Au 53 [.nilFunc] := ⟨z53⟩
instance : Au 70 [.nilFunc] := ⟨z70⟩
instance : Au 72 [.nilFunc] := ⟨z72⟩
instance : Au 76 [.nilFunc] := ⟨z76⟩
instance : Au 80 [.nilFunc] := ⟨z80⟩
instance : Au 83 [.bool false, .bool false, .bool false] := ⟨aF⟩
instance : Au 84 [.bool false, .bool false, .bool false, .bool false, .bool false, .bool false, .bool false, .bool false, .bool false, .bool false, .bool false, .bool false, .bool false, .bool false, .bool false, .bool false, .bool false, .bool false, .bool false, .bool false, .bool false, .bool false, .bool false, .bool false, .bool false, .bool false, .bool false] := ⟨aF⟩
instance : Au 85 [.nilFunc] := ⟨z85⟩
instance : Au 88 [.nilFunc] := ⟨aF⟩
instance : Au 92 [.int .i64 0, .int .i64 0] := ⟨Py⟩
instance : Au 96 [.int .i64 0, .int .i64 0] := ⟨Y2⟩
instance : Au 105 [.nilFunc] := ⟨z105⟩
instance : Au 116 [.nilFunc] := ⟨z116⟩
instance : Au 124 [.slice none 0 0] := ⟨z124⟩
instance : Au 127 [.nilFunc] := ⟨z127⟩
instance : Au 131 [.pointer none] := ⟨z131⟩
instance : Au 138 [.int .i64 0, .int .i64 0, .int .i64 0, .int .i64 0, .int .i64 0] := ⟨z138⟩
instance : Au 139 [.nilFunc] := ⟨z139⟩
instance : Au 141 [.pointer none] := ⟨z141⟩
instance : Au 143 [.string (bs ([] : List UInt8)), .bool false] := ⟨z143⟩
instance : Au 145 [.nilFunc] := ⟨z145⟩
instance : Au 146 [.pointer none] := ⟨z146⟩
instance : Au 164 [.nilFunc] := ⟨z164⟩
instance : Au 167 [.int .i64 0, .int .i64 0, .int .i64 0, .int .i64 0, .int .i64 0, .int .i64 0, .bool false] := ⟨z167⟩
instance : Au 168 [.int .i64 0, .int .i64 0, .int .i64 0, .int .i64 0, .int .i64 0, .int .i64 0, .bool false] := ⟨z168⟩
instance : Au 175 [.int .i64 0, .int .i64 0, .int .i64 0, .int .i64 0, .int .i64 0, .int .i64 0, .int .i64 0, .int .i64 0] := ⟨z175⟩
instance : Au 212 [.nilIface] := ⟨z212⟩
instance : Au 232 [.nilFunc] := ⟨z232⟩
instance : Au 233 [.nilFunc] := ⟨z233⟩
instance : Au 316 [.nilFunc] := ⟨aF⟩
instance : IV 30 [.int .i64 0, .int .i64 0, .slice none 0 0] := ⟨by kernel_rfl⟩
instance : IV 31 [.int .i64 0, .int .i64 0, .slice none 0 0] := ⟨by kernel_rfl⟩
instance : IV 33 [.int .i64 0, .int .i64 0, .slice none 0 0] := ⟨by kernel_rfl⟩
instance : IV 34 [.int .i64 0, .int .i64 0, .slice none 0 0] := ⟨by kernel_rfl⟩
instance : IV 36 [.int .i64 0, .int .i64 0, .int .i64 0, .int .i64 0, .int .i64 0, .slice none 0 0, .slice none 0 0, .int .i64 0, .int .i64 0, .int .i64 0, .int .i64 0, .int .i64 0, .int .i64 0, .slice none 0 0, .int .i64 0, .int .i64 0, .int .i64 0, .int .i64 0, .int .i64 0, .int .i64 0, .int .i64 0, .int .i64 0, .int .i64 0, .int .i64 0, .int .i64 0, .int .i64 0, .slice none 0 0, .int .i64 0] := ⟨by kernel_rfl⟩
instance : IV 37 [.int .i64 0, .int .i64 0, .int .i64 0, .int .i64 0, .int .i64 0, .slice none 0 0, .slice none 0 0, .int .i64 0, .int .i64 0, .int .i64 0, .int .i64 0, .int .i64 0, .int .i64 0, .slice none 0 0, .int .i64 0, .int .i64 0, .int .i64 0, .int .i64 0, .int .i64 0, .int .i64 0, .int .i64 0, .int .i64 0, .int .i64 0, .int .i64 0, .int .i64 0, .int .i64 0, .slice none 0 0, .int .i64 0] := ⟨by kernel_rfl⟩
instance : IV 46 [.int .i64 0, .int .i64 0] := ⟨by kernel_rfl⟩
instance : IV 47 [.int .i64 0, .int .i64 0] := ⟨by kernel_rfl⟩
instance : IV 82 [.bool false, .bool false, .bool false] := ⟨by kernel_rfl⟩
instance : IV 83 [.bool false, .bool false, .bool false] := ⟨by kernel_rfl⟩
instance : IV 92 [.int .i64 0, .int .i64 0] := ⟨by kernel_rfl⟩
instance : IV 124 [.slice none 0 0] := ⟨by kernel_rfl⟩
instance : IV 125 [.slice none 0 0] := ⟨by kernel_rfl⟩
instance : IV 129 [.slice none 0 0] := ⟨by kernel_rfl⟩
instance : IV 130 [.slice none 0 0] := ⟨by kernel_rfl⟩
instance : IV 136 [] := ⟨by kernel_rfl⟩
instance : IV 137 [] := ⟨by kernel_rfl⟩
instance : IV 165 [.int .i64 0, .int .i64 0, .int .i64 0, .int .i64 0] := ⟨by kernel_rfl⟩
instance : IV 166 [.int .i64 0, .int .i64 0, .int .i64 0, .int .i64 0] := ⟨by kernel_rfl⟩
instance : IV 303 [] := ⟨by kernel_rfl⟩
instance : IV 304 [] := ⟨by kernel_rfl⟩
instance : IV 305 [] := ⟨by kernel_rfl⟩
instance : jF 9 := ⟨aF⟩
instance : jF 10 := ⟨aF⟩
instance : jF 11 := ⟨aF⟩
instance : jF 12 := ⟨aF⟩
instance : jF 15 := ⟨aF⟩
instance : jF 20 := ⟨aF⟩
instance : jF 23 := ⟨Td⟩
instance : jF 25 := ⟨aF⟩
instance : jF 27 := ⟨aF⟩
instance : jF 29 := ⟨aF⟩
instance : jF 30 := ⟨aF⟩
instance : jF 31 := ⟨aF⟩
instance : jF 32 := ⟨aF⟩
instance : jF 33 := ⟨aF⟩
instance : jF 34 := ⟨aF⟩
instance : jF 35 := ⟨aF⟩
instance : jF 36 := ⟨aF⟩
instance : jF 37 := ⟨Qv⟩
instance : jF 38 := ⟨aF⟩
instance : jF 39 := ⟨aF⟩
instance : jF 40 := ⟨aF⟩
instance : jF 41 := ⟨aF⟩
instance : jF 42 := ⟨Qw⟩
instance : jF 43 := ⟨Qx⟩
instance : jF 44 := ⟨Qy⟩
instance : jF 45 := ⟨aF⟩
instance : jF 46 := ⟨aF⟩
instance : jF 47 := ⟨Qz⟩
instance : jF 48 := ⟨Te⟩
instance : jF 49 := ⟨Tf⟩
instance : jF 50 := ⟨Tg⟩
instance : jF 51 := ⟨aF⟩
instance : jF 52 := ⟨aF⟩
instance : jF 53 := ⟨aF⟩
instance : jF 54 := ⟨Th⟩
instance : jF 71 := ⟨OF⟩
instance : jF 72 := ⟨aF⟩
instance : jF 74 := ⟨aF⟩
instance : jF 75 := ⟨Ti⟩
instance : jF 77 := ⟨aF⟩
instance : jF 78 := ⟨aF⟩
instance : jF 79 := ⟨QA⟩
instance : jF 80 := ⟨B8⟩
instance : jF 83 := ⟨oL⟩
instance : jF 84 := ⟨HM⟩
instance : jF 85 := ⟨fB⟩
instance : jF 86 := ⟨LX⟩
instance : jF 87 := ⟨LY⟩
instance : jF 88 := ⟨Tj⟩
instance : jF 89 := ⟨Tk⟩
instance : jF 90 := ⟨Tl⟩
instance : jF 91 := ⟨Tm⟩
instance : jF 95 := ⟨Fc⟩
instance : jF 96 := ⟨IT⟩
instance : jF 97 := ⟨LZ⟩
instance : jF 98 := ⟨L0⟩
instance : jF 99 := ⟨aF⟩
instance : jF 100 := ⟨aF⟩
instance : jF 101 := ⟨aF⟩
instance : jF 102 := ⟨aF⟩
instance : jF 103 := ⟨K4⟩
instance : jF 104 := ⟨aF⟩
instance : jF 105 := ⟨QB⟩
instance : jF 106 := ⟨aF⟩
instance : jF 107 := ⟨FL⟩
instance : jF 108 := ⟨QC⟩
instance : jF 109 := ⟨aF⟩
instance : jF 110 := ⟨aF⟩
instance : jF 111 := ⟨aF⟩
instance : jF 113 := ⟨Nz⟩
instance : jF 114 := ⟨K5⟩
instance : jF 115 := ⟨aF⟩
instance : jF 116 := ⟨K6⟩
instance : jF 117 := ⟨BI⟩
instance : jF 118 := ⟨aF⟩
instance : jF 119 := ⟨aF⟩
instance : jF 120 := ⟨QD⟩
instance : jF 121 := ⟨aF⟩
instance : jF 122 := ⟨aF⟩
instance : jF 123 := ⟨aF⟩
instance : jF 124 := ⟨IU⟩
instance : jF 125 := ⟨aF⟩
instance : jF 126 := ⟨QE⟩
instance : jF 127 := ⟨aF⟩
instance : jF 128 := ⟨QF⟩
instance : jF 144 := ⟨aF⟩
instance : jF 145 := ⟨aF⟩
instance : jF 146 := ⟨aF⟩
instance : jF 149 := ⟨aF⟩
instance : jF 150 := ⟨NA⟩
instance : jF 152 := ⟨QG⟩
instance : jF 153 := ⟨aF⟩
instance : jF 154 := ⟨aF⟩
instance : jF 155 := ⟨QH⟩
instance : jF 156 := ⟨aF⟩
instance : jF 157 := ⟨aF⟩
instance : jF 158 := ⟨QI⟩
instance : jF 159 := ⟨QJ⟩
instance : jF 160 := ⟨aF⟩
instance : jF 161 := ⟨K7⟩
instance : jF 162 := ⟨aF⟩
instance : jF 163 := ⟨aF⟩
instance : jF 164 := ⟨QK⟩
instance : jF 165 := ⟨QL⟩
instance : jF 166 := ⟨QM⟩
instance : jF 168 := ⟨aF⟩
instance : jF 169 := ⟨aF⟩
instance : jF 170 := ⟨aF⟩
instance : jF 171 := ⟨QN⟩
instance : jF 176 := ⟨NB⟩
instance : jF 177 := ⟨NC⟩
instance : jF 178 := ⟨QO⟩
instance : jF 179 := ⟨aF⟩
instance : jF 180 := ⟨aF⟩
instance : jF 186 := ⟨aF⟩
instance : jF 187 := ⟨aF⟩
instance : jF 190 := ⟨aF⟩
instance : jF 191 := ⟨aF⟩
instance : jF 192 := ⟨QP⟩
instance : jF 193 := ⟨QQ⟩
instance : jF 194 := ⟨aF⟩
instance : jF 195 := ⟨aF⟩
instance : jF 196 := ⟨aF⟩
instance : jF 197 := ⟨aF⟩
instance : jF 203 := ⟨aF⟩
instance : jF 209 := ⟨QR⟩
instance : jF 220 := ⟨QS⟩
instance : jF 265 := ⟨QT⟩
instance : jF 266 := ⟨aF⟩
instance : jF 267 := ⟨ND⟩
instance : jF 268 := ⟨QU⟩
instance : jF 269 := ⟨QV⟩
instance : jF 270 := ⟨aF⟩
instance : jF 271 := ⟨NE⟩
instance : jF 272 := ⟨QW⟩
instance : jF 273 := ⟨QX⟩
instance : jF 274 := ⟨aF⟩
instance : jF 275 := ⟨K8⟩
instance : jF 276 := ⟨QY⟩
instance : jF 277 := ⟨aF⟩
instance : jF 278 := ⟨NF⟩
instance : jF 279 := ⟨QZ⟩
instance : jF 280 := ⟨aF⟩
instance : jF 281 := ⟨NG⟩
instance : jF 282 := ⟨Q4⟩
instance : jF 283 := ⟨aF⟩
instance : jF 284 := ⟨K9⟩
instance : jF 285 := ⟨NH⟩
instance : Tn 23 92 2 16 := ⟨Dt⟩
instance : Tn 26 47 2 16 := ⟨zO⟩
instance : Tn 29 3 1 8 := ⟨eZ⟩
instance : Tn 32 42 3 24 := ⟨jX⟩
instance : Tn 35 9 1 16 := ⟨Ev⟩
instance : Tn 94 96 2 16 := ⟨Pf⟩
instance : Tn 123 5 1 1 := ⟨lZ⟩
instance : Tn 210 212 1 16 := ⟨Fb⟩
instance : SF 3 .i64 := ⟨Wh⟩
instance : SF 5 .u8 := ⟨Pd⟩
instance : SF 21 .i32 := ⟨aF⟩
instance : SF 154 .u64 := ⟨aF⟩
instance : SF 189 .u16 := ⟨aF⟩
instance : StI 9 := ⟨nY⟩
theorem Mem.qN {base : Nat} {W w : World} {x0 x1 : jM} {TL : List jM} (M : Mem base W w (x0 :: x1 :: TL)) : Mem base W w (x1 :: x0 :: TL) := Mem.oV (H := [x0, x1]) 2 rfl M [1,0] (by decide) (by decide)
theorem Mem.CW {base : Nat} {W w : World} {x0 x1 x2 : jM} {TL : List jM} (M : Mem base W w (x0 :: x1 :: x2 :: TL)) : Mem base W w (x1 :: x2 :: x0 :: TL) := Mem.oV (H := [x0, x1, x2]) 3 rfl M [1,2,0] (by decide) (by decide)
theorem Mem.L1 {base : Nat} {W w : World} {x0 x1 x2 : jM} {TL : List jM} (M : Mem base W w (x0 :: x1 :: x2 :: TL)) : Mem base W w (x2 :: x0 :: x1 :: TL) := Mem.oV (H := [x0, x1, x2]) 3 rfl M [2,0,1] (by decide) (by decide)
theorem Mem.FM {base : Nat} {W w : World} {x0 x1 x2 x3 : jM} {TL : List jM} (M : Mem base W w (x0 :: x1 :: x2 :: x3 :: TL)) : Mem base W w (x2 :: x3 :: x0 :: x1 :: TL) := Mem.oV (H := [x0, x1, x2, x3]) 4 rfl M [2,3,0,1] (by decide) (by decide)
theorem FN {N : Nat} {w0 : World} {r : List Int} (h : uW N  = some r) :
  Calls Tryz.prog 149 #[] w0 fun e w' => ∃ v, e = .returned v ∧ ∃ A0 c0, v = .slice A0 r.length c0 ∧ Mem w0.heap.size w0 w' [.row 3 1 A0 r.length c0 ((cI .i64).all r)] := by
 refine gE Tryz.func149 Tryz.ntmps149 ?_;intro M;unfold uW at h;refine aI 7 ?_;intro a K;refine iB K (a8 rfl eZ z3 K (vs := [(0, I 2), (1, I 3), (2, I 3), (3, I 4), (4, I 4), (5, I 4), (6, I 5), (7, I 5), (8, I 5), (9, I 6), (10, I 6), (11, I 6), (12, I 7), (13, I 7), (14, I 7), (15, I 8), (16, I 8)]) (cs := [I 2, I 3, I 3, I 4, I 4, I 4, I 5, I 5, I 5, I 6, I 6, I 6, I 7, I 7, I 7, I 8, I 8]) rfl aF rfl rfl M) ?_;have M0 := M; clear K M; rintro _ a w ⟨gs, rfl, M⟩ K;replace M := M.iF 0 rfl (cI .i64) ([2, 3, 3, 4, 4, 4, 5, 5, 5, 6, 6, 6, 7, 7, 7, 8, 8] : List Int) (n := 17) rfl rfl rfl;clear M0;revert a;exact aZ 4 (M.pick [0] aC)
theorem Ew {N : Nat} {w0 : World} {r : List (Int × Int)} (h : rZ N  = some r) :
  Calls Tryz.prog 144 #[] w0 fun e w' => ∃ v, e = .returned v ∧ ∃ A0 c0, v = .slice A0 r.length c0 ∧ Mem w0.heap.size w0 w' [.row 47 2 A0 r.length c0 (eP.all r)] := by
 refine gE Tryz.func144 Tryz.ntmps144 ?_;intro M;unfold rZ at h;refine aI 8 ?_;refine aP (fun _ K => aO rfl K (vs := [(0, I 65535), (1, I 65535)]) (cs := [I 65535, I 65535]) rfl aF) M ?_;intro a K;refine iB K (a8 rfl zO z47 K (vs := [(0, .agg #[I 0, I 0]), (1, .agg #[I 65535, I 65535])]) (cs := [I 0, I 0, I 65535, I 65535]) rfl aF rfl rfl M) ?_;have M0 := M; clear K M; rintro _ a w ⟨gs, rfl, M⟩ K;replace M := M.iF 0 rfl eP ([(0, 0), (65535, 65535)] : List (Int × Int)) (n := 2) rfl rfl rfl;clear M0;revert a;exact aZ 4 (M.pick [0] aC)
theorem Ex {N : Nat} {w0 : World} {r : Int × Int × Int × Int × Int × Int × List (Int × Int) × Int × Int × Int × Int × Int × Int × Int × Int × Int × Int × Int × Int × List (Int × Int) × Int} (h : sA N  = some r) :
  Calls Tryz.prog 72 #[] w0 fun e w' => ∃ v, e = .returned v ∧ ∃ A6 c6 Pz c19, v = .agg #[I r.1, I r.2.1, I r.2.2.1, I r.2.2.2.1, I r.2.2.2.2.1, I r.2.2.2.2.2.1, .slice A6 r.2.2.2.2.2.2.1.length c6, I r.2.2.2.2.2.2.2.1, I r.2.2.2.2.2.2.2.2.1, I r.2.2.2.2.2.2.2.2.2.1, I r.2.2.2.2.2.2.2.2.2.2.1, I r.2.2.2.2.2.2.2.2.2.2.2.1, I r.2.2.2.2.2.2.2.2.2.2.2.2.1, I r.2.2.2.2.2.2.2.2.2.2.2.2.2.1, I r.2.2.2.2.2.2.2.2.2.2.2.2.2.2.1, I r.2.2.2.2.2.2.2.2.2.2.2.2.2.2.2.1, I r.2.2.2.2.2.2.2.2.2.2.2.2.2.2.2.2.1, I r.2.2.2.2.2.2.2.2.2.2.2.2.2.2.2.2.2.1, I r.2.2.2.2.2.2.2.2.2.2.2.2.2.2.2.2.2.2.1, .slice Pz r.2.2.2.2.2.2.2.2.2.2.2.2.2.2.2.2.2.2.2.1.length c19, I r.2.2.2.2.2.2.2.2.2.2.2.2.2.2.2.2.2.2.2.2] ∧ Mem w0.heap.size w0 w' [.row 92 2 A6 r.2.2.2.2.2.2.1.length c6 (eP.all r.2.2.2.2.2.2.1), .row 47 2 Pz r.2.2.2.2.2.2.2.2.2.2.2.2.2.2.2.2.2.2.2.1.length c19 (eP.all r.2.2.2.2.2.2.2.2.2.2.2.2.2.2.2.2.2.2.2.1)] := by
 refine gE Tryz.func72 Tryz.ntmps72 ?_;intro M;unfold sA at h;refine fN 2 ?_;intro cM w M;refine aI 4 ?_;refine aP (fun _ K => aO rfl K (vs := [(0, I 256), (1, I 256), (2, I 256)]) (cs := [I 256, I 256, I 256]) rfl aF) M ?_;refine aP (fun _ K => aO rfl K (vs := [(0, I 4096), (1, I 0), (2, I 0), (3, I 0), (4, I 4096), (5, I 0), (6, I 0), (7, I 0), (8, I 4096)]) (cs := [I 4096, I 0, I 0, I 0, I 4096, I 0, I 0, I 0, I 4096]) rfl aF) M ?_;obtain ⟨r2, dC, h⟩ := aB h;refine iC 0 (Ew dC) ?_;intro A c w M;refine aP (fun _ K => aO rfl K (vs := [(2, I 65535), (4, .agg #[I 256, I 256, I 256]), (5, .agg #[I 4096, I 0, I 0, I 0, I 4096, I 0, I 0, I 0, I 4096]), (6, .slice A r2.length c), (7, I 64)]) (cs := [I 0, I 0, I 0, I 0, I 0, I 65535, .slice none (([] : List (Int × Int))).length 0, I 256, I 256, I 256, I 4096, I 0, I 0, I 0, I 4096, I 0, I 0, I 0, I 4096, .slice A r2.length c, I 64]) rfl aF) M ?_;refine dU 0 ?_;intro w M;exact aZ 3 (((Mem.aE 92 2 eP M)).pick [0,1] aC)
theorem Ey {N : Nat} {w0 : World} {r : Int × Int × List Int} (h : sB N  = some r) :
  Calls Tryz.prog 78 #[] w0 fun e w' => ∃ v, e = .returned v ∧ ∃ A2 c2, v = .agg #[I r.1, I r.2.1, .slice A2 r.2.2.length c2] ∧ Mem w0.heap.size w0 w' [.row 3 1 A2 r.2.2.length c2 ((cI .i64).all r.2.2)] := by
 refine gE Tryz.func78 Tryz.ntmps78 ?_;intro M;unfold sB at h;refine fN 2 ?_;intro cM w M;refine aI 4 ?_;intro a K;refine iB K (a8 rfl eZ z3 K (vs := [(0, I 10), (1, I 65535), (2, I 0), (3, I 7)]) (cs := [I 10, I 65535, I 0, I 7]) rfl aF rfl rfl M) ?_;have M0 := M; clear K M; rintro _ a w ⟨gs, rfl, M⟩ K;replace M := M.iF 0 rfl (cI .i64) ([10, 65535, 0, 7] : List Int) (n := 4) rfl rfl rfl;clear M0;revert a;refine aP (fun _ K => aO rfl K (vs := [(0, I 2), (1, I 2), (2, .slice (some ⟨gs, 0, none⟩) ([10, 65535, 0, 7] : List Int).length 4)]) (cs := [I 2, I 2, .slice (some ⟨gs, 0, none⟩) ([10, 65535, 0, 7] : List Int).length 4]) rfl aF) M ?_;refine dU 0 ?_;intro w M;exact aZ 3 (M.pick [0] aC)
theorem kU {N : Nat} {s : List (Int × Int × Int)} {D6 : Option Addr} {Fd : Nat} {w0 : World} {r : List (Int × Int × Int)} (h : kR N s = some r) (HT : SL w0 aQ D6 s) (PA : s.length ≤ Fd) :
  Calls Tryz.prog 114 #[.slice D6 s.length Fd] w0 fun e w' => ∃ v, e = .returned v ∧ ∃ A0 c0, v = .slice A0 r.length c0 ∧ Mem w0.heap.size w0 w' [.row 42 3 A0 r.length c0 (aQ.all r)] := by
 refine gE Tryz.func114 Tryz.ntmps114 ?_;intro M;unfold kR at h;refine aI 9 ?_
 by_cases hA : (D6).isNone = true
 ·have hs := SL.Gi HT hA;replace h : some ([] : List (Int × Int × Int)) = some r := by rw [hs] at h; exact h
  clear hs;refine aP (fun _ K => CO (b' := true) hA (u7 rfl Ju K rfl rfl)) M ?_;exact aZ 10 (((Mem.aE 42 3 aQ M)).pick [0] aC)
 refine aP (fun _ K => CO (b' := false) ((Bool.not_eq_true _).mp hA) (u7 rfl Ju K rfl rfl)) M ?_;refine aI 7 ?_;intro a K;refine iB K (Ds (C := aQ) rfl jX rfl K M) ?_;clear K M; rintro _ a w ⟨gs, rfl, M⟩ K;revert a;obtain ⟨l2, sG, h⟩ := aB h;refine aI 1 ?_;intro a K;refine iB K (jK (C := aQ) (xs := ([] : List (Int × Int × Int))) (ys := s) rfl jX rfl z42 rfl rfl K rfl rfl 0 M rfl ((dA HT) _ M) sG) ?_;clear K M; rintro _ a w ⟨A, c, rfl, M⟩ K;revert a;exact aZ 4 (M.pick [0] aC)
theorem vF {N : Nat} {s : List (Int × Int)} {D6 : Option Addr} {Fd : Nat} {w0 : World} {r : List (Int × Int)} (h : lG N s = some r) (HT : SL w0 eP D6 s) (PA : s.length ≤ Fd) :
  Calls Tryz.prog 49 #[.slice D6 s.length Fd] w0 fun e w' => ∃ v, e = .returned v ∧ ∃ A0 c0, v = .slice A0 r.length c0 ∧ Mem w0.heap.size w0 w' [.row 92 2 A0 r.length c0 (eP.all r)] := by
 refine gE Tryz.func49 Tryz.ntmps49 ?_;intro M;unfold lG at h;refine aI 9 ?_
 by_cases hA : (D6).isNone = true
 ·have hs := SL.Gi HT hA;replace h : some ([] : List (Int × Int)) = some r := by rw [hs] at h; exact h
  clear hs;refine aP (fun _ K => CO (b' := true) hA (u7 rfl SC K rfl rfl)) M ?_;exact aZ 10 (((Mem.aE 92 2 eP M)).pick [0] aC)
 refine aP (fun _ K => CO (b' := false) ((Bool.not_eq_true _).mp hA) (u7 rfl SC K rfl rfl)) M ?_;refine aI 7 ?_;intro a K;refine iB K (Ds (C := eP) rfl Dt rfl K M) ?_;clear K M; rintro _ a w ⟨gs, rfl, M⟩ K;revert a;obtain ⟨l2, sG, h⟩ := aB h;refine aI 1 ?_;intro a K;refine iB K (jK (C := eP) (xs := ([] : List (Int × Int))) (ys := s) rfl Dt rfl Py rfl rfl K rfl rfl 0 M rfl ((dA HT) _ M) sG) ?_;clear K M; rintro _ a w ⟨A, c, rfl, M⟩ K;revert a;exact aZ 4 (M.pick [0] aC)
theorem tR {N : Nat} {s : List (Int × Int)} {D6 : Option Addr} {Fd : Nat} {w0 : World} {r : List (Int × Int)} (h : kS N s = some r) (HT : SL w0 eP D6 s) (PA : s.length ≤ Fd) :
  Calls Tryz.prog 50 #[.slice D6 s.length Fd] w0 fun e w' => ∃ v, e = .returned v ∧ ∃ A0 c0, v = .slice A0 r.length c0 ∧ Mem w0.heap.size w0 w' [.row 47 2 A0 r.length c0 (eP.all r)] := by
 refine gE Tryz.func50 Tryz.ntmps50 ?_;intro M;unfold kS at h;refine aI 9 ?_
 by_cases hA : (D6).isNone = true
 ·have hs := SL.Gi HT hA;replace h : some ([] : List (Int × Int)) = some r := by rw [hs] at h; exact h
  clear hs;refine aP (fun _ K => CO (b' := true) hA (u7 rfl U3 K rfl rfl)) M ?_;exact aZ 10 (((Mem.aE 47 2 eP M)).pick [0] aC)
 refine aP (fun _ K => CO (b' := false) ((Bool.not_eq_true _).mp hA) (u7 rfl U3 K rfl rfl)) M ?_;refine aI 7 ?_;intro a K;refine iB K (Ds (C := eP) rfl zO rfl K M) ?_;clear K M; rintro _ a w ⟨gs, rfl, M⟩ K;revert a;obtain ⟨l2, sG, h⟩ := aB h;refine aI 1 ?_;intro a K;refine iB K (jK (C := eP) (xs := ([] : List (Int × Int))) (ys := s) rfl zO rfl z47 rfl rfl K rfl rfl 0 M rfl ((dA HT) _ M) sG) ?_;clear K M; rintro _ a w ⟨A, c, rfl, M⟩ K;revert a;exact aZ 4 (M.pick [0] aC)
end
section
open Go.RowKit Go.Shelf
def L2 : Go.Shelf.Ren := ⟨fun | 160 => 195 | 232 => 212 | 231 => 211 | 227 => 213 | 234 => 215 | 233 => 214 | 236 => 217 | 235 => 216 | 228 => 233 | 271 => 236 | 151 => 235 | 197 => 234 | 120 => 246 | 152 => 245 | 260 => 244 | 137 => 247 | 119 => 248 | 224 => 227 | 225 => 226 | 217 => 225 | 266 => 239 | n => n, fun | 9 => 9 | 4 => 4 | 3 => 3 | 5 => 5 | 117 => 267 | 116 => 266 | 0 => 0 | 124 => 270 | 21 => 21 | 105 => 284 | 46 => 154 | 119 => 296 | 139 => 299 | 138 => 298 | n => n, fun | 3 => 6 | 4 => 7 | n => n⟩
theorem SH : Go.Proofs.Lays.n160 Tryz.prog L2 := {
 mixed := by kernel_rfl
 f119 := Tryz.func248.trans (congrArg some (by kernel_rfl))
 f120 := Tryz.func246.trans (congrArg some (by kernel_rfl))
 f137 := Tryz.func247.trans (congrArg some (by kernel_rfl))
 f151 := Tryz.func235.trans (congrArg some (by kernel_rfl))
 f152 := Tryz.func245.trans (congrArg some (by kernel_rfl))
 f160 := Tryz.func195.trans (congrArg some (by kernel_rfl))
 f197 := Tryz.func234.trans (congrArg some (by kernel_rfl))
 f217 := Tryz.func225.trans (congrArg some (by kernel_rfl))
 f224 := Tryz.func227.trans (congrArg some (by kernel_rfl))
 f225 := Tryz.func226.trans (congrArg some (by kernel_rfl))
 f227 := Tryz.func213.trans (congrArg some (by kernel_rfl))
 f228 := Tryz.func233.trans (congrArg some (by kernel_rfl))
 f231 := Tryz.func211.trans (congrArg some (by kernel_rfl))
 f232 := Tryz.func212.trans (congrArg some (by kernel_rfl))
 f233 := Tryz.func214.trans (congrArg some (by kernel_rfl))
 f234 := Tryz.func215.trans (congrArg some (by kernel_rfl))
 f235 := Tryz.func216.trans (congrArg some (by kernel_rfl))
 f236 := Tryz.func217.trans (congrArg some (by kernel_rfl))
 f260 := Tryz.func244.trans (congrArg some (by kernel_rfl))
 f266 := Tryz.func239.trans (congrArg some (by kernel_rfl))
 f271 := Tryz.func236.trans (congrArg some (by kernel_rfl))
 t0 := Tryz.underlying0
 a0 := Tryz.isAgg0
 z0 := Tryz.sizeOf0
 v0 := Tryz.zeroValue0
 t3 := Tryz.underlying3
 a3 := Tryz.isAgg3
 z3 := Tryz.sizeOf3
 v3 := Tryz.zeroValue3
 t4 := Tryz.underlying4
 a4 := Tryz.isAgg4
 z4 := Tryz.sizeOf4
 v4 := Tryz.zeroValue4
 t5 := Tryz.underlying5
 a5 := Tryz.isAgg5
 z5 := Tryz.sizeOf5
 v5 := Tryz.zeroValue5
 t9 := Tryz.underlying9
 a9 := Tryz.isAgg9
 z9 := Tryz.sizeOf9
 v9 := Tryz.zeroValue9
 t21 := Tryz.underlying21
 a21 := Tryz.isAgg21
 z21 := Tryz.sizeOf21
 v21 := Tryz.zeroValue21
 t46 := Tryz.underlying154
 a46 := Tryz.isAgg154
 z46 := Tryz.sizeOf154
 v46 := Tryz.zeroValue154
 t105 := Tryz.underlying284
 a105 := Tryz.isAgg284
 z105 := Tryz.sizeOf284
 v105 := Tryz.zeroValue284
 t116 := Tryz.underlying266
 a116 := Tryz.isAgg266
 z116 := Tryz.sizeOf266
 t117 := Tryz.underlying267
 a117 := Tryz.isAgg267
 z117 := Tryz.sizeOf267
 v117 := Tryz.zeroValue267
 t119 := Tryz.underlying296
 a119 := Tryz.isAgg296
 z119 := Tryz.sizeOf296
 t124 := Tryz.underlying270
 a124 := Tryz.isAgg270
 z124 := Tryz.sizeOf270
 v124 := Tryz.zeroValue270
 t138 := Tryz.underlying298
 a138 := Tryz.isAgg298
 z138 := Tryz.sizeOf298
 v138 := Tryz.zeroValue298
 t139 := Tryz.underlying299
 a139 := Tryz.isAgg299
 z139 := Tryz.sizeOf299
 v139 := Tryz.zeroValue299
 g3 := by kernel_rfl
 g4 := by kernel_rfl }
def L3 : Go.Shelf.Ren := ⟨fun | 138 => 196 | 195 => 218 | 218 => 219 | 143 => 198 | 219 => 203 | 217 => 225 | 225 => 226 | 224 => 227 | 267 => 228 | 266 => 239 | 314 => 240 | n => n, fun | 9 => 9 | 3 => 3 | 4 => 4 | 5 => 5 | 0 => 0 | 46 => 154 | 146 => 287 | 51 => 229 | n => n, fun | 1 => 1 | n => n⟩
theorem SI : Go.Proofs.Lays.n138 Tryz.prog L3 := {
 mixed := by kernel_rfl
 f138 := Tryz.func196.trans (congrArg some (by kernel_rfl))
 f143 := Tryz.func198.trans (congrArg some (by kernel_rfl))
 f195 := Tryz.func218.trans (congrArg some (by kernel_rfl))
 f217 := Tryz.func225.trans (congrArg some (by kernel_rfl))
 f218 := Tryz.func219.trans (congrArg some (by kernel_rfl))
 f219 := Tryz.func203.trans (congrArg some (by kernel_rfl))
 f224 := Tryz.func227.trans (congrArg some (by kernel_rfl))
 f225 := Tryz.func226.trans (congrArg some (by kernel_rfl))
 f266 := Tryz.func239.trans (congrArg some (by kernel_rfl))
 f267 := Tryz.func228.trans (congrArg some (by kernel_rfl))
 f314 := Tryz.func240.trans (congrArg some (by kernel_rfl))
 t0 := Tryz.underlying0
 a0 := Tryz.isAgg0
 z0 := Tryz.sizeOf0
 v0 := Tryz.zeroValue0
 t3 := Tryz.underlying3
 a3 := Tryz.isAgg3
 z3 := Tryz.sizeOf3
 v3 := Tryz.zeroValue3
 t4 := Tryz.underlying4
 a4 := Tryz.isAgg4
 z4 := Tryz.sizeOf4
 v4 := Tryz.zeroValue4
 t5 := Tryz.underlying5
 a5 := Tryz.isAgg5
 z5 := Tryz.sizeOf5
 v5 := Tryz.zeroValue5
 t9 := Tryz.underlying9
 a9 := Tryz.isAgg9
 z9 := Tryz.sizeOf9
 v9 := Tryz.zeroValue9
 t46 := Tryz.underlying154
 a46 := Tryz.isAgg154
 z46 := Tryz.sizeOf154
 v46 := Tryz.zeroValue154
 t51 := Tryz.underlying229
 a51 := Tryz.isAgg229
 z51 := Tryz.sizeOf229
 v51 := Tryz.zeroValue229
 t146 := Tryz.underlying287
 a146 := Tryz.isAgg287
 z146 := Tryz.sizeOf287
 v146 := Tryz.zeroValue287
 g1 := by kernel_rfl }
def HU : Go.Shelf.Ren := ⟨fun | 169 => 98 | n => n, fun | 70 => 146 | 9 => 9 | 0 => 0 | 72 => 148 | 37 => 123 | 127 => 219 | 3 => 3 | 5 => 5 | n => n, fun | n => n⟩
theorem SJ : Go.Proofs.Lays.n169 Tryz.prog HU := {
 mixed := by kernel_rfl
 f169 := Tryz.func98.trans (congrArg some (by kernel_rfl))
 t0 := Tryz.underlying0
 a0 := Tryz.isAgg0
 z0 := Tryz.sizeOf0
 v0 := Tryz.zeroValue0
 t3 := Tryz.underlying3
 a3 := Tryz.isAgg3
 z3 := Tryz.sizeOf3
 v3 := Tryz.zeroValue3
 t9 := Tryz.underlying9
 a9 := Tryz.isAgg9
 z9 := Tryz.sizeOf9
 v9 := Tryz.zeroValue9
 t37 := Tryz.underlying123
 a37 := Tryz.isAgg123
 z37 := Tryz.sizeOf123
 v37 := Tryz.zeroValue123
 t70 := Tryz.underlying146
 a70 := Tryz.isAgg146
 z70 := Tryz.sizeOf146
 v70 := Tryz.zeroValue146
 t72 := Tryz.underlying148
 a72 := Tryz.isAgg148
 z72 := Tryz.sizeOf148
 v72 := Tryz.zeroValue148
 t127 := Tryz.underlying219
 a127 := Tryz.isAgg219
 z127 := Tryz.sizeOf219
 v127 := Tryz.zeroValue219 }
def L4 : Go.Shelf.Ren := ⟨fun | 144 => 180 | 143 => 198 | 219 => 203 | 217 => 225 | 225 => 226 | 224 => 227 | 267 => 228 | 266 => 239 | 314 => 240 | n => n, fun | 9 => 9 | 4 => 4 | 3 => 3 | 5 => 5 | 46 => 154 | 146 => 287 | 51 => 229 | n => n, fun | 1 => 1 | n => n⟩
theorem SK : Go.Proofs.Lays.n144 Tryz.prog L4 := {
 mixed := by kernel_rfl
 f143 := Tryz.func198.trans (congrArg some (by kernel_rfl))
 f144 := Tryz.func180.trans (congrArg some (by kernel_rfl))
 f217 := Tryz.func225.trans (congrArg some (by kernel_rfl))
 f219 := Tryz.func203.trans (congrArg some (by kernel_rfl))
 f224 := Tryz.func227.trans (congrArg some (by kernel_rfl))
 f225 := Tryz.func226.trans (congrArg some (by kernel_rfl))
 f266 := Tryz.func239.trans (congrArg some (by kernel_rfl))
 f267 := Tryz.func228.trans (congrArg some (by kernel_rfl))
 f314 := Tryz.func240.trans (congrArg some (by kernel_rfl))
 t3 := Tryz.underlying3
 a3 := Tryz.isAgg3
 z3 := Tryz.sizeOf3
 v3 := Tryz.zeroValue3
 t4 := Tryz.underlying4
 a4 := Tryz.isAgg4
 z4 := Tryz.sizeOf4
 v4 := Tryz.zeroValue4
 t5 := Tryz.underlying5
 a5 := Tryz.isAgg5
 z5 := Tryz.sizeOf5
 v5 := Tryz.zeroValue5
 t9 := Tryz.underlying9
 a9 := Tryz.isAgg9
 z9 := Tryz.sizeOf9
 v9 := Tryz.zeroValue9
 t46 := Tryz.underlying154
 a46 := Tryz.isAgg154
 z46 := Tryz.sizeOf154
 v46 := Tryz.zeroValue154
 t51 := Tryz.underlying229
 a51 := Tryz.isAgg229
 z51 := Tryz.sizeOf229
 v51 := Tryz.zeroValue229
 t146 := Tryz.underlying287
 a146 := Tryz.isAgg287
 z146 := Tryz.sizeOf287
 v146 := Tryz.zeroValue287
 g1 := by kernel_rfl }
def L5 : Go.Shelf.Ren := ⟨fun | 219 => 203 | 217 => 225 | 225 => 226 | 224 => 227 | 267 => 228 | 266 => 239 | 314 => 240 | n => n, fun | 9 => 9 | 3 => 3 | 4 => 4 | 5 => 5 | 46 => 154 | 146 => 287 | 51 => 229 | n => n, fun | 1 => 1 | n => n⟩
theorem SM : Go.Proofs.Lays.n219 Tryz.prog L5 := {
 mixed := by kernel_rfl
 f217 := Tryz.func225.trans (congrArg some (by kernel_rfl))
 f219 := Tryz.func203.trans (congrArg some (by kernel_rfl))
 f224 := Tryz.func227.trans (congrArg some (by kernel_rfl))
 f225 := Tryz.func226.trans (congrArg some (by kernel_rfl))
 f266 := Tryz.func239.trans (congrArg some (by kernel_rfl))
 f267 := Tryz.func228.trans (congrArg some (by kernel_rfl))
 f314 := Tryz.func240.trans (congrArg some (by kernel_rfl))
 t3 := Tryz.underlying3
 a3 := Tryz.isAgg3
 z3 := Tryz.sizeOf3
 v3 := Tryz.zeroValue3
 t4 := Tryz.underlying4
 a4 := Tryz.isAgg4
 z4 := Tryz.sizeOf4
 v4 := Tryz.zeroValue4
 t5 := Tryz.underlying5
 a5 := Tryz.isAgg5
 z5 := Tryz.sizeOf5
 v5 := Tryz.zeroValue5
 t9 := Tryz.underlying9
 a9 := Tryz.isAgg9
 z9 := Tryz.sizeOf9
 v9 := Tryz.zeroValue9
 t46 := Tryz.underlying154
 a46 := Tryz.isAgg154
 z46 := Tryz.sizeOf154
 v46 := Tryz.zeroValue154
 t51 := Tryz.underlying229
 a51 := Tryz.isAgg229
 z51 := Tryz.sizeOf229
 v51 := Tryz.zeroValue229
 t146 := Tryz.underlying287
 a146 := Tryz.isAgg287
 z146 := Tryz.sizeOf287
 v146 := Tryz.zeroValue287
 g1 := by kernel_rfl }
def L6 : Go.Shelf.Ren := ⟨fun | 171 => 96 | 243 => 151 | 246 => 185 | 283 => 199 | 284 => 200 | 285 => 201 | 286 => 202 | 129 => 168 | 317 => 221 | 318 => 222 | 319 => 223 | 320 => 224 | 337 => 237 | 338 => 238 | n => n, fun | 3 => 3 | 9 => 9 | 2 => 2 | 4 => 4 | 171 => 252 | 0 => 0 | 53 => 231 | 37 => 123 | 5 => 5 | 173 => 254 | 212 => 276 | 51 => 229 | 20 => 20 | 213 => 277 | 46 => 154 | 232 => 294 | 233 => 295 | n => n, fun | 17 => 0 | 18 => 4 | 19 => 5 | n => n⟩
theorem SN : Go.Proofs.LaysM.n171 Tryz.prog L6 := {
 mixed := by kernel_rfl
 f129 := Tryz.func168.trans (congrArg some (by kernel_rfl))
 f171 := Tryz.func96.trans (congrArg some (by kernel_rfl))
 f243 := Tryz.func151.trans (congrArg some (by kernel_rfl))
 f246 := Tryz.func185.trans (congrArg some (by kernel_rfl))
 f283 := Tryz.func199.trans (congrArg some (by kernel_rfl))
 f284 := Tryz.func200.trans (congrArg some (by kernel_rfl))
 f285 := Tryz.func201.trans (congrArg some (by kernel_rfl))
 f286 := Tryz.func202.trans (congrArg some (by kernel_rfl))
 f317 := Tryz.func221.trans (congrArg some (by kernel_rfl))
 f318 := Tryz.func222.trans (congrArg some (by kernel_rfl))
 f319 := Tryz.func223.trans (congrArg some (by kernel_rfl))
 f320 := Tryz.func224.trans (congrArg some (by kernel_rfl))
 f337 := Tryz.func237.trans (congrArg some (by kernel_rfl))
 f338 := Tryz.func238.trans (congrArg some (by kernel_rfl))
 t0 := Tryz.underlying0
 a0 := Tryz.isAgg0
 z0 := Tryz.sizeOf0
 v0 := Tryz.zeroValue0
 t2 := Tryz.underlying2
 a2 := Tryz.isAgg2
 z2 := Tryz.sizeOf2
 v2 := Tryz.zeroValue2
 t3 := Tryz.underlying3
 a3 := Tryz.isAgg3
 z3 := Tryz.sizeOf3
 v3 := Tryz.zeroValue3
 t4 := Tryz.underlying4
 a4 := Tryz.isAgg4
 z4 := Tryz.sizeOf4
 v4 := Tryz.zeroValue4
 t5 := Tryz.underlying5
 a5 := Tryz.isAgg5
 z5 := Tryz.sizeOf5
 v5 := Tryz.zeroValue5
 t9 := Tryz.underlying9
 a9 := Tryz.isAgg9
 z9 := Tryz.sizeOf9
 v9 := Tryz.zeroValue9
 t20 := Tryz.underlying20
 a20 := Tryz.isAgg20
 z20 := Tryz.sizeOf20
 v20 := Tryz.zeroValue20
 t37 := Tryz.underlying123
 a37 := Tryz.isAgg123
 z37 := Tryz.sizeOf123
 v37 := Tryz.zeroValue123
 t46 := Tryz.underlying154
 a46 := Tryz.isAgg154
 z46 := Tryz.sizeOf154
 v46 := Tryz.zeroValue154
 t51 := Tryz.underlying229
 a51 := Tryz.isAgg229
 z51 := Tryz.sizeOf229
 v51 := Tryz.zeroValue229
 t53 := Tryz.underlying231
 a53 := Tryz.isAgg231
 z53 := Tryz.sizeOf231
 v53 := Tryz.zeroValue231
 t171 := Tryz.underlying252
 a171 := Tryz.isAgg252
 z171 := Tryz.sizeOf252
 v171 := Tryz.zeroValue252
 t173 := Tryz.underlying254
 a173 := Tryz.isAgg254
 z173 := Tryz.sizeOf254
 v173 := Tryz.zeroValue254
 t212 := Tryz.underlying276
 a212 := Tryz.isAgg276
 z212 := Tryz.sizeOf276
 v212 := Tryz.zeroValue276
 t213 := Tryz.underlying277
 a213 := Tryz.isAgg277
 z213 := Tryz.sizeOf277
 t232 := Tryz.underlying294
 a232 := Tryz.isAgg294
 z232 := Tryz.sizeOf294
 v232 := Tryz.zeroValue294
 t233 := Tryz.underlying295
 a233 := Tryz.isAgg295
 z233 := Tryz.sizeOf295
 v233 := Tryz.zeroValue295
 g17 := by kernel_rfl
 g18 := by kernel_rfl
 g19 := by kernel_rfl
 i0 := by kernel_rfl
 i2 := by kernel_rfl
 i3 := by kernel_rfl
 i4 := by kernel_rfl
 i5 := by kernel_rfl
 i9 := by kernel_rfl
 i20 := by kernel_rfl
 i37 := by kernel_rfl
 i46 := by kernel_rfl
 i51 := by kernel_rfl
 i53 := by kernel_rfl
 i171 := by kernel_rfl
 i173 := by kernel_rfl
 i212 := by kernel_rfl
 i232 := by kernel_rfl
 i233 := by kernel_rfl
 m17 := by kernel_rfl
 m18 := by kernel_rfl
 m19 := by kernel_rfl }
def L7 : Go.Shelf.Ren := ⟨fun | 172 => 155 | 244 => 188 | 245 => 189 | 247 => 204 | 279 => 205 | 280 => 206 | 281 => 207 | 282 => 208 | 287 => 229 | 316 => 230 | 171 => 96 | 205 => 231 | 321 => 241 | 322 => 242 | 243 => 151 | 246 => 185 | 283 => 199 | 284 => 200 | 285 => 201 | 286 => 202 | 129 => 168 | 317 => 221 | 318 => 222 | 319 => 223 | 320 => 224 | 337 => 237 | 338 => 238 | n => n, fun | 9 => 9 | 3 => 3 | 75 => 150 | 76 => 151 | 4 => 4 | 5 => 5 | 167 => 256 | 37 => 123 | 0 => 0 | 85 => 257 | 2 => 2 | 168 => 259 | 53 => 231 | 175 => 278 | 46 => 154 | 210 => 281 | 127 => 219 | 145 => 292 | 143 => 290 | 21 => 21 | 171 => 252 | 173 => 254 | 212 => 276 | 51 => 229 | 20 => 20 | 213 => 277 | 232 => 294 | 233 => 295 | 80 => 145 | n => n, fun | 15 => 2 | 16 => 3 | 17 => 0 | 18 => 4 | 19 => 5 | n => n⟩
theorem La : Go.Proofs.LaysC.n172 Tryz.prog L7 := {
 mixed := by kernel_rfl
 f129 := Tryz.func168.trans (congrArg some (by kernel_rfl))
 f171 := Tryz.func96.trans (congrArg some (by kernel_rfl))
 f172 := Tryz.func155.trans (congrArg some (by kernel_rfl))
 f205 := Tryz.func231.trans (congrArg some (by kernel_rfl))
 f243 := Tryz.func151.trans (congrArg some (by kernel_rfl))
 f244 := Tryz.func188.trans (congrArg some (by kernel_rfl))
 f245 := Tryz.func189.trans (congrArg some (by kernel_rfl))
 f246 := Tryz.func185.trans (congrArg some (by kernel_rfl))
 f247 := Tryz.func204.trans (congrArg some (by kernel_rfl))
 f279 := Tryz.func205.trans (congrArg some (by kernel_rfl))
 f280 := Tryz.func206.trans (congrArg some (by kernel_rfl))
 f281 := Tryz.func207.trans (congrArg some (by kernel_rfl))
 f282 := Tryz.func208.trans (congrArg some (by kernel_rfl))
 f283 := Tryz.func199.trans (congrArg some (by kernel_rfl))
 f284 := Tryz.func200.trans (congrArg some (by kernel_rfl))
 f285 := Tryz.func201.trans (congrArg some (by kernel_rfl))
 f286 := Tryz.func202.trans (congrArg some (by kernel_rfl))
 f287 := Tryz.func229.trans (congrArg some (by kernel_rfl))
 f316 := Tryz.func230.trans (congrArg some (by kernel_rfl))
 f317 := Tryz.func221.trans (congrArg some (by kernel_rfl))
 f318 := Tryz.func222.trans (congrArg some (by kernel_rfl))
 f319 := Tryz.func223.trans (congrArg some (by kernel_rfl))
 f320 := Tryz.func224.trans (congrArg some (by kernel_rfl))
 f321 := Tryz.func241.trans (congrArg some (by kernel_rfl))
 f322 := Tryz.func242.trans (congrArg some (by kernel_rfl))
 f337 := Tryz.func237.trans (congrArg some (by kernel_rfl))
 f338 := Tryz.func238.trans (congrArg some (by kernel_rfl))
 t0 := Tryz.underlying0
 a0 := Tryz.isAgg0
 z0 := Tryz.sizeOf0
 v0 := Tryz.zeroValue0
 t2 := Tryz.underlying2
 a2 := Tryz.isAgg2
 z2 := Tryz.sizeOf2
 v2 := Tryz.zeroValue2
 t3 := Tryz.underlying3
 a3 := Tryz.isAgg3
 z3 := Tryz.sizeOf3
 v3 := Tryz.zeroValue3
 t4 := Tryz.underlying4
 a4 := Tryz.isAgg4
 z4 := Tryz.sizeOf4
 v4 := Tryz.zeroValue4
 t5 := Tryz.underlying5
 a5 := Tryz.isAgg5
 z5 := Tryz.sizeOf5
 v5 := Tryz.zeroValue5
 t9 := Tryz.underlying9
 a9 := Tryz.isAgg9
 z9 := Tryz.sizeOf9
 v9 := Tryz.zeroValue9
 t20 := Tryz.underlying20
 a20 := Tryz.isAgg20
 z20 := Tryz.sizeOf20
 v20 := Tryz.zeroValue20
 t21 := Tryz.underlying21
 a21 := Tryz.isAgg21
 z21 := Tryz.sizeOf21
 v21 := Tryz.zeroValue21
 t37 := Tryz.underlying123
 a37 := Tryz.isAgg123
 z37 := Tryz.sizeOf123
 v37 := Tryz.zeroValue123
 t46 := Tryz.underlying154
 a46 := Tryz.isAgg154
 z46 := Tryz.sizeOf154
 v46 := Tryz.zeroValue154
 t51 := Tryz.underlying229
 a51 := Tryz.isAgg229
 z51 := Tryz.sizeOf229
 v51 := Tryz.zeroValue229
 t53 := Tryz.underlying231
 a53 := Tryz.isAgg231
 z53 := Tryz.sizeOf231
 v53 := Tryz.zeroValue231
 t75 := Tryz.underlying150
 a75 := Tryz.isAgg150
 z75 := Tryz.sizeOf150
 v75 := Tryz.zeroValue150
 t76 := Tryz.underlying151
 a76 := Tryz.isAgg151
 z76 := Tryz.sizeOf151
 v76 := Tryz.zeroValue151
 t85 := Tryz.underlying257
 a85 := Tryz.isAgg257
 z85 := Tryz.sizeOf257
 v85 := Tryz.zeroValue257
 t127 := Tryz.underlying219
 a127 := Tryz.isAgg219
 z127 := Tryz.sizeOf219
 v127 := Tryz.zeroValue219
 t143 := Tryz.underlying290
 a143 := Tryz.isAgg290
 z143 := Tryz.sizeOf290
 v143 := Tryz.zeroValue290
 t145 := Tryz.underlying292
 a145 := Tryz.isAgg292
 z145 := Tryz.sizeOf292
 v145 := Tryz.zeroValue292
 t167 := Tryz.underlying256
 a167 := Tryz.isAgg256
 z167 := Tryz.sizeOf256
 v167 := Tryz.zeroValue256
 t168 := Tryz.underlying259
 a168 := Tryz.isAgg259
 z168 := Tryz.sizeOf259
 v168 := Tryz.zeroValue259
 t171 := Tryz.underlying252
 a171 := Tryz.isAgg252
 z171 := Tryz.sizeOf252
 v171 := Tryz.zeroValue252
 t173 := Tryz.underlying254
 a173 := Tryz.isAgg254
 z173 := Tryz.sizeOf254
 v173 := Tryz.zeroValue254
 t175 := Tryz.underlying278
 a175 := Tryz.isAgg278
 z175 := Tryz.sizeOf278
 v175 := Tryz.zeroValue278
 t210 := Tryz.underlying281
 a210 := Tryz.isAgg281
 z210 := Tryz.sizeOf281
 v210 := Tryz.zeroValue281
 t212 := Tryz.underlying276
 a212 := Tryz.isAgg276
 z212 := Tryz.sizeOf276
 v212 := Tryz.zeroValue276
 t213 := Tryz.underlying277
 a213 := Tryz.isAgg277
 z213 := Tryz.sizeOf277
 t232 := Tryz.underlying294
 a232 := Tryz.isAgg294
 z232 := Tryz.sizeOf294
 v232 := Tryz.zeroValue294
 t233 := Tryz.underlying295
 a233 := Tryz.isAgg295
 z233 := Tryz.sizeOf295
 v233 := Tryz.zeroValue295
 g15 := by kernel_rfl
 g16 := by kernel_rfl
 g17 := by kernel_rfl
 g18 := by kernel_rfl
 g19 := by kernel_rfl
 t80 := Tryz.underlying145
 a80 := Tryz.isAgg145
 z80 := Tryz.sizeOf145
 v80 := Tryz.zeroValue145
 i0 := by kernel_rfl
 i2 := by kernel_rfl
 i3 := by kernel_rfl
 i4 := by kernel_rfl
 i5 := by kernel_rfl
 i9 := by kernel_rfl
 i20 := by kernel_rfl
 i21 := by kernel_rfl
 i37 := by kernel_rfl
 i46 := by kernel_rfl
 i51 := by kernel_rfl
 i53 := by kernel_rfl
 i75 := by kernel_rfl
 i76 := by kernel_rfl
 i80 := by kernel_rfl
 i85 := by kernel_rfl
 i127 := by kernel_rfl
 i143 := by kernel_rfl
 i145 := by kernel_rfl
 i167 := by kernel_rfl
 i168 := by kernel_rfl
 i171 := by kernel_rfl
 i173 := by kernel_rfl
 i175 := by kernel_rfl
 i210 := by kernel_rfl
 i212 := by kernel_rfl
 i232 := by kernel_rfl
 i233 := by kernel_rfl
 m15 := by kernel_rfl
 m16 := by kernel_rfl
 m17 := by kernel_rfl
 m18 := by kernel_rfl
 m19 := by kernel_rfl
 c0 := by kernel_rfl
 c2 := by kernel_rfl
 c3 := by kernel_rfl
 c4 := by kernel_rfl
 c5 := by kernel_rfl
 c9 := by kernel_rfl
 c20 := by kernel_rfl
 c21 := by kernel_rfl
 c37 := by kernel_rfl
 c46 := by kernel_rfl
 c51 := by kernel_rfl
 c53 := by kernel_rfl
 c75 := by kernel_rfl
 c76 := by kernel_rfl
 c80 := by kernel_rfl
 c85 := by kernel_rfl
 c127 := by kernel_rfl
 c143 := by kernel_rfl
 c145 := by kernel_rfl
 c167 := by kernel_rfl
 c168 := by kernel_rfl
 c171 := by kernel_rfl
 c173 := by kernel_rfl
 c175 := by kernel_rfl
 c210 := by kernel_rfl
 c212 := by kernel_rfl
 c213 := by kernel_rfl
 c232 := by kernel_rfl
 c233 := by kernel_rfl }
def Ez : Go.Shelf.Ren := ⟨fun | 166 => 95 | 240 => 150 | 276 => 184 | 169 => 98 | n => n, fun | 0 => 0 | 3 => 3 | 4 => 4 | 5 => 5 | 9 => 9 | 20 => 20 | 37 => 123 | 70 => 146 | 72 => 148 | 75 => 150 | 80 => 145 | 164 => 241 | 127 => 219 | n => n, fun | n => n⟩
theorem OG : Go.Proofs.Lays.n166 Tryz.prog Ez := {
 mixed := by kernel_rfl
 f166 := Tryz.func95.trans (congrArg some (by kernel_rfl))
 f240 := Tryz.func150.trans (congrArg some (by kernel_rfl))
 f276 := Tryz.func184.trans (congrArg some (by kernel_rfl))
 t0 := Tryz.underlying0
 a0 := Tryz.isAgg0
 z0 := Tryz.sizeOf0
 v0 := Tryz.zeroValue0
 t3 := Tryz.underlying3
 a3 := Tryz.isAgg3
 z3 := Tryz.sizeOf3
 v3 := Tryz.zeroValue3
 t4 := Tryz.underlying4
 a4 := Tryz.isAgg4
 z4 := Tryz.sizeOf4
 v4 := Tryz.zeroValue4
 t9 := Tryz.underlying9
 a9 := Tryz.isAgg9
 z9 := Tryz.sizeOf9
 v9 := Tryz.zeroValue9
 t20 := Tryz.underlying20
 a20 := Tryz.isAgg20
 z20 := Tryz.sizeOf20
 v20 := Tryz.zeroValue20
 t37 := Tryz.underlying123
 a37 := Tryz.isAgg123
 z37 := Tryz.sizeOf123
 v37 := Tryz.zeroValue123
 t70 := Tryz.underlying146
 a70 := Tryz.isAgg146
 z70 := Tryz.sizeOf146
 v70 := Tryz.zeroValue146
 t72 := Tryz.underlying148
 a72 := Tryz.isAgg148
 z72 := Tryz.sizeOf148
 v72 := Tryz.zeroValue148
 t75 := Tryz.underlying150
 a75 := Tryz.isAgg150
 z75 := Tryz.sizeOf150
 v75 := Tryz.zeroValue150
 t164 := Tryz.underlying241
 a164 := Tryz.isAgg241
 z164 := Tryz.sizeOf241
 v164 := Tryz.zeroValue241 }
theorem B9 : Builder.Extra Tryz.prog Ez where
 sizeBuilder := by kernel_rfl
 liesBuilder := by kernel_rfl
 t5 := Tryz.underlying5
 a5 := Tryz.isAgg5
 z5 := Tryz.sizeOf5
 v5 := Tryz.zeroValue5
 infoByte := by kernel_rfl
 cellsByte := by kernel_rfl
 sizeByte := by kernel_rfl
 neB5 := by decide
theorem Gm : Builder.Extra Tryz.prog HU where
 sizeBuilder := by kernel_rfl
 liesBuilder := by kernel_rfl
 t5 := Tryz.underlying5
 a5 := Tryz.isAgg5
 z5 := Tryz.sizeOf5
 v5 := Tryz.zeroValue5
 infoByte := by kernel_rfl
 cellsByte := by kernel_rfl
 sizeByte := by kernel_rfl
 neB5 := by decide
theorem Builder_String (B b : Nat) (l : List UInt8) (w : World) (h : Lib.IsBuilder 148 5 B b (Lib.byteCells l) w) (hBw : B ≤ w.heap.size) :
  Calls Tryz.prog 98 #[.pointer (some ⟨b, 0, none⟩)] w fun e w' => e = .returned (.string ⟨l.toArray⟩) ∧ Below B w w' := Any.Builder_String_any SJ Gm B b l w h hBw
theorem IW (N : Nat) (s cutset : List UInt8) (w0 : World) (r : List UInt8) (h : AH N s cutset = some r) :
  Calls Tryz.prog 195 #[.string (bs s), .string (bs cutset)] w0 fun e w' => ∃ v, e = .returned v ∧ v = .string (bs r) ∧ Mem w0.heap.size w0 w' [] := by
 unfold AH at h
 split at h
 ·rename_i hc
  cases h;obtain ⟨h1, h2, h3⟩ := hc;refine (Any.strings_Trim_laid SH (by kernel_rfl) (bs s) (bs cutset) w0 (by rw [pU]; exact h1) (by rw [pU]; exact h2) (fun j b hb => ?_)).mono ?_
  ·exact of_decide_eq_true (List.all_eq_true.1 h3 b (List.mem_of_getElem? hb))
  ·rintro e w' ⟨rfl, hb⟩;exact ⟨_, rfl, rfl, Mem.Sc hb⟩
 ·cases h
theorem DK (N : Nat) (s substr : List UInt8) (w0 : World) (r : Int) (h : tW N s substr = some r) :
  Calls Tryz.prog 196 #[.string (bs s), .string (bs substr)] w0 fun e w' => ∃ v, e = .returned v ∧ v = .int .i64 r ∧ Mem w0.heap.size w0 w' [] := by
 unfold tW at h
 split at h
 ·rename_i c
  cases h;refine (Any.strings_Count_one SI (bs s) c w0).mono ?_;rintro e w' ⟨rfl, rfl⟩;exact ⟨_, rfl, rfl, Mem.start w'⟩
 ·cases h
section
variable {base : Nat} {W w : World} {L : List jM} {g c n : Nat} {A : Option Addr} {b d b2 : List UInt8}
theorem HW (M : Mem base W w (.Cd g 148 A n c :: L)) :
  Calls Tryz.prog 150 #[.pointer (some ⟨g, 0, none⟩)] w fun e w' => ∃ v, e = .returned v ∧ Mem base W w' (.blk g 148 [.pointer (some ⟨g, 0, none⟩), .slice A n c] :: L) := by
 obtain ⟨p, hp, hb⟩ := M.has 0 _ rfl;have hb' : w.heap[g]? = some (.cells #[.pointer p, .slice A n c] 148 (0, 0)) := hb;have M1 : Mem base W w (.blk g 148 [.pointer p, .slice A n c] :: L) := M.swap 0 rfl hb rfl
 rcases hp with rfl | rfl
 ·refine (Any.Builder_copyCheck_fresh { OG with } B9.toX72 g w (M1.cell (i := 0) rfl (k := 0) rfl) (by simp [World.shape?, hb', Ez]) (by simp [World.frozen?, hb'])).mono ?_;rintro e w' ⟨rfl, rfl⟩;exact ⟨_, rfl, M1.set 0 rfl 0 _⟩
 ·refine (Any.Builder_copyCheck_used { OG with } B9.toX72 g w (M1.cell (i := 0) rfl (k := 0) rfl)).mono ?_;rintro e w' ⟨rfl, rfl⟩;exact ⟨_, rfl, M1⟩
theorem pD (M : Mem base W w (.Cd g 148 A b.length c :: .row 5 1 A b.length c ((cI .u8).all (lL b)) :: L)) (h : MF b d = some b2) :
  Calls Tryz.prog 95 #[.pointer (some ⟨g, 0, none⟩), .string (bs d)] w fun e w' => ∃ v, e = .returned v ∧ ∃ A' c', Mem base W w' (.Cd g 148 A' b2.length c' :: .row 5 1 A' b2.length c' ((cI .u8).all (lL b2)) :: L) := by
 obtain ⟨rfl, hl⟩ := P5 h
 have happ : app 1 (lL b) (lL d) = some (lL b ++ lL d) := by
  unfold app;rw [if_pos (by rw [sR, sR]; omega)]
 replace M : Mem base W w (.Cd g 148 A (lL b).length c :: .row 5 1 A (lL b).length c ((cI .u8).all (lL b)) :: L) := by rw [sR]; exact M
 refine gD Tryz.func95 rfl Tryz.ntmps95 rfl ?_;intro a K;have K : Kn a 19 [(0, .pointer (some ⟨g, 0, none⟩)), (1, .string (bs d))] := K;refine wp_seq (aG ?_);refine fG K M ?_; clear K;refine eO M ?_; intro a K;refine wpList_nil (aD (wp_seq (aG ?_)));refine fG K M ?_; clear K; intro a K;refine iB K (dH (vs := [.pointer (some ⟨g, 0, none⟩)]) (cap := []) rfl NA K rfl rfl (HW M)) ?_;clear K M; rintro _ a w M K;refine wpList_nil (aD (wp_seq (aG ?_)));refine fG K M ?_; clear K;refine eO M ?_;refine eO M ?_;refine aP (fun _ K => aR rfl (show vK Tryz.prog 148 1 = some 1 by kernel_rfl) K rfl) M ?_;refine aP (fun _ K => a6 rfl Gl K rfl (kO 0 rfl) rfl) M ?_;refine eO M ?_; intro a K;refine iB K (Ot rfl lZ nY XQ K rfl rfl 1 M rfl happ) ?_;clear K M; rintro _ a w ⟨A', c', rfl, M⟩ K;refine fG K M ?_; clear K;refine aP (fun _ K => aR rfl (show vK Tryz.prog 148 1 = some 1 by kernel_rfl) K rfl) M ?_; intro a K;refine qG K (aN rfl Gl K rfl rfl rfl 0 M rfl rfl) ?_;clear K M; rintro _ a w M K;refine wpList_nil (aD (wp_seq (aG ?_)));refine fG K M ?_; clear K;refine aP (fun _ K => gT rfl nY K rfl) M ?_;refine eO M ?_;refine eO M ?_; intro a K;refine wpList_nil (aD (wp_ret ?_));replace M : Mem base W w (.blk g 148 [.pointer (some ⟨g, 0, none⟩), .slice A' (lL b ++ lL d).length c'] :: .row 5 1 A' (lL b ++ lL d).length c' ((cI .u8).all (lL b ++ lL d)) :: L) := M;have M2 : Mem base W w (.Cd g 148 A' (lL b ++ lL d).length c' :: .row 5 1 A' (lL b ++ lL d).length c' ((cI .u8).all (lL b ++ lL d)) :: L) := M.Tb 0 rfl;have e : (lL b ++ lL d) = lL (b ++ d) := (List.map_append ..).symm;rw [e, sR] at M2;exact II K rfl (cQ K rfl) (cQ K rfl) ⟨_, rfl, A', c', M2⟩
theorem Dx (M : Mem base W w (.Cd g 148 A b.length c :: .row 5 1 A b.length c ((cI .u8).all (lL b)) :: L)) {y : Int} (h : Sf b y = some b2) :
  Calls Tryz.prog 97 #[.pointer (some ⟨g, 0, none⟩), .int .u8 y] w fun e w' => ∃ v, e = .returned v ∧ ∃ A' c', Mem base W w' (.Cd g 148 A' b2.length c' :: .row 5 1 A' b2.length c' ((cI .u8).all (lL b2)) :: L) := by
 obtain ⟨rfl, hl, hy0, hy1⟩ := P6 h
 have happ : app 1 (lL b) [y] = some (lL b ++ [y]) := by
  unfold app;rw [if_pos (by rw [sR]; simp; omega)]
 replace M : Mem base W w (.Cd g 148 A (lL b).length c :: .row 5 1 A (lL b).length c ((cI .u8).all (lL b)) :: L) := by rw [sR]; exact M
 refine gD Tryz.func97 rfl Tryz.ntmps97 rfl ?_;intro a K;have K : Kn a 17 [(0, .pointer (some ⟨g, 0, none⟩)), (1, .int .u8 y)] := K;refine wp_seq (aG ?_);refine fG K M ?_; clear K; intro a K;refine wpList_nil (aD (wp_seq (aG ?_)));refine fG K M ?_; clear K; intro a K;refine iB K (dH (vs := [.pointer (some ⟨g, 0, none⟩)]) (cap := []) rfl NA K rfl rfl (HW M)) ?_;clear K M; rintro _ a w M K;refine wpList_nil (aD (wp_seq (aG ?_)));refine fG K M ?_; clear K;refine eO M ?_;refine eO M ?_;refine aP (fun _ K => aR rfl (show vK Tryz.prog 148 1 = some 1 by kernel_rfl) K rfl) M ?_;refine aP (fun _ K => a6 rfl Gl K rfl (kO 0 rfl) rfl) M ?_;refine eO M ?_; intro a K;refine iB K (a8 rfl lZ z5 K (vs := [(0, .int .u8 y)]) (cs := [.int .u8 y]) rfl (by kernel_rfl) rfl rfl M) ?_;clear K M; rintro _ a w ⟨gs, rfl, M⟩ K;replace M := M.iF 0 rfl (cI .u8) ([y] : List Int) (n := 1) rfl rfl rfl;refine iB K (jK (C := (cI .u8)) (xs := lL b) (ys := ([y] : List Int)) rfl lZ rfl z5 rfl rfl K rfl rfl 2 M rfl ((fV (C := (cI .u8)) 0 rfl rfl) _ M) happ) ?_;clear K M; rintro _ a w ⟨A', c', rfl, M⟩ K;refine fG K M ?_; clear K;refine aP (fun _ K => aR rfl (show vK Tryz.prog 148 1 = some 1 by kernel_rfl) K rfl) M ?_; intro a K;refine qG K (aN rfl Gl K rfl rfl rfl 1 M rfl rfl) ?_;clear K M; rintro _ a w M K;refine wpList_nil (aD (wp_seq (aG ?_)));refine fG K M ?_; clear K; intro a K;refine wpList_nil (aD (wp_ret ?_));replace M : Mem base W w (.blk g 148 [.pointer (some ⟨g, 0, none⟩), .slice A' (lL b ++ [y]).length c'] :: .row 5 1 A' (lL b ++ [y]).length c' ((cI .u8).all (lL b ++ [y])) :: L) := M.tail;have M2 : Mem base W w (.Cd g 148 A' (lL b ++ [y]).length c' :: .row 5 1 A' (lL b ++ [y]).length c' ((cI .u8).all (lL b ++ [y])) :: L) := M.Tb 0 rfl
 have e : (lL b ++ [y]) = lL (b ++ [UInt8.ofNat y.toNat]) := by
  unfold lL;rw [List.map_append]
  congr 1
  show [y] = [(((UInt8.ofNat y.toNat).toNat : Nat) : Int)];rw [UInt8.toNat_ofNat']
  congr 1
  omega
 rw [e, sR] at M2;exact oJ K rfl (cQ K rfl) ⟨_, rfl, A', c', M2⟩
theorem Av (M : Mem W.heap.size W w (.Cd g 148 A b.length c :: .row 5 1 A b.length c ((cI .u8).all (lL b)) :: L)) :
  Calls Tryz.prog 98 #[.pointer (some ⟨g, 0, none⟩)] w fun e w' => ∃ v, e = .returned v ∧ v = .string (bs b) ∧ Mem W.heap.size W w' [] := by
 refine (Builder_String W.heap.size g b w M.builder M.sz).mono ?_;rintro e w' ⟨rfl, h2⟩;exact ⟨_, rfl, rfl, Mem.Sc (M.low.trans h2)⟩
end
end
section
open Go.RowKit
theorem Fe {N : Nat} {n : Int} {w0 : World} {r : Bool} (h : yD N n = some r) :
  Calls Tryz.prog 121 #[I n] w0 fun e w' => ∃ v, e = .returned v ∧ v = .bool r ∧ Mem w0.heap.size w0 w' [] := by
 refine gE Tryz.func121 Tryz.ntmps121 ?_;intro M;unfold yD at h;refine jL 10 5 h ?_ ?_
 ·intro hb h;exact aZ 7 (M.pick [] aC)
 intro hb h;exact aZ 7 (M.pick [] aC)
theorem L8 {N : Nat} {d : List Int} {Lb : Option Addr} {Lc : Nat} {o : Int} {w0 : World} {r : List UInt8 × Int} (h : En N d o = some r) (Ff : SL w0 (cI .i64) Lb d) (U7 : d.length ≤ Lc) :
  Calls Tryz.prog 52 #[.slice Lb d.length Lc, I o] w0 fun e w' => ∃ v, e = .returned v ∧ v = .tuple #[.string (bs r.1), I r.2] ∧ Mem w0.heap.size w0 w' [] := by
 refine gE Tryz.func52 Tryz.ntmps52 ?_;intro M;unfold En at h;obtain ⟨r2, dC, h⟩ := aB h;refine iC 10 (Fe dC) ?_;intro w M;refine dR 3 h ?_ ?_
 ·intro hb h;exact bU 8 (M.pick [] aC)
 intro hb h;refine dR 10 h ?_ ?_
 ·intro hb h;exact bU 8 (M.pick [] aC)
 intro hb h;refine aI 9 ?_;refine aP (fun _ K => iS rfl K rfl rfl aC) M ?_;obtain ⟨_, h0, h⟩ := aB h;have h0 := PP h0;intro a K;refine iB K (PW (C := (cI .u8)) rfl lZ rfl (by rw [z5]; rfl) rfl K rfl rfl M h0) ?_;clear K M; rintro _ a w ⟨A, c, rfl, M⟩ K;revert a;refine pT 18 0 (fun (⟨l2, i, i2, i3⟩ : List Int × Int × Int × Int) a w => ∃ (A2 : Option Addr) (c2 : Nat), Kn a 75 [(1, I o), (6, .slice A2 l2.length c2), (7, I i), (8, I i2), (24, .slice Lb d.length Lc), (25, I (d.length : Int)), (26, I i3)] ∧ Mem w0.heap.size w0 w [.row 5 1 A2 l2.length c2 ((cI .u8).all l2)]) M.oQ ?_ ?_
 ·clear M h;rintro ⟨l9, i7, i8, i9⟩ a w ⟨A9, c9, K, M⟩ h;try dsimp only at h
  revert a;refine dR 9 h ?_ ?_
  ·intro hb h;obtain ⟨_, h0, h⟩ := aB h;have h0 := nS h0;refine aI 5 ?_;refine aP (fun _ K => pY rfl K rfl rfl h0) M ?_;refine aI 1 ?_;intro a K;refine iB K (a8 rfl lZ z5 K (vs := [(0, .int .u8 (IntKind.u8.wrap (oG .i64 i7 (IntKind.i64.wrap (8 - i8)))))]) (cs := [.int .u8 (IntKind.u8.wrap (oG .i64 i7 (IntKind.i64.wrap (8 - i8))))]) rfl aF rfl rfl M) ?_;have M0 := M; clear K M; rintro _ a w ⟨WF, rfl, M⟩ K;replace M := M.iF 0 rfl (cI .u8) ([IntKind.u8.wrap (oG .i64 i7 (IntKind.i64.wrap (8 - i8)))] : List Int) (n := 1) rfl rfl rfl;clear M0;obtain ⟨l10, IX, h⟩ := aB h;refine iB K (jK (C := (cI .u8)) (xs := l9) (ys := ([IntKind.u8.wrap (oG .i64 i7 (IntKind.i64.wrap (8 - i8)))] : List Int)) rfl lZ rfl z5 rfl rfl K rfl rfl 1 M rfl ((fV (C := (cI .u8)) 0 rfl rfl) _ M) IX) ?_;clear K M; rintro _ a w ⟨MM, c10, rfl, M⟩ K;revert a;refine aI 6 ?_;refine aP (fun _ K => xS rfl lZ Pd nY K rfl (fV (C := (cI .u8)) 1 rfl rfl)) M ?_;exact bU 5 (M.pick [] aC)
  intro hb h;refine aI 5 ?_;refine aP (fun _ K => xS rfl lZ Pd nY K rfl (fV (C := (cI .u8)) 0 rfl rfl)) M ?_;exact bU 5 (M.pick [] aC)
 clear M h;rintro kk fuel ⟨l2, i, i2, i3⟩ a w hk1 ⟨A2, c2, K, M⟩ h;unfold Bq at h;revert a;refine dR 6 h ?_ ?_
 ·intro hb h;obtain ⟨e2, kA, h⟩ := aB h;refine aI 6 ?_;refine aP (fun _ K => f5 rfl eZ K rfl rfl (dA Ff) kA) M ?_;refine aP (fun _ K => fY rfl iN K rfl rfl (dA Ff) kA rfl) M ?_;refine jL 9 32 h ?_ ?_
  ·intro hb h;exact bU 21 (M.pick [] aC)
  intro hb h;obtain ⟨_, h0, h⟩ := aB h;have h0 := nS h0;refine aI 2 ?_;refine aP (fun _ K => pY rfl K rfl rfl h0) M ?_;refine dR 4 h ?_ ?_
  ·intro hb h;exact bU 13 (M.pick [] aC)
  intro hb h;obtain ⟨_, h0, h⟩ := aB h;have h0 := nS h0;refine aI 6 ?_;refine aP (fun _ K => pY rfl K rfl rfl h0) M ?_;refine aI 1 ?_;refine aP (fun _ K => F7 rfl K rfl rfl) M ?_;obtain ⟨x6, hx, h⟩ := gY h;refine rO 3 hx ?_;obtain ⟨x7, hx, h⟩ := gY h;refine rO 0 hx ?_;refine pT 4 2 (fun (⟨l5, i5⟩ : List Int × Int) a w => ∃ (A5 : Option Addr) (c5 : Nat), Kn a 75 [(1, I o), (6, .slice A5 l5.length c5), (7, I x6), (8, I i5), (24, .slice Lb d.length Lc), (25, I (d.length : Int)), (26, I i3), (33, I e2), (34, I o), (35, I (oG .i64 1 o)), (36, .bool (decide ((oG .i64 1 o) ≤ e2)))] ∧ Mem w0.heap.size w0 w [.row 5 1 A5 l5.length c5 ((cI .u8).all l5)]) M.oQ ?_ ?_
  ·clear M h;rintro ⟨l8, i6⟩ a w ⟨A8, c8, K, M⟩ h;try dsimp only at h
   revert a;obtain ⟨_, h0, h⟩ := aB h;have h0 := nS h0;refine aI 5 ?_;refine aP (fun _ K => pY rfl K rfl rfl h0) M ?_;obtain ⟨x10, hx, h⟩ := gY h;refine rO 2 hx ?_;exact lJ 8 (l8, x10, i6, IntKind.i64.wrap (i3 + 1)) M.oQ
  clear M h;rintro kk fuel ⟨l5, i5⟩ a w hk2 ⟨A5, c5, K, M⟩ h;unfold Bp at h;revert a;refine dR 7 h ?_ ?_
  ·intro hb h;obtain ⟨x9, hx, h⟩ := gY h;refine rO 7 hx ?_;obtain ⟨_, h0, h⟩ := aB h;have h0 := nS h0;refine aI 6 ?_;refine aP (fun _ K => nH rfl K rfl rfl h0) M ?_;refine aI 1 ?_;intro a K;refine iB K (a8 rfl lZ z5 K (vs := [(0, .int .u8 (IntKind.u8.wrap (iZ .i64 x6 x9)))]) (cs := [.int .u8 (IntKind.u8.wrap (iZ .i64 x6 x9))]) rfl aF rfl rfl M) ?_;have M0 := M; clear K M; rintro _ a w ⟨SO, rfl, M⟩ K;replace M := M.iF 0 rfl (cI .u8) ([IntKind.u8.wrap (iZ .i64 x6 x9)] : List Int) (n := 1) rfl rfl rfl;clear M0;obtain ⟨l7, uY, h⟩ := aB h;refine iB K (jK (C := (cI .u8)) (xs := l5) (ys := ([IntKind.u8.wrap (iZ .i64 x6 x9)] : List Int)) rfl lZ rfl z5 rfl rfl K rfl rfl 1 M rfl ((fV (C := (cI .u8)) 0 rfl rfl) _ M) uY) ?_;clear K M; rintro _ a w ⟨A7, c7, rfl, M⟩ K;revert a;exact lJ 4 (l7, x9) (M.pick [1] aC)
  intro hb h;exact lS 3 (hk2 (l5, i5)) M.oQ
 intro hb h;exact lS 3 (hk1 (l2, i, i2, i3)) M.oQ
theorem Fg {N : Nat} {n size : Int} {w0 : World} {r : List UInt8} (h : yE N n size = some r) :
  Calls Tryz.prog 169 #[I n, I size] w0 fun e w' => ∃ v, e = .returned v ∧ v = .string (bs r) ∧ Mem w0.heap.size w0 w' [] := by
 refine gE Tryz.func169 Tryz.ntmps169 ?_;intro M;unfold yE at h;obtain ⟨l2, sG, h⟩ := aB h;refine aI 8 ?_;intro a K;refine iB K (mX (C := (cI .u8)) (z := 0) rfl lZ rfl z5 rfl K rfl rfl M sG) ?_;clear K M; rintro _ a w ⟨A, c, rfl, M⟩ K;revert a;refine pT 12 0 (fun (⟨l3, i, i2⟩ : List Int × Int × Int) a w => Kn a 28 [(0, I n), (1, I size), (5, .slice A l3.length c), (10, I i), (11, I i2)] ∧ Mem w0.heap.size w0 w [.row 5 1 A l3.length c ((cI .u8).all l3)]) M.oQ ?_ ?_
 ·clear M h;rintro ⟨l6, i3, i4⟩ a w ⟨K, M⟩ h;try dsimp only at h
  revert a;refine aI 5 ?_;refine aP (fun _ K => xS rfl lZ Pd nY K rfl (fV (C := (cI .u8)) 0 rfl rfl)) M ?_;exact aZ 4 (M.pick [] aC)
 clear M h;rintro kk fuel ⟨l3, i, i2⟩ a w hk1 ⟨K, M⟩ h;unfold xN at h;revert a;refine dR 6 h ?_ ?_
 ·intro hb h;obtain ⟨_, h0, h⟩ := aB h;have h0 := nS h0;refine aI 18 ?_;refine aP (fun _ K => nH rfl K rfl rfl h0) M ?_;obtain ⟨b2, Q6, h⟩ := aB h;refine aI 1 ?_;refine aP (fun _ K => oX rfl nY K rfl rfl Q6) M ?_;obtain ⟨e2, kA, h⟩ := aB h;refine aP (fun _ K => f5 rfl lZ K rfl rfl (fV (C := (cI .u8)) 0 rfl rfl) kA) M ?_;obtain ⟨l5, uZ, h⟩ := aB h;intro a K;refine qG K (fO (el := (b2.toNat : Int)) rfl ZO rfl rfl K rfl rfl rfl 0 M rfl uZ) ?_;have M0 := M; clear K M; rintro _ a w M K;have hl := gP uZ;try rw [hl] at M
  try rw [hl] at K
  clear hl;clear M0;revert a;exact lJ 8 (l5, i, IntKind.i64.wrap (i2 + 1)) M.oQ
 intro hb h;exact lS 3 (hk1 (l3, i, i2)) M.oQ
theorem tS {N : Nat} {n size : Int} {w0 : World} {r : List UInt8 × Int} (h : pN N n size = some r) :
  Calls Tryz.prog 126 #[I n, I size] w0 fun e w' => ∃ v, e = .returned v ∧ v = .tuple #[.string (bs r.1), I r.2] ∧ Mem w0.heap.size w0 w' [] := by
 refine gE Tryz.func126 Tryz.ntmps126 ?_;intro M;unfold pN at h;refine jL 12 8 h ?_ ?_
 ·intro hb h;exact bU 24 (M.pick [] aC)
 intro hb h;refine jL 4 12 h ?_ ?_
 ·intro hb h;exact bU 20 (M.pick [] aC)
 intro hb h;refine jL 4 16 h ?_ ?_
 ·intro hb h;exact bU 16 (M.pick [] aC)
 intro hb h;obtain ⟨_, h0, h⟩ := aB h;have h0 := nS h0;refine aI 2 ?_;refine aP (fun _ K => pY rfl K rfl rfl h0) M ?_;refine dR 4 h ?_ ?_
 ·intro hb h;exact bU 8 (M.pick [] aC)
 intro hb h;obtain ⟨r2, dC, h⟩ := aB h;refine iC 6 (Fg dC) ?_;intro w M;exact bU 5 (M.pick [] aC)
theorem IY {N : Nat} {b : List UInt8} {w0 : World} {r : Bool} (h : Do N b = some r) :
  Calls Tryz.prog 170 #[.string (bs b)] w0 fun e w' => ∃ v, e = .returned v ∧ v = .bool r ∧ Mem w0.heap.size w0 w' [] := by
 refine gE Tryz.func170 Tryz.ntmps170 ?_;intro M;unfold Do at h;obtain ⟨r2, dC, h⟩ := aB h;refine iC 8 (IW N b ([48, 49] : List UInt8) _  r2 dC) ?_;intro w M;refine aP (fun _ K => t8 rfl K rfl rfl) M ?_;refine jL 1 6 h ?_ ?_
 ·intro hb h;obtain ⟨r3, iJ, h⟩ := aB h;refine iC 1 (DK N b ([48] : List UInt8) _  r3 iJ) ?_;intro w M;obtain ⟨r4, nN, h⟩ := aB h;refine iC 1 (DK N b ([49] : List UInt8) _  r4 nN) ?_;intro w M;refine aI 2 ?_;refine aP (fun _ K => gT rfl nY K rfl) M ?_;exact aZ 6 (M.pick [] aC)
 intro hb h;exact aZ 13 (M.pick [] aC)
theorem Gn {N : Nat} {b : List UInt8} {w0 : World} {r : List UInt8 × Int} (h : As N b = some r) :
  Calls Tryz.prog 127 #[.string (bs b)] w0 fun e w' => ∃ v, e = .returned v ∧ v = .tuple #[.string (bs r.1), I r.2] ∧ Mem w0.heap.size w0 w' [] := by
 refine gE Tryz.func127 Tryz.ntmps127 ?_;intro M;unfold As at h;obtain ⟨r2, dC, h⟩ := aB h;refine iC 10 (IY dC) ?_;intro w M;refine dR 3 h ?_ ?_
 ·intro hb h;exact bU 8 (M.pick [] aC)
 intro hb h;refine aI 5 ?_;refine aP (fun _ K => gT rfl nY K rfl) M ?_;obtain ⟨x2, hx, h⟩ := gY h;refine aI 1 ?_;refine aP (fun _ K => MD hx (iS rfl K rfl rfl aC)) M ?_;obtain ⟨l2, sG, h⟩ := aB h;intro a K;refine iB K (mX (C := (cI .u8)) (z := 0) rfl lZ rfl z5 rfl K rfl rfl M sG) ?_;clear K M; rintro _ a w ⟨A, c, rfl, M⟩ K;revert a;refine aI 7 ?_;refine aP (fun _ K => gT rfl nY K rfl) M ?_;refine pT 4 0 (fun (⟨l3, i⟩ : List Int × Int) a w => Kn a 37 [(0, .string (bs b)), (4, .slice A l3.length c), (15, I (b.length : Int)), (16, I i)] ∧ Mem w0.heap.size w0 w [.row 5 1 A l3.length c ((cI .u8).all l3)]) M.oQ ?_ ?_
 ·clear M h;rintro ⟨l6, i2⟩ a w ⟨K, M⟩ h;try dsimp only at h
  revert a;refine aI 5 ?_;refine aP (fun _ K => xS rfl lZ Pd nY K rfl (fV (C := (cI .u8)) 0 rfl rfl)) M ?_;exact bU 5 (M.pick [] aC)
 clear M h;rintro kk fuel ⟨l3, i⟩ a w hk1 ⟨K, M⟩ h;unfold zH at h;revert a;refine dR 6 h ?_ ?_
 ·intro hb h;refine aI 10 ?_;intro a K;refine aM (fun w => Mem _ _ w _) [0,0,0,0,0,0,0,0,0,0,0,0,0,0,0,2] aF aF M.drew ?_;replace M := M.drew;revert a;obtain ⟨x4, hx, h⟩ := gY h;refine aI 2 ?_;refine fU (fun _ K => MD hx (iS rfl K rfl rfl aC)) ?_;obtain ⟨e3, lH, h⟩ := aB h;refine fU (fun _ K => fA rfl lZ K rfl rfl ((fV (C := (cI .u8)) 0 rfl rfl) _ M) lH) ?_;refine fU (fun _ K => fY rfl XP K rfl rfl (fV (C := (cI .u8)) 0 rfl rfl) lH rfl) ?_;obtain ⟨b3, Ld, h⟩ := aB h;refine aI 2 ?_;refine fU (fun _ K => oX rfl nY K rfl rfl Ld) ?_;refine aI 2 ?_;refine fU (fun _ K => oI rfl K rfl rfl aC) ?_;obtain ⟨_, h0, h⟩ := aB h;have h0 := nS h0;refine aI 1 ?_;refine fU (fun _ K => pY rfl K rfl rfl h0) ?_;refine fU (fun _ K => F7 rfl K rfl rfl) ?_;obtain ⟨e4, pQ, h⟩ := aB h;refine fU (fun _ K => fA rfl lZ K rfl rfl ((fV (C := (cI .u8)) 0 rfl rfl) _ M) pQ) ?_;obtain ⟨l5, uZ, h⟩ := aB h;intro a K;refine CC K (fO (el := FY .u8 e3 (oG .u8 (IntKind.u8.wrap ((b3.toNat : Int) - 48)) (IntKind.i64.wrap (7 - (Int.tmod i 8))))) rfl ZO rfl rfl K rfl rfl rfl 0 M rfl uZ) ?_;have M0 := M; clear K M; rintro _ a w M K;have hl := gP uZ;try rw [hl] at M
  try rw [hl] at K
  clear hl;clear M0;revert a;exact lJ 8 (l5, IntKind.i64.wrap (i + 1)) M.oQ
 intro hb h;exact lS 3 (hk1 (l3, i)) M.oQ
theorem Jv {N : Nat} {d : List UInt8} {o p2 : Int} {w0 : World} {r : List Int × Int} (h : Cs N d o p2 = some r) :
  Calls Tryz.prog 145 #[.string (bs d), I o, I p2] w0 fun e w' => ∃ v, e = .returned v ∧ ∃ A0 c0, v = .tuple #[.slice A0 r.1.length c0, I r.2] ∧ Mem w0.heap.size w0 w' [.row 3 1 A0 r.1.length c0 ((cI .i64).all r.1)] := by
 refine gE Tryz.func145 Tryz.ntmps145 ?_;intro M;unfold Cs at h;obtain ⟨r2, dC, h⟩ := aB h;refine iC 10 (Fe dC) ?_;intro w M;refine jL 2 15 h ?_ ?_
 ·intro hb h;exact bU 14 (((Mem.aE 3 1 (cI .i64) M)).pick [0] aC)
 intro hb h;refine dR 5 h ?_ ?_
 ·intro hb h;exact bU 8 (((Mem.aE 3 1 (cI .i64) M)).pick [0] aC)
 intro hb h;refine dR 9 h ?_ ?_
 ·intro hb h;exact bU 8 (((Mem.aE 3 1 (cI .i64) M)).pick [0] aC)
 intro hb h;refine aI 6 ?_;refine aP (fun _ K => gT rfl nY K rfl) M ?_;refine aI 4 ?_;refine aP (fun _ K => iS rfl K rfl rfl aC) M ?_;refine dR 3 h ?_ ?_
 ·intro hb h;exact bU 8 (((Mem.aE 3 1 (cI .i64) M)).pick [0] aC)
 intro hb h;refine aI 17 ?_;refine aP (fun _ K => gT rfl nY K rfl) M ?_;refine aI 4 ?_;replace M := Mem.aE 3 1 (cI .i64) M;refine pT 0 0 (fun (⟨l5, i3, i4, i5⟩ : List Int × Int × Int × Int) a w => ∃ (A4 : Option Addr) (c4 : Nat), Kn a 70 [(0, .string (bs d)), (1, I o), (2, I p2), (8, .slice A4 l5.length c4), (9, I i3), (10, I i4), (30, I (d.length : Int)), (31, I i5)] ∧ Mem w0.heap.size w0 w [.row 3 1 A4 l5.length c4 ((cI .i64).all l5)]) M.oQ ?_ ?_
 ·clear M h;rintro ⟨UK, i12, Hg, Pu⟩ a w ⟨RT, c11, K, M⟩ h;try dsimp only at h
  revert a;refine dR 9 h ?_ ?_
  ·intro hb h;exact bU 8 (((Mem.aE 3 1 (cI .i64) M)).pick [0] aC)
  intro hb h;exact bU 10 (M.pick [0] aC)
 clear M h;rintro kk fuel ⟨l5, i3, i4, i5⟩ a w hk1 ⟨A4, c4, K, M⟩ h;unfold xP at h;revert a;refine dR 6 h ?_ ?_
 ·intro hb h;refine aI 13 ?_;refine aP (fun _ K => pY rfl K rfl rfl aC) M ?_;obtain ⟨b3, Ld, h⟩ := aB h;refine aI 2 ?_;refine aP (fun _ K => oX rfl nY K rfl rfl Ld) M ?_;refine aI 1 ?_;refine aP (fun _ K => F7 rfl K rfl rfl) M ?_;obtain ⟨ER, hx, h⟩ := gY h;refine rO 2 hx ?_;obtain ⟨Si, hx, h⟩ := gY h;refine rO 0 hx ?_;refine pT 3 2 (fun (⟨l8, i8, i9⟩ : List Int × Int × Int) a w => ∃ (A7 : Option Addr) (c7 : Nat), Kn a 70 [(0, .string (bs d)), (1, I o), (2, I p2), (8, .slice A7 l8.length c7), (9, I i8), (10, I i9), (30, I (d.length : Int)), (31, I i5)] ∧ Mem w0.heap.size w0 w [.row 3 1 A7 l8.length c7 ((cI .i64).all l8)]) M.oQ ?_ ?_
  ·clear M h;rintro ⟨Ln, w5, i11⟩ a w ⟨MM, c10, K, M⟩ h;try dsimp only at h
   revert a;exact lJ 8 (Ln, w5, i11, IntKind.i64.wrap (i5 + 1)) M.oQ
  clear M h;rintro kk fuel ⟨l8, i8, i9⟩ a w hk2 ⟨A7, c7, K, M⟩ h;unfold xO at h;revert a;refine jL 7 46 h ?_ ?_
  ·intro hb h;refine dR 7 h ?_ ?_
   ·intro hb h;obtain ⟨Jr, hx, h⟩ := gY h;refine rO 8 hx ?_;obtain ⟨_, h0, h⟩ := aB h;have h0 := nS h0;refine aI 7 ?_;refine aP (fun _ K => nH rfl K rfl rfl h0) M ?_;intro a K;refine iB K (a8 rfl eZ z3 K (vs := [(0, I (iZ .i64 i8 Jr))]) (cs := [I (iZ .i64 i8 Jr)]) rfl aF rfl rfl M) ?_;have M0 := M; clear K M; rintro _ a w ⟨Tp, rfl, M⟩ K;replace M := M.iF 0 rfl (cI .i64) ([iZ .i64 i8 Jr] : List Int) (n := 1) rfl rfl rfl;clear M0;obtain ⟨l10, IX, h⟩ := aB h;refine iB K (jK (C := (cI .i64)) (xs := l8) (ys := ([iZ .i64 i8 Jr] : List Int)) rfl eZ rfl z3 rfl rfl K rfl rfl 1 M rfl ((fV (C := (cI .i64)) 0 rfl rfl) _ M) IX) ?_;clear K M; rintro _ a w ⟨A9, c9, rfl, M⟩ K;revert a;obtain ⟨_, h0, h⟩ := aB h;have h0 := nS h0;refine aI 6 ?_;refine aP (fun _ K => pY rfl K rfl rfl h0) M ?_;obtain ⟨Nh, hx, h⟩ := gY h;refine rO 2 hx ?_;exact lJ 3 (l10, Nh, Jr) (M.pick [1] aC)
   intro hb h;exact lS 3 (hk2 (l8, i8, i9)) M.oQ
  intro hb h;exact lS 11 (hk2 (l8, i8, i9)) M.oQ
 intro hb h;exact lS 3 (hk1 (l5, i3, i4, i5)) M.oQ
theorem HY {N : Nat} {s : List UInt8} {w0 : World} {r : List UInt8} (h : B5 N s = some r) :
  Calls Tryz.prog 177 #[.string (bs s)] w0 fun e w' => ∃ v, e = .returned v ∧ v = .string (bs r) ∧ Mem w0.heap.size w0 w' [] := by
 refine gE Tryz.func177 Tryz.ntmps177 ?_;intro M;unfold B5 at h;refine aI 7 ?_;intro a K;refine iB K (eK rfl (show iA Tryz.prog 148 = some [.pointer none, .slice none 0 0] by kernel_rfl) M) ?_;have M0 := M; clear K M; rintro _ a w ⟨RU, rfl, M⟩ K;replace M := Mem.Qp 5 M;clear M0;revert a;refine pT 9 0 (fun (⟨l2, i⟩ : List UInt8 × Int) a w => ∃ (A : Option Addr) (c : Nat), Kn a 18 [(0, .string (bs s)), (3, .pointer (some ⟨RU, 0, none⟩)), (4, I i)] ∧ Mem w0.heap.size w0 w [.row 5 1 A l2.length c ((cI .u8).all (lL l2)), .Cd RU 148 A l2.length c]) (M.pick [0,1] aC) ?_ ?_
 ·clear M h;rintro ⟨l3, i4⟩ a w ⟨A4, c4, K, M⟩ h;try dsimp only at h
  revert a;refine aI 4 ?_;intro a K;refine iB K (dH (vs := [.pointer (some ⟨RU, 0, none⟩)]) (cap := []) rfl L0 K rfl rfl (Av (show Mem _ _ _ [.Cd RU 148 A4 l3.length c4, .row 5 1 A4 l3.length c4 ((cI .u8).all (lL l3))] from M.pick [1,0] aC))) ?_;clear K M; rintro _ a w ⟨rfl, M⟩ K;revert a;exact aZ 4 (M.pick [] aC)
 clear M h;rintro kk fuel ⟨l2, i⟩ a w hk1 ⟨A, c, K, M⟩ h;unfold Bu at h;revert a;refine aI 5 ?_;refine aP (fun _ K => gT rfl nY K rfl) M ?_;refine dR 3 h ?_ ?_
 ·intro hb h;obtain ⟨b3, Ld, h⟩ := aB h;refine aI 7 ?_;refine aP (fun _ K => oX rfl nY K rfl rfl Ld) M ?_;obtain ⟨r3, iJ, h⟩ := aB h;refine iC 1 (Fg iJ) ?_;intro w M;obtain ⟨b4, U8, h⟩ := aB h;intro a K;refine iB K (dH (vs := [.pointer (some ⟨RU, 0, none⟩), .string (bs r3)]) (cap := []) rfl Fc K rfl rfl (pD (show Mem _ _ _ [.Cd RU 148 A l2.length c, .row 5 1 A l2.length c ((cI .u8).all (lL l2))] from M.pick [1,0] aC) U8)) ?_;clear K M; rintro _ a w ⟨A3, c3, M⟩ K;revert a;obtain ⟨i3, hx, h⟩ := gY h;refine rO 6 hx ?_;exact lJ 2 (b4, i3) (M.pick [1,0] aC)
 intro hb h;exact lS 3 (hk1 (l2, i)) (M.pick [0,1] aC)
theorem Le {N : Nat} {b : List UInt8} {w0 : World} {r : Int × Int} (h : Dq N b = some r) :
  Calls Tryz.prog 179 #[.string (bs b)] w0 fun e w' => ∃ v, e = .returned v ∧ v = .tuple #[I r.1, I r.2] ∧ Mem w0.heap.size w0 w' [] := by
 refine gE Tryz.func179 Tryz.ntmps179 ?_;intro M;unfold Dq at h;obtain ⟨r2, dC, h⟩ := aB h;refine iC 10 (IY dC) ?_;intro w M;refine dR 3 h ?_ ?_
 ·intro hb h;exact bU 8 (M.pick [] aC)
 intro hb h;refine aI 6 ?_;refine aP (fun _ K => gT rfl nY K rfl) M ?_;refine dR 3 h ?_ ?_
 ·intro hb h;exact bU 8 (M.pick [] aC)
 intro hb h;refine aI 11 ?_;refine aP (fun _ K => gT rfl nY K rfl) M ?_;refine pT 4 0 (fun (⟨n, i⟩ : Int × Int) a w => Kn a 27 [(0, .string (bs b)), (4, I n), (13, I (b.length : Int)), (14, I i)] ∧ Mem w0.heap.size w0 w []) M.nQ ?_ ?_
 ·clear M h;rintro ⟨n4, i2⟩ a w ⟨K, M⟩ h;try dsimp only at h
  revert a;exact bU 10 (M.pick [] aC)
 clear M h;rintro kk fuel ⟨n, i⟩ a w hk1 ⟨K, M⟩ h;unfold zI at h;revert a;refine dR 6 h ?_ ?_
 ·intro hb h;refine aI 12 ?_;refine aP (fun _ K => pY rfl K rfl rfl aC) M ?_;obtain ⟨b3, Ld, h⟩ := aB h;refine aI 2 ?_;refine aP (fun _ K => oX rfl nY K rfl rfl Ld) M ?_;obtain ⟨n3, hx, h⟩ := gY h;refine rO 3 hx ?_;exact lJ 8 (n3, IntKind.i64.wrap (i + 1)) M.nQ
 intro hb h;exact lS 3 (hk1 (n, i)) M.nQ
theorem DL {N : Nat} {x2 : Int} {w0 : World} {r : Bool} (h : tZ N x2 = some r) :
  Calls Tryz.prog 194 #[I x2] w0 fun e w' => ∃ v, e = .returned v ∧ v = .bool r ∧ Mem w0.heap.size w0 w' [] := by
 refine gE Tryz.func194 Tryz.ntmps194 ?_;intro M;unfold tZ at h;exact aZ 14 (M.pick [] aC)
theorem Gp {N : Nat} {x2 y : Int} {w0 : World} {r : Int} (h : vS N x2 y = some r) :
  Calls Tryz.prog 166 #[I x2, I y] w0 fun e w' => ∃ v, e = .returned v ∧ v = I r ∧ Mem w0.heap.size w0 w' [] := by
 refine gE Tryz.func166 Tryz.ntmps166 ?_;intro M;unfold vS at h;obtain ⟨r2, dC, h⟩ := aB h;refine iC 8 (DL dC) ?_;intro w M;obtain ⟨r3, iJ, h⟩ := aB h;refine iC 6 (DL iJ) ?_;intro w M;refine dR 9 h ?_ ?_
 ·intro hb h;refine dR 6 h ?_ ?_
  ·intro hb h;exact aZ 8 (M.pick [] aC)
  intro hb h;exact aZ 9 (M.pick [] aC)
 intro hb h;refine dR 8 h ?_ ?_
 ·intro hb h;exact aZ 7 (M.pick [] aC)
 intro hb h;refine dR 10 h ?_ ?_
 ·intro hb h;exact aZ 7 (M.pick [] aC)
 intro hb h;refine dR 10 h ?_ ?_
 ·intro hb h;exact aZ 7 (M.pick [] aC)
 intro hb h;exact aZ 8 (M.pick [] aC)
end
end Go.Proofs.YtpmnfhifmmfglacGreatDoor
