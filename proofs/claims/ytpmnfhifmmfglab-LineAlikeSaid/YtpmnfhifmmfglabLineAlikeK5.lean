/- Texts of the claim LineAlike, joined: ORepair, HRepair, WMosaic. -/
import Derived.Test.YtpmnfhifmmfglabLineAlikeK1
import Derived.Test.YtpmnfhifmmfglabLineAlikeK2
import Derived.Test.YtpmnfhifmmfglabLineAlikeK4
set_option linter.unusedVariables false
set_option linter.unusedSimpArgs false
set_option linter.unusedSectionVars false
namespace Go.Proofs.Ytpmnfhifmmfglab
open Go.RowKit Go.ChangeMaps
/-- A slice of spots (or points): two cells an element. -/
def RS (w : World) (B : Nat) (A : Option Addr) (n : Nat) (l : List (Int × Int)) : Prop :=
  l.length = n ∧ (0 < n → ∃ b o, A = some ⟨b, o, none⟩ ∧ B ≤ b ∧ b < w.heap.size ∧ ∀ (k : Nat) x y, l[k]? = some (x, y) → w.cell? ⟨b, o + k * 2, none⟩ = some (.int .i64 x) ∧ w.cell? ⟨b, o + k * 2 + 1, none⟩ = some (.int .i64 y))
theorem RS.below {w w' : World} {B B' n : Nat} {A : Option Addr} {l : List (Int × Int)} (h : RS w B A n l) (hb : Below B' w w') (hB : w.heap.size ≤ B') : RS w' B A n l :=
  ⟨h.1, fun hn => by
    obtain ⟨b, o, hA, h1, h2, hc⟩ := h.2 hn
    refine ⟨b, o, hA, h1, Nat.lt_of_lt_of_le h2 hb.size, fun k x y hu => ?_⟩
    obtain ⟨c1, c2⟩ := hc k x y hu
    exact ⟨(hb.cell (p := ⟨b, o + k * 2, none⟩) (by show b < B'; omega)).trans c1, (hb.cell (p := ⟨b, o + k * 2 + 1, none⟩) (by show b < B'; omega)).trans c2⟩⟩
theorem RS.at_ {w : World} {B n : Nat} {A : Option Addr} {l : List (Int × Int)} (h : RS w B A n l) (k : Nat) (hk : k < n) :
    ∃ b o x y, A = some ⟨b, o, none⟩ ∧ b < w.heap.size ∧ l[k]? = some (x, y) ∧ w.cell? ⟨b, o + k * 2, none⟩ = some (.int .i64 x) ∧ w.cell? ⟨b, o + k * 2 + 1, none⟩ = some (.int .i64 y) := by
  obtain ⟨b, o, hA, _, hb, hc⟩ := h.2 (by omega)
  have hl : k < l.length := by rw [h.1]; exact hk
  have e : l[k]? = some (l[k].1, l[k].2) := List.getElem?_eq_getElem hl
  obtain ⟨c1, c2⟩ := hc k _ _ e
  exact ⟨b, o, _, _, hA, hb, e, c1, c2⟩
theorem RS.nil {w : World} {B : Nat} {A : Option Addr} : RS w B A 0 [] := ⟨rfl, fun h => absurd h (by omega)⟩
theorem cntF_bd (l : List (Int × Int)) (x y : Int) : 0 ≤ cntF l x y ∧ cntF l x y ≤ l.length := by
  have := List.count_le_length (a := (x, y)) (l := l)
  unfold cntF; omega
theorem cntF_succ {l : List (Int × Int)} {k : Nat} {x y : Int} (h : l[k]? = some (x, y)) : cntF (l.take (k+1)) = bumpF (cntF (l.take k)) x y (cntF (l.take k) x y + 1) := by
  funext a b
  unfold bumpF cntF
  rw [List.take_add_one, h, List.count_append]
  by_cases hab : a = x ∧ b = y
  · obtain ⟨rfl, rfl⟩ := hab
    simp
  · rw [if_neg hab]
    have : (x, y) ≠ (a, b) := by intro e; injection e with e1 e2; exact hab ⟨e1.symm, e2.symm⟩
    simp [this]
theorem heapB_other {w : World} {b i : Nat} (o : Obj) (h : i ≠ b) : (setBlock w b o).heap[i]? = w.heap[i]? := by
  simp [setBlock, Array.getElem?_setIfInBounds_ne (Ne.symm h)]
theorem heapB_same {w : World} {b : Nat} (o : Obj) (h : b < w.heap.size) : (setBlock w b o).heap[b]? = some o := by
  simp [setBlock, h]
theorem below_setBlock {B : Nat} {a w : World} (h : Below B a w) {b : Nat} (hb : B ≤ b) (o : Obj) : Below B a (setBlock w b o) :=
  h.trans ⟨rfl, rfl, rfl, by simp [setBlock], fun k hk => heapB_other o (by omega)⟩
theorem cellB {w : World} {b : Nat} (o : Obj) {a : Addr} {v : Value} (h : a.block ≠ b) (hc : w.cell? a = some v) : (setBlock w b o).cell? a = some v :=
  (World.cell?_of_block (heapB_other o h)).trans hc
theorem Blk.setB {w : World} {g : Nat} {t : TypeId} {cs : Array Value} (h : Blk w g t cs) {b : Nat} (hb : g ≠ b) (o : Obj) : Blk (setBlock w b o) g t cs := (heapB_other o hb).trans h
theorem cf_repair1 (args : Array Value) (wx : World) : (callFunc 72 args).run Try.prog wx = .ok (.enter 72 args) wx := by kernel_rfl
/-- What Repair comes to where the plane is right and the spots are not too many. -/
def RepairPost (m : Nat) (H : Int) (n : Nat) (l : List (Int × Int)) (xs : List Int) (w : World) (e : Ending) (w' : World) : Prop :=
  if l.all (spotOk m H) = true then ∃ A' c', e = .returned (.tuple #[.agg #[.int .i64 m, .int .i64 H, .slice A' n c'], .int .i64 0]) ∧ (RI w' w.heap.size A' n ((List.range n).map (repairL m H l xs)) ∧ OI w' w.heap.size A' n c' ((List.range n).map (repairL m H l xs))) ∧ Below w.heap.size w w'
  else e = .returned (.tuple #[noPlane, .int .i64 3]) ∧ Below w.heap.size w w'
theorem RepairPost.no {m : Nat} {H : Int} {n : Nat} {l : List (Int × Int)} {xs : List Int} {w w' : World} (h : l.all (spotOk m H) = false) (hb : Below w.heap.size w w') : RepairPost m H n l xs w (.returned (.tuple #[noPlane, .int .i64 3])) w' := by
  unfold RepairPost
  rw [if_neg (by rw [h]; exact Bool.false_ne_true)]
  exact ⟨rfl, hb⟩
theorem RepairPost.yes {m : Nat} {H : Int} {n : Nat} {l : List (Int × Int)} {xs : List Int} {w w' : World} {A' : Option Addr} {c' : Nat} (h : l.all (spotOk m H) = true) (hr : RI w' w.heap.size A' n ((List.range n).map (repairL m H l xs))) (ho : OI w' w.heap.size A' n c' ((List.range n).map (repairL m H l xs))) (hb : Below w.heap.size w w') :
    RepairPost m H n l xs w (.returned (.tuple #[.agg #[.int .i64 m, .int .i64 H, .slice A' n c'], .int .i64 0])) w' := by
  unfold RepairPost
  rw [if_pos h]
  exact ⟨A', c', rfl, ⟨hr, ho⟩, hb⟩
section
variable (W H : Int) (A A2 : Option Addr) (n c n2 c2 : Nat) (xs : List Int) (l : List (Int × Int)) (w : World)
set_option maxHeartbeats 400000 in
theorem repair_form (h : RI w 0 A n xs) (hs : RS w 0 A2 n2 l) (hn : n ≤ maxLen) (hf : planeFine W H xs = false) :
    Calls Try.prog 53 #[.agg #[.int .i64 W, .int .i64 H, .slice A n c], .slice A2 n2 c2] w fun e w' =>
      e = .returned (.tuple #[noPlane, .int .i64 1]) ∧ Below w.heap.size w w' := by
  have HR := Lib.hid h
  have HS := Lib.hid hs
  have HF := Lib.hid hf
  have HN := Lib.hid hn
  clear h hs hf hn
  have hmm := @run_makeMap Try.prog
  go_enter Try.func53, Try.ntmps53
  go_wp2_with fail
  refine (fine_any _ _ _ _ _ _ _ (HR.out.below (B' := w.heap.size) (by go_grown) (Nat.le_refl _)) HN.out).mono ?_
  rintro e w1 ⟨rfl, hb⟩
  rw [HF.out]
  have r := (show Blk w1 (w.heap.size+1) 45 #[.int .i64 0, .int .i64 0, .slice none 0 0] from (Blk.newAt (by simp)).below hb (by simp))
  have p := (show Blk w1 w.heap.size 45 #[.int .i64 W, .int .i64 H, .slice A n c] from ((Blk.newAt (by simp)).alloc _).below hb (by simp <;> omega))
  obtain ⟨r0, r1, r2⟩ := r.c3
  obtain ⟨f0, f1, f2⟩ := r.f3
  obtain ⟨p0, p1, p2⟩ := p.c3
  have KR := Lib.hid r
  have KP := Lib.hid p
  have hB : Hid (Below w.heap.size w w1) := (show Below w.heap.size w _ by go_grown).trans (hb.mono (by simp <;> omega))
  have hsz : w.heap.size + 2 ≤ w1.heap.size := by have := hb.size; simp at this; omega
  clear r p hb
  clear HS
  go_wp2
  exact bodyPost_ret (results_row_tmp rfl _ _ (w.heap.size+1) 45 _ _ (by rfl) (((KR.out.set_ 0 _ rfl).set_ 1 _ rfl).set_ 2 _ rfl) Try.underlying45 rfl (by kernel_rfl)) rfl ⟨rfl, ((hB.out.setCell (by simp <;> omega) _).setCell (by simp <;> omega) _).setCell (by simp <;> omega) _⟩
set_option maxHeartbeats 400000 in
theorem repair_many (h : RI w 0 A n xs) (hs : RS w 0 A2 n2 l) (hn : n ≤ maxLen) (hf : planeFine W H xs = true) (hm : 64 < n2) :
    Calls Try.prog 53 #[.agg #[.int .i64 W, .int .i64 H, .slice A n c], .slice A2 n2 c2] w fun e w' =>
      e = .returned (.tuple #[noPlane, .int .i64 2]) ∧ Below w.heap.size w w' := by
  have HR := Lib.hid h
  have HS := Lib.hid hs
  have HF := Lib.hid hf
  have HN := Lib.hid hn
  clear h hs hf hn
  have hmm := @run_makeMap Try.prog
  go_enter Try.func53, Try.ntmps53
  go_wp2_with fail
  refine (fine_any _ _ _ _ _ _ _ (HR.out.below (B' := w.heap.size) (by go_grown) (Nat.le_refl _)) HN.out).mono ?_
  rintro e w1 ⟨rfl, hb⟩
  rw [HF.out]
  have r := (show Blk w1 (w.heap.size+1) 45 #[.int .i64 0, .int .i64 0, .slice none 0 0] from (Blk.newAt (by simp)).below hb (by simp))
  have p := (show Blk w1 w.heap.size 45 #[.int .i64 W, .int .i64 H, .slice A n c] from ((Blk.newAt (by simp)).alloc _).below hb (by simp <;> omega))
  obtain ⟨r0, r1, r2⟩ := r.c3
  obtain ⟨f0, f1, f2⟩ := r.f3
  obtain ⟨p0, p1, p2⟩ := p.c3
  have KR := Lib.hid r
  have KP := Lib.hid p
  have hB : Hid (Below w.heap.size w w1) := (show Below w.heap.size w _ by go_grown).trans (hb.mono (by simp <;> omega))
  have hsz : w.heap.size + 2 ≤ w1.heap.size := by have := hb.size; simp at this; omega
  clear r p hb
  clear HS
  go_wp2
  exact bodyPost_ret (results_row_tmp rfl _ _ (w.heap.size+1) 45 _ _ (by rfl) (((KR.out.set_ 0 _ rfl).set_ 1 _ rfl).set_ 2 _ rfl) Try.underlying45 rfl (by kernel_rfl)) rfl ⟨rfl, ((hB.out.setCell (by simp <;> omega) _).setCell (by simp <;> omega) _).setCell (by simp <;> omega) _⟩
set_option maxRecDepth 100000 in
set_option maxHeartbeats 800000 in
theorem repair_rest (m : Nat) (h : RI w 0 A n xs) (hs : RS w 0 A2 n2 l) (hn : n ≤ maxLen) (hf : planeFine m H xs = true) (hm : n2 ≤ 64) :
    Calls Try.prog 53 #[.agg #[.int .i64 m, .int .i64 H, .slice A n c], .slice A2 n2 c2] w fun e w' =>
      RepairPost m H n l xs w e w' := by
  obtain ⟨hside, hlen, hall⟩ := planeFine_iff.1 hf
  have HSD := Lib.hid hside
  have hmm1 : 1 ≤ m ∧ m ≤ 64 ∧ 1 ≤ H ∧ H ≤ 64 := by unfold sideOk at hside; omega
  have HLN := Lib.hid hlen
  have HAL := Lib.hid hall
  clear hside hlen hall
  have HR := Lib.hid h
  have HS := Lib.hid hs
  have HF := Lib.hid hf
  have HN := Lib.hid hn
  clear h hs hf hn
  have hmm := @run_makeMap Try.prog
  go_enter Try.func53, Try.ntmps53
  go_wp2_with fail
  refine (fine_any _ _ _ _ _ _ _ (HR.out.below (B' := w.heap.size) (by go_grown) (Nat.le_refl _)) HN.out).mono ?_
  rintro e w1 ⟨rfl, hb⟩
  rw [HF.out]
  have r := (show Blk w1 (w.heap.size+1) 45 #[.int .i64 0, .int .i64 0, .slice none 0 0] from (Blk.newAt (by simp)).below hb (by simp))
  have p := (show Blk w1 w.heap.size 45 #[.int .i64 m, .int .i64 H, .slice A n c] from ((Blk.newAt (by simp)).alloc _).below hb (by simp <;> omega))
  obtain ⟨r0, r1, r2⟩ := r.c3
  obtain ⟨f0, f1, f2⟩ := r.f3
  obtain ⟨p0, p1, p2⟩ := p.c3
  have KR := Lib.hid r
  have KP := Lib.hid p
  have hB : Hid (Below w.heap.size w w1) := (show Below w.heap.size w _ by go_grown).trans (hb.mono (by simp <;> omega))
  have hsz : w.heap.size + 2 ≤ w1.heap.size := by have := hb.size; simp at this; omega
  clear r p hb
  go_wp2_with fail
  go_loopw [20] (fun i wr => ∃ k : Nat, k ≤ n2 ∧ i = .int .i64 k ∧ Blk wr w.heap.size 45 #[.int .i64 m, .int .i64 H, .slice A n c] ∧ Blk wr (w.heap.size+1) 45 #[.int .i64 0, .int .i64 0, .slice none 0 0] ∧
    Blk wr (w1.heap.size+1) 113 #[.map (some w1.heap.size)] ∧ MapC wr w1.heap.size k (cntF (l.take k)) ∧ (l.take k).all (spotOk m H) = true ∧ Below w.heap.size w wr ∧ w1.heap.size + 2 ≤ wr.heap.size) (fun i _ => n2 - (intOf i).toNat)
  case atStart =>
    refine ⟨0, Nat.zero_le _, rfl, (KP.out.alloc _).alloc _, (KR.out.alloc _).alloc _, Blk.newAt (by simp), ?_, rfl, (hB.out.alloc (by omega) _).alloc (by simp; omega) _, by simp⟩
    have e : cntF (l.take 0) = fun _ _ => 0 := by funext a b; simp [cntF]
    rw [e]
    exact (MapC.made w1).alloc _
  case round =>
    clear p0 p1 p2 r0 r1 r2 f0 f1 f2
    obtain ⟨k, hk, rfl, q0, q1, q2, q3, hal, hbel, hsz2⟩ := hrel
    obtain ⟨p0, p1, p2⟩ := q0.c3
    obtain ⟨r0, r1, r2⟩ := q1.c3
    obtain ⟨f0, f1, f2⟩ := q1.f3
    obtain ⟨m0, _⟩ := q2.c1
    have Q0 := Lib.hid q0
    have Q1 := Lib.hid q1
    have Q2 := Lib.hid q2
    have Q3 := Lib.hid q3
    have HA := Lib.hid hal
    have HB := Lib.hid hbel
    by_cases hlt : k < n2
    · obtain ⟨b, o, x, y, rfl, hbs, hxy, d0, d1⟩ := HS.out.at_ k hlt
      have d0' := (hbel.cell (p := ⟨b, o + k * 2, none⟩) hbs).trans d0
      have d1' := (hbel.cell (p := ⟨b, o + k * 2 + 1, none⟩) hbs).trans d1
      have hbl : b < wr.heap.size := Nat.lt_of_lt_of_le hbs hbel.size
      have HXY := Lib.hid hxy
      have z0 : w.heap.size < wr.heap.size := by omega
      have z1 : w.heap.size + 1 < wr.heap.size := by omega
      have z2 : w1.heap.size < wr.heap.size := by omega
      have z3 : w1.heap.size + 1 < wr.heap.size := by omega
      clear q0 q1 q2 q3 hal hbel d0 d1 hxy
      by_cases hok : 0 ≤ x ∧ x < m ∧ 0 ≤ y ∧ y < H
      · have HYO : Hid (spotOk m H (x, y) = true) := by show _ = _; simp [spotOk, hok]
        obtain ⟨o1, o2, o3, o4⟩ := hok
        have hcb := cntF_bd (l.take k) x y
        have hcl : (l.take k).length ≤ k := List.length_take_le _ _
        obtain ⟨v0, st, ob1, hE, hL, hSt⟩ := MapC.bump (w := (wr.alloc (.cells #[.int .i64 x, .int .i64 y] 106)).drew) ((Q3.out.alloc _).drew) x y (by unfold wfI; omega) (by unfold wfI; omega)
        have hL0 := MapC.lookup (w := (wr.alloc (.cells #[.int .i64 x, .int .i64 y] 106)).drew) ((Q3.out.alloc _).drew) x y (by unfold wfI; omega) (by unfold wfI; omega)
        unfold spotV at hE hL hL0
        have HE := Lib.hid hE
        have HL := Lib.hid hL
        have HL0 := Lib.hid hL0
        have HST := Lib.hid hSt
        clear hE hL hL0 hSt
        have ew : IntKind.i64.wrap (cntF (l.take k) x y + 1) = cntF (l.take k) x y + 1 := IntWalk.i64_in _ (by omega)
        go_wp2_with fail
        have lt1 : w1.heap.size < (wr.alloc (.cells #[.int .i64 x, .int .i64 y] 106)).drew.heap.size := by simp; omega
        have M1 : ∀ w', (w' = (wr.alloc (.cells #[.int .i64 x, .int .i64 y] 106)).drew ∨ w' = setBlock (wr.alloc (.cells #[.int .i64 x, .int .i64 y] 106)).drew w1.heap.size ob1) → w'.cell? ⟨w1.heap.size + 1, 0, none⟩ = some (.map (some w1.heap.size)) := by
          rintro w' (rfl | rfl)
          · exact cell_al m0
          · exact cellB _ (by simp) (cell_al m0)
        have M2 : ∀ w', (w' = (wr.alloc (.cells #[.int .i64 x, .int .i64 y] 106)).drew ∨ w' = setBlock (wr.alloc (.cells #[.int .i64 x, .int .i64 y] 106)).drew w1.heap.size ob1) → w'.cell? ⟨wr.heap.size, 0, none⟩ = some (.int .i64 x) := by
          rintro w' (rfl | rfl)
          · exact (Blk.new wr 106 #[.int .i64 x, .int .i64 y]).c2.1
          · exact cellB _ (by simp; omega) (Blk.new wr 106 #[.int .i64 x, .int .i64 y]).c2.1
        have M3 : ∀ w', (w' = (wr.alloc (.cells #[.int .i64 x, .int .i64 y] 106)).drew ∨ w' = setBlock (wr.alloc (.cells #[.int .i64 x, .int .i64 y] 106)).drew w1.heap.size ob1) → w'.cell? ⟨wr.heap.size, 1, none⟩ = some (.int .i64 y) := by
          rintro w' (rfl | rfl)
          · exact (Blk.new wr 106 #[.int .i64 x, .int .i64 y]).c2.2
          · exact cellB _ (by simp; omega) (Blk.new wr 106 #[.int .i64 x, .int .i64 y]).c2.2
        have M4 : ∀ w', (w' = (wr.alloc (.cells #[.int .i64 x, .int .i64 y] 106)).drew ∨ w' = setBlock (wr.alloc (.cells #[.int .i64 x, .int .i64 y] 106)).drew w1.heap.size ob1) → (Instr.lookup 113 (.map (some w1.heap.size)) (.agg #[.int .i64 x, .int .i64 y]) false).run Try.prog w' = .ok (.int .i64 (cntF (l.take k) x y)) w' := by
          rintro w' (rfl | rfl)
          · exact HL0.out
          · exact HL.out _ (heapB_same _ lt1)
        refine wp_region_tl (fun w' => w' = (wr.alloc (.cells #[.int .i64 x, .int .i64 y] 106)).drew ∨ w' = setBlock (wr.alloc (.cells #[.int .i64 x, .int .i64 y] 106)).drew w1.heap.size ob1) [0,0,0,0,1,0,2] (by kernel_rfl) (by kernel_rfl) (Or.inl rfl) ?_
        simp only [marked, List.headD_cons, List.tail_cons, beq_self_eq_true, Nat.reduceBEq]
        (apply tl_rob (by rfl); (case hv => (intro w' hS; conv => lhs; simp [go_sem, *])); simp only [Act.put, List.setIfInBounds_toArray, List.set_cons_succ, List.set_cons_zero])
        (apply tl_rob (by rfl); (case hv => (intro w' hS; conv => lhs; simp [go_sem, *])); simp only [Act.put, List.setIfInBounds_toArray, List.set_cons_succ, List.set_cons_zero])
        (apply tl_rob (by rfl); (case hv => (intro w' hS; conv => lhs; simp [go_sem, *])); simp only [Act.put, List.setIfInBounds_toArray, List.set_cons_succ, List.set_cons_zero])
        (apply tl_rob (by rfl); (case hv => (intro w' hS; conv => lhs; simp [go_sem, *])); simp only [Act.put, List.setIfInBounds_toArray, List.set_cons_succ, List.set_cons_zero])
        (apply tl_act (by rfl); intro K hK)
        have hE := HE.out
        go_simp
        refine hK _ _ (fun _ => Or.inr rfl) ?_
        clear hK K hE
        (apply tl_rob (by rfl); (case hv => (intro w' hS; conv => lhs; simp [go_sem, *])); simp only [Act.put, List.setIfInBounds_toArray, List.set_cons_succ, List.set_cons_zero])
        (apply tl_act (by rfl); intro K hK)
        obtain ⟨ob2, hS2, hM2⟩ := HST.out (setBlock (wr.alloc (.cells #[.int .i64 x, .int .i64 y] 106)).drew w1.heap.size ob1) (cntF (l.take k) x y + 1) (heapB_same _ lt1)
        have hS3 : (Instr.entryStore 113 (.map (some w1.heap.size)) (.int .i64 (st : Int)) (.int .i64 (cntF (l.take k) x y + 1))).run Try.prog (setBlock (wr.alloc (.cells #[.int .i64 x, .int .i64 y] 106)).drew w1.heap.size ob1) = .ok () (setBlock (setBlock (wr.alloc (.cells #[.int .i64 x, .int .i64 y] 106)).drew w1.heap.size ob1) w1.heap.size ob2) := hS2
        have HM2 := Lib.hid hM2
        clear hS2 hM2
        go_simp
        refine hK _ _ (fun h => by cases h) ?_
        clear hK K
        refine tl_nil ?_
        clear M1 M2 M3 M4
        go_wp2
        go_roundw
        case rel =>
          refine ⟨k + 1, by omega, by go_num, ((Q0.out.alloc _).drew.setB (by omega) _).setB (by omega) _, ((Q1.out.alloc _).drew.setB (by omega) _).setB (by omega) _, ((Q2.out.alloc _).drew.setB (by omega) _).setB (by omega) _, ?_, all_take_succ _ l k (x, y) HXY.out HA.out HYO.out, below_setBlock (below_setBlock ((HB.out.alloc (by omega) _).drew) (by omega) _) (by omega) _, by simp [setBlock]; omega⟩
          rw [cntF_succ HXY.out]
          exact HM2.out _ (heapB_same _ (by simp [setBlock]; omega))
        case measure => simp [intOf]; omega
      · have HNO : Hid (l.all (spotOk m H) = false) := by
          refine all_false_at _ l k (x, y) HXY.out ?_
          simp only [spotOk, Bool.and_eq_false_iff, decide_eq_false_iff_not]
          omega
        go_wp2
        all_goals exact bodyPost_ret (results_row_tmp rfl _ _ (w.heap.size+1) 45 _ _ (by rfl) ((((Q1.out.set_ 0 _ rfl).set_ 1 _ rfl).set_ 2 _ rfl).alloc _) Try.underlying45 rfl (by kernel_rfl)) rfl (RepairPost.no HNO.out ((((HB.out.setCell (by simp <;> omega) _).setCell (by simp <;> omega) _).setCell (by simp <;> omega) _).alloc (by simp <;> omega) _))
    · obtain rfl : k = n2 := by omega
      have HYES : Hid (l.all (spotOk m H) = true) := all_take_full _ l k (by have := HS.out.1; omega) hal
      clear q0 q1 q2 q3 hal hbel
      have HQ : Hid (Below w.heap.size w wr ∧ MapC wr w1.heap.size k (cntF l)) := ⟨HB.out, by have := Q3.out; rwa [List.take_of_length_le (by have := HS.out.1; omega)] at this⟩
      have HKK : Hid (n ≤ 4096 ∧ (n : Int) = m * H ∧ ∀ j : Nat, j < n → 0 ≤ (j : Int) % m ∧ (j : Int) % m ≤ 64 ∧ 0 ≤ (j : Int) / m ∧ (j : Int) / m ≤ 64) := by
        have hl2 := HR.out.len
        have hl3 := HLN.out
        obtain ⟨g1, g2⟩ := mul_side HSD.out
        refine ⟨by omega, by omega, fun j hj => ?_⟩
        have g3 := Int.emod_nonneg (j : Int) (show (m : Int) ≠ 0 by omega)
        have g4 := Int.emod_lt_of_pos (j : Int) (show 0 < (m : Int) by omega)
        have g5 : 0 ≤ (j : Int) / m := Int.ediv_nonneg (by omega) (by omega)
        have g6 : (j : Int) / m < H := Int.ediv_lt_of_lt_mul (by omega) (by rw [Int.mul_comm]; omega)
        omega
      have HAV : Hid (∀ (j : Nat) (v : Int), xs[j]? = some v → 0 ≤ v ∧ v ≤ 65535) := fun j v hv => okS_of (List.all_eq_true.1 HAL.out v (List.mem_of_getElem? hv))
      go_wp2_with fail
      obtain ⟨hn4, hnm, hkk⟩ := HKK.out
      refine (each_any 72 ⟨w1.heap.size+1, 0, none⟩ ⟨w.heap.size, 0, none⟩ (repairV m H (cntF l) xs) m H A n c xs _ (HR.out.below HQ.out.1 (Nat.le_refl _)) hn4 (by omega) (by omega) cf_repair1 ?_).mono ?_
      · intro j v wx hv hbx
        have hj : j < n := by rw [← HR.out.len]; exact (List.getElem?_eq_some_iff.1 hv).1
        obtain ⟨x0, x1, y0, y1⟩ := hkk j hj
        exact repair1_any m H v _ _ A n c _ _ k _ (cntF l) xs wx ((HR.out.below HQ.out.1 (Nat.le_refl _)).below hbx (Nat.le_refl _)) ⟨x0, x1⟩ ⟨y0, y1⟩ (by omega) (by omega) hnm HAV.out (HQ.out.2.below hbx HQ.out.2.lt) (Q2.out.below hbx Q2.out.lt) (Q0.out.below hbx Q0.out.lt)
      · rintro e w2 ⟨A', c', rfl, ⟨hri, hoi⟩, hb2⟩
        have r' := Q1.out.below hb2 Q1.out.lt
        have HB2 := Lib.hid hb2
        have HRI := Lib.hid hri
        have HOI := Lib.hid hoi
        obtain ⟨r0', r1', r2'⟩ := r'.c3
        obtain ⟨f0', f1', f2'⟩ := r'.f3
        have KR' := Lib.hid r'
        clear r' hb2 hri hoi
        go_wp2
        refine bodyPost_ret (results_row_tmp rfl _ _ (w.heap.size+1) 45 _ _ (by rfl) (((KR'.out.set_ 0 _ rfl).set_ 1 _ rfl).set_ 2 _ rfl) Try.underlying45 rfl (by kernel_rfl)) rfl ?_
        exact (RepairPost.yes HYES.out ((((HRI.out.set_ (by simp <;> omega) _).set_ (by simp <;> omega) _).set_ (by simp <;> omega) _).base (by omega)) ((((HOI.out.set_ (by simp <;> omega) _).set_ (by simp <;> omega) _).set_ (by simp <;> omega) _).base (by omega)) ((((HQ.out.1.trans (HB2.out.mono (by omega))).setCell (by simp <;> omega) _).setCell (by simp <;> omega) _).setCell (by simp <;> omega) _))
end
end Go.Proofs.Ytpmnfhifmmfglab

namespace Go.Proofs.Ytpmnfhifmmfglab
open Go.RowKit
theorem all_int : ∀ xs : List Int, (cI .i64).all xs = VI xs
  | [] => rfl
  | x :: xs => by
    have := all_int xs
    simp only [Cod.all, VI, List.flatMap_cons, List.map_cons] at this ⊢
    rw [this]; rfl
theorem RI_of {w : World} {A : Option Addr} {xs : List Int} (h : SL w (cI .i64) A xs) : RI w 0 A xs.length xs := by
  refine ⟨by simp [VI], fun hn => ?_⟩
  obtain ⟨b, o, hA, hc⟩ := h hn
  have hall := all_int xs
  rw [hall] at hc
  refine ⟨b, o, hA, Nat.zero_le _, ?_, hc⟩
  have h0 : (VI xs)[0]? = some (.int .i64 xs[0]) := by simp [VI, List.getElem?_eq_getElem hn]
  exact block_lt_of_cell (hc 0 _ h0)
theorem RS_of {w : World} {A : Option Addr} {l : List (Int × Int)} (h : SL w cII A l) : RS w 0 A l.length l := by
  refine ⟨rfl, fun hn => ?_⟩
  obtain ⟨b, o, hA, hc⟩ := h hn
  have key : ∀ (k : Nat) x y, l[k]? = some (x, y) → (cII.all l)[k * 2]? = some (.int .i64 x) ∧ (cII.all l)[k * 2 + 1]? = some (.int .i64 y) := fun k x y hk => by
    exact ⟨by simpa [cII] using Cod.all_get cII l k 0 (x, y) _ hk rfl, Cod.all_get cII l k 1 (x, y) _ hk rfl⟩
  have h0 := (key 0 l[0].1 l[0].2 (List.getElem?_eq_getElem hn)).1
  refine ⟨b, o, hA, Nat.zero_le _, block_lt_of_cell (hc _ _ h0), fun k x y hk => ?_⟩
  obtain ⟨h1, h2⟩ := key k x y hk
  exact ⟨hc _ _ h1, by have := hc _ _ h2; rwa [← Nat.add_assoc] at this⟩
theorem Mem.ofOI {w w' : World} {A : Option Addr} {n c : Nat} {xs : List Int} (hb : Below w.heap.size w w') (h : OI w' w.heap.size A n c xs) (hn : n ≤ maxLen) : Mem w.heap.size w w' [.row 3 1 A xs.length c ((cI .i64).all xs)] := by
  obtain ⟨g, rfl, rfl, hg, hl, hB⟩ := h
  have hall := all_int xs
  have M1 : Mem w.heap.size w w' [.blk g 3 (VI xs)] := by
    refine (Mem.fin0 hb).cons hB fun g' hg' => ?_
    simp [Ent.foot] at hg'
    subst hg'
    exact ⟨hg, fun i e h => by simp at h⟩
  exact M1.asRow 0 rfl (cI .i64) xs hall hl rfl hn
theorem W_sensor_Repair (N : Nat) (p_W : Int) (p_H : Int) (p_P : List Int) (A_p_P : Option Addr) (c_p_P : Nat) (l : List (Int × Int)) (A_l : Option Addr) (c_l : Nat) (w0 : World) (R_p_P : SL w0 (cI .i64) A_p_P p_P) (C_p_P : p_P.length ≤ c_p_P) (R_l : SL w0 cII A_l l) (C_l : l.length ≤ c_l) (r : Int × Int × List Int × Int) (h : D_sensor_Repair N p_W p_H p_P l = some r) :
    Calls Try.prog 53 #[.agg #[.int .i64 p_W, .int .i64 p_H, .slice A_p_P p_P.length c_p_P], .slice A_l l.length c_l] w0 fun e w' => ∃ v, e = .returned v ∧ ∃ A2 c2, v = .tuple #[.agg #[.int .i64 r.1, .int .i64 r.2.1, .slice A2 r.2.2.1.length c2], .int .i64 r.2.2.2] ∧ Mem w0.heap.size w0 w' [.row 3 1 A2 r.2.2.1.length c2 ((cI .i64).all r.2.2.1)] := by
  unfold D_sensor_Repair at h
  split at h
  · cases h
  rename_i hn
  have hn' : p_P.length ≤ maxLen := by simp only [maxLen]; omega
  have no : ∀ {w' : World} (k : Int), Below w0.heap.size w0 w' → ∃ v, Ending.returned (.tuple #[noPlane, .int .i64 k]) = Ending.returned v ∧ ∃ A2 c2, v = .tuple #[.agg #[.int .i64 (0 : Int), .int .i64 (0 : Int), .slice A2 ([] : List Int).length c2], .int .i64 k] ∧ Mem w0.heap.size w0 w' [.row 3 1 A2 ([] : List Int).length c2 ((cI .i64).all [])] :=
    fun k hb => ⟨_, rfl, none, 0, rfl, Mem.nilrow 3 1 (cI .i64) (Mem.fin0 hb)⟩
  split at h
  · rename_i hf
    cases h
    refine (repair_form p_W p_H A_p_P A_l p_P.length c_p_P l.length c_l p_P l w0 (RI_of R_p_P) (RS_of R_l) hn' hf).mono ?_
    rintro e w' ⟨rfl, hb⟩
    exact no 1 hb
  rename_i hf
  have hf' : planeFine p_W p_H p_P = true := by simpa using hf
  split at h
  · rename_i hm
    cases h
    refine (repair_many p_W p_H A_p_P A_l p_P.length c_p_P l.length c_l p_P l w0 (RI_of R_p_P) (RS_of R_l) hn' hf' hm).mono ?_
    rintro e w' ⟨rfl, hb⟩
    exact no 2 hb
  rename_i hm
  obtain ⟨⟨h1, h2, h3, h4⟩, _, _⟩ := planeFine_iff.1 hf'
  obtain ⟨m, rfl⟩ : ∃ m : Nat, p_W = m := ⟨p_W.toNat, by omega⟩
  have hr := repair_rest p_H A_p_P A_l p_P.length c_p_P l.length c_l p_P l w0 m (RI_of R_p_P) (RS_of R_l) hn' hf' (by omega)
  refine hr.mono ?_
  intro e w' hp
  unfold RepairPost at hp
  split at h
  · rename_i ha
    cases h
    rw [if_neg (by simp [ha])] at hp
    obtain ⟨rfl, hb⟩ := hp
    exact no 3 hb
  · rename_i ha
    cases h
    rw [if_pos (by simpa using ha)] at hp
    obtain ⟨A', c', rfl, ⟨_, ho⟩, hb⟩ := hp
    have hl : ((List.range p_P.length).map (repairL (m : Int) p_H l p_P)).length = p_P.length := by simp
    refine ⟨_, rfl, A', c', by rw [hl], Mem.ofOI hb ho hn'⟩
end Go.Proofs.Ytpmnfhifmmfglab

namespace Go.Proofs.Ytpmnfhifmmfglab
open Go.RowKit
set_option maxRecDepth 100000 in
set_option maxHeartbeats 4000000 in
theorem W_mosaic_pixel (N : Nat) (d_W : Int) (d_H : Int) (d_P : List Int) (A_d_P : Option Addr) (c_d_P : Nat) (o : Int) (p2 : Int) (p3 : Int) (w0 : World) (R_d_P : SL w0 (cI .i64) A_d_P d_P) (C_d_P : d_P.length ≤ c_d_P) (r : Int × Int × Int) (h : D_mosaic_pixel N d_W d_H d_P o p2 p3 = some r) :
    Calls Try.prog 105 #[.agg #[I d_W, I d_H, .slice A_d_P d_P.length c_d_P], I o, I p2, I p3] w0 fun e w' => ∃ v, e = .returned v ∧ v = .agg #[I r.1, I r.2.1, I r.2.2] ∧ Mem w0.heap.size w0 w' [] := by
  refine Calls_marks Try.func105 rfl Try.ntmps105 rfl ?_
  intro a K
  have M := Mem.start w0
  have K : Kn a 92 [(0, .agg #[I d_W, I d_H, .slice A_d_P d_P.length c_d_P]), (1, I o), (2, I p2), (3, I p3)] := K
  unfold D_mosaic_pixel at h
  refine wp_seq (X_reg ?_)
  refine X_a K (ac_box rfl K rfl (cs := [I d_W, I d_H, .slice A_d_P d_P.length c_d_P]) rfl M) ?_
  clear K M; rintro _ a w ⟨g_x, rfl, M⟩ K
  refine X_a K (ac_box rfl K rfl (cs := [I o]) rfl M) ?_
  clear K M; rintro _ a w ⟨g_x2, rfl, M⟩ K
  refine X_a K (ac_alloc rfl z34 M) ?_
  clear K M; rintro _ a w ⟨g_x3, rfl, M⟩ K
  refine wpList_nil (then_n (wp_seq (X_reg ?_)))
  refine X_a K (ac_alloc rfl z34 M) ?_
  clear K M; rintro _ a w ⟨g_x4, rfl, M⟩ K
  refine X_a K (ac_alloc rfl z34 M) ?_
  clear K M; rintro _ a w ⟨g_x5, rfl, M⟩ K
  refine wpList_nil (then_n (wp_seq (wp_seq (X_reg ?_))))
  refine X_r K (rd_ldA rfl ty45 K rfl (inM 4 rfl) rfl rfl) M ?_; clear K
  iterate 2 (refine Y_o M ?_)
  intro a K
  refine X_inl (vs := [.agg #[I d_W, I d_H, .slice A_d_P d_P.length c_d_P], I p2, I p3]) (cap := []) K (want_no rfl) rfl rfl rfl fok106 rfl rfl ?_; clear K
  refine X_enter Try.func106 rfl Try.ntmps106 rfl ?_
  intro a K
  have K : Kn a 8 [(0, .agg #[I d_W, I d_H, .slice A_d_P d_P.length c_d_P]), (1, I p2), (2, I p3)] := K
  refine wp_seq (X_reg ?_)
  refine X_a K (ac_box rfl K rfl (cs := [I d_W, I d_H, .slice A_d_P d_P.length c_d_P]) rfl M) ?_
  clear K M; rintro _ a w ⟨g_p, rfl, M⟩ K
  refine X_a K (ac_box rfl K rfl (cs := [I p2]) rfl M) ?_
  clear K M; rintro _ a w ⟨g_x6, rfl, M⟩ K
  refine X_a K (ac_box rfl K rfl (cs := [I p3]) rfl M) ?_
  clear K M; rintro _ a w ⟨g_y, rfl, M⟩ K
  refine X_o K M ?_; clear K; intro a K
  refine wpList_nil (then_n (wp_seq (X_reg ?_)))
  refine X_r K (rd_func rfl K (vs := [.pointer (some ⟨g_y, 0, none⟩), .pointer (some ⟨g_p, 0, none⟩), .pointer (some ⟨g_x6, 0, none⟩)]) rfl) M ?_; clear K
  refine Y_o M ?_; intro a K
  refine wpList_nil (then_n (wp_ret ?_))
  refine ret1 K rfl (res_tmp K rfl) ⟨_, rfl, ?_⟩; clear K; intro a K
  refine wpList_nil (then_n (wp_block ?_))
  obtain ⟨hC, h⟩ := cond_some h
  replace K : Kn a 92 [(2, I p2), (3, I p3), (4, .pointer (some ⟨g_x, 0, none⟩)), (5, .pointer (some ⟨g_x2, 0, none⟩)), (8, .pointer (some ⟨g_x3, 0, none⟩)), (9, .pointer (some ⟨g_x4, 0, none⟩)), (10, .pointer (some ⟨g_x5, 0, none⟩)), (22, .func (.func 107) #[] #[.pointer (some ⟨g_y, 0, none⟩), .pointer (some ⟨g_p, 0, none⟩), .pointer (some ⟨g_x6, 0, none⟩)])] := K.pick [2,3,4,5,8,9,10,22]
  have hkL : ∀ k ∈ [g_p, g_x6, g_y], k < _ := fun k hk => by
    simp only [List.mem_cons, List.not_mem_nil, or_false] at hk
    rcases hk with rfl | rfl | rfl
    · exact (M.blkAt (i := 2) rfl).lt
    · exact (M.blkAt (i := 1) rfl).lt
    exact (M.blkAt (i := 0) rfl).lt
  refine wpIn_wide.1 (wpIn_rangeFunc_ownF (F := Fence.wide) (n := 3) rfl (by decide) (gf := 107) (lb := #[.pointer (some ⟨g_y, 0, none⟩), .pointer (some ⟨g_p, 0, none⟩), .pointer (some ⟨g_x6, 0, none⟩)]) (K.ev (x := .tmp 22) rfl) trivial (enters_fok fok107)
    (around1_stops 2 (by decide) d_W d_H p2 p3 A_d_P d_P.length c_d_P g_p g_x6 g_y hC.2.2.1 hC.2.2.2.2.2.1 ⟨hC.1, hC.2.1⟩ ⟨hC.2.2.2.1, hC.2.2.2.2.1⟩ _ (M.blkAt (i := 2) rfl) (M.blkAt (i := 1) rfl) (M.blkAt (i := 0) rfl)) keepB_trans (fun V l o o' hl _ _ _ k hk _ => World.putObj_heap_other (by have := hkL k hk; omega)) (Below.refl _ _) (fun _ => rfl)
    (fun (pre : List (InP d_W d_H)) V => Below w0.heap.size w0 V ∧ ∀ (i : Nat) (e : Ent), ([.blk g_y 3 [I p3], .blk g_x6 3 [I p2], .blk g_p 45 [I d_W, I d_H, .slice A_d_P d_P.length c_d_P], .blk g_x5 34 [I ((List.foldl (D_mosaic_pixel_s N d_W d_P o) (0, 0, 0, 0, 0, 0) (pre.map (·.1)))).1, I ((List.foldl (D_mosaic_pixel_s N d_W d_P o) (0, 0, 0, 0, 0, 0) (pre.map (·.1)))).2.1, I ((List.foldl (D_mosaic_pixel_s N d_W d_P o) (0, 0, 0, 0, 0, 0) (pre.map (·.1)))).2.2.1], .blk g_x4 34 [I ((List.foldl (D_mosaic_pixel_s N d_W d_P o) (0, 0, 0, 0, 0, 0) (pre.map (·.1)))).2.2.2.1, I ((List.foldl (D_mosaic_pixel_s N d_W d_P o) (0, 0, 0, 0, 0, 0) (pre.map (·.1)))).2.2.2.2.1, I ((List.foldl (D_mosaic_pixel_s N d_W d_P o) (0, 0, 0, 0, 0, 0) (pre.map (·.1)))).2.2.2.2.2], .blk g_x3 34 [I 0, I 0, I 0], .blk g_x2 3 [I o], .blk g_x 45 [I d_W, I d_H, .slice A_d_P d_P.length c_d_P]] : List Ent)[i]? = some e → Ent.holds V e) (fun _ _ _ => False)
    (fun pre V V' row hs hg hr => holds_own (β := Int × Int × Int × Int × Int × Int) (fun s => [.blk g_y 3 [I p3], .blk g_x6 3 [I p2], .blk g_p 45 [I d_W, I d_H, .slice A_d_P d_P.length c_d_P], .blk g_x5 34 [I s.1, I s.2.1, I s.2.2.1], .blk g_x4 34 [I s.2.2.2.1, I s.2.2.2.2.1, I s.2.2.2.2.2], .blk g_x3 34 [I 0, I 0, I 0], .blk g_x2 3 [I o], .blk g_x 45 [I d_W, I d_H, .slice A_d_P d_P.length c_d_P]]) M rfl (fun _ => rfl) (List.foldl (D_mosaic_pixel_s N d_W d_P o) (0, 0, 0, 0, 0, 0) (pre.map (·.1))) V V' row hs hg hr) (fun c s V V' row hs _ _ => hs) ⟨M.low, fun i e h => M.has i e h⟩
    (fun q => ((({ tmps := (#[23, 24].zip (encP d_W d_H q)).foldl (fun t (p, v) => t.setIfInBounds p v) a.tmps, defers := [] } : Act).put (some 11) (({ tmps := (#[23, 24].zip (encP d_W d_H q)).foldl (fun t (p, v) => t.setIfInBounds p v) a.tmps, defers := [] } : Act).eval (.tmp 23))).put (some 12) ((({ tmps := (#[23, 24].zip (encP d_W d_H q)).foldl (fun t (p, v) => t.setIfInBounds p v) a.tmps, defers := [] } : Act).put (some 11) (({ tmps := (#[23, 24].zip (encP d_W d_H q)).foldl (fun t (p, v) => t.setIfInBounds p v) a.tmps, defers := [] } : Act).eval (.tmp 23))).eval (.tmp 24)))) ?_ ?_ ?_ (fun D c pre V _ _ h _ => h.elim))
  · intro lp q V K2 hK2
    refine wpIn_seq ?_
    refine X_regI (by kernel_rfl) (fun ⟨_, _, h⟩ => h) ?_
    refine A_asg rfl rfl ?_
    refine wpList_nil (then_n ?_)
    refine X_regI (by kernel_rfl) (fun ⟨_, _, h⟩ => h) ?_
    refine A_asg rfl rfl ?_
    refine wpList_nil ?_
    exact hK2
  · clear h
    rintro lp pre ⟨⟨u, v⟩, hq⟩ V ⟨hbV, hasV⟩ _
    obtain ⟨s, hs⟩ : ∃ s, List.foldl (D_mosaic_pixel_s N d_W d_P o) (0, 0, 0, 0, 0, 0) (pre.map (·.1)) = s := ⟨_, rfl⟩
    simp only [hs] at hasV
    obtain ⟨x_R, x_G, x_B, x_R2, x_G2, x_B2⟩ := s
    have MV : Mem w0.heap.size V V [.blk g_y 3 [I p3], .blk g_x6 3 [I p2], .blk g_p 45 [I d_W, I d_H, .slice A_d_P d_P.length c_d_P], .blk g_x5 34 [I x_R, I x_G, I x_B], .blk g_x4 34 [I x_R2, I x_G2, I x_B2], .blk g_x3 34 [I 0, I 0, I 0], .blk g_x2 3 [I o], .blk g_x 45 [I d_W, I d_H, .slice A_d_P d_P.length c_d_P]] := M.round rfl hbV hasV
    have K : Kn ((({ tmps := (#[23, 24].zip (encP d_W d_H ⟨(u, v), hq⟩)).foldl (fun t (p, v) => t.setIfInBounds p v) a.tmps, defers := [] } : Act).put (some 11) (({ tmps := (#[23, 24].zip (encP d_W d_H ⟨(u, v), hq⟩)).foldl (fun t (p, v) => t.setIfInBounds p v) a.tmps, defers := [] } : Act).eval (.tmp 23))).put (some 12) ((({ tmps := (#[23, 24].zip (encP d_W d_H ⟨(u, v), hq⟩)).foldl (fun t (p, v) => t.setIfInBounds p v) a.tmps, defers := [] } : Act).put (some 11) (({ tmps := (#[23, 24].zip (encP d_W d_H ⟨(u, v), hq⟩)).foldl (fun t (p, v) => t.setIfInBounds p v) a.tmps, defers := [] } : Act).eval (.tmp 23))).eval (.tmp 24))) 92 [(12, I v), (11, I u), (24, I v), (23, I u), (2, I p2), (3, I p3), (4, .pointer (some ⟨g_x, 0, none⟩)), (5, .pointer (some ⟨g_x2, 0, none⟩)), (8, .pointer (some ⟨g_x3, 0, none⟩)), (9, .pointer (some ⟨g_x4, 0, none⟩)), (10, .pointer (some ⟨g_x5, 0, none⟩)), (22, .func (.func 107) #[] #[.pointer (some ⟨g_y, 0, none⟩), .pointer (some ⟨g_p, 0, none⟩), .pointer (some ⟨g_x6, 0, none⟩)])] := (K.ps2 (i := 23) (j := 24) (u := I u) (v := I v) rfl rfl).asg2 rfl rfl rfl rfl
    clear M; have M := MV
    obtain ⟨r, hr⟩ := D_mosaic_pixel_b_some N d_W d_P o hC hq x_R x_G x_B x_R2 x_G2 x_B2
    have h := hr
    unfold D_mosaic_pixel_b at h
    refine wpIn_block ?_
    refine wpIn_seq ?_
    refine X_regI (by kernel_rfl) (fun ⟨_, _, h⟩ => h) ?_
    refine X_r K (rd_ldC rfl sc3 K rfl (inM 6 rfl) rfl) M ?_; clear K
    iterate 2 (refine Y_o M ?_)
    intro a K
    obtain ⟨r3, h_r3, h⟩ := obind h
    refine X_a K (ac_call (vs := [I o, I u, I v]) (cap := []) rfl fok74 K rfl rfl (W_sensor_Colour N o u v _  r3 h_r3)) ?_
    have M0 := M; clear K M; rintro _ a w ⟨rfl, M⟩ K
    replace M := M0.call M; clear M0
    refine X_o K M ?_; clear K
    iterate 4 (refine Y_o M ?_)
    intro a K
    refine wpList_nil (then_n ?_)
    refine wpIn_seq ?_
    refine XI_region_tl (fun w => Mem _ _ w _) [0,1,0,0,0,0,0,0,0,0,0,0,0,0,0,0,2] (by kernel_rfl) (by kernel_rfl) (by kernel_rfl) (fun ⟨_, _, h⟩ => h) M.drew ?_
    replace M := M.drew
    refine T_o K ?_; clear K; intro a K
    refine T_inl (vs := [.pointer (some ⟨g_x4, 0, none⟩), I r3.1]) (cap := []) K (want_no rfl) rfl rfl rfl fok75 rfl rfl ?_; clear K
    refine X_enter Try.func75 rfl Try.ntmps75 rfl ?_
    intro a K
    have K : Kn a 19 [(0, .pointer (some ⟨g_x4, 0, none⟩)), (1, I r3.1)] := K
    refine wp_seq (X_reg ?_)
    refine X_o K M ?_; clear K; intro a K
    refine wpList_nil (then_n (wp_seq (wp_seq (X_reg ?_))))
    refine X_o K M ?_; clear K; intro a K
    refine wpList_nil (then_n (wp_block (wp_seq (X_reg ?_))))
    refine X_o K M ?_; clear K
    refine Y_o M ?_; intro a K
    refine wpList_nil (then_n ?_)
    refine X_cond K rfl (fun hb => ?_) (fun hb => ?_)
    · have h := ctrue hb h
      refine wp_seq (X_reg ?_)
      refine X_o K M ?_; clear K
      refine Y_o M ?_
      refine Y_r (fun _ K => rd_field rfl fld34_0 K rfl) M ?_
      refine Y_o M ?_; intro a K
      refine wpList_nil (then_n (wp_ret (inb_r (then_r ?_))))
      refine ret1 K rfl (res_tmp K rfl) ⟨_, rfl, ?_⟩; clear K; intro a K
      refine ⟨M.pick [0,1,2,3,4,5,6,7] (by decide), ?_⟩
      refine T_o K ?_; clear K
      refine U_r (fun _ K => rd_ldC rfl sc3 K rfl (inM 4 rfl) rfl) ?_
      refine U_r (fun _ K => rd_field rfl fld45_2 K rfl) ?_
      refine U_r (fun _ K => rd_ldC rfl sc43 K rfl (inM 7 rfl) rfl) ?_
      refine U_o ?_
      refine U_r (fun _ K => rd_field rfl fld45_0 K rfl) ?_
      refine U_r (fun _ K => rd_ldC rfl sc3 K rfl (inM 7 rfl) rfl) ?_
      iterate 3 (refine U_o ?_)
      obtain ⟨e4, h_e4, h⟩ := obind h
      refine U_r (fun _ K => rd_ix rfl sl43 K rfl rfl (inA2 hbV R_d_P) h_e4) ?_
      refine U_r (fun _ K => rd_elC rfl sc3 K rfl rfl (inA2 hbV R_d_P) h_e4 rfl) ?_
      iterate 2 (refine U_o ?_)
      intro a K
      refine T_b K (ac_storeC rfl sc3 K rfl rfl rfl 4 M rfl rfl) ?_
      clear K M; rintro _ a w M K
      refine T_end ?_
      refine then_n ?_
      refine X_regI (by kernel_rfl) (fun ⟨_, _, h⟩ => h) ?_
      refine X_o K M ?_; clear K; intro a K
      refine X_inl (vs := [.pointer (some ⟨g_x5, 0, none⟩), I r3.1]) (cap := []) K (want_no rfl) rfl rfl rfl fok75 rfl rfl ?_; clear K
      refine X_enter Try.func75 rfl Try.ntmps75 rfl ?_
      intro a K
      have K : Kn a 19 [(0, .pointer (some ⟨g_x5, 0, none⟩)), (1, I r3.1)] := K
      refine wp_seq (X_reg ?_)
      refine X_o K M ?_; clear K; intro a K
      refine wpList_nil (then_n (wp_seq (wp_seq (X_reg ?_))))
      refine X_o K M ?_; clear K; intro a K
      refine wpList_nil (then_n (wp_block (wp_seq (X_reg ?_))))
      refine X_o K M ?_; clear K
      refine Y_o M ?_; intro a K
      refine wpList_nil (then_n ?_)
      refine X_cond K rfl (fun hb => ?_) (fun hb => ?_)
      · have h := ctrue hb h
        refine wp_seq (X_reg ?_)
        refine X_o K M ?_; clear K
        refine Y_o M ?_
        refine Y_r (fun _ K => rd_field rfl fld34_0 K rfl) M ?_
        refine Y_o M ?_; intro a K
        refine wpList_nil (then_n (wp_ret (inb_r (then_r ?_))))
        refine ret1 K rfl (res_tmp K rfl) ⟨_, rfl, ?_⟩; clear K; intro a K
        refine X_o K M ?_; clear K
        refine Y_r (fun _ K => rd_ldC rfl sc3 K rfl (inM 3 rfl) rfl) M ?_
        iterate 2 (refine Y_o M ?_)
        intro a K
        refine X_b K (ac_storeC rfl sc3 K rfl rfl rfl 3 M rfl rfl) ?_
        clear K M; rintro _ a w M K
        refine wpList_nil (inb_n ?_)
        cases h
        refine ⟨M.others, fun k hk _ => ?_, hbV.trans M.low, fun i e hi => ?_⟩
        · simp only [List.mem_cons, List.not_mem_nil, or_false] at hk
          rcases hk with rfl | rfl | rfl
          · exact (show _ = _ from M.blkAt (i := 2) rfl).trans (show _ = _ from MV.blkAt (i := 2) rfl).symm
          · exact (show _ = _ from M.blkAt (i := 1) rfl).trans (show _ = _ from MV.blkAt (i := 1) rfl).symm
          exact (show _ = _ from M.blkAt (i := 0) rfl).trans (show _ = _ from MV.blkAt (i := 0) rfl).symm
        have hS := D_mosaic_pixel_fold N d_W d_P o pre ⟨(u, v), hq⟩ hs hr
        simp only [hS] at hi
        exact (M.pick [0,1,2,3,4,5,6,7] (by decide)).has i e hi
      have h := cfalse hb h
      refine wp_seq (X_reg ?_)
      refine X_o K M ?_; clear K
      refine Y_o M ?_; intro a K
      refine wpList_nil (then_n ?_)
      refine X_cond K rfl (fun hb => ?_) (fun hb => ?_)
      · have h := ctrue hb h
        refine wp_seq (X_reg ?_)
        refine X_o K M ?_; clear K
        refine Y_o M ?_
        refine Y_r (fun _ K => rd_field rfl fld34_1 K rfl) M ?_
        refine Y_o M ?_; intro a K
        refine wpList_nil (then_n (wp_ret (inb_r (then_r ?_))))
        refine ret1 K rfl (res_tmp K rfl) ⟨_, rfl, ?_⟩; clear K; intro a K
        refine X_o K M ?_; clear K
        refine Y_r (fun _ K => rd_ldC rfl sc3 K rfl (inM 3 rfl) rfl) M ?_
        iterate 2 (refine Y_o M ?_)
        intro a K
        refine X_b K (ac_storeC rfl sc3 K rfl rfl rfl 3 M rfl rfl) ?_
        clear K M; rintro _ a w M K
        refine wpList_nil (inb_n ?_)
        cases h
        refine ⟨M.others, fun k hk _ => ?_, hbV.trans M.low, fun i e hi => ?_⟩
        · simp only [List.mem_cons, List.not_mem_nil, or_false] at hk
          rcases hk with rfl | rfl | rfl
          · exact (show _ = _ from M.blkAt (i := 2) rfl).trans (show _ = _ from MV.blkAt (i := 2) rfl).symm
          · exact (show _ = _ from M.blkAt (i := 1) rfl).trans (show _ = _ from MV.blkAt (i := 1) rfl).symm
          exact (show _ = _ from M.blkAt (i := 0) rfl).trans (show _ = _ from MV.blkAt (i := 0) rfl).symm
        have hS := D_mosaic_pixel_fold N d_W d_P o pre ⟨(u, v), hq⟩ hs hr
        simp only [hS] at hi
        exact (M.pick [0,1,2,3,4,5,6,7] (by decide)).has i e hi
      have h := cfalse hb h
      refine wp_skip (inb_n (then_n (wp_seq (X_reg ?_))))
      refine X_o K M ?_; clear K
      refine Y_o M ?_
      refine Y_r (fun _ K => rd_field rfl fld34_2 K rfl) M ?_
      refine Y_o M ?_; intro a K
      refine wpList_nil (then_n (wp_ret ?_))
      refine ret1 K rfl (res_tmp K rfl) ⟨_, rfl, ?_⟩; clear K; intro a K
      refine X_o K M ?_; clear K
      refine Y_r (fun _ K => rd_ldC rfl sc3 K rfl (inM 3 rfl) rfl) M ?_
      iterate 2 (refine Y_o M ?_)
      intro a K
      refine X_b K (ac_storeC rfl sc3 K rfl rfl rfl 3 M rfl rfl) ?_
      clear K M; rintro _ a w M K
      refine wpList_nil (inb_n ?_)
      cases h
      refine ⟨M.others, fun k hk _ => ?_, hbV.trans M.low, fun i e hi => ?_⟩
      · simp only [List.mem_cons, List.not_mem_nil, or_false] at hk
        rcases hk with rfl | rfl | rfl
        · exact (show _ = _ from M.blkAt (i := 2) rfl).trans (show _ = _ from MV.blkAt (i := 2) rfl).symm
        · exact (show _ = _ from M.blkAt (i := 1) rfl).trans (show _ = _ from MV.blkAt (i := 1) rfl).symm
        exact (show _ = _ from M.blkAt (i := 0) rfl).trans (show _ = _ from MV.blkAt (i := 0) rfl).symm
      have hS := D_mosaic_pixel_fold N d_W d_P o pre ⟨(u, v), hq⟩ hs hr
      simp only [hS] at hi
      exact (M.pick [0,1,2,3,4,5,6,7] (by decide)).has i e hi
    have h := cfalse hb h
    refine wp_seq (X_reg ?_)
    refine X_o K M ?_; clear K
    refine Y_o M ?_; intro a K
    refine wpList_nil (then_n ?_)
    refine X_cond K rfl (fun hb => ?_) (fun hb => ?_)
    · have h := ctrue hb h
      refine wp_seq (X_reg ?_)
      refine X_o K M ?_; clear K
      refine Y_o M ?_
      refine Y_r (fun _ K => rd_field rfl fld34_1 K rfl) M ?_
      refine Y_o M ?_; intro a K
      refine wpList_nil (then_n (wp_ret (inb_r (then_r ?_))))
      refine ret1 K rfl (res_tmp K rfl) ⟨_, rfl, ?_⟩; clear K; intro a K
      refine ⟨M.pick [0,1,2,3,4,5,6,7] (by decide), ?_⟩
      refine T_o K ?_; clear K
      refine U_r (fun _ K => rd_ldC rfl sc3 K rfl (inM 4 rfl) rfl) ?_
      refine U_r (fun _ K => rd_field rfl fld45_2 K rfl) ?_
      refine U_r (fun _ K => rd_ldC rfl sc43 K rfl (inM 7 rfl) rfl) ?_
      refine U_o ?_
      refine U_r (fun _ K => rd_field rfl fld45_0 K rfl) ?_
      refine U_r (fun _ K => rd_ldC rfl sc3 K rfl (inM 7 rfl) rfl) ?_
      iterate 3 (refine U_o ?_)
      obtain ⟨e5, h_e5, h⟩ := obind h
      refine U_r (fun _ K => rd_ix rfl sl43 K rfl rfl (inA2 hbV R_d_P) h_e5) ?_
      refine U_r (fun _ K => rd_elC rfl sc3 K rfl rfl (inA2 hbV R_d_P) h_e5 rfl) ?_
      iterate 2 (refine U_o ?_)
      intro a K
      refine T_b K (ac_storeC rfl sc3 K rfl rfl rfl 4 M rfl rfl) ?_
      clear K M; rintro _ a w M K
      refine T_end ?_
      refine then_n ?_
      refine X_regI (by kernel_rfl) (fun ⟨_, _, h⟩ => h) ?_
      refine X_o K M ?_; clear K; intro a K
      refine X_inl (vs := [.pointer (some ⟨g_x5, 0, none⟩), I r3.1]) (cap := []) K (want_no rfl) rfl rfl rfl fok75 rfl rfl ?_; clear K
      refine X_enter Try.func75 rfl Try.ntmps75 rfl ?_
      intro a K
      have K : Kn a 19 [(0, .pointer (some ⟨g_x5, 0, none⟩)), (1, I r3.1)] := K
      refine wp_seq (X_reg ?_)
      refine X_o K M ?_; clear K; intro a K
      refine wpList_nil (then_n (wp_seq (wp_seq (X_reg ?_))))
      refine X_o K M ?_; clear K; intro a K
      refine wpList_nil (then_n (wp_block (wp_seq (X_reg ?_))))
      refine X_o K M ?_; clear K
      refine Y_o M ?_; intro a K
      refine wpList_nil (then_n ?_)
      refine X_cond K rfl (fun hb => ?_) (fun hb => ?_)
      · have h := ctrue hb h
        refine wp_seq (X_reg ?_)
        refine X_o K M ?_; clear K
        refine Y_o M ?_
        refine Y_r (fun _ K => rd_field rfl fld34_0 K rfl) M ?_
        refine Y_o M ?_; intro a K
        refine wpList_nil (then_n (wp_ret (inb_r (then_r ?_))))
        refine ret1 K rfl (res_tmp K rfl) ⟨_, rfl, ?_⟩; clear K; intro a K
        refine X_o K M ?_; clear K
        refine Y_r (fun _ K => rd_ldC rfl sc3 K rfl (inM 3 rfl) rfl) M ?_
        iterate 2 (refine Y_o M ?_)
        intro a K
        refine X_b K (ac_storeC rfl sc3 K rfl rfl rfl 3 M rfl rfl) ?_
        clear K M; rintro _ a w M K
        refine wpList_nil (inb_n ?_)
        cases h
        refine ⟨M.others, fun k hk _ => ?_, hbV.trans M.low, fun i e hi => ?_⟩
        · simp only [List.mem_cons, List.not_mem_nil, or_false] at hk
          rcases hk with rfl | rfl | rfl
          · exact (show _ = _ from M.blkAt (i := 2) rfl).trans (show _ = _ from MV.blkAt (i := 2) rfl).symm
          · exact (show _ = _ from M.blkAt (i := 1) rfl).trans (show _ = _ from MV.blkAt (i := 1) rfl).symm
          exact (show _ = _ from M.blkAt (i := 0) rfl).trans (show _ = _ from MV.blkAt (i := 0) rfl).symm
        have hS := D_mosaic_pixel_fold N d_W d_P o pre ⟨(u, v), hq⟩ hs hr
        simp only [hS] at hi
        exact (M.pick [0,1,2,3,4,5,6,7] (by decide)).has i e hi
      have h := cfalse hb h
      refine wp_seq (X_reg ?_)
      refine X_o K M ?_; clear K
      refine Y_o M ?_; intro a K
      refine wpList_nil (then_n ?_)
      refine X_cond K rfl (fun hb => ?_) (fun hb => ?_)
      · have h := ctrue hb h
        refine wp_seq (X_reg ?_)
        refine X_o K M ?_; clear K
        refine Y_o M ?_
        refine Y_r (fun _ K => rd_field rfl fld34_1 K rfl) M ?_
        refine Y_o M ?_; intro a K
        refine wpList_nil (then_n (wp_ret (inb_r (then_r ?_))))
        refine ret1 K rfl (res_tmp K rfl) ⟨_, rfl, ?_⟩; clear K; intro a K
        refine X_o K M ?_; clear K
        refine Y_r (fun _ K => rd_ldC rfl sc3 K rfl (inM 3 rfl) rfl) M ?_
        iterate 2 (refine Y_o M ?_)
        intro a K
        refine X_b K (ac_storeC rfl sc3 K rfl rfl rfl 3 M rfl rfl) ?_
        clear K M; rintro _ a w M K
        refine wpList_nil (inb_n ?_)
        cases h
        refine ⟨M.others, fun k hk _ => ?_, hbV.trans M.low, fun i e hi => ?_⟩
        · simp only [List.mem_cons, List.not_mem_nil, or_false] at hk
          rcases hk with rfl | rfl | rfl
          · exact (show _ = _ from M.blkAt (i := 2) rfl).trans (show _ = _ from MV.blkAt (i := 2) rfl).symm
          · exact (show _ = _ from M.blkAt (i := 1) rfl).trans (show _ = _ from MV.blkAt (i := 1) rfl).symm
          exact (show _ = _ from M.blkAt (i := 0) rfl).trans (show _ = _ from MV.blkAt (i := 0) rfl).symm
        have hS := D_mosaic_pixel_fold N d_W d_P o pre ⟨(u, v), hq⟩ hs hr
        simp only [hS] at hi
        exact (M.pick [0,1,2,3,4,5,6,7] (by decide)).has i e hi
      have h := cfalse hb h
      refine wp_skip (inb_n (then_n (wp_seq (X_reg ?_))))
      refine X_o K M ?_; clear K
      refine Y_o M ?_
      refine Y_r (fun _ K => rd_field rfl fld34_2 K rfl) M ?_
      refine Y_o M ?_; intro a K
      refine wpList_nil (then_n (wp_ret ?_))
      refine ret1 K rfl (res_tmp K rfl) ⟨_, rfl, ?_⟩; clear K; intro a K
      refine X_o K M ?_; clear K
      refine Y_r (fun _ K => rd_ldC rfl sc3 K rfl (inM 3 rfl) rfl) M ?_
      iterate 2 (refine Y_o M ?_)
      intro a K
      refine X_b K (ac_storeC rfl sc3 K rfl rfl rfl 3 M rfl rfl) ?_
      clear K M; rintro _ a w M K
      refine wpList_nil (inb_n ?_)
      cases h
      refine ⟨M.others, fun k hk _ => ?_, hbV.trans M.low, fun i e hi => ?_⟩
      · simp only [List.mem_cons, List.not_mem_nil, or_false] at hk
        rcases hk with rfl | rfl | rfl
        · exact (show _ = _ from M.blkAt (i := 2) rfl).trans (show _ = _ from MV.blkAt (i := 2) rfl).symm
        · exact (show _ = _ from M.blkAt (i := 1) rfl).trans (show _ = _ from MV.blkAt (i := 1) rfl).symm
        exact (show _ = _ from M.blkAt (i := 0) rfl).trans (show _ = _ from MV.blkAt (i := 0) rfl).symm
      have hS := D_mosaic_pixel_fold N d_W d_P o pre ⟨(u, v), hq⟩ hs hr
      simp only [hS] at hi
      exact (M.pick [0,1,2,3,4,5,6,7] (by decide)).has i e hi
    have h := cfalse hb h
    refine wp_skip (inb_n (then_n (wp_seq (X_reg ?_))))
    refine X_o K M ?_; clear K
    refine Y_o M ?_
    refine Y_r (fun _ K => rd_field rfl fld34_2 K rfl) M ?_
    refine Y_o M ?_; intro a K
    refine wpList_nil (then_n (wp_ret ?_))
    refine ret1 K rfl (res_tmp K rfl) ⟨_, rfl, ?_⟩; clear K; intro a K
    refine ⟨M.pick [0,1,2,3,4,5,6,7] (by decide), ?_⟩
    refine T_o K ?_; clear K
    refine U_r (fun _ K => rd_ldC rfl sc3 K rfl (inM 4 rfl) rfl) ?_
    refine U_r (fun _ K => rd_field rfl fld45_2 K rfl) ?_
    refine U_r (fun _ K => rd_ldC rfl sc43 K rfl (inM 7 rfl) rfl) ?_
    refine U_o ?_
    refine U_r (fun _ K => rd_field rfl fld45_0 K rfl) ?_
    refine U_r (fun _ K => rd_ldC rfl sc3 K rfl (inM 7 rfl) rfl) ?_
    iterate 3 (refine U_o ?_)
    obtain ⟨e6, h_e6, h⟩ := obind h
    refine U_r (fun _ K => rd_ix rfl sl43 K rfl rfl (inA2 hbV R_d_P) h_e6) ?_
    refine U_r (fun _ K => rd_elC rfl sc3 K rfl rfl (inA2 hbV R_d_P) h_e6 rfl) ?_
    iterate 2 (refine U_o ?_)
    intro a K
    refine T_b K (ac_storeC rfl sc3 K rfl rfl rfl 4 M rfl rfl) ?_
    clear K M; rintro _ a w M K
    refine T_end ?_
    refine then_n ?_
    refine X_regI (by kernel_rfl) (fun ⟨_, _, h⟩ => h) ?_
    refine X_o K M ?_; clear K; intro a K
    refine X_inl (vs := [.pointer (some ⟨g_x5, 0, none⟩), I r3.1]) (cap := []) K (want_no rfl) rfl rfl rfl fok75 rfl rfl ?_; clear K
    refine X_enter Try.func75 rfl Try.ntmps75 rfl ?_
    intro a K
    have K : Kn a 19 [(0, .pointer (some ⟨g_x5, 0, none⟩)), (1, I r3.1)] := K
    refine wp_seq (X_reg ?_)
    refine X_o K M ?_; clear K; intro a K
    refine wpList_nil (then_n (wp_seq (wp_seq (X_reg ?_))))
    refine X_o K M ?_; clear K; intro a K
    refine wpList_nil (then_n (wp_block (wp_seq (X_reg ?_))))
    refine X_o K M ?_; clear K
    refine Y_o M ?_; intro a K
    refine wpList_nil (then_n ?_)
    refine X_cond K rfl (fun hb => ?_) (fun hb => ?_)
    · have h := ctrue hb h
      refine wp_seq (X_reg ?_)
      refine X_o K M ?_; clear K
      refine Y_o M ?_
      refine Y_r (fun _ K => rd_field rfl fld34_0 K rfl) M ?_
      refine Y_o M ?_; intro a K
      refine wpList_nil (then_n (wp_ret (inb_r (then_r ?_))))
      refine ret1 K rfl (res_tmp K rfl) ⟨_, rfl, ?_⟩; clear K; intro a K
      refine X_o K M ?_; clear K
      refine Y_r (fun _ K => rd_ldC rfl sc3 K rfl (inM 3 rfl) rfl) M ?_
      iterate 2 (refine Y_o M ?_)
      intro a K
      refine X_b K (ac_storeC rfl sc3 K rfl rfl rfl 3 M rfl rfl) ?_
      clear K M; rintro _ a w M K
      refine wpList_nil (inb_n ?_)
      cases h
      refine ⟨M.others, fun k hk _ => ?_, hbV.trans M.low, fun i e hi => ?_⟩
      · simp only [List.mem_cons, List.not_mem_nil, or_false] at hk
        rcases hk with rfl | rfl | rfl
        · exact (show _ = _ from M.blkAt (i := 2) rfl).trans (show _ = _ from MV.blkAt (i := 2) rfl).symm
        · exact (show _ = _ from M.blkAt (i := 1) rfl).trans (show _ = _ from MV.blkAt (i := 1) rfl).symm
        exact (show _ = _ from M.blkAt (i := 0) rfl).trans (show _ = _ from MV.blkAt (i := 0) rfl).symm
      have hS := D_mosaic_pixel_fold N d_W d_P o pre ⟨(u, v), hq⟩ hs hr
      simp only [hS] at hi
      exact (M.pick [0,1,2,3,4,5,6,7] (by decide)).has i e hi
    have h := cfalse hb h
    refine wp_seq (X_reg ?_)
    refine X_o K M ?_; clear K
    refine Y_o M ?_; intro a K
    refine wpList_nil (then_n ?_)
    refine X_cond K rfl (fun hb => ?_) (fun hb => ?_)
    · have h := ctrue hb h
      refine wp_seq (X_reg ?_)
      refine X_o K M ?_; clear K
      refine Y_o M ?_
      refine Y_r (fun _ K => rd_field rfl fld34_1 K rfl) M ?_
      refine Y_o M ?_; intro a K
      refine wpList_nil (then_n (wp_ret (inb_r (then_r ?_))))
      refine ret1 K rfl (res_tmp K rfl) ⟨_, rfl, ?_⟩; clear K; intro a K
      refine X_o K M ?_; clear K
      refine Y_r (fun _ K => rd_ldC rfl sc3 K rfl (inM 3 rfl) rfl) M ?_
      iterate 2 (refine Y_o M ?_)
      intro a K
      refine X_b K (ac_storeC rfl sc3 K rfl rfl rfl 3 M rfl rfl) ?_
      clear K M; rintro _ a w M K
      refine wpList_nil (inb_n ?_)
      cases h
      refine ⟨M.others, fun k hk _ => ?_, hbV.trans M.low, fun i e hi => ?_⟩
      · simp only [List.mem_cons, List.not_mem_nil, or_false] at hk
        rcases hk with rfl | rfl | rfl
        · exact (show _ = _ from M.blkAt (i := 2) rfl).trans (show _ = _ from MV.blkAt (i := 2) rfl).symm
        · exact (show _ = _ from M.blkAt (i := 1) rfl).trans (show _ = _ from MV.blkAt (i := 1) rfl).symm
        exact (show _ = _ from M.blkAt (i := 0) rfl).trans (show _ = _ from MV.blkAt (i := 0) rfl).symm
      have hS := D_mosaic_pixel_fold N d_W d_P o pre ⟨(u, v), hq⟩ hs hr
      simp only [hS] at hi
      exact (M.pick [0,1,2,3,4,5,6,7] (by decide)).has i e hi
    have h := cfalse hb h
    refine wp_skip (inb_n (then_n (wp_seq (X_reg ?_))))
    refine X_o K M ?_; clear K
    refine Y_o M ?_
    refine Y_r (fun _ K => rd_field rfl fld34_2 K rfl) M ?_
    refine Y_o M ?_; intro a K
    refine wpList_nil (then_n (wp_ret ?_))
    refine ret1 K rfl (res_tmp K rfl) ⟨_, rfl, ?_⟩; clear K; intro a K
    refine X_o K M ?_; clear K
    refine Y_r (fun _ K => rd_ldC rfl sc3 K rfl (inM 3 rfl) rfl) M ?_
    iterate 2 (refine Y_o M ?_)
    intro a K
    refine X_b K (ac_storeC rfl sc3 K rfl rfl rfl 3 M rfl rfl) ?_
    clear K M; rintro _ a w M K
    refine wpList_nil (inb_n ?_)
    cases h
    refine ⟨M.others, fun k hk _ => ?_, hbV.trans M.low, fun i e hi => ?_⟩
    · simp only [List.mem_cons, List.not_mem_nil, or_false] at hk
      rcases hk with rfl | rfl | rfl
      · exact (show _ = _ from M.blkAt (i := 2) rfl).trans (show _ = _ from MV.blkAt (i := 2) rfl).symm
      · exact (show _ = _ from M.blkAt (i := 1) rfl).trans (show _ = _ from MV.blkAt (i := 1) rfl).symm
      exact (show _ = _ from M.blkAt (i := 0) rfl).trans (show _ = _ from MV.blkAt (i := 0) rfl).symm
    have hS := D_mosaic_pixel_fold N d_W d_P o pre ⟨(u, v), hq⟩ hs hr
    simp only [hS] at hi
    exact (M.pick [0,1,2,3,4,5,6,7] (by decide)).has i e hi
  rintro D xs V hBD hxs ⟨hbV, hasV⟩ hD
  replace hBD := Nat.le_trans M.sz hBD
  rw [hxs] at hasV
  obtain ⟨s, hs⟩ : ∃ s, List.foldl (D_mosaic_pixel_s N d_W d_P o) (0, 0, 0, 0, 0, 0) (aroundL d_W d_H p2 p3) = s := ⟨_, rfl⟩
  rw [hs] at h
  simp only [hs] at hasV
  obtain ⟨x_R, x_G, x_B, x_R2, x_G2, x_B2⟩ := s
  replace M : Mem w0.heap.size V V [.blk g_y 3 [I p3], .blk g_x6 3 [I p2], .blk g_p 45 [I d_W, I d_H, .slice A_d_P d_P.length c_d_P], .blk g_x5 34 [I x_R, I x_G, I x_B], .blk g_x4 34 [I x_R2, I x_G2, I x_B2], .blk g_x3 34 [I 0, I 0, I 0], .blk g_x2 3 [I o], .blk g_x 45 [I d_W, I d_H, .slice A_d_P d_P.length c_d_P]] := M.round rfl hbV hasV
  replace K := K.mark { target := .collected D, args := #[] }
  clear hs hasV hxs
  unfold D_mosaic_pixel_r at h
  try dsimp only at h
  refine inb_n (then_n (wp_seq (wp_seq (X_reg ?_))))
  refine X_o K M ?_; clear K; intro a K
  refine wpList_nil (then_n (wp_block ?_))
  refine X_lp (id := 2) (Rel := fun (⟨x_R3, x_G3, x_B3, i⟩ : Int × Int × Int × Int) a w => Kd [{ target := .collected D, args := #[] }] a 92 [(2, I p2), (3, I p3), (4, .pointer (some ⟨g_x, 0, none⟩)), (5, .pointer (some ⟨g_x2, 0, none⟩)), (8, .pointer (some ⟨g_x3, 0, none⟩)), (9, .pointer (some ⟨g_x4, 0, none⟩)), (10, .pointer (some ⟨g_x5, 0, none⟩)), (54, I i)] ∧ Mem w0.heap.size V w [.blk g_x5 34 [I x_R, I x_G, I x_B], .blk g_x4 34 [I x_R3, I x_G3, I x_B3], .blk g_x3 34 [I 0, I 0, I 0], .blk g_x2 3 [I o], .blk g_x 45 [I d_W, I d_H, .slice A_d_P d_P.length c_d_P]]) h (fun _ _ => rfl) ⟨K.pick [2,3,4,5,8,9,10,54], M.pick [3,4,5,6,7] (by decide)⟩ ?_ ?_
  · clear K M h
    rintro ⟨x_R4, x_G4, x_B4, i2⟩ a w ⟨K, M⟩ h
    try dsimp only at h
    refine inb_e ?_
    refine then_n (wp_seq (X_reg ?_))
    refine X_r K (rd_ldC rfl sc3 K rfl (inM 3 rfl) rfl) M ?_; clear K
    iterate 2 (refine Y_o M ?_)
    intro a K
    obtain ⟨r4, h_r4, h⟩ := obind h
    refine X_a K (ac_call (vs := [I o, I p2, I p3]) (cap := []) rfl fok74 K rfl rfl (W_sensor_Colour N o p2 p3 _  r4 h_r4)) ?_
    have M0 := M; clear K M; rintro _ a w ⟨rfl, M⟩ K
    replace M := M0.call M; clear M0
    refine X_o K M ?_; clear K
    iterate 4 (refine Y_o M ?_)
    intro a K
    refine wpList_nil (then_n (wp_seq ?_))
    refine wp_region_tl (fun w => Mem _ _ w _) [0,1,0,0,0,0,0,0,0,0,0,0,0,2] (by kernel_rfl) (by kernel_rfl) M.drew ?_
    replace M := M.drew
    refine T_o K ?_; clear K; intro a K
    refine T_inl (vs := [.pointer (some ⟨g_x4, 0, none⟩), I r4.1]) (cap := []) K (want_no rfl) rfl rfl rfl fok75 rfl rfl ?_; clear K
    refine X_enter Try.func75 rfl Try.ntmps75 rfl ?_
    intro a K
    have K : Kn a 19 [(0, .pointer (some ⟨g_x4, 0, none⟩)), (1, I r4.1)] := K
    refine wp_seq (X_reg ?_)
    refine X_o K M ?_; clear K; intro a K
    refine wpList_nil (then_n (wp_seq (wp_seq (X_reg ?_))))
    refine X_o K M ?_; clear K; intro a K
    refine wpList_nil (then_n (wp_block (wp_seq (X_reg ?_))))
    refine X_o K M ?_; clear K
    refine Y_o M ?_; intro a K
    refine wpList_nil (then_n ?_)
    refine X_cond K rfl (fun hb => ?_) (fun hb => ?_)
    · have h := ctrue hb h
      refine wp_seq (X_reg ?_)
      refine X_o K M ?_; clear K
      refine Y_o M ?_
      refine Y_r (fun _ K => rd_field rfl fld34_0 K rfl) M ?_
      refine Y_o M ?_; intro a K
      refine wpList_nil (then_n (wp_ret (inb_r (then_r ?_))))
      refine ret1 K rfl (res_tmp K rfl) ⟨_, rfl, ?_⟩; clear K; intro a K
      refine ⟨M.pick [0,1,2,3,4] (by decide), ?_⟩
      refine T_r K (rd_field rfl fld45_2 K rfl) ?_; clear K
      refine U_r (fun _ K => rd_ldC rfl sc43 K rfl (inM 4 rfl) rfl) ?_
      refine U_o ?_
      refine U_r (fun _ K => rd_field rfl fld45_0 K rfl) ?_
      refine U_r (fun _ K => rd_ldC rfl sc3 K rfl (inM 4 rfl) rfl) ?_
      iterate 3 (refine U_o ?_)
      obtain ⟨e7, h_e7, h⟩ := obind h
      refine U_r (fun _ K => rd_ix rfl sl43 K rfl rfl (inA2 hbV R_d_P) h_e7) ?_
      refine U_r (fun _ K => rd_elC rfl sc3 K rfl rfl (inA2 hbV R_d_P) h_e7 rfl) ?_
      refine U_o ?_; intro a K
      refine T_b K (ac_storeC rfl sc3 K rfl rfl rfl 1 M rfl rfl) ?_
      clear K M; rintro _ a w M K
      refine T_end ?_
      refine then_n (wp_seq (X_reg ?_))
      refine X_r K (rd_ldA rfl ty34 K rfl (inM 1 rfl) rfl rfl) M ?_; clear K; intro a K
      refine X_b K (ac_storeA rfl ty34 K rfl (ds := [I e7, I x_G4, I x_B4]) rfl rfl 2 M rfl rfl rfl) ?_
      clear K M; rintro _ a w M K
      refine wpList_nil (then_n (wp_ret ?_))
      cases h
      have hDw := M.oth D _ hD rfl
      exact retM1 K hDw rfl (res_cellA K rfl ty34 (M.putD hBD hDw (i := 2) rfl) rfl) ⟨_, rfl, rfl, Mem.fin (below_putD (hbV.trans M.low) hBD _)⟩
    have h := cfalse hb h
    refine wp_seq (X_reg ?_)
    refine X_o K M ?_; clear K
    refine Y_o M ?_; intro a K
    refine wpList_nil (then_n ?_)
    refine X_cond K rfl (fun hb => ?_) (fun hb => ?_)
    · have h := ctrue hb h
      refine wp_seq (X_reg ?_)
      refine X_o K M ?_; clear K
      refine Y_o M ?_
      refine Y_r (fun _ K => rd_field rfl fld34_1 K rfl) M ?_
      refine Y_o M ?_; intro a K
      refine wpList_nil (then_n (wp_ret (inb_r (then_r ?_))))
      refine ret1 K rfl (res_tmp K rfl) ⟨_, rfl, ?_⟩; clear K; intro a K
      refine ⟨M.pick [0,1,2,3,4] (by decide), ?_⟩
      refine T_r K (rd_field rfl fld45_2 K rfl) ?_; clear K
      refine U_r (fun _ K => rd_ldC rfl sc43 K rfl (inM 4 rfl) rfl) ?_
      refine U_o ?_
      refine U_r (fun _ K => rd_field rfl fld45_0 K rfl) ?_
      refine U_r (fun _ K => rd_ldC rfl sc3 K rfl (inM 4 rfl) rfl) ?_
      iterate 3 (refine U_o ?_)
      obtain ⟨e8, h_e8, h⟩ := obind h
      refine U_r (fun _ K => rd_ix rfl sl43 K rfl rfl (inA2 hbV R_d_P) h_e8) ?_
      refine U_r (fun _ K => rd_elC rfl sc3 K rfl rfl (inA2 hbV R_d_P) h_e8 rfl) ?_
      refine U_o ?_; intro a K
      refine T_b K (ac_storeC rfl sc3 K rfl rfl rfl 1 M rfl rfl) ?_
      clear K M; rintro _ a w M K
      refine T_end ?_
      refine then_n (wp_seq (X_reg ?_))
      refine X_r K (rd_ldA rfl ty34 K rfl (inM 1 rfl) rfl rfl) M ?_; clear K; intro a K
      refine X_b K (ac_storeA rfl ty34 K rfl (ds := [I x_R4, I e8, I x_B4]) rfl rfl 2 M rfl rfl rfl) ?_
      clear K M; rintro _ a w M K
      refine wpList_nil (then_n (wp_ret ?_))
      cases h
      have hDw := M.oth D _ hD rfl
      exact retM1 K hDw rfl (res_cellA K rfl ty34 (M.putD hBD hDw (i := 2) rfl) rfl) ⟨_, rfl, rfl, Mem.fin (below_putD (hbV.trans M.low) hBD _)⟩
    have h := cfalse hb h
    refine wp_skip (inb_n (then_n (wp_seq (X_reg ?_))))
    refine X_o K M ?_; clear K
    refine Y_o M ?_
    refine Y_r (fun _ K => rd_field rfl fld34_2 K rfl) M ?_
    refine Y_o M ?_; intro a K
    refine wpList_nil (then_n (wp_ret ?_))
    refine ret1 K rfl (res_tmp K rfl) ⟨_, rfl, ?_⟩; clear K; intro a K
    refine ⟨M.pick [0,1,2,3,4] (by decide), ?_⟩
    refine T_r K (rd_field rfl fld45_2 K rfl) ?_; clear K
    refine U_r (fun _ K => rd_ldC rfl sc43 K rfl (inM 4 rfl) rfl) ?_
    refine U_o ?_
    refine U_r (fun _ K => rd_field rfl fld45_0 K rfl) ?_
    refine U_r (fun _ K => rd_ldC rfl sc3 K rfl (inM 4 rfl) rfl) ?_
    iterate 3 (refine U_o ?_)
    obtain ⟨e9, h_e9, h⟩ := obind h
    refine U_r (fun _ K => rd_ix rfl sl43 K rfl rfl (inA2 hbV R_d_P) h_e9) ?_
    refine U_r (fun _ K => rd_elC rfl sc3 K rfl rfl (inA2 hbV R_d_P) h_e9 rfl) ?_
    refine U_o ?_; intro a K
    refine T_b K (ac_storeC rfl sc3 K rfl rfl rfl 1 M rfl rfl) ?_
    clear K M; rintro _ a w M K
    refine T_end ?_
    refine then_n (wp_seq (X_reg ?_))
    refine X_r K (rd_ldA rfl ty34 K rfl (inM 1 rfl) rfl rfl) M ?_; clear K; intro a K
    refine X_b K (ac_storeA rfl ty34 K rfl (ds := [I x_R4, I x_G4, I e9]) rfl rfl 2 M rfl rfl rfl) ?_
    clear K M; rintro _ a w M K
    refine wpList_nil (then_n (wp_ret ?_))
    cases h
    have hDw := M.oth D _ hD rfl
    exact retM1 K hDw rfl (res_cellA K rfl ty34 (M.putD hBD hDw (i := 2) rfl) rfl) ⟨_, rfl, rfl, Mem.fin (below_putD (hbV.trans M.low) hBD _)⟩
  clear K M h
  rintro kk fuel ⟨x_R3, x_G3, x_B3, i⟩ a w hk1 ⟨K, M⟩ h
  unfold D_mosaic_pixel_l1 at h
  refine wp_seq (X_reg ?_)
  refine X_o K M ?_; clear K; intro a K
  refine wpList_nil (then_n (wp_seq ?_))
  refine X_cond K rfl (fun hb => ?_) (fun hb => ?_)
  · have h := ctrue hb h
    refine wp_skip (then_n (wp_seq (wp_block (wp_seq (X_reg ?_)))))
    refine X_o K M ?_; clear K
    refine Y_o M ?_; intro a K
    refine wpList_nil (then_n (wp_seq (X_reg ?_)))
    refine X_o K M ?_; clear K; intro a K
    refine X_inl (vs := [.pointer (some ⟨g_x5, 0, none⟩), I i]) (cap := []) K (want_no rfl) rfl rfl rfl fok75 rfl rfl ?_; clear K
    refine X_enter Try.func75 rfl Try.ntmps75 rfl ?_
    intro a K
    have K : Kn a 19 [(0, .pointer (some ⟨g_x5, 0, none⟩)), (1, I i)] := K
    refine wp_seq (X_reg ?_)
    refine X_o K M ?_; clear K; intro a K
    refine wpList_nil (then_n (wp_seq (wp_seq (X_reg ?_))))
    refine X_o K M ?_; clear K; intro a K
    refine wpList_nil (then_n (wp_block (wp_seq (X_reg ?_))))
    refine X_o K M ?_; clear K
    refine Y_o M ?_; intro a K
    refine wpList_nil (then_n ?_)
    refine X_cond K rfl (fun hb => ?_) (fun hb => ?_)
    · have h := ctrue hb h
      refine wp_seq (X_reg ?_)
      refine X_o K M ?_; clear K
      refine Y_o M ?_
      refine Y_r (fun _ K => rd_field rfl fld34_0 K rfl) M ?_
      refine Y_o M ?_; intro a K
      refine wpList_nil (then_n (wp_ret (inb_r (then_r ?_))))
      refine ret1 K rfl (res_tmp K rfl) ⟨_, rfl, ?_⟩; clear K; intro a K
      refine X_o K M ?_; clear K
      refine Y_r (fun _ K => rd_ldC rfl sc3 K rfl (inM 0 rfl) rfl) M ?_
      refine Y_o M ?_; intro a K
      refine wpList_nil (then_n (wp_seq (X_reg ?_)))
      refine X_o K M ?_; clear K
      refine Y_o M ?_; intro a K
      refine wpList_nil (then_n ?_)
      refine X_cond K rfl (fun hb => ?_) (fun hb => ?_)
      · have h := ctrue hb h
        refine X_reg ?_
        refine X_o K M ?_; clear K; intro a K
        refine X_inl (vs := [.pointer (some ⟨g_x4, 0, none⟩), I i]) (cap := []) K (want_no rfl) rfl rfl rfl fok75 rfl rfl ?_; clear K
        refine X_enter Try.func75 rfl Try.ntmps75 rfl ?_
        intro a K
        have K : Kn a 19 [(0, .pointer (some ⟨g_x4, 0, none⟩)), (1, I i)] := K
        refine wp_seq (X_reg ?_)
        refine X_o K M ?_; clear K; intro a K
        refine wpList_nil (then_n (wp_seq (wp_seq (X_reg ?_))))
        refine X_o K M ?_; clear K; intro a K
        refine wpList_nil (then_n (wp_block (wp_seq (X_reg ?_))))
        refine X_o K M ?_; clear K
        refine Y_o M ?_; intro a K
        refine wpList_nil (then_n ?_)
        refine X_cond K rfl (fun hb => ?_) (fun hb => ?_)
        · have h := ctrue hb h
          refine wp_seq (X_reg ?_)
          refine X_o K M ?_; clear K
          refine Y_o M ?_
          refine Y_r (fun _ K => rd_field rfl fld34_0 K rfl) M ?_
          refine Y_o M ?_; intro a K
          refine wpList_nil (then_n (wp_ret (inb_r (then_r ?_))))
          refine ret1 K rfl (res_tmp K rfl) ⟨_, rfl, ?_⟩; clear K; intro a K
          refine X_o K M ?_; clear K
          refine Y_r (fun _ K => rd_ldC rfl sc3 K rfl (inM 1 rfl) rfl) M ?_
          refine Y_o M ?_; intro a K
          obtain ⟨_, h0, h⟩ := obind h
          have h0 := nz_spec h0
          refine X_r K (rd_quo rfl K rfl rfl h0) M ?_; clear K
          refine Y_o M ?_; intro a K
          refine X_b K (ac_storeC rfl sc3 K rfl rfl rfl 1 M rfl rfl) ?_
          clear K M; rintro _ a w M K
          refine wpList_nil (inb_n (then_n (X_reg ?_)))
          refine X_o K M ?_; clear K
          refine Y_o M ?_; intro a K
          refine wpList_nil ?_
          exact then_n ⟨(IntKind.i64.wrap (Int.tdiv x_R3 x_R), x_G3, x_B3, IntKind.i64.wrap (i + 1)), ⟨K.pick [2,3,4,5,8,9,10,54], M.pick [0,1,2,3,4] (by decide)⟩, h⟩
        have h := cfalse hb h
        refine wp_seq (X_reg ?_)
        refine X_o K M ?_; clear K
        refine Y_o M ?_; intro a K
        refine wpList_nil (then_n ?_)
        refine X_cond K rfl (fun hb => ?_) (fun hb => ?_)
        · have h := ctrue hb h
          refine wp_seq (X_reg ?_)
          refine X_o K M ?_; clear K
          refine Y_o M ?_
          refine Y_r (fun _ K => rd_field rfl fld34_1 K rfl) M ?_
          refine Y_o M ?_; intro a K
          refine wpList_nil (then_n (wp_ret (inb_r (then_r ?_))))
          refine ret1 K rfl (res_tmp K rfl) ⟨_, rfl, ?_⟩; clear K; intro a K
          refine X_o K M ?_; clear K
          refine Y_r (fun _ K => rd_ldC rfl sc3 K rfl (inM 1 rfl) rfl) M ?_
          refine Y_o M ?_; intro a K
          obtain ⟨_, h0, h⟩ := obind h
          have h0 := nz_spec h0
          refine X_r K (rd_quo rfl K rfl rfl h0) M ?_; clear K
          refine Y_o M ?_; intro a K
          refine X_b K (ac_storeC rfl sc3 K rfl rfl rfl 1 M rfl rfl) ?_
          clear K M; rintro _ a w M K
          refine wpList_nil (inb_n (then_n (X_reg ?_)))
          refine X_o K M ?_; clear K
          refine Y_o M ?_; intro a K
          refine wpList_nil ?_
          exact then_n ⟨(x_R3, IntKind.i64.wrap (Int.tdiv x_G3 x_R), x_B3, IntKind.i64.wrap (i + 1)), ⟨K.pick [2,3,4,5,8,9,10,54], M.pick [0,1,2,3,4] (by decide)⟩, h⟩
        have h := cfalse hb h
        refine wp_skip (inb_n (then_n (wp_seq (X_reg ?_))))
        refine X_o K M ?_; clear K
        refine Y_o M ?_
        refine Y_r (fun _ K => rd_field rfl fld34_2 K rfl) M ?_
        refine Y_o M ?_; intro a K
        refine wpList_nil (then_n (wp_ret ?_))
        refine ret1 K rfl (res_tmp K rfl) ⟨_, rfl, ?_⟩; clear K; intro a K
        refine X_o K M ?_; clear K
        refine Y_r (fun _ K => rd_ldC rfl sc3 K rfl (inM 1 rfl) rfl) M ?_
        refine Y_o M ?_; intro a K
        obtain ⟨_, h0, h⟩ := obind h
        have h0 := nz_spec h0
        refine X_r K (rd_quo rfl K rfl rfl h0) M ?_; clear K
        refine Y_o M ?_; intro a K
        refine X_b K (ac_storeC rfl sc3 K rfl rfl rfl 1 M rfl rfl) ?_
        clear K M; rintro _ a w M K
        refine wpList_nil (inb_n (then_n (X_reg ?_)))
        refine X_o K M ?_; clear K
        refine Y_o M ?_; intro a K
        refine wpList_nil ?_
        exact then_n ⟨(x_R3, x_G3, IntKind.i64.wrap (Int.tdiv x_B3 x_R), IntKind.i64.wrap (i + 1)), ⟨K.pick [2,3,4,5,8,9,10,54], M.pick [0,1,2,3,4] (by decide)⟩, h⟩
      have h := cfalse hb h
      refine wp_skip (inb_n (then_n (X_reg ?_)))
      refine X_o K M ?_; clear K
      refine Y_o M ?_; intro a K
      refine wpList_nil ?_
      exact then_n ⟨(x_R3, x_G3, x_B3, IntKind.i64.wrap (i + 1)), ⟨K.pick [2,3,4,5,8,9,10,54], M.pick [0,1,2,3,4] (by decide)⟩, h⟩
    have h := cfalse hb h
    refine wp_seq (X_reg ?_)
    refine X_o K M ?_; clear K
    refine Y_o M ?_; intro a K
    refine wpList_nil (then_n ?_)
    refine X_cond K rfl (fun hb => ?_) (fun hb => ?_)
    · have h := ctrue hb h
      refine wp_seq (X_reg ?_)
      refine X_o K M ?_; clear K
      refine Y_o M ?_
      refine Y_r (fun _ K => rd_field rfl fld34_1 K rfl) M ?_
      refine Y_o M ?_; intro a K
      refine wpList_nil (then_n (wp_ret (inb_r (then_r ?_))))
      refine ret1 K rfl (res_tmp K rfl) ⟨_, rfl, ?_⟩; clear K; intro a K
      refine X_o K M ?_; clear K
      refine Y_r (fun _ K => rd_ldC rfl sc3 K rfl (inM 0 rfl) rfl) M ?_
      refine Y_o M ?_; intro a K
      refine wpList_nil (then_n (wp_seq (X_reg ?_)))
      refine X_o K M ?_; clear K
      refine Y_o M ?_; intro a K
      refine wpList_nil (then_n ?_)
      refine X_cond K rfl (fun hb => ?_) (fun hb => ?_)
      · have h := ctrue hb h
        refine X_reg ?_
        refine X_o K M ?_; clear K; intro a K
        refine X_inl (vs := [.pointer (some ⟨g_x4, 0, none⟩), I i]) (cap := []) K (want_no rfl) rfl rfl rfl fok75 rfl rfl ?_; clear K
        refine X_enter Try.func75 rfl Try.ntmps75 rfl ?_
        intro a K
        have K : Kn a 19 [(0, .pointer (some ⟨g_x4, 0, none⟩)), (1, I i)] := K
        refine wp_seq (X_reg ?_)
        refine X_o K M ?_; clear K; intro a K
        refine wpList_nil (then_n (wp_seq (wp_seq (X_reg ?_))))
        refine X_o K M ?_; clear K; intro a K
        refine wpList_nil (then_n (wp_block (wp_seq (X_reg ?_))))
        refine X_o K M ?_; clear K
        refine Y_o M ?_; intro a K
        refine wpList_nil (then_n ?_)
        refine X_cond K rfl (fun hb => ?_) (fun hb => ?_)
        · have h := ctrue hb h
          refine wp_seq (X_reg ?_)
          refine X_o K M ?_; clear K
          refine Y_o M ?_
          refine Y_r (fun _ K => rd_field rfl fld34_0 K rfl) M ?_
          refine Y_o M ?_; intro a K
          refine wpList_nil (then_n (wp_ret (inb_r (then_r ?_))))
          refine ret1 K rfl (res_tmp K rfl) ⟨_, rfl, ?_⟩; clear K; intro a K
          refine X_o K M ?_; clear K
          refine Y_r (fun _ K => rd_ldC rfl sc3 K rfl (inM 1 rfl) rfl) M ?_
          refine Y_o M ?_; intro a K
          obtain ⟨_, h0, h⟩ := obind h
          have h0 := nz_spec h0
          refine X_r K (rd_quo rfl K rfl rfl h0) M ?_; clear K
          refine Y_o M ?_; intro a K
          refine X_b K (ac_storeC rfl sc3 K rfl rfl rfl 1 M rfl rfl) ?_
          clear K M; rintro _ a w M K
          refine wpList_nil (inb_n (then_n (X_reg ?_)))
          refine X_o K M ?_; clear K
          refine Y_o M ?_; intro a K
          refine wpList_nil ?_
          exact then_n ⟨(IntKind.i64.wrap (Int.tdiv x_R3 x_G), x_G3, x_B3, IntKind.i64.wrap (i + 1)), ⟨K.pick [2,3,4,5,8,9,10,54], M.pick [0,1,2,3,4] (by decide)⟩, h⟩
        have h := cfalse hb h
        refine wp_seq (X_reg ?_)
        refine X_o K M ?_; clear K
        refine Y_o M ?_; intro a K
        refine wpList_nil (then_n ?_)
        refine X_cond K rfl (fun hb => ?_) (fun hb => ?_)
        · have h := ctrue hb h
          refine wp_seq (X_reg ?_)
          refine X_o K M ?_; clear K
          refine Y_o M ?_
          refine Y_r (fun _ K => rd_field rfl fld34_1 K rfl) M ?_
          refine Y_o M ?_; intro a K
          refine wpList_nil (then_n (wp_ret (inb_r (then_r ?_))))
          refine ret1 K rfl (res_tmp K rfl) ⟨_, rfl, ?_⟩; clear K; intro a K
          refine X_o K M ?_; clear K
          refine Y_r (fun _ K => rd_ldC rfl sc3 K rfl (inM 1 rfl) rfl) M ?_
          refine Y_o M ?_; intro a K
          obtain ⟨_, h0, h⟩ := obind h
          have h0 := nz_spec h0
          refine X_r K (rd_quo rfl K rfl rfl h0) M ?_; clear K
          refine Y_o M ?_; intro a K
          refine X_b K (ac_storeC rfl sc3 K rfl rfl rfl 1 M rfl rfl) ?_
          clear K M; rintro _ a w M K
          refine wpList_nil (inb_n (then_n (X_reg ?_)))
          refine X_o K M ?_; clear K
          refine Y_o M ?_; intro a K
          refine wpList_nil ?_
          exact then_n ⟨(x_R3, IntKind.i64.wrap (Int.tdiv x_G3 x_G), x_B3, IntKind.i64.wrap (i + 1)), ⟨K.pick [2,3,4,5,8,9,10,54], M.pick [0,1,2,3,4] (by decide)⟩, h⟩
        have h := cfalse hb h
        refine wp_skip (inb_n (then_n (wp_seq (X_reg ?_))))
        refine X_o K M ?_; clear K
        refine Y_o M ?_
        refine Y_r (fun _ K => rd_field rfl fld34_2 K rfl) M ?_
        refine Y_o M ?_; intro a K
        refine wpList_nil (then_n (wp_ret ?_))
        refine ret1 K rfl (res_tmp K rfl) ⟨_, rfl, ?_⟩; clear K; intro a K
        refine X_o K M ?_; clear K
        refine Y_r (fun _ K => rd_ldC rfl sc3 K rfl (inM 1 rfl) rfl) M ?_
        refine Y_o M ?_; intro a K
        obtain ⟨_, h0, h⟩ := obind h
        have h0 := nz_spec h0
        refine X_r K (rd_quo rfl K rfl rfl h0) M ?_; clear K
        refine Y_o M ?_; intro a K
        refine X_b K (ac_storeC rfl sc3 K rfl rfl rfl 1 M rfl rfl) ?_
        clear K M; rintro _ a w M K
        refine wpList_nil (inb_n (then_n (X_reg ?_)))
        refine X_o K M ?_; clear K
        refine Y_o M ?_; intro a K
        refine wpList_nil ?_
        exact then_n ⟨(x_R3, x_G3, IntKind.i64.wrap (Int.tdiv x_B3 x_G), IntKind.i64.wrap (i + 1)), ⟨K.pick [2,3,4,5,8,9,10,54], M.pick [0,1,2,3,4] (by decide)⟩, h⟩
      have h := cfalse hb h
      refine wp_skip (inb_n (then_n (X_reg ?_)))
      refine X_o K M ?_; clear K
      refine Y_o M ?_; intro a K
      refine wpList_nil ?_
      exact then_n ⟨(x_R3, x_G3, x_B3, IntKind.i64.wrap (i + 1)), ⟨K.pick [2,3,4,5,8,9,10,54], M.pick [0,1,2,3,4] (by decide)⟩, h⟩
    have h := cfalse hb h
    refine wp_skip (inb_n (then_n (wp_seq (X_reg ?_))))
    refine X_o K M ?_; clear K
    refine Y_o M ?_
    refine Y_r (fun _ K => rd_field rfl fld34_2 K rfl) M ?_
    refine Y_o M ?_; intro a K
    refine wpList_nil (then_n (wp_ret ?_))
    refine ret1 K rfl (res_tmp K rfl) ⟨_, rfl, ?_⟩; clear K; intro a K
    refine X_o K M ?_; clear K
    refine Y_r (fun _ K => rd_ldC rfl sc3 K rfl (inM 0 rfl) rfl) M ?_
    refine Y_o M ?_; intro a K
    refine wpList_nil (then_n (wp_seq (X_reg ?_)))
    refine X_o K M ?_; clear K
    refine Y_o M ?_; intro a K
    refine wpList_nil (then_n ?_)
    refine X_cond K rfl (fun hb => ?_) (fun hb => ?_)
    · have h := ctrue hb h
      refine X_reg ?_
      refine X_o K M ?_; clear K; intro a K
      refine X_inl (vs := [.pointer (some ⟨g_x4, 0, none⟩), I i]) (cap := []) K (want_no rfl) rfl rfl rfl fok75 rfl rfl ?_; clear K
      refine X_enter Try.func75 rfl Try.ntmps75 rfl ?_
      intro a K
      have K : Kn a 19 [(0, .pointer (some ⟨g_x4, 0, none⟩)), (1, I i)] := K
      refine wp_seq (X_reg ?_)
      refine X_o K M ?_; clear K; intro a K
      refine wpList_nil (then_n (wp_seq (wp_seq (X_reg ?_))))
      refine X_o K M ?_; clear K; intro a K
      refine wpList_nil (then_n (wp_block (wp_seq (X_reg ?_))))
      refine X_o K M ?_; clear K
      refine Y_o M ?_; intro a K
      refine wpList_nil (then_n ?_)
      refine X_cond K rfl (fun hb => ?_) (fun hb => ?_)
      · have h := ctrue hb h
        refine wp_seq (X_reg ?_)
        refine X_o K M ?_; clear K
        refine Y_o M ?_
        refine Y_r (fun _ K => rd_field rfl fld34_0 K rfl) M ?_
        refine Y_o M ?_; intro a K
        refine wpList_nil (then_n (wp_ret (inb_r (then_r ?_))))
        refine ret1 K rfl (res_tmp K rfl) ⟨_, rfl, ?_⟩; clear K; intro a K
        refine X_o K M ?_; clear K
        refine Y_r (fun _ K => rd_ldC rfl sc3 K rfl (inM 1 rfl) rfl) M ?_
        refine Y_o M ?_; intro a K
        obtain ⟨_, h0, h⟩ := obind h
        have h0 := nz_spec h0
        refine X_r K (rd_quo rfl K rfl rfl h0) M ?_; clear K
        refine Y_o M ?_; intro a K
        refine X_b K (ac_storeC rfl sc3 K rfl rfl rfl 1 M rfl rfl) ?_
        clear K M; rintro _ a w M K
        refine wpList_nil (inb_n (then_n (X_reg ?_)))
        refine X_o K M ?_; clear K
        refine Y_o M ?_; intro a K
        refine wpList_nil ?_
        exact then_n ⟨(IntKind.i64.wrap (Int.tdiv x_R3 x_B), x_G3, x_B3, IntKind.i64.wrap (i + 1)), ⟨K.pick [2,3,4,5,8,9,10,54], M.pick [0,1,2,3,4] (by decide)⟩, h⟩
      have h := cfalse hb h
      refine wp_seq (X_reg ?_)
      refine X_o K M ?_; clear K
      refine Y_o M ?_; intro a K
      refine wpList_nil (then_n ?_)
      refine X_cond K rfl (fun hb => ?_) (fun hb => ?_)
      · have h := ctrue hb h
        refine wp_seq (X_reg ?_)
        refine X_o K M ?_; clear K
        refine Y_o M ?_
        refine Y_r (fun _ K => rd_field rfl fld34_1 K rfl) M ?_
        refine Y_o M ?_; intro a K
        refine wpList_nil (then_n (wp_ret (inb_r (then_r ?_))))
        refine ret1 K rfl (res_tmp K rfl) ⟨_, rfl, ?_⟩; clear K; intro a K
        refine X_o K M ?_; clear K
        refine Y_r (fun _ K => rd_ldC rfl sc3 K rfl (inM 1 rfl) rfl) M ?_
        refine Y_o M ?_; intro a K
        obtain ⟨_, h0, h⟩ := obind h
        have h0 := nz_spec h0
        refine X_r K (rd_quo rfl K rfl rfl h0) M ?_; clear K
        refine Y_o M ?_; intro a K
        refine X_b K (ac_storeC rfl sc3 K rfl rfl rfl 1 M rfl rfl) ?_
        clear K M; rintro _ a w M K
        refine wpList_nil (inb_n (then_n (X_reg ?_)))
        refine X_o K M ?_; clear K
        refine Y_o M ?_; intro a K
        refine wpList_nil ?_
        exact then_n ⟨(x_R3, IntKind.i64.wrap (Int.tdiv x_G3 x_B), x_B3, IntKind.i64.wrap (i + 1)), ⟨K.pick [2,3,4,5,8,9,10,54], M.pick [0,1,2,3,4] (by decide)⟩, h⟩
      have h := cfalse hb h
      refine wp_skip (inb_n (then_n (wp_seq (X_reg ?_))))
      refine X_o K M ?_; clear K
      refine Y_o M ?_
      refine Y_r (fun _ K => rd_field rfl fld34_2 K rfl) M ?_
      refine Y_o M ?_; intro a K
      refine wpList_nil (then_n (wp_ret ?_))
      refine ret1 K rfl (res_tmp K rfl) ⟨_, rfl, ?_⟩; clear K; intro a K
      refine X_o K M ?_; clear K
      refine Y_r (fun _ K => rd_ldC rfl sc3 K rfl (inM 1 rfl) rfl) M ?_
      refine Y_o M ?_; intro a K
      obtain ⟨_, h0, h⟩ := obind h
      have h0 := nz_spec h0
      refine X_r K (rd_quo rfl K rfl rfl h0) M ?_; clear K
      refine Y_o M ?_; intro a K
      refine X_b K (ac_storeC rfl sc3 K rfl rfl rfl 1 M rfl rfl) ?_
      clear K M; rintro _ a w M K
      refine wpList_nil (inb_n (then_n (X_reg ?_)))
      refine X_o K M ?_; clear K
      refine Y_o M ?_; intro a K
      refine wpList_nil ?_
      exact then_n ⟨(x_R3, x_G3, IntKind.i64.wrap (Int.tdiv x_B3 x_B), IntKind.i64.wrap (i + 1)), ⟨K.pick [2,3,4,5,8,9,10,54], M.pick [0,1,2,3,4] (by decide)⟩, h⟩
    have h := cfalse hb h
    refine wp_skip (inb_n (then_n (X_reg ?_)))
    refine X_o K M ?_; clear K
    refine Y_o M ?_; intro a K
    refine wpList_nil ?_
    exact then_n ⟨(x_R3, x_G3, x_B3, IntKind.i64.wrap (i + 1)), ⟨K.pick [2,3,4,5,8,9,10,54], M.pick [0,1,2,3,4] (by decide)⟩, h⟩
  have h := cfalse hb h
  refine wp_exit ?_
  refine then_e ?_
  exact then_e (hk1 (x_R3, x_G3, x_B3, i) _ _ ⟨K.pick [2,3,4,5,8,9,10,54], M.pick [0,1,2,3,4] (by decide)⟩ h)
set_option maxRecDepth 100000 in
set_option maxHeartbeats 4000000 in
theorem W_mosaic_Fill (N : Nat) (p_W : Int) (p_H : Int) (p_P : List Int) (A_p_P : Option Addr) (c_p_P : Nat) (phase : Int) (w0 : World) (R_p_P : SL w0 (cI .i64) A_p_P p_P) (C_p_P : p_P.length ≤ c_p_P) (r : Int × Int × List (Int × Int × Int) × Int) (h : D_mosaic_Fill N p_W p_H p_P phase = some r) :
    Calls Try.prog 104 #[.agg #[I p_W, I p_H, .slice A_p_P p_P.length c_p_P], I phase] w0 fun e w' => ∃ v, e = .returned v ∧ ∃ A2 c2, v = .tuple #[.agg #[I r.1, I r.2.1, .slice A2 r.2.2.1.length c2], I r.2.2.2] ∧ Mem w0.heap.size w0 w' [.row 34 3 A2 r.2.2.1.length c2 (cIII.all r.2.2.1)] := by
  refine X_enter Try.func104 rfl Try.ntmps104 rfl ?_
  intro a K
  have M := Mem.start w0
  have K : Kn a 55 [(0, .agg #[I p_W, I p_H, .slice A_p_P p_P.length c_p_P]), (1, I phase)] := K
  unfold D_mosaic_Fill at h
  refine wp_seq (X_reg ?_)
  refine X_a K (ac_box rfl K rfl (cs := [I p_W, I p_H, .slice A_p_P p_P.length c_p_P]) rfl M) ?_
  clear K M; rintro _ a w ⟨g_p, rfl, M⟩ K
  refine X_a K (ac_alloc rfl z24 M) ?_
  clear K M; rintro _ a w ⟨g_x, rfl, M⟩ K
  refine X_o K M ?_; clear K; intro a K
  refine wpList_nil (then_n (wp_seq (wp_seq (X_reg ?_))))
  refine X_r K (rd_ldA rfl ty45 K rfl (inM 1 rfl) rfl rfl) M ?_; clear K; intro a K
  obtain ⟨r2, h_r2, h⟩ := obind h
  refine X_a K (ac_call (vs := [.agg #[I p_W, I p_H, .slice A_p_P p_P.length c_p_P], .slice none (([] : List (Int × Int))).length 0]) (cap := []) rfl fok53 K rfl rfl (W_sensor_Repair N p_W p_H p_P A_p_P c_p_P (([] : List (Int × Int))) none 0 _ ((inA R_p_P) _ M) C_p_P ((fun _ _ => SL.nil) _ M) (Nat.le_refl _) r2 h_r2)) ?_
  have M0 := M; clear K M; rintro _ a w ⟨A, c, rfl, M⟩ K
  replace M := M0.call M; clear M0
  refine X_o K M ?_; clear K
  iterate 2 (refine Y_o M ?_)
  intro a K
  refine X_a K (ac_alloc rfl z45 M) ?_
  clear K M; rintro _ a w ⟨g__, rfl, M⟩ K
  refine X_b K (ac_storeA rfl ty45 K rfl (ds := [I r2.1, I r2.2.1, .slice A r2.2.2.1.length c]) rfl rfl 0 M rfl rfl rfl) ?_
  clear K M; rintro _ a w M K
  refine X_o K M ?_; clear K; intro a K
  refine wpList_nil (then_n (wp_seq (X_reg ?_)))
  refine X_o K M ?_; clear K
  refine Y_o M ?_; intro a K
  refine wpList_nil (then_n ?_)
  refine X_cond K rfl (fun hb => ?_) (fun hb => ?_)
  · have h := ctrue hb h
    refine wp_seq (X_reg ?_)
    refine X_r K (rd_build rfl K (vs := []) (cs := [I 0, I 0, .slice none (([] : List (Int × Int × Int))).length 0]) rfl (by kernel_rfl)) M ?_; clear K
    refine Y_o M ?_; intro a K
    refine X_b K (ac_storeA rfl ty24 K rfl (ds := [I 0, I 0, .slice none (([] : List (Int × Int × Int))).length 0]) rfl rfl 2 M rfl rfl rfl) ?_
    clear K M; rintro _ a w M K
    refine X_o K M ?_; clear K; intro a K
    refine wpList_nil (then_n (wp_ret (then_r ?_)))
    cases h
    exact ret2 K rfl (res_cellA K rfl ty24 (M.blkAt (i := 2) rfl) rfl) (res_tmp K rfl) ⟨_, rfl, _, _, rfl, (((Mem.nilrow 34 3 cIII M)).pick [0] (by decide))⟩
  have h := cfalse hb h
  refine wp_skip (then_n (wp_seq (wp_seq (X_reg ?_))))
  refine X_o K M ?_; clear K
  iterate 2 (refine Y_o M ?_)
  intro a K
  rcases Bool.eq_false_or_eq_true (decide (phase < 0)) with hb | hb
  · have h := ctrue hb h
    have K := K.reb (s := 22) rfl hb
    refine X_o K M ?_; clear K
    iterate 2 (refine Y_o M ?_)
    intro a K
    refine wpList_nil (then_n ?_)
    refine X_condT K rfl ?_
    refine wp_seq (X_reg ?_)
    refine X_r K (rd_build rfl K (vs := []) (cs := [I 0, I 0, .slice none (([] : List (Int × Int × Int))).length 0]) rfl (by kernel_rfl)) M ?_; clear K; intro a K
    refine X_b K (ac_storeA rfl ty24 K rfl (ds := [I 0, I 0, .slice none (([] : List (Int × Int × Int))).length 0]) rfl rfl 2 M rfl rfl rfl) ?_
    clear K M; rintro _ a w M K
    refine X_o K M ?_; clear K; intro a K
    refine wpList_nil (then_n (wp_ret (then_r ?_)))
    cases h
    exact ret2 K rfl (res_cellA K rfl ty24 (M.blkAt (i := 2) rfl) rfl) (res_tmp K rfl) ⟨_, rfl, _, _, rfl, (((Mem.nilrow 34 3 cIII M)).pick [0] (by decide))⟩
  have h := cfalse hb h
  have K := K.reb (s := 22) rfl hb
  refine X_o K M ?_; clear K
  iterate 2 (refine Y_o M ?_)
  intro a K
  refine wpList_nil (then_n ?_)
  refine X_cond K rfl (fun hb => ?_) (fun hb => ?_)
  · have h := ctrue hb h
    refine wp_seq (X_reg ?_)
    refine X_r K (rd_build rfl K (vs := []) (cs := [I 0, I 0, .slice none (([] : List (Int × Int × Int))).length 0]) rfl (by kernel_rfl)) M ?_; clear K; intro a K
    refine X_b K (ac_storeA rfl ty24 K rfl (ds := [I 0, I 0, .slice none (([] : List (Int × Int × Int))).length 0]) rfl rfl 2 M rfl rfl rfl) ?_
    clear K M; rintro _ a w M K
    refine X_o K M ?_; clear K; intro a K
    refine wpList_nil (then_n (wp_ret (then_r ?_)))
    cases h
    exact ret2 K rfl (res_cellA K rfl ty24 (M.blkAt (i := 2) rfl) rfl) (res_tmp K rfl) ⟨_, rfl, _, _, rfl, (((Mem.nilrow 34 3 cIII M)).pick [0] (by decide))⟩
  have h := cfalse hb h
  refine wp_skip (then_n (wp_seq (X_reg ?_)))
  refine X_r K (rd_field rfl fld45_0 K rfl) M ?_; clear K
  refine Y_r (fun _ K => rd_ldC rfl sc3 K rfl (inM 3 rfl) rfl) M ?_
  refine Y_r (fun _ K => rd_field rfl fld45_1 K rfl) M ?_
  refine Y_r (fun _ K => rd_ldC rfl sc3 K rfl (inM 3 rfl) rfl) M ?_
  refine Y_r (fun _ K => rd_build rfl K (vs := [(0, I p_W), (1, I p_H)]) (cs := [I p_W, I p_H, .slice none (([] : List (Int × Int × Int))).length 0]) rfl (by kernel_rfl)) M ?_; intro a K
  refine X_a K (ac_alloc rfl z24 M) ?_
  clear K M; rintro _ a w ⟨g_out, rfl, M⟩ K
  refine X_b K (ac_storeA rfl ty24 K rfl (ds := [I p_W, I p_H, .slice none (([] : List (Int × Int × Int))).length 0]) rfl rfl 0 M rfl rfl rfl) ?_
  clear K M; rintro _ a w M K
  refine wpList_nil (then_n (wp_seq (wp_seq (X_reg ?_))))
  refine X_r K (rd_field rfl fld45_1 K rfl) M ?_; clear K
  refine Y_r (fun _ K => rd_ldC rfl sc3 K rfl (inM 4 rfl) rfl) M ?_
  refine Y_o M ?_; intro a K
  refine wpList_nil (then_n (wp_block ?_))
  replace M := Mem.nilrow 34 3 cIII M
  refine X_lp (id := 0) (Rel := fun (⟨out_P, i⟩ : List (Int × Int × Int) × Int) a w => ∃ (A2 : Option Addr) (c2 : Nat), Kn a 55 [(1, I phase), (2, .pointer (some ⟨g_p, 0, none⟩)), (4, .pointer (some ⟨g_x, 0, none⟩)), (8, .pointer (some ⟨g_out, 0, none⟩)), (33, I p_H), (34, I i)] ∧ Mem w0.heap.size w0 w [.row 34 3 A2 out_P.length c2 (cIII.all out_P), .blk g_out 24 [I p_W, I p_H, .slice A2 out_P.length c2], .blk g_x 24 [I 0, I 0, .slice none (([] : List (Int × Int × Int))).length 0], .blk g_p 45 [I p_W, I p_H, .slice A_p_P p_P.length c_p_P]]) h (fun _ _ => rfl) ⟨none, 0, K.pick [1,2,4,8,33,34], M.pick [0,1,4,5] (by decide)⟩ ?_ ?_
  · clear K M h
    rintro ⟨out_P8, i5⟩ a w ⟨A9, c9, K, M⟩ h
    try dsimp only at h
    refine inb_e ?_
    refine then_n (wp_seq (X_reg ?_))
    refine X_r K (rd_ldA rfl ty24 K rfl (inM 1 rfl) rfl rfl) M ?_; clear K; intro a K
    refine X_b K (ac_storeA rfl ty24 K rfl (ds := [I p_W, I p_H, .slice A9 out_P8.length c9]) rfl rfl 2 M rfl rfl rfl) ?_
    clear K M; rintro _ a w M K
    refine X_o K M ?_; clear K; intro a K
    refine wpList_nil (then_n (wp_ret ?_))
    cases h
    exact ret2 K rfl (res_cellA K rfl ty24 (M.blkAt (i := 2) rfl) rfl) (res_tmp K rfl) ⟨_, rfl, _, _, rfl, ((M).pick [0] (by decide))⟩
  clear K M h
  rintro kk fuel ⟨out_P, i⟩ a w hk1 ⟨A2, c2, K, M⟩ h
  unfold D_mosaic_Fill_l1 at h
  refine wp_seq (X_reg ?_)
  refine X_o K M ?_; clear K; intro a K
  refine wpList_nil (then_n (wp_seq ?_))
  refine X_cond K rfl (fun hb => ?_) (fun hb => ?_)
  · have h := ctrue hb h
    refine wp_skip (then_n (wp_seq (wp_block (wp_seq (X_reg ?_)))))
    refine X_o K M ?_; clear K
    refine Y_o M ?_; intro a K
    refine wpList_nil (then_n (wp_seq (X_reg ?_)))
    refine X_r K (rd_field rfl fld45_0 K rfl) M ?_; clear K
    refine Y_r (fun _ K => rd_ldC rfl sc3 K rfl (inM 3 rfl) rfl) M ?_
    refine Y_o M ?_; intro a K
    refine wpList_nil (then_n (wp_block ?_))
    refine X_lp (id := 2) (Rel := fun (⟨out_P4, i3⟩ : List (Int × Int × Int) × Int) a w => ∃ (A5 : Option Addr) (c5 : Nat), Kn a 55 [(1, I phase), (2, .pointer (some ⟨g_p, 0, none⟩)), (4, .pointer (some ⟨g_x, 0, none⟩)), (8, .pointer (some ⟨g_out, 0, none⟩)), (33, I p_H), (34, I i), (9, I i), (38, I p_W), (39, I i3)] ∧ Mem w0.heap.size w0 w [.row 34 3 A5 out_P4.length c5 (cIII.all out_P4), .blk g_out 24 [I p_W, I p_H, .slice A5 out_P4.length c5], .blk g_x 24 [I 0, I 0, .slice none (([] : List (Int × Int × Int))).length 0], .blk g_p 45 [I p_W, I p_H, .slice A_p_P p_P.length c_p_P]]) h (fun _ _ => rfl) ⟨A2, c2, K.pick [1,2,4,8,33,34,9,38,39], M.pick [0,1,2,3] (by decide)⟩ ?_ ?_
    · clear K M h
      rintro ⟨out_P7, i4⟩ a w ⟨A8, c8, K, M⟩ h
      try dsimp only at h
      refine inb_e ?_
      refine inb_n (then_n (X_reg ?_))
      refine X_o K M ?_; clear K
      refine Y_o M ?_; intro a K
      refine wpList_nil ?_
      exact then_n ⟨(out_P7, IntKind.i64.wrap (i + 1)), ⟨A8, c8, K.pick [1,2,4,8,33,34], M.pick [0,1,2,3] (by decide)⟩, h⟩
    clear K M h
    rintro kk fuel ⟨out_P4, i3⟩ a w hk2 ⟨A5, c5, K, M⟩ h
    unfold D_mosaic_Fill_l2 at h
    refine wp_seq (X_reg ?_)
    refine X_o K M ?_; clear K; intro a K
    refine wpList_nil (then_n (wp_seq ?_))
    refine X_cond K rfl (fun hb => ?_) (fun hb => ?_)
    · have h := ctrue hb h
      refine wp_skip (then_n (wp_seq (wp_block (wp_seq (X_reg ?_)))))
      refine X_o K M ?_; clear K
      refine Y_o M ?_; intro a K
      refine wpList_nil (then_n ?_)
      refine wp_region_tl (fun w => Mem _ _ w _) [0,0,0,0,0,0,1,1,1,0,2] (by kernel_rfl) (by kernel_rfl) (M.pick [1,2,3] (by decide)).drew ?_
      replace M := M.drew
      refine T_r K (rd_field rfl fld24_2 K rfl) ?_; clear K
      refine U_r (fun _ K => rd_ldC rfl sc22 K rfl (inM 0 rfl) rfl) ?_
      refine U_r (fun _ K => rd_ldA rfl ty45 K rfl (inM 2 rfl) rfl rfl) ?_
      iterate 3 (refine U_o ?_)
      intro a K
      obtain ⟨r5, h_r5, h⟩ := obind h
      refine T_a K (ac_call (vs := [.agg #[I p_W, I p_H, .slice A_p_P p_P.length c_p_P], I phase, I i3, I i]) (cap := []) rfl fok105 K rfl rfl (W_mosaic_pixel N p_W p_H p_P A_p_P c_p_P phase i3 i _ ((inA R_p_P) _ M) C_p_P r5 h_r5)) ?_
      have M0 := M; clear K M; rintro _ a w ⟨rfl, M⟩ K
      replace M := M0.call M; clear M0
      refine ⟨M.pick [1,2,3] (by decide), ?_⟩
      refine T_a K (ac_bslice rfl sl22 z34 K (vs := [(0, .agg #[I r5.1, I r5.2.1, I r5.2.2])]) (cs := [I r5.1, I r5.2.1, I r5.2.2]) rfl (by kernel_rfl) rfl rfl M) ?_
      have M0 := M; clear K M; rintro _ a w ⟨gs3, rfl, M⟩ K
      replace M := M.asRow 0 rfl cIII ([(r5.1, r5.2.1, r5.2.2)] : List (Int × Int × Int)) (n := 1) rfl rfl rfl
      clear M0
      refine ⟨M.pick [2,3,4] (by decide), ?_⟩
      obtain ⟨out_P6, h_out_P6, h⟩ := obind h
      refine T_a K (ac_app (C := cIII) (xs := out_P4) (ys := ([(r5.1, r5.2.1, r5.2.2)] : List (Int × Int × Int))) rfl sl22 rfl z34 rfl rfl K rfl rfl 1 M rfl ((inR (C := cIII) 0 rfl rfl) _ M) h_out_P6) ?_
      clear K M; rintro _ a w ⟨A7, c7, rfl, M⟩ K
      refine ⟨M.pick [2,3,4] (by decide), ?_⟩
      refine T_r K (rd_field rfl fld24_2 K rfl) ?_; clear K; intro a K
      refine T_b K (ac_storeC rfl sc22 K rfl rfl rfl 2 M rfl rfl) ?_
      clear K M; rintro _ a w M K
      refine T_end ?_
      refine inb_n (then_n (X_reg ?_))
      refine X_o K M ?_; clear K
      refine Y_o M ?_; intro a K
      refine wpList_nil ?_
      exact then_n ⟨(out_P6, IntKind.i64.wrap (i3 + 1)), ⟨A7, c7, K.pick [1,2,4,8,33,34,9,38,39], M.pick [1,2,3,4] (by decide)⟩, h⟩
    have h := cfalse hb h
    refine wp_exit ?_
    refine then_e ?_
    exact then_e (hk2 (out_P4, i3) _ _ ⟨A5, c5, K.pick [1,2,4,8,33,34,9,38,39], M.pick [0,1,2,3] (by decide)⟩ h)
  have h := cfalse hb h
  refine wp_exit ?_
  refine then_e ?_
  exact then_e (hk1 (out_P, i) _ _ ⟨A2, c2, K.pick [1,2,4,8,33,34], M.pick [0,1,2,3] (by decide)⟩ h)
set_option maxRecDepth 100000 in
set_option maxHeartbeats 4000000 in
theorem W_mosaic_fine (N : Nat) (q_W : Int) (q_H : Int) (q_P : List (Int × Int × Int)) (A_q_P : Option Addr) (c_q_P : Nat) (w0 : World) (R_q_P : SL w0 cIII A_q_P q_P) (C_q_P : q_P.length ≤ c_q_P) (r : Bool) (h : D_mosaic_fine N q_W q_H q_P = some r) :
    Calls Try.prog 73 #[.agg #[I q_W, I q_H, .slice A_q_P q_P.length c_q_P]] w0 fun e w' => ∃ v, e = .returned v ∧ v = .bool r ∧ Mem w0.heap.size w0 w' [] := by
  refine X_enter Try.func73 rfl Try.ntmps73 rfl ?_
  intro a K
  have M := Mem.start w0
  have K : Kn a 60 [(0, .agg #[I q_W, I q_H, .slice A_q_P q_P.length c_q_P])] := K
  unfold D_mosaic_fine at h
  refine wp_seq (X_reg ?_)
  refine X_a K (ac_box rfl K rfl (cs := [I q_W, I q_H, .slice A_q_P q_P.length c_q_P]) rfl M) ?_
  clear K M; rintro _ a w ⟨g_q, rfl, M⟩ K
  refine X_o K M ?_; clear K; intro a K
  refine wpList_nil (then_n (wp_seq (wp_seq (X_reg ?_))))
  refine X_r K (rd_field rfl fld24_0 K rfl) M ?_; clear K
  refine Y_r (fun _ K => rd_ldC rfl sc3 K rfl (inM 0 rfl) rfl) M ?_
  iterate 2 (refine Y_o M ?_)
  intro a K
  rcases Bool.eq_false_or_eq_true (decide (q_W < 1)) with hb | hb
  · have h := ctrue hb h
    have K := K.reb (s := 8) rfl hb
    refine X_o K M ?_; clear K
    iterate 24 (refine Y_o M ?_)
    intro a K
    refine wpList_nil (then_n ?_)
    refine X_condT K rfl ?_
    refine wp_seq (X_reg ?_)
    refine X_o K M ?_; clear K; intro a K
    refine wpList_nil (then_n (wp_ret (then_r ?_)))
    cases h
    exact ret1 K rfl (res_tmp K rfl) ⟨_, rfl, rfl, ((M).pick [] (by decide))⟩
  have h := cfalse hb h
  have K := K.reb (s := 8) rfl hb
  refine X_r K (rd_field rfl fld24_0 K rfl) M ?_; clear K
  refine Y_r (fun _ K => rd_ldC rfl sc3 K rfl (inM 0 rfl) rfl) M ?_
  iterate 3 (refine Y_o M ?_)
  intro a K
  rcases Bool.eq_false_or_eq_true (decide (64 < q_W)) with hb | hb
  · have h := ctrue hb h
    have K := K.reb (s := 13) rfl hb
    refine X_o K M ?_; clear K
    iterate 19 (refine Y_o M ?_)
    intro a K
    refine wpList_nil (then_n ?_)
    refine X_condT K rfl ?_
    refine wp_seq (X_reg ?_)
    refine X_o K M ?_; clear K; intro a K
    refine wpList_nil (then_n (wp_ret (then_r ?_)))
    cases h
    exact ret1 K rfl (res_tmp K rfl) ⟨_, rfl, rfl, ((M).pick [] (by decide))⟩
  have h := cfalse hb h
  have K := K.reb (s := 13) rfl hb
  refine X_r K (rd_field rfl fld24_1 K rfl) M ?_; clear K
  refine Y_r (fun _ K => rd_ldC rfl sc3 K rfl (inM 0 rfl) rfl) M ?_
  iterate 3 (refine Y_o M ?_)
  intro a K
  rcases Bool.eq_false_or_eq_true (decide (q_H < 1)) with hb | hb
  · have h := ctrue hb h
    have K := K.reb (s := 18) rfl hb
    refine X_o K M ?_; clear K
    iterate 14 (refine Y_o M ?_)
    intro a K
    refine wpList_nil (then_n ?_)
    refine X_condT K rfl ?_
    refine wp_seq (X_reg ?_)
    refine X_o K M ?_; clear K; intro a K
    refine wpList_nil (then_n (wp_ret (then_r ?_)))
    cases h
    exact ret1 K rfl (res_tmp K rfl) ⟨_, rfl, rfl, ((M).pick [] (by decide))⟩
  have h := cfalse hb h
  have K := K.reb (s := 18) rfl hb
  refine X_r K (rd_field rfl fld24_1 K rfl) M ?_; clear K
  refine Y_r (fun _ K => rd_ldC rfl sc3 K rfl (inM 0 rfl) rfl) M ?_
  iterate 3 (refine Y_o M ?_)
  intro a K
  rcases Bool.eq_false_or_eq_true (decide (64 < q_H)) with hb | hb
  · have h := ctrue hb h
    have K := K.reb (s := 23) rfl hb
    refine X_o K M ?_; clear K
    iterate 9 (refine Y_o M ?_)
    intro a K
    refine wpList_nil (then_n ?_)
    refine X_condT K rfl ?_
    refine wp_seq (X_reg ?_)
    refine X_o K M ?_; clear K; intro a K
    refine wpList_nil (then_n (wp_ret (then_r ?_)))
    cases h
    exact ret1 K rfl (res_tmp K rfl) ⟨_, rfl, rfl, ((M).pick [] (by decide))⟩
  have h := cfalse hb h
  have K := K.reb (s := 23) rfl hb
  refine X_r K (rd_field rfl fld24_2 K rfl) M ?_; clear K
  refine Y_r (fun _ K => rd_ldC rfl sc22 K rfl (inM 0 rfl) rfl) M ?_
  refine Y_r (fun _ K => rd_len rfl un22 K rfl) M ?_
  refine Y_r (fun _ K => rd_field rfl fld24_0 K rfl) M ?_
  refine Y_r (fun _ K => rd_ldC rfl sc3 K rfl (inM 0 rfl) rfl) M ?_
  refine Y_r (fun _ K => rd_field rfl fld24_1 K rfl) M ?_
  refine Y_r (fun _ K => rd_ldC rfl sc3 K rfl (inM 0 rfl) rfl) M ?_
  iterate 3 (refine Y_o M ?_)
  intro a K
  refine wpList_nil (then_n ?_)
  refine X_cond K rfl (fun hb => ?_) (fun hb => ?_)
  · have h := ctrue hb h
    refine wp_seq (X_reg ?_)
    refine X_o K M ?_; clear K; intro a K
    refine wpList_nil (then_n (wp_ret (then_r ?_)))
    cases h
    exact ret1 K rfl (res_tmp K rfl) ⟨_, rfl, rfl, ((M).pick [] (by decide))⟩
  have h := cfalse hb h
  refine wp_skip (then_n (wp_seq (wp_seq (X_reg ?_))))
  refine X_r K (rd_field rfl fld24_2 K rfl) M ?_; clear K
  refine Y_r (fun _ K => rd_ldC rfl sc22 K rfl (inM 0 rfl) rfl) M ?_
  refine Y_r (fun _ K => rd_len rfl un22 K rfl) M ?_
  refine Y_o M ?_; intro a K
  refine wpList_nil (then_n (wp_block ?_))
  refine X_lp (id := 0) (Rel := fun (i : Int) a w => Kn a 60 [(35, .slice A_q_P q_P.length c_q_P), (36, I (q_P.length : Int)), (37, I i)] ∧ Mem w0.heap.size w0 w []) h (fun _ _ => rfl) ⟨K.pick [35,36,37], M.pick [] (by decide)⟩ ?_ ?_
  · clear K M h
    rintro i2 a w ⟨K, M⟩ h
    try dsimp only at h
    refine inb_e ?_
    refine then_n (wp_seq (X_reg ?_))
    refine X_o K M ?_; clear K; intro a K
    refine wpList_nil (then_n (wp_ret ?_))
    cases h
    exact ret1 K rfl (res_tmp K rfl) ⟨_, rfl, rfl, ((M).pick [] (by decide))⟩
  clear K M h
  rintro kk fuel i a w hk1 ⟨K, M⟩ h
  unfold D_mosaic_fine_l1 at h
  refine wp_seq (X_reg ?_)
  refine X_o K M ?_; clear K; intro a K
  refine wpList_nil (then_n (wp_seq ?_))
  refine X_cond K rfl (fun hb => ?_) (fun hb => ?_)
  · have h := ctrue hb h
    refine wp_skip (then_n (wp_seq (wp_block (wp_seq (X_reg ?_)))))
    obtain ⟨e2, h_e2, h⟩ := obind h
    refine X_r K (rd_ix rfl sl22 K rfl rfl (inA R_q_P) h_e2) M ?_; clear K
    refine Y_r (fun _ K => rd_elA rfl ty34 K rfl rfl rfl (inA R_q_P) h_e2) M ?_; intro a K
    refine X_a K (ac_alloc rfl z34 M) ?_
    clear K M; rintro _ a w ⟨g_c2, rfl, M⟩ K
    refine X_b K (ac_storeA rfl ty34 K rfl (ds := [I e2.1, I e2.2.1, I e2.2.2]) rfl rfl 0 M rfl rfl rfl) ?_
    clear K M; rintro _ a w M K
    refine wpList_nil (then_n (wp_seq (X_reg ?_)))
    refine X_r K (rd_field rfl fld34_0 K rfl) M ?_; clear K
    refine Y_r (fun _ K => rd_ldC rfl sc3 K rfl (inM 0 rfl) rfl) M ?_
    refine Y_r (fun _ K => rd_field rfl fld34_1 K rfl) M ?_
    refine Y_r (fun _ K => rd_ldC rfl sc3 K rfl (inM 0 rfl) rfl) M ?_
    refine Y_r (fun _ K => rd_field rfl fld34_2 K rfl) M ?_
    refine Y_r (fun _ K => rd_ldC rfl sc3 K rfl (inM 0 rfl) rfl) M ?_
    refine Y_r (fun _ K => rd_min3 rfl K rfl rfl rfl) M ?_
    iterate 2 (refine Y_o M ?_)
    intro a K
    rcases Bool.eq_false_or_eq_true (decide ((min (min e2.1 e2.2.1) e2.2.2) < 0)) with hb | hb
    · have h := ctrue hb h
      have K := K.reb (s := 49) rfl hb
      refine X_o K M ?_; clear K
      iterate 8 (refine Y_o M ?_)
      intro a K
      refine wpList_nil (then_n ?_)
      refine X_condT K rfl ?_
      refine wp_seq (X_reg ?_)
      refine X_o K M ?_; clear K; intro a K
      refine wpList_nil (then_n (wp_ret (inb_r (then_r (then_r (inb_r (then_r ?_)))))))
      cases h
      exact ret1 K rfl (res_tmp K rfl) ⟨_, rfl, rfl, ((M).pick [] (by decide))⟩
    have h := cfalse hb h
    have K := K.reb (s := 49) rfl hb
    refine X_r K (rd_field rfl fld34_0 K rfl) M ?_; clear K
    refine Y_r (fun _ K => rd_ldC rfl sc3 K rfl (inM 0 rfl) rfl) M ?_
    refine Y_r (fun _ K => rd_field rfl fld34_1 K rfl) M ?_
    refine Y_r (fun _ K => rd_ldC rfl sc3 K rfl (inM 0 rfl) rfl) M ?_
    refine Y_r (fun _ K => rd_field rfl fld34_2 K rfl) M ?_
    refine Y_r (fun _ K => rd_ldC rfl sc3 K rfl (inM 0 rfl) rfl) M ?_
    refine Y_r (fun _ K => rd_max3 rfl K rfl rfl rfl) M ?_
    iterate 2 (refine Y_o M ?_)
    intro a K
    refine wpList_nil (then_n ?_)
    refine X_cond K rfl (fun hb => ?_) (fun hb => ?_)
    · have h := ctrue hb h
      refine wp_seq (X_reg ?_)
      refine X_o K M ?_; clear K; intro a K
      refine wpList_nil (then_n (wp_ret (inb_r (then_r (then_r (inb_r (then_r ?_)))))))
      cases h
      exact ret1 K rfl (res_tmp K rfl) ⟨_, rfl, rfl, ((M).pick [] (by decide))⟩
    have h := cfalse hb h
    refine wp_skip (inb_n (then_n (X_reg ?_)))
    refine X_o K M ?_; clear K
    refine Y_o M ?_; intro a K
    refine wpList_nil ?_
    exact then_n ⟨(IntKind.i64.wrap (i + 1)), ⟨K.pick [35,36,37], M.pick [] (by decide)⟩, h⟩
  have h := cfalse hb h
  refine wp_exit ?_
  refine then_e ?_
  exact then_e (hk1 i _ _ ⟨K.pick [35,36,37], M.pick [] (by decide)⟩ h)
set_option maxRecDepth 100000 in
set_option maxHeartbeats 4000000 in
theorem W_mosaic_Take (N : Nat) (q_W : Int) (q_H : Int) (q_P : List (Int × Int × Int)) (A_q_P : Option Addr) (c_q_P : Nat) (phase : Int) (w0 : World) (R_q_P : SL w0 cIII A_q_P q_P) (C_q_P : q_P.length ≤ c_q_P) (r : Int × Int × List Int × Int) (h : D_mosaic_Take N q_W q_H q_P phase = some r) :
    Calls Try.prog 56 #[.agg #[I q_W, I q_H, .slice A_q_P q_P.length c_q_P], I phase] w0 fun e w' => ∃ v, e = .returned v ∧ ∃ A2 c2, v = .tuple #[.agg #[I r.1, I r.2.1, .slice A2 r.2.2.1.length c2], I r.2.2.2] ∧ Mem w0.heap.size w0 w' [.row 3 1 A2 r.2.2.1.length c2 ((cI .i64).all r.2.2.1)] := by
  refine X_enter Try.func56 rfl Try.ntmps56 rfl ?_
  intro a K
  have M := Mem.start w0
  have K : Kn a 60 [(0, .agg #[I q_W, I q_H, .slice A_q_P q_P.length c_q_P]), (1, I phase)] := K
  unfold D_mosaic_Take at h
  refine wp_seq (X_reg ?_)
  refine X_a K (ac_box rfl K rfl (cs := [I q_W, I q_H, .slice A_q_P q_P.length c_q_P]) rfl M) ?_
  clear K M; rintro _ a w ⟨g_q, rfl, M⟩ K
  refine X_a K (ac_alloc rfl z45 M) ?_
  clear K M; rintro _ a w ⟨g_x, rfl, M⟩ K
  refine X_o K M ?_; clear K; intro a K
  refine wpList_nil (then_n (wp_seq (wp_seq (X_reg ?_))))
  refine X_r K (rd_ldA rfl ty24 K rfl (inM 1 rfl) rfl rfl) M ?_; clear K; intro a K
  obtain ⟨r2, h_r2, h⟩ := obind h
  refine X_a K (ac_call (vs := [.agg #[I q_W, I q_H, .slice A_q_P q_P.length c_q_P]]) (cap := []) rfl fok73 K rfl rfl (W_mosaic_fine N q_W q_H q_P A_q_P c_q_P _ ((inA R_q_P) _ M) C_q_P r2 h_r2)) ?_
  have M0 := M; clear K M; rintro _ a w ⟨rfl, M⟩ K
  replace M := M0.call M; clear M0
  refine X_o K M ?_; clear K; intro a K
  refine wpList_nil (then_n ?_)
  refine X_cond K rfl (fun hb => ?_) (fun hb => ?_)
  · have h := ctrue hb h
    refine wp_seq (X_reg ?_)
    refine X_r K (rd_build rfl K (vs := []) (cs := [I 0, I 0, .slice none ([] : List Int).length 0]) rfl (by kernel_rfl)) M ?_; clear K; intro a K
    refine X_b K (ac_storeA rfl ty45 K rfl (ds := [I 0, I 0, .slice none ([] : List Int).length 0]) rfl rfl 0 M rfl rfl rfl) ?_
    clear K M; rintro _ a w M K
    refine X_o K M ?_; clear K; intro a K
    refine wpList_nil (then_n (wp_ret (then_r ?_)))
    cases h
    exact ret2 K rfl (res_cellA K rfl ty45 (M.blkAt (i := 0) rfl) rfl) (res_tmp K rfl) ⟨_, rfl, _, _, rfl, (((Mem.nilrow 3 1 (cI .i64) M)).pick [0] (by decide))⟩
  have h := cfalse hb h
  refine wp_skip (then_n (wp_seq (wp_seq (X_reg ?_))))
  refine X_o K M ?_; clear K
  iterate 2 (refine Y_o M ?_)
  intro a K
  rcases Bool.eq_false_or_eq_true (decide (phase < 0)) with hb | hb
  · have h := ctrue hb h
    have K := K.reb (s := 16) rfl hb
    refine X_o K M ?_; clear K
    iterate 2 (refine Y_o M ?_)
    intro a K
    refine wpList_nil (then_n ?_)
    refine X_condT K rfl ?_
    refine wp_seq (X_reg ?_)
    refine X_r K (rd_build rfl K (vs := []) (cs := [I 0, I 0, .slice none ([] : List Int).length 0]) rfl (by kernel_rfl)) M ?_; clear K; intro a K
    refine X_b K (ac_storeA rfl ty45 K rfl (ds := [I 0, I 0, .slice none ([] : List Int).length 0]) rfl rfl 0 M rfl rfl rfl) ?_
    clear K M; rintro _ a w M K
    refine X_o K M ?_; clear K; intro a K
    refine wpList_nil (then_n (wp_ret (then_r ?_)))
    cases h
    exact ret2 K rfl (res_cellA K rfl ty45 (M.blkAt (i := 0) rfl) rfl) (res_tmp K rfl) ⟨_, rfl, _, _, rfl, (((Mem.nilrow 3 1 (cI .i64) M)).pick [0] (by decide))⟩
  have h := cfalse hb h
  have K := K.reb (s := 16) rfl hb
  refine X_o K M ?_; clear K
  iterate 2 (refine Y_o M ?_)
  intro a K
  refine wpList_nil (then_n ?_)
  refine X_cond K rfl (fun hb => ?_) (fun hb => ?_)
  · have h := ctrue hb h
    refine wp_seq (X_reg ?_)
    refine X_r K (rd_build rfl K (vs := []) (cs := [I 0, I 0, .slice none ([] : List Int).length 0]) rfl (by kernel_rfl)) M ?_; clear K; intro a K
    refine X_b K (ac_storeA rfl ty45 K rfl (ds := [I 0, I 0, .slice none ([] : List Int).length 0]) rfl rfl 0 M rfl rfl rfl) ?_
    clear K M; rintro _ a w M K
    refine X_o K M ?_; clear K; intro a K
    refine wpList_nil (then_n (wp_ret (then_r ?_)))
    cases h
    exact ret2 K rfl (res_cellA K rfl ty45 (M.blkAt (i := 0) rfl) rfl) (res_tmp K rfl) ⟨_, rfl, _, _, rfl, (((Mem.nilrow 3 1 (cI .i64) M)).pick [0] (by decide))⟩
  have h := cfalse hb h
  refine wp_skip (then_n (wp_seq (X_reg ?_)))
  refine X_r K (rd_field rfl fld24_0 K rfl) M ?_; clear K
  refine Y_r (fun _ K => rd_ldC rfl sc3 K rfl (inM 1 rfl) rfl) M ?_
  refine Y_r (fun _ K => rd_field rfl fld24_1 K rfl) M ?_
  refine Y_r (fun _ K => rd_ldC rfl sc3 K rfl (inM 1 rfl) rfl) M ?_
  refine Y_r (fun _ K => rd_build rfl K (vs := [(0, I q_W), (1, I q_H)]) (cs := [I q_W, I q_H, .slice none ([] : List Int).length 0]) rfl (by kernel_rfl)) M ?_; intro a K
  refine X_a K (ac_alloc rfl z45 M) ?_
  clear K M; rintro _ a w ⟨g_out, rfl, M⟩ K
  refine X_b K (ac_storeA rfl ty45 K rfl (ds := [I q_W, I q_H, .slice none ([] : List Int).length 0]) rfl rfl 0 M rfl rfl rfl) ?_
  clear K M; rintro _ a w M K
  refine wpList_nil (then_n (wp_seq (wp_seq (X_reg ?_))))
  refine X_r K (rd_field rfl fld24_2 K rfl) M ?_; clear K
  refine Y_r (fun _ K => rd_ldC rfl sc22 K rfl (inM 2 rfl) rfl) M ?_
  refine Y_r (fun _ K => rd_len rfl un22 K rfl) M ?_
  refine Y_o M ?_; intro a K
  refine wpList_nil (then_n (wp_block ?_))
  replace M := Mem.nilrow 3 1 (cI .i64) M
  refine X_lp (id := 0) (Rel := fun (⟨out_P, i⟩ : List Int × Int) a w => ∃ (A : Option Addr) (c : Nat), Kn a 60 [(1, I phase), (2, .pointer (some ⟨g_q, 0, none⟩)), (4, .pointer (some ⟨g_x, 0, none⟩)), (6, .pointer (some ⟨g_out, 0, none⟩)), (28, I (q_P.length : Int)), (29, I i)] ∧ Mem w0.heap.size w0 w [.row 3 1 A out_P.length c ((cI .i64).all out_P), .blk g_out 45 [I q_W, I q_H, .slice A out_P.length c], .blk g_x 45 [I 0, I 0, .slice none ([] : List Int).length 0], .blk g_q 24 [I q_W, I q_H, .slice A_q_P q_P.length c_q_P]]) h (fun _ _ => rfl) ⟨none, 0, K.pick [1,2,4,6,28,29], M.pick [0,1,2,3] (by decide)⟩ ?_ ?_
  · clear K M h
    rintro ⟨out_P8, i2⟩ a w ⟨A8, c8, K, M⟩ h
    try dsimp only at h
    refine inb_e ?_
    refine then_n (wp_seq (X_reg ?_))
    refine X_r K (rd_ldA rfl ty45 K rfl (inM 1 rfl) rfl rfl) M ?_; clear K; intro a K
    refine X_b K (ac_storeA rfl ty45 K rfl (ds := [I q_W, I q_H, .slice A8 out_P8.length c8]) rfl rfl 2 M rfl rfl rfl) ?_
    clear K M; rintro _ a w M K
    refine X_o K M ?_; clear K; intro a K
    refine wpList_nil (then_n (wp_ret ?_))
    cases h
    exact ret2 K rfl (res_cellA K rfl ty45 (M.blkAt (i := 2) rfl) rfl) (res_tmp K rfl) ⟨_, rfl, _, _, rfl, ((M).pick [0] (by decide))⟩
  clear K M h
  rintro kk fuel ⟨out_P, i⟩ a w hk1 ⟨A, c, K, M⟩ h
  unfold D_mosaic_Take_l1 at h
  refine wp_seq (X_reg ?_)
  refine X_o K M ?_; clear K; intro a K
  refine wpList_nil (then_n (wp_seq ?_))
  refine X_cond K rfl (fun hb => ?_) (fun hb => ?_)
  · have h := ctrue hb h
    refine wp_skip (then_n (wp_seq (wp_block (wp_seq (X_reg ?_)))))
    refine X_o K M ?_; clear K
    refine Y_o M ?_; intro a K
    refine wpList_nil (then_n (wp_seq ?_))
    refine wp_region_tl (fun w => Mem _ _ w _) [0,0,0,0,0,0,0,0,0,1,0,0,0,0,0] (by kernel_rfl) (by kernel_rfl) M.drew ?_
    replace M := M.drew
    refine T_o K ?_; clear K
    refine U_o ?_
    refine U_r (fun _ K => rd_field rfl fld24_0 K rfl) ?_
    refine U_r (fun _ K => rd_ldC rfl sc3 K rfl (inM 3 rfl) rfl) ?_; intro a K
    obtain ⟨_, h0, h⟩ := obind h
    have h0 := nz_spec h0
    refine T_r K (rd_rem rfl K rfl rfl h0) ?_; clear K
    refine U_o ?_
    refine U_r (fun _ K => rd_field rfl fld24_0 K rfl) ?_
    refine U_r (fun _ K => rd_ldC rfl sc3 K rfl (inM 3 rfl) rfl) ?_; intro a K
    obtain ⟨_, h0, h⟩ := obind h
    have h0 := nz_spec h0
    refine T_r K (rd_quo rfl K rfl rfl h0) ?_; clear K; intro a K
    obtain ⟨r4, h_r4, h⟩ := obind h
    refine T_a K (ac_call (vs := [I phase, I (Int.tmod i q_W), I (IntKind.i64.wrap (Int.tdiv i q_W))]) (cap := []) rfl fok74 K rfl rfl (W_sensor_Colour N phase (Int.tmod i q_W) (IntKind.i64.wrap (Int.tdiv i q_W)) _  r4 h_r4)) ?_
    have M0 := M; clear K M; rintro _ a w ⟨rfl, M⟩ K
    replace M := M0.call M; clear M0
    refine ⟨M.pick [0,1,2,3] (by decide), ?_⟩
    refine T_o K ?_; clear K
    iterate 4 (refine U_o ?_)
    intro a K
    refine T_end ?_
    refine then_n ?_
    refine wp_region_tl (fun w => Mem _ _ w _) [0,0,0,0,0,0,0,1,1,1,1,1,0,2] (by kernel_rfl) (by kernel_rfl) (M.pick [1,2,3] (by decide)).drew ?_
    replace M := M.drew
    refine T_r K (rd_field rfl fld45_2 K rfl) ?_; clear K
    refine U_r (fun _ K => rd_ldC rfl sc43 K rfl (inM 0 rfl) rfl) ?_
    refine U_r (fun _ K => rd_field rfl fld24_2 K rfl) ?_
    refine U_r (fun _ K => rd_ldC rfl sc22 K rfl (inM 2 rfl) rfl) ?_
    refine U_o ?_
    obtain ⟨e2, h_e2, h⟩ := obind h
    refine U_r (fun _ K => rd_ix rfl sl22 K rfl rfl (inA R_q_P) h_e2) ?_
    refine U_o ?_; intro a K
    refine T_inl (vs := [.pointer (some (((adr A_q_P).add (Int.toNat i * 3)))), I r4.1]) (cap := []) K (want_no rfl) rfl rfl rfl fok75 rfl rfl ?_; clear K
    refine X_enter Try.func75 rfl Try.ntmps75 rfl ?_
    intro a K
    have K : Kn a 19 [(0, .pointer (some (((adr A_q_P).add (Int.toNat i * 3))))), (1, I r4.1)] := K
    refine wp_seq (X_reg ?_)
    refine X_o K M ?_; clear K; intro a K
    refine wpList_nil (then_n (wp_seq (wp_seq (X_reg ?_))))
    refine X_o K M ?_; clear K; intro a K
    refine wpList_nil (then_n (wp_block (wp_seq (X_reg ?_))))
    refine X_o K M ?_; clear K
    refine Y_o M ?_; intro a K
    refine wpList_nil (then_n ?_)
    refine X_cond K rfl (fun hb => ?_) (fun hb => ?_)
    · have h := ctrue hb h
      refine wp_seq (X_reg ?_)
      refine X_o K M ?_; clear K
      refine Y_o M ?_
      refine Y_r (fun _ K => rd_field rfl fld34_0 K rfl) M ?_
      refine Y_o M ?_; intro a K
      refine wpList_nil (then_n (wp_ret (inb_r (then_r ?_))))
      refine ret1 K rfl (res_tmp K rfl) ⟨_, rfl, ?_⟩; clear K; intro a K
      refine ⟨M.pick [1,2,3] (by decide), ?_⟩
      refine T_rd1 K (want_no rfl) rfl rfl (rd_nil rfl K rfl) M (M.pick [1,2,3] (by decide)) ?_; clear K; intro a K
      refine T_rd1 K (want_no rfl) rfl rfl (rd_elF rfl sc3 K rfl rfl (inA R_q_P) h_e2 rfl) M (M.pick [1,2,3] (by decide)) ?_; clear K; intro a K
      refine T_a K (ac_bslice rfl sl43 z3 K (vs := [(0, I e2.1)]) (cs := [I e2.1]) rfl (by kernel_rfl) rfl rfl M) ?_
      have M0 := M; clear K M; rintro _ a w ⟨gs4, rfl, M⟩ K
      replace M := M.asRow 0 rfl (cI .i64) ([e2.1] : List Int) (n := 1) rfl rfl rfl
      clear M0
      refine ⟨M.pick [2,3,4] (by decide), ?_⟩
      obtain ⟨out_P5, h_out_P5, h⟩ := obind h
      refine T_a K (ac_app (C := (cI .i64)) (xs := out_P) (ys := ([e2.1] : List Int)) rfl sl43 rfl z3 rfl rfl K rfl rfl 1 M rfl ((inR (C := (cI .i64)) 0 rfl rfl) _ M) h_out_P5) ?_
      clear K M; rintro _ a w ⟨A5, c5, rfl, M⟩ K
      refine ⟨M.pick [2,3,4] (by decide), ?_⟩
      refine T_r K (rd_field rfl fld45_2 K rfl) ?_; clear K; intro a K
      refine T_b K (ac_storeC rfl sc43 K rfl rfl rfl 2 M rfl rfl) ?_
      clear K M; rintro _ a w M K
      refine T_end ?_
      refine inb_n (then_n (X_reg ?_))
      refine X_o K M ?_; clear K
      refine Y_o M ?_; intro a K
      refine wpList_nil ?_
      exact then_n ⟨(out_P5, IntKind.i64.wrap (i + 1)), ⟨A5, c5, K.pick [1,2,4,6,28,29], M.pick [1,2,3,4] (by decide)⟩, h⟩
    have h := cfalse hb h
    refine wp_seq (X_reg ?_)
    refine X_o K M ?_; clear K
    refine Y_o M ?_; intro a K
    refine wpList_nil (then_n ?_)
    refine X_cond K rfl (fun hb => ?_) (fun hb => ?_)
    · have h := ctrue hb h
      refine wp_seq (X_reg ?_)
      refine X_o K M ?_; clear K
      refine Y_o M ?_
      refine Y_r (fun _ K => rd_field rfl fld34_1 K rfl) M ?_
      refine Y_o M ?_; intro a K
      refine wpList_nil (then_n (wp_ret (inb_r (then_r ?_))))
      refine ret1 K rfl (res_tmp K rfl) ⟨_, rfl, ?_⟩; clear K; intro a K
      refine ⟨M.pick [1,2,3] (by decide), ?_⟩
      refine T_rd1 K (want_no rfl) rfl rfl (rd_nil rfl K rfl) M (M.pick [1,2,3] (by decide)) ?_; clear K; intro a K
      refine T_rd1 K (want_no rfl) rfl rfl (rd_elF rfl sc3 K rfl rfl (inA R_q_P) h_e2 rfl) M (M.pick [1,2,3] (by decide)) ?_; clear K; intro a K
      refine T_a K (ac_bslice rfl sl43 z3 K (vs := [(0, I e2.2.1)]) (cs := [I e2.2.1]) rfl (by kernel_rfl) rfl rfl M) ?_
      have M0 := M; clear K M; rintro _ a w ⟨gs5, rfl, M⟩ K
      replace M := M.asRow 0 rfl (cI .i64) ([e2.2.1] : List Int) (n := 1) rfl rfl rfl
      clear M0
      refine ⟨M.pick [2,3,4] (by decide), ?_⟩
      obtain ⟨out_P6, h_out_P6, h⟩ := obind h
      refine T_a K (ac_app (C := (cI .i64)) (xs := out_P) (ys := ([e2.2.1] : List Int)) rfl sl43 rfl z3 rfl rfl K rfl rfl 1 M rfl ((inR (C := (cI .i64)) 0 rfl rfl) _ M) h_out_P6) ?_
      clear K M; rintro _ a w ⟨A6, c6, rfl, M⟩ K
      refine ⟨M.pick [2,3,4] (by decide), ?_⟩
      refine T_r K (rd_field rfl fld45_2 K rfl) ?_; clear K; intro a K
      refine T_b K (ac_storeC rfl sc43 K rfl rfl rfl 2 M rfl rfl) ?_
      clear K M; rintro _ a w M K
      refine T_end ?_
      refine inb_n (then_n (X_reg ?_))
      refine X_o K M ?_; clear K
      refine Y_o M ?_; intro a K
      refine wpList_nil ?_
      exact then_n ⟨(out_P6, IntKind.i64.wrap (i + 1)), ⟨A6, c6, K.pick [1,2,4,6,28,29], M.pick [1,2,3,4] (by decide)⟩, h⟩
    have h := cfalse hb h
    refine wp_skip (inb_n (then_n (wp_seq (X_reg ?_))))
    refine X_o K M ?_; clear K
    refine Y_o M ?_
    refine Y_r (fun _ K => rd_field rfl fld34_2 K rfl) M ?_
    refine Y_o M ?_; intro a K
    refine wpList_nil (then_n (wp_ret ?_))
    refine ret1 K rfl (res_tmp K rfl) ⟨_, rfl, ?_⟩; clear K; intro a K
    refine ⟨M.pick [1,2,3] (by decide), ?_⟩
    refine T_rd1 K (want_no rfl) rfl rfl (rd_nil rfl K rfl) M (M.pick [1,2,3] (by decide)) ?_; clear K; intro a K
    refine T_rd1 K (want_no rfl) rfl rfl (rd_elF rfl sc3 K rfl rfl (inA R_q_P) h_e2 rfl) M (M.pick [1,2,3] (by decide)) ?_; clear K; intro a K
    refine T_a K (ac_bslice rfl sl43 z3 K (vs := [(0, I e2.2.2)]) (cs := [I e2.2.2]) rfl (by kernel_rfl) rfl rfl M) ?_
    have M0 := M; clear K M; rintro _ a w ⟨gs6, rfl, M⟩ K
    replace M := M.asRow 0 rfl (cI .i64) ([e2.2.2] : List Int) (n := 1) rfl rfl rfl
    clear M0
    refine ⟨M.pick [2,3,4] (by decide), ?_⟩
    obtain ⟨out_P7, h_out_P7, h⟩ := obind h
    refine T_a K (ac_app (C := (cI .i64)) (xs := out_P) (ys := ([e2.2.2] : List Int)) rfl sl43 rfl z3 rfl rfl K rfl rfl 1 M rfl ((inR (C := (cI .i64)) 0 rfl rfl) _ M) h_out_P7) ?_
    clear K M; rintro _ a w ⟨A7, c7, rfl, M⟩ K
    refine ⟨M.pick [2,3,4] (by decide), ?_⟩
    refine T_r K (rd_field rfl fld45_2 K rfl) ?_; clear K; intro a K
    refine T_b K (ac_storeC rfl sc43 K rfl rfl rfl 2 M rfl rfl) ?_
    clear K M; rintro _ a w M K
    refine T_end ?_
    refine inb_n (then_n (X_reg ?_))
    refine X_o K M ?_; clear K
    refine Y_o M ?_; intro a K
    refine wpList_nil ?_
    exact then_n ⟨(out_P7, IntKind.i64.wrap (i + 1)), ⟨A7, c7, K.pick [1,2,4,6,28,29], M.pick [1,2,3,4] (by decide)⟩, h⟩
  have h := cfalse hb h
  refine wp_exit ?_
  refine then_e ?_
  exact then_e (hk1 (out_P, i) _ _ ⟨A, c, K.pick [1,2,4,6,28,29], M.pick [0,1,2,3] (by decide)⟩ h)
end Go.Proofs.Ytpmnfhifmmfglab
