/- The walk of sensor.Repair. -/
import Derived.Test.YtpmnfhifmmfglaaORepair1
set_option linter.unusedVariables false
set_option linter.unusedSimpArgs false
set_option linter.unusedSectionVars false
namespace Go.Proofs.Ytpmnfhifmmfglaa
open Go.RowKit Go.ChangeMaps

/-- A slice of spots (or points): two cells an element. -/
def RS (w : World) (B : Nat) (A : Option Addr) (n : Nat) (l : List (Int × Int)) : Prop :=
  l.length = n ∧ (0 < n → ∃ b o, A = some ⟨b, o, none⟩ ∧ B ≤ b ∧ b < w.heap.size ∧ ∀ (k : Nat) x y, l[k]? = some (x, y) → w.cell? ⟨b, o + k * 2, none⟩ = some (.int .i64 x) ∧ w.cell? ⟨b, o + k * 2 + 1, none⟩ = some (.int .i64 y))
theorem RS.below {w w' : World} {B B' n : Nat} {A : Option Addr} {l : List (Int × Int)} (h : RS w B A n l) (hb : Below B' w w') (hB : w.heap.size ≤ B') : RS w' B A n l :=
  ⟨h.1, fun hn => by
    obtain ⟨b, o, hA, h1, h2, hc⟩ := h.2 hn
    refine ⟨b, o, hA, h1, Nat.lt_of_lt_of_le h2 hb.size, fun k x y hu => ?_⟩
    obtain ⟨c1, c2⟩ := hc k x y hu
    exact ⟨(hb.cell (p := ⟨b, o + k * 2, none⟩) (by show b < B'; omega)).trans c1, (hb.cell (p := ⟨b, o + k * 2 + 1, none⟩) (by show b < B'; omega)).trans c2⟩⟩
theorem RS.at_ {w : World} {B n : Nat} {A : Option Addr} {l : List (Int × Int)} (h : RS w B A n l) (k : Nat) (hk : k < n) :
    ∃ b o x y, A = some ⟨b, o, none⟩ ∧ b < w.heap.size ∧ l[k]? = some (x, y) ∧ w.cell? ⟨b, o + k * 2, none⟩ = some (.int .i64 x) ∧ w.cell? ⟨b, o + k * 2 + 1, none⟩ = some (.int .i64 y) := by
  obtain ⟨b, o, hA, _, hb, hc⟩ := h.2 (by omega)
  have hl : k < l.length := by rw [h.1]; exact hk
  have e : l[k]? = some (l[k].1, l[k].2) := List.getElem?_eq_getElem hl
  obtain ⟨c1, c2⟩ := hc k _ _ e
  exact ⟨b, o, _, _, hA, hb, e, c1, c2⟩
theorem RS.nil {w : World} {B : Nat} {A : Option Addr} : RS w B A 0 [] := ⟨rfl, fun h => absurd h (by omega)⟩

theorem cntF_bd (l : List (Int × Int)) (x y : Int) : 0 ≤ cntF l x y ∧ cntF l x y ≤ l.length := by
  have := List.count_le_length (a := (x, y)) (l := l)
  unfold cntF; omega
theorem cntF_succ {l : List (Int × Int)} {k : Nat} {x y : Int} (h : l[k]? = some (x, y)) : cntF (l.take (k+1)) = bumpF (cntF (l.take k)) x y (cntF (l.take k) x y + 1) := by
  funext a b
  unfold bumpF cntF
  rw [List.take_add_one, h, List.count_append]
  by_cases hab : a = x ∧ b = y
  · obtain ⟨rfl, rfl⟩ := hab
    simp
  · rw [if_neg hab]
    have : (x, y) ≠ (a, b) := by intro e; injection e with e1 e2; exact hab ⟨e1.symm, e2.symm⟩
    simp [this]

theorem heapB_other {w : World} {b i : Nat} (o : Obj) (h : i ≠ b) : (setBlock w b o).heap[i]? = w.heap[i]? := by
  simp [setBlock, Array.getElem?_setIfInBounds_ne (Ne.symm h)]
theorem heapB_same {w : World} {b : Nat} (o : Obj) (h : b < w.heap.size) : (setBlock w b o).heap[b]? = some o := by
  simp [setBlock, h]
theorem below_setBlock {B : Nat} {a w : World} (h : Below B a w) {b : Nat} (hb : B ≤ b) (o : Obj) : Below B a (setBlock w b o) :=
  h.trans ⟨rfl, rfl, rfl, by simp [setBlock], fun k hk => heapB_other o (by omega)⟩
theorem cellB {w : World} {b : Nat} (o : Obj) {a : Addr} {v : Value} (h : a.block ≠ b) (hc : w.cell? a = some v) : (setBlock w b o).cell? a = some v :=
  (World.cell?_of_block (heapB_other o h)).trans hc
theorem Blk.setB {w : World} {g : Nat} {t : TypeId} {cs : Array Value} (h : Blk w g t cs) {b : Nat} (hb : g ≠ b) (o : Obj) : Blk (setBlock w b o) g t cs := (heapB_other o hb).trans h

theorem cf_repair1 (args : Array Value) (wx : World) : (callFunc 63 args).run Try.prog wx = .ok (.enter 63 args) wx := by kernel_rfl

/-- What Repair comes to where the plane is right and the spots are not too many. -/
def RepairPost (m : Nat) (H : Int) (n : Nat) (l : List (Int × Int)) (xs : List Int) (w : World) (e : Ending) (w' : World) : Prop :=
  if l.all (spotOk m H) = true then ∃ A' c', e = .returned (.tuple #[.agg #[.int .i64 m, .int .i64 H, .slice A' n c'], .int .i64 0]) ∧ (RI w' w.heap.size A' n ((List.range n).map (repairL m H l xs)) ∧ OI w' w.heap.size A' n c' ((List.range n).map (repairL m H l xs))) ∧ Below w.heap.size w w'
  else e = .returned (.tuple #[noPlane, .int .i64 3]) ∧ Below w.heap.size w w'
theorem RepairPost.no {m : Nat} {H : Int} {n : Nat} {l : List (Int × Int)} {xs : List Int} {w w' : World} (h : l.all (spotOk m H) = false) (hb : Below w.heap.size w w') : RepairPost m H n l xs w (.returned (.tuple #[noPlane, .int .i64 3])) w' := by
  unfold RepairPost
  rw [if_neg (by rw [h]; exact Bool.false_ne_true)]
  exact ⟨rfl, hb⟩
theorem RepairPost.yes {m : Nat} {H : Int} {n : Nat} {l : List (Int × Int)} {xs : List Int} {w w' : World} {A' : Option Addr} {c' : Nat} (h : l.all (spotOk m H) = true) (hr : RI w' w.heap.size A' n ((List.range n).map (repairL m H l xs))) (ho : OI w' w.heap.size A' n c' ((List.range n).map (repairL m H l xs))) (hb : Below w.heap.size w w') :
    RepairPost m H n l xs w (.returned (.tuple #[.agg #[.int .i64 m, .int .i64 H, .slice A' n c'], .int .i64 0])) w' := by
  unfold RepairPost
  rw [if_pos h]
  exact ⟨A', c', rfl, ⟨hr, ho⟩, hb⟩

section
variable (W H : Int) (A A2 : Option Addr) (n c n2 c2 : Nat) (xs : List Int) (l : List (Int × Int)) (w : World)
set_option maxHeartbeats 400000 in
theorem repair_form (h : RI w 0 A n xs) (hs : RS w 0 A2 n2 l) (hn : n ≤ maxLen) (hf : planeFine W H xs = false) :
    Calls Try.prog 19 #[.agg #[.int .i64 W, .int .i64 H, .slice A n c], .slice A2 n2 c2] w fun e w' =>
      e = .returned (.tuple #[noPlane, .int .i64 1]) ∧ Below w.heap.size w w' := by
  have HR := Lib.hid h
  have HS := Lib.hid hs
  have HF := Lib.hid hf
  have HN := Lib.hid hn
  clear h hs hf hn
  have hmm := @run_makeMap Try.prog
  go_enter Try.func19, Try.ntmps19
  go_wp2_with fail
  refine (fine_any _ _ _ _ _ _ _ (HR.out.below (B' := w.heap.size) (by go_grown) (Nat.le_refl _)) HN.out).mono ?_
  rintro e w1 ⟨rfl, hb⟩
  rw [HF.out]
  have r := (show Blk w1 (w.heap.size+1) 24 #[.int .i64 0, .int .i64 0, .slice none 0 0] from (Blk.newAt (by simp)).below hb (by simp))
  have p := (show Blk w1 w.heap.size 24 #[.int .i64 W, .int .i64 H, .slice A n c] from ((Blk.newAt (by simp)).alloc _).below hb (by simp <;> omega))
  obtain ⟨r0, r1, r2⟩ := r.c3
  obtain ⟨f0, f1, f2⟩ := r.f3
  obtain ⟨p0, p1, p2⟩ := p.c3
  have KR := Lib.hid r
  have KP := Lib.hid p
  have hB : Hid (Below w.heap.size w w1) := (show Below w.heap.size w _ by go_grown).trans (hb.mono (by simp <;> omega))
  have hsz : w.heap.size + 2 ≤ w1.heap.size := by have := hb.size; simp at this; omega
  clear r p hb
  clear HS
  go_wp2
  exact bodyPost_ret (results_row_tmp rfl _ _ (w.heap.size+1) 24 _ _ (by rfl) (((KR.out.set_ 0 _ rfl).set_ 1 _ rfl).set_ 2 _ rfl) Try.underlying24 rfl (by kernel_rfl)) rfl ⟨rfl, ((hB.out.setCell (by simp <;> omega) _).setCell (by simp <;> omega) _).setCell (by simp <;> omega) _⟩

set_option maxHeartbeats 400000 in
theorem repair_many (h : RI w 0 A n xs) (hs : RS w 0 A2 n2 l) (hn : n ≤ maxLen) (hf : planeFine W H xs = true) (hm : 64 < n2) :
    Calls Try.prog 19 #[.agg #[.int .i64 W, .int .i64 H, .slice A n c], .slice A2 n2 c2] w fun e w' =>
      e = .returned (.tuple #[noPlane, .int .i64 2]) ∧ Below w.heap.size w w' := by
  have HR := Lib.hid h
  have HS := Lib.hid hs
  have HF := Lib.hid hf
  have HN := Lib.hid hn
  clear h hs hf hn
  have hmm := @run_makeMap Try.prog
  go_enter Try.func19, Try.ntmps19
  go_wp2_with fail
  refine (fine_any _ _ _ _ _ _ _ (HR.out.below (B' := w.heap.size) (by go_grown) (Nat.le_refl _)) HN.out).mono ?_
  rintro e w1 ⟨rfl, hb⟩
  rw [HF.out]
  have r := (show Blk w1 (w.heap.size+1) 24 #[.int .i64 0, .int .i64 0, .slice none 0 0] from (Blk.newAt (by simp)).below hb (by simp))
  have p := (show Blk w1 w.heap.size 24 #[.int .i64 W, .int .i64 H, .slice A n c] from ((Blk.newAt (by simp)).alloc _).below hb (by simp <;> omega))
  obtain ⟨r0, r1, r2⟩ := r.c3
  obtain ⟨f0, f1, f2⟩ := r.f3
  obtain ⟨p0, p1, p2⟩ := p.c3
  have KR := Lib.hid r
  have KP := Lib.hid p
  have hB : Hid (Below w.heap.size w w1) := (show Below w.heap.size w _ by go_grown).trans (hb.mono (by simp <;> omega))
  have hsz : w.heap.size + 2 ≤ w1.heap.size := by have := hb.size; simp at this; omega
  clear r p hb
  clear HS
  go_wp2
  exact bodyPost_ret (results_row_tmp rfl _ _ (w.heap.size+1) 24 _ _ (by rfl) (((KR.out.set_ 0 _ rfl).set_ 1 _ rfl).set_ 2 _ rfl) Try.underlying24 rfl (by kernel_rfl)) rfl ⟨rfl, ((hB.out.setCell (by simp <;> omega) _).setCell (by simp <;> omega) _).setCell (by simp <;> omega) _⟩

set_option maxRecDepth 100000 in
set_option maxHeartbeats 800000 in
theorem repair_rest (m : Nat) (h : RI w 0 A n xs) (hs : RS w 0 A2 n2 l) (hn : n ≤ maxLen) (hf : planeFine m H xs = true) (hm : n2 ≤ 64) :
    Calls Try.prog 19 #[.agg #[.int .i64 m, .int .i64 H, .slice A n c], .slice A2 n2 c2] w fun e w' =>
      RepairPost m H n l xs w e w' := by
  obtain ⟨hside, hlen, hall⟩ := planeFine_iff.1 hf
  have HSD := Lib.hid hside
  have hmm1 : 1 ≤ m ∧ m ≤ 64 ∧ 1 ≤ H ∧ H ≤ 64 := by unfold sideOk at hside; omega
  have HLN := Lib.hid hlen
  have HAL := Lib.hid hall
  clear hside hlen hall
  have HR := Lib.hid h
  have HS := Lib.hid hs
  have HF := Lib.hid hf
  have HN := Lib.hid hn
  clear h hs hf hn
  have hmm := @run_makeMap Try.prog
  go_enter Try.func19, Try.ntmps19
  go_wp2_with fail
  refine (fine_any _ _ _ _ _ _ _ (HR.out.below (B' := w.heap.size) (by go_grown) (Nat.le_refl _)) HN.out).mono ?_
  rintro e w1 ⟨rfl, hb⟩
  rw [HF.out]
  have r := (show Blk w1 (w.heap.size+1) 24 #[.int .i64 0, .int .i64 0, .slice none 0 0] from (Blk.newAt (by simp)).below hb (by simp))
  have p := (show Blk w1 w.heap.size 24 #[.int .i64 m, .int .i64 H, .slice A n c] from ((Blk.newAt (by simp)).alloc _).below hb (by simp <;> omega))
  obtain ⟨r0, r1, r2⟩ := r.c3
  obtain ⟨f0, f1, f2⟩ := r.f3
  obtain ⟨p0, p1, p2⟩ := p.c3
  have KR := Lib.hid r
  have KP := Lib.hid p
  have hB : Hid (Below w.heap.size w w1) := (show Below w.heap.size w _ by go_grown).trans (hb.mono (by simp <;> omega))
  have hsz : w.heap.size + 2 ≤ w1.heap.size := by have := hb.size; simp at this; omega
  clear r p hb
  go_wp2_with fail
  go_loopw [20] (fun i wr => ∃ k : Nat, k ≤ n2 ∧ i = .int .i64 k ∧ Blk wr w.heap.size 24 #[.int .i64 m, .int .i64 H, .slice A n c] ∧ Blk wr (w.heap.size+1) 24 #[.int .i64 0, .int .i64 0, .slice none 0 0] ∧
    Blk wr (w1.heap.size+1) 98 #[.map (some w1.heap.size)] ∧ MapC wr w1.heap.size k (cntF (l.take k)) ∧ (l.take k).all (spotOk m H) = true ∧ Below w.heap.size w wr ∧ w1.heap.size + 2 ≤ wr.heap.size) (fun i _ => n2 - (intOf i).toNat)
  case atStart =>
    refine ⟨0, Nat.zero_le _, rfl, (KP.out.alloc _).alloc _, (KR.out.alloc _).alloc _, Blk.newAt (by simp), ?_, rfl, (hB.out.alloc (by omega) _).alloc (by simp; omega) _, by simp⟩
    have e : cntF (l.take 0) = fun _ _ => 0 := by funext a b; simp [cntF]
    rw [e]
    exact (MapC.made w1).alloc _
  case round =>
    clear p0 p1 p2 r0 r1 r2 f0 f1 f2
    obtain ⟨k, hk, rfl, q0, q1, q2, q3, hal, hbel, hsz2⟩ := hrel
    obtain ⟨p0, p1, p2⟩ := q0.c3
    obtain ⟨r0, r1, r2⟩ := q1.c3
    obtain ⟨f0, f1, f2⟩ := q1.f3
    obtain ⟨m0, _⟩ := q2.c1
    have Q0 := Lib.hid q0
    have Q1 := Lib.hid q1
    have Q2 := Lib.hid q2
    have Q3 := Lib.hid q3
    have HA := Lib.hid hal
    have HB := Lib.hid hbel
    by_cases hlt : k < n2
    · obtain ⟨b, o, x, y, rfl, hbs, hxy, d0, d1⟩ := HS.out.at_ k hlt
      have d0' := (hbel.cell (p := ⟨b, o + k * 2, none⟩) hbs).trans d0
      have d1' := (hbel.cell (p := ⟨b, o + k * 2 + 1, none⟩) hbs).trans d1
      have hbl : b < wr.heap.size := Nat.lt_of_lt_of_le hbs hbel.size
      have HXY := Lib.hid hxy
      have z0 : w.heap.size < wr.heap.size := by omega
      have z1 : w.heap.size + 1 < wr.heap.size := by omega
      have z2 : w1.heap.size < wr.heap.size := by omega
      have z3 : w1.heap.size + 1 < wr.heap.size := by omega
      clear q0 q1 q2 q3 hal hbel d0 d1 hxy
      by_cases hok : 0 ≤ x ∧ x < m ∧ 0 ≤ y ∧ y < H
      · have HYO : Hid (spotOk m H (x, y) = true) := by show _ = _; simp [spotOk, hok]
        obtain ⟨o1, o2, o3, o4⟩ := hok
        have hcb := cntF_bd (l.take k) x y
        have hcl : (l.take k).length ≤ k := List.length_take_le _ _
        obtain ⟨v0, st, ob1, hE, hL, hSt⟩ := MapC.bump (w := (wr.alloc (.cells #[.int .i64 x, .int .i64 y] 96)).drew) ((Q3.out.alloc _).drew) x y (by unfold wfI; omega) (by unfold wfI; omega)
        have hL0 := MapC.lookup (w := (wr.alloc (.cells #[.int .i64 x, .int .i64 y] 96)).drew) ((Q3.out.alloc _).drew) x y (by unfold wfI; omega) (by unfold wfI; omega)
        unfold spotV at hE hL hL0
        have HE := Lib.hid hE
        have HL := Lib.hid hL
        have HL0 := Lib.hid hL0
        have HST := Lib.hid hSt
        clear hE hL hL0 hSt
        have ew : IntKind.i64.wrap (cntF (l.take k) x y + 1) = cntF (l.take k) x y + 1 := IntWalk.i64_in _ (by omega)
        go_wp2_with fail
        have lt1 : w1.heap.size < (wr.alloc (.cells #[.int .i64 x, .int .i64 y] 96)).drew.heap.size := by simp; omega
        have M1 : ∀ w', (w' = (wr.alloc (.cells #[.int .i64 x, .int .i64 y] 96)).drew ∨ w' = setBlock (wr.alloc (.cells #[.int .i64 x, .int .i64 y] 96)).drew w1.heap.size ob1) → w'.cell? ⟨w1.heap.size + 1, 0, none⟩ = some (.map (some w1.heap.size)) := by
          rintro w' (rfl | rfl)
          · exact cell_al m0
          · exact cellB _ (by simp) (cell_al m0)
        have M2 : ∀ w', (w' = (wr.alloc (.cells #[.int .i64 x, .int .i64 y] 96)).drew ∨ w' = setBlock (wr.alloc (.cells #[.int .i64 x, .int .i64 y] 96)).drew w1.heap.size ob1) → w'.cell? ⟨wr.heap.size, 0, none⟩ = some (.int .i64 x) := by
          rintro w' (rfl | rfl)
          · exact (Blk.new wr 96 #[.int .i64 x, .int .i64 y]).c2.1
          · exact cellB _ (by simp; omega) (Blk.new wr 96 #[.int .i64 x, .int .i64 y]).c2.1
        have M3 : ∀ w', (w' = (wr.alloc (.cells #[.int .i64 x, .int .i64 y] 96)).drew ∨ w' = setBlock (wr.alloc (.cells #[.int .i64 x, .int .i64 y] 96)).drew w1.heap.size ob1) → w'.cell? ⟨wr.heap.size, 1, none⟩ = some (.int .i64 y) := by
          rintro w' (rfl | rfl)
          · exact (Blk.new wr 96 #[.int .i64 x, .int .i64 y]).c2.2
          · exact cellB _ (by simp; omega) (Blk.new wr 96 #[.int .i64 x, .int .i64 y]).c2.2
        have M4 : ∀ w', (w' = (wr.alloc (.cells #[.int .i64 x, .int .i64 y] 96)).drew ∨ w' = setBlock (wr.alloc (.cells #[.int .i64 x, .int .i64 y] 96)).drew w1.heap.size ob1) → (Instr.lookup 98 (.map (some w1.heap.size)) (.agg #[.int .i64 x, .int .i64 y]) false).run Try.prog w' = .ok (.int .i64 (cntF (l.take k) x y)) w' := by
          rintro w' (rfl | rfl)
          · exact HL0.out
          · exact HL.out _ (heapB_same _ lt1)
        refine wp_region_tl (fun w' => w' = (wr.alloc (.cells #[.int .i64 x, .int .i64 y] 96)).drew ∨ w' = setBlock (wr.alloc (.cells #[.int .i64 x, .int .i64 y] 96)).drew w1.heap.size ob1) [0,0,0,0,1,0,2] (by kernel_rfl) (by kernel_rfl) (Or.inl rfl) ?_
        simp only [marked, List.headD_cons, List.tail_cons, beq_self_eq_true, Nat.reduceBEq]
        (apply tl_rob (by rfl); (case hv => (intro w' hS; conv => lhs; simp [go_sem, *])); simp only [Act.put, List.setIfInBounds_toArray, List.set_cons_succ, List.set_cons_zero])
        (apply tl_rob (by rfl); (case hv => (intro w' hS; conv => lhs; simp [go_sem, *])); simp only [Act.put, List.setIfInBounds_toArray, List.set_cons_succ, List.set_cons_zero])
        (apply tl_rob (by rfl); (case hv => (intro w' hS; conv => lhs; simp [go_sem, *])); simp only [Act.put, List.setIfInBounds_toArray, List.set_cons_succ, List.set_cons_zero])
        (apply tl_rob (by rfl); (case hv => (intro w' hS; conv => lhs; simp [go_sem, *])); simp only [Act.put, List.setIfInBounds_toArray, List.set_cons_succ, List.set_cons_zero])
        (apply tl_act (by rfl); intro K hK)
        have hE := HE.out
        go_simp
        refine hK _ _ (fun _ => Or.inr rfl) ?_
        clear hK K hE
        (apply tl_rob (by rfl); (case hv => (intro w' hS; conv => lhs; simp [go_sem, *])); simp only [Act.put, List.setIfInBounds_toArray, List.set_cons_succ, List.set_cons_zero])
        (apply tl_act (by rfl); intro K hK)
        obtain ⟨ob2, hS2, hM2⟩ := HST.out (setBlock (wr.alloc (.cells #[.int .i64 x, .int .i64 y] 96)).drew w1.heap.size ob1) (cntF (l.take k) x y + 1) (heapB_same _ lt1)
        have hS3 : (Instr.entryStore 98 (.map (some w1.heap.size)) (.int .i64 (st : Int)) (.int .i64 (cntF (l.take k) x y + 1))).run Try.prog (setBlock (wr.alloc (.cells #[.int .i64 x, .int .i64 y] 96)).drew w1.heap.size ob1) = .ok () (setBlock (setBlock (wr.alloc (.cells #[.int .i64 x, .int .i64 y] 96)).drew w1.heap.size ob1) w1.heap.size ob2) := hS2
        have HM2 := Lib.hid hM2
        clear hS2 hM2
        go_simp
        refine hK _ _ (fun h => by cases h) ?_
        clear hK K
        refine tl_nil ?_
        clear M1 M2 M3 M4
        go_wp2
        go_roundw
        case rel =>
          refine ⟨k + 1, by omega, by go_num, ((Q0.out.alloc _).drew.setB (by omega) _).setB (by omega) _, ((Q1.out.alloc _).drew.setB (by omega) _).setB (by omega) _, ((Q2.out.alloc _).drew.setB (by omega) _).setB (by omega) _, ?_, all_take_succ _ l k (x, y) HXY.out HA.out HYO.out, below_setBlock (below_setBlock ((HB.out.alloc (by omega) _).drew) (by omega) _) (by omega) _, by simp [setBlock]; omega⟩
          rw [cntF_succ HXY.out]
          exact HM2.out _ (heapB_same _ (by simp [setBlock]; omega))
        case measure => simp [intOf]; omega
      · have HNO : Hid (l.all (spotOk m H) = false) := by
          refine all_false_at _ l k (x, y) HXY.out ?_
          simp only [spotOk, Bool.and_eq_false_iff, decide_eq_false_iff_not]
          omega
        go_wp2
        all_goals exact bodyPost_ret (results_row_tmp rfl _ _ (w.heap.size+1) 24 _ _ (by rfl) ((((Q1.out.set_ 0 _ rfl).set_ 1 _ rfl).set_ 2 _ rfl).alloc _) Try.underlying24 rfl (by kernel_rfl)) rfl (RepairPost.no HNO.out ((((HB.out.setCell (by simp <;> omega) _).setCell (by simp <;> omega) _).setCell (by simp <;> omega) _).alloc (by simp <;> omega) _))
    · obtain rfl : k = n2 := by omega
      have HYES : Hid (l.all (spotOk m H) = true) := all_take_full _ l k (by have := HS.out.1; omega) hal
      clear q0 q1 q2 q3 hal hbel
      have HQ : Hid (Below w.heap.size w wr ∧ MapC wr w1.heap.size k (cntF l)) := ⟨HB.out, by have := Q3.out; rwa [List.take_of_length_le (by have := HS.out.1; omega)] at this⟩
      have HKK : Hid (n ≤ 4096 ∧ (n : Int) = m * H ∧ ∀ j : Nat, j < n → 0 ≤ (j : Int) % m ∧ (j : Int) % m ≤ 64 ∧ 0 ≤ (j : Int) / m ∧ (j : Int) / m ≤ 64) := by
        have hl2 := HR.out.len
        have hl3 := HLN.out
        obtain ⟨g1, g2⟩ := mul_side HSD.out
        refine ⟨by omega, by omega, fun j hj => ?_⟩
        have g3 := Int.emod_nonneg (j : Int) (show (m : Int) ≠ 0 by omega)
        have g4 := Int.emod_lt_of_pos (j : Int) (show 0 < (m : Int) by omega)
        have g5 : 0 ≤ (j : Int) / m := Int.ediv_nonneg (by omega) (by omega)
        have g6 : (j : Int) / m < H := Int.ediv_lt_of_lt_mul (by omega) (by rw [Int.mul_comm]; omega)
        omega
      have HAV : Hid (∀ (j : Nat) (v : Int), xs[j]? = some v → 0 ≤ v ∧ v ≤ 65535) := fun j v hv => okS_of (List.all_eq_true.1 HAL.out v (List.mem_of_getElem? hv))
      go_wp2_with fail
      obtain ⟨hn4, hnm, hkk⟩ := HKK.out
      refine (each_any 63 ⟨w1.heap.size+1, 0, none⟩ ⟨w.heap.size, 0, none⟩ (repairV m H (cntF l) xs) m H A n c xs _ (HR.out.below HQ.out.1 (Nat.le_refl _)) hn4 (by omega) (by omega) cf_repair1 ?_).mono ?_
      · intro j v wx hv hbx
        have hj : j < n := by rw [← HR.out.len]; exact (List.getElem?_eq_some_iff.1 hv).1
        obtain ⟨x0, x1, y0, y1⟩ := hkk j hj
        exact repair1_any m H v _ _ A n c _ _ k _ (cntF l) xs wx ((HR.out.below HQ.out.1 (Nat.le_refl _)).below hbx (Nat.le_refl _)) ⟨x0, x1⟩ ⟨y0, y1⟩ (by omega) (by omega) hnm HAV.out (HQ.out.2.below hbx HQ.out.2.lt) (Q2.out.below hbx Q2.out.lt) (Q0.out.below hbx Q0.out.lt)
      · rintro e w2 ⟨A', c', rfl, ⟨hri, hoi⟩, hb2⟩
        have r' := Q1.out.below hb2 Q1.out.lt
        have HB2 := Lib.hid hb2
        have HRI := Lib.hid hri
        have HOI := Lib.hid hoi
        obtain ⟨r0', r1', r2'⟩ := r'.c3
        obtain ⟨f0', f1', f2'⟩ := r'.f3
        have KR' := Lib.hid r'
        clear r' hb2 hri hoi
        go_wp2
        refine bodyPost_ret (results_row_tmp rfl _ _ (w.heap.size+1) 24 _ _ (by rfl) (((KR'.out.set_ 0 _ rfl).set_ 1 _ rfl).set_ 2 _ rfl) Try.underlying24 rfl (by kernel_rfl)) rfl ?_
        exact (RepairPost.yes HYES.out ((((HRI.out.set_ (by simp <;> omega) _).set_ (by simp <;> omega) _).set_ (by simp <;> omega) _).base (by omega)) ((((HOI.out.set_ (by simp <;> omega) _).set_ (by simp <;> omega) _).set_ (by simp <;> omega) _).base (by omega)) ((((HQ.out.1.trans (HB2.out.mono (by omega))).setCell (by simp <;> omega) _).setCell (by simp <;> omega) _).setCell (by simp <;> omega) _))
end
end Go.Proofs.Ytpmnfhifmmfglaa
