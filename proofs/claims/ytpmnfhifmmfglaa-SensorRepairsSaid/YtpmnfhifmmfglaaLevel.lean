/- Walks of sensor.Level, its closure, and of the document's LevelError. -/
import Derived.Test.YtpmnfhifmmfglaaEach
namespace Go.Proofs.Ytpmnfhifmmfglaa
open Go.RowKit

theorem and_one (y : Int) (h0 : 0 ≤ y) (h1 : y ≤ 9223372036854775807) : bits .and .i64 y 1 = y % 2 := by
  obtain ⟨m, rfl⟩ := Int.eq_ofNat_of_zero_le h0
  show IntKind.i64.wrap ((BitVec.ofInt 64 (m : Int) &&& BitVec.ofInt 64 (1 : Int)).toNat : Int) = _
  have e : (BitVec.ofInt 64 (m : Int)).toNat = m := by rw [BitVec.ofInt_natCast, BitVec.toNat_ofNat]; exact Nat.mod_eq_of_lt (by omega)
  have e1 : (BitVec.ofInt 64 (1 : Int)).toNat = 1 := by decide
  rw [BitVec.toNat_and, e, e1, Nat.and_one_is_mod, IntWalk.i64_in _ (by omega)]
  omega

/-- The level of a sample. -/
def levelV (b white v : Int) : Int := max (v - b) 0 * 65535 / (white - b)

theorem levelV_lo (b white v : Int) (h : v - b < 0) : levelV b white v = 0 := by
  rw [levelV, show max (v - b) 0 = 0 by omega]; simp
theorem levelV_hi (b white v : Int) (h : 0 ≤ v - b) : levelV b white v = (v - b) * 65535 / (white - b) := by
  rw [levelV, show max (v - b) 0 = v - b by omega]

set_option maxHeartbeats 400000 in
theorem level1_any (b0 b1 b2 b3 white v x y : Int) (g1 g2 : Nat) (w : World) (hx : 0 ≤ x ∧ x ≤ 64) (hy : 0 ≤ y ∧ y ≤ 64) (hv : 0 ≤ v ∧ v ≤ 65535)
    (h0 : 0 ≤ b0 ∧ b0 < white) (h1 : 0 ≤ b1 ∧ b1 < white) (h2 : 0 ≤ b2 ∧ b2 < white) (h3 : 0 ≤ b3 ∧ b3 < white) (hw : white ≤ 65535)
    (k1 : Blk w g1 25 #[.int .i64 b0, .int .i64 b1, .int .i64 b2, .int .i64 b3]) (k2 : Blk w g2 3 #[.int .i64 white]) :
    Calls Try.prog 56 #[.int .i64 v, .int .i64 x, .int .i64 y, .pointer (some ⟨g1, 0, none⟩), .pointer (some ⟨g2, 0, none⟩)] w fun e w' =>
      e = .returned (.int .i64 (levelV ([b0,b1,b2,b3].getD (y % 2 * 2 + x % 2).toNat 0) white v)) ∧ Below w.heap.size w w' := by
  have a1 := and_one x hx.1 (by omega)
  have a2 := and_one y hy.1 (by omega)
  have c0 := k1.cell 0
  have c1 := k1.cell 1
  have c2 := k1.cell 2
  have c3 := k1.cell 3
  have d0 := k2.cell 0
  simp only [List.getElem?_toArray, List.getElem?_cons_zero, List.getElem?_cons_succ] at c0 c1 c2 c3 d0
  clear k1 k2
  have o1 : bits .or .i64 0 0 = 0 := by decide
  have o2 : bits .or .i64 0 1 = 1 := by decide
  have o3 : bits .or .i64 2 0 = 2 := by decide
  have o4 : bits .or .i64 2 1 = 3 := by decide
  have key : ∀ b : Int, 0 ≤ b ∧ b < white → (0 ≤ max (v - b) 0 * 65535 ∧ max (v - b) 0 * 65535 ≤ 4294836225) := fun b hb => by omega
  rcases (show x % 2 = 0 ∨ x % 2 = 1 by omega) with ex | ex <;> rcases (show y % 2 = 0 ∨ y % 2 = 1 by omega) with ey | ey
  all_goals
    rw [ex] at a1
    rw [ey] at a2
    have EX := Lib.hid ex
    have EY := Lib.hid ey
    clear ex ey
    go_enter Try.func56, Try.ntmps56
    go_wp2
    all_goals go_ret
    all_goals refine ⟨ret_i ?_, Below.refl _ _⟩
    all_goals rw [EX.out, EY.out]
    all_goals first
      | exact (levelV_lo _ _ _ (by assumption)).symm
      | exact (levelV_hi _ _ _ (by assumption)).symm

theorem cf_level1 (args : Array Value) (wx : World) : (callFunc 56 args).run Try.prog wx = .ok (.enter 56 args) wx := by kernel_rfl

def levOK (b0 b1 b2 b3 white : Int) : Prop := (0 ≤ b0 ∧ b0 < white) ∧ (0 ≤ b1 ∧ b1 < white) ∧ (0 ≤ b2 ∧ b2 < white) ∧ (0 ≤ b3 ∧ b3 < white) ∧ white ≤ 65535
instance (b0 b1 b2 b3 white : Int) : Decidable (levOK b0 b1 b2 b3 white) := by unfold levOK; infer_instance
def levelL (b0 b1 b2 b3 white : Int) (W : Nat) (xs : List Int) (k : Nat) : Int := min (levelV ([b0,b1,b2,b3].getD ((k : Int) / W % 2 * 2 + (k : Int) % W % 2).toNat 0) white (xs.getD k 0)) 65535

section
variable (W H b0 b1 b2 b3 white : Int) (A : Option Addr) (n c : Nat) (xs : List Int) (w : World)
set_option maxHeartbeats 400000 in
theorem level_form (h : RI w 0 A n xs) (hn : n ≤ maxLen) (hf : planeFine W H xs = false) :
    Calls Try.prog 14 #[.agg #[.int .i64 W, .int .i64 H, .slice A n c], .agg #[.int .i64 b0, .int .i64 b1, .int .i64 b2, .int .i64 b3], .int .i64 white] w fun e w' =>
      e = .returned (.tuple #[noPlane, .int .i64 1]) ∧ Below w.heap.size w w' := by
  have HR := Lib.hid h
  have HF := Lib.hid hf
  have HN := Lib.hid hn
  clear h hf hn
  go_enter Try.func14, Try.ntmps14
  go_wp2_with fail
  refine (fine_any _ _ _ _ _ _ _ (HR.out.below (B' := w.heap.size) (by go_grown) (Nat.le_refl _)) HN.out).mono ?_
  rintro e w1 ⟨rfl, hb⟩
  rw [HF.out]
  have r := (show Blk w1 (w.heap.size+1+1+1) 24 #[.int .i64 0, .int .i64 0, .slice none 0 0] from (Blk.newAt (by simp)).below hb (by simp))
  obtain ⟨r0, r1, r2⟩ := r.c3
  obtain ⟨f0, f1, f2⟩ := r.f3
  have KR := Lib.hid r
  have hB : Hid (Below w.heap.size w w1) := (show Below w.heap.size w _ by go_grown).trans (hb.mono (by simp <;> omega))
  clear r hb
  go_wp2
  refine bodyPost_ret (results_row_tmp rfl _ _ (w.heap.size+1+1+1) 24 _ _ (by rfl) (((KR.out.set_ 0 _ rfl).set_ 1 _ rfl).set_ 2 _ rfl) Try.underlying24 rfl (by kernel_rfl)) rfl ⟨rfl, ((hB.out.setCell (by simp <;> omega) _).setCell (by simp <;> omega) _).setCell (by simp <;> omega) _⟩

set_option maxHeartbeats 1600000 in
theorem level_range (h : RI w 0 A n xs) (hn : n ≤ maxLen) (hf : planeFine W H xs = true) (ho : ¬ levOK b0 b1 b2 b3 white) :
    Calls Try.prog 14 #[.agg #[.int .i64 W, .int .i64 H, .slice A n c], .agg #[.int .i64 b0, .int .i64 b1, .int .i64 b2, .int .i64 b3], .int .i64 white] w fun e w' =>
      e = .returned (.tuple #[noPlane, .int .i64 3]) ∧ Below w.heap.size w w' := by
  unfold levOK at ho
  have HR := Lib.hid h
  have HF := Lib.hid hf
  have HN := Lib.hid hn
  clear h hf hn
  have i0 : ∀ wx, (Instr.index 25 (.agg #[.int .i64 b0, .int .i64 b1, .int .i64 b2, .int .i64 b3]) (.int .i64 0)).run Try.prog wx = .ok (.int .i64 b0) wx := fun _ => by kernel_rfl
  have i1 : ∀ wx, (Instr.index 25 (.agg #[.int .i64 b0, .int .i64 b1, .int .i64 b2, .int .i64 b3]) (.int .i64 1)).run Try.prog wx = .ok (.int .i64 b1) wx := fun _ => by kernel_rfl
  have i2 : ∀ wx, (Instr.index 25 (.agg #[.int .i64 b0, .int .i64 b1, .int .i64 b2, .int .i64 b3]) (.int .i64 2)).run Try.prog wx = .ok (.int .i64 b2) wx := fun _ => by kernel_rfl
  have i3 : ∀ wx, (Instr.index 25 (.agg #[.int .i64 b0, .int .i64 b1, .int .i64 b2, .int .i64 b3]) (.int .i64 3)).run Try.prog wx = .ok (.int .i64 b3) wx := fun _ => by kernel_rfl
  go_enter Try.func14, Try.ntmps14
  go_wp2_with fail
  refine (fine_any _ _ _ _ _ _ _ (HR.out.below (B' := w.heap.size) (by go_grown) (Nat.le_refl _)) HN.out).mono ?_
  rintro e w1 ⟨rfl, hb⟩
  rw [HF.out]
  have r := (show Blk w1 (w.heap.size+1+1+1) 24 #[.int .i64 0, .int .i64 0, .slice none 0 0] from (Blk.newAt (by simp)).below hb (by simp))
  have p := (show Blk w1 w.heap.size 24 #[.int .i64 W, .int .i64 H, .slice A n c] from ((((Blk.newAt (by simp)).alloc _).alloc _).alloc _).below hb (by simp <;> omega))
  have q := (show Blk w1 (w.heap.size+1) 25 #[.int .i64 b0, .int .i64 b1, .int .i64 b2, .int .i64 b3] from (((Blk.newAt (by simp)).alloc _).alloc _).below hb (by simp <;> omega))
  have s := (show Blk w1 (w.heap.size+1+1) 3 #[.int .i64 white] from ((Blk.newAt (by simp)).alloc _).below hb (by simp <;> omega))
  obtain ⟨r0, r1, r2⟩ := r.c3
  obtain ⟨f0, f1, f2⟩ := r.f3
  obtain ⟨p0, p1, p2⟩ := p.c3
  have q0 := q.cell 0
  have q1 := q.cell 1
  have q2 := q.cell 2
  have q3 := q.cell 3
  simp only [List.getElem?_toArray, List.getElem?_cons_zero, List.getElem?_cons_succ] at q0 q1 q2 q3
  have s0 := s.c1.1
  have KR := Lib.hid r
  have KP := Lib.hid (And.intro p (And.intro q s))
  have hB : Hid (Below w.heap.size w w1) := (show Below w.heap.size w _ by go_grown).trans (hb.mono (by simp <;> omega))
  have hsz : w.heap.size + 4 ≤ w1.heap.size := by have := hb.size; simp at this; omega
  clear r p q s hb
  go_wp2
  go_rounds 5
  all_goals exact bodyPost_ret (results_row_tmp rfl _ _ (w.heap.size+1+1+1) 24 _ _ (by rfl) (((KR.out.set_ 0 _ rfl).set_ 1 _ rfl).set_ 2 _ rfl) Try.underlying24 rfl (by kernel_rfl)) rfl ⟨rfl, ((hB.out.setCell (by simp <;> omega) _).setCell (by simp <;> omega) _).setCell (by simp <;> omega) _⟩

set_option maxRecDepth 100000 in
set_option maxHeartbeats 1600000 in
theorem level_ok (m : Nat) (h : RI w 0 A n xs) (hn : n ≤ maxLen) (hf : planeFine m H xs = true) (ho : levOK b0 b1 b2 b3 white) :
    Calls Try.prog 14 #[.agg #[.int .i64 m, .int .i64 H, .slice A n c], .agg #[.int .i64 b0, .int .i64 b1, .int .i64 b2, .int .i64 b3], .int .i64 white] w fun e w' =>
      ∃ A' c', e = .returned (.tuple #[.agg #[.int .i64 m, .int .i64 H, .slice A' n c'], .int .i64 0]) ∧ RI w' w.heap.size A' n ((List.range n).map (levelL b0 b1 b2 b3 white m xs)) ∧ Below w.heap.size w w' := by
  obtain ⟨o0, o1, o2, o3, o4⟩ := ho
  obtain ⟨hside, hlen, hall⟩ := planeFine_iff.1 hf
  obtain ⟨hm1, hm2⟩ := mul_side hside
  have HS : Hid (1 ≤ m ∧ m ≤ 64 ∧ n ≤ 4096 ∧ ∀ k : Nat, k < n → 0 ≤ (k : Int) % m ∧ (k : Int) % m ≤ 64 ∧ 0 ≤ (k : Int) / m ∧ (k : Int) / m ≤ 64) := by
    unfold sideOk at hside
    have hl2 := h.len
    refine ⟨by omega, by omega, by omega, fun k hk => ?_⟩
    have g1 := Int.emod_nonneg (k : Int) (show (m : Int) ≠ 0 by omega)
    have g2 := Int.emod_lt_of_pos (k : Int) (show 0 < (m : Int) by omega)
    have g3 : 0 ≤ (k : Int) / m := Int.ediv_nonneg (by omega) (by omega)
    have g4 : (k : Int) / m < H := Int.ediv_lt_of_lt_mul (by omega) (by rw [Int.mul_comm]; omega)
    omega
  have HA : Hid (∀ (k : Nat) (v : Int), xs[k]? = some v → 0 ≤ v ∧ v ≤ 65535) := fun k v hv => okS_of (List.all_eq_true.1 hall v (List.mem_of_getElem? hv))
  clear hside hlen hall hm1 hm2
  have HR := Lib.hid h
  have HF := Lib.hid hf
  have HN := Lib.hid hn
  clear h hf hn
  have i0 : ∀ wx, (Instr.index 25 (.agg #[.int .i64 b0, .int .i64 b1, .int .i64 b2, .int .i64 b3]) (.int .i64 0)).run Try.prog wx = .ok (.int .i64 b0) wx := fun _ => by kernel_rfl
  have i1 : ∀ wx, (Instr.index 25 (.agg #[.int .i64 b0, .int .i64 b1, .int .i64 b2, .int .i64 b3]) (.int .i64 1)).run Try.prog wx = .ok (.int .i64 b1) wx := fun _ => by kernel_rfl
  have i2 : ∀ wx, (Instr.index 25 (.agg #[.int .i64 b0, .int .i64 b1, .int .i64 b2, .int .i64 b3]) (.int .i64 2)).run Try.prog wx = .ok (.int .i64 b2) wx := fun _ => by kernel_rfl
  have i3 : ∀ wx, (Instr.index 25 (.agg #[.int .i64 b0, .int .i64 b1, .int .i64 b2, .int .i64 b3]) (.int .i64 3)).run Try.prog wx = .ok (.int .i64 b3) wx := fun _ => by kernel_rfl
  go_enter Try.func14, Try.ntmps14
  go_wp2_with fail
  refine (fine_any _ _ _ _ _ _ _ (HR.out.below (B' := w.heap.size) (by go_grown) (Nat.le_refl _)) HN.out).mono ?_
  rintro e w1 ⟨rfl, hb⟩
  rw [HF.out]
  have r := (show Blk w1 (w.heap.size+1+1+1) 24 #[.int .i64 0, .int .i64 0, .slice none 0 0] from (Blk.newAt (by simp)).below hb (by simp))
  have p := (show Blk w1 w.heap.size 24 #[.int .i64 m, .int .i64 H, .slice A n c] from ((((Blk.newAt (by simp)).alloc _).alloc _).alloc _).below hb (by simp <;> omega))
  have q := (show Blk w1 (w.heap.size+1) 25 #[.int .i64 b0, .int .i64 b1, .int .i64 b2, .int .i64 b3] from (((Blk.newAt (by simp)).alloc _).alloc _).below hb (by simp <;> omega))
  have s := (show Blk w1 (w.heap.size+1+1) 3 #[.int .i64 white] from ((Blk.newAt (by simp)).alloc _).below hb (by simp <;> omega))
  obtain ⟨r0, r1, r2⟩ := r.c3
  obtain ⟨f0, f1, f2⟩ := r.f3
  obtain ⟨p0, p1, p2⟩ := p.c3
  have q0 := q.cell 0
  have q1 := q.cell 1
  have q2 := q.cell 2
  have q3 := q.cell 3
  simp only [List.getElem?_toArray, List.getElem?_cons_zero, List.getElem?_cons_succ] at q0 q1 q2 q3
  have s0 := s.c1.1
  have KR := Lib.hid r
  have KP := Lib.hid (And.intro p (And.intro q s))
  have hB : Hid (Below w.heap.size w w1) := (show Below w.heap.size w _ by go_grown).trans (hb.mono (by simp <;> omega))
  have hsz : w.heap.size + 4 ≤ w1.heap.size := by have := hb.size; simp at this; omega
  clear r p q s hb
  go_wp2
  refine wp_loop_rounds 5 ?_
  iterate 4 (rw [rounds_succ]; go_wp2_with fail)
  rw [rounds_succ]
  go_wp2_with fail
  obtain ⟨hm1, hm2, hn4, hkk⟩ := HS.out
  refine (each_any 56 ⟨w.heap.size+1, 0, none⟩ ⟨w.heap.size+1+1, 0, none⟩ (fun v x y => levelV ([b0,b1,b2,b3].getD (y % 2 * 2 + x % 2).toNat 0) white v) m H A n c xs _ (HR.out.below hB.out (Nat.le_refl _)) hn4 hm1 hm2 cf_level1 ?_).mono ?_
  · intro k v wx hv hbx
    obtain ⟨_, q, s⟩ := KP.out
    have hk : k < n := by rw [← HR.out.len]; exact (List.getElem?_eq_some_iff.1 hv).1
    obtain ⟨x0, x1, y0, y1⟩ := hkk k hk
    exact level1_any b0 b1 b2 b3 white v _ _ _ _ wx ⟨x0, x1⟩ ⟨y0, y1⟩ (HA.out k v hv) o0 o1 o2 o3 o4 (q.below hbx q.lt) (s.below hbx s.lt)
  · rintro e w2 ⟨A', c', rfl, hri, hb2⟩
    have r' := KR.out.below hb2 KR.out.lt
    have HB2 := Lib.hid hb2
    have HRI := Lib.hid hri
    obtain ⟨r0', r1', r2'⟩ := r'.c3
    obtain ⟨f0', f1', f2'⟩ := r'.f3
    have KR' := Lib.hid r'
    clear r' hb2 hri
    go_wp2
    refine bodyPost_ret (results_row_tmp rfl _ _ (w.heap.size+1+1+1) 24 _ _ (by rfl) (((KR'.out.set_ 0 _ rfl).set_ 1 _ rfl).set_ 2 _ rfl) Try.underlying24 rfl (by kernel_rfl)) rfl ⟨A', c', rfl, ?_, ?_⟩
    · exact (((HRI.out.set_ (by simp <;> omega) _).set_ (by simp <;> omega) _).set_ (by simp <;> omega) _).base (by omega)
    · exact (((hB.out.trans (HB2.out.mono (by omega))).setCell (by simp <;> omega) _).setCell (by simp <;> omega) _).setCell (by simp <;> omega) _
end
end Go.Proofs.Ytpmnfhifmmfglaa
