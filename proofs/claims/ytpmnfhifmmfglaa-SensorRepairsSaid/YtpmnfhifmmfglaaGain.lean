/- Walks of sensor.colour, Colour, Gain and its closure. -/
import Derived.Test.YtpmnfhifmmfglaaLevel
namespace Go.Proofs.Ytpmnfhifmmfglaa
open Go.RowKit

/-- The colour of a place. -/
def colV (phase x y : Int) : Int := (x + phase) % 2 + (y + phase / 2) % 2
theorem colV_bd (phase x y : Int) : 0 ≤ colV phase x y ∧ colV phase x y < 3 := by unfold colV; omega

theorem colour_any (phase x y : Int) (w : World) (hp : 0 ≤ phase ∧ phase ≤ 3) (hx : 0 ≤ x ∧ x ≤ 64) (hy : 0 ≤ y ∧ y ≤ 64) :
    Calls Try.prog 67 #[.int .i64 phase, .int .i64 x, .int .i64 y] w fun e w' => e = .returned (.int .i64 (colV phase x y)) ∧ w = w' := by
  have a1 := and_one (x + phase) (by omega) (by omega)
  have a2 := and_one (y + phase / 2) (by omega) (by omega)
  go_enter Try.func67, Try.ntmps67
  go_wp2
  go_ret
  exact ⟨ret_i (by rw [colV]), rfl⟩

set_option maxHeartbeats 400000 in
theorem gain1_any (g0 g1 g2 v phase x y : Int) (b1 b2 : Nat) (w : World) (hp : 0 ≤ phase ∧ phase ≤ 3) (hx : 0 ≤ x ∧ x ≤ 64) (hy : 0 ≤ y ∧ y ≤ 64) (hv : 0 ≤ v ∧ v ≤ 65535)
    (h0 : 0 ≤ g0 ∧ g0 ≤ 65535) (h1 : 0 ≤ g1 ∧ g1 ≤ 65535) (h2 : 0 ≤ g2 ∧ g2 ≤ 65535)
    (k1 : Blk w b1 39 #[.int .i64 g0, .int .i64 g1, .int .i64 g2]) (k2 : Blk w b2 3 #[.int .i64 phase]) :
    Calls Try.prog 66 #[.int .i64 v, .int .i64 x, .int .i64 y, .pointer (some ⟨b1, 0, none⟩), .pointer (some ⟨b2, 0, none⟩)] w fun e w' =>
      e = .returned (.int .i64 (v * [g0,g1,g2].getD (colV phase x y).toNat 0 / 256)) ∧ Below w.heap.size w w' := by
  have hc := colV_bd phase x y
  have c0 := (k1.cell (colV phase x y).toNat).trans (three_at g0 g1 g2 _ (by omega))
  have d0 := k2.c1.1
  have hg : 0 ≤ [g0,g1,g2].getD (colV phase x y).toNat 0 ∧ [g0,g1,g2].getD (colV phase x y).toNat 0 ≤ 65535 := by
    have h3 : (colV phase x y).toNat < 3 := by omega
    generalize (colV phase x y).toNat = j at h3 ⊢
    match j, h3 with
    | 0, _ => exact h0
    | 1, _ => exact h1
    | 2, _ => exact h2
  generalize [g0,g1,g2].getD (colV phase x y).toNat 0 = gg at *
  have hm0 : 0 ≤ v * gg := Int.mul_nonneg (by omega) (by omega)
  have hm1 : v * gg ≤ 65535 * 65535 := Int.mul_le_mul hv.2 hg.2 (by omega) (by omega)
  clear k1 k2
  go_enter Try.func66, Try.ntmps66
  go_wp2_with (go_at_call 67; refine (colour_any _ _ _ _ hp hx hy).mono ?_; rintro e w' ⟨rfl, rfl⟩)
  go_ret
  exact ⟨rfl, Below.refl _ _⟩

theorem cf_gain1 (args : Array Value) (wx : World) : (callFunc 66 args).run Try.prog wx = .ok (.enter 66 args) wx := by kernel_rfl

theorem colourOf_any (phase x y : Int) (w : World) (hp : 0 ≤ phase ∧ phase ≤ 3) (hx : 0 ≤ x ∧ x ≤ 64) (hy : 0 ≤ y ∧ y ≤ 64) :
    Calls Try.prog 25 #[.int .i64 phase, .int .i64 x, .int .i64 y] w fun e w' => e = .returned (.tuple #[.int .i64 (colV phase (x % 2) (y % 2)), .int .i64 0]) ∧ w = w' := by
  have a1 := and_one x (by omega) (by omega)
  have a2 := and_one y (by omega) (by omega)
  go_enter Try.func25, Try.ntmps25
  go_wp2_with (go_at_call 67; refine (colour_any _ _ _ _ hp (by omega) (by omega)).mono ?_; rintro e w' ⟨rfl, rfl⟩)
  go_ret2
  exact ⟨rfl, rfl⟩

def gainOK (phase g0 g1 g2 : Int) : Prop := (0 ≤ phase ∧ phase ≤ 3) ∧ (0 ≤ g0 ∧ g0 ≤ 65535) ∧ (0 ≤ g1 ∧ g1 ≤ 65535) ∧ (0 ≤ g2 ∧ g2 ≤ 65535)
instance (phase g0 g1 g2 : Int) : Decidable (gainOK phase g0 g1 g2) := by unfold gainOK; infer_instance
def gainL (phase g0 g1 g2 : Int) (W : Nat) (xs : List Int) (k : Nat) : Int := min (xs.getD k 0 * [g0,g1,g2].getD (colV phase ((k : Int) % W) ((k : Int) / W)).toNat 0 / 256) 65535

section
variable (W H phase g0 g1 g2 : Int) (A : Option Addr) (n c : Nat) (xs : List Int) (w : World)
set_option maxHeartbeats 400000 in
theorem gain_form (h : RI w 0 A n xs) (hn : n ≤ maxLen) (hf : planeFine W H xs = false) :
    Calls Try.prog 22 #[.agg #[.int .i64 W, .int .i64 H, .slice A n c], .int .i64 phase, .agg #[.int .i64 g0, .int .i64 g1, .int .i64 g2]] w fun e w' =>
      e = .returned (.tuple #[noPlane, .int .i64 1]) ∧ Below w.heap.size w w' := by
  have HR := Lib.hid h
  have HF := Lib.hid hf
  have HN := Lib.hid hn
  clear h hf hn
  have i0 : ∀ wx, (Instr.index 39 (.agg #[.int .i64 g0, .int .i64 g1, .int .i64 g2]) (.int .i64 0)).run Try.prog wx = .ok (.int .i64 g0) wx := fun _ => by kernel_rfl
  have i1 : ∀ wx, (Instr.index 39 (.agg #[.int .i64 g0, .int .i64 g1, .int .i64 g2]) (.int .i64 1)).run Try.prog wx = .ok (.int .i64 g1) wx := fun _ => by kernel_rfl
  have i2 : ∀ wx, (Instr.index 39 (.agg #[.int .i64 g0, .int .i64 g1, .int .i64 g2]) (.int .i64 2)).run Try.prog wx = .ok (.int .i64 g2) wx := fun _ => by kernel_rfl
  go_enter Try.func22, Try.ntmps22
  go_wp2_with fail
  refine (fine_any _ _ _ _ _ _ _ (HR.out.below (B' := w.heap.size) (by go_grown) (Nat.le_refl _)) HN.out).mono ?_
  rintro e w1 ⟨rfl, hb⟩
  rw [HF.out]
  have r := (show Blk w1 (w.heap.size+1+1+1) 24 #[.int .i64 0, .int .i64 0, .slice none 0 0] from (Blk.newAt (by simp)).below hb (by simp))
  have p := (show Blk w1 w.heap.size 24 #[.int .i64 W, .int .i64 H, .slice A n c] from ((((Blk.newAt (by simp)).alloc _).alloc _).alloc _).below hb (by simp <;> omega))
  have q := (show Blk w1 (w.heap.size+1) 3 #[.int .i64 phase] from (((Blk.newAt (by simp)).alloc _).alloc _).below hb (by simp <;> omega))
  have s := (show Blk w1 (w.heap.size+1+1) 39 #[.int .i64 g0, .int .i64 g1, .int .i64 g2] from ((Blk.newAt (by simp)).alloc _).below hb (by simp <;> omega))
  obtain ⟨r0, r1, r2⟩ := r.c3
  obtain ⟨f0, f1, f2⟩ := r.f3
  obtain ⟨p0, p1, p2⟩ := p.c3
  obtain ⟨s0, s1, s2⟩ := s.c3
  have q0 := q.c1.1
  have KR := Lib.hid r
  have KP := Lib.hid (And.intro p (And.intro q s))
  have hB : Hid (Below w.heap.size w w1) := (show Below w.heap.size w _ by go_grown).trans (hb.mono (by simp <;> omega))
  have hsz : w.heap.size + 4 ≤ w1.heap.size := by have := hb.size; simp at this; omega
  clear r p q s hb
  go_wp2
  exact bodyPost_ret (results_row_tmp rfl _ _ (w.heap.size+1+1+1) 24 _ _ (by rfl) (((KR.out.set_ 0 _ rfl).set_ 1 _ rfl).set_ 2 _ rfl) Try.underlying24 rfl (by kernel_rfl)) rfl ⟨rfl, ((hB.out.setCell (by simp <;> omega) _).setCell (by simp <;> omega) _).setCell (by simp <;> omega) _⟩

set_option maxHeartbeats 1600000 in
theorem gain_range (h : RI w 0 A n xs) (hn : n ≤ maxLen) (hf : planeFine W H xs = true) (ho : ¬ gainOK phase g0 g1 g2) :
    Calls Try.prog 22 #[.agg #[.int .i64 W, .int .i64 H, .slice A n c], .int .i64 phase, .agg #[.int .i64 g0, .int .i64 g1, .int .i64 g2]] w fun e w' =>
      e = .returned (.tuple #[noPlane, .int .i64 3]) ∧ Below w.heap.size w w' := by
  unfold gainOK at ho
  have HR := Lib.hid h
  have HF := Lib.hid hf
  have HN := Lib.hid hn
  clear h hf hn
  have i0 : ∀ wx, (Instr.index 39 (.agg #[.int .i64 g0, .int .i64 g1, .int .i64 g2]) (.int .i64 0)).run Try.prog wx = .ok (.int .i64 g0) wx := fun _ => by kernel_rfl
  have i1 : ∀ wx, (Instr.index 39 (.agg #[.int .i64 g0, .int .i64 g1, .int .i64 g2]) (.int .i64 1)).run Try.prog wx = .ok (.int .i64 g1) wx := fun _ => by kernel_rfl
  have i2 : ∀ wx, (Instr.index 39 (.agg #[.int .i64 g0, .int .i64 g1, .int .i64 g2]) (.int .i64 2)).run Try.prog wx = .ok (.int .i64 g2) wx := fun _ => by kernel_rfl
  go_enter Try.func22, Try.ntmps22
  go_wp2_with fail
  refine (fine_any _ _ _ _ _ _ _ (HR.out.below (B' := w.heap.size) (by go_grown) (Nat.le_refl _)) HN.out).mono ?_
  rintro e w1 ⟨rfl, hb⟩
  rw [HF.out]
  have r := (show Blk w1 (w.heap.size+1+1+1) 24 #[.int .i64 0, .int .i64 0, .slice none 0 0] from (Blk.newAt (by simp)).below hb (by simp))
  have p := (show Blk w1 w.heap.size 24 #[.int .i64 W, .int .i64 H, .slice A n c] from ((((Blk.newAt (by simp)).alloc _).alloc _).alloc _).below hb (by simp <;> omega))
  have q := (show Blk w1 (w.heap.size+1) 3 #[.int .i64 phase] from (((Blk.newAt (by simp)).alloc _).alloc _).below hb (by simp <;> omega))
  have s := (show Blk w1 (w.heap.size+1+1) 39 #[.int .i64 g0, .int .i64 g1, .int .i64 g2] from ((Blk.newAt (by simp)).alloc _).below hb (by simp <;> omega))
  obtain ⟨r0, r1, r2⟩ := r.c3
  obtain ⟨f0, f1, f2⟩ := r.f3
  obtain ⟨p0, p1, p2⟩ := p.c3
  obtain ⟨s0, s1, s2⟩ := s.c3
  have q0 := q.c1.1
  have KR := Lib.hid r
  have KP := Lib.hid (And.intro p (And.intro q s))
  have hB : Hid (Below w.heap.size w w1) := (show Below w.heap.size w _ by go_grown).trans (hb.mono (by simp <;> omega))
  have hsz : w.heap.size + 4 ≤ w1.heap.size := by have := hb.size; simp at this; omega
  clear r p q s hb
  go_wp2
  go_rounds 4
  all_goals exact bodyPost_ret (results_row_tmp rfl _ _ (w.heap.size+1+1+1) 24 _ _ (by rfl) (((KR.out.set_ 0 _ rfl).set_ 1 _ rfl).set_ 2 _ rfl) Try.underlying24 rfl (by kernel_rfl)) rfl ⟨rfl, ((hB.out.setCell (by simp <;> omega) _).setCell (by simp <;> omega) _).setCell (by simp <;> omega) _⟩

set_option maxRecDepth 100000 in
set_option maxHeartbeats 1600000 in
theorem gain_ok (m : Nat) (h : RI w 0 A n xs) (hn : n ≤ maxLen) (hf : planeFine m H xs = true) (ho : gainOK phase g0 g1 g2) :
    Calls Try.prog 22 #[.agg #[.int .i64 m, .int .i64 H, .slice A n c], .int .i64 phase, .agg #[.int .i64 g0, .int .i64 g1, .int .i64 g2]] w fun e w' =>
      ∃ A' c', e = .returned (.tuple #[.agg #[.int .i64 m, .int .i64 H, .slice A' n c'], .int .i64 0]) ∧ RI w' w.heap.size A' n ((List.range n).map (gainL phase g0 g1 g2 m xs)) ∧ Below w.heap.size w w' := by
  obtain ⟨o0, o1, o2, o3⟩ := ho
  obtain ⟨hside, hlen, hall⟩ := planeFine_iff.1 hf
  obtain ⟨hm1, hm2⟩ := mul_side hside
  have HS : Hid (1 ≤ m ∧ m ≤ 64 ∧ n ≤ 4096 ∧ ∀ k : Nat, k < n → 0 ≤ (k : Int) % m ∧ (k : Int) % m ≤ 64 ∧ 0 ≤ (k : Int) / m ∧ (k : Int) / m ≤ 64) := by
    unfold sideOk at hside
    have hl2 := h.len
    refine ⟨by omega, by omega, by omega, fun k hk => ?_⟩
    have g1 := Int.emod_nonneg (k : Int) (show (m : Int) ≠ 0 by omega)
    have g2 := Int.emod_lt_of_pos (k : Int) (show 0 < (m : Int) by omega)
    have g3 : 0 ≤ (k : Int) / m := Int.ediv_nonneg (by omega) (by omega)
    have g4 : (k : Int) / m < H := Int.ediv_lt_of_lt_mul (by omega) (by rw [Int.mul_comm]; omega)
    omega
  have HA : Hid (∀ (k : Nat) (v : Int), xs[k]? = some v → 0 ≤ v ∧ v ≤ 65535) := fun k v hv => okS_of (List.all_eq_true.1 hall v (List.mem_of_getElem? hv))
  clear hside hlen hall hm1 hm2
  have HR := Lib.hid h
  have HF := Lib.hid hf
  have HN := Lib.hid hn
  clear h hf hn
  have i0 : ∀ wx, (Instr.index 39 (.agg #[.int .i64 g0, .int .i64 g1, .int .i64 g2]) (.int .i64 0)).run Try.prog wx = .ok (.int .i64 g0) wx := fun _ => by kernel_rfl
  have i1 : ∀ wx, (Instr.index 39 (.agg #[.int .i64 g0, .int .i64 g1, .int .i64 g2]) (.int .i64 1)).run Try.prog wx = .ok (.int .i64 g1) wx := fun _ => by kernel_rfl
  have i2 : ∀ wx, (Instr.index 39 (.agg #[.int .i64 g0, .int .i64 g1, .int .i64 g2]) (.int .i64 2)).run Try.prog wx = .ok (.int .i64 g2) wx := fun _ => by kernel_rfl
  go_enter Try.func22, Try.ntmps22
  go_wp2_with fail
  refine (fine_any _ _ _ _ _ _ _ (HR.out.below (B' := w.heap.size) (by go_grown) (Nat.le_refl _)) HN.out).mono ?_
  rintro e w1 ⟨rfl, hb⟩
  rw [HF.out]
  have r := (show Blk w1 (w.heap.size+1+1+1) 24 #[.int .i64 0, .int .i64 0, .slice none 0 0] from (Blk.newAt (by simp)).below hb (by simp))
  have p := (show Blk w1 w.heap.size 24 #[.int .i64 m, .int .i64 H, .slice A n c] from ((((Blk.newAt (by simp)).alloc _).alloc _).alloc _).below hb (by simp <;> omega))
  have q := (show Blk w1 (w.heap.size+1) 3 #[.int .i64 phase] from (((Blk.newAt (by simp)).alloc _).alloc _).below hb (by simp <;> omega))
  have s := (show Blk w1 (w.heap.size+1+1) 39 #[.int .i64 g0, .int .i64 g1, .int .i64 g2] from ((Blk.newAt (by simp)).alloc _).below hb (by simp <;> omega))
  obtain ⟨r0, r1, r2⟩ := r.c3
  obtain ⟨f0, f1, f2⟩ := r.f3
  obtain ⟨p0, p1, p2⟩ := p.c3
  obtain ⟨s0, s1, s2⟩ := s.c3
  have q0 := q.c1.1
  have KR := Lib.hid r
  have KP := Lib.hid (And.intro p (And.intro q s))
  have hB : Hid (Below w.heap.size w w1) := (show Below w.heap.size w _ by go_grown).trans (hb.mono (by simp <;> omega))
  have hsz : w.heap.size + 4 ≤ w1.heap.size := by have := hb.size; simp at this; omega
  clear r p q s hb
  go_wp2
  refine wp_loop_rounds 4 ?_
  iterate 3 (rw [rounds_succ]; go_wp2_with fail)
  rw [rounds_succ]
  go_wp2_with fail
  obtain ⟨hm1, hm2, hn4, hkk⟩ := HS.out
  refine (each_any 66 ⟨w.heap.size+1+1, 0, none⟩ ⟨w.heap.size+1, 0, none⟩ (fun v x y => v * [g0,g1,g2].getD (colV phase x y).toNat 0 / 256) m H A n c xs _ (HR.out.below hB.out (Nat.le_refl _)) hn4 hm1 hm2 cf_gain1 ?_).mono ?_
  · intro k v wx hv hbx
    obtain ⟨_, q, s⟩ := KP.out
    have hk : k < n := by rw [← HR.out.len]; exact (List.getElem?_eq_some_iff.1 hv).1
    obtain ⟨x0, x1, y0, y1⟩ := hkk k hk
    exact gain1_any g0 g1 g2 v phase _ _ _ _ wx o0 ⟨x0, x1⟩ ⟨y0, y1⟩ (HA.out k v hv) o1 o2 o3 (s.below hbx s.lt) (q.below hbx q.lt)
  · rintro e w2 ⟨A', c', rfl, hri, hb2⟩
    have r' := KR.out.below hb2 KR.out.lt
    have HB2 := Lib.hid hb2
    have HRI := Lib.hid hri
    obtain ⟨r0', r1', r2'⟩ := r'.c3
    obtain ⟨f0', f1', f2'⟩ := r'.f3
    have KR' := Lib.hid r'
    clear r' hb2 hri
    go_wp2
    refine bodyPost_ret (results_row_tmp rfl _ _ (w.heap.size+1+1+1) 24 _ _ (by rfl) (((KR'.out.set_ 0 _ rfl).set_ 1 _ rfl).set_ 2 _ rfl) Try.underlying24 rfl (by kernel_rfl)) rfl ⟨A', c', rfl, ?_, ?_⟩
    · exact (((HRI.out.set_ (by simp <;> omega) _).set_ (by simp <;> omega) _).set_ (by simp <;> omega) _).base (by omega)
    · exact (((hB.out.trans (HB2.out.mono (by omega))).setCell (by simp <;> omega) _).setCell (by simp <;> omega) _).setCell (by simp <;> omega) _
end
end Go.Proofs.Ytpmnfhifmmfglaa
