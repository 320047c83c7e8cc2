/- The walk of the law SensorGains. -/
import Derived.Test.YtpmnfhifmmfglaaGainRef
import Derived.Test.YtpmnfhifmmfglaaSenBegun
namespace Go.Proofs.Ytpmnfhifmmfglaa
open Go.RowKit

theorem colourOf_all (phase x y : Int) (w : World) (h : 0 ≤ phase ∧ phase ≤ 3 ∧ 0 ≤ x ∧ 0 ≤ y) (hx : x ≤ 9223372036854775807) (hy : y ≤ 9223372036854775807) :
    Calls Try.prog 25 #[.int .i64 phase, .int .i64 x, .int .i64 y] w fun e w' => e = .returned (.tuple #[.int .i64 (colV phase (x % 2) (y % 2)), .int .i64 0]) ∧ w = w' := by
  have a1 := and_one x (by omega) (by omega)
  have a2 := and_one y (by omega) (by omega)
  go_enter Try.func25, Try.ntmps25
  go_wp2_with (go_at_call 67; refine (colour_any _ _ _ _ (by omega) (by omega) (by omega)).mono ?_; rintro e w' ⟨rfl, rfl⟩)
  go_ret2
  exact ⟨rfl, rfl⟩

section
variable (W H phase g0 g1 g2 x y : Int) (A : Option Addr) (n c : Nat) (xs : List Int) (w : World)
set_option maxRecDepth 100000 in
set_option maxHeartbeats 4000000 in
theorem senGains_err (k : Int) (hk : (k == 0) = false) (hx : x ≤ 9223372036854775807) (hy : y ≤ 9223372036854775807)
    (h1 : ∀ wx, Below w.heap.size w wx → Calls Try.prog 22 #[.agg #[.int .i64 W, .int .i64 H, .slice A n c], .int .i64 phase, .agg #[.int .i64 g0, .int .i64 g1, .int .i64 g2]] wx fun e w' => e = .returned (.tuple #[noPlane, .int .i64 k]) ∧ Below wx.heap.size wx w')
    (h2 : ∀ wx, Below w.heap.size w wx → Calls Try.prog 23 #[.agg #[.int .i64 W, .int .i64 H, .slice A n c], .int .i64 phase, .agg #[.int .i64 g0, .int .i64 g1, .int .i64 g2]] wx fun e w' => e = .returned (.int .i64 k) ∧ Below wx.heap.size wx w') :
    Calls Try.prog 5 #[.agg #[.int .i64 W, .int .i64 H, .slice A n c], .int .i64 phase, .agg #[.int .i64 g0, .int .i64 g1, .int .i64 g2], .int .i64 x, .int .i64 y] w fun e w' => e = .returned (.bool true) ∧ Below w.heap.size w w' := by
  have H1 := Lib.hid h1
  have H2 := Lib.hid h2
  clear h1 h2
  go_enter Try.func5, Try.ntmps5
  go_wp2_with fail
  refine (H1.out _ (by go_grown)).mono ?_
  rintro e w1 ⟨rfl, d1⟩
  simp only [noPlane]
  have p := (show Blk w1 w.heap.size 24 #[.int .i64 W, .int .i64 H, .slice A n c] from ((Blk.newAt (by simp)).alloc _).below d1 (by simp <;> omega))
  have q := (show Blk w1 (w.heap.size+1) 39 #[.int .i64 g0, .int .i64 g1, .int .i64 g2] from (Blk.newAt (by simp)).below d1 (by simp <;> omega))
  obtain ⟨p0, p1, p2⟩ := p.c3
  obtain ⟨q0, q1, q2⟩ := q.c3
  have hB1 := Lib.hid ((show Below w.heap.size w _ by go_grown).trans (d1.mono (by simp <;> omega)))
  have z1 : w.heap.size + 2 ≤ w1.heap.size := by have := d1.size; simp at this; omega
  have za : w.heap.size < w1.heap.size := by omega
  have zb : w.heap.size + 1 < w1.heap.size := by omega
  clear p q d1
  go_wp2_with fail
  refine (H2.out _ (hB1.out.alloc (by omega) _)).mono ?_
  rintro e w2 ⟨rfl, d2⟩
  have r := (show Blk w2 w1.heap.size 24 #[.int .i64 0, .int .i64 0, .slice none 0 0] from (Blk.newAt (by simp)).below d2 (by simp <;> omega))
  have hB2 := Lib.hid ((hB1.out.alloc (by omega) (.cells #[.int .i64 0, .int .i64 0, .slice none 0 0] 24)).trans (d2.mono (by simp <;> omega)))
  have z2 : w1.heap.size + 1 ≤ w2.heap.size := by have := d2.size; simp at this; omega
  have R := Lib.hid r
  clear r d2 p0 p1 p2 q0 q1 q2
  rcases (show (0 ≤ phase ∧ phase ≤ 3 ∧ 0 ≤ x ∧ 0 ≤ y) ∨ phase < 0 ∨ ¬ phase < 0 ∧ (3 < phase ∨ ¬ 3 < phase ∧ (x < 0 ∨ ¬ x < 0 ∧ y < 0)) by omega) with hc | hc | ⟨hc1, hc | ⟨hc2, hc | ⟨hc3, hc⟩⟩⟩
  all_goals
    go_wp2_with fail
    first
      | (refine (colourOf_all phase x y _ hc hx hy).mono ?_
         rintro e w' ⟨rfl, rfl⟩
         have tx : x.tmod 2 = x % 2 := Int.tmod_eq_emod_of_nonneg hc.2.2.1
         have ty : y.tmod 2 = y % 2 := Int.tmod_eq_emod_of_nonneg hc.2.2.2
         go_wp2_with fail
         refine (colourAt_any phase (x % 2) (y % 2) _ (by omega) (by omega) (by omega)).mono ?_
         rintro e w' ⟨rfl, rfl⟩
         go_wp2_with fail)
      | (refine (colourOf_no phase x y _ (by omega)).mono ?_
         rintro e w' ⟨rfl, rfl⟩
         go_wp2_with fail)
  all_goals
    refine (sensorBegun_any _).mono ?_
    rintro e w3 ⟨rfl, d3⟩
    have r := (R.out.alloc (.cells #[.int .i64 0, .int .i64 0, .slice none 0 0] 24)).below d3 (by simp <;> omega)
    have s := (show Blk w3 w2.heap.size 24 #[.int .i64 0, .int .i64 0, .slice none 0 0] from (Blk.newAt (by simp)).below d3 (by simp <;> omega))
    obtain ⟨r0, r1, r2⟩ := r.c3
    obtain ⟨s0, s1, s2⟩ := s.c3
    have hB3 := Lib.hid ((hB2.out.alloc (by omega) (.cells #[.int .i64 0, .int .i64 0, .slice none 0 0] 24)).trans (d3.mono (by simp <;> omega)))
    clear r s d3
    go_wp2_with fail
    refine (samePlanes_any 0 0 0 0 none none 0 0 0 0 [] [] _ RI.nil RI.nil (Nat.zero_le _) (Nat.zero_le _)).mono ?_
    rintro e w4 ⟨rfl, d4⟩
    have z3 := hB3.out.size
    simp only [decide_true, and_self]
    go_wp2_with fail
    go_ret
    exact ⟨rfl, hB3.out.trans (d4.mono (by omega))⟩

set_option maxRecDepth 100000 in
set_option maxHeartbeats 4000000 in
theorem senGains_ok (m l : Nat) (h : RI w 0 A n xs) (hn : n ≤ maxLen) (hf : planeFine m l xs = true) (ho : gainOK phase g0 g1 g2) (hx : x ≤ 9223372036854775807) (hy : y ≤ 9223372036854775807) :
    Calls Try.prog 5 #[.agg #[.int .i64 m, .int .i64 l, .slice A n c], .int .i64 phase, .agg #[.int .i64 g0, .int .i64 g1, .int .i64 g2], .int .i64 x, .int .i64 y] w fun e w' => e = .returned (.bool true) ∧ Below w.heap.size w w' := by
  have HR := Lib.hid h
  have HF := Lib.hid hf
  have HN := Lib.hid hn
  have HO := Lib.hid ho
  clear h hf hn ho
  go_enter Try.func5, Try.ntmps5
  go_wp2_with fail
  refine (gain_ok l phase g0 g1 g2 A n c xs _ m (HR.out.below (B' := w.heap.size) (by go_grown) (Nat.le_refl _)) HN.out HF.out HO.out).mono ?_
  rintro e w1 ⟨A1, c1, rfl, y1, d1⟩
  have p := (show Blk w1 w.heap.size 24 #[.int .i64 m, .int .i64 l, .slice A n c] from ((Blk.newAt (by simp)).alloc _).below d1 (by simp <;> omega))
  have q := (show Blk w1 (w.heap.size+1) 39 #[.int .i64 g0, .int .i64 g1, .int .i64 g2] from (Blk.newAt (by simp)).below d1 (by simp <;> omega))
  obtain ⟨p0, p1, p2⟩ := p.c3
  obtain ⟨q0, q1, q2⟩ := q.c3
  have hB1 := Lib.hid ((show Below w.heap.size w _ by go_grown).trans (d1.mono (by simp <;> omega)))
  have z1 : w.heap.size + 2 ≤ w1.heap.size := by have := d1.size; simp at this; omega
  have za : w.heap.size < w1.heap.size := by omega
  have zb : w.heap.size + 1 < w1.heap.size := by omega
  have P := Lib.hid p
  have Q := Lib.hid q
  have Y1 := Lib.hid y1
  clear p q d1 y1
  go_wp2_with fail
  refine (gainError_rest m l phase g0 g1 g2 A n c xs _ (HR.out.below (hB1.out.alloc (by omega) _) (Nat.le_refl _)) HN.out HF.out).mono ?_
  rw [if_pos HO.out]
  rintro e w2 ⟨rfl, d2⟩
  have r := (show Blk w2 w1.heap.size 24 #[.int .i64 m, .int .i64 l, .slice A1 n c1] from (Blk.newAt (by simp)).below d2 (by simp <;> omega))
  have hB2 := Lib.hid ((hB1.out.alloc (by omega) (.cells #[.int .i64 m, .int .i64 l, .slice A1 n c1] 24)).trans (d2.mono (by simp <;> omega)))
  have z2 : w1.heap.size + 1 ≤ w2.heap.size := by have := d2.size; simp at this; omega
  have zc : w1.heap.size < w2.heap.size := by omega
  have zd : w.heap.size < w2.heap.size := by omega
  have ze : w.heap.size + 1 < w2.heap.size := by omega
  have p := (P.out.alloc (.cells #[.int .i64 m, .int .i64 l, .slice A1 n c1] 24)).below d2 (by simp <;> omega)
  have q := (Q.out.alloc (.cells #[.int .i64 m, .int .i64 l, .slice A1 n c1] 24)).below d2 (by simp <;> omega)
  have E2 := Lib.hid (((Below.refl w1.heap.size w1).alloc (Nat.le_refl _) (.cells #[.int .i64 m, .int .i64 l, .slice A1 n c1] 24)).trans (d2.mono (by simp <;> omega)))
  have R := Lib.hid r
  clear r d2 p0 p1 p2 q0 q1 q2 P Q
  obtain ⟨p0, p1, p2⟩ := p.c3
  obtain ⟨q0, q1, q2⟩ := q.c3
  clear p q
  go_wp2_with fail
  refine (gained_any m l phase g0 g1 g2 A n c xs _ (HR.out.below (hB2.out.alloc (by omega) _) (Nat.le_refl _)) HF.out HO.out).mono ?_
  rintro e w3 ⟨A3, c3, rfl, y3, d3⟩
  have r := (R.out.alloc (.cells #[.int .i64 0, .int .i64 0, .slice none 0 0] 24)).below d3 (by simp <;> omega)
  have E3 := Lib.hid ((E2.out.alloc (by omega) (.cells #[.int .i64 0, .int .i64 0, .slice none 0 0] 24)).trans (d3.mono (by simp <;> omega)))
  have hB3 := Lib.hid ((hB2.out.alloc (by omega) (.cells #[.int .i64 0, .int .i64 0, .slice none 0 0] 24)).trans (d3.mono (by simp <;> omega)))
  have s := (show Blk w3 w2.heap.size 24 #[.int .i64 0, .int .i64 0, .slice none 0 0] from (Blk.newAt (by simp)).below d3 (by simp <;> omega))
  have z3 : w2.heap.size + 1 ≤ w3.heap.size := by have := d3.size; simp at this; omega
  obtain ⟨s0, s1, s2⟩ := s.c3
  obtain ⟨f0, f1, f2⟩ := s.f3
  have S := Lib.hid s
  have R3 := Lib.hid r
  have Z3 := Lib.hid y3
  clear r d3 y3 s R p0 p1 p2 q0 q1 q2
  rcases (show (0 ≤ phase ∧ phase ≤ 3 ∧ 0 ≤ x ∧ 0 ≤ y) ∨ phase < 0 ∨ ¬ phase < 0 ∧ (3 < phase ∨ ¬ 3 < phase ∧ (x < 0 ∨ ¬ x < 0 ∧ y < 0)) by omega) with hc | hc | ⟨hc1, hc | ⟨hc2, hc | ⟨hc3, hc⟩⟩⟩
  all_goals
    go_wp2_with fail
    first
      | (refine (colourOf_all phase x y _ hc hx hy).mono ?_
         rintro e w' ⟨rfl, rfl⟩
         have tx : x.tmod 2 = x % 2 := Int.tmod_eq_emod_of_nonneg hc.2.2.1
         have ty : y.tmod 2 = y % 2 := Int.tmod_eq_emod_of_nonneg hc.2.2.2
         go_wp2_with fail
         refine (colourAt_any phase (x % 2) (y % 2) _ (by omega) (by omega) (by omega)).mono ?_
         rintro e w' ⟨rfl, rfl⟩
         go_wp2_with fail)
      | (refine (colourOf_no phase x y _ (by omega)).mono ?_
         rintro e w' ⟨rfl, rfl⟩
         go_wp2_with fail)
  all_goals
    refine (sensorBegun_any _).mono ?_
    rintro e w4 ⟨rfl, d4⟩
    have r := (((R3.out.far (p := ⟨w2.heap.size, 0, none⟩) (by simp <;> omega) (.int .i64 m)).far (p := ⟨w2.heap.size, 1, none⟩) (by simp <;> omega) (.int .i64 l)).far (p := ⟨w2.heap.size, 2, none⟩) (by simp <;> omega) (.slice A3 n c3)).below d4 (by simp <;> omega)
    have s := (((S.out.set_ 0 (.int .i64 m) rfl).set_ 1 (.int .i64 l) rfl).set_ 2 (.slice A3 n c3) rfl).below d4 (by simp <;> omega)
    have hB4 := Lib.hid ((((hB3.out.setCell (p := ⟨w2.heap.size, 0, none⟩) (by simp <;> omega) (.int .i64 m)).setCell (p := ⟨w2.heap.size, 1, none⟩) (by simp <;> omega) (.int .i64 l)).setCell (p := ⟨w2.heap.size, 2, none⟩) (by simp <;> omega) (.slice A3 n c3)).trans (d4.mono (by simp <;> omega)))
    have hE := Lib.hid ((((E3.out.setCell (p := ⟨w2.heap.size, 0, none⟩) (by simp <;> omega) (.int .i64 m)).setCell (p := ⟨w2.heap.size, 1, none⟩) (by simp <;> omega) (.int .i64 l)).setCell (p := ⟨w2.heap.size, 2, none⟩) (by simp <;> omega) (.slice A3 n c3)).trans (d4.mono (by simp <;> omega)))
    have X1 := Lib.hid ((Y1.out.base (Nat.zero_le _)).below hE.out (Nat.le_refl _))
    have X3 := Lib.hid (((((Z3.out.set_ (p := ⟨w2.heap.size, 0, none⟩) (by simp <;> omega) (.int .i64 m)).set_ (p := ⟨w2.heap.size, 1, none⟩) (by simp <;> omega) (.int .i64 l)).set_ (p := ⟨w2.heap.size, 2, none⟩) (by simp <;> omega) (.slice A3 n c3)).below d4 (Nat.le_refl _)).base (Nat.zero_le _))
    obtain ⟨r0, r1, r2⟩ := r.c3
    obtain ⟨s0, s1, s2⟩ := s.c3
    clear r s d4 f0 f1 f2
    go_wp2_with fail
    refine (samePlanes_any m l m l A1 A3 n c1 n c3 _ _ _ X1.out X3.out HN.out HN.out).mono ?_
    rintro e w5 ⟨rfl, d5⟩
    have z5 := hB4.out.size
    simp only [decide_true, and_self]
    go_wp2_with fail
    go_ret
    exact ⟨rfl, hB4.out.trans (d5.mono (by omega))⟩
end
end Go.Proofs.Ytpmnfhifmmfglaa
