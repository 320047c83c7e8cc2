/- The walk of sensorBegun: what must be in any case. -/
import Derived.Test.YtpmnfhifmmfglaaGain
import Derived.Test.YtpmnfhifmmfglaaRepair
namespace Go.Proofs.Ytpmnfhifmmfglaa
open Go.RowKit

theorem RI_lit {w : World} {g : Nat} {t : TypeId} (xs : List Int) {cs : Array Value} (h : Blk w g t cs) (hc : cs = (VI xs).toArray) (B : Nat) (hB : B ≤ g) {n : Nat} (hn : n = xs.length) : RI w B (some ⟨g, 0, none⟩) n xs := by
  subst hc; subst hn; exact RI_blk h B hB

theorem RS_lit {w : World} {g : Nat} {t : TypeId} {x y : Int} (h : Blk w g t #[.int .i64 x, .int .i64 y]) (B : Nat) (hB : B ≤ g) : RS w B (some ⟨g, 0, none⟩) 1 [(x, y)] :=
  ⟨rfl, fun _ => ⟨g, 0, rfl, hB, h.lt, fun k a b hk => by
    match k, hk with
    | 0, hk =>
      simp at hk
      obtain ⟨rfl, rfl⟩ := hk
      exact h.c2⟩⟩

theorem small_any (w : World) : Calls Try.prog 61 #[] w fun e w' => ∃ A, e = .returned (.agg #[.int .i64 2, .int .i64 2, .slice A 4 4]) ∧ RI w' w.heap.size A 4 [10, 65535, 0, 7] ∧ Below w.heap.size w w' := by
  go_enter Try.func61, Try.ntmps61
  go_wp2
  refine bodyPost_ret (results_cell_row rfl _ _ w.heap.size 24 _ (0,0) _ (by rfl) (show Blk _ _ _ _ from (Blk.newAt rfl).alloc _) Try.underlying24 rfl (by kernel_rfl)) rfl ?_
  exact ⟨_, rfl, RI_lit [10, 65535, 0, 7] (Blk.newAt (by simp)) rfl _ (by omega) rfl, by go_grown⟩

set_option maxRecDepth 100000 in
set_option maxHeartbeats 1000000 in
theorem sensorBegun_any (w : World) : Calls Try.prog 17 #[] w fun e w' => e = .returned (.bool true) ∧ Below w.heap.size w w' := by
  go_enter Try.func17, Try.ntmps17
  go_wp2_with fail
  refine (small_any _).mono ?_
  rintro e w1 ⟨A1, rfl, r1, b1⟩
  go_wp2_with fail
  refine (level_ok 2 0 5 0 5 10 A1 4 4 _ _ 2 (r1.base (by omega)) (by decide) (by decide) (by decide)).mono ?_
  rintro e w2 ⟨A2, c2, rfl, r2, b2⟩
  rw [show (List.range 4).map (levelL 0 5 0 5 10 2 [10, 65535, 0, 7]) = [65535, 65535, 0, 26214] by decide] at r2
  have R2 := Lib.hid r2
  have hb1 := b1.size
  have hb2 := b2.size
  have B2 := Lib.hid (b1.trans (b2.mono (by omega)))
  clear r1 b1 r2
  go_wp2_with fail
  refine (repair_rest 1 _ _ 3 3 1 1 [4, 9, 7] [(0, 0)] _ 3 ?q1 ?q2 (by decide) (by decide) (by decide)).mono ?_
  case q1 => exact RI_lit [4, 9, 7] (t := 3) ((Blk.newAt (by simp)).alloc _) rfl _ (Nat.zero_le _) rfl
  case q2 => exact RS_lit (t := 96) (Blk.newAt (by simp)) _ (Nat.zero_le _)
  rintro e w3 h3
  rw [RepairPost, if_pos (by decide)] at h3
  obtain ⟨A3, c3, rfl, r3, b3⟩ := h3
  rw [show (List.range 3).map (repairL (3 : Nat) 1 [(0, 0)] [4, 9, 7]) = [7, 9, 7] by decide] at r3
  have hb3 := b3.size
  simp only [World.size_alloc] at hb3
  have R2' := Lib.hid ((((R2.out.alloc (.cells #[.int .i64 2, .int .i64 2, .slice A2 4 c2] 24)).alloc (.cells #[.int .i64 4, .int .i64 9, .int .i64 7] 3)).alloc (.cells #[.int .i64 0, .int .i64 0] 96)).below b3 (Nat.le_refl _))
  have kA := Lib.hid (show Blk w3 w2.heap.size 24 #[.int .i64 2, .int .i64 2, .slice A2 4 c2] from (((Blk.newAt rfl).alloc _).alloc _).below b3 (by simp <;> omega))
  have R3 := Lib.hid r3
  have B3 := Lib.hid ((show Below w.heap.size w _ from ((B2.out.alloc (by omega) _).alloc (by simp <;> omega) _).alloc (by simp <;> omega) _).trans (b3.mono (by simp <;> omega)))
  clear r3 b2 b3
  go_wp2_with fail
  refine (colourOf_any 3 0 0 _ (by decide) (by decide) (by decide)).mono ?_
  rintro e w' ⟨rfl, rfl⟩
  rw [show colV 3 (0 % 2) (0 % 2) = 2 by decide]
  go_wp2_with fail
  refine (small_any _).mono ?_
  rintro e w4 ⟨A4, rfl, r4, b4⟩
  have R2a := Lib.hid ((R2'.out.alloc (.cells #[.int .i64 3, .int .i64 1, .slice A3 3 c3] 24)).below b4 (Nat.le_refl _))
  have R3a := Lib.hid ((R3.out.alloc (.cells #[.int .i64 3, .int .i64 1, .slice A3 3 c3] 24)).below b4 (Nat.le_refl _))
  have kA1 := Lib.hid ((kA.out.alloc (.cells #[.int .i64 3, .int .i64 1, .slice A3 3 c3] 24)).below b4 (by simp <;> omega))
  have kB1 := Lib.hid (show Blk w4 w3.heap.size 24 #[.int .i64 3, .int .i64 1, .slice A3 3 c3] from (Blk.newAt rfl).below b4 (by simp))
  have hb4 := b4.size
  simp only [World.size_alloc] at hb4
  have B4 := Lib.hid ((B3.out.alloc (by omega) (.cells #[.int .i64 3, .int .i64 1, .slice A3 3 c3] 24)).trans (b4.mono (by simp <;> omega)))
  have R4 := Lib.hid r4
  clear r4 b4
  go_wp2_with fail
  refine (gain_ok 2 0 512 256 128 A4 4 4 [10, 65535, 0, 7] _ 2 ?q1 (by decide) (by decide) (by decide)).mono ?_
  case q1 => exact R4.out.base (Nat.zero_le _)
  rintro e w5 ⟨A5, c5, rfl, r5, b5⟩
  rw [show (List.range 4).map (gainL 0 512 256 128 2 [10, 65535, 0, 7]) = [20, 65535, 0, 3] by decide] at r5
  have hb5 := b5.size
  have R2b := Lib.hid (R2a.out.below b5 (Nat.le_refl _))
  have R3b := Lib.hid (R3a.out.below b5 (Nat.le_refl _))
  have kA2 := Lib.hid (kA1.out.below b5 (by omega))
  have kB2 := Lib.hid (kB1.out.below b5 (by omega))
  obtain ⟨_, _, a2⟩ := kA2.out.c3
  obtain ⟨_, _, d2⟩ := kB2.out.c3
  have B5 := Lib.hid (B4.out.trans (b5.mono (by omega)))
  have R5 := Lib.hid r5
  have zA : w2.heap.size < w5.heap.size := by omega
  have zB : w3.heap.size < w5.heap.size := by omega
  clear r5 b5
  go_wp2_with fail
  refine (sameInts_any A2 _ 4 c2 4 4 [65535, 65535, 0, 26214] [65535, 65535, 0, 26214] _ ?q2 ?q3 (by decide) (by decide)).mono ?_
  case q2 => exact ((R2b.out.alloc _).alloc _).base (Nat.zero_le _)
  case q3 => exact RI_lit _ (t := 3) (Blk.newAt (by simp)) rfl _ (Nat.zero_le _) rfl
  rintro e w6 ⟨rfl, b6⟩
  rw [show decide (([65535, 65535, 0, 26214] : List Int) = [65535, 65535, 0, 26214]) = true by decide]
  have hb6 := b6.size
  simp only [World.size_alloc] at hb6
  have R3c := Lib.hid (((R3b.out.alloc (.cells #[.int .i64 2, .int .i64 2, .slice A5 4 c5] 24)).alloc (.cells #[.int .i64 65535, .int .i64 65535, .int .i64 0, .int .i64 26214] 3)).below b6 (Nat.le_refl _))
  have R5c := Lib.hid (((R5.out.alloc (.cells #[.int .i64 2, .int .i64 2, .slice A5 4 c5] 24)).alloc (.cells #[.int .i64 65535, .int .i64 65535, .int .i64 0, .int .i64 26214] 3)).below b6 (Nat.le_refl _))
  have kB3 := Lib.hid (((kB2.out.alloc (.cells #[.int .i64 2, .int .i64 2, .slice A5 4 c5] 24)).alloc (.cells #[.int .i64 65535, .int .i64 65535, .int .i64 0, .int .i64 26214] 3)).below b6 (by simp <;> omega))
  have kC3 := Lib.hid (show Blk w6 w5.heap.size 24 #[.int .i64 2, .int .i64 2, .slice A5 4 c5] from ((Blk.newAt rfl).alloc _).below b6 (by simp <;> omega))
  have B6 := Lib.hid (((B5.out.alloc (by omega) (.cells #[.int .i64 2, .int .i64 2, .slice A5 4 c5] 24)).alloc (by simp <;> omega) (.cells #[.int .i64 65535, .int .i64 65535, .int .i64 0, .int .i64 26214] 3)).trans (b6.mono (by simp <;> omega)))
  clear b6 a2 d2
  obtain ⟨_, _, d2⟩ := kB3.out.c3
  go_wp2_with fail
  refine (sameInts_any A3 _ 3 c3 3 3 [7, 9, 7] [7, 9, 7] _ ?q4 ?q5 (by decide) (by decide)).mono ?_
  case q4 => exact (R3c.out.alloc _).base (Nat.zero_le _)
  case q5 => exact RI_lit _ (t := 3) (Blk.newAt (by simp)) rfl _ (Nat.zero_le _) rfl
  rintro e w7 ⟨rfl, b7⟩
  rw [show decide (([7, 9, 7] : List Int) = [7, 9, 7]) = true by decide]
  have hb7 := b7.size
  simp only [World.size_alloc] at hb7
  have R5d := Lib.hid ((R5c.out.alloc (.cells #[.int .i64 7, .int .i64 9, .int .i64 7] 3)).below b7 (Nat.le_refl _))
  have kC4 := Lib.hid ((kC3.out.alloc (.cells #[.int .i64 7, .int .i64 9, .int .i64 7] 3)).below b7 (by simp <;> omega))
  have B7 := Lib.hid ((B6.out.alloc (by omega) (.cells #[.int .i64 7, .int .i64 9, .int .i64 7] 3)).trans (b7.mono (by simp <;> omega)))
  clear b7 d2
  obtain ⟨_, _, g2⟩ := kC4.out.c3
  go_wp2_with fail
  refine (sameInts_any A5 _ 4 c5 4 4 [20, 65535, 0, 3] [20, 65535, 0, 3] _ ?q6 ?q7 (by decide) (by decide)).mono ?_
  case q6 => exact (R5d.out.alloc _).base (Nat.zero_le _)
  case q7 => exact RI_lit _ (t := 3) (Blk.newAt (by simp)) rfl _ (Nat.zero_le _) rfl
  rintro e w8 ⟨rfl, b8⟩
  rw [show decide (([20, 65535, 0, 3] : List Int) = [20, 65535, 0, 3]) = true by decide]
  go_wp2_with fail
  go_ret
  exact ⟨rfl, (B7.out.alloc (by omega) _).trans (b8.mono (by simp <;> omega))⟩
end Go.Proofs.Ytpmnfhifmmfglaa
