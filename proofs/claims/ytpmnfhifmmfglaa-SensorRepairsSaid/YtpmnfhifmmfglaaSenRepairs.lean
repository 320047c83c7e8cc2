/- The walk of the law SensorRepairs. -/
import Derived.Test.YtpmnfhifmmfglaaRepairRef
import Derived.Test.YtpmnfhifmmfglaaSenBegun
namespace Go.Proofs.Ytpmnfhifmmfglaa
open Go.RowKit

section
variable (W H : Int) (A A2 : Option Addr) (n c n2 c2 : Nat) (xs : List Int) (l : List (Int × Int)) (w : World)
set_option maxRecDepth 100000 in
set_option maxHeartbeats 1000000 in
theorem senRepairs_err (k : Int) (hk : (k == 0) = false)
    (h1 : ∀ wx, Below w.heap.size w wx → Calls Try.prog 19 #[.agg #[.int .i64 W, .int .i64 H, .slice A n c], .slice A2 n2 c2] wx fun e w' => e = .returned (.tuple #[noPlane, .int .i64 k]) ∧ Below wx.heap.size wx w')
    (h2 : ∀ wx, Below w.heap.size w wx → Calls Try.prog 20 #[.agg #[.int .i64 W, .int .i64 H, .slice A n c], .slice A2 n2 c2] wx fun e w' => e = .returned (.int .i64 k) ∧ Below wx.heap.size wx w') :
    Calls Try.prog 4 #[.agg #[.int .i64 W, .int .i64 H, .slice A n c], .slice A2 n2 c2] w fun e w' => e = .returned (.bool true) ∧ Below w.heap.size w w' := by
  have H1 := Lib.hid h1
  have H2 := Lib.hid h2
  clear h1 h2
  go_enter Try.func4, Try.ntmps4
  go_wp2_with fail
  refine (H1.out _ (by go_grown)).mono ?_
  rintro e w1 ⟨rfl, d1⟩
  simp only [noPlane]
  have p := (show Blk w1 w.heap.size 24 #[.int .i64 W, .int .i64 H, .slice A n c] from (Blk.newAt (by simp)).below d1 (by simp <;> omega))
  obtain ⟨p0, p1, p2⟩ := p.c3
  have hB1 := Lib.hid ((show Below w.heap.size w _ by go_grown).trans (d1.mono (by simp <;> omega)))
  have z1 : w.heap.size + 1 ≤ w1.heap.size := by have := d1.size; simp at this; omega
  have za : w.heap.size < w1.heap.size := by omega
  clear p d1
  go_wp2_with fail
  refine (H2.out _ (hB1.out.alloc (by omega) _)).mono ?_
  rintro e w2 ⟨rfl, d2⟩
  have r := (show Blk w2 w1.heap.size 24 #[.int .i64 0, .int .i64 0, .slice none 0 0] from (Blk.newAt (by simp)).below d2 (by simp <;> omega))
  have hB2 := Lib.hid ((hB1.out.alloc (by omega) (.cells #[.int .i64 0, .int .i64 0, .slice none 0 0] 24)).trans (d2.mono (by simp <;> omega)))
  have z2 : w1.heap.size + 1 ≤ w2.heap.size := by have := d2.size; simp at this; omega
  have R := Lib.hid r
  clear r d2 p0 p1 p2
  go_wp2_with fail
  refine (sensorBegun_any _).mono ?_
  rintro e w3 ⟨rfl, d3⟩
  have r := (R.out.alloc (.cells #[.int .i64 0, .int .i64 0, .slice none 0 0] 24)).below d3 (by simp <;> omega)
  have s := (show Blk w3 w2.heap.size 24 #[.int .i64 0, .int .i64 0, .slice none 0 0] from (Blk.newAt (by simp)).below d3 (by simp <;> omega))
  obtain ⟨r0, r1, r2⟩ := r.c3
  obtain ⟨s0, s1, s2⟩ := s.c3
  have hB3 := Lib.hid ((hB2.out.alloc (by omega) (.cells #[.int .i64 0, .int .i64 0, .slice none 0 0] 24)).trans (d3.mono (by simp <;> omega)))
  clear r s d3
  go_wp2_with fail
  refine (samePlanes_any 0 0 0 0 none none 0 0 0 0 [] [] _ RI.nil RI.nil (Nat.zero_le _) (Nat.zero_le _)).mono ?_
  rintro e w4 ⟨rfl, d4⟩
  have z3 := hB3.out.size
  simp only [decide_true, and_self]
  go_wp2_with fail
  go_ret
  exact ⟨rfl, hB3.out.trans (d4.mono (by omega))⟩

set_option maxRecDepth 100000 in
set_option maxHeartbeats 1000000 in
theorem senRepairs_ok (m q : Nat) (h : RI w 0 A n xs) (hs : RS w 0 A2 n2 l) (hn : n ≤ maxLen) (hm : n2 ≤ 64) (hf : planeFine m q xs = true) (ho : l.all (spotOk m q) = true) :
    Calls Try.prog 4 #[.agg #[.int .i64 m, .int .i64 q, .slice A n c], .slice A2 n2 c2] w fun e w' => e = .returned (.bool true) ∧ Below w.heap.size w w' := by
  have HR := Lib.hid h
  have HS := Lib.hid hs
  have HF := Lib.hid hf
  have HN := Lib.hid hn
  have HO := Lib.hid ho
  clear h hf hn ho hs
  go_enter Try.func4, Try.ntmps4
  go_wp2_with fail
  refine (repair_rest q A A2 n c n2 c2 xs l _ m (HR.out.below (B' := w.heap.size) (by go_grown) (Nat.le_refl _)) (HS.out.below (B' := w.heap.size) (by go_grown) (Nat.le_refl _)) HN.out HF.out hm).mono ?_
  rintro e w1 hpost
  rw [RepairPost, if_pos HO.out] at hpost
  obtain ⟨A1, c1, rfl, y1, d1⟩ := hpost
  have p := (show Blk w1 w.heap.size 24 #[.int .i64 m, .int .i64 q, .slice A n c] from (Blk.newAt (by simp)).below d1 (by simp <;> omega))
  obtain ⟨p0, p1, p2⟩ := p.c3
  have hB1 := Lib.hid ((show Below w.heap.size w _ by go_grown).trans (d1.mono (by simp <;> omega)))
  have z1 : w.heap.size + 1 ≤ w1.heap.size := by have := d1.size; simp at this; omega
  have za : w.heap.size < w1.heap.size := by omega
  have P := Lib.hid p
  have Y1 := Lib.hid y1
  clear p d1 y1
  go_wp2_with fail
  refine (repairError_rest m q A A2 n c n2 c2 xs l _ (HR.out.below (hB1.out.alloc (by omega) _) (Nat.le_refl _)) (HS.out.below (hB1.out.alloc (by omega) _) (Nat.le_refl _)) HN.out HF.out hm).mono ?_
  rw [HO.out, cond_true]
  rintro e w2 ⟨rfl, d2⟩
  have r := (show Blk w2 w1.heap.size 24 #[.int .i64 m, .int .i64 q, .slice A1 n c1] from (Blk.newAt (by simp)).below d2 (by simp <;> omega))
  have hB2 := Lib.hid ((hB1.out.alloc (by omega) (.cells #[.int .i64 m, .int .i64 q, .slice A1 n c1] 24)).trans (d2.mono (by simp <;> omega)))
  have z2 : w1.heap.size + 1 ≤ w2.heap.size := by have := d2.size; simp at this; omega
  have zc : w1.heap.size < w2.heap.size := by omega
  have zd : w.heap.size < w2.heap.size := by omega
  have p := (P.out.alloc (.cells #[.int .i64 m, .int .i64 q, .slice A1 n c1] 24)).below d2 (by simp <;> omega)
  have E2 := Lib.hid (((Below.refl w1.heap.size w1).alloc (Nat.le_refl _) (.cells #[.int .i64 m, .int .i64 q, .slice A1 n c1] 24)).trans (d2.mono (by simp <;> omega)))
  have R := Lib.hid r
  clear r d2 p0 p1 p2 P
  obtain ⟨p0, p1, p2⟩ := p.c3
  clear p
  go_wp2_with fail
  refine (repaired_any m q A A2 n c n2 c2 xs l _ (HR.out.below (hB2.out.alloc (by omega) _) (Nat.le_refl _)) (HS.out.below (hB2.out.alloc (by omega) _) (Nat.le_refl _)) hm HF.out).mono ?_
  rintro e w3 ⟨A3, c3, rfl, y3, d3⟩
  have r := (R.out.alloc (.cells #[.int .i64 0, .int .i64 0, .slice none 0 0] 24)).below d3 (by simp <;> omega)
  have E3 := Lib.hid ((E2.out.alloc (by omega) (.cells #[.int .i64 0, .int .i64 0, .slice none 0 0] 24)).trans (d3.mono (by simp <;> omega)))
  have hB3 := Lib.hid ((hB2.out.alloc (by omega) (.cells #[.int .i64 0, .int .i64 0, .slice none 0 0] 24)).trans (d3.mono (by simp <;> omega)))
  have s := (show Blk w3 w2.heap.size 24 #[.int .i64 0, .int .i64 0, .slice none 0 0] from (Blk.newAt (by simp)).below d3 (by simp <;> omega))
  have z3 : w2.heap.size + 1 ≤ w3.heap.size := by have := d3.size; simp at this; omega
  obtain ⟨s0, s1, s2⟩ := s.c3
  obtain ⟨f0, f1, f2⟩ := s.f3
  have S := Lib.hid s
  have R3 := Lib.hid r
  have Z3 := Lib.hid y3
  clear r d3 y3 s R p0 p1 p2
  go_wp2_with fail
  refine (sensorBegun_any _).mono ?_
  rintro e w4 ⟨rfl, d4⟩
  have r := (((R3.out.far (p := ⟨w2.heap.size, 0, none⟩) (by simp <;> omega) (.int .i64 m)).far (p := ⟨w2.heap.size, 1, none⟩) (by simp <;> omega) (.int .i64 q)).far (p := ⟨w2.heap.size, 2, none⟩) (by simp <;> omega) (.slice A3 n c3)).below d4 (by simp <;> omega)
  have s := (((S.out.set_ 0 (.int .i64 m) rfl).set_ 1 (.int .i64 q) rfl).set_ 2 (.slice A3 n c3) rfl).below d4 (by simp <;> omega)
  have hB4 := Lib.hid ((((hB3.out.setCell (p := ⟨w2.heap.size, 0, none⟩) (by simp <;> omega) (.int .i64 m)).setCell (p := ⟨w2.heap.size, 1, none⟩) (by simp <;> omega) (.int .i64 q)).setCell (p := ⟨w2.heap.size, 2, none⟩) (by simp <;> omega) (.slice A3 n c3)).trans (d4.mono (by simp <;> omega)))
  have hE := Lib.hid ((((E3.out.setCell (p := ⟨w2.heap.size, 0, none⟩) (by simp <;> omega) (.int .i64 m)).setCell (p := ⟨w2.heap.size, 1, none⟩) (by simp <;> omega) (.int .i64 q)).setCell (p := ⟨w2.heap.size, 2, none⟩) (by simp <;> omega) (.slice A3 n c3)).trans (d4.mono (by simp <;> omega)))
  have X1 := Lib.hid ((Y1.out.base (Nat.zero_le _)).below hE.out (Nat.le_refl _))
  have X3 := Lib.hid (((((Z3.out.set_ (p := ⟨w2.heap.size, 0, none⟩) (by simp <;> omega) (.int .i64 m)).set_ (p := ⟨w2.heap.size, 1, none⟩) (by simp <;> omega) (.int .i64 q)).set_ (p := ⟨w2.heap.size, 2, none⟩) (by simp <;> omega) (.slice A3 n c3)).below d4 (Nat.le_refl _)).base (Nat.zero_le _))
  obtain ⟨r0, r1, r2⟩ := r.c3
  obtain ⟨s0, s1, s2⟩ := s.c3
  clear r s d4 f0 f1 f2
  go_wp2_with fail
  refine (samePlanes_any m q m q A1 A3 n c1 n c3 _ _ _ X1.out X3.out HN.out HN.out).mono ?_
  rintro e w5 ⟨rfl, d5⟩
  have z5 := hB4.out.size
  simp only [decide_true, and_self]
  go_wp2_with fail
  go_ret
  exact ⟨rfl, hB4.out.trans (d5.mono (by omega))⟩
end
end Go.Proofs.Ytpmnfhifmmfglaa
