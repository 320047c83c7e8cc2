/- The walk of sensor.Repair's closure: what becomes of one sample. -/
import Derived.Test.YtpmnfhifmmfglaaOEach
import Derived.Test.YtpmnfhifmmfglaaMap
import Derived.Test.YtpmnfhifmmfglaaDRep
set_option linter.unusedVariables false
set_option linter.unusedSimpArgs false
set_option linter.unusedSectionVars false
namespace Go.Proofs.Ytpmnfhifmmfglaa
open Go.RowKit

theorem nbX_bd (x : Int) (k : Nat) (hk : k < 4) (h : 0 ≤ x ∧ x ≤ 64) : -2 ≤ nbX x k ∧ nbX x k ≤ 66 := by
  match k, hk with
  | 0, _ => simp [nbX]; omega
  | 1, _ => simp [nbX]; omega
  | 2, _ => simp [nbX]; omega
  | 3, _ => simp [nbX]; omega
theorem nbY_bd (y : Int) (k : Nat) (hk : k < 4) (h : 0 ≤ y ∧ y ≤ 64) : -2 ≤ nbY y k ∧ nbY y k ≤ 66 := by
  match k, hk with
  | 0, _ => simp [nbY]; omega
  | 1, _ => simp [nbY]; omega
  | 2, _ => simp [nbY]; omega
  | 3, _ => simp [nbY]; omega

theorem nb_index (x y : Int) (k : Nat) (hk : k < 4) (wx : World) :
    (Instr.index 99 (.agg #[.int .i64 (x - 2), .int .i64 y, .int .i64 (x + 2), .int .i64 y, .int .i64 x, .int .i64 (y - 2), .int .i64 x, .int .i64 (y + 2)]) (.int .i64 (k : Int))).run Try.prog wx = .ok (spotV (nbX x k) (nbY y k)) wx := by
  have h0 : (Instr.index 99 (.agg #[.int .i64 (x - 2), .int .i64 y, .int .i64 (x + 2), .int .i64 y, .int .i64 x, .int .i64 (y - 2), .int .i64 x, .int .i64 (y + 2)]) (.int .i64 0)).run Try.prog wx = .ok (spotV (x - 2) y) wx := by kernel_rfl
  have h1 : (Instr.index 99 (.agg #[.int .i64 (x - 2), .int .i64 y, .int .i64 (x + 2), .int .i64 y, .int .i64 x, .int .i64 (y - 2), .int .i64 x, .int .i64 (y + 2)]) (.int .i64 1)).run Try.prog wx = .ok (spotV (x + 2) y) wx := by kernel_rfl
  have h2 : (Instr.index 99 (.agg #[.int .i64 (x - 2), .int .i64 y, .int .i64 (x + 2), .int .i64 y, .int .i64 x, .int .i64 (y - 2), .int .i64 x, .int .i64 (y + 2)]) (.int .i64 2)).run Try.prog wx = .ok (spotV x (y - 2)) wx := by kernel_rfl
  have h3 : (Instr.index 99 (.agg #[.int .i64 (x - 2), .int .i64 y, .int .i64 (x + 2), .int .i64 y, .int .i64 x, .int .i64 (y - 2), .int .i64 x, .int .i64 (y + 2)]) (.int .i64 3)).run Try.prog wx = .ok (spotV x (y + 2)) wx := by kernel_rfl
  rcases (show k = 0 ∨ k = 1 ∨ k = 2 ∨ k = 3 by omega) with rfl | rfl | rfl | rfl
  · exact h0
  · exact h1
  · exact h2
  · exact h3

theorem nbVal_bd (W : Int) (xs : List Int) (x y : Int) (k : Nat) (hxs : ∀ (k : Nat) (v : Int), xs[k]? = some v → 0 ≤ v ∧ v ≤ 65535) : 0 ≤ nbVal W xs x y k ∧ nbVal W xs x y k ≤ 65535 := by
  unfold nbVal
  rw [List.getD_eq_getElem?_getD]
  cases h : xs[(nbY y k * W + nbX x k).toNat]? with
  | none => simp
  | some v => simpa using hxs _ v h
theorem nbSum_bd (W H : Int) (f : Int → Int → Int) (xs : List Int) (x y : Int) (hxs : ∀ (k : Nat) (v : Int), xs[k]? = some v → 0 ≤ v ∧ v ≤ 65535) : ∀ k : Nat, 0 ≤ nbSum W H f xs x y k ∧ nbSum W H f xs x y k ≤ 65535 * k
  | 0 => by simp [nbSum]
  | k + 1 => by
    have h1 := nbSum_bd W H f xs x y hxs k
    have h2 := nbVal_bd W xs x y k hxs
    simp only [nbSum]
    split <;> omega
theorem nbCnt_bd (W H : Int) (f : Int → Int → Int) (x y : Int) : ∀ k : Nat, 0 ≤ nbCnt W H f x y k ∧ nbCnt W H f x y k ≤ k
  | 0 => by simp [nbCnt]
  | k + 1 => by
    have h1 := nbCnt_bd W H f x y k
    simp only [nbCnt]
    split <;> omega

set_option maxRecDepth 100000 in
set_option maxHeartbeats 2000000 in
theorem repair1_any (W H v x y : Int) (A : Option Addr) (n c B mB mn : Nat) (gp : Nat) (f : Int → Int → Int) (xs : List Int) (w : World) (hR : RI w 0 A n xs) (hx : 0 ≤ x ∧ x ≤ 64) (hy : 0 ≤ y ∧ y ≤ 64)
    (hW : 1 ≤ W ∧ W ≤ 64) (hH : 1 ≤ H ∧ H ≤ 64) (hn : (n : Int) = W * H) (hxs : ∀ (k : Nat) (v : Int), xs[k]? = some v → 0 ≤ v ∧ v ≤ 65535)
    (kM : MapC w mB mn f) (kB : Blk w B 98 #[.map (some mB)]) (kP : Blk w gp 24 #[.int .i64 W, .int .i64 H, .slice A n c]) :
    Calls Try.prog 63 #[.int .i64 v, .int .i64 x, .int .i64 y, .pointer (some ⟨B, 0, none⟩), .pointer (some ⟨gp, 0, none⟩)] w fun e w' =>
      e = .returned (.int .i64 (repairV W H f xs v x y)) ∧ Below w.heap.size w w' := by
  have hlk := kM.lookup x y (by unfold wfI; omega) (by unfold wfI; omega)
  unfold spotV at hlk
  obtain ⟨b0, _⟩ := kB.c1
  by_cases h0 : f x y = 0
  · have HV : Hid (repairV W H f xs v x y = v) := by show _ = _; rw [repairV, if_pos h0]
    have hb : (f x y == 0) = true := by simp [h0]
    clear h0 hR hxs kM kB kP hn
    go_enter Try.func63, Try.ntmps63
    go_wp2
    go_ret
    exact ⟨ret_i HV.out.symm, Below.refl _ _⟩
  · have hb : (f x y == 0) = false := by simp [h0]
    have HV : Hid (repairV W H f xs v x y = if nbCnt W H f x y 4 = 0 then 0 else nbSum W H f xs x y 4 / nbCnt W H f x y 4) := by show _ = _; rw [repairV, if_neg h0]
    have KM := Lib.hid kM
    have KB := Lib.hid kB
    have KP := Lib.hid kP
    have HR := Lib.hid hR
    have HX := Lib.hid hxs
    have HN := Lib.hid hn
    clear h0 hR hxs kM kB kP hn
    go_enter Try.func63, Try.ntmps63
    go_wp2_with fail
    go_loopw [9, 10, 37] (fun s t i wr => ∃ k : Nat, k ≤ 4 ∧ i = .int .i64 k ∧ s = .int .i64 (nbSum W H f xs x y k) ∧ t = .int .i64 (nbCnt W H f x y k) ∧ Below w.heap.size w wr) (fun _ _ i _ => 4 - (intOf i).toNat)
    case atStart => exact ⟨0, by omega, rfl, rfl, rfl, Below.refl _ _⟩
    case round =>
      obtain ⟨k, hk, rfl, rfl, rfl, hbel⟩ := hrel
      have kM := KM.out.below hbel KM.out.lt
      have kB := KB.out.below hbel KB.out.lt
      have kP := KP.out.below hbel KP.out.lt
      obtain ⟨b1, _⟩ := kB.c1
      obtain ⟨p0, p1, p2⟩ := kP.c3
      have hgp := kP.lt
      have hBl := kB.lt
      have hsb := nbSum_bd W H f xs x y HX.out k
      have hcb := nbCnt_bd W H f x y k
      by_cases hlt : k < 4
      · have hix := nb_index x y k hlt
        unfold spotV at hix
        have hX := nbX_bd x k hlt hx
        have hY := nbY_bd y k hlt hy
        have hl : ∀ cs : Array Value, (Instr.lookup 98 (.map (some mB)) (.agg #[.int .i64 (nbX x k), .int .i64 (nbY y k)]) false).run Try.prog (wr.alloc (.cells cs 96)) = .ok (.int .i64 (f (nbX x k) (nbY y k))) (wr.alloc (.cells cs 96)) := fun cs =>
          (kM.alloc (.cells cs 96)).lookup (nbX x k) (nbY y k) (by unfold wfI; omega) (by unfold wfI; omega)
        have HS : Hid (nbSum W H f xs x y (k+1) = nbSum W H f xs x y k + if nbOk W H f x y k then nbVal W xs x y k else 0) := rfl
        have HC : Hid (nbCnt W H f x y (k+1) = nbCnt W H f x y k + if nbOk W H f x y k then 1 else 0) := rfl
        have HSZ := Lib.hid hbel
        clear kM kB kP hbel
        by_cases hok : nbOk W H f x y k
        · have HK := Lib.hid hok
          obtain ⟨o1, o2, o3, o4, o5⟩ := hok
          have o5' : (f (nbX x k) (nbY y k) == 0) = true := by simp [o5]
          clear o5
          obtain ⟨hW1, hW2⟩ := hW
          obtain ⟨hH1, hH2⟩ := hH
          have hm0 : 0 ≤ nbY y k * W := Int.mul_nonneg (by omega) (by omega)
          have hm1 : nbY y k * W + W ≤ H * W := by
            have : (nbY y k + 1) * W ≤ H * W := Int.mul_le_mul_of_nonneg_right (by omega) (by omega)
            rw [Int.add_mul] at this; omega
          have hm2 : H * W ≤ 64 * 64 := Int.mul_le_mul hH2 hW2 (by omega) (by omega)
          have hm3 : nbY y k * W + nbX x k < n := by rw [HN.out, Int.mul_comm W H]; omega
          obtain ⟨b, o, sv, rfl, hbs, hsv, hcc⟩ := HR.out.at_ (nbY y k * W + nbX x k).toNat (by omega)
          have hcc' := (HSZ.out.cell (p := ⟨b, o + (nbY y k * W + nbX x k).toNat, none⟩) hbs).trans hcc
          have hbl : b < wr.heap.size := Nat.lt_of_lt_of_le hbs HSZ.out.size
          have hsv2 := HX.out _ sv hsv
          have HSV : Hid (nbVal W xs x y k = sv) := by show _ = _; rw [nbVal, List.getD_eq_getElem?_getD, hsv]; rfl
          have hm4 : nbY y k * W ≤ 4096 := by omega
          clear hcc hsv hm1
          generalize hX0 : nbX x k = X at *
          generalize hY0 : nbY y k = Y at *
          clear hX0 hY0
          go_wp2
          go_roundw
          case rel => exact ⟨k + 1, by omega, by go_num, by rw [HS.out, if_pos HK.out, HSV.out], by rw [HC.out, if_pos HK.out], HSZ.out.alloc HSZ.out.size _⟩
          case measure => simp [intOf]; omega
        · have HK := Lib.hid hok
          unfold nbOk at hok
          generalize hX0 : nbX x k = X at *
          generalize hY0 : nbY y k = Y at *
          clear hX0 hY0
          by_cases hz : f X Y = 0
          · have o5' : (f X Y == 0) = true := by simp [hz]
            have hok' : ¬ (0 ≤ X ∧ X < W ∧ 0 ≤ Y ∧ Y < H) := fun hh => hok ⟨hh.1, hh.2.1, hh.2.2.1, hh.2.2.2, hz⟩
            clear hok hz
            go_wp2
            all_goals
              go_roundw
              case rel => exact ⟨k + 1, by omega, by go_num, by rw [HS.out, if_neg HK.out, Int.add_zero], by rw [HC.out, if_neg HK.out, Int.add_zero], HSZ.out.alloc HSZ.out.size _⟩
              case measure => simp [intOf]; omega
          · have o5' : (f X Y == 0) = false := by simp [hz]
            clear hok hz
            go_wp2
            all_goals
              go_roundw
              case rel => exact ⟨k + 1, by omega, by go_num, by rw [HS.out, if_neg HK.out, Int.add_zero], by rw [HC.out, if_neg HK.out, Int.add_zero], HSZ.out.alloc HSZ.out.size _⟩
              case measure => simp [intOf]; omega
      · obtain rfl : k = 4 := by omega
        have HSZ := Lib.hid hbel
        clear kM kB kP hbel
        by_cases hc0 : nbCnt W H f x y 4 = 0
        · have hc1 : (nbCnt W H f x y 4 == 0) = true := by simp [hc0]
          have HC0 := Lib.hid hc0
          clear hc0
          go_wp2
          go_ret
          exact ⟨ret_i (by rw [HV.out, if_pos HC0.out]), HSZ.out⟩
        · have hc1 : (nbCnt W H f x y 4 == 0) = false := by simp [hc0]
          have hc2 : 1 ≤ nbCnt W H f x y 4 := by omega
          have HC0 := Lib.hid hc0
          clear hc0
          go_wp2
          go_ret
          exact ⟨ret_i (by rw [HV.out, if_neg HC0.out]), HSZ.out⟩
end Go.Proofs.Ytpmnfhifmmfglaa
