/- Walks of the document's words: PlaneFine, SameInts, SamePlanes. -/
import Derived.Test.YtpmnfhifmmfglaaPlane
set_option linter.unusedVariables false
set_option linter.unusedSimpArgs false
set_option linter.unusedSectionVars false
namespace Go.Proofs.Ytpmnfhifmmfglaa
open Go.RowKit

theorem below_drewN {B : Nat} {a w : World} (h : Below B a w) (n : Nat) : Below B a (w.drewN n) := ⟨h.os, h.tape, h.output, h.size, h.block⟩
theorem within_yes (n lo hi : Int) (w : World) (h : lo ≤ n ∧ n ≤ hi) : Calls Try.prog 57 #[.int .i64 n, .int .i64 lo, .int .i64 hi] w fun e w' => e = .returned (.bool true) ∧ w = w' :=
  (within_any n lo hi w).mono fun e w' ⟨he, hw⟩ => ⟨by rw [he]; simp [h], hw⟩
theorem within_no (n lo hi : Int) (w : World) (h : ¬ (lo ≤ n ∧ n ≤ hi)) : Calls Try.prog 57 #[.int .i64 n, .int .i64 lo, .int .i64 hi] w fun e w' => e = .returned (.bool false) ∧ w = w' :=
  (within_any n lo hi w).mono fun e w' ⟨he, hw⟩ => ⟨by rw [he]; congr 2; simpa using h, hw⟩

set_option maxHeartbeats 400000 in
theorem planeFine_any (W H : Int) (A : Option Addr) (n c : Nat) (xs : List Int) (w : World) (h : RI w 0 A n xs) (hn : n ≤ maxLen) :
    Calls Try.prog 40 #[.agg #[.int .i64 W, .int .i64 H, .slice A n c]] w fun e w' => e = .returned (.bool (planeFine W H xs)) ∧ Below w.heap.size w w' := by
  unfold maxLen at hn
  have hlen := h.len
  by_cases hs : sideOk W H
  · obtain ⟨hm1, hm2⟩ := mul_side hs
    by_cases hl : (n : Int) = W * H
    · have HP : Hid (∀ (k : Nat), n ≤ k → (xs.take k).all okS = true → planeFine W H xs = true) := fun k hk h0 => planeFine_iff.2 ⟨hs, by rw [hlen]; exact hl, all_take_full okS xs k (by omega) h0⟩
      have HF : Hid (∀ (k : Nat) (x : Int), xs[k]? = some x → okS x = false → planeFine W H xs = false) := fun k x hx h0 => by
        simp [planeFine, all_false_at okS xs k x hx h0]
      obtain ⟨h1, h2, h3, h4⟩ := hs
      have hb : ((n : Int) != W * H) = false := by simp [hl]
      clear hl hlen
      have HR := Lib.hid h
      clear h
      go_enter Try.func40, Try.ntmps40
      go_wp2_with (go_at_call 57; refine (within_yes _ _ _ _ (by omega)).mono ?_; rintro e w' ⟨rfl, rfl⟩)
      go_loopw [3] (fun i wr => ∃ k : Nat, k ≤ n ∧ i = .int .i64 k ∧ (xs.take k).all okS = true ∧ Blk wr w.heap.size 24 #[.int .i64 W, .int .i64 H, .slice A n c] ∧ Below w.heap.size w wr) (fun i _ => n - (intOf i).toNat)
      case atStart => exact ⟨0, Nat.zero_le _, rfl, rfl, Blk.new _ _ _, (Below.refl _ _).alloc (Nat.le_refl _) _⟩
      case round =>
        obtain ⟨k, hk, rfl, hal, k0, hbel⟩ := hrel
        obtain ⟨c00, c01, c02⟩ := k0.c3
        have HA := Lib.hid hal
        have K0 := Lib.hid k0
        clear hal k0
        by_cases hlt : k < n
        · obtain ⟨b, o, x, rfl, hbs, hx, hc⟩ := HR.out.at_ k hlt
          have hc' := (hbel.cell (p := ⟨b, o + k, none⟩) hbs).trans hc
          have HX := Lib.hid hx
          clear hc hx
          by_cases hok : 0 ≤ x ∧ x ≤ 65535
          · have HO : Hid (okS x = true) := by show okS x = true; simp [okS, hok]
            go_wp2_with (go_at_call 57; refine (within_yes _ _ _ _ (by omega)).mono ?_; rintro e w' ⟨rfl, rfl⟩)
            go_roundw
            case rel => exact ⟨k + 1, by omega, by go_num, all_take_succ okS xs k x HX.out HA.out HO.out, K0.out, hbel⟩
            case measure => simp [intOf]; omega
          · have HO : Hid (okS x = false) := by show okS x = false; simp [okS]; omega
            go_wp2_with (go_at_call 57; refine (within_no _ _ _ _ (by omega)).mono ?_; rintro e w' ⟨rfl, rfl⟩)
            go_ret
            exact ⟨ret_b (HF.out k x HX.out HO.out).symm, hbel⟩
        · go_wp2
          go_ret
          exact ⟨ret_b (HP.out k (by omega) HA.out).symm, hbel⟩
    · have HF : Hid (planeFine W H xs = false) := by show _ = _; simp [planeFine, hlen, hl]
      obtain ⟨h1, h2, h3, h4⟩ := hs
      have hb : ((n : Int) != W * H) = true := by simp [hl]
      clear hl hlen h
      go_enter Try.func40, Try.ntmps40
      go_wp2_with (go_at_call 57; refine (within_yes _ _ _ _ (by omega)).mono ?_; rintro e w' ⟨rfl, rfl⟩)
      go_ret
      exact ⟨ret_b HF.out.symm, (Below.refl _ _).alloc (Nat.le_refl _) _⟩
  · have HF : Hid (planeFine W H xs = false) := by show _ = _; simp [planeFine, hs]
    unfold sideOk at hs
    clear hlen h
    by_cases hw : 1 ≤ W ∧ W ≤ 64
    · have hh : (decide (1 ≤ H) && decide (H ≤ 64)) = false := by
        have : ¬ (1 ≤ H ∧ H ≤ 64) := by omega
        simpa using this
      clear hs
      go_enter Try.func40, Try.ntmps40
      go_wp2_with (go_at_call 57; refine (within_any _ _ _ _).mono ?_; rintro e w' ⟨rfl, rfl⟩)
      go_ret
      exact ⟨ret_b HF.out.symm, (Below.refl _ _).alloc (Nat.le_refl _) _⟩
    · clear hs
      go_enter Try.func40, Try.ntmps40
      go_wp2_with (go_at_call 57; refine (within_no W _ _ _ hw).mono ?_; rintro e w' ⟨rfl, rfl⟩)
      go_ret
      exact ⟨ret_b HF.out.symm, (Below.refl _ _).alloc (Nat.le_refl _) _⟩

theorem take_eq_succ {α : Type} {xs ys : List α} {k : Nat} {x : α} (h : xs.take k = ys.take k) (hx : xs[k]? = some x) (hy : ys[k]? = some x) : xs.take (k+1) = ys.take (k+1) := by
  rw [List.take_add_one, List.take_add_one, hx, hy, h]

set_option maxHeartbeats 400000 in
theorem sameInts_any (A A' : Option Addr) (n c m c' : Nat) (xs ys : List Int) (w : World) (h : RI w 0 A n xs) (h' : RI w 0 A' m ys) (hn : n ≤ maxLen) (hm : m ≤ maxLen) :
    Calls Try.prog 62 #[.slice A n c, .slice A' m c'] w fun e w' => e = .returned (.bool (decide (xs = ys))) ∧ Below w.heap.size w w' := by
  unfold maxLen at hn hm
  have hl := h.len
  have hl' := h'.len
  by_cases hnm : n = m
  · subst hnm
    have HT : Hid (∀ k : Nat, n ≤ k → xs.take k = ys.take k → decide (xs = ys) = true) := fun k hk he => by
      rw [List.take_of_length_le (by omega), List.take_of_length_le (by omega)] at he
      simp [he]
    have HF : Hid (∀ (k : Nat) (x y : Int), xs[k]? = some x → ys[k]? = some y → x ≠ y → decide (xs = ys) = false) := fun k x y hx hy hne => by
      simp only [decide_eq_false_iff_not]
      intro e
      rw [e, hy] at hx
      exact hne (Option.some.inj hx).symm
    have hb : ((n : Int) != (n : Int)) = false := by simp
    have HR := Lib.hid h
    have HR' := Lib.hid h'
    clear h h' hl hl'
    go_enter Try.func62, Try.ntmps62
    go_wp2
    go_loopw [5] (fun i wr => ∃ k : Nat, k ≤ n ∧ i = .int .i64 k ∧ xs.take k = ys.take k ∧ Below w.heap.size w wr) (fun i _ => n - (intOf i).toNat)
    case atStart => exact ⟨0, Nat.zero_le _, rfl, rfl, Below.refl _ _⟩
    case round =>
      obtain ⟨k, hk, rfl, hal, hbel⟩ := hrel
      have HA := Lib.hid hal
      clear hal
      by_cases hlt : k < n
      · obtain ⟨b, o, x, rfl, hbs, hx, hc⟩ := HR.out.at_ k hlt
        obtain ⟨b', o', y, rfl, hbs', hy, hd⟩ := HR'.out.at_ k hlt
        have hc' := (hbel.cell (p := ⟨b, o + k, none⟩) hbs).trans hc
        have hd' := (hbel.cell (p := ⟨b', o' + k, none⟩) hbs').trans hd
        have HX := Lib.hid hx
        have HY := Lib.hid hy
        clear hc hx hd hy
        have hi1 : (0 : Int) ≤ (k : Int) := Int.natCast_nonneg _
        have hi2 : (k : Int) < (n : Int) := by omega
        by_cases hxy : x = y
        · subst hxy
          have hbx : (x != x) = false := by simp
          go_wp2_with fail
          go_quiet (fail)
          go_wp2
          go_roundw
          case rel => exact ⟨k + 1, by omega, by go_num, take_eq_succ HA.out HX.out HY.out, below_drewN hbel _⟩
          case measure => simp [intOf]; omega
        · have hbx : (x != y) = true := by simp [hxy]
          go_wp2_with fail
          go_quiet (fail)
          go_wp2
          go_ret
          exact ⟨ret_b (HF.out k x y HX.out HY.out hxy).symm, below_drewN hbel _⟩
      · go_wp2
        go_ret
        exact ⟨ret_b (HT.out k (by omega) HA.out).symm, hbel⟩
  · have HF : Hid (decide (xs = ys) = false) := by
      show _ = _
      simp only [decide_eq_false_iff_not]
      intro e
      exact hnm (by rw [← hl, ← hl', e])
    have hb : ((n : Int) != (m : Int)) = true := by simp; omega
    clear h h' hl hl'
    go_enter Try.func62, Try.ntmps62
    go_wp2
    go_ret
    exact ⟨ret_b HF.out.symm, Below.refl _ _⟩

set_option maxHeartbeats 400000 in
theorem samePlanes_any (W H W' H' : Int) (A A' : Option Addr) (n c m c' : Nat) (xs ys : List Int) (w : World) (h : RI w 0 A n xs) (h' : RI w 0 A' m ys) (hn : n ≤ maxLen) (hm : m ≤ maxLen) :
    Calls Try.prog 18 #[.agg #[.int .i64 W, .int .i64 H, .slice A n c], .agg #[.int .i64 W', .int .i64 H', .slice A' m c']] w fun e w' => e = .returned (.bool (decide (W = W' ∧ H = H' ∧ xs = ys))) ∧ Below w.heap.size w w' := by
  have hB : Below w.heap.size w ((w.alloc (.cells #[.int .i64 W, .int .i64 H, .slice A n c] 24)).alloc (.cells #[.int .i64 W', .int .i64 H', .slice A' m c'] 24)) := ((Below.refl _ _).alloc (Nat.le_refl _) _).alloc (by simp) _
  by_cases hW : W = W'
  · subst hW
    have hb : (W == W) = true := by simp
    by_cases hH : H = H'
    · subst hH
      have hb2 : (H == H) = true := by simp
      have R1 : Hid (RI ((w.alloc (.cells #[.int .i64 W, .int .i64 H, .slice A n c] 24)).alloc (.cells #[.int .i64 W, .int .i64 H, .slice A' m c'] 24)) 0 A n xs) := h.below hB (Nat.le_refl _)
      have R2 : Hid (RI ((w.alloc (.cells #[.int .i64 W, .int .i64 H, .slice A n c] 24)).alloc (.cells #[.int .i64 W, .int .i64 H, .slice A' m c'] 24)) 0 A' m ys) := h'.below hB (Nat.le_refl _)
      have HB := Lib.hid hB
      clear h h' hB
      go_enter Try.func18, Try.ntmps18
      go_wp2_with (go_at_call 62; go_must (refine (sameInts_any _ _ _ _ _ _ _ _ _ R1.out R2.out hn hm).mono ?_); rintro e w1 ⟨rfl, hb1⟩)
      go_ret
      exact ⟨ret_b (by simp), HB.out.trans (hb1.mono (by simp; omega))⟩
    · have hb2 : (H == H') = false := by simp [hH]
      have HF := Lib.hid hH
      have HB := Lib.hid hB
      clear h h' hB hH
      go_enter Try.func18, Try.ntmps18
      go_wp2
      go_ret
      exact ⟨ret_b (by have := HF.out; simp [this]), HB.out⟩
  · have hb : (W == W') = false := by simp [hW]
    have HF := Lib.hid hW
    have HB := Lib.hid hB
    clear h h' hB hW
    go_enter Try.func18, Try.ntmps18
    go_wp2
    go_ret
    exact ⟨ret_b (by have := HF.out; simp [this]), HB.out⟩
end Go.Proofs.Ytpmnfhifmmfglaa
