/- Walks: within, down, clamp, At; is a plane right (the program's own check and the document's). -/
import Derived.Test.YtpmnfhifmmfglaaRows
import Derived.Test.YtpmnfhifmmfglaaLib
import Derived.Test.YtpmnfhifmmfglaaPure
set_option linter.unusedVariables false
set_option linter.unusedSimpArgs false
set_option linter.unusedSectionVars false
namespace Go.Proofs.Ytpmnfhifmmfglaa
open Go.RowKit

/-- A plane, or a picture, that is nothing. -/
def noPlane : Value := .agg #[.int .i64 0, .int .i64 0, .slice none 0 0]

theorem within_any (n lo hi : Int) (w : World) : Calls Try.prog 57 #[.int .i64 n, .int .i64 lo, .int .i64 hi] w fun e w' => e = .returned (.bool (decide (lo ≤ n) && decide (n ≤ hi))) ∧ w = w' := by
  go_enter Try.func57, Try.ntmps57
  go_wp2
  all_goals go_ret
  · have h : lo ≤ n := by assumption
    exact ⟨ret_b (by simp [h]), rfl⟩
  · have h : n < lo := by assumption
    exact ⟨ret_b (by simp [show ¬ lo ≤ n by omega]), rfl⟩

theorem clamp_any (n : Int) (w : World) : Calls Try.prog 58 #[.int .i64 n] w fun e w' => e = .returned (.int .i64 (max 0 (min n 65535))) ∧ w = w' := by
  go_enter Try.func58, Try.ntmps58
  go_wp2
  all_goals go_ret
  all_goals refine ⟨ret_i ?_, rfl⟩
  all_goals omega

theorem down_any (n d : Int) (w : World) (h1 : 1 ≤ d) (h2 : d ≤ 1000000000) (h3 : -1000000000000000 ≤ n) (h4 : n ≤ 1000000000000000) : Calls Try.prog 59 #[.int .i64 n, .int .i64 d] w fun e w' => e = .returned (.int .i64 (n / d)) ∧ w = w' := by
  have e0 : d * n.tdiv d = n - n.tmod d := by have := Int.mul_tdiv_add_tmod n d; omega
  have hm1 : n.tmod d < d := Int.tmod_lt_of_pos n (by omega)
  have hm2 : -d < n.tmod d := by
    have := Int.tmod_lt_of_pos (-n) (show 0 < d by omega)
    rw [Int.neg_tmod] at this; omega
  have hq : n.tdiv d * d = n - n.tmod d := by rw [Int.mul_comm]; exact e0
  have hb : -1000000000000000 ≤ n.tdiv d ∧ n.tdiv d ≤ 1000000000000000 := by
    have := Int.natAbs_tdiv_le_natAbs n d
    omega
  have hdiv := Int.mul_ediv_add_emod n d
  have hmod1 := Int.emod_nonneg n (show d ≠ 0 by omega)
  have hmod2 := Int.emod_lt_of_pos n (show 0 < d by omega)
  have F1 : Hid (n < n.tdiv d * d → n.tdiv d - 1 = n / d) := by
    intro h
    have : n.tmod d < 0 := by omega
    have e : n = (n.tdiv d - 1) * d + (n.tmod d + d) := by rw [Int.sub_mul]; omega
    have := (Int.ediv_emod_unique (a := n) (b := d) (q := n.tdiv d - 1) (r := n.tmod d + d) (by omega)).2 ⟨by rw [Int.mul_comm]; omega, by omega, by omega⟩
    exact this.1.symm
  have F2 : Hid (n.tdiv d * d ≤ n → n.tdiv d = n / d) := by
    intro h
    have h0 : 0 ≤ n.tmod d := by omega
    have := (Int.ediv_emod_unique (a := n) (b := d) (q := n.tdiv d) (r := n.tmod d) (by omega)).2 ⟨by omega, by omega, by omega⟩
    exact this.1.symm
  have hq2 : -2000000000000000 ≤ n.tdiv d * d ∧ n.tdiv d * d ≤ 2000000000000000 := by omega
  clear e0 hq hdiv hmod1 hmod2 hm1 hm2
  go_enter Try.func59, Try.ntmps59
  go_wp2
  all_goals go_ret
  · have h : n < n.tdiv d * d := by assumption
    exact ⟨ret_i (F1.out h), rfl⟩
  · have h : n.tdiv d * d ≤ n := by assumption
    exact ⟨ret_i (F2.out h), rfl⟩

theorem at_any (W H x y : Int) (A : Option Addr) (n c k : Nat) (xs : List Int) (v : Int) (w : World) (h : RI w 0 A n xs) (hk : xs[k]? = some v) (hn : n ≤ 4096) (he : y * W + x = k) (h0 : 0 ≤ y * W) (h1 : y * W ≤ 4096) (h2 : 0 ≤ x) :
    Calls Try.prog 60 #[.agg #[.int .i64 W, .int .i64 H, .slice A n c], .int .i64 x, .int .i64 y] w fun e w' => e = .returned (.int .i64 v) ∧ Below w.heap.size w w' := by
  have hkn : k < n := by rw [← h.len]; exact (List.getElem?_eq_some_iff.1 hk).1
  obtain ⟨b, o, u, rfl, hbs, hx, hc⟩ := h.at_ k hkn
  obtain rfl : u = v := Option.some.inj (hx.symm.trans hk)
  have hidx : (y * W + x).toNat = k := by omega
  have hlt : y * W + x < n := by omega
  clear hx he hk
  go_enter Try.func60, Try.ntmps60
  go_wp2
  go_ret
  exact ⟨rfl, (Below.refl _ _).alloc (Nat.le_refl _) _⟩

set_option maxHeartbeats 400000 in
theorem fine_any (W H : Int) (A : Option Addr) (n c : Nat) (xs : List Int) (w : World) (h : RI w 0 A n xs) (hn : n ≤ maxLen) :
    Calls Try.prog 54 #[.agg #[.int .i64 W, .int .i64 H, .slice A n c]] w fun e w' => e = .returned (.bool (planeFine W H xs)) ∧ Below w.heap.size w w' := by
  unfold maxLen at hn
  have hlen := h.len
  by_cases hs : sideOk W H
  · obtain ⟨hm1, hm2⟩ := mul_side hs
    by_cases hl : (n : Int) = W * H
    · have HP : Hid (∀ (k : Nat), n ≤ k → (xs.take k).all okS = true → planeFine W H xs = true) := fun k hk h0 => planeFine_iff.2 ⟨hs, by rw [hlen]; exact hl, all_take_full okS xs k (by omega) h0⟩
      have HF : Hid (∀ (k : Nat) (x : Int), xs[k]? = some x → okS x = false → planeFine W H xs = false) := fun k x hx h0 => by
        simp [planeFine, all_false_at okS xs k x hx h0]
      obtain ⟨h1, h2, h3, h4⟩ := hs
      have hb : ((n : Int) != W * H) = false := by simp [hl]
      clear hl hlen
      have HR := Lib.hid h
      clear h
      go_enter Try.func54, Try.ntmps54
      go_wp2
      go_loopw [37] (fun i wr => ∃ k : Nat, k ≤ n ∧ i = .int .i64 k ∧ (xs.take k).all okS = true ∧ Below w.heap.size w wr) (fun i _ => n - (intOf i).toNat)
      case atStart => exact ⟨0, Nat.zero_le _, rfl, rfl, (Below.refl _ _).alloc (Nat.le_refl _) _⟩
      case round =>
        obtain ⟨k, hk, rfl, hal, hbel⟩ := hrel
        have HA := Lib.hid hal
        clear hal
        by_cases hlt : k < n
        · obtain ⟨b, o, x, rfl, hbs, hx, hc⟩ := HR.out.at_ k hlt
          have hc' := (hbel.cell (p := ⟨b, o + k, none⟩) hbs).trans hc
          have HX := Lib.hid hx
          clear hc hx
          by_cases hok : 0 ≤ x ∧ x ≤ 65535
          · have HO : Hid (okS x = true) := by show okS x = true; simp [okS, hok]
            go_wp2
            go_roundw
            case rel => exact ⟨k + 1, by omega, by go_num, all_take_succ okS xs k x HX.out HA.out HO.out, hbel⟩
            case measure => simp [intOf]; omega
          · have HO : Hid (okS x = false) := by show okS x = false; simp [okS]; omega
            go_wp2
            all_goals go_ret
            all_goals exact ⟨ret_b (HF.out k x HX.out HO.out).symm, hbel⟩
        · go_wp2
          go_ret
          exact ⟨ret_b (HP.out k (by omega) HA.out).symm, hbel⟩
    · have HF : Hid (planeFine W H xs = false) := by show _ = _; simp [planeFine, hlen, hl]
      obtain ⟨h1, h2, h3, h4⟩ := hs
      have hb : ((n : Int) != W * H) = true := by simp [hl]
      clear hl hlen h
      go_enter Try.func54, Try.ntmps54
      go_wp2
      go_ret
      exact ⟨ret_b HF.out.symm, (Below.refl _ _).alloc (Nat.le_refl _) _⟩
  · have HF : Hid (planeFine W H xs = false) := by show _ = _; simp [planeFine, hs]
    unfold sideOk at hs
    clear hlen h
    go_enter Try.func54, Try.ntmps54
    go_wp2
    all_goals go_ret
    all_goals exact ⟨ret_b HF.out.symm, (Below.refl _ _).alloc (Nat.le_refl _) _⟩
end Go.Proofs.Ytpmnfhifmmfglaa
