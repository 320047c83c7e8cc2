/- Walks of the document's isSpot, spotsIn and RepairError. -/
import Derived.Test.YtpmnfhifmmfglaaRepair
import Derived.Test.YtpmnfhifmmfglaaPlaneR
namespace Go.Proofs.Ytpmnfhifmmfglaa
open Go.RowKit

theorem cntF_zero (x y : Int) : cntF [] x y = 0 := rfl
theorem cntF_take {l : List (Int × Int)} {k : Nat} {a b x y : Int} (h : l[k]? = some (a, b)) (h0 : cntF (l.take k) x y = 0) (hne : ¬ (a = x ∧ b = y)) : cntF (l.take (k+1)) x y = 0 := by
  rw [cntF_succ h, bumpF, if_neg (by rintro ⟨rfl, rfl⟩; exact hne ⟨rfl, rfl⟩), h0]
theorem cntF_mem {l : List (Int × Int)} {k : Nat} {x y : Int} (h : l[k]? = some (x, y)) : cntF l x y ≠ 0 := by
  unfold cntF
  have := List.count_pos_iff.2 (List.mem_of_getElem? h)
  omega

set_option maxHeartbeats 400000 in
theorem isSpot_any (A : Option Addr) (n c : Nat) (l : List (Int × Int)) (x y : Int) (w : World) (h : RS w 0 A n l) (hn : n ≤ 64) :
    Calls Try.prog 65 #[.slice A n c, .int .i64 x, .int .i64 y] w fun e w' => e = .returned (.bool (!decide (cntF l x y = 0))) ∧ w = w' := by
  have HR := Lib.hid h
  clear h
  go_enter Try.func65, Try.ntmps65
  go_wp2
  go_loopw [7] (fun i wr => ∃ k : Nat, k ≤ n ∧ i = .int .i64 k ∧ cntF (l.take k) x y = 0 ∧ w = wr) (fun i _ => n - (intOf i).toNat)
  case atStart => exact ⟨0, Nat.zero_le _, rfl, rfl, rfl⟩
  case round =>
    obtain ⟨k, hk, rfl, h0, rfl⟩ := hrel
    have H0 := Lib.hid h0
    clear h0
    by_cases hlt : k < n
    · obtain ⟨b, o, u, v, rfl, hbs, hx, hc1, hc2⟩ := HR.out.at_ k hlt
      have HX := Lib.hid hx
      clear hx
      by_cases hu : u = x
      · subst hu
        by_cases hv : v = y
        · subst hv
          have HM := Lib.hid (cntF_mem HX.out)
          go_wp2
          go_ret
          exact ⟨ret_b (by simp [HM.out]), rfl⟩
        · have HN := Lib.hid (cntF_take HX.out H0.out (fun e => hv e.2))
          have hv2 : (v == y) = false := by simp [hv]
          clear hv
          go_wp2
          go_roundw
          case rel => exact ⟨k + 1, by omega, by go_num, HN.out, trivial⟩
          case measure => simp [intOf]; omega
      · have HN := Lib.hid (cntF_take HX.out H0.out (fun e => hu e.1))
        have hu2 : (u == x) = false := by simp [hu]
        clear hu
        go_wp2
        go_roundw
        case rel => exact ⟨k + 1, by omega, by go_num, HN.out, trivial⟩
        case measure => simp [intOf]; omega
    · have HZ : Hid (cntF l x y = 0) := by
        have := H0.out
        rwa [List.take_of_length_le (by rw [HR.out.1]; omega)] at this
      go_wp2
      go_ret
      exact ⟨ret_b (by simp [HZ.out]), rfl⟩

set_option maxHeartbeats 400000 in
theorem spotsIn_any (A : Option Addr) (n c : Nat) (l : List (Int × Int)) (W H : Int) (w : World) (h : RS w 0 A n l) (hn : n ≤ 64) (hW : 1 ≤ W ∧ W ≤ 64) (hH : 1 ≤ H ∧ H ≤ 64) :
    Calls Try.prog 64 #[.slice A n c, .int .i64 W, .int .i64 H] w fun e w' => e = .returned (.bool (l.all (spotOk W H))) ∧ w = w' := by
  have HR := Lib.hid h
  clear h
  go_enter Try.func64, Try.ntmps64
  go_wp2
  go_loopw [7] (fun i wr => ∃ k : Nat, k ≤ n ∧ i = .int .i64 k ∧ (l.take k).all (spotOk W H) = true ∧ w = wr) (fun i _ => n - (intOf i).toNat)
  case atStart => exact ⟨0, Nat.zero_le _, rfl, rfl, rfl⟩
  case round =>
    obtain ⟨k, hk, rfl, h0, rfl⟩ := hrel
    have H0 := Lib.hid h0
    clear h0
    by_cases hlt : k < n
    · obtain ⟨b, o, u, v, rfl, hbs, hx, hc1, hc2⟩ := HR.out.at_ k hlt
      have HX := Lib.hid hx
      clear hx
      by_cases hu : 0 ≤ u ∧ u ≤ W - 1
      · by_cases hv : 0 ≤ v ∧ v ≤ H - 1
        · have HO : Hid (spotOk W H (u, v) = true) := by show _ = _; simp [spotOk]; omega
          go_wp2_with (go_at_call 57; refine (within_yes _ _ _ _ (by omega)).mono ?_; rintro e w' ⟨rfl, rfl⟩)
          go_roundw
          case rel => exact ⟨k + 1, by omega, by go_num, all_take_succ _ l k _ HX.out H0.out HO.out, trivial⟩
          case measure => simp [intOf]; omega
        · have HO : Hid (spotOk W H (u, v) = false) := by show _ = _; simp [spotOk]; omega
          go_wp2_with fail
          refine (within_yes _ _ _ _ hu).mono ?_
          rintro e w' ⟨rfl, rfl⟩
          go_wp2_with (go_at_call 57; refine (within_no _ _ _ _ hv).mono ?_; rintro e w' ⟨rfl, rfl⟩)
          go_ret
          exact ⟨ret_b (all_false_at _ l k _ HX.out HO.out).symm, rfl⟩
      · have HO : Hid (spotOk W H (u, v) = false) := by show _ = _; simp [spotOk]; omega
        go_wp2_with (go_at_call 57; refine (within_no _ _ _ _ hu).mono ?_; rintro e w' ⟨rfl, rfl⟩)
        go_ret
        exact ⟨ret_b (all_false_at _ l k _ HX.out HO.out).symm, rfl⟩
    · have HZ : Hid (l.all (spotOk W H) = true) := all_take_full _ l k (by rw [HR.out.1]; omega) H0.out
      go_wp2
      go_ret
      exact ⟨ret_b HZ.out.symm, rfl⟩

section
variable (W H : Int) (A A2 : Option Addr) (n c n2 c2 : Nat) (xs : List Int) (l : List (Int × Int)) (w : World)
set_option maxHeartbeats 400000 in
theorem repairError_form (h : RI w 0 A n xs) (hn : n ≤ maxLen) (hf : planeFine W H xs = false) :
    Calls Try.prog 20 #[.agg #[.int .i64 W, .int .i64 H, .slice A n c], .slice A2 n2 c2] w fun e w' =>
      e = .returned (.int .i64 1) ∧ Below w.heap.size w w' := by
  have HR := Lib.hid h
  have HF := Lib.hid hf
  have HN := Lib.hid hn
  clear h hf hn
  go_enter Try.func20, Try.ntmps20
  go_wp2_with fail
  refine (planeFine_any _ _ _ _ _ _ _ (HR.out.below (B' := w.heap.size) (by go_grown) (Nat.le_refl _)) HN.out).mono ?_
  rintro e w1 ⟨rfl, hb⟩
  rw [HF.out]
  have hB : Hid (Below w.heap.size w w1) := (show Below w.heap.size w _ by go_grown).trans (hb.mono (by simp <;> omega))
  clear hb
  go_wp2
  go_ret
  exact ⟨rfl, hB.out⟩

set_option maxHeartbeats 400000 in
theorem repairError_many (h : RI w 0 A n xs) (hn : n ≤ maxLen) (hf : planeFine W H xs = true) (hm : 64 < n2) :
    Calls Try.prog 20 #[.agg #[.int .i64 W, .int .i64 H, .slice A n c], .slice A2 n2 c2] w fun e w' =>
      e = .returned (.int .i64 2) ∧ Below w.heap.size w w' := by
  have HR := Lib.hid h
  have HF := Lib.hid hf
  have HN := Lib.hid hn
  clear h hf hn
  go_enter Try.func20, Try.ntmps20
  go_wp2_with fail
  refine (planeFine_any _ _ _ _ _ _ _ (HR.out.below (B' := w.heap.size) (by go_grown) (Nat.le_refl _)) HN.out).mono ?_
  rintro e w1 ⟨rfl, hb⟩
  rw [HF.out]
  have hB : Hid (Below w.heap.size w w1) := (show Below w.heap.size w _ by go_grown).trans (hb.mono (by simp <;> omega))
  clear hb
  go_wp2
  go_ret
  exact ⟨rfl, hB.out⟩

set_option maxHeartbeats 400000 in
theorem repairError_rest (h : RI w 0 A n xs) (hs : RS w 0 A2 n2 l) (hn : n ≤ maxLen) (hf : planeFine W H xs = true) (hm : n2 ≤ 64) :
    Calls Try.prog 20 #[.agg #[.int .i64 W, .int .i64 H, .slice A n c], .slice A2 n2 c2] w fun e w' =>
      e = .returned (.int .i64 (cond (l.all (spotOk W H)) 0 3)) ∧ Below w.heap.size w w' := by
  have hside := (planeFine_iff.1 hf).1
  unfold sideOk at hside
  have HR := Lib.hid h
  have HS := Lib.hid hs
  have HF := Lib.hid hf
  have HN := Lib.hid hn
  clear h hf hn hs
  go_enter Try.func20, Try.ntmps20
  go_wp2_with fail
  refine (planeFine_any _ _ _ _ _ _ _ (HR.out.below (B' := w.heap.size) (by go_grown) (Nat.le_refl _)) HN.out).mono ?_
  rintro e w1 ⟨rfl, hb⟩
  rw [HF.out]
  have p := (show Blk w1 w.heap.size 24 #[.int .i64 W, .int .i64 H, .slice A n c] from (Blk.newAt (by simp)).below hb (by simp <;> omega))
  obtain ⟨p0, p1, _⟩ := p.c3
  have hB : Hid (Below w.heap.size w w1) := (show Below w.heap.size w _ by go_grown).trans (hb.mono (by simp <;> omega))
  clear hb p
  cases hall : l.all (spotOk W H)
  all_goals
    have HA := Lib.hid hall
    clear hall
    go_wp2_with fail
    refine (spotsIn_any A2 n2 c2 l W H _ (HS.out.below hB.out (Nat.le_refl _)) hm (by omega) (by omega)).mono ?_
    rintro e w' ⟨rfl, rfl⟩
    rw [HA.out]
    go_wp2
    go_ret
    exact ⟨ret_i (by rw [HA.out]; rfl), hB.out⟩
end
end Go.Proofs.Ytpmnfhifmmfglaa
