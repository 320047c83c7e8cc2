/- Walks of the document's LevelError and Levelled. -/
import Derived.Test.YtpmnfhifmmfglaaLevel
import Derived.Test.YtpmnfhifmmfglaaPlaneR
namespace Go.Proofs.Ytpmnfhifmmfglaa
open Go.RowKit

theorem sample_at {W H : Int} {xs : List Int} {n k : Nat} (hl : xs.length = n) (hf : planeFine W H xs = true) (hk : k < n) : ∃ v, xs[k]? = some v ∧ 0 ≤ v ∧ v ≤ 65535 := by
  obtain ⟨_, _, hall⟩ := planeFine_iff.1 hf
  have hlt : k < xs.length := by omega
  refine ⟨xs[k], List.getElem?_eq_getElem hlt, okS_of (List.all_eq_true.1 hall _ (List.getElem_mem hlt))⟩

theorem getD_of {xs : List Int} {k : Nat} {v : Int} (h : xs[k]? = some v) : xs.getD k 0 = v := by simp [List.getD_eq_getElem?_getD, h]

theorem split_div (W x y : Nat) (h : x < W) : ((y * W + x : Nat) : Int) / W = y ∧ ((y * W + x : Nat) : Int) % W = x := by
  have h1 : (y * W + x) / W = y := by rw [Nat.mul_comm, Nat.mul_add_div (by omega), Nat.div_eq_of_lt h]; omega
  have h2 : (y * W + x) % W = x := by rw [Nat.mul_comm, Nat.mul_add_mod, Nat.mod_eq_of_lt h]
  exact ⟨by rw [← Int.natCast_ediv, h1], by rw [← Int.natCast_emod, h2]⟩

/-- The level is what the document says. -/
theorem level_law (b white v : Int) (hb : b < white) : max 0 (min ((v - b) * 65535 / (white - b)) 65535) = min (levelV b white v) 65535 := by
  rcases Int.lt_or_le (v - b) 0 with h | h
  · rw [levelV_lo _ _ _ h]
    have : (v - b) * 65535 / (white - b) < 0 := Int.ediv_lt_of_lt_mul (by omega) (by omega)
    omega
  · rw [levelV_hi _ _ _ h]
    have : 0 ≤ (v - b) * 65535 / (white - b) := Int.ediv_nonneg (by omega) (by omega)
    omega

section
variable (W H b0 b1 b2 b3 white : Int) (A : Option Addr) (n c : Nat) (xs : List Int) (w : World)
set_option maxHeartbeats 400000 in
theorem levelError_form (h : RI w 0 A n xs) (hn : n ≤ maxLen) (hf : planeFine W H xs = false) :
    Calls Try.prog 15 #[.agg #[.int .i64 W, .int .i64 H, .slice A n c], .agg #[.int .i64 b0, .int .i64 b1, .int .i64 b2, .int .i64 b3], .int .i64 white] w fun e w' =>
      e = .returned (.int .i64 1) ∧ Below w.heap.size w w' := by
  have HR := Lib.hid h
  have HF := Lib.hid hf
  have HN := Lib.hid hn
  clear h hf hn
  go_enter Try.func15, Try.ntmps15
  go_wp2_with fail
  refine (planeFine_any _ _ _ _ _ _ _ (HR.out.below (B' := w.heap.size) (by go_grown) (Nat.le_refl _)) HN.out).mono ?_
  rintro e w1 ⟨rfl, hb⟩
  rw [HF.out]
  have hB : Hid (Below w.heap.size w w1) := (show Below w.heap.size w _ by go_grown).trans (hb.mono (by simp <;> omega))
  clear hb
  go_wp2
  go_ret
  exact ⟨rfl, hB.out⟩

set_option maxHeartbeats 1600000 in
theorem levelError_range (h : RI w 0 A n xs) (hn : n ≤ maxLen) (hf : planeFine W H xs = true) (ho : ¬ levOK b0 b1 b2 b3 white) :
    Calls Try.prog 15 #[.agg #[.int .i64 W, .int .i64 H, .slice A n c], .agg #[.int .i64 b0, .int .i64 b1, .int .i64 b2, .int .i64 b3], .int .i64 white] w fun e w' =>
      e = .returned (.int .i64 3) ∧ Below w.heap.size w w' := by
  unfold levOK at ho
  have HR := Lib.hid h
  have HF := Lib.hid hf
  have HN := Lib.hid hn
  clear h hf hn
  go_enter Try.func15, Try.ntmps15
  go_wp2_with fail
  refine (planeFine_any _ _ _ _ _ _ _ (HR.out.below (B' := w.heap.size) (by go_grown) (Nat.le_refl _)) HN.out).mono ?_
  rintro e w1 ⟨rfl, hb⟩
  rw [HF.out]
  have q := (show Blk w1 (w.heap.size+1) 25 #[.int .i64 b0, .int .i64 b1, .int .i64 b2, .int .i64 b3] from (Blk.newAt (by simp)).below hb (by simp <;> omega))
  have q0 := q.cell 0
  have q1 := q.cell 1
  have q2 := q.cell 2
  have q3 := q.cell 3
  simp only [List.getElem?_toArray, List.getElem?_cons_zero, List.getElem?_cons_succ] at q0 q1 q2 q3
  have hB : Hid (Below w.heap.size w w1) := (show Below w.heap.size w _ by go_grown).trans (hb.mono (by simp <;> omega))
  have hsz : w.heap.size + 2 ≤ w1.heap.size := by have := hb.size; simp at this; omega
  clear hb q
  rcases (show ¬ (1 ≤ white ∧ white ≤ 65535) ∨ (1 ≤ white ∧ white ≤ 65535) ∧ (¬ (0 ≤ b0 ∧ b0 ≤ white - 1) ∨ (0 ≤ b0 ∧ b0 ≤ white - 1) ∧ (¬ (0 ≤ b1 ∧ b1 ≤ white - 1) ∨ (0 ≤ b1 ∧ b1 ≤ white - 1) ∧ (¬ (0 ≤ b2 ∧ b2 ≤ white - 1) ∨ (0 ≤ b2 ∧ b2 ≤ white - 1) ∧ ¬ (0 ≤ b3 ∧ b3 ≤ white - 1)))) by omega) with h | ⟨h, h0 | ⟨h0, h1 | ⟨h1, h2 | ⟨h2, h3⟩⟩⟩⟩
  · clear ho
    go_wp2_with fail
    refine (within_no _ _ _ _ h).mono ?_
    rintro e w' ⟨rfl, rfl⟩
    go_wp2
    go_ret
    exact ⟨rfl, hB.out⟩
  all_goals
    clear ho
    go_wp2_with fail
    refine (within_yes _ _ _ _ h).mono ?_
    rintro e w' ⟨rfl, rfl⟩
    go_wp2
    refine wp_loop_rounds 5 ?_
  · rw [rounds_succ]; go_wp2_with fail
    refine (within_no _ _ _ _ h0).mono ?_
    rintro e w' ⟨rfl, rfl⟩
    go_wp2
    go_ret
    exact ⟨rfl, hB.out⟩
  all_goals
    rw [rounds_succ]; go_wp2_with fail
    refine (within_yes _ _ _ _ h0).mono ?_
    rintro e w' ⟨rfl, rfl⟩
    go_wp2_with fail
  · rw [rounds_succ]; go_wp2_with fail
    refine (within_no _ _ _ _ h1).mono ?_
    rintro e w' ⟨rfl, rfl⟩
    go_wp2
    go_ret
    exact ⟨rfl, hB.out⟩
  all_goals
    rw [rounds_succ]; go_wp2_with fail
    refine (within_yes _ _ _ _ h1).mono ?_
    rintro e w' ⟨rfl, rfl⟩
    go_wp2_with fail
  · rw [rounds_succ]; go_wp2_with fail
    refine (within_no _ _ _ _ h2).mono ?_
    rintro e w' ⟨rfl, rfl⟩
    go_wp2
    go_ret
    exact ⟨rfl, hB.out⟩
  · rw [rounds_succ]; go_wp2_with fail
    refine (within_yes _ _ _ _ h2).mono ?_
    rintro e w' ⟨rfl, rfl⟩
    go_wp2_with fail
    rw [rounds_succ]; go_wp2_with fail
    refine (within_no _ _ _ _ h3).mono ?_
    rintro e w' ⟨rfl, rfl⟩
    go_wp2
    go_ret
    exact ⟨rfl, hB.out⟩

set_option maxHeartbeats 1600000 in
theorem levelError_ok (h : RI w 0 A n xs) (hn : n ≤ maxLen) (hf : planeFine W H xs = true) (ho : levOK b0 b1 b2 b3 white) :
    Calls Try.prog 15 #[.agg #[.int .i64 W, .int .i64 H, .slice A n c], .agg #[.int .i64 b0, .int .i64 b1, .int .i64 b2, .int .i64 b3], .int .i64 white] w fun e w' =>
      e = .returned (.int .i64 0) ∧ Below w.heap.size w w' := by
  unfold levOK at ho
  have HR := Lib.hid h
  have HF := Lib.hid hf
  have HN := Lib.hid hn
  clear h hf hn
  go_enter Try.func15, Try.ntmps15
  go_wp2_with fail
  refine (planeFine_any _ _ _ _ _ _ _ (HR.out.below (B' := w.heap.size) (by go_grown) (Nat.le_refl _)) HN.out).mono ?_
  rintro e w1 ⟨rfl, hb⟩
  rw [HF.out]
  have q := (show Blk w1 (w.heap.size+1) 25 #[.int .i64 b0, .int .i64 b1, .int .i64 b2, .int .i64 b3] from (Blk.newAt (by simp)).below hb (by simp <;> omega))
  have q0 := q.cell 0
  have q1 := q.cell 1
  have q2 := q.cell 2
  have q3 := q.cell 3
  simp only [List.getElem?_toArray, List.getElem?_cons_zero, List.getElem?_cons_succ] at q0 q1 q2 q3
  have hB : Hid (Below w.heap.size w w1) := (show Below w.heap.size w _ by go_grown).trans (hb.mono (by simp <;> omega))
  have hsz : w.heap.size + 2 ≤ w1.heap.size := by have := hb.size; simp at this; omega
  clear hb q
  go_wp2_with fail
  refine (within_yes _ _ _ _ (by omega)).mono ?_
  rintro e w' ⟨rfl, rfl⟩
  go_wp2
  refine wp_loop_rounds 5 ?_
  iterate 4
    rw [rounds_succ]; go_wp2_with fail
    refine (within_yes _ _ _ _ (by omega)).mono ?_
    rintro e w' ⟨rfl, rfl⟩
    go_wp2_with fail
  rw [rounds_succ]; go_wp2_with fail
  go_ret
  exact ⟨rfl, hB.out⟩
end

set_option maxRecDepth 100000 in
set_option maxHeartbeats 1600000 in
theorem levelled_any (W H : Nat) (b0 b1 b2 b3 white : Int) (A : Option Addr) (n c : Nat) (xs : List Int) (w : World) (h : RI w 0 A n xs) (hf : planeFine W H xs = true) (ho : levOK b0 b1 b2 b3 white) :
    Calls Try.prog 16 #[.agg #[.int .i64 W, .int .i64 H, .slice A n c], .agg #[.int .i64 b0, .int .i64 b1, .int .i64 b2, .int .i64 b3], .int .i64 white] w fun e w' =>
      ∃ A' c', e = .returned (.agg #[.int .i64 W, .int .i64 H, .slice A' n c']) ∧ RI w' w.heap.size A' n ((List.range n).map (levelL b0 b1 b2 b3 white W xs)) ∧ Below w.heap.size w w' := by
  obtain ⟨hb0, hb1, hb2, hb3, hwh⟩ := ho
  obtain ⟨i0, hi, hz0, hz1, hz2⟩ := info_parts Try.info3
  have hlen := h.len
  have HS := Lib.hid (fun k (hk : k < n) => sample_at hlen hf hk)
  obtain ⟨hside, hlW, _⟩ := planeFine_iff.1 hf
  obtain ⟨hW1, hW2, hH1, hH2⟩ := hside
  have hl : n = W * H := by rw [hlen] at hlW; exact Int.ofNat.inj (hlW.trans (Int.natCast_mul _ _).symm)
  have hn : n ≤ 4096 := hl ▸ (Nat.mul_le_mul (show W ≤ 64 by omega) (show H ≤ 64 by omega))
  have HH := Lib.hid h
  have HL := Lib.hid hl
  clear h hl hlW hlen hf
  go_enter Try.func16, Try.ntmps16
  go_wp2
  go_loopw [8] (fun i wr => ∃ (y : Nat) (oa : Option Addr) (oc : Nat), y ≤ H ∧ i = .int .i64 y ∧ Blk wr w.heap.size 24 #[.int .i64 W, .int .i64 H, .slice A n c] ∧ Blk wr (w.heap.size+1) 25 #[.int .i64 b0, .int .i64 b1, .int .i64 b2, .int .i64 b3] ∧
      Blk wr (w.heap.size+1+1) 24 #[.int .i64 0, .int .i64 0, .slice none 0 0] ∧ Blk wr (w.heap.size+1+1+1) 24 #[.int .i64 W, .int .i64 H, .slice oa (y*W) oc] ∧
      wr.ownsRow (w.heap.size+4) 3 1 (.slice oa (y*W) oc) (y*W) (VI ((List.range (y*W)).map (levelL b0 b1 b2 b3 white W xs))) ∧ Below w.heap.size w wr) (fun i _ => H - (intOf i).toNat)
  case atStart =>
    refine ⟨0, none, 0, Nat.zero_le _, rfl, (((Blk.new _ _ _).alloc _).alloc _).alloc _, ?_, ?_, ?_, ?_, ?_⟩
    · exact ((Blk.newAt (by simp)).alloc _).alloc _
    · exact (Blk.newAt (by simp)).alloc _
    · simp only [Nat.zero_mul]; exact Blk.newAt (by simp)
    · simp only [Nat.zero_mul]; exact own_nil _ _ _ _
    · go_grown
  case round =>
    obtain ⟨y, oa, oc, hy, rfl, k0, k1, k2, k3, hown, hbel⟩ := hrel
    obtain ⟨c00, c01, _⟩ := k0.c3
    by_cases hlt : y < H
    · go_wp2
      obtain ⟨wo, rfl⟩ : ∃ wo : World, wo = wr := ⟨_, rfl⟩
      go_loopw [9] (fun i wr => ∃ (x : Nat) (oa : Option Addr) (oc : Nat), x ≤ W ∧ i = .int .i64 x ∧ Blk wr w.heap.size 24 #[.int .i64 W, .int .i64 H, .slice A n c] ∧ Blk wr (w.heap.size+1) 25 #[.int .i64 b0, .int .i64 b1, .int .i64 b2, .int .i64 b3] ∧
        Blk wr (w.heap.size+1+1) 24 #[.int .i64 0, .int .i64 0, .slice none 0 0] ∧ Blk wr (w.heap.size+1+1+1) 24 #[.int .i64 W, .int .i64 H, .slice oa (y*W+x) oc] ∧
        wr.ownsRow (w.heap.size+4) 3 1 (.slice oa (y*W+x) oc) (y*W+x) (VI ((List.range (y*W+x)).map (levelL b0 b1 b2 b3 white W xs))) ∧ Below w.heap.size w wr) (fun i _ => W - (intOf i).toNat)
      case atStart => exact ⟨0, oa, oc, Nat.zero_le _, rfl, k0, k1, k2, by simpa using k3, by simpa using hown, hbel⟩
      case round =>
        clear k0 k1 k2 k3 hown hbel c00 c01
        obtain ⟨x, oa, oc, hx, rfl, k0, k1, k2, k3, hown, hbel⟩ := hrel
        obtain ⟨c00, c01, c02⟩ := k0.c3
        obtain ⟨_, _, c32⟩ := k3.c3
        have c1 := (k1.cell (y % 2 * 2 + x % 2)).trans (four_at b0 b1 b2 b3 _ (by omega))
        have hbb : 0 ≤ [b0,b1,b2,b3].getD (y % 2 * 2 + x % 2) 0 ∧ [b0,b1,b2,b3].getD (y % 2 * 2 + x % 2) 0 < white := by
          have h4 : y % 2 * 2 + x % 2 < 4 := by omega
          generalize y % 2 * 2 + x % 2 = j at h4 ⊢
          match j, h4 with
          | 0, _ => exact hb0
          | 1, _ => exact hb1
          | 2, _ => exact hb2
          | 3, _ => exact hb3
        obtain ⟨bb, HBB⟩ : ∃ bb, Hid ([b0,b1,b2,b3].getD (y % 2 * 2 + x % 2) 0 = bb) := ⟨_, rfl⟩
        rw [HBB.out] at c1 hbb
        by_cases hlx : x < W
        · have hbel0 := hbel
          have hM1 : y * W ≤ 64 * 64 := Nat.mul_le_mul (by omega) (by omega)
          have hM2 : (y + 1) * W ≤ H * W := Nat.mul_le_mul_right _ (by omega)
          have hM3 : (y + 1) * W = y * W + W := Nat.succ_mul _ _
          have hM4 : H * W = n := by rw [Nat.mul_comm]; exact HL.out.symm
          have hsz := hbel.size
          have hlt3 := k3.lt
          have hR := Lib.hid (HH.out.below hbel (Nat.le_refl _))
          have G1 : Hid ((y : Int) * W + x = ((y*W+x : Nat) : Int)) := by show _ = _; push_cast; rfl
          have G2 : Hid (0 ≤ (y : Int) * W ∧ (y : Int) * W ≤ 4096) := by
            have e : (y : Int) * W = ((y * W : Nat) : Int) := by push_cast; rfl
            show _ ∧ _
            rw [e]; omega
          obtain ⟨sv, hsv0, hxv⟩ := HS.out (y*W+x) (by omega)
          have hsv := Lib.hid hsv0
          clear hM2 hM3 hM4 hsv0
          have e1 : IntKind.i64.wrap (sv - bb) = sv - bb := IntWalk.i64_in _ (by omega)
          have e2 : IntKind.i64.wrap ((sv - bb) * 65535) = (sv - bb) * 65535 := IntWalk.i64_in _ (by omega)
          have e3 : IntKind.i64.wrap (white - bb) = white - bb := IntWalk.i64_in _ (by omega)
          have f32 := k3.frozen 2
          have K0 := Lib.hid k0
          have K1 := Lib.hid k1
          have K2 := Lib.hid k2
          have K3 := Lib.hid k3
          clear hbel k0 k1 k2 k3
          go_wp2
          have L00 : ∀ w', Below (w.heap.size+4) wr w' → w'.cell? ⟨w.heap.size, 0, none⟩ = some (.int .i64 W) := fun w' h => cell_b h c00 (by simp; try omega)
          have L01 : ∀ w', Below (w.heap.size+4) wr w' → w'.cell? ⟨w.heap.size, 1, none⟩ = some (.int .i64 H) := fun w' h => cell_b h c01 (by simp; try omega)
          have L02 : ∀ w', Below (w.heap.size+4) wr w' → w'.cell? ⟨w.heap.size, 2, none⟩ = some (.slice A n c) := fun w' h => cell_b h c02 (by simp; try omega)
          have L32 : ∀ w', Below (w.heap.size+4) wr w' → w'.cell? ⟨w.heap.size+1+1+1, 2, none⟩ = some (.slice oa (y*W+x) oc) := fun w' h => cell_b h c32 (by simp; try omega)
          refine wp_region_tl (Below (w.heap.size+4) wr) [0,0,0,0,0,1,0,0,0,0,0,0,1,1,1,1,0,2] (by kernel_rfl) (by kernel_rfl) (Below.refl _ _).drew ?_
          simp only [marked, List.headD_cons, List.tail_cons, beq_self_eq_true, Nat.reduceBEq]
          (apply tl_rob (by rfl); (case hv => (intro w' hS; conv => lhs; simp [go_sem, *])); simp only [Act.put, List.setIfInBounds_toArray, List.set_cons_succ, List.set_cons_zero])
          (apply tl_rob (by rfl); (case hv => (intro w' hS; conv => lhs; simp [go_sem, *])); simp only [Act.put, List.setIfInBounds_toArray, List.set_cons_succ, List.set_cons_zero])
          (apply tl_rob (by rfl); (case hv => (intro w' hS; conv => lhs; simp [go_sem, *])); simp only [Act.put, List.setIfInBounds_toArray, List.set_cons_succ, List.set_cons_zero])
          (apply tl_rob (by rfl); (case hv => (intro w' hS; conv => lhs; simp [go_sem, *])); simp only [Act.put, List.setIfInBounds_toArray, List.set_cons_succ, List.set_cons_zero])
          (apply tl_rob (by rfl); (case hv => (intro w' hS; conv => lhs; simp [go_sem, *])); simp only [Act.put, List.setIfInBounds_toArray, List.set_cons_succ, List.set_cons_zero])
          (apply tl_act (by rfl); intro K hK)
          go_simp
          refine (at_any W H x y A n c (y*W+x) xs sv _ (by exact hR.out) hsv.out hn G1.out G2.out.1 G2.out.2 (by omega)).mono ?_
          rintro e w1 ⟨rfl, hb⟩
          have hB := ((Below.refl (w.heap.size+4) wr).drew).trans (hb.mono (by simp <;> omega))
          refine hK _ _ (fun _ => hB) ?_
          clear hK K
          (apply tl_rob (by rfl); (case hv => (intro w' hS; conv => lhs; simp [go_sem, *])); simp only [Act.put, List.setIfInBounds_toArray, List.set_cons_succ, List.set_cons_zero])
          (apply tl_rob (by rfl); (case hv => (intro w' hS; conv => lhs; simp [go_sem, *])); simp only [Act.put, List.setIfInBounds_toArray, List.set_cons_succ, List.set_cons_zero])
          (apply tl_rob (by rfl); (case hv => (intro w' hS; conv => lhs; simp [go_sem, *])); simp only [Act.put, List.setIfInBounds_toArray, List.set_cons_succ, List.set_cons_zero])
          (apply tl_rob (by rfl); (case hv => (intro w' hS; conv => lhs; simp [go_sem, *])); simp only [Act.put, List.setIfInBounds_toArray, List.set_cons_succ, List.set_cons_zero])
          (apply tl_rob (by rfl); (case hv => (intro w' hS; conv => lhs; simp [go_sem, *])); simp only [Act.put, List.setIfInBounds_toArray, List.set_cons_succ, List.set_cons_zero])
          (apply tl_rob (by rfl); (case hv => (intro w' hS; conv => lhs; simp [go_sem, *])); simp only [Act.put, List.setIfInBounds_toArray, List.set_cons_succ, List.set_cons_zero])
          (apply tl_act (by rfl); intro K hK)
          go_simp
          refine (down_any _ _ _ (by omega) (by omega) (by omega) (by omega)).mono ?_
          rintro e w2 ⟨rfl, rfl⟩
          refine hK _ _ (fun _ => hB) ?_
          clear hK K
          (apply tl_act (by rfl); intro K hK)
          go_simp
          refine (clamp_any _ _).mono ?_
          rintro e w2 ⟨rfl, rfl⟩
          refine hK _ _ (fun _ => hB) ?_
          clear hK K
          (apply tl_act (by rfl); intro K hK)
          go_simp
          refine hK _ _ (fun _ => hB.alloc (by have := hB.size; omega) _) ?_
          clear hK K
          (apply tl_act (by rfl); intro K hK)
          refine wp_push w1 _ _ _ (by rfl) (w.heap.size+4) 3 i0 _ 1 8 Try.underlying22 hi hz0 hz1 hz2 rfl (by omega) oa (y*W+x) oc _ (by rfl) (own_below (by exact hown) hb (Nat.le_refl _)) #[.int .i64 (max 0 (min ((sv - bb) * 65535 / (white - bb)) 65535))] (by rfl) (by rfl) (by rfl) (by simp [Value.oneCell']) (by unfold maxLen; omega) (by omega) (by have := hB.size; omega) ?_
          intro g cap w3 hown2 hb2
          have hB2 := hB.trans hb2
          refine hK _ _ (fun _ => hB2) ?_
          clear hK K
          simp only [Act.put, List.setIfInBounds_toArray, List.set_cons_succ, List.set_cons_zero]
          (apply tl_rob (by rfl); (case hv => (intro w' hS; conv => lhs; simp [go_sem, *])); simp only [Act.put, List.setIfInBounds_toArray, List.set_cons_succ, List.set_cons_zero])
          (apply tl_act (by rfl); intro K hK)
          have c32' := L32 _ hB2
          have f32' := froz_b hB2 f32 (by simp; try omega)
          go_simp
          refine hK _ _ (fun h => by cases h) ?_
          clear hK K
          refine tl_nil ?_
          go_wp2
          refine ⟨⟨x+1, _, _, by omega, by go_num, (K0.out.below hB2 (by omega)).far (by simp <;> omega) _, (K1.out.below hB2 (by omega)).far (by simp <;> omega) _, (K2.out.below hB2 (by omega)).far (by simp <;> omega) _, (K3.out.below hB2 (by omega)).set_ _ _ rfl, ?_, ?_⟩, by simp [intOf]; omega⟩
          · have hv : levelL b0 b1 b2 b3 white W xs (y*W+x) = max 0 (min ((sv - bb) * 65535 / (white - bb)) 65535) := by
              obtain ⟨d1, d2⟩ := split_div W x y hlx
              rw [level_law _ _ _ hbb.2, levelL, getD_of hsv.out, d1, d2, show ((y : Int) % 2 * 2 + (x : Int) % 2).toNat = y % 2 * 2 + x % 2 by omega, HBB.out]
            have hown3 := hown2
            rw [show (#[Value.int .i64 (max 0 (min ((sv - bb) * 65535 / (white - bb)) 65535))] : Array Value).toList = [.int .i64 (max 0 (min ((sv - bb) * 65535 / (white - bb)) 65535))] from rfl, VI_snoc hv] at hown3
            exact ownsRow_setCell_below hown3 (by simp <;> omega) _
          · exact (hbel0.trans (hB2.mono (by omega))).setCell (by simp <;> omega) _
        · obtain rfl : x = W := by omega
          go_wp2
          refine ⟨⟨y+1, oa, oc, by omega, by go_num, k0, k1, k2, ?_, ?_, hbel⟩, by simp [intOf]; omega⟩
          · rw [Nat.succ_mul]; exact k3
          · rw [Nat.succ_mul]; exact hown
    · obtain ⟨c30, c31, c32⟩ := k3.c3
      obtain ⟨c20, c21, c22⟩ := k2.c3
      obtain ⟨f20, f21, f22⟩ := k2.f3
      obtain rfl : y = H := by omega
      have hsz := k3.lt
      have KK := Lib.hid (show n = W * y from HL.out)
      clear HL
      go_wp2
      refine bodyPost_ret (results_cell_row rfl _ _ (w.heap.size+1+1) 24 _ (0,0) _ (by rfl) (((k2.set_ 0 _ rfl).set_ 1 _ rfl).set_ 2 _ rfl) Try.underlying24 rfl (by kernel_rfl)) rfl ?_
      obtain rfl := KK.out
      refine ⟨oa, oc, ?_, ?_, ?_⟩
      · rw [Nat.mul_comm W y]; rfl
      · have := RI_own (ownsRow_setCell_below (ownsRow_setCell_below (ownsRow_setCell_below hown (a := ⟨w.heap.size+1+1, 0, none⟩) (by simp <;> omega) (.int .i64 W)) (a := ⟨w.heap.size+1+1, 1, none⟩) (by simp <;> omega) (.int .i64 y)) (a := ⟨w.heap.size+1+1, 2, none⟩) (by simp <;> omega) (.slice oa (y*W) oc)) w.heap.size (by omega)
        rw [Nat.mul_comm W y]
        exact this
      · exact ((hbel.setCell (by simp <;> omega) _).setCell (by simp <;> omega) _).setCell (by simp <;> omega) _
end Go.Proofs.Ytpmnfhifmmfglaa
