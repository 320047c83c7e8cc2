/- Walks of the document's ColourAt, GainError and Gained; sensor.Colour out of range. -/
import Derived.Test.YtpmnfhifmmfglaaGain
import Derived.Test.YtpmnfhifmmfglaaLevelRef
namespace Go.Proofs.Ytpmnfhifmmfglaa
open Go.RowKit

theorem colourAt_any (phase x y : Int) (w : World) (hp : 0 ≤ phase ∧ phase ≤ 3) (hx : 0 ≤ x ∧ x ≤ 64) (hy : 0 ≤ y ∧ y ≤ 64) :
    Calls Try.prog 26 #[.int .i64 phase, .int .i64 x, .int .i64 y] w fun e w' => e = .returned (.int .i64 (colV phase x y)) ∧ w = w' := by
  have a1 : phase.tmod 2 = phase % 2 := Int.tmod_eq_emod_of_nonneg hp.1
  have a2 : phase.tdiv 2 = phase / 2 := Int.tdiv_eq_ediv_of_nonneg hp.1
  have a5 : IntKind.i64.wrap (phase / 2) = phase / 2 := IntWalk.i64_in _ (by omega)
  have a3 : (x + phase % 2).tmod 2 = (x + phase % 2) % 2 := Int.tmod_eq_emod_of_nonneg (by omega)
  have a4 : (y + phase / 2).tmod 2 = (y + phase / 2) % 2 := Int.tmod_eq_emod_of_nonneg (by omega)
  have hv : Hid (colV phase x y = (x + phase % 2) % 2 + (y + phase / 2) % 2) := by show _ = _; unfold colV; omega
  rcases (show (x + phase % 2) % 2 = 0 ∨ (x + phase % 2) % 2 = 1 by omega) with ex | ex <;> rcases (show (y + phase / 2) % 2 = 0 ∨ (y + phase / 2) % 2 = 1 by omega) with ey | ey
  all_goals
    rw [ex] at a3
    rw [ey] at a4
    have EX := Lib.hid ex
    have EY := Lib.hid ey
    clear ex ey
    go_enter Try.func26, Try.ntmps26
    go_wp2
    go_ret
    exact ⟨ret_i (by rw [hv.out, EX.out, EY.out]; rfl), rfl⟩

theorem colourOf_no (phase x y : Int) (w : World) (h : ¬ (0 ≤ phase ∧ phase ≤ 3 ∧ 0 ≤ x ∧ 0 ≤ y)) :
    Calls Try.prog 25 #[.int .i64 phase, .int .i64 x, .int .i64 y] w fun e w' => e = .returned (.tuple #[.int .i64 0, .int .i64 3]) ∧ w = w' := by
  rcases (show phase < 0 ∨ ¬ phase < 0 ∧ (3 < phase ∨ ¬ 3 < phase ∧ (x < 0 ∨ ¬ x < 0 ∧ y < 0)) by omega) with h1 | ⟨h1, h2 | ⟨h2, h3 | ⟨h3, h4⟩⟩⟩
  all_goals
    clear h
    go_enter Try.func25, Try.ntmps25
    go_wp2
    go_ret2
    exact ⟨rfl, rfl⟩

section
variable (W H phase g0 g1 g2 : Int) (A : Option Addr) (n c : Nat) (xs : List Int) (w : World)
set_option maxHeartbeats 400000 in
theorem gainError_form (h : RI w 0 A n xs) (hn : n ≤ maxLen) (hf : planeFine W H xs = false) :
    Calls Try.prog 23 #[.agg #[.int .i64 W, .int .i64 H, .slice A n c], .int .i64 phase, .agg #[.int .i64 g0, .int .i64 g1, .int .i64 g2]] w fun e w' =>
      e = .returned (.int .i64 1) ∧ Below w.heap.size w w' := by
  have HR := Lib.hid h
  have HF := Lib.hid hf
  have HN := Lib.hid hn
  clear h hf hn
  go_enter Try.func23, Try.ntmps23
  go_wp2_with fail
  refine (planeFine_any _ _ _ _ _ _ _ (HR.out.below (B' := w.heap.size) (by go_grown) (Nat.le_refl _)) HN.out).mono ?_
  rintro e w1 ⟨rfl, hb⟩
  rw [HF.out]
  have hB : Hid (Below w.heap.size w w1) := (show Below w.heap.size w _ by go_grown).trans (hb.mono (by simp <;> omega))
  clear hb
  go_wp2
  go_ret
  exact ⟨rfl, hB.out⟩

set_option maxHeartbeats 800000 in
theorem gainError_rest (h : RI w 0 A n xs) (hn : n ≤ maxLen) (hf : planeFine W H xs = true) :
    Calls Try.prog 23 #[.agg #[.int .i64 W, .int .i64 H, .slice A n c], .int .i64 phase, .agg #[.int .i64 g0, .int .i64 g1, .int .i64 g2]] w fun e w' =>
      e = .returned (.int .i64 (if gainOK phase g0 g1 g2 then 0 else 3)) ∧ Below w.heap.size w w' := by
  have HR := Lib.hid h
  have HF := Lib.hid hf
  have HN := Lib.hid hn
  clear h hf hn
  go_enter Try.func23, Try.ntmps23
  go_wp2_with fail
  refine (planeFine_any _ _ _ _ _ _ _ (HR.out.below (B' := w.heap.size) (by go_grown) (Nat.le_refl _)) HN.out).mono ?_
  rintro e w1 ⟨rfl, hb⟩
  rw [HF.out]
  have s := (show Blk w1 (w.heap.size+1) 39 #[.int .i64 g0, .int .i64 g1, .int .i64 g2] from (Blk.newAt (by simp)).below hb (by simp <;> omega))
  obtain ⟨s0, s1, s2⟩ := s.c3
  have hB : Hid (Below w.heap.size w w1) := (show Below w.heap.size w _ by go_grown).trans (hb.mono (by simp <;> omega))
  have hsz : w.heap.size + 2 ≤ w1.heap.size := by have := hb.size; simp at this; omega
  clear s hb
  rcases (show ¬ (0 ≤ phase ∧ phase ≤ 3) ∨ (0 ≤ phase ∧ phase ≤ 3) ∧ (¬ (0 ≤ g0 ∧ g0 ≤ 65535) ∨ (0 ≤ g0 ∧ g0 ≤ 65535) ∧ (¬ (0 ≤ g1 ∧ g1 ≤ 65535) ∨ (0 ≤ g1 ∧ g1 ≤ 65535) ∧ (¬ (0 ≤ g2 ∧ g2 ≤ 65535) ∨ (0 ≤ g2 ∧ g2 ≤ 65535)))) by omega) with h | ⟨h, h0 | ⟨h0, h1 | ⟨h1, h2 | h2⟩⟩⟩
  · have hg : Hid (¬ gainOK phase g0 g1 g2) := by show ¬ _; unfold gainOK; omega
    go_wp2_with (go_at_call 57; refine (within_no _ _ _ _ h).mono ?_; rintro e w' ⟨rfl, rfl⟩)
    go_ret
    exact ⟨rfl, hB.out⟩
  · have hg : Hid (¬ gainOK phase g0 g1 g2) := by show ¬ _; unfold gainOK; omega
    go_wp2_with fail
    refine (within_yes _ _ _ _ h).mono ?_
    rintro e w' ⟨rfl, rfl⟩
    go_wp2_with (go_at_call 57; refine (within_no _ _ _ _ h0).mono ?_; rintro e w' ⟨rfl, rfl⟩)
    go_ret
    exact ⟨rfl, hB.out⟩
  · have hg : Hid (¬ gainOK phase g0 g1 g2) := by show ¬ _; unfold gainOK; omega
    go_wp2_with fail
    refine (within_yes _ _ _ _ h).mono ?_
    rintro e w' ⟨rfl, rfl⟩
    go_wp2_with fail
    refine (within_yes _ _ _ _ h0).mono ?_
    rintro e w' ⟨rfl, rfl⟩
    go_wp2_with (go_at_call 57; refine (within_no _ _ _ _ h1).mono ?_; rintro e w' ⟨rfl, rfl⟩)
    go_ret
    exact ⟨rfl, hB.out⟩
  · have hg : Hid (¬ gainOK phase g0 g1 g2) := by show ¬ _; unfold gainOK; omega
    go_wp2_with fail
    refine (within_yes _ _ _ _ h).mono ?_
    rintro e w' ⟨rfl, rfl⟩
    go_wp2_with fail
    refine (within_yes _ _ _ _ h0).mono ?_
    rintro e w' ⟨rfl, rfl⟩
    go_wp2_with fail
    refine (within_yes _ _ _ _ h1).mono ?_
    rintro e w' ⟨rfl, rfl⟩
    go_wp2_with (go_at_call 57; refine (within_no _ _ _ _ h2).mono ?_; rintro e w' ⟨rfl, rfl⟩)
    go_ret
    exact ⟨rfl, hB.out⟩
  · have hg : Hid (gainOK phase g0 g1 g2) := by show gainOK _ _ _ _; unfold gainOK; omega
    go_wp2_with (go_at_call 57; refine (within_yes _ _ _ _ (by omega)).mono ?_; rintro e w' ⟨rfl, rfl⟩)
    go_ret
    exact ⟨rfl, hB.out⟩
end

set_option maxRecDepth 100000 in
set_option maxHeartbeats 1600000 in
theorem gained_any (W H : Nat) (phase g0 g1 g2 : Int) (A : Option Addr) (n c : Nat) (xs : List Int) (w : World) (h : RI w 0 A n xs) (hf : planeFine W H xs = true) (ho : gainOK phase g0 g1 g2) :
    Calls Try.prog 24 #[.agg #[.int .i64 W, .int .i64 H, .slice A n c], .int .i64 phase, .agg #[.int .i64 g0, .int .i64 g1, .int .i64 g2]] w fun e w' =>
      ∃ A' c', e = .returned (.agg #[.int .i64 W, .int .i64 H, .slice A' n c']) ∧ RI w' w.heap.size A' n ((List.range n).map (gainL phase g0 g1 g2 W xs)) ∧ Below w.heap.size w w' := by
  obtain ⟨hp, hg0, hg1, hg2⟩ := ho
  obtain ⟨i0, hi, hz0, hz1, hz2⟩ := info_parts Try.info3
  have hlen := h.len
  have HS := Lib.hid (fun k (hk : k < n) => sample_at hlen hf hk)
  obtain ⟨hside, hlW, _⟩ := planeFine_iff.1 hf
  obtain ⟨hW1, hW2, hH1, hH2⟩ := hside
  have hl : n = W * H := by rw [hlen] at hlW; exact Int.ofNat.inj (hlW.trans (Int.natCast_mul _ _).symm)
  have hn : n ≤ 4096 := hl ▸ (Nat.mul_le_mul (show W ≤ 64 by omega) (show H ≤ 64 by omega))
  have HH := Lib.hid h
  have HL := Lib.hid hl
  clear h hl hlW hlen hf
  go_enter Try.func24, Try.ntmps24
  go_wp2
  go_loopw [8] (fun i wr => ∃ (k : Nat) (oa : Option Addr) (oc : Nat), k ≤ n ∧ i = .int .i64 k ∧ Blk wr w.heap.size 24 #[.int .i64 W, .int .i64 H, .slice A n c] ∧ Blk wr (w.heap.size+1) 39 #[.int .i64 g0, .int .i64 g1, .int .i64 g2] ∧
      Blk wr (w.heap.size+1+1) 24 #[.int .i64 0, .int .i64 0, .slice none 0 0] ∧ Blk wr (w.heap.size+1+1+1) 24 #[.int .i64 W, .int .i64 H, .slice oa k oc] ∧
      wr.ownsRow (w.heap.size+4) 3 1 (.slice oa k oc) k (VI ((List.range k).map (gainL phase g0 g1 g2 W xs))) ∧ Below w.heap.size w wr) (fun i _ => n - (intOf i).toNat)
  case atStart =>
    refine ⟨0, none, 0, Nat.zero_le _, rfl, (((Blk.new _ _ _).alloc _).alloc _).alloc _, ?_, ?_, ?_, ?_, ?_⟩
    · exact ((Blk.newAt (by simp)).alloc _).alloc _
    · exact (Blk.newAt (by simp)).alloc _
    · exact Blk.newAt (by simp)
    · exact own_nil _ _ _ _
    · go_grown
  case round =>
    obtain ⟨k, oa, oc, hk, rfl, k0, k1, k2, k3, hown, hbel⟩ := hrel
    obtain ⟨c00, c01, c02⟩ := k0.c3
    by_cases hlt : k < n
    · obtain ⟨b, o, sv, rfl, hbs, hx, hc⟩ := HH.out.at_ k hlt
      have hxv : 0 ≤ sv ∧ sv ≤ 65535 := by
        obtain ⟨sv', e1, e2⟩ := HS.out k hlt
        obtain rfl := Option.some.inj (e1.symm.trans hx)
        exact e2
      have hc' := (hbel.cell (p := ⟨b, o + k, none⟩) hbs).trans hc
      have HX := Lib.hid hx
      obtain ⟨_, _, c32⟩ := k3.c3
      have f32 := k3.frozen 2
      have hW0 : (W : Int) ≠ 0 := by omega
      have hWne : W ≠ 0 := by omega
      have x0 := Int.emod_nonneg (k : Int) hW0
      have x1 := Int.emod_lt_of_pos (k : Int) (show 0 < (W : Int) by omega)
      have y0 : 0 ≤ (k : Int) / W := Int.ediv_nonneg (by omega) (by omega)
      have y1 : (k : Int) / W < H := Int.ediv_lt_of_lt_mul (by omega) (by rw [Int.mul_comm, ← Int.natCast_mul, ← HL.out]; omega)
      have hcv := colV_bd phase ((k : Int) % W) ((k : Int) / W)
      obtain ⟨cc, HCC⟩ : ∃ cc : Nat, Hid (colV phase ((k : Int) % W) ((k : Int) / W) = cc) := ⟨(colV phase ((k : Int) % W) ((k : Int) / W)).toNat, (Int.toNat_of_nonneg hcv.1).symm⟩
      rw [HCC.out] at hcv
      have hcc : cc < 3 := by omega
      have hcc2 : (cc : Int) < 3 := hcv.2
      clear hcv
      have c1 := (k1.cell cc).trans (three_at g0 g1 g2 _ hcc)
      obtain ⟨gg, HGG⟩ : ∃ gg, Hid ([g0,g1,g2].getD cc 0 = gg) := ⟨_, rfl⟩
      have hgg : 0 ≤ gg ∧ gg ≤ 65535 := by
        have := HGG.out
        match cc, hcc with
        | 0, _ => subst this; exact hg0
        | 1, _ => subst this; exact hg1
        | 2, _ => subst this; exact hg2
      rw [HGG.out] at c1
      have hm0 : 0 ≤ sv * gg := Int.mul_nonneg (by omega) (by omega)
      have hm1 : sv * gg ≤ 65535 * 65535 := Int.mul_le_mul hxv.2 hgg.2 (by omega) (by omega)
      have t1 : (k : Int).tmod (W : Int) = (k : Int) % (W : Int) := Int.tmod_eq_emod_of_nonneg (by omega)
      have t2 : (k : Int).tdiv (W : Int) = (k : Int) / (W : Int) := Int.tdiv_eq_ediv_of_nonneg (by omega)
      have t3 : IntKind.i64.wrap ((k : Int) / (W : Int)) = (k : Int) / (W : Int) := IntWalk.i64_in _ (by omega)
      have t4 : IntKind.i64.wrap (sv * gg) = sv * gg := IntWalk.i64_in _ (by omega)
      have t5 : (sv * gg).tdiv 256 = sv * gg / 256 := Int.tdiv_eq_ediv_of_nonneg hm0
      have t6 : IntKind.i64.wrap (sv * gg / 256) = sv * gg / 256 := IntWalk.i64_in _ (by omega)
      have hbel0 := Lib.hid hbel
      have hown0 := Lib.hid hown
      have hsz := hbel.size
      have hlt3 := k3.lt
      have K0 := Lib.hid k0
      have K1 := Lib.hid k1
      have K2 := Lib.hid k2
      have K3 := Lib.hid k3
      clear hbel k0 k1 k2 k3 hc hx hown
      go_wp2
      have L00 : ∀ w', Below (w.heap.size+4) wr w' → w'.cell? ⟨w.heap.size, 0, none⟩ = some (.int .i64 W) := fun w' h => cell_b h c00 (by simp; try omega)
      have L02 : ∀ w', Below (w.heap.size+4) wr w' → w'.cell? ⟨w.heap.size, 2, none⟩ = some (.slice (some ⟨b, o, none⟩) n c) := fun w' h => cell_b h c02 (by simp; try omega)
      have LX : ∀ w', Below (w.heap.size+4) wr w' → w'.cell? ⟨b, o + k, none⟩ = some (.int .i64 sv) := fun w' h => cell_b h hc' (by simp; try omega)
      have LG : ∀ w', Below (w.heap.size+4) wr w' → w'.cell? ⟨w.heap.size+1, cc, none⟩ = some (.int .i64 gg) := fun w' h => cell_b h c1 (by simp; try omega)
      have L32 : ∀ w', Below (w.heap.size+4) wr w' → w'.cell? ⟨w.heap.size+1+1+1, 2, none⟩ = some (.slice oa k oc) := fun w' h => cell_b h c32 (by simp; try omega)
      refine wp_region_tl (Below (w.heap.size+4) wr) [0,0,0,0,0,0,0,0,0,0,0,0,0,0,0,0,1,0,0,0,0,1,1,1,0,2] (by kernel_rfl) (by kernel_rfl) (Below.refl _ _).drew ?_
      simp only [marked, List.headD_cons, List.tail_cons, beq_self_eq_true, Nat.reduceBEq]
      (apply tl_rob (by rfl); (case hv => (intro w' hS; conv => lhs; simp [go_sem, *])); simp only [Act.put, List.setIfInBounds_toArray, List.set_cons_succ, List.set_cons_zero])
      (apply tl_rob (by rfl); (case hv => (intro w' hS; conv => lhs; simp [go_sem, *])); simp only [Act.put, List.setIfInBounds_toArray, List.set_cons_succ, List.set_cons_zero])
      (apply tl_rob (by rfl); (case hv => (intro w' hS; conv => lhs; simp [go_sem, *])); simp only [Act.put, List.setIfInBounds_toArray, List.set_cons_succ, List.set_cons_zero])
      (apply tl_rob (by rfl); (case hv => (intro w' hS; conv => lhs; simp [go_sem, *])); simp only [Act.put, List.setIfInBounds_toArray, List.set_cons_succ, List.set_cons_zero])
      (apply tl_rob (by rfl); (case hv => (intro w' hS; conv => lhs; simp [go_sem, *])); simp only [Act.put, List.setIfInBounds_toArray, List.set_cons_succ, List.set_cons_zero])
      (apply tl_rob (by rfl); (case hv => (intro w' hS; conv => lhs; simp [go_sem, *])); simp only [Act.put, List.setIfInBounds_toArray, List.set_cons_succ, List.set_cons_zero])
      (apply tl_rob (by rfl); (case hv => (intro w' hS; conv => lhs; simp [go_sem, *])); simp only [Act.put, List.setIfInBounds_toArray, List.set_cons_succ, List.set_cons_zero])
      (apply tl_rob (by rfl); (case hv => (intro w' hS; conv => lhs; simp [go_sem, *])); simp only [Act.put, List.setIfInBounds_toArray, List.set_cons_succ, List.set_cons_zero])
      (apply tl_rob (by rfl); (case hv => (intro w' hS; conv => lhs; simp [go_sem, *])); simp only [Act.put, List.setIfInBounds_toArray, List.set_cons_succ, List.set_cons_zero])
      (apply tl_rob (by rfl); (case hv => (intro w' hS; conv => lhs; simp [go_sem, *])); simp only [Act.put, List.setIfInBounds_toArray, List.set_cons_succ, List.set_cons_zero])
      (apply tl_rob (by rfl); (case hv => (intro w' hS; conv => lhs; simp [go_sem, *])); simp only [Act.put, List.setIfInBounds_toArray, List.set_cons_succ, List.set_cons_zero])
      (apply tl_rob (by rfl); (case hv => (intro w' hS; conv => lhs; simp [go_sem, *])); simp only [Act.put, List.setIfInBounds_toArray, List.set_cons_succ, List.set_cons_zero])
      (apply tl_rob (by rfl); (case hv => (intro w' hS; conv => lhs; simp [go_sem, *])); simp only [Act.put, List.setIfInBounds_toArray, List.set_cons_succ, List.set_cons_zero])
      (apply tl_rob (by rfl); (case hv => (intro w' hS; conv => lhs; simp [go_sem, *])); simp only [Act.put, List.setIfInBounds_toArray, List.set_cons_succ, List.set_cons_zero])
      (apply tl_rob (by rfl); (case hv => (intro w' hS; conv => lhs; simp [go_sem, *])); simp only [Act.put, List.setIfInBounds_toArray, List.set_cons_succ, List.set_cons_zero])
      (apply tl_rob (by rfl); (case hv => (intro w' hS; conv => lhs; simp [go_sem, *])); simp only [Act.put, List.setIfInBounds_toArray, List.set_cons_succ, List.set_cons_zero])
      (apply tl_act (by rfl); intro K hK)
      go_simp
      refine (colourAt_any _ _ _ _ hp ⟨x0, by omega⟩ ⟨y0, by omega⟩).mono ?_
      rintro e w1 ⟨rfl, rfl⟩
      rw [HCC.out]
      have hB := (Below.refl (w.heap.size+4) wr).drew
      refine hK _ _ (fun _ => hB) ?_
      clear hK K
      (apply tl_rob (by rfl); (case hv => (intro w' hS; conv => lhs; simp [go_sem, *])); simp only [Act.put, List.setIfInBounds_toArray, List.set_cons_succ, List.set_cons_zero])
      (apply tl_rob (by rfl); (case hv => (intro w' hS; conv => lhs; simp [go_sem, *])); simp only [Act.put, List.setIfInBounds_toArray, List.set_cons_succ, List.set_cons_zero])
      (apply tl_rob (by rfl); (case hv => (intro w' hS; conv => lhs; simp [go_sem, *])); simp only [Act.put, List.setIfInBounds_toArray, List.set_cons_succ, List.set_cons_zero])
      (apply tl_rob (by rfl); (case hv => (intro w' hS; conv => lhs; simp [go_sem, *])); simp only [Act.put, List.setIfInBounds_toArray, List.set_cons_succ, List.set_cons_zero])
      (apply tl_act (by rfl); intro K hK)
      go_simp
      refine (clamp_any _ _).mono ?_
      rintro e w2 ⟨rfl, rfl⟩
      refine hK _ _ (fun _ => hB) ?_
      clear hK K
      (apply tl_act (by rfl); intro K hK)
      go_simp
      refine hK _ _ (fun _ => hB.alloc (by have := hB.size; omega) _) ?_
      clear hK K
      (apply tl_act (by rfl); intro K hK)
      refine wp_push wr.drew _ _ _ (by rfl) (w.heap.size+4) 3 i0 _ 1 8 Try.underlying22 hi hz0 hz1 hz2 rfl (by omega) oa k oc _ (by rfl) (by exact hown0.out) #[.int .i64 (max 0 (min (sv * gg / 256) 65535))] (by rfl) (by rfl) (by rfl) (by simp [Value.oneCell']) (by unfold maxLen; omega) (by omega) (by have := hB.size; omega) ?_
      intro g cap w3 hown2 hb2
      have hB2 := hB.trans hb2
      refine hK _ _ (fun _ => hB2) ?_
      clear hK K
      simp only [Act.put, List.setIfInBounds_toArray, List.set_cons_succ, List.set_cons_zero]
      (apply tl_rob (by rfl); (case hv => (intro w' hS; conv => lhs; simp [go_sem, *])); simp only [Act.put, List.setIfInBounds_toArray, List.set_cons_succ, List.set_cons_zero])
      (apply tl_act (by rfl); intro K hK)
      have c32' := L32 _ hB2
      have f32' := froz_b hB2 f32 (by simp; try omega)
      go_simp
      refine hK _ _ (fun h => by cases h) ?_
      clear hK K
      refine tl_nil ?_
      go_wp2
      refine ⟨⟨k+1, _, _, by omega, by go_num, (K0.out.below hB2 (by omega)).far (by simp <;> omega) _, (K1.out.below hB2 (by omega)).far (by simp <;> omega) _, (K2.out.below hB2 (by omega)).far (by simp <;> omega) _, (K3.out.below hB2 (by omega)).set_ _ _ rfl, ?_, ?_⟩, by simp [intOf]; omega⟩
      · have hv : gainL phase g0 g1 g2 W xs k = max 0 (min (sv * gg / 256) 65535) := by
          rw [gainL, getD_of HX.out, HCC.out, Int.toNat_natCast, HGG.out]
          omega
        have hown3 := hown2
        rw [show (#[Value.int .i64 (max 0 (min (sv * gg / 256) 65535))] : Array Value).toList = [.int .i64 (max 0 (min (sv * gg / 256) 65535))] from rfl, VI_snoc hv] at hown3
        exact ownsRow_setCell_below hown3 (by simp <;> omega) _
      · exact (hbel0.out.trans (hB2.mono (by omega))).setCell (by simp <;> omega) _
    · obtain ⟨c30, c31, c32⟩ := k3.c3
      obtain ⟨c20, c21, c22⟩ := k2.c3
      obtain ⟨f20, f21, f22⟩ := k2.f3
      obtain rfl : k = n := by omega
      have hsz := k3.lt
      clear HL
      go_wp2
      refine bodyPost_ret (results_cell_row rfl _ _ (w.heap.size+1+1) 24 _ (0,0) _ (by rfl) (((k2.set_ 0 _ rfl).set_ 1 _ rfl).set_ 2 _ rfl) Try.underlying24 rfl (by kernel_rfl)) rfl ?_
      refine ⟨oa, oc, rfl, ?_, ?_⟩
      · exact RI_own (ownsRow_setCell_below (ownsRow_setCell_below (ownsRow_setCell_below hown (a := ⟨w.heap.size+1+1, 0, none⟩) (by simp <;> omega) (.int .i64 W)) (a := ⟨w.heap.size+1+1, 1, none⟩) (by simp <;> omega) (.int .i64 H)) (a := ⟨w.heap.size+1+1, 2, none⟩) (by simp <;> omega) (.slice oa k oc)) w.heap.size (by omega)
      · exact ((hbel.setCell (by simp <;> omega) _).setCell (by simp <;> omega) _).setCell (by simp <;> omega) _
end Go.Proofs.Ytpmnfhifmmfglaa
