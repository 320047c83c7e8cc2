/- The walk of the document's Repaired. -/
import Derived.Test.YtpmnfhifmmfglaaRepairErr
import Derived.Test.YtpmnfhifmmfglaaRepairLaw
import Derived.Test.YtpmnfhifmmfglaaLevelRef
namespace Go.Proofs.Ytpmnfhifmmfglaa
open Go.RowKit

set_option maxRecDepth 100000 in
set_option maxHeartbeats 4000000 in
theorem repaired_any (W H : Nat) (A A2 : Option Addr) (n c n2 c2 : Nat) (xs : List Int) (l : List (Int × Int)) (w : World) (h : RI w 0 A n xs) (hs : RS w 0 A2 n2 l) (hm : n2 ≤ 64) (hf : planeFine W H xs = true) :
    Calls Try.prog 21 #[.agg #[.int .i64 W, .int .i64 H, .slice A n c], .slice A2 n2 c2] w fun e w' =>
      ∃ A' c', e = .returned (.agg #[.int .i64 W, .int .i64 H, .slice A' n c']) ∧ RI w' w.heap.size A' n ((List.range n).map (repairL W H l xs)) ∧ Below w.heap.size w w' := by
  obtain ⟨i0, hi, hz0, hz1, hz2⟩ := info_parts Try.info3
  have hlen := h.len
  have HX := Lib.hid (fun k (hk : k < n) => sample_at hlen hf hk)
  obtain ⟨hside, hlW, hall⟩ := planeFine_iff.1 hf
  have HA : Hid (∀ (k : Nat) (v : Int), xs[k]? = some v → 0 ≤ v ∧ v ≤ 65535) := fun k v hv => okS_of (List.all_eq_true.1 hall v (List.mem_of_getElem? hv))
  obtain ⟨hW1, hW2, hH1, hH2⟩ := hside
  have hl : n = W * H := by rw [hlen] at hlW; exact Int.ofNat.inj (hlW.trans (Int.natCast_mul _ _).symm)
  have hn : n ≤ 4096 := hl ▸ (Nat.mul_le_mul (show W ≤ 64 by omega) (show H ≤ 64 by omega))
  have HH := Lib.hid h
  have HS := Lib.hid hs
  have HL := Lib.hid hl
  clear h hl hlW hlen hf hs hall
  go_enter Try.func21, Try.ntmps21
  go_wp2
  go_loopw [6] (fun i wr => ∃ (y : Nat) (oa : Option Addr) (oc : Nat), y ≤ H ∧ i = .int .i64 y ∧ Blk wr w.heap.size 24 #[.int .i64 W, .int .i64 H, .slice A n c] ∧
      Blk wr (w.heap.size+1) 24 #[.int .i64 0, .int .i64 0, .slice none 0 0] ∧ Blk wr (w.heap.size+1+1) 24 #[.int .i64 W, .int .i64 H, .slice oa (y*W) oc] ∧
      wr.ownsRow (w.heap.size+3) 3 1 (.slice oa (y*W) oc) (y*W) (VI ((List.range (y*W)).map (repairL W H l xs))) ∧ Below w.heap.size w wr) (fun i _ => H - (intOf i).toNat)
  case atStart =>
    refine ⟨0, none, 0, Nat.zero_le _, rfl, ((Blk.new _ _ _).alloc _).alloc _, ?_, ?_, ?_, ?_⟩
    · exact (Blk.newAt (by simp)).alloc _
    · simp only [Nat.zero_mul]; exact Blk.newAt (by simp)
    · simp only [Nat.zero_mul]; exact own_nil _ _ _ _
    · go_grown
  case round =>
    obtain ⟨y, oa, oc, hy, rfl, k0, k2, k3, hown, hbel⟩ := hrel
    obtain ⟨c00, c01, _⟩ := k0.c3
    by_cases hlt : y < H
    · go_wp2
      obtain ⟨wo, rfl⟩ : ∃ wo : World, wo = wr := ⟨_, rfl⟩
      go_loopw [7] (fun i wr => ∃ (x : Nat) (oa : Option Addr) (oc : Nat), x ≤ W ∧ i = .int .i64 x ∧ Blk wr w.heap.size 24 #[.int .i64 W, .int .i64 H, .slice A n c] ∧
        Blk wr (w.heap.size+1) 24 #[.int .i64 0, .int .i64 0, .slice none 0 0] ∧ Blk wr (w.heap.size+1+1) 24 #[.int .i64 W, .int .i64 H, .slice oa (y*W+x) oc] ∧
        wr.ownsRow (w.heap.size+3) 3 1 (.slice oa (y*W+x) oc) (y*W+x) (VI ((List.range (y*W+x)).map (repairL W H l xs))) ∧ Below w.heap.size w wr) (fun i _ => W - (intOf i).toNat)
      case atStart => exact ⟨0, oa, oc, Nat.zero_le _, rfl, k0, k2, by simpa using k3, by simpa using hown, hbel⟩
      case round =>
        clear k0 k2 k3 hown hbel c00 c01
        obtain ⟨x, oa, oc, hx, rfl, k0, k2, k3, hown, hbel⟩ := hrel
        obtain ⟨c00, c01, c02⟩ := k0.c3
        obtain ⟨_, _, c32⟩ := k3.c3
        by_cases hlx : x < W
        · have hbel0 := Lib.hid hbel
          have hM1 : y * W ≤ 64 * 64 := Nat.mul_le_mul (by omega) (by omega)
          have hM2 : (y + 1) * W ≤ H * W := Nat.mul_le_mul_right _ (by omega)
          have hM3 : (y + 1) * W = y * W + W := Nat.succ_mul _ _
          have hM4 : H * W = n := by rw [Nat.mul_comm]; exact HL.out.symm
          have hsz := hbel.size
          have hlt3 := k3.lt
          have hR := Lib.hid (HH.out.below hbel (Nat.le_refl _))
          have hS := Lib.hid (HS.out.below hbel (Nat.le_refl _))
          have G1 : Hid ((y : Int) * W + x = ((y*W+x : Nat) : Int)) := by show _ = _; push_cast; rfl
          have G2 : Hid (0 ≤ (y : Int) * W ∧ (y : Int) * W ≤ 4096) := by
            have e : (y : Int) * W = ((y * W : Nat) : Int) := by push_cast; rfl
            show _ ∧ _
            rw [e]; omega
          obtain ⟨sv, hsv0, hxv⟩ := HX.out (y*W+x) (by omega)
          have hsv := Lib.hid hsv0
          clear hM2 hM3 hM4 hsv0
          have f32 := k3.frozen 2
          have K0 := Lib.hid k0
          have K2 := Lib.hid k2
          have K3 := Lib.hid k3
          have HO := Lib.hid hown
          obtain ⟨HD1, HD2⟩ : Hid (((y*W+x : Nat) : Int) / W = y) ∧ Hid (((y*W+x : Nat) : Int) % W = x) := split_div W x y hlx
          have HLAW : Hid (repairL W H l xs (y*W+x) = min (repairV W H (cntF l) xs sv x y) 65535) := by show _ = _; rw [repairL, getD_of hsv.out, HD1.out, HD2.out]
          clear hbel k0 k2 k3 hown
          have L00 : ∀ w', Below (w.heap.size+3) wr w' → w'.cell? ⟨w.heap.size, 0, none⟩ = some (.int .i64 W) := fun w' h => cell_b h c00 (by simp; try omega)
          have L01 : ∀ w', Below (w.heap.size+3) wr w' → w'.cell? ⟨w.heap.size, 1, none⟩ = some (.int .i64 H) := fun w' h => cell_b h c01 (by simp; try omega)
          have L02 : ∀ w', Below (w.heap.size+3) wr w' → w'.cell? ⟨w.heap.size, 2, none⟩ = some (.slice A n c) := fun w' h => cell_b h c02 (by simp; try omega)
          have L32 : ∀ w', Below (w.heap.size+3) wr w' → w'.cell? ⟨w.heap.size+1+1, 2, none⟩ = some (.slice oa (y*W+x) oc) := fun w' h => cell_b h c32 (by simp; try omega)
          by_cases hcz : cntF l x y = 0
          · have HZ := Lib.hid hcz
            clear hcz
            go_wp2_with fail
            refine (isSpot_any A2 n2 c2 l x y _ (by exact hS.out) hm).mono ?_
            rintro e w' ⟨rfl, rfl⟩
            rw [show (!decide (cntF l x y = 0)) = false by simp [HZ.out]]
            go_wp2_with fail
            refine wp_region_tl (Below (w.heap.size+3) wr) [0,0,0,0,0,1,1,1,0,2] (by kernel_rfl) (by kernel_rfl) (Below.refl _ _).drew ?_
            simp only [marked, List.headD_cons, List.tail_cons, beq_self_eq_true, Nat.reduceBEq]
            (apply tl_rob (by rfl); (case hv => (intro w' hS; conv => lhs; simp [go_sem, *])); simp only [Act.put, List.setIfInBounds_toArray, List.set_cons_succ, List.set_cons_zero])
            (apply tl_rob (by rfl); (case hv => (intro w' hS; conv => lhs; simp [go_sem, *])); simp only [Act.put, List.setIfInBounds_toArray, List.set_cons_succ, List.set_cons_zero])
            (apply tl_rob (by rfl); (case hv => (intro w' hS; conv => lhs; simp [go_sem, *])); simp only [Act.put, List.setIfInBounds_toArray, List.set_cons_succ, List.set_cons_zero])
            (apply tl_rob (by rfl); (case hv => (intro w' hS; conv => lhs; simp [go_sem, *])); simp only [Act.put, List.setIfInBounds_toArray, List.set_cons_succ, List.set_cons_zero])
            (apply tl_rob (by rfl); (case hv => (intro w' hS; conv => lhs; simp [go_sem, *])); simp only [Act.put, List.setIfInBounds_toArray, List.set_cons_succ, List.set_cons_zero])
            (apply tl_act (by rfl); intro K hK)
            go_simp
            refine (at_any W H x y A n c (y*W+x) xs sv _ (by exact hR.out) hsv.out hn G1.out G2.out.1 G2.out.2 (by omega)).mono ?_
            rintro e w1 ⟨rfl, hb⟩
            have hB := ((Below.refl (w.heap.size+3) wr).drew).trans (hb.mono (by simp <;> omega))
            refine hK _ _ (fun _ => hB) ?_
            clear hK K
            (apply tl_act (by rfl); intro K hK)
            go_simp
            refine hK _ _ (fun _ => hB.alloc (by have := hB.size; omega) _) ?_
            clear hK K
            (apply tl_act (by rfl); intro K hK)
            refine wp_push w1 _ _ _ (by rfl) (w.heap.size+3) 3 i0 _ 1 8 Try.underlying22 hi hz0 hz1 hz2 rfl (by omega) oa (y*W+x) oc _ (by rfl) (own_below (by exact HO.out) hb (Nat.le_refl _)) #[.int .i64 sv] (by rfl) (by rfl) (by rfl) (by simp [Value.oneCell']) (by unfold maxLen; omega) (by omega) (by have := hB.size; omega) ?_
            intro g cap w3 hown2 hb2
            have hB2 := hB.trans hb2
            refine hK _ _ (fun _ => hB2) ?_
            clear hK K
            simp only [Act.put, List.setIfInBounds_toArray, List.set_cons_succ, List.set_cons_zero]
            (apply tl_rob (by rfl); (case hv => (intro w' hS; conv => lhs; simp [go_sem, *])); simp only [Act.put, List.setIfInBounds_toArray, List.set_cons_succ, List.set_cons_zero])
            (apply tl_act (by rfl); intro K hK)
            have c32' := L32 _ hB2
            have f32' := froz_b hB2 f32 (by simp; try omega)
            go_simp
            refine hK _ _ (fun h => by cases h) ?_
            clear hK K
            refine tl_nil ?_
            go_wp2
            refine ⟨⟨x+1, _, _, by omega, by go_num, (K0.out.below hB2 (by omega)).far (by simp <;> omega) _, (K2.out.below hB2 (by omega)).far (by simp <;> omega) _, (K3.out.below hB2 (by omega)).set_ _ _ rfl, ?_, ?_⟩, by simp [intOf]; omega⟩
            · have hv : repairL W H l xs (y*W+x) = sv := by
                rw [HLAW.out, repairV, if_pos HZ.out]; omega
              have hown3 := hown2
              rw [show (#[Value.int .i64 sv] : Array Value).toList = [.int .i64 sv] from rfl, VI_snoc hv] at hown3
              exact ownsRow_setCell_below hown3 (by simp <;> omega) _
            · exact (hbel0.out.trans (hB2.mono (by omega))).setCell (by simp <;> omega) _
          · have HZ := Lib.hid hcz
            clear hcz
            go_wp2_with fail
            refine (isSpot_any A2 n2 c2 l x y _ (by exact hS.out) hm).mono ?_
            rintro e w' ⟨rfl, rfl⟩
            rw [show (!decide (cntF l x y = 0)) = true by simp [HZ.out]]
            go_wp2_with fail
            obtain ⟨wp, rfl⟩ : ∃ wp : World, wp = wr := ⟨_, rfl⟩
            go_loopw [8, 9, 10] (fun s t i wr => ∃ k : Nat, k ≤ 5 ∧ i = .int .i64 ((y : Int) - 2 + k) ∧ s = .int .i64 (tS W H l xs x y k) ∧ t = .int .i64 (tC W H l x y k) ∧ Below wp.heap.size wp wr) (fun _ _ i _ => (y + 3 - intOf i).toNat)
            case atStart => exact ⟨0, by omega, by go_num, rfl, rfl, Below.refl _ _⟩
            case round =>
              obtain ⟨k, hk, rfl, rfl, rfl, hbk⟩ := hrel
              have hkc := tC_bd W H l x y k
              have hks := tS_bd W H l xs x y HA.out k
              have HBK := Lib.hid hbk
              have hkz := hbk.size
              clear hbk
              obtain ⟨vv, HV⟩ : ∃ vv : Int, Hid (vv = (y : Int) - 2 + k) := ⟨_, rfl⟩
              have hvb : -2 ≤ vv ∧ vv ≤ 67 := by have := HV.out; omega
              rw [← HV.out]
              generalize hts : tS W H l xs x y k = ts at *
              generalize htc : tC W H l x y k = tc at *
              have HTS := Lib.hid hts
              have HTC := Lib.hid htc
              clear hts htc
              by_cases hk5 : k < 5
              · have hv2 : vv ≤ (y : Int) + 2 := by have := HV.out; omega
                have CB := fun j hj uu hu => cB_two x y uu vv k j hk5 hj hu HV.out
                have HCB := Lib.hid CB
                clear CB
                go_wp2_with fail
                obtain ⟨wq, rfl⟩ : ∃ wq : World, wq = wr := ⟨_, rfl⟩
                go_loopw [8, 9, 11] (fun s t i wr => ∃ j : Nat, j ≤ 5 ∧ i = .int .i64 ((x : Int) - 2 + j) ∧ s = .int .i64 (ts + rS W H l xs x y k j) ∧ t = .int .i64 (tc + rC W H l x y k j) ∧ Below wp.heap.size wp wr) (fun _ _ i _ => (x + 3 - intOf i).toNat)
                case atStart => exact ⟨0, by omega, by go_num, by simp [rS], by simp [rC], HBK.out⟩
                case round =>
                  obtain ⟨j, hj, rfl, rfl, rfl, hbj⟩ := hrel
                  have hjc := rC_bd W H l x y k j
                  have hjs := rS_bd W H l xs x y HA.out k j
                  have HBJ := Lib.hid hbj
                  have hjz := hbj.size
                  have HB3 := Lib.hid (hbj.mono (show w.heap.size + 3 ≤ wp.heap.size by omega))
                  have c00' := L00 _ HB3.out
                  have c01' := L01 _ HB3.out
                  have c02' := L02 _ HB3.out
                  clear hbj
                  obtain ⟨uu, HU⟩ : ∃ uu : Int, Hid (uu = (x : Int) - 2 + j) := ⟨_, rfl⟩
                  have hub : -2 ≤ uu ∧ uu ≤ 67 := by have := HU.out; omega
                  rw [← HU.out]
                  have HRS : Hid (rS W H l xs x y k (j + 1) = rS W H l xs x y k j + bif cB k j then nbv W H l xs uu vv else 0) := by show _ = _; rw [rS, ← HU.out, ← HV.out]
                  have HRC : Hid (rC W H l x y k (j + 1) = rC W H l x y k j + bif cB k j then nbc W H l uu vv else 0) := by show _ = _; rw [rC, ← HU.out, ← HV.out]
                  generalize hrs : rS W H l xs x y k j = rs at *
                  generalize hrc : rC W H l x y k j = rc at *
                  have HRS0 := Lib.hid hrs
                  have HRC0 := Lib.hid hrc
                  clear hrs hrc
                  by_cases hj5 : j < 5
                  · have hu2 : uu ≤ (x : Int) + 2 := by have := HU.out; omega
                    have HCT : Hid (cB k j = decide (twoP x y uu vv)) := HCB.out j hj5 uu HU.out
                    go_upto_region 17 with fail
                    go_cut [12] (fun b wc => ∃ tb : Bool, b = .bool tb ∧ Hid (tb = decide (twoP x y uu vv)) ∧ wc = wr)
                    case first =>
                      by_cases a1 : uu = x
                      · have f1 : (uu == (x : Int)) = true := by simp [a1]
                        have A1 := Lib.hid a1
                        clear a1
                        by_cases a2 : vv = (y : Int) - 2
                        · have f2 : (vv == (y : Int) - 2) = true := by simp [a2]
                          have A2 := Lib.hid a2
                          clear a2
                          go_wp2_with fail
                          go_meet
                          exact ⟨_, rfl, (decide_eq_true (by have := A1.out; have := A2.out; unfold twoP; omega)).symm, rfl⟩
                        · have f2 : (vv == (y : Int) - 2) = false := by simp [a2]
                          have A2 := Lib.hid a2
                          clear a2
                          by_cases a3 : vv = (y : Int) + 2
                          · have f3 : (vv == (y : Int) + 2) = true := by simp [a3]
                            have A3 := Lib.hid a3
                            clear a3
                            go_wp2_with fail
                            go_meet
                            exact ⟨_, rfl, (decide_eq_true (by have := A1.out; have := A3.out; unfold twoP; omega)).symm, rfl⟩
                          · have f3 : (vv == (y : Int) + 2) = false := by simp [a3]
                            have A3 := Lib.hid a3
                            clear a3
                            have f5 : (uu == (x : Int) - 2) = false := by have := A1.out; simp; omega
                            have f6 : (uu == (x : Int) + 2) = false := by have := A1.out; simp; omega
                            by_cases a4 : vv = y
                            · have f4 : (vv == (y : Int)) = true := by simp [a4]
                              clear a4
                              go_wp2_with fail
                              go_meet
                              exact ⟨_, rfl, (decide_eq_false (by have := A1.out; have := A2.out; have := A3.out; unfold twoP; omega)).symm, rfl⟩
                            · have f4 : (vv == (y : Int)) = false := by simp [a4]
                              clear a4
                              go_wp2_with fail
                              go_meet
                              exact ⟨_, rfl, (decide_eq_false (by have := A1.out; have := A2.out; have := A3.out; unfold twoP; omega)).symm, rfl⟩
                      · have f1 : (uu == (x : Int)) = false := by simp [a1]
                        have A1 := Lib.hid a1
                        clear a1
                        by_cases a4 : vv = y
                        · have f4 : (vv == (y : Int)) = true := by simp [a4]
                          have A4 := Lib.hid a4
                          clear a4
                          by_cases a5 : uu = (x : Int) - 2
                          · have f5 : (uu == (x : Int) - 2) = true := by simp [a5]
                            have A5 := Lib.hid a5
                            clear a5
                            go_wp2_with fail
                            go_meet
                            exact ⟨_, rfl, (decide_eq_true (by have := A4.out; have := A5.out; unfold twoP; omega)).symm, rfl⟩
                          · have f5 : (uu == (x : Int) - 2) = false := by simp [a5]
                            have A5 := Lib.hid a5
                            clear a5
                            by_cases a6 : uu = (x : Int) + 2
                            · have f6 : (uu == (x : Int) + 2) = true := by simp [a6]
                              have A6 := Lib.hid a6
                              clear a6
                              go_wp2_with fail
                              go_meet
                              exact ⟨_, rfl, (decide_eq_true (by have := A4.out; have := A6.out; unfold twoP; omega)).symm, rfl⟩
                            · have f6 : (uu == (x : Int) + 2) = false := by simp [a6]
                              have A6 := Lib.hid a6
                              clear a6
                              go_wp2_with fail
                              go_meet
                              exact ⟨_, rfl, (decide_eq_false (by have := A1.out; have := A5.out; have := A6.out; unfold twoP; omega)).symm, rfl⟩
                        · have f4 : (vv == (y : Int)) = false := by simp [a4]
                          have A4 := Lib.hid a4
                          clear a4
                          go_wp2_with fail
                          go_meet
                          exact ⟨_, rfl, (decide_eq_false (by have := A1.out; have := A4.out; unfold twoP; omega)).symm, rfl⟩
                    case rest =>
                      obtain ⟨tb, rfl, HT, rfl⟩ := hcut
                      cases tb
                      · have E1 : Hid (rS W H l xs x y k (j + 1) = rs) := by show _ = _; rw [HRS.out, HCT.out, ← HT.out]; simp
                        have E2 : Hid (rC W H l x y k (j + 1) = rc) := by show _ = _; rw [HRC.out, HCT.out, ← HT.out]; simp
                        go_wp2_with fail
                        refine ⟨⟨j + 1, by omega, by first | (have := HU.out; go_num) | (rw [HU.out]; go_num), by rw [E1.out], by rw [E2.out], HBJ.out⟩, by have := HU.out; simp [intOf]; omega⟩
                      · have HC1 : Hid (cB k j = true) := by show _ = _; rw [HCT.out, ← HT.out]
                        have HSj := Lib.hid (hS.out.below HBJ.out (Nat.le_refl _))
                        have HRj := Lib.hid (hR.out.below HBJ.out (Nat.le_refl _))
                        by_cases q1 : 0 ≤ uu ∧ uu ≤ (W : Int) - 1
                        · by_cases q2 : 0 ≤ vv ∧ vv ≤ (H : Int) - 1
                          · by_cases q3 : cntF l uu vv = 0
                            · have HIN : Hid (inP W H l uu vv) := ⟨q1.1, by omega, q2.1, by omega, q3⟩
                              have hm0 : 0 ≤ vv * (W : Int) := Int.mul_nonneg q2.1 (by omega)
                              have hm1 : vv * (W : Int) + W ≤ H * W := by
                                have : (vv + 1) * (W : Int) ≤ H * W := Int.mul_le_mul_of_nonneg_right (by omega) (by omega)
                                rw [Int.add_mul] at this; omega
                              have hm2 : (H : Int) * W ≤ 64 * 64 := Int.mul_le_mul (by omega) (by omega) (by omega) (by omega)
                              have hm3 : vv * (W : Int) + uu < n := by rw [HL.out, Int.natCast_mul, Int.mul_comm (W : Int) H]; omega
                              obtain ⟨k2, hk2⟩ : ∃ k2 : Nat, vv * (W : Int) + uu = k2 := ⟨_, (Int.toNat_of_nonneg (by omega)).symm⟩
                              obtain ⟨sv2, hsv2, hxv2⟩ := HX.out k2 (by omega)
                              have HVAL : Hid (nbv W H l xs uu vv = sv2) := by show _ = _; rw [nbv, if_pos HIN.out, hk2, Int.toNat_natCast, getD_of hsv2]
                              have HCNT : Hid (nbc W H l uu vv = 1) := by show _ = _; rw [nbc, if_pos HIN.out]
                              have E1 : Hid (rS W H l xs x y k (j + 1) = rs + sv2) := by show _ = _; rw [HRS.out, HC1.out, cond_true, HVAL.out]
                              have E2 : Hid (rC W H l x y k (j + 1) = rc + 1) := by show _ = _; rw [HRC.out, HC1.out, cond_true, HCNT.out]
                              have G3 : Hid (0 ≤ vv * (W : Int) ∧ vv * (W : Int) ≤ 4096) := ⟨hm0, by omega⟩
                              have HK2 := Lib.hid hk2
                              have HSV2 := Lib.hid hsv2
                              have HQ3 := Lib.hid q3
                              clear hm0 hm1 hm2 hm3 hk2 hsv2 q3
                              go_wp2_with fail
                              refine (within_yes _ _ _ _ q1).mono ?_
                              rintro e w' ⟨rfl, rfl⟩
                              go_wp2_with fail
                              refine (within_yes _ _ _ _ q2).mono ?_
                              rintro e w' ⟨rfl, rfl⟩
                              go_wp2_with fail
                              refine (isSpot_any A2 n2 c2 l uu vv _ (by exact HSj.out) hm).mono ?_
                              rintro e w' ⟨rfl, rfl⟩
                              rw [show (!decide (cntF l uu vv = 0)) = false by simp [HQ3.out]]
                              go_wp2_with fail
                              refine (at_any W H uu vv A n c k2 xs sv2 _ (by exact HRj.out) HSV2.out hn HK2.out G3.out.1 G3.out.2 q1.1).mono ?_
                              rintro e w5 ⟨rfl, d5⟩
                              have D5 := Lib.hid (HBJ.out.trans (d5.mono hjz))
                              clear d5
                              go_wp2_with fail
                              refine ⟨⟨j + 1, by omega, by first | (have := HU.out; go_num) | (rw [HU.out]; go_num), by rw [E1.out]; go_num, by rw [E2.out]; go_num, D5.out⟩, by have := HU.out; simp [intOf]; omega⟩
                            · have HOUT : Hid (¬ inP W H l uu vv) := fun hh => q3 hh.2.2.2.2
                              have HQ3 := Lib.hid q3
                              clear q3
                              have E1 : Hid (rS W H l xs x y k (j + 1) = rs) := by show _ = _; rw [HRS.out, HC1.out, cond_true, nbv, if_neg HOUT.out, Int.add_zero]
                              have E2 : Hid (rC W H l x y k (j + 1) = rc) := by show _ = _; rw [HRC.out, HC1.out, cond_true, nbc, if_neg HOUT.out, Int.add_zero]
                              go_wp2_with fail
                              refine (within_yes _ _ _ _ q1).mono ?_
                              rintro e w' ⟨rfl, rfl⟩
                              go_wp2_with fail
                              refine (within_yes _ _ _ _ q2).mono ?_
                              rintro e w' ⟨rfl, rfl⟩
                              go_wp2_with fail
                              refine (isSpot_any A2 n2 c2 l uu vv _ (by exact HSj.out) hm).mono ?_
                              rintro e w' ⟨rfl, rfl⟩
                              rw [show (!decide (cntF l uu vv = 0)) = true by simp [HQ3.out]]
                              go_wp2_with fail
                              refine ⟨⟨j + 1, by omega, by first | (have := HU.out; go_num) | (rw [HU.out]; go_num), by rw [E1.out], by rw [E2.out], HBJ.out⟩, by have := HU.out; simp [intOf]; omega⟩
                          · have HOUT : Hid (¬ inP W H l uu vv) := fun hh => q2 ⟨hh.2.2.1, by have := hh.2.2.2.1; omega⟩
                            have E1 : Hid (rS W H l xs x y k (j + 1) = rs) := by show _ = _; rw [HRS.out, HC1.out, cond_true, nbv, if_neg HOUT.out, Int.add_zero]
                            have E2 : Hid (rC W H l x y k (j + 1) = rc) := by show _ = _; rw [HRC.out, HC1.out, cond_true, nbc, if_neg HOUT.out, Int.add_zero]
                            have HQ2 := Lib.hid q2
                            clear q2
                            go_wp2_with fail
                            refine (within_yes _ _ _ _ q1).mono ?_
                            rintro e w' ⟨rfl, rfl⟩
                            go_wp2_with fail
                            refine (within_no _ _ _ _ HQ2.out).mono ?_
                            rintro e w' ⟨rfl, rfl⟩
                            go_wp2_with fail
                            refine ⟨⟨j + 1, by omega, by first | (have := HU.out; go_num) | (rw [HU.out]; go_num), by rw [E1.out], by rw [E2.out], HBJ.out⟩, by have := HU.out; simp [intOf]; omega⟩
                        · have HOUT : Hid (¬ inP W H l uu vv) := fun hh => q1 ⟨hh.1, by have := hh.2.1; omega⟩
                          have E1 : Hid (rS W H l xs x y k (j + 1) = rs) := by show _ = _; rw [HRS.out, HC1.out, cond_true, nbv, if_neg HOUT.out, Int.add_zero]
                          have E2 : Hid (rC W H l x y k (j + 1) = rc) := by show _ = _; rw [HRC.out, HC1.out, cond_true, nbc, if_neg HOUT.out, Int.add_zero]
                          have HQ1 := Lib.hid q1
                          clear q1
                          go_wp2_with fail
                          refine (within_no _ _ _ _ HQ1.out).mono ?_
                          rintro e w' ⟨rfl, rfl⟩
                          go_wp2_with fail
                          refine ⟨⟨j + 1, by omega, by first | (have := HU.out; go_num) | (rw [HU.out]; go_num), by rw [E1.out], by rw [E2.out], HBJ.out⟩, by have := HU.out; simp [intOf]; omega⟩
                  · obtain rfl : j = 5 := by omega
                    have hu2 : ¬ uu ≤ (x : Int) + 2 := by have := HU.out; omega
                    go_wp2_with fail
                    refine ⟨⟨k + 1, by omega, by first | (have := HV.out; go_num) | (rw [HV.out]; go_num), by rw [tS, HTS.out, HRS0.out], by rw [tC, HTC.out, HRC0.out], HBJ.out⟩, by have := HV.out; simp [intOf]; omega⟩
              · obtain rfl : k = 5 := by omega
                have hv2 : ¬ vv ≤ (y : Int) + 2 := by have := HV.out; omega
                obtain ⟨mx, hmi, hmx⟩ : ∃ mx, (if tc < 1 then 1 else tc) = mx ∧ max tc 1 = mx := ⟨max tc 1, by split <;> omega, rfl⟩
                have HMX := Lib.hid hmx
                have hmx1 : 1 ≤ mx := by omega
                have hmx0 : mx ≠ 0 := by omega
                have q0 : 0 ≤ ts / mx := Int.ediv_nonneg (by omega) (by omega)
                have q1 : ts / mx ≤ ts := Int.ediv_le_self _ (by omega)
                have t2 : ts.tdiv mx = ts / mx := Int.tdiv_eq_ediv_of_nonneg (by omega)
                have t3 : IntKind.i64.wrap (ts / mx) = ts / mx := IntWalk.i64_in _ (by omega)
                have HB3 := Lib.hid (HBK.out.mono (show w.heap.size + 3 ≤ wp.heap.size by omega))
                have f32w := froz_b HB3.out f32 (by simp; try omega)
                have M32 : ∀ w', Below (w.heap.size+3) wr w' → w'.cell? ⟨w.heap.size+1+1, 2, none⟩ = some (.slice oa (y*W+x) oc) := fun w' h => L32 _ (HB3.out.trans h)
                clear L00 L01 L02 L32
                go_wp2_with fail
                refine wp_region_tl (Below (w.heap.size+3) wr) [0,0,0,0,0,0,1,1,0,2] (by kernel_rfl) (by kernel_rfl) (Below.refl _ _).drew ?_
                simp only [marked, List.headD_cons, List.tail_cons, beq_self_eq_true, Nat.reduceBEq]
                (apply tl_rob (by rfl); (case hv => (intro w' hS; conv => lhs; simp [go_sem, *])); simp only [Act.put, List.setIfInBounds_toArray, List.set_cons_succ, List.set_cons_zero])
                (apply tl_rob (by rfl); (case hv => (intro w' hS; conv => lhs; simp [go_sem, *])); simp only [Act.put, List.setIfInBounds_toArray, List.set_cons_succ, List.set_cons_zero])
                (apply tl_rob (by rfl); (case hv => (intro w' hS; conv => lhs; simp [go_sem, *])); simp only [Act.put, List.setIfInBounds_toArray, List.set_cons_succ, List.set_cons_zero])
                (apply tl_rob (by rfl); (case hv => (intro w' hS; conv => lhs; simp [go_sem, *])); simp only [Act.put, List.setIfInBounds_toArray, List.set_cons_succ, List.set_cons_zero])
                (apply tl_rob (by rfl); (case hv => (intro w' hS; conv => lhs; simp [go_sem, *])); simp only [Act.put, List.setIfInBounds_toArray, List.set_cons_succ, List.set_cons_zero])
                (apply tl_rob (by rfl); (case hv => (intro w' hS; conv => lhs; simp [go_sem, *])); simp only [Act.put, List.setIfInBounds_toArray, List.set_cons_succ, List.set_cons_zero])
                (apply tl_act (by rfl); intro K hK)
                have hB := (Below.refl (w.heap.size+3) wr).drew
                go_simp
                refine hK _ _ (fun _ => hB.alloc (by have := hB.size; omega) _) ?_
                clear hK K
                (apply tl_act (by rfl); intro K hK)
                refine wp_push wr.drew _ _ _ (by rfl) (w.heap.size+3) 3 i0 _ 1 8 Try.underlying22 hi hz0 hz1 hz2 rfl (by omega) oa (y*W+x) oc _ (by rfl) (by exact own_below HO.out HBK.out.drew (Nat.le_refl _)) #[.int .i64 (ts / mx)] (by rfl) (by rfl) (by rfl) (by simp [Value.oneCell']) (by unfold maxLen; omega) (by omega) (by have := hB.size; omega) ?_
                intro g cap w3 hown2 hb2
                have hB2 := hB.trans hb2
                refine hK _ _ (fun _ => hB2) ?_
                clear hK K
                simp only [Act.put, List.setIfInBounds_toArray, List.set_cons_succ, List.set_cons_zero]
                (apply tl_rob (by rfl); (case hv => (intro w' hS; conv => lhs; simp [go_sem, *])); simp only [Act.put, List.setIfInBounds_toArray, List.set_cons_succ, List.set_cons_zero])
                (apply tl_act (by rfl); intro K hK)
                have c32' := M32 _ hB2
                have f32' := froz_b hB2 f32w (by simp; try omega)
                go_simp
                refine hK _ _ (fun h => by cases h) ?_
                clear hK K
                refine tl_nil ?_
                have hT := HB3.out.trans hB2
                go_wp2
                refine ⟨⟨x+1, _, _, by omega, by go_num, (K0.out.below hT (by omega)).far (by simp <;> omega) _, (K2.out.below hT (by omega)).far (by simp <;> omega) _, (K3.out.below hT (by omega)).set_ _ _ rfl, ?_, ?_⟩, by simp [intOf]; omega⟩
                · have hv : repairL W H l xs (y*W+x) = ts / mx := by
                    rw [HLAW.out, repair_law W H l xs x y HA.out sv HZ.out, HTS.out, HTC.out, HMX.out]
                  have hown3 := hown2
                  rw [show (#[Value.int .i64 (ts / mx)] : Array Value).toList = [.int .i64 (ts / mx)] from rfl, VI_snoc hv] at hown3
                  exact ownsRow_setCell_below hown3 (by simp <;> omega) _
                · exact (hbel0.out.trans (hT.mono (by omega))).setCell (by simp <;> omega) _
        · obtain rfl : x = W := by omega
          go_wp2
          refine ⟨⟨y+1, oa, oc, by omega, by go_num, k0, k2, ?_, ?_, hbel⟩, by simp [intOf]; omega⟩
          · rw [Nat.succ_mul]; exact k3
          · rw [Nat.succ_mul]; exact hown
    · obtain ⟨c30, c31, c32⟩ := k3.c3
      obtain ⟨c20, c21, c22⟩ := k2.c3
      obtain ⟨f20, f21, f22⟩ := k2.f3
      obtain rfl : y = H := by omega
      have hsz := k3.lt
      have KK := Lib.hid (show n = W * y from HL.out)
      clear HL
      go_wp2
      refine bodyPost_ret (results_cell_row rfl _ _ (w.heap.size+1) 24 _ (0,0) _ (by rfl) (((k2.set_ 0 _ rfl).set_ 1 _ rfl).set_ 2 _ rfl) Try.underlying24 rfl (by kernel_rfl)) rfl ?_
      obtain rfl := KK.out
      refine ⟨oa, oc, ?_, ?_, ?_⟩
      · rw [Nat.mul_comm W y]; rfl
      · have := RI_own (ownsRow_setCell_below (ownsRow_setCell_below (ownsRow_setCell_below hown (a := ⟨w.heap.size+1, 0, none⟩) (by simp <;> omega) (.int .i64 W)) (a := ⟨w.heap.size+1, 1, none⟩) (by simp <;> omega) (.int .i64 y)) (a := ⟨w.heap.size+1, 2, none⟩) (by simp <;> omega) (.slice oa (y*W) oc)) w.heap.size (by omega)
        rw [Nat.mul_comm W y]
        exact this
      · exact ((hbel.setCell (by simp <;> omega) _).setCell (by simp <;> omega) _).setCell (by simp <;> omega) _
end Go.Proofs.Ytpmnfhifmmfglaa
