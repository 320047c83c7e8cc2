/- The places around one: the iterator of mosaic.around, its contract. Conditions: the three captured boxes lie as they lay. -/
import Derived.Test.YtpmnfhifmmfglaaRows
import Derived.Test.YtpmnfhifmmfglaaLib
import Derived.Test.YtpmnfhifmmfglaaDPix
import Derived.RangeFuncFrom
import Derived.RangeFuncNested
import Derived.RangeFuncBound
import Derived.RangeFuncCalls
import Derived.RangeFuncLeaves
import Derived.Shelf.Abstract
import Derived.Shelf.RegionOpen
import Derived.WalkKit
import Derived.OwnWalkIn
import Derived.TacticsInMore
import Derived.LoopNIn
import Derived.LoopIn
set_option linter.unusedVariables false
set_option linter.unusedSimpArgs false
set_option linter.unusedSectionVars false
namespace Go.Proofs.Ytpmnfhifmmfglaa
open Go.RowKit Go.Shelf
attribute [local go_sem] Oper.semAt_some

abbrev encP (W H : Int) (q : InP W H) : Array Value := #[.int .i64 q.1.1, .int .i64 q.1.2]
def keepB (L : List Nat) (A B : World) : Prop := ∀ k ∈ L, k < A.heap.size → B.heap[k]? = A.heap[k]?

set_option maxRecDepth 100000 in
set_option maxHeartbeats 4000000 in
theorem around1_stops (n : Nat) (hn : 1 ≤ n) (W H x y : Int) (A : Option Addr) (m c : Nat) (gp gx gy : Nat) (hW : W ≤ 64) (hH : H ≤ 64) (hx : 0 ≤ x ∧ x < W) (hy : 0 ≤ y ∧ y < H) (w : World)
    (bp : Blk w gp 24 #[.int .i64 W, .int .i64 H, .slice A m c]) (bx : Blk w gx 3 #[.int .i64 x]) (by_ : Blk w gy 3 #[.int .i64 y]) :
    SeqStopsK Fence.wide n Try.prog 96 #[.pointer (some ⟨gy, 0, none⟩), .pointer (some ⟨gp, 0, none⟩), .pointer (some ⟨gx, 0, none⟩)] (encP W H) (keepB [gp, gx, gy])
      (fun xs => xs.map (·.1) = aroundL W H x y) (fun _ => True) (aroundL W H x y).length w := fun l J Jx W0 hb0 hJ hJx hY h0 => by
  have bp0 : Blk W0 gp 24 #[.int .i64 W, .int .i64 H, .slice A m c] := bp.below hb0 bp.lt
  have bx0 : Blk W0 gx 3 #[.int .i64 x] := bx.below hb0 bx.lt
  have by0 : Blk W0 gy 3 #[.int .i64 y] := by_.below hb0 by_.lt
  refine callsIn_of_wp Try.func96 rfl trivial ?_ rfl
  simp only [Try.ntmps96, List.size_toArray, List.length_cons, List.length_nil, Nat.reduceAdd, Nat.reduceSub, Array.replicate_succ, Array.replicate_zero, List.push_toArray, List.append_toArray, List.nil_append, List.cons_append]
  have cy0 : W0.cell? ⟨gy, 0, none⟩ = some (.int .i64 y) := by0.c1.1
  have m1 : IntKind.i64.wrap (y - 1) = y - 1 := IntWalk.i64_in _ (by omega)
  have m2 : IntKind.i64.wrap (x - 1) = x - 1 := IntWalk.i64_in _ (by omega)
  have m3 : IntKind.i64.wrap (y + 1) = y + 1 := IntWalk.i64_in _ (by omega)
  have m4 : IntKind.i64.wrap (x + 1) = x + 1 := IntWalk.i64_in _ (by omega)
  have hst : ∀ v : Int, v = max (y - 1) 0 → ∃ (pre : List (InP W H)) (k : Nat), pre.map (·.1) ++ arV W H x y k v = aroundL W H x y ∧ y + 1 - v < k ∧ 0 ≤ v ∧ v ≤ 64 ∧ J pre W0 := fun v hv => ⟨[], 4, by subst hv; rfl, by omega, by omega, by omega, h0⟩
  clear hb0 bp bx by_ h0
  gi_wp2
  all_goals
    gi_loopw [5] (fun a wr => ∃ (v : Int) (pre : List (InP W H)) (k : Nat), a = .int .i64 v ∧ pre.map (·.1) ++ arV W H x y k v = aroundL W H x y ∧ y + 1 - v < k ∧ 0 ≤ v ∧ v ≤ 64 ∧ J pre wr ∧
        Blk wr gp 24 #[.int .i64 W, .int .i64 H, .slice A m c] ∧ Blk wr gx 3 #[.int .i64 x] ∧ Blk wr gy 3 #[.int .i64 y]) (fun a _ => 70 - (intOf a).toNat)
    case atStart =>
      obtain ⟨pre, k, h1, h2, h3, h4, h5⟩ := hst _ rfl
      exact ⟨max (y - 1) 0, pre, k, congrArg (Value.int .i64) (by omega), h1, h2, h3, h4, h5, bp0, bx0, by0⟩
    case round =>
      obtain ⟨v, pre, k, rfl, h1, h2, h3, h4, hJs, bp1, bx1, by1⟩ := hrel
      have cy1 : wr.cell? ⟨gy, 0, none⟩ = some (.int .i64 y) := by1.c1.1
      have cx1 : wr.cell? ⟨gx, 0, none⟩ = some (.int .i64 x) := bx1.c1.1
      obtain ⟨cp0, cp1, cp2⟩ := bp1.c3
      have m5 : IntKind.i64.wrap (v + 1) = v + 1 := IntWalk.i64_in _ (by omega)
      by_cases hv : v ≤ y + 1 ∧ v < H
      · obtain ⟨k, rfl⟩ : ∃ q, k = q + 1 := ⟨k - 1, by omega⟩
        rw [arV, if_pos hv] at h1
        obtain ⟨hv1, hv2⟩ := hv
        have hst2 : ∃ (pre2 : List (InP W H)) (j : Nat), pre2.map (·.1) ++ (arU W x y v j (max (x - 1) 0) ++ arV W H x y k (v + 1)) = aroundL W H x y ∧ x + 1 - max (x - 1) 0 < j ∧ J pre2 wr := ⟨pre, 4, h1, by omega, hJs⟩
        clear h1 hJs hst cy0 bp0 bx0 by0
        gi_wp2
        all_goals
          gi_loopw [6] (fun b wr2 => ∃ (u : Int) (pre2 : List (InP W H)) (j : Nat), b = .int .i64 u ∧ pre2.map (·.1) ++ (arU W x y v j u ++ arV W H x y k (v + 1)) = aroundL W H x y ∧ x + 1 - u < j ∧ 0 ≤ u ∧ u ≤ 64 ∧ J pre2 wr2 ∧
              Blk wr2 gp 24 #[.int .i64 W, .int .i64 H, .slice A m c] ∧ Blk wr2 gx 3 #[.int .i64 x] ∧ Blk wr2 gy 3 #[.int .i64 y]) (fun b _ => 70 - (intOf b).toNat)
          case atStart =>
            obtain ⟨pre2, j, h5, h6, h7⟩ := hst2
            exact ⟨max (x - 1) 0, pre2, j, congrArg (Value.int .i64) (by omega), h5, h6, by omega, by omega, h7, bp1, bx1, by1⟩
          case round =>
            clear hst2 cy1 cx1 cp0 cp1 cp2 bp1 bx1 by1
            obtain ⟨u, pre2, j, rfl, h5, h6, h7, h8, hJ2, bp2, bx2, by2⟩ := hrel
            have cy2 := by2.c1.1
            have cx2 := bx2.c1.1
            obtain ⟨cp0, cp1, cp2⟩ := bp2.c3
            have m6 : IntKind.i64.wrap (u + 1) = u + 1 := IntWalk.i64_in _ (by omega)
            by_cases hu : u ≤ x + 1 ∧ u < W
            · obtain ⟨j, rfl⟩ : ∃ q, j = q + 1 := ⟨j - 1, by omega⟩
              rw [arU, if_pos hu] at h5
              obtain ⟨hu1, hu2⟩ := hu
              by_cases hne : u ≠ x ∨ v ≠ y
              · rw [if_pos hne] at h5
                have hlen : pre2.length < (aroundL W H x y).length := by rw [← h5]; simp
                obtain ⟨fn, tmps, assign, body, hyl, hR⟩ := hY pre2 ⟨(u, v), h7, hu2, h3, hv2⟩ _ hJ2 hlen
                dsimp only [encP] at hyl
                have h5' : (pre2 ++ [(⟨(u, v), h7, hu2, h3, hv2⟩ : InP W H)]).map (·.1) ++ (arU W x y v j (u + 1) ++ arV W H x y k (v + 1)) = aroundL W H x y := by rw [← h5]; simp
                clear h5 hJ2
                by_cases hux : u = x
                · have hvy : ¬ v = y := by omega
                  subst hux
                  gi_wp2
                  all_goals
                    refine hR.mono ?_
                    rintro e W3 (⟨rfl, hJ3, hk3⟩ | ⟨rfl, hJx3⟩)
                    · have bp3 : Blk W3 gp 24 _ := (hk3 gp (by simp) bp2.lt).trans bp2
                      have bx3 : Blk W3 gx 3 _ := (hk3 gx (by simp) bx2.lt).trans bx2
                      have by3 : Blk W3 gy 3 _ := (hk3 gy (by simp) by2.lt).trans by2
                      clear cy2 cx2 cp0 cp1 cp2 bp2 bx2 by2 hk3
                      gi_wp2
                      refine ⟨⟨_, _, j, rfl, h5', by omega, by omega, by omega, hJ3, bp3, bx3, by3⟩, by simp [intOf]; omega⟩
                    · gi_wp2
                      refine bodyPost_ret (results_none rfl _ _ _) rfl ?_
                      exact ⟨⟨_, rfl⟩, .inr ⟨_, trivial, hJx3⟩⟩
                · gi_wp2
                  all_goals
                    refine hR.mono ?_
                    rintro e W3 (⟨rfl, hJ3, hk3⟩ | ⟨rfl, hJx3⟩)
                    · have bp3 : Blk W3 gp 24 _ := (hk3 gp (by simp) bp2.lt).trans bp2
                      have bx3 : Blk W3 gx 3 _ := (hk3 gx (by simp) bx2.lt).trans bx2
                      have by3 : Blk W3 gy 3 _ := (hk3 gy (by simp) by2.lt).trans by2
                      clear cy2 cx2 cp0 cp1 cp2 bp2 bx2 by2 hk3
                      gi_wp2
                      refine ⟨⟨_, _, j, rfl, h5', by omega, by omega, by omega, hJ3, bp3, bx3, by3⟩, by simp [intOf]; omega⟩
                    · gi_wp2
                      refine bodyPost_ret (results_none rfl _ _ _) rfl ?_
                      exact ⟨⟨_, rfl⟩, .inr ⟨_, trivial, hJx3⟩⟩
              · rw [if_neg hne] at h5
                obtain ⟨rfl, rfl⟩ : u = x ∧ v = y := by omega
                gi_wp2
                all_goals
                  refine ⟨fun _ h => (by cases h), ?_⟩
                  gi_wp2
                  refine ⟨⟨_, pre2, j, rfl, h5, by omega, by omega, by omega, hJ2, bp2, bx2, by2⟩, by simp [intOf]; omega⟩
            · have hend : pre2.map (·.1) ++ arV W H x y k (v + 1) = aroundL W H x y := by
                cases j with
                | zero => simpa [arU] using h5
                | succ j => rw [arU, if_neg hu] at h5; simpa using h5
              clear h5
              gi_wp2
              all_goals exact ⟨⟨_, pre2, k, rfl, hend, by omega, by omega, by omega, hJ2, bp2, bx2, by2⟩, by simp [intOf]; omega⟩
      · have hend : pre.map (·.1) = aroundL W H x y := by
          cases k with
          | zero => simpa [arV] using h1
          | succ k => rw [arV, if_neg hv] at h1; simpa using h1
        clear h1
        gi_wp2
        all_goals
          go_end0
          exact ⟨⟨_, rfl⟩, .inl ⟨pre, hend, hJs⟩⟩
end Go.Proofs.Ytpmnfhifmmfglaa
