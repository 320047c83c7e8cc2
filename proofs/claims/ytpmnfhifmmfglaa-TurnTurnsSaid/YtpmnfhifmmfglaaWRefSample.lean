/- Printed by a program (walk.py): the walks of darkslideref_sample: each function computes what its plain program tells. -/
import Derived.Test.YtpmnfhifmmfglaaFacts
import Derived.Test.YtpmnfhifmmfglaaDD
set_option linter.unusedVariables false
set_option linter.unusedSimpArgs false
set_option linter.unusedSectionVars false
namespace Go.Proofs.Ytpmnfhifmmfglaa
open Go.RowKit

set_option maxRecDepth 100000 in
set_option maxHeartbeats 4000000 in
theorem W_darkslideref_sample (N : Nat)  (w0 : World)  (r : Int × Int × List (Int × Int × Int)) (h : D_darkslideref_sample N  = some r) :
    Calls Try.prog 76 #[] w0 fun e w' => ∃ v, e = .returned v ∧ ∃ A2 c2, v = .agg #[.int .i64 r.1, .int .i64 r.2.1, .slice A2 r.2.2.length c2] ∧ Mem w0.heap.size w0 w' [.row 73 3 A2 r.2.2.length c2 (cIII.all r.2.2)] := by
  refine X_enter Try.func76 rfl Try.ntmps76 rfl ?_
  intro a K
  have M := Mem.start w0
  have K : Kn a 9 [] := K
  unfold D_darkslideref_sample at h
  refine wp_seq ?_
  refine X_reg ?_
  refine X_ac K (want_no rfl) rfl rfl (ac_alloc rfl z49 M) ?_
  have M0 := M; clear K M; rintro _ a w ⟨g_x, rfl, M⟩ K
  clear M0
  refine wpList_nil ?_
  refine then_n ?_
  refine wp_seq ?_
  refine X_reg ?_
  refine X_rd K (want_no rfl) rfl rfl (rd_build rfl K (vs := [(0, .int .i64 1)]) (cs := [.int .i64 1, .int .i64 0, .int .i64 0]) rfl (by kernel_rfl)) M ?_; clear K; intro a K
  refine X_rd K (want_no rfl) rfl rfl (rd_build rfl K (vs := [(0, .int .i64 2)]) (cs := [.int .i64 2, .int .i64 0, .int .i64 0]) rfl (by kernel_rfl)) M ?_; clear K; intro a K
  refine X_rd K (want_no rfl) rfl rfl (rd_build rfl K (vs := [(0, .int .i64 3)]) (cs := [.int .i64 3, .int .i64 0, .int .i64 0]) rfl (by kernel_rfl)) M ?_; clear K; intro a K
  refine X_rd K (want_no rfl) rfl rfl (rd_build rfl K (vs := [(0, .int .i64 4)]) (cs := [.int .i64 4, .int .i64 0, .int .i64 0]) rfl (by kernel_rfl)) M ?_; clear K; intro a K
  refine X_rd K (want_no rfl) rfl rfl (rd_build rfl K (vs := [(0, .int .i64 5)]) (cs := [.int .i64 5, .int .i64 0, .int .i64 0]) rfl (by kernel_rfl)) M ?_; clear K; intro a K
  refine X_rd K (want_no rfl) rfl rfl (rd_build rfl K (vs := [(0, .int .i64 6)]) (cs := [.int .i64 6, .int .i64 0, .int .i64 0]) rfl (by kernel_rfl)) M ?_; clear K; intro a K
  refine X_ac K (want_no rfl) rfl rfl (ac_bslice rfl sl47 z73 K (vs := [(0, .agg #[.int .i64 1, .int .i64 0, .int .i64 0]), (1, .agg #[.int .i64 2, .int .i64 0, .int .i64 0]), (2, .agg #[.int .i64 3, .int .i64 0, .int .i64 0]), (3, .agg #[.int .i64 4, .int .i64 0, .int .i64 0]), (4, .agg #[.int .i64 5, .int .i64 0, .int .i64 0]), (5, .agg #[.int .i64 6, .int .i64 0, .int .i64 0])]) (cs := [.int .i64 1, .int .i64 0, .int .i64 0, .int .i64 2, .int .i64 0, .int .i64 0, .int .i64 3, .int .i64 0, .int .i64 0, .int .i64 4, .int .i64 0, .int .i64 0, .int .i64 5, .int .i64 0, .int .i64 0, .int .i64 6, .int .i64 0, .int .i64 0]) rfl (by kernel_rfl) rfl rfl M) ?_
  have M0 := M; clear K M; rintro _ a w ⟨gs, rfl, M⟩ K
  replace M := M.asRow 0 rfl cIII ([(1, 0, 0), (2, 0, 0), (3, 0, 0), (4, 0, 0), (5, 0, 0), (6, 0, 0)] : List (Int × Int × Int)) (n := 6) rfl rfl rfl
  clear M0
  refine X_rd K (want_no rfl) rfl rfl (rd_build rfl K (vs := [(0, .int .i64 2), (1, .int .i64 3), (2, .slice (some ⟨gs, 0, none⟩) (([(1, 0, 0), (2, 0, 0), (3, 0, 0), (4, 0, 0), (5, 0, 0), (6, 0, 0)] : List (Int × Int × Int))).length 6)]) (cs := [.int .i64 2, .int .i64 3, .slice (some ⟨gs, 0, none⟩) (([(1, 0, 0), (2, 0, 0), (3, 0, 0), (4, 0, 0), (5, 0, 0), (6, 0, 0)] : List (Int × Int × Int))).length 6]) rfl (by kernel_rfl)) M ?_; clear K; intro a K
  refine X_a0 K (want_no rfl) rfl (ac_storeA rfl ty49 K rfl (ds := [.int .i64 2, .int .i64 3, .slice (some ⟨gs, 0, none⟩) (([(1, 0, 0), (2, 0, 0), (3, 0, 0), (4, 0, 0), (5, 0, 0), (6, 0, 0)] : List (Int × Int × Int))).length 6]) rfl rfl 1 M rfl rfl rfl) ?_
  have M0 := M; clear K M; rintro _ a w M K
  clear M0
  refine wpList_nil ?_
  refine then_n ?_
  refine wp_ret ?_
  cases h
  exact ret1 K rfl (res_cellA K rfl ty49 (M.blkAt (i := 1) rfl) rfl) ⟨_, rfl, _, _, rfl, ((M).pick [0] (by decide))⟩

end Go.Proofs.Ytpmnfhifmmfglaa
