/- Printed by a program (walk.py): the walks of darkslideref_pixel: each function computes what its plain program tells. -/
import Derived.Test.YtpmnfhifmmfglaaFacts
import Derived.Test.YtpmnfhifmmfglaaDD
set_option linter.unusedVariables false
set_option linter.unusedSimpArgs false
set_option linter.unusedSectionVars false
namespace Go.Proofs.Ytpmnfhifmmfglaa
open Go.RowKit

set_option maxRecDepth 100000 in
set_option maxHeartbeats 4000000 in
theorem W_darkslideref_pixel (N : Nat) (l0 : Int) (l1 : Int) (l2 : Int) (w0 : World)  (r : Int × Int × Int) (h : D_darkslideref_pixel N l0 l1 l2 = some r) :
    Calls Try.prog 80 #[.agg #[.int .i64 l0, .int .i64 l1, .int .i64 l2]] w0 fun e w' => ∃ v, e = .returned v ∧ v = .agg #[.int .i64 r.1, .int .i64 r.2.1, .int .i64 r.2.2] ∧ Mem w0.heap.size w0 w' [] := by
  refine X_enter Try.func80 rfl Try.ntmps80 rfl ?_
  intro a K
  have M := Mem.start w0
  have K : Kn a 10 [(0, .agg #[.int .i64 l0, .int .i64 l1, .int .i64 l2])] := K
  unfold D_darkslideref_pixel at h
  refine wp_seq ?_
  refine X_reg ?_
  refine X_ac K (want_no rfl) rfl rfl (ac_box rfl K rfl (cs := [.int .i64 l0, .int .i64 l1, .int .i64 l2]) rfl M) ?_
  have M0 := M; clear K M; rintro _ a w ⟨g_l, rfl, M⟩ K
  clear M0
  refine X_ac K (want_no rfl) rfl rfl (ac_alloc rfl z73 M) ?_
  have M0 := M; clear K M; rintro _ a w ⟨g_x, rfl, M⟩ K
  clear M0
  refine wpList_nil ?_
  refine then_n ?_
  refine wp_seq ?_
  refine X_reg ?_
  refine X_rd K (want_no rfl) rfl rfl (rd_ixA rfl ar39 sz3 K rfl rfl (by decide) (by decide)) M ?_; clear K; intro a K
  refine X_rd K (want_no rfl) rfl rfl (rd_ldC rfl sc3 K rfl (inM 1 rfl) rfl) M ?_; clear K; intro a K
  refine X_rd K (want_no rfl) rfl rfl (rd_ixA rfl ar39 sz3 K rfl rfl (by decide) (by decide)) M ?_; clear K; intro a K
  refine X_rd K (want_no rfl) rfl rfl (rd_ldC rfl sc3 K rfl (inM 1 rfl) rfl) M ?_; clear K; intro a K
  refine X_rd K (want_no rfl) rfl rfl (rd_ixA rfl ar39 sz3 K rfl rfl (by decide) (by decide)) M ?_; clear K; intro a K
  refine X_rd K (want_no rfl) rfl rfl (rd_ldC rfl sc3 K rfl (inM 1 rfl) rfl) M ?_; clear K; intro a K
  refine X_rd K (want_no rfl) rfl rfl (rd_build rfl K (vs := [(0, .int .i64 l0), (1, .int .i64 l1), (2, .int .i64 l2)]) (cs := [.int .i64 l0, .int .i64 l1, .int .i64 l2]) rfl (by kernel_rfl)) M ?_; clear K; intro a K
  refine X_a0 K (want_no rfl) rfl (ac_storeA rfl ty73 K rfl (ds := [.int .i64 l0, .int .i64 l1, .int .i64 l2]) rfl rfl 0 M rfl rfl rfl) ?_
  have M0 := M; clear K M; rintro _ a w M K
  clear M0
  refine wpList_nil ?_
  refine then_n ?_
  refine wp_ret ?_
  cases h
  exact ret1 K rfl (res_cellA K rfl ty73 (M.blkAt (i := 0) rfl) rfl) ⟨_, rfl, rfl, ((M).pick [] (by decide))⟩

end Go.Proofs.Ytpmnfhifmmfglaa
