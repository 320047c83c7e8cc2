/- Printed by a program (walk.py): the walks of darkslidelaw_line2: each function computes what its plain program tells. -/
import Derived.Test.YtpmnfhifmmfglabFacts
import Derived.Test.YtpmnfhifmmfglabDD
set_option linter.unusedVariables false
set_option linter.unusedSimpArgs false
set_option linter.unusedSectionVars false
namespace Go.Proofs.Ytpmnfhifmmfglab
open Go.RowKit

set_option maxRecDepth 100000 in
set_option maxHeartbeats 4000000 in
theorem W_darkslidelaw_line2 (N : Nat)  (w0 : World)  (r : List (Int × Int)) (h : D_darkslidelaw_line2 N  = some r) :
    Calls Try.prog 38 #[] w0 fun e w' => ∃ v, e = .returned v ∧ ∃ A0 c0, v = .slice A0 r.length c0 ∧ Mem w0.heap.size w0 w' [.row 70 2 A0 r.length c0 (cII.all r)] := by
  refine X_enter Try.func38 rfl Try.ntmps38 rfl ?_
  intro a K
  have M := Mem.start w0
  have K : Kn a 4 [] := K
  unfold D_darkslidelaw_line2 at h
  refine wp_seq ?_
  refine X_reg ?_
  refine X_rd K (want_no rfl) rfl rfl (rd_assign rfl K rfl) M ?_; clear K; intro a K
  refine wpList_nil ?_
  refine then_n ?_
  refine wp_seq ?_
  refine X_reg ?_
  refine X_rd K (want_no rfl) rfl rfl (rd_build rfl K (vs := []) (cs := [.int .i64 0, .int .i64 0]) rfl (by kernel_rfl)) M ?_; clear K; intro a K
  refine X_rd K (want_no rfl) rfl rfl (rd_build rfl K (vs := [(0, .int .i64 65535), (1, .int .i64 65535)]) (cs := [.int .i64 65535, .int .i64 65535]) rfl (by kernel_rfl)) M ?_; clear K; intro a K
  refine X_ac K (want_no rfl) rfl rfl (ac_bslice rfl sl40 z70 K (vs := [(0, .agg #[.int .i64 0, .int .i64 0]), (1, .agg #[.int .i64 65535, .int .i64 65535])]) (cs := [.int .i64 0, .int .i64 0, .int .i64 65535, .int .i64 65535]) rfl (by kernel_rfl) rfl rfl M) ?_
  have M0 := M; clear K M; rintro _ a w ⟨gs, rfl, M⟩ K
  replace M := M.asRow 0 rfl cII ([(0, 0), (65535, 65535)] : List (Int × Int)) (n := 2) rfl rfl rfl
  clear M0
  refine X_rd K (want_no rfl) rfl rfl (rd_assign rfl K rfl) M ?_; clear K; intro a K
  refine wpList_nil ?_
  refine then_n ?_
  refine wp_ret ?_
  cases h
  exact ret1 K rfl (res_tmp K rfl) ⟨_, rfl, _, _, rfl, ((M).pick [0] (by decide))⟩

end Go.Proofs.Ytpmnfhifmmfglab
