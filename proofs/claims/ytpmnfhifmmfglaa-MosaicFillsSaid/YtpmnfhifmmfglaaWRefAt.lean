/- Printed by a program (walk.py): the walks of darkslideref_At: each function computes what its plain program tells. -/
import Derived.Test.YtpmnfhifmmfglaaFacts
import Derived.Test.YtpmnfhifmmfglaaDD
set_option linter.unusedVariables false
set_option linter.unusedSimpArgs false
set_option linter.unusedSectionVars false
namespace Go.Proofs.Ytpmnfhifmmfglaa
open Go.RowKit

set_option maxRecDepth 100000 in
set_option maxHeartbeats 4000000 in
theorem W_darkslideref_At (N : Nat) (p_W : Int) (p_H : Int) (p_P : List Int) (A_p_P : Option Addr) (c_p_P : Nat) (x2 : Int) (y : Int) (w0 : World) (R_p_P : SL w0 (cI .i64) A_p_P p_P) (C_p_P : p_P.length ≤ c_p_P) (r : Int) (h : D_darkslideref_At N p_W p_H p_P x2 y = some r) :
    Calls Try.prog 60 #[.agg #[.int .i64 p_W, .int .i64 p_H, .slice A_p_P p_P.length c_p_P], .int .i64 x2, .int .i64 y] w0 fun e w' => ∃ v, e = .returned v ∧ v = .int .i64 r ∧ Mem w0.heap.size w0 w' [] := by
  refine X_enter Try.func60 rfl Try.ntmps60 rfl ?_
  intro a K
  have M := Mem.start w0
  have K : Kn a 17 [(0, .agg #[.int .i64 p_W, .int .i64 p_H, .slice A_p_P p_P.length c_p_P]), (1, .int .i64 x2), (2, .int .i64 y)] := K
  unfold D_darkslideref_At at h
  refine wp_seq ?_
  refine X_reg ?_
  refine X_ac K (want_no rfl) rfl rfl (ac_box rfl K rfl (cs := [.int .i64 p_W, .int .i64 p_H, .slice A_p_P p_P.length c_p_P]) rfl M) ?_
  have M0 := M; clear K M; rintro _ a w ⟨g_p, rfl, M⟩ K
  clear M0
  refine X_rd K (want_no rfl) rfl rfl (rd_assign rfl K rfl) M ?_; clear K; intro a K
  refine wpList_nil ?_
  refine then_n ?_
  refine wp_seq ?_
  refine X_reg ?_
  refine X_rd K (want_no rfl) rfl rfl (rd_field rfl fld24_2 K rfl) M ?_; clear K; intro a K
  refine X_rd K (want_no rfl) rfl rfl (rd_ldC rfl sc22 K rfl (inM 0 rfl) rfl) M ?_; clear K; intro a K
  refine X_rd K (want_no rfl) rfl rfl (rd_move rfl K rfl) M ?_; clear K; intro a K
  refine X_rd K (want_no rfl) rfl rfl (rd_field rfl fld24_0 K rfl) M ?_; clear K; intro a K
  refine X_rd K (want_no rfl) rfl rfl (rd_ldC rfl sc3 K rfl (inM 0 rfl) rfl) M ?_; clear K; intro a K
  refine X_rd K (want_no rfl) rfl rfl (rd_mul rfl K rfl rfl) M ?_; clear K; intro a K
  refine X_rd K (want_no rfl) rfl rfl (rd_move rfl K rfl) M ?_; clear K; intro a K
  refine X_rd K (want_no rfl) rfl rfl (rd_add rfl K rfl rfl) M ?_; clear K; intro a K
  obtain ⟨e, h_e, h⟩ := obind h
  refine X_rd K (want_no rfl) rfl rfl (rd_ix rfl sl22 K rfl rfl (inA R_p_P) h_e) M ?_; clear K; intro a K
  refine X_rd K (want_no rfl) rfl rfl (rd_elC rfl sc3 K rfl rfl (inA R_p_P) h_e rfl) M ?_; clear K; intro a K
  refine X_rd K (want_no rfl) rfl rfl (rd_assign rfl K rfl) M ?_; clear K; intro a K
  refine wpList_nil ?_
  refine then_n ?_
  refine wp_ret ?_
  cases h
  exact ret1 K rfl (res_tmp K rfl) ⟨_, rfl, rfl, ((M).pick [] (by decide))⟩

end Go.Proofs.Ytpmnfhifmmfglaa
