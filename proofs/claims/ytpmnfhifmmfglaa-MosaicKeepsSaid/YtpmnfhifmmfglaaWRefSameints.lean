/- Printed by a program (walk.py): the walks of darkslideref_SameInts: each function computes what its plain program tells. -/
import Derived.Test.YtpmnfhifmmfglaaFacts
import Derived.Test.YtpmnfhifmmfglaaDD
set_option linter.unusedVariables false
set_option linter.unusedSimpArgs false
set_option linter.unusedSectionVars false
namespace Go.Proofs.Ytpmnfhifmmfglaa
open Go.RowKit

set_option maxRecDepth 100000 in
set_option maxHeartbeats 4000000 in
theorem W_darkslideref_SameInts (N : Nat) (a2 : List Int) (A_a2 : Option Addr) (c_a2 : Nat) (b : List Int) (A_b : Option Addr) (c_b : Nat) (w0 : World) (R_a2 : SL w0 (cI .i64) A_a2 a2) (C_a2 : a2.length ≤ c_a2) (R_b : SL w0 (cI .i64) A_b b) (C_b : b.length ≤ c_b) (r : Bool) (h : D_darkslideref_SameInts N a2 b = some r) :
    Calls Try.prog 62 #[.slice A_a2 a2.length c_a2, .slice A_b b.length c_b] w0 fun e w' => ∃ v, e = .returned v ∧ v = .bool r ∧ Mem w0.heap.size w0 w' [] := by
  refine X_enter Try.func62 rfl Try.ntmps62 rfl ?_
  intro a K
  have M := Mem.start w0
  have K : Kn a 26 [(0, .slice A_a2 a2.length c_a2), (1, .slice A_b b.length c_b)] := K
  unfold D_darkslideref_SameInts at h
  refine wp_seq ?_
  refine X_reg ?_
  refine X_rd K (want_no rfl) rfl rfl (rd_assign rfl K rfl) M ?_; clear K; intro a K
  refine wpList_nil ?_
  refine then_n ?_
  refine wp_seq ?_
  refine wp_seq ?_
  refine X_reg ?_
  refine X_rd K (want_no rfl) rfl rfl (rd_move rfl K rfl) M ?_; clear K; intro a K
  refine X_rd K (want_no rfl) rfl rfl (rd_len rfl un22 K rfl) M ?_; clear K; intro a K
  refine X_rd K (want_no rfl) rfl rfl (rd_move rfl K rfl) M ?_; clear K; intro a K
  refine X_rd K (want_no rfl) rfl rfl (rd_len rfl un22 K rfl) M ?_; clear K; intro a K
  refine X_rd K (want_no rfl) rfl rfl (rd_neq rfl K rfl rfl) M ?_; clear K; intro a K
  refine wpList_nil ?_
  refine then_n ?_
  refine X_cond K rfl (fun hb => ?_) (fun hb => ?_)
  · have h := ctrue hb h
    refine wp_seq ?_
    refine X_reg ?_
    refine X_rd K (want_no rfl) rfl rfl (rd_assign rfl K rfl) M ?_; clear K; intro a K
    refine wpList_nil ?_
    refine then_n ?_
    refine wp_ret ?_
    refine then_r ?_
    cases h
    exact ret1 K rfl (res_tmp K rfl) ⟨_, rfl, rfl, ((M).pick [] (by decide))⟩
  · have h := cfalse hb h
    refine wp_skip ?_
    refine then_n ?_
    refine wp_seq ?_
    refine wp_seq ?_
    refine X_reg ?_
    refine X_rd K (want_no rfl) rfl rfl (rd_assign rfl K rfl) M ?_; clear K; intro a K
    refine wpList_nil ?_
    refine then_n ?_
    refine wp_block ?_
    refine X_lp (id := 0) (Rel := fun (i : Int) a w => Kn a 26 [(0, .slice A_a2 a2.length c_a2), (1, .slice A_b b.length c_b), (5, .int .i64 i)] ∧ Mem w0.heap.size w0 w []) h (fun _ _ => rfl) ⟨K.pick [0,1,5], M.pick [] (by decide)⟩ ?_ ?_
    · clear K M h
      rintro i4 a w ⟨K, M⟩ h
      try dsimp only at h
      refine inb_e ?_
      refine then_n ?_
      refine wp_seq ?_
      refine X_reg ?_
      refine X_rd K (want_no rfl) rfl rfl (rd_assign rfl K rfl) M ?_; clear K; intro a K
      refine wpList_nil ?_
      refine then_n ?_
      refine wp_ret ?_
      cases h
      exact ret1 K rfl (res_tmp K rfl) ⟨_, rfl, rfl, ((M).pick [] (by decide))⟩
    · clear K M h
      rintro kk fuel i a w hk1 ⟨K, M⟩ h
      unfold D_darkslideref_SameInts_l1 at h
      refine wp_seq ?_
      refine wp_seq ?_
      refine X_reg ?_
      refine X_rd K (want_no rfl) rfl rfl (rd_move rfl K rfl) M ?_; clear K; intro a K
      refine X_rd K (want_no rfl) rfl rfl (rd_move rfl K rfl) M ?_; clear K; intro a K
      refine X_rd K (want_no rfl) rfl rfl (rd_len rfl un22 K rfl) M ?_; clear K; intro a K
      refine X_rd K (want_no rfl) rfl rfl (rd_lss rfl K rfl rfl) M ?_; clear K; intro a K
      refine wpList_nil ?_
      refine then_n ?_
      refine X_cond K rfl (fun hb => ?_) (fun hb => ?_)
      · have h := ctrue hb h
        refine wp_skip ?_
        refine then_n ?_
        refine wp_seq ?_
        refine wp_block ?_
        refine wp_seq ?_
        refine wp_region_tl (fun w => Mem _ _ w _) [0,0,0,0,0,0,0,0,0] (by kernel_rfl) (by kernel_rfl) M.drew ?_
        replace M := M.drew
        refine T_rd K (want_no rfl) rfl rfl (rd_move rfl K rfl) ?_; clear K; intro a K
        refine T_rd K (want_no rfl) rfl rfl (rd_move rfl K rfl) ?_; clear K; intro a K
        obtain ⟨e3, h_e3, h⟩ := obind h
        refine T_rd K (want_no rfl) rfl rfl (rd_ix rfl sl22 K rfl rfl (inA R_a2) h_e3) ?_; clear K; intro a K
        refine T_rd K (want_no rfl) rfl rfl (rd_elC rfl sc3 K rfl rfl (inA R_a2) h_e3 rfl) ?_; clear K; intro a K
        refine T_rd K (want_no rfl) rfl rfl (rd_move rfl K rfl) ?_; clear K; intro a K
        refine T_rd K (want_no rfl) rfl rfl (rd_move rfl K rfl) ?_; clear K; intro a K
        obtain ⟨e4, h_e4, h⟩ := obind h
        refine T_rd K (want_no rfl) rfl rfl (rd_ix rfl sl22 K rfl rfl (inA R_b) h_e4) ?_; clear K; intro a K
        refine T_rd K (want_no rfl) rfl rfl (rd_elC rfl sc3 K rfl rfl (inA R_b) h_e4 rfl) ?_; clear K; intro a K
        refine T_rd K (want_no rfl) rfl rfl (rd_neq rfl K rfl rfl) ?_; clear K; intro a K
        refine T_end ?_
        refine then_n ?_
        refine X_cond K rfl (fun hb => ?_) (fun hb => ?_)
        · have h := ctrue hb h
          refine wp_seq ?_
          refine X_reg ?_
          refine X_rd K (want_no rfl) rfl rfl (rd_assign rfl K rfl) M ?_; clear K; intro a K
          refine wpList_nil ?_
          refine then_n ?_
          refine wp_ret ?_
          refine inb_r ?_
          refine then_r ?_
          refine then_r ?_
          refine inb_r ?_
          refine then_r ?_
          cases h
          exact ret1 K rfl (res_tmp K rfl) ⟨_, rfl, rfl, ((M).pick [] (by decide))⟩
        · have h := cfalse hb h
          refine wp_skip ?_
          refine inb_n ?_
          refine then_n ?_
          refine X_reg ?_
          refine X_rd K (want_no rfl) rfl rfl (rd_move rfl K rfl) M ?_; clear K; intro a K
          refine X_rd K (want_no rfl) rfl rfl (rd_add rfl K rfl rfl) M ?_; clear K; intro a K
          obtain ⟨i3, hx, h⟩ := olet h
          refine X_rd K (want_no rfl) rfl rfl (rdi hx (rd_assign rfl K rfl)) M ?_; clear K; intro a K
          refine wpList_nil ?_
          exact then_n ⟨i3, ⟨K.pick [0,1,5], M.pick [] (by decide)⟩, h⟩
      · have h := cfalse hb h
        refine wp_exit ?_
        refine then_e ?_
        exact then_e (hk1 i _ _ ⟨K.pick [0,1,5], M.pick [] (by decide)⟩ h)

end Go.Proofs.Ytpmnfhifmmfglaa
