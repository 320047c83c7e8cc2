/- Printed by a program (walk.py): the walks of darkslideref_SamePictures: each function computes what its plain program tells. -/
import Derived.Test.YtpmnfhifmmfglaaFacts
import Derived.Test.YtpmnfhifmmfglaaDD
set_option linter.unusedVariables false
set_option linter.unusedSimpArgs false
set_option linter.unusedSectionVars false
namespace Go.Proofs.Ytpmnfhifmmfglaa
open Go.RowKit

set_option maxRecDepth 100000 in
set_option maxHeartbeats 4000000 in
theorem W_darkslideref_SamePictures (N : Nat) (a_W : Int) (a_H : Int) (a_P : List (Int × Int × Int)) (A_a_P : Option Addr) (c_a_P : Nat) (b_W : Int) (b_H : Int) (b_P : List (Int × Int × Int)) (A_b_P : Option Addr) (c_b_P : Nat) (w0 : World) (R_a_P : SL w0 cIII A_a_P a_P) (C_a_P : a_P.length ≤ c_a_P) (R_b_P : SL w0 cIII A_b_P b_P) (C_b_P : b_P.length ≤ c_b_P) (r : Bool) (h : D_darkslideref_SamePictures N a_W a_H a_P b_W b_H b_P = some r) :
    Calls Try.prog 31 #[.agg #[.int .i64 a_W, .int .i64 a_H, .slice A_a_P a_P.length c_a_P], .agg #[.int .i64 b_W, .int .i64 b_H, .slice A_b_P b_P.length c_b_P]] w0 fun e w' => ∃ v, e = .returned v ∧ v = .bool r ∧ Mem w0.heap.size w0 w' [] := by
  refine X_enter Try.func31 rfl Try.ntmps31 rfl ?_
  intro a K
  have M := Mem.start w0
  have K : Kn a 45 [(0, .agg #[.int .i64 a_W, .int .i64 a_H, .slice A_a_P a_P.length c_a_P]), (1, .agg #[.int .i64 b_W, .int .i64 b_H, .slice A_b_P b_P.length c_b_P])] := K
  unfold D_darkslideref_SamePictures at h
  refine wp_seq ?_
  refine X_reg ?_
  refine X_ac K (want_no rfl) rfl rfl (ac_box rfl K rfl (cs := [.int .i64 a_W, .int .i64 a_H, .slice A_a_P a_P.length c_a_P]) rfl M) ?_
  have M0 := M; clear K M; rintro _ a w ⟨g_a, rfl, M⟩ K
  clear M0
  refine X_ac K (want_no rfl) rfl rfl (ac_box rfl K rfl (cs := [.int .i64 b_W, .int .i64 b_H, .slice A_b_P b_P.length c_b_P]) rfl M) ?_
  have M0 := M; clear K M; rintro _ a w ⟨g_b, rfl, M⟩ K
  clear M0
  refine X_rd K (want_no rfl) rfl rfl (rd_assign rfl K rfl) M ?_; clear K; intro a K
  refine wpList_nil ?_
  refine then_n ?_
  refine wp_seq ?_
  refine wp_seq ?_
  refine X_reg ?_
  refine X_rd K (want_no rfl) rfl rfl (rd_field rfl fld49_0 K rfl) M ?_; clear K; intro a K
  refine X_rd K (want_no rfl) rfl rfl (rd_ldC rfl sc3 K rfl (inM 1 rfl) rfl) M ?_; clear K; intro a K
  refine X_rd K (want_no rfl) rfl rfl (rd_field rfl fld49_0 K rfl) M ?_; clear K; intro a K
  refine X_rd K (want_no rfl) rfl rfl (rd_ldC rfl sc3 K rfl (inM 0 rfl) rfl) M ?_; clear K; intro a K
  refine X_rd K (want_no rfl) rfl rfl (rd_neq rfl K rfl rfl) M ?_; clear K; intro a K
  refine X_rd K (want_no rfl) rfl rfl (rd_move rfl K rfl) M ?_; clear K; intro a K
  rcases Bool.eq_false_or_eq_true (!decide (a_W = b_W)) with hb | hb
  · have h := ctrue hb h
    have K := K.reb (s := 11) rfl hb
    refine X_no K (K.no rfl rfl rfl rfl) rfl rfl ?_; clear K; intro a K
    refine X_no K (K.no rfl rfl rfl rfl) rfl rfl ?_; clear K; intro a K
    refine X_no K (K.no rfl rfl rfl rfl) rfl rfl ?_; clear K; intro a K
    refine X_no K (K.no rfl rfl rfl rfl) rfl rfl ?_; clear K; intro a K
    refine X_no K (K.no rfl rfl rfl rfl) rfl rfl ?_; clear K; intro a K
    refine X_rd K (want_no rfl) rfl rfl (rd_pickT rfl K rfl rfl) M ?_; clear K; intro a K
    refine X_rd K (want_no rfl) rfl rfl (rd_move rfl K rfl) M ?_; clear K; intro a K
    refine X_no K (K.no rfl rfl rfl rfl) rfl rfl ?_; clear K; intro a K
    refine X_no K (K.no rfl rfl rfl rfl) rfl rfl ?_; clear K; intro a K
    refine X_no K (K.no rfl rfl rfl rfl) rfl rfl ?_; clear K; intro a K
    refine X_no K (K.no rfl rfl rfl rfl) rfl rfl ?_; clear K; intro a K
    refine X_no K (K.no rfl rfl rfl rfl) rfl rfl ?_; clear K; intro a K
    refine X_no K (K.no rfl rfl rfl rfl) rfl rfl ?_; clear K; intro a K
    refine X_no K (K.no rfl rfl rfl rfl) rfl rfl ?_; clear K; intro a K
    refine X_rd K (want_no rfl) rfl rfl (rd_pickT rfl K rfl rfl) M ?_; clear K; intro a K
    refine wpList_nil ?_
    refine then_n ?_
    refine X_condT K rfl ?_
    refine wp_seq ?_
    refine X_reg ?_
    refine X_rd K (want_no rfl) rfl rfl (rd_assign rfl K rfl) M ?_; clear K; intro a K
    refine wpList_nil ?_
    refine then_n ?_
    refine wp_ret ?_
    refine then_r ?_
    cases h
    exact ret1 K rfl (res_tmp K rfl) ⟨_, rfl, rfl, ((M).pick [] (by decide))⟩
  · have h := cfalse hb h
    have K := K.reb (s := 11) rfl hb
    refine X_rd K (K.yes rfl rfl rfl) rfl rfl (rd_field rfl fld49_1 K rfl) M ?_; clear K; intro a K
    refine X_rd K (K.yes rfl rfl rfl) rfl rfl (rd_ldC rfl sc3 K rfl (inM 1 rfl) rfl) M ?_; clear K; intro a K
    refine X_rd K (K.yes rfl rfl rfl) rfl rfl (rd_field rfl fld49_1 K rfl) M ?_; clear K; intro a K
    refine X_rd K (K.yes rfl rfl rfl) rfl rfl (rd_ldC rfl sc3 K rfl (inM 0 rfl) rfl) M ?_; clear K; intro a K
    refine X_rd K (K.yes rfl rfl rfl) rfl rfl (rd_neq rfl K rfl rfl) M ?_; clear K; intro a K
    refine X_rd K (want_no rfl) rfl rfl (rd_pickF rfl K rfl rfl) M ?_; clear K; intro a K
    refine X_rd K (want_no rfl) rfl rfl (rd_move rfl K rfl) M ?_; clear K; intro a K
    rcases Bool.eq_false_or_eq_true (!decide (a_H = b_H)) with hb | hb
    · have h := ctrue hb h
      have K := K.reb (s := 18) rfl hb
      refine X_no K (K.no rfl rfl rfl rfl) rfl rfl ?_; clear K; intro a K
      refine X_no K (K.no rfl rfl rfl rfl) rfl rfl ?_; clear K; intro a K
      refine X_no K (K.no rfl rfl rfl rfl) rfl rfl ?_; clear K; intro a K
      refine X_no K (K.no rfl rfl rfl rfl) rfl rfl ?_; clear K; intro a K
      refine X_no K (K.no rfl rfl rfl rfl) rfl rfl ?_; clear K; intro a K
      refine X_no K (K.no rfl rfl rfl rfl) rfl rfl ?_; clear K; intro a K
      refine X_no K (K.no rfl rfl rfl rfl) rfl rfl ?_; clear K; intro a K
      refine X_rd K (want_no rfl) rfl rfl (rd_pickT rfl K rfl rfl) M ?_; clear K; intro a K
      refine wpList_nil ?_
      refine then_n ?_
      refine X_condT K rfl ?_
      refine wp_seq ?_
      refine X_reg ?_
      refine X_rd K (want_no rfl) rfl rfl (rd_assign rfl K rfl) M ?_; clear K; intro a K
      refine wpList_nil ?_
      refine then_n ?_
      refine wp_ret ?_
      refine then_r ?_
      cases h
      exact ret1 K rfl (res_tmp K rfl) ⟨_, rfl, rfl, ((M).pick [] (by decide))⟩
    · have h := cfalse hb h
      have K := K.reb (s := 18) rfl hb
      refine X_rd K (K.yes rfl rfl rfl) rfl rfl (rd_field rfl fld49_2 K rfl) M ?_; clear K; intro a K
      refine X_rd K (K.yes rfl rfl rfl) rfl rfl (rd_ldC rfl sc47 K rfl (inM 1 rfl) rfl) M ?_; clear K; intro a K
      refine X_rd K (K.yes rfl rfl rfl) rfl rfl (rd_len rfl un47 K rfl) M ?_; clear K; intro a K
      refine X_rd K (K.yes rfl rfl rfl) rfl rfl (rd_field rfl fld49_2 K rfl) M ?_; clear K; intro a K
      refine X_rd K (K.yes rfl rfl rfl) rfl rfl (rd_ldC rfl sc47 K rfl (inM 0 rfl) rfl) M ?_; clear K; intro a K
      refine X_rd K (K.yes rfl rfl rfl) rfl rfl (rd_len rfl un47 K rfl) M ?_; clear K; intro a K
      refine X_rd K (K.yes rfl rfl rfl) rfl rfl (rd_neq rfl K rfl rfl) M ?_; clear K; intro a K
      refine X_rd K (want_no rfl) rfl rfl (rd_pickF rfl K rfl rfl) M ?_; clear K; intro a K
      refine wpList_nil ?_
      refine then_n ?_
      refine X_cond K rfl (fun hb => ?_) (fun hb => ?_)
      · have h := ctrue hb h
        refine wp_seq ?_
        refine X_reg ?_
        refine X_rd K (want_no rfl) rfl rfl (rd_assign rfl K rfl) M ?_; clear K; intro a K
        refine wpList_nil ?_
        refine then_n ?_
        refine wp_ret ?_
        refine then_r ?_
        cases h
        exact ret1 K rfl (res_tmp K rfl) ⟨_, rfl, rfl, ((M).pick [] (by decide))⟩
      · have h := cfalse hb h
        refine wp_skip ?_
        refine then_n ?_
        refine wp_seq ?_
        refine wp_seq ?_
        refine X_reg ?_
        refine X_rd K (want_no rfl) rfl rfl (rd_assign rfl K rfl) M ?_; clear K; intro a K
        refine wpList_nil ?_
        refine then_n ?_
        refine wp_block ?_
        refine X_lp (id := 0) (Rel := fun (i : Int) a w => Kn a 45 [(2, .pointer (some ⟨g_a, 0, none⟩)), (3, .pointer (some ⟨g_b, 0, none⟩)), (5, .int .i64 i)] ∧ Mem w0.heap.size w0 w [.blk g_b 49 [.int .i64 b_W, .int .i64 b_H, .slice A_b_P b_P.length c_b_P], .blk g_a 49 [.int .i64 a_W, .int .i64 a_H, .slice A_a_P a_P.length c_a_P]]) h (fun _ _ => rfl) ⟨K.pick [2,3,5], M.pick [0,1] (by decide)⟩ ?_ ?_
        · clear K M h
          rintro i4 a w ⟨K, M⟩ h
          try dsimp only at h
          refine inb_e ?_
          refine then_n ?_
          refine wp_seq ?_
          refine X_reg ?_
          refine X_rd K (want_no rfl) rfl rfl (rd_assign rfl K rfl) M ?_; clear K; intro a K
          refine wpList_nil ?_
          refine then_n ?_
          refine wp_ret ?_
          cases h
          exact ret1 K rfl (res_tmp K rfl) ⟨_, rfl, rfl, ((M).pick [] (by decide))⟩
        · clear K M h
          rintro kk fuel i a w hk1 ⟨K, M⟩ h
          unfold D_darkslideref_SamePictures_l1 at h
          refine wp_seq ?_
          refine wp_seq ?_
          refine X_reg ?_
          refine X_rd K (want_no rfl) rfl rfl (rd_move rfl K rfl) M ?_; clear K; intro a K
          refine X_rd K (want_no rfl) rfl rfl (rd_field rfl fld49_2 K rfl) M ?_; clear K; intro a K
          refine X_rd K (want_no rfl) rfl rfl (rd_ldC rfl sc47 K rfl (inM 1 rfl) rfl) M ?_; clear K; intro a K
          refine X_rd K (want_no rfl) rfl rfl (rd_len rfl un47 K rfl) M ?_; clear K; intro a K
          refine X_rd K (want_no rfl) rfl rfl (rd_lss rfl K rfl rfl) M ?_; clear K; intro a K
          refine wpList_nil ?_
          refine then_n ?_
          refine X_cond K rfl (fun hb => ?_) (fun hb => ?_)
          · have h := ctrue hb h
            refine wp_skip ?_
            refine then_n ?_
            refine wp_seq ?_
            refine wp_block ?_
            refine wp_seq ?_
            refine wp_region_tl (fun w => Mem _ _ w _) [0,0,0,0,0,0,0,0,0,0,0] (by kernel_rfl) (by kernel_rfl) M.drew ?_
            replace M := M.drew
            refine T_rd K (want_no rfl) rfl rfl (rd_field rfl fld49_2 K rfl) ?_; clear K; intro a K
            refine T_rd K (want_no rfl) rfl rfl (rd_ldC rfl sc47 K rfl (inM 1 rfl) rfl) ?_; clear K; intro a K
            refine T_rd K (want_no rfl) rfl rfl (rd_move rfl K rfl) ?_; clear K; intro a K
            obtain ⟨e3, h_e3, h⟩ := obind h
            refine T_rd K (want_no rfl) rfl rfl (rd_ix rfl sl47 K rfl rfl (inA R_a_P) h_e3) ?_; clear K; intro a K
            refine T_rd K (want_no rfl) rfl rfl (rd_elA rfl ty73 K rfl rfl rfl (inA R_a_P) h_e3) ?_; clear K; intro a K
            refine T_rd K (want_no rfl) rfl rfl (rd_field rfl fld49_2 K rfl) ?_; clear K; intro a K
            refine T_rd K (want_no rfl) rfl rfl (rd_ldC rfl sc47 K rfl (inM 0 rfl) rfl) ?_; clear K; intro a K
            refine T_rd K (want_no rfl) rfl rfl (rd_move rfl K rfl) ?_; clear K; intro a K
            obtain ⟨e4, h_e4, h⟩ := obind h
            refine T_rd K (want_no rfl) rfl rfl (rd_ix rfl sl47 K rfl rfl (inA R_b_P) h_e4) ?_; clear K; intro a K
            refine T_rd K (want_no rfl) rfl rfl (rd_elA rfl ty73 K rfl rfl rfl (inA R_b_P) h_e4) ?_; clear K; intro a K
            refine T_rd K (want_no rfl) rfl rfl (rd_aggN eg73 rfl K rfl rfl (eqr73 _ _ _ _ _ _)) ?_; clear K; intro a K
            refine T_end ?_
            refine then_n ?_
            refine X_cond K rfl (fun hb => ?_) (fun hb => ?_)
            · have h := ctrue hb h
              refine wp_seq ?_
              refine X_reg ?_
              refine X_rd K (want_no rfl) rfl rfl (rd_assign rfl K rfl) M ?_; clear K; intro a K
              refine wpList_nil ?_
              refine then_n ?_
              refine wp_ret ?_
              refine inb_r ?_
              refine then_r ?_
              refine then_r ?_
              refine inb_r ?_
              refine then_r ?_
              cases h
              exact ret1 K rfl (res_tmp K rfl) ⟨_, rfl, rfl, ((M).pick [] (by decide))⟩
            · have h := cfalse hb h
              refine wp_skip ?_
              refine inb_n ?_
              refine then_n ?_
              refine X_reg ?_
              refine X_rd K (want_no rfl) rfl rfl (rd_move rfl K rfl) M ?_; clear K; intro a K
              refine X_rd K (want_no rfl) rfl rfl (rd_add rfl K rfl rfl) M ?_; clear K; intro a K
              obtain ⟨i3, hx, h⟩ := olet h
              refine X_rd K (want_no rfl) rfl rfl (rdi hx (rd_assign rfl K rfl)) M ?_; clear K; intro a K
              refine wpList_nil ?_
              exact then_n ⟨i3, ⟨K.pick [2,3,5], M.pick [0,1] (by decide)⟩, h⟩
          · have h := cfalse hb h
            refine wp_exit ?_
            refine then_e ?_
            exact then_e (hk1 i _ _ ⟨K.pick [2,3,5], M.pick [0,1] (by decide)⟩ h)

end Go.Proofs.Ytpmnfhifmmfglaa
