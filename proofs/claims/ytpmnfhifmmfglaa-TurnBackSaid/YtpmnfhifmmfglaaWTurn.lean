/- Printed by a program (walk.py): the walks of turn_Cut, turn_moves, turn_swapped, turn_Turn_1, turn_changed__turn_Turn_1, turn_Turn_2, turn_changed__turn_Turn_2, turn_Turn_3, turn_changed__turn_Turn_3, turn_Turn, turn_after, turn_number, turn_Bot: each function computes what its plain program tells. -/
import Derived.Test.YtpmnfhifmmfglaaFacts
import Derived.Test.YtpmnfhifmmfglaaDD
import Derived.Test.YtpmnfhifmmfglaaWMosaic
set_option linter.unusedVariables false
set_option linter.unusedSimpArgs false
set_option linter.unusedSectionVars false
namespace Go.Proofs.Ytpmnfhifmmfglaa
open Go.RowKit

set_option maxRecDepth 100000 in
set_option maxHeartbeats 4000000 in
theorem W_turn_Cut (N : Nat) (d_W : Int) (d_H : Int) (d_P : List (Int × Int × Int)) (A_d_P : Option Addr) (c_d_P : Nat) (o_X : Int) (o_Y : Int) (o_W : Int) (o_H : Int) (w0 : World) (R_d_P : SL w0 cIII A_d_P d_P) (C_d_P : d_P.length ≤ c_d_P) (r : Int × Int × List (Int × Int × Int) × Int) (h : D_turn_Cut N d_W d_H d_P o_X o_Y o_W o_H = some r) :
    Calls Try.prog 27 #[.agg #[.int .i64 d_W, .int .i64 d_H, .slice A_d_P d_P.length c_d_P], .agg #[.int .i64 o_X, .int .i64 o_Y, .int .i64 o_W, .int .i64 o_H]] w0 fun e w' => ∃ v, e = .returned v ∧ ∃ A2 c2, v = .tuple #[.agg #[.int .i64 r.1, .int .i64 r.2.1, .slice A2 r.2.2.1.length c2], .int .i64 r.2.2.2] ∧ Mem w0.heap.size w0 w' [.row 73 3 A2 r.2.2.1.length c2 (cIII.all r.2.2.1)] := by
  refine X_enter Try.func27 rfl Try.ntmps27 rfl ?_
  intro a K
  have M := Mem.start w0
  have K : Kn a 107 [(0, .agg #[.int .i64 d_W, .int .i64 d_H, .slice A_d_P d_P.length c_d_P]), (1, .agg #[.int .i64 o_X, .int .i64 o_Y, .int .i64 o_W, .int .i64 o_H])] := K
  unfold D_turn_Cut at h
  refine wp_seq ?_
  refine X_reg ?_
  refine X_ac K (want_no rfl) rfl rfl (ac_box rfl K rfl (cs := [.int .i64 d_W, .int .i64 d_H, .slice A_d_P d_P.length c_d_P]) rfl M) ?_
  have M0 := M; clear K M; rintro _ a w ⟨g_x, rfl, M⟩ K
  clear M0
  refine X_ac K (want_no rfl) rfl rfl (ac_box rfl K rfl (cs := [.int .i64 o_X, .int .i64 o_Y, .int .i64 o_W, .int .i64 o_H]) rfl M) ?_
  have M0 := M; clear K M; rintro _ a w ⟨g_x2, rfl, M⟩ K
  clear M0
  refine X_ac K (want_no rfl) rfl rfl (ac_alloc rfl z49 M) ?_
  have M0 := M; clear K M; rintro _ a w ⟨g_x3, rfl, M⟩ K
  clear M0
  refine X_rd K (want_no rfl) rfl rfl (rd_assign rfl K rfl) M ?_; clear K; intro a K
  refine wpList_nil ?_
  refine then_n ?_
  refine wp_seq ?_
  refine wp_seq ?_
  refine X_reg ?_
  refine X_rd K (want_no rfl) rfl rfl (rd_ldA rfl ty49 K rfl (inM 2 rfl) rfl rfl) M ?_; clear K; intro a K
  obtain ⟨r2, h_r2, h⟩ := obind h
  refine X_ac K (want_no rfl) rfl rfl (ac_call (vs := [.agg #[.int .i64 d_W, .int .i64 d_H, .slice A_d_P d_P.length c_d_P], .int .i64 0]) (cap := []) rfl fok39 K rfl rfl (W_mosaic_Take N d_W d_H d_P A_d_P c_d_P 0 _ ((inA R_d_P) _ M) C_d_P r2 h_r2)) ?_
  have M0 := M; clear K M; rintro _ a w ⟨A, c, rfl, M⟩ K
  have M := M0.call M
  clear M0
  refine X_rd K (want_no rfl) rfl rfl (rd_move rfl K rfl) M ?_; clear K; intro a K
  refine X_rd K (want_no rfl) rfl rfl (rd_extract rfl K rfl rfl) M ?_; clear K; intro a K
  refine X_rd K (want_no rfl) rfl rfl (rd_extract rfl K rfl rfl) M ?_; clear K; intro a K
  refine X_ac K (want_no rfl) rfl rfl (ac_alloc rfl z24 M) ?_
  have M0 := M; clear K M; rintro _ a w ⟨g_x4, rfl, M⟩ K
  clear M0
  refine X_a0 K (want_no rfl) rfl (ac_storeA rfl ty24 K rfl (ds := [.int .i64 r2.1, .int .i64 r2.2.1, .slice A r2.2.2.1.length c]) rfl rfl 0 M rfl rfl rfl) ?_
  have M0 := M; clear K M; rintro _ a w M K
  clear M0
  refine X_rd K (want_no rfl) rfl rfl (rd_assign rfl K rfl) M ?_; clear K; intro a K
  refine wpList_nil ?_
  refine then_n ?_
  refine wp_seq ?_
  refine X_reg ?_
  refine X_rd K (want_no rfl) rfl rfl (rd_move rfl K rfl) M ?_; clear K; intro a K
  refine X_rd K (want_no rfl) rfl rfl (rd_neq rfl K rfl rfl) M ?_; clear K; intro a K
  refine wpList_nil ?_
  refine then_n ?_
  refine X_cond K rfl (fun hb => ?_) (fun hb => ?_)
  · have h := ctrue hb h
    refine wp_seq ?_
    refine X_reg ?_
    refine X_rd K (want_no rfl) rfl rfl (rd_build rfl K (vs := []) (cs := [.int .i64 0, .int .i64 0, .slice none (([] : List (Int × Int × Int))).length 0]) rfl (by kernel_rfl)) M ?_; clear K; intro a K
    refine X_rd K (want_no rfl) rfl rfl (rd_move rfl K rfl) M ?_; clear K; intro a K
    refine X_a0 K (want_no rfl) rfl (ac_storeA rfl ty49 K rfl (ds := [.int .i64 0, .int .i64 0, .slice none (([] : List (Int × Int × Int))).length 0]) rfl rfl 2 M rfl rfl rfl) ?_
    have M0 := M; clear K M; rintro _ a w M K
    clear M0
    refine X_rd K (want_no rfl) rfl rfl (rd_assign rfl K rfl) M ?_; clear K; intro a K
    refine wpList_nil ?_
    refine then_n ?_
    refine wp_ret ?_
    refine then_r ?_
    cases h
    exact ret2 K rfl (res_cellA K rfl ty49 (M.blkAt (i := 2) rfl) rfl) (res_tmp K rfl) ⟨_, rfl, _, _, rfl, (((Mem.nilrow 73 3 cIII M)).pick [0] (by decide))⟩
  · have h := cfalse hb h
    refine wp_skip ?_
    refine then_n ?_
    refine wp_seq ?_
    refine wp_seq ?_
    refine X_reg ?_
    refine X_rd K (want_no rfl) rfl rfl (rd_field rfl fld51_2 K rfl) M ?_; clear K; intro a K
    refine X_rd K (want_no rfl) rfl rfl (rd_ldC rfl sc3 K rfl (inM 3 rfl) rfl) M ?_; clear K; intro a K
    refine X_rd K (want_no rfl) rfl rfl (rd_lss rfl K rfl rfl) M ?_; clear K; intro a K
    refine X_rd K (want_no rfl) rfl rfl (rd_move rfl K rfl) M ?_; clear K; intro a K
    rcases Bool.eq_false_or_eq_true (decide (o_W < 1)) with hb | hb
    · have h := ctrue hb h
      have K := K.reb (s := 23) rfl hb
      refine X_no K (K.no rfl rfl rfl rfl) rfl rfl ?_; clear K; intro a K
      refine X_no K (K.no rfl rfl rfl rfl) rfl rfl ?_; clear K; intro a K
      refine X_no K (K.no rfl rfl rfl rfl) rfl rfl ?_; clear K; intro a K
      refine X_rd K (want_no rfl) rfl rfl (rd_pickT rfl K rfl rfl) M ?_; clear K; intro a K
      refine X_rd K (want_no rfl) rfl rfl (rd_move rfl K rfl) M ?_; clear K; intro a K
      refine X_no K (K.no rfl rfl rfl rfl) rfl rfl ?_; clear K; intro a K
      refine X_no K (K.no rfl rfl rfl rfl) rfl rfl ?_; clear K; intro a K
      refine X_no K (K.no rfl rfl rfl rfl) rfl rfl ?_; clear K; intro a K
      refine X_no K (K.no rfl rfl rfl rfl) rfl rfl ?_; clear K; intro a K
      refine X_no K (K.no rfl rfl rfl rfl) rfl rfl ?_; clear K; intro a K
      refine X_rd K (want_no rfl) rfl rfl (rd_pickT rfl K rfl rfl) M ?_; clear K; intro a K
      refine X_rd K (want_no rfl) rfl rfl (rd_move rfl K rfl) M ?_; clear K; intro a K
      refine X_no K (K.no rfl rfl rfl rfl) rfl rfl ?_; clear K; intro a K
      refine X_no K (K.no rfl rfl rfl rfl) rfl rfl ?_; clear K; intro a K
      refine X_no K (K.no rfl rfl rfl rfl) rfl rfl ?_; clear K; intro a K
      refine X_no K (K.no rfl rfl rfl rfl) rfl rfl ?_; clear K; intro a K
      refine X_no K (K.no rfl rfl rfl rfl) rfl rfl ?_; clear K; intro a K
      refine X_rd K (want_no rfl) rfl rfl (rd_pickT rfl K rfl rfl) M ?_; clear K; intro a K
      refine X_rd K (want_no rfl) rfl rfl (rd_move rfl K rfl) M ?_; clear K; intro a K
      refine X_no K (K.no rfl rfl rfl rfl) rfl rfl ?_; clear K; intro a K
      refine X_no K (K.no rfl rfl rfl rfl) rfl rfl ?_; clear K; intro a K
      refine X_no K (K.no rfl rfl rfl rfl) rfl rfl ?_; clear K; intro a K
      refine X_rd K (want_no rfl) rfl rfl (rd_pickT rfl K rfl rfl) M ?_; clear K; intro a K
      refine X_rd K (want_no rfl) rfl rfl (rd_move rfl K rfl) M ?_; clear K; intro a K
      refine X_no K (K.no rfl rfl rfl rfl) rfl rfl ?_; clear K; intro a K
      refine X_no K (K.no rfl rfl rfl rfl) rfl rfl ?_; clear K; intro a K
      refine X_no K (K.no rfl rfl rfl rfl) rfl rfl ?_; clear K; intro a K
      refine X_rd K (want_no rfl) rfl rfl (rd_pickT rfl K rfl rfl) M ?_; clear K; intro a K
      refine X_rd K (want_no rfl) rfl rfl (rd_move rfl K rfl) M ?_; clear K; intro a K
      refine X_no K (K.no rfl rfl rfl rfl) rfl rfl ?_; clear K; intro a K
      refine X_no K (K.no rfl rfl rfl rfl) rfl rfl ?_; clear K; intro a K
      refine X_no K (K.no rfl rfl rfl rfl) rfl rfl ?_; clear K; intro a K
      refine X_no K (K.no rfl rfl rfl rfl) rfl rfl ?_; clear K; intro a K
      refine X_no K (K.no rfl rfl rfl rfl) rfl rfl ?_; clear K; intro a K
      refine X_no K (K.no rfl rfl rfl rfl) rfl rfl ?_; clear K; intro a K
      refine X_no K (K.no rfl rfl rfl rfl) rfl rfl ?_; clear K; intro a K
      refine X_no K (K.no rfl rfl rfl rfl) rfl rfl ?_; clear K; intro a K
      refine X_rd K (want_no rfl) rfl rfl (rd_pickT rfl K rfl rfl) M ?_; clear K; intro a K
      refine X_rd K (want_no rfl) rfl rfl (rd_move rfl K rfl) M ?_; clear K; intro a K
      refine X_no K (K.no rfl rfl rfl rfl) rfl rfl ?_; clear K; intro a K
      refine X_no K (K.no rfl rfl rfl rfl) rfl rfl ?_; clear K; intro a K
      refine X_no K (K.no rfl rfl rfl rfl) rfl rfl ?_; clear K; intro a K
      refine X_no K (K.no rfl rfl rfl rfl) rfl rfl ?_; clear K; intro a K
      refine X_no K (K.no rfl rfl rfl rfl) rfl rfl ?_; clear K; intro a K
      refine X_no K (K.no rfl rfl rfl rfl) rfl rfl ?_; clear K; intro a K
      refine X_no K (K.no rfl rfl rfl rfl) rfl rfl ?_; clear K; intro a K
      refine X_no K (K.no rfl rfl rfl rfl) rfl rfl ?_; clear K; intro a K
      refine X_rd K (want_no rfl) rfl rfl (rd_pickT rfl K rfl rfl) M ?_; clear K; intro a K
      refine wpList_nil ?_
      refine then_n ?_
      refine X_condT K rfl ?_
      refine wp_seq ?_
      refine X_reg ?_
      refine X_rd K (want_no rfl) rfl rfl (rd_build rfl K (vs := []) (cs := [.int .i64 0, .int .i64 0, .slice none (([] : List (Int × Int × Int))).length 0]) rfl (by kernel_rfl)) M ?_; clear K; intro a K
      refine X_a0 K (want_no rfl) rfl (ac_storeA rfl ty49 K rfl (ds := [.int .i64 0, .int .i64 0, .slice none (([] : List (Int × Int × Int))).length 0]) rfl rfl 2 M rfl rfl rfl) ?_
      have M0 := M; clear K M; rintro _ a w M K
      clear M0
      refine X_rd K (want_no rfl) rfl rfl (rd_assign rfl K rfl) M ?_; clear K; intro a K
      refine wpList_nil ?_
      refine then_n ?_
      refine wp_ret ?_
      refine then_r ?_
      cases h
      exact ret2 K rfl (res_cellA K rfl ty49 (M.blkAt (i := 2) rfl) rfl) (res_tmp K rfl) ⟨_, rfl, _, _, rfl, (((Mem.nilrow 73 3 cIII M)).pick [0] (by decide))⟩
    · have h := cfalse hb h
      have K := K.reb (s := 23) rfl hb
      refine X_rd K (K.yes rfl rfl rfl) rfl rfl (rd_field rfl fld51_3 K rfl) M ?_; clear K; intro a K
      refine X_rd K (K.yes rfl rfl rfl) rfl rfl (rd_ldC rfl sc3 K rfl (inM 3 rfl) rfl) M ?_; clear K; intro a K
      refine X_rd K (K.yes rfl rfl rfl) rfl rfl (rd_lss rfl K rfl rfl) M ?_; clear K; intro a K
      refine X_rd K (want_no rfl) rfl rfl (rd_pickF rfl K rfl rfl) M ?_; clear K; intro a K
      refine X_rd K (want_no rfl) rfl rfl (rd_move rfl K rfl) M ?_; clear K; intro a K
      rcases Bool.eq_false_or_eq_true (decide (o_H < 1)) with hb | hb
      · have h := ctrue hb h
        have K := K.reb (s := 28) rfl hb
        refine X_no K (K.no rfl rfl rfl rfl) rfl rfl ?_; clear K; intro a K
        refine X_no K (K.no rfl rfl rfl rfl) rfl rfl ?_; clear K; intro a K
        refine X_no K (K.no rfl rfl rfl rfl) rfl rfl ?_; clear K; intro a K
        refine X_no K (K.no rfl rfl rfl rfl) rfl rfl ?_; clear K; intro a K
        refine X_no K (K.no rfl rfl rfl rfl) rfl rfl ?_; clear K; intro a K
        refine X_rd K (want_no rfl) rfl rfl (rd_pickT rfl K rfl rfl) M ?_; clear K; intro a K
        refine X_rd K (want_no rfl) rfl rfl (rd_move rfl K rfl) M ?_; clear K; intro a K
        refine X_no K (K.no rfl rfl rfl rfl) rfl rfl ?_; clear K; intro a K
        refine X_no K (K.no rfl rfl rfl rfl) rfl rfl ?_; clear K; intro a K
        refine X_no K (K.no rfl rfl rfl rfl) rfl rfl ?_; clear K; intro a K
        refine X_no K (K.no rfl rfl rfl rfl) rfl rfl ?_; clear K; intro a K
        refine X_no K (K.no rfl rfl rfl rfl) rfl rfl ?_; clear K; intro a K
        refine X_rd K (want_no rfl) rfl rfl (rd_pickT rfl K rfl rfl) M ?_; clear K; intro a K
        refine X_rd K (want_no rfl) rfl rfl (rd_move rfl K rfl) M ?_; clear K; intro a K
        refine X_no K (K.no rfl rfl rfl rfl) rfl rfl ?_; clear K; intro a K
        refine X_no K (K.no rfl rfl rfl rfl) rfl rfl ?_; clear K; intro a K
        refine X_no K (K.no rfl rfl rfl rfl) rfl rfl ?_; clear K; intro a K
        refine X_rd K (want_no rfl) rfl rfl (rd_pickT rfl K rfl rfl) M ?_; clear K; intro a K
        refine X_rd K (want_no rfl) rfl rfl (rd_move rfl K rfl) M ?_; clear K; intro a K
        refine X_no K (K.no rfl rfl rfl rfl) rfl rfl ?_; clear K; intro a K
        refine X_no K (K.no rfl rfl rfl rfl) rfl rfl ?_; clear K; intro a K
        refine X_no K (K.no rfl rfl rfl rfl) rfl rfl ?_; clear K; intro a K
        refine X_rd K (want_no rfl) rfl rfl (rd_pickT rfl K rfl rfl) M ?_; clear K; intro a K
        refine X_rd K (want_no rfl) rfl rfl (rd_move rfl K rfl) M ?_; clear K; intro a K
        refine X_no K (K.no rfl rfl rfl rfl) rfl rfl ?_; clear K; intro a K
        refine X_no K (K.no rfl rfl rfl rfl) rfl rfl ?_; clear K; intro a K
        refine X_no K (K.no rfl rfl rfl rfl) rfl rfl ?_; clear K; intro a K
        refine X_no K (K.no rfl rfl rfl rfl) rfl rfl ?_; clear K; intro a K
        refine X_no K (K.no rfl rfl rfl rfl) rfl rfl ?_; clear K; intro a K
        refine X_no K (K.no rfl rfl rfl rfl) rfl rfl ?_; clear K; intro a K
        refine X_no K (K.no rfl rfl rfl rfl) rfl rfl ?_; clear K; intro a K
        refine X_no K (K.no rfl rfl rfl rfl) rfl rfl ?_; clear K; intro a K
        refine X_rd K (want_no rfl) rfl rfl (rd_pickT rfl K rfl rfl) M ?_; clear K; intro a K
        refine X_rd K (want_no rfl) rfl rfl (rd_move rfl K rfl) M ?_; clear K; intro a K
        refine X_no K (K.no rfl rfl rfl rfl) rfl rfl ?_; clear K; intro a K
        refine X_no K (K.no rfl rfl rfl rfl) rfl rfl ?_; clear K; intro a K
        refine X_no K (K.no rfl rfl rfl rfl) rfl rfl ?_; clear K; intro a K
        refine X_no K (K.no rfl rfl rfl rfl) rfl rfl ?_; clear K; intro a K
        refine X_no K (K.no rfl rfl rfl rfl) rfl rfl ?_; clear K; intro a K
        refine X_no K (K.no rfl rfl rfl rfl) rfl rfl ?_; clear K; intro a K
        refine X_no K (K.no rfl rfl rfl rfl) rfl rfl ?_; clear K; intro a K
        refine X_no K (K.no rfl rfl rfl rfl) rfl rfl ?_; clear K; intro a K
        refine X_rd K (want_no rfl) rfl rfl (rd_pickT rfl K rfl rfl) M ?_; clear K; intro a K
        refine wpList_nil ?_
        refine then_n ?_
        refine X_condT K rfl ?_
        refine wp_seq ?_
        refine X_reg ?_
        refine X_rd K (want_no rfl) rfl rfl (rd_build rfl K (vs := []) (cs := [.int .i64 0, .int .i64 0, .slice none (([] : List (Int × Int × Int))).length 0]) rfl (by kernel_rfl)) M ?_; clear K; intro a K
        refine X_a0 K (want_no rfl) rfl (ac_storeA rfl ty49 K rfl (ds := [.int .i64 0, .int .i64 0, .slice none (([] : List (Int × Int × Int))).length 0]) rfl rfl 2 M rfl rfl rfl) ?_
        have M0 := M; clear K M; rintro _ a w M K
        clear M0
        refine X_rd K (want_no rfl) rfl rfl (rd_assign rfl K rfl) M ?_; clear K; intro a K
        refine wpList_nil ?_
        refine then_n ?_
        refine wp_ret ?_
        refine then_r ?_
        cases h
        exact ret2 K rfl (res_cellA K rfl ty49 (M.blkAt (i := 2) rfl) rfl) (res_tmp K rfl) ⟨_, rfl, _, _, rfl, (((Mem.nilrow 73 3 cIII M)).pick [0] (by decide))⟩
      · have h := cfalse hb h
        have K := K.reb (s := 28) rfl hb
        refine X_rd K (K.yes rfl rfl rfl) rfl rfl (rd_field rfl fld51_2 K rfl) M ?_; clear K; intro a K
        refine X_rd K (K.yes rfl rfl rfl) rfl rfl (rd_ldC rfl sc3 K rfl (inM 3 rfl) rfl) M ?_; clear K; intro a K
        refine X_rd K (K.yes rfl rfl rfl) rfl rfl (rd_field rfl fld49_0 K rfl) M ?_; clear K; intro a K
        refine X_rd K (K.yes rfl rfl rfl) rfl rfl (rd_ldC rfl sc3 K rfl (inM 4 rfl) rfl) M ?_; clear K; intro a K
        refine X_rd K (K.yes rfl rfl rfl) rfl rfl (rd_gtr rfl K rfl rfl) M ?_; clear K; intro a K
        refine X_rd K (want_no rfl) rfl rfl (rd_pickF rfl K rfl rfl) M ?_; clear K; intro a K
        refine X_rd K (want_no rfl) rfl rfl (rd_move rfl K rfl) M ?_; clear K; intro a K
        rcases Bool.eq_false_or_eq_true (decide (d_W < o_W)) with hb | hb
        · have h := ctrue hb h
          have K := K.reb (s := 35) rfl hb
          refine X_no K (K.no rfl rfl rfl rfl) rfl rfl ?_; clear K; intro a K
          refine X_no K (K.no rfl rfl rfl rfl) rfl rfl ?_; clear K; intro a K
          refine X_no K (K.no rfl rfl rfl rfl) rfl rfl ?_; clear K; intro a K
          refine X_no K (K.no rfl rfl rfl rfl) rfl rfl ?_; clear K; intro a K
          refine X_no K (K.no rfl rfl rfl rfl) rfl rfl ?_; clear K; intro a K
          refine X_rd K (want_no rfl) rfl rfl (rd_pickT rfl K rfl rfl) M ?_; clear K; intro a K
          refine X_rd K (want_no rfl) rfl rfl (rd_move rfl K rfl) M ?_; clear K; intro a K
          refine X_no K (K.no rfl rfl rfl rfl) rfl rfl ?_; clear K; intro a K
          refine X_no K (K.no rfl rfl rfl rfl) rfl rfl ?_; clear K; intro a K
          refine X_no K (K.no rfl rfl rfl rfl) rfl rfl ?_; clear K; intro a K
          refine X_rd K (want_no rfl) rfl rfl (rd_pickT rfl K rfl rfl) M ?_; clear K; intro a K
          refine X_rd K (want_no rfl) rfl rfl (rd_move rfl K rfl) M ?_; clear K; intro a K
          refine X_no K (K.no rfl rfl rfl rfl) rfl rfl ?_; clear K; intro a K
          refine X_no K (K.no rfl rfl rfl rfl) rfl rfl ?_; clear K; intro a K
          refine X_no K (K.no rfl rfl rfl rfl) rfl rfl ?_; clear K; intro a K
          refine X_rd K (want_no rfl) rfl rfl (rd_pickT rfl K rfl rfl) M ?_; clear K; intro a K
          refine X_rd K (want_no rfl) rfl rfl (rd_move rfl K rfl) M ?_; clear K; intro a K
          refine X_no K (K.no rfl rfl rfl rfl) rfl rfl ?_; clear K; intro a K
          refine X_no K (K.no rfl rfl rfl rfl) rfl rfl ?_; clear K; intro a K
          refine X_no K (K.no rfl rfl rfl rfl) rfl rfl ?_; clear K; intro a K
          refine X_no K (K.no rfl rfl rfl rfl) rfl rfl ?_; clear K; intro a K
          refine X_no K (K.no rfl rfl rfl rfl) rfl rfl ?_; clear K; intro a K
          refine X_no K (K.no rfl rfl rfl rfl) rfl rfl ?_; clear K; intro a K
          refine X_no K (K.no rfl rfl rfl rfl) rfl rfl ?_; clear K; intro a K
          refine X_no K (K.no rfl rfl rfl rfl) rfl rfl ?_; clear K; intro a K
          refine X_rd K (want_no rfl) rfl rfl (rd_pickT rfl K rfl rfl) M ?_; clear K; intro a K
          refine X_rd K (want_no rfl) rfl rfl (rd_move rfl K rfl) M ?_; clear K; intro a K
          refine X_no K (K.no rfl rfl rfl rfl) rfl rfl ?_; clear K; intro a K
          refine X_no K (K.no rfl rfl rfl rfl) rfl rfl ?_; clear K; intro a K
          refine X_no K (K.no rfl rfl rfl rfl) rfl rfl ?_; clear K; intro a K
          refine X_no K (K.no rfl rfl rfl rfl) rfl rfl ?_; clear K; intro a K
          refine X_no K (K.no rfl rfl rfl rfl) rfl rfl ?_; clear K; intro a K
          refine X_no K (K.no rfl rfl rfl rfl) rfl rfl ?_; clear K; intro a K
          refine X_no K (K.no rfl rfl rfl rfl) rfl rfl ?_; clear K; intro a K
          refine X_no K (K.no rfl rfl rfl rfl) rfl rfl ?_; clear K; intro a K
          refine X_rd K (want_no rfl) rfl rfl (rd_pickT rfl K rfl rfl) M ?_; clear K; intro a K
          refine wpList_nil ?_
          refine then_n ?_
          refine X_condT K rfl ?_
          refine wp_seq ?_
          refine X_reg ?_
          refine X_rd K (want_no rfl) rfl rfl (rd_build rfl K (vs := []) (cs := [.int .i64 0, .int .i64 0, .slice none (([] : List (Int × Int × Int))).length 0]) rfl (by kernel_rfl)) M ?_; clear K; intro a K
          refine X_a0 K (want_no rfl) rfl (ac_storeA rfl ty49 K rfl (ds := [.int .i64 0, .int .i64 0, .slice none (([] : List (Int × Int × Int))).length 0]) rfl rfl 2 M rfl rfl rfl) ?_
          have M0 := M; clear K M; rintro _ a w M K
          clear M0
          refine X_rd K (want_no rfl) rfl rfl (rd_assign rfl K rfl) M ?_; clear K; intro a K
          refine wpList_nil ?_
          refine then_n ?_
          refine wp_ret ?_
          refine then_r ?_
          cases h
          exact ret2 K rfl (res_cellA K rfl ty49 (M.blkAt (i := 2) rfl) rfl) (res_tmp K rfl) ⟨_, rfl, _, _, rfl, (((Mem.nilrow 73 3 cIII M)).pick [0] (by decide))⟩
        · have h := cfalse hb h
          have K := K.reb (s := 35) rfl hb
          refine X_rd K (K.yes rfl rfl rfl) rfl rfl (rd_field rfl fld51_3 K rfl) M ?_; clear K; intro a K
          refine X_rd K (K.yes rfl rfl rfl) rfl rfl (rd_ldC rfl sc3 K rfl (inM 3 rfl) rfl) M ?_; clear K; intro a K
          refine X_rd K (K.yes rfl rfl rfl) rfl rfl (rd_field rfl fld49_1 K rfl) M ?_; clear K; intro a K
          refine X_rd K (K.yes rfl rfl rfl) rfl rfl (rd_ldC rfl sc3 K rfl (inM 4 rfl) rfl) M ?_; clear K; intro a K
          refine X_rd K (K.yes rfl rfl rfl) rfl rfl (rd_gtr rfl K rfl rfl) M ?_; clear K; intro a K
          refine X_rd K (want_no rfl) rfl rfl (rd_pickF rfl K rfl rfl) M ?_; clear K; intro a K
          refine X_rd K (want_no rfl) rfl rfl (rd_move rfl K rfl) M ?_; clear K; intro a K
          rcases Bool.eq_false_or_eq_true (decide (d_H < o_H)) with hb | hb
          · have h := ctrue hb h
            have K := K.reb (s := 42) rfl hb
            refine X_no K (K.no rfl rfl rfl rfl) rfl rfl ?_; clear K; intro a K
            refine X_no K (K.no rfl rfl rfl rfl) rfl rfl ?_; clear K; intro a K
            refine X_no K (K.no rfl rfl rfl rfl) rfl rfl ?_; clear K; intro a K
            refine X_rd K (want_no rfl) rfl rfl (rd_pickT rfl K rfl rfl) M ?_; clear K; intro a K
            refine X_rd K (want_no rfl) rfl rfl (rd_move rfl K rfl) M ?_; clear K; intro a K
            refine X_no K (K.no rfl rfl rfl rfl) rfl rfl ?_; clear K; intro a K
            refine X_no K (K.no rfl rfl rfl rfl) rfl rfl ?_; clear K; intro a K
            refine X_no K (K.no rfl rfl rfl rfl) rfl rfl ?_; clear K; intro a K
            refine X_rd K (want_no rfl) rfl rfl (rd_pickT rfl K rfl rfl) M ?_; clear K; intro a K
            refine X_rd K (want_no rfl) rfl rfl (rd_move rfl K rfl) M ?_; clear K; intro a K
            refine X_no K (K.no rfl rfl rfl rfl) rfl rfl ?_; clear K; intro a K
            refine X_no K (K.no rfl rfl rfl rfl) rfl rfl ?_; clear K; intro a K
            refine X_no K (K.no rfl rfl rfl rfl) rfl rfl ?_; clear K; intro a K
            refine X_no K (K.no rfl rfl rfl rfl) rfl rfl ?_; clear K; intro a K
            refine X_no K (K.no rfl rfl rfl rfl) rfl rfl ?_; clear K; intro a K
            refine X_no K (K.no rfl rfl rfl rfl) rfl rfl ?_; clear K; intro a K
            refine X_no K (K.no rfl rfl rfl rfl) rfl rfl ?_; clear K; intro a K
            refine X_no K (K.no rfl rfl rfl rfl) rfl rfl ?_; clear K; intro a K
            refine X_rd K (want_no rfl) rfl rfl (rd_pickT rfl K rfl rfl) M ?_; clear K; intro a K
            refine X_rd K (want_no rfl) rfl rfl (rd_move rfl K rfl) M ?_; clear K; intro a K
            refine X_no K (K.no rfl rfl rfl rfl) rfl rfl ?_; clear K; intro a K
            refine X_no K (K.no rfl rfl rfl rfl) rfl rfl ?_; clear K; intro a K
            refine X_no K (K.no rfl rfl rfl rfl) rfl rfl ?_; clear K; intro a K
            refine X_no K (K.no rfl rfl rfl rfl) rfl rfl ?_; clear K; intro a K
            refine X_no K (K.no rfl rfl rfl rfl) rfl rfl ?_; clear K; intro a K
            refine X_no K (K.no rfl rfl rfl rfl) rfl rfl ?_; clear K; intro a K
            refine X_no K (K.no rfl rfl rfl rfl) rfl rfl ?_; clear K; intro a K
            refine X_no K (K.no rfl rfl rfl rfl) rfl rfl ?_; clear K; intro a K
            refine X_rd K (want_no rfl) rfl rfl (rd_pickT rfl K rfl rfl) M ?_; clear K; intro a K
            refine wpList_nil ?_
            refine then_n ?_
            refine X_condT K rfl ?_
            refine wp_seq ?_
            refine X_reg ?_
            refine X_rd K (want_no rfl) rfl rfl (rd_build rfl K (vs := []) (cs := [.int .i64 0, .int .i64 0, .slice none (([] : List (Int × Int × Int))).length 0]) rfl (by kernel_rfl)) M ?_; clear K; intro a K
            refine X_a0 K (want_no rfl) rfl (ac_storeA rfl ty49 K rfl (ds := [.int .i64 0, .int .i64 0, .slice none (([] : List (Int × Int × Int))).length 0]) rfl rfl 2 M rfl rfl rfl) ?_
            have M0 := M; clear K M; rintro _ a w M K
            clear M0
            refine X_rd K (want_no rfl) rfl rfl (rd_assign rfl K rfl) M ?_; clear K; intro a K
            refine wpList_nil ?_
            refine then_n ?_
            refine wp_ret ?_
            refine then_r ?_
            cases h
            exact ret2 K rfl (res_cellA K rfl ty49 (M.blkAt (i := 2) rfl) rfl) (res_tmp K rfl) ⟨_, rfl, _, _, rfl, (((Mem.nilrow 73 3 cIII M)).pick [0] (by decide))⟩
          · have h := cfalse hb h
            have K := K.reb (s := 42) rfl hb
            refine X_rd K (K.yes rfl rfl rfl) rfl rfl (rd_field rfl fld51_0 K rfl) M ?_; clear K; intro a K
            refine X_rd K (K.yes rfl rfl rfl) rfl rfl (rd_ldC rfl sc3 K rfl (inM 3 rfl) rfl) M ?_; clear K; intro a K
            refine X_rd K (K.yes rfl rfl rfl) rfl rfl (rd_lss rfl K rfl rfl) M ?_; clear K; intro a K
            refine X_rd K (want_no rfl) rfl rfl (rd_pickF rfl K rfl rfl) M ?_; clear K; intro a K
            refine X_rd K (want_no rfl) rfl rfl (rd_move rfl K rfl) M ?_; clear K; intro a K
            rcases Bool.eq_false_or_eq_true (decide (o_X < 0)) with hb | hb
            · have h := ctrue hb h
              have K := K.reb (s := 47) rfl hb
              refine X_no K (K.no rfl rfl rfl rfl) rfl rfl ?_; clear K; intro a K
              refine X_no K (K.no rfl rfl rfl rfl) rfl rfl ?_; clear K; intro a K
              refine X_no K (K.no rfl rfl rfl rfl) rfl rfl ?_; clear K; intro a K
              refine X_rd K (want_no rfl) rfl rfl (rd_pickT rfl K rfl rfl) M ?_; clear K; intro a K
              refine X_rd K (want_no rfl) rfl rfl (rd_move rfl K rfl) M ?_; clear K; intro a K
              refine X_no K (K.no rfl rfl rfl rfl) rfl rfl ?_; clear K; intro a K
              refine X_no K (K.no rfl rfl rfl rfl) rfl rfl ?_; clear K; intro a K
              refine X_no K (K.no rfl rfl rfl rfl) rfl rfl ?_; clear K; intro a K
              refine X_no K (K.no rfl rfl rfl rfl) rfl rfl ?_; clear K; intro a K
              refine X_no K (K.no rfl rfl rfl rfl) rfl rfl ?_; clear K; intro a K
              refine X_no K (K.no rfl rfl rfl rfl) rfl rfl ?_; clear K; intro a K
              refine X_no K (K.no rfl rfl rfl rfl) rfl rfl ?_; clear K; intro a K
              refine X_no K (K.no rfl rfl rfl rfl) rfl rfl ?_; clear K; intro a K
              refine X_rd K (want_no rfl) rfl rfl (rd_pickT rfl K rfl rfl) M ?_; clear K; intro a K
              refine X_rd K (want_no rfl) rfl rfl (rd_move rfl K rfl) M ?_; clear K; intro a K
              refine X_no K (K.no rfl rfl rfl rfl) rfl rfl ?_; clear K; intro a K
              refine X_no K (K.no rfl rfl rfl rfl) rfl rfl ?_; clear K; intro a K
              refine X_no K (K.no rfl rfl rfl rfl) rfl rfl ?_; clear K; intro a K
              refine X_no K (K.no rfl rfl rfl rfl) rfl rfl ?_; clear K; intro a K
              refine X_no K (K.no rfl rfl rfl rfl) rfl rfl ?_; clear K; intro a K
              refine X_no K (K.no rfl rfl rfl rfl) rfl rfl ?_; clear K; intro a K
              refine X_no K (K.no rfl rfl rfl rfl) rfl rfl ?_; clear K; intro a K
              refine X_no K (K.no rfl rfl rfl rfl) rfl rfl ?_; clear K; intro a K
              refine X_rd K (want_no rfl) rfl rfl (rd_pickT rfl K rfl rfl) M ?_; clear K; intro a K
              refine wpList_nil ?_
              refine then_n ?_
              refine X_condT K rfl ?_
              refine wp_seq ?_
              refine X_reg ?_
              refine X_rd K (want_no rfl) rfl rfl (rd_build rfl K (vs := []) (cs := [.int .i64 0, .int .i64 0, .slice none (([] : List (Int × Int × Int))).length 0]) rfl (by kernel_rfl)) M ?_; clear K; intro a K
              refine X_a0 K (want_no rfl) rfl (ac_storeA rfl ty49 K rfl (ds := [.int .i64 0, .int .i64 0, .slice none (([] : List (Int × Int × Int))).length 0]) rfl rfl 2 M rfl rfl rfl) ?_
              have M0 := M; clear K M; rintro _ a w M K
              clear M0
              refine X_rd K (want_no rfl) rfl rfl (rd_assign rfl K rfl) M ?_; clear K; intro a K
              refine wpList_nil ?_
              refine then_n ?_
              refine wp_ret ?_
              refine then_r ?_
              cases h
              exact ret2 K rfl (res_cellA K rfl ty49 (M.blkAt (i := 2) rfl) rfl) (res_tmp K rfl) ⟨_, rfl, _, _, rfl, (((Mem.nilrow 73 3 cIII M)).pick [0] (by decide))⟩
            · have h := cfalse hb h
              have K := K.reb (s := 47) rfl hb
              refine X_rd K (K.yes rfl rfl rfl) rfl rfl (rd_field rfl fld51_1 K rfl) M ?_; clear K; intro a K
              refine X_rd K (K.yes rfl rfl rfl) rfl rfl (rd_ldC rfl sc3 K rfl (inM 3 rfl) rfl) M ?_; clear K; intro a K
              refine X_rd K (K.yes rfl rfl rfl) rfl rfl (rd_lss rfl K rfl rfl) M ?_; clear K; intro a K
              refine X_rd K (want_no rfl) rfl rfl (rd_pickF rfl K rfl rfl) M ?_; clear K; intro a K
              refine X_rd K (want_no rfl) rfl rfl (rd_move rfl K rfl) M ?_; clear K; intro a K
              rcases Bool.eq_false_or_eq_true (decide (o_Y < 0)) with hb | hb
              · have h := ctrue hb h
                have K := K.reb (s := 52) rfl hb
                refine X_no K (K.no rfl rfl rfl rfl) rfl rfl ?_; clear K; intro a K
                refine X_no K (K.no rfl rfl rfl rfl) rfl rfl ?_; clear K; intro a K
                refine X_no K (K.no rfl rfl rfl rfl) rfl rfl ?_; clear K; intro a K
                refine X_no K (K.no rfl rfl rfl rfl) rfl rfl ?_; clear K; intro a K
                refine X_no K (K.no rfl rfl rfl rfl) rfl rfl ?_; clear K; intro a K
                refine X_no K (K.no rfl rfl rfl rfl) rfl rfl ?_; clear K; intro a K
                refine X_no K (K.no rfl rfl rfl rfl) rfl rfl ?_; clear K; intro a K
                refine X_no K (K.no rfl rfl rfl rfl) rfl rfl ?_; clear K; intro a K
                refine X_rd K (want_no rfl) rfl rfl (rd_pickT rfl K rfl rfl) M ?_; clear K; intro a K
                refine X_rd K (want_no rfl) rfl rfl (rd_move rfl K rfl) M ?_; clear K; intro a K
                refine X_no K (K.no rfl rfl rfl rfl) rfl rfl ?_; clear K; intro a K
                refine X_no K (K.no rfl rfl rfl rfl) rfl rfl ?_; clear K; intro a K
                refine X_no K (K.no rfl rfl rfl rfl) rfl rfl ?_; clear K; intro a K
                refine X_no K (K.no rfl rfl rfl rfl) rfl rfl ?_; clear K; intro a K
                refine X_no K (K.no rfl rfl rfl rfl) rfl rfl ?_; clear K; intro a K
                refine X_no K (K.no rfl rfl rfl rfl) rfl rfl ?_; clear K; intro a K
                refine X_no K (K.no rfl rfl rfl rfl) rfl rfl ?_; clear K; intro a K
                refine X_no K (K.no rfl rfl rfl rfl) rfl rfl ?_; clear K; intro a K
                refine X_rd K (want_no rfl) rfl rfl (rd_pickT rfl K rfl rfl) M ?_; clear K; intro a K
                refine wpList_nil ?_
                refine then_n ?_
                refine X_condT K rfl ?_
                refine wp_seq ?_
                refine X_reg ?_
                refine X_rd K (want_no rfl) rfl rfl (rd_build rfl K (vs := []) (cs := [.int .i64 0, .int .i64 0, .slice none (([] : List (Int × Int × Int))).length 0]) rfl (by kernel_rfl)) M ?_; clear K; intro a K
                refine X_a0 K (want_no rfl) rfl (ac_storeA rfl ty49 K rfl (ds := [.int .i64 0, .int .i64 0, .slice none (([] : List (Int × Int × Int))).length 0]) rfl rfl 2 M rfl rfl rfl) ?_
                have M0 := M; clear K M; rintro _ a w M K
                clear M0
                refine X_rd K (want_no rfl) rfl rfl (rd_assign rfl K rfl) M ?_; clear K; intro a K
                refine wpList_nil ?_
                refine then_n ?_
                refine wp_ret ?_
                refine then_r ?_
                cases h
                exact ret2 K rfl (res_cellA K rfl ty49 (M.blkAt (i := 2) rfl) rfl) (res_tmp K rfl) ⟨_, rfl, _, _, rfl, (((Mem.nilrow 73 3 cIII M)).pick [0] (by decide))⟩
              · have h := cfalse hb h
                have K := K.reb (s := 52) rfl hb
                refine X_rd K (K.yes rfl rfl rfl) rfl rfl (rd_field rfl fld51_0 K rfl) M ?_; clear K; intro a K
                refine X_rd K (K.yes rfl rfl rfl) rfl rfl (rd_ldC rfl sc3 K rfl (inM 3 rfl) rfl) M ?_; clear K; intro a K
                refine X_rd K (K.yes rfl rfl rfl) rfl rfl (rd_field rfl fld49_0 K rfl) M ?_; clear K; intro a K
                refine X_rd K (K.yes rfl rfl rfl) rfl rfl (rd_ldC rfl sc3 K rfl (inM 4 rfl) rfl) M ?_; clear K; intro a K
                refine X_rd K (K.yes rfl rfl rfl) rfl rfl (rd_field rfl fld51_2 K rfl) M ?_; clear K; intro a K
                refine X_rd K (K.yes rfl rfl rfl) rfl rfl (rd_ldC rfl sc3 K rfl (inM 3 rfl) rfl) M ?_; clear K; intro a K
                refine X_rd K (K.yes rfl rfl rfl) rfl rfl (rd_sub rfl K rfl rfl) M ?_; clear K; intro a K
                refine X_rd K (K.yes rfl rfl rfl) rfl rfl (rd_gtr rfl K rfl rfl) M ?_; clear K; intro a K
                refine X_rd K (want_no rfl) rfl rfl (rd_pickF rfl K rfl rfl) M ?_; clear K; intro a K
                refine X_rd K (want_no rfl) rfl rfl (rd_move rfl K rfl) M ?_; clear K; intro a K
                rcases Bool.eq_false_or_eq_true (decide ((IntKind.i64.wrap (d_W - o_W)) < o_X)) with hb | hb
                · have h := ctrue hb h
                  have K := K.reb (s := 62) rfl hb
                  refine X_no K (K.no rfl rfl rfl rfl) rfl rfl ?_; clear K; intro a K
                  refine X_no K (K.no rfl rfl rfl rfl) rfl rfl ?_; clear K; intro a K
                  refine X_no K (K.no rfl rfl rfl rfl) rfl rfl ?_; clear K; intro a K
                  refine X_no K (K.no rfl rfl rfl rfl) rfl rfl ?_; clear K; intro a K
                  refine X_no K (K.no rfl rfl rfl rfl) rfl rfl ?_; clear K; intro a K
                  refine X_no K (K.no rfl rfl rfl rfl) rfl rfl ?_; clear K; intro a K
                  refine X_no K (K.no rfl rfl rfl rfl) rfl rfl ?_; clear K; intro a K
                  refine X_no K (K.no rfl rfl rfl rfl) rfl rfl ?_; clear K; intro a K
                  refine X_rd K (want_no rfl) rfl rfl (rd_pickT rfl K rfl rfl) M ?_; clear K; intro a K
                  refine wpList_nil ?_
                  refine then_n ?_
                  refine X_condT K rfl ?_
                  refine wp_seq ?_
                  refine X_reg ?_
                  refine X_rd K (want_no rfl) rfl rfl (rd_build rfl K (vs := []) (cs := [.int .i64 0, .int .i64 0, .slice none (([] : List (Int × Int × Int))).length 0]) rfl (by kernel_rfl)) M ?_; clear K; intro a K
                  refine X_a0 K (want_no rfl) rfl (ac_storeA rfl ty49 K rfl (ds := [.int .i64 0, .int .i64 0, .slice none (([] : List (Int × Int × Int))).length 0]) rfl rfl 2 M rfl rfl rfl) ?_
                  have M0 := M; clear K M; rintro _ a w M K
                  clear M0
                  refine X_rd K (want_no rfl) rfl rfl (rd_assign rfl K rfl) M ?_; clear K; intro a K
                  refine wpList_nil ?_
                  refine then_n ?_
                  refine wp_ret ?_
                  refine then_r ?_
                  cases h
                  exact ret2 K rfl (res_cellA K rfl ty49 (M.blkAt (i := 2) rfl) rfl) (res_tmp K rfl) ⟨_, rfl, _, _, rfl, (((Mem.nilrow 73 3 cIII M)).pick [0] (by decide))⟩
                · have h := cfalse hb h
                  have K := K.reb (s := 62) rfl hb
                  refine X_rd K (K.yes rfl rfl rfl) rfl rfl (rd_field rfl fld51_1 K rfl) M ?_; clear K; intro a K
                  refine X_rd K (K.yes rfl rfl rfl) rfl rfl (rd_ldC rfl sc3 K rfl (inM 3 rfl) rfl) M ?_; clear K; intro a K
                  refine X_rd K (K.yes rfl rfl rfl) rfl rfl (rd_field rfl fld49_1 K rfl) M ?_; clear K; intro a K
                  refine X_rd K (K.yes rfl rfl rfl) rfl rfl (rd_ldC rfl sc3 K rfl (inM 4 rfl) rfl) M ?_; clear K; intro a K
                  refine X_rd K (K.yes rfl rfl rfl) rfl rfl (rd_field rfl fld51_3 K rfl) M ?_; clear K; intro a K
                  refine X_rd K (K.yes rfl rfl rfl) rfl rfl (rd_ldC rfl sc3 K rfl (inM 3 rfl) rfl) M ?_; clear K; intro a K
                  refine X_rd K (K.yes rfl rfl rfl) rfl rfl (rd_sub rfl K rfl rfl) M ?_; clear K; intro a K
                  refine X_rd K (K.yes rfl rfl rfl) rfl rfl (rd_gtr rfl K rfl rfl) M ?_; clear K; intro a K
                  refine X_rd K (want_no rfl) rfl rfl (rd_pickF rfl K rfl rfl) M ?_; clear K; intro a K
                  refine wpList_nil ?_
                  refine then_n ?_
                  refine X_cond K rfl (fun hb => ?_) (fun hb => ?_)
                  · have h := ctrue hb h
                    refine wp_seq ?_
                    refine X_reg ?_
                    refine X_rd K (want_no rfl) rfl rfl (rd_build rfl K (vs := []) (cs := [.int .i64 0, .int .i64 0, .slice none (([] : List (Int × Int × Int))).length 0]) rfl (by kernel_rfl)) M ?_; clear K; intro a K
                    refine X_a0 K (want_no rfl) rfl (ac_storeA rfl ty49 K rfl (ds := [.int .i64 0, .int .i64 0, .slice none (([] : List (Int × Int × Int))).length 0]) rfl rfl 2 M rfl rfl rfl) ?_
                    have M0 := M; clear K M; rintro _ a w M K
                    clear M0
                    refine X_rd K (want_no rfl) rfl rfl (rd_assign rfl K rfl) M ?_; clear K; intro a K
                    refine wpList_nil ?_
                    refine then_n ?_
                    refine wp_ret ?_
                    refine then_r ?_
                    cases h
                    exact ret2 K rfl (res_cellA K rfl ty49 (M.blkAt (i := 2) rfl) rfl) (res_tmp K rfl) ⟨_, rfl, _, _, rfl, (((Mem.nilrow 73 3 cIII M)).pick [0] (by decide))⟩
                  · have h := cfalse hb h
                    refine wp_skip ?_
                    refine then_n ?_
                    refine wp_seq ?_
                    refine X_reg ?_
                    refine X_rd K (want_no rfl) rfl rfl (rd_field rfl fld51_2 K rfl) M ?_; clear K; intro a K
                    refine X_rd K (want_no rfl) rfl rfl (rd_ldC rfl sc3 K rfl (inM 3 rfl) rfl) M ?_; clear K; intro a K
                    refine X_rd K (want_no rfl) rfl rfl (rd_field rfl fld51_3 K rfl) M ?_; clear K; intro a K
                    refine X_rd K (want_no rfl) rfl rfl (rd_ldC rfl sc3 K rfl (inM 3 rfl) rfl) M ?_; clear K; intro a K
                    refine X_rd K (want_no rfl) rfl rfl (rd_build rfl K (vs := [(0, .int .i64 o_W), (1, .int .i64 o_H)]) (cs := [.int .i64 o_W, .int .i64 o_H, .slice none (([] : List (Int × Int × Int))).length 0]) rfl (by kernel_rfl)) M ?_; clear K; intro a K
                    refine X_ac K (want_no rfl) rfl rfl (ac_alloc rfl z49 M) ?_
                    have M0 := M; clear K M; rintro _ a w ⟨g_x5, rfl, M⟩ K
                    clear M0
                    refine X_a0 K (want_no rfl) rfl (ac_storeA rfl ty49 K rfl (ds := [.int .i64 o_W, .int .i64 o_H, .slice none (([] : List (Int × Int × Int))).length 0]) rfl rfl 0 M rfl rfl rfl) ?_
                    have M0 := M; clear K M; rintro _ a w M K
                    clear M0
                    refine wpList_nil ?_
                    refine then_n ?_
                    refine wp_seq ?_
                    refine wp_seq ?_
                    refine X_reg ?_
                    refine X_rd K (want_no rfl) rfl rfl (rd_field rfl fld51_3 K rfl) M ?_; clear K; intro a K
                    refine X_rd K (want_no rfl) rfl rfl (rd_ldC rfl sc3 K rfl (inM 4 rfl) rfl) M ?_; clear K; intro a K
                    refine X_rd K (want_no rfl) rfl rfl (rd_move rfl K rfl) M ?_; clear K; intro a K
                    refine wpList_nil ?_
                    refine then_n ?_
                    refine wp_block ?_
                    replace M := Mem.nilrow 73 3 cIII M
                    refine X_lp (id := 0) (Rel := fun (⟨x_P, i⟩ : List (Int × Int × Int) × Int) a w => ∃ (A2 : Option Addr) (c2 : Nat), Kn a 107 [(2, .pointer (some ⟨g_x, 0, none⟩)), (3, .pointer (some ⟨g_x2, 0, none⟩)), (4, .pointer (some ⟨g_x3, 0, none⟩)), (8, .pointer (some ⟨g_x5, 0, none⟩)), (79, .int .i64 o_H), (80, .int .i64 i)] ∧ Mem w0.heap.size w0 w [.row 73 3 A2 x_P.length c2 (cIII.all x_P), .blk g_x5 49 [.int .i64 o_W, .int .i64 o_H, .slice A2 x_P.length c2], .blk g_x3 49 [.int .i64 0, .int .i64 0, .slice none (([] : List (Int × Int × Int))).length 0], .blk g_x2 51 [.int .i64 o_X, .int .i64 o_Y, .int .i64 o_W, .int .i64 o_H], .blk g_x 49 [.int .i64 d_W, .int .i64 d_H, .slice A_d_P d_P.length c_d_P]]) h (fun _ _ => rfl) ⟨none, 0, K.pick [2,3,4,8,79,80], M.pick [0,1,4,5,6] (by decide)⟩ ?_ ?_
                    · clear K M h
                      rintro ⟨x_P4, i2⟩ a w ⟨A5, c5, K, M⟩ h
                      try dsimp only at h
                      refine inb_e ?_
                      refine then_n ?_
                      refine wp_seq ?_
                      refine X_reg ?_
                      refine X_rd K (want_no rfl) rfl rfl (rd_ldA rfl ty49 K rfl (inM 1 rfl) rfl rfl) M ?_; clear K; intro a K
                      refine X_a0 K (want_no rfl) rfl (ac_storeA rfl ty49 K rfl (ds := [.int .i64 o_W, .int .i64 o_H, .slice A5 x_P4.length c5]) rfl rfl 2 M rfl rfl rfl) ?_
                      have M0 := M; clear K M; rintro _ a w M K
                      clear M0
                      refine X_rd K (want_no rfl) rfl rfl (rd_assign rfl K rfl) M ?_; clear K; intro a K
                      refine wpList_nil ?_
                      refine then_n ?_
                      refine wp_ret ?_
                      cases h
                      exact ret2 K rfl (res_cellA K rfl ty49 (M.blkAt (i := 2) rfl) rfl) (res_tmp K rfl) ⟨_, rfl, _, _, rfl, ((M).pick [0] (by decide))⟩
                    · clear K M h
                      rintro kk fuel ⟨x_P, i⟩ a w hk1 ⟨A2, c2, K, M⟩ h
                      unfold D_turn_Cut_l1 at h
                      refine wp_seq ?_
                      refine X_reg ?_
                      refine X_rd K (want_no rfl) rfl rfl (rd_lss rfl K rfl rfl) M ?_; clear K; intro a K
                      refine wpList_nil ?_
                      refine then_n ?_
                      refine wp_seq ?_
                      refine X_cond K rfl (fun hb => ?_) (fun hb => ?_)
                      · have h := ctrue hb h
                        refine wp_skip ?_
                        refine then_n ?_
                        refine wp_seq ?_
                        refine wp_block ?_
                        refine wp_seq ?_
                        refine X_reg ?_
                        refine X_rd K (want_no rfl) rfl rfl (rd_move rfl K rfl) M ?_; clear K; intro a K
                        refine X_rd K (want_no rfl) rfl rfl (rd_assign rfl K rfl) M ?_; clear K; intro a K
                        refine wpList_nil ?_
                        refine then_n ?_
                        refine wp_seq ?_
                        refine X_reg ?_
                        refine X_rd K (want_no rfl) rfl rfl (rd_field rfl fld51_1 K rfl) M ?_; clear K; intro a K
                        refine X_rd K (want_no rfl) rfl rfl (rd_ldC rfl sc3 K rfl (inM 3 rfl) rfl) M ?_; clear K; intro a K
                        refine X_rd K (want_no rfl) rfl rfl (rd_move rfl K rfl) M ?_; clear K; intro a K
                        refine X_rd K (want_no rfl) rfl rfl (rd_add rfl K rfl rfl) M ?_; clear K; intro a K
                        refine X_rd K (want_no rfl) rfl rfl (rd_field rfl fld49_0 K rfl) M ?_; clear K; intro a K
                        refine X_rd K (want_no rfl) rfl rfl (rd_ldC rfl sc3 K rfl (inM 4 rfl) rfl) M ?_; clear K; intro a K
                        refine X_rd K (want_no rfl) rfl rfl (rd_mul rfl K rfl rfl) M ?_; clear K; intro a K
                        refine X_rd K (want_no rfl) rfl rfl (rd_field rfl fld51_0 K rfl) M ?_; clear K; intro a K
                        refine X_rd K (want_no rfl) rfl rfl (rd_ldC rfl sc3 K rfl (inM 3 rfl) rfl) M ?_; clear K; intro a K
                        refine X_rd K (want_no rfl) rfl rfl (rd_add rfl K rfl rfl) M ?_; clear K; intro a K
                        obtain ⟨x3, hx, h⟩ := olet h
                        refine X_rd K (want_no rfl) rfl rfl (rdi hx (rd_assign rfl K rfl)) M ?_; clear K; intro a K
                        refine wpList_nil ?_
                        refine then_n ?_
                        refine wp_region_tl (fun w => Mem _ _ w _) [0,0,0,0,0,0,0,0,0,0,1,0,2] (by kernel_rfl) (by kernel_rfl) (M.pick [1,2,3,4] (by decide)).drew ?_
                        replace M := M.drew
                        refine T_rd K (want_no rfl) rfl rfl (rd_field rfl fld49_2 K rfl) ?_; clear K; intro a K
                        refine T_rd K (want_no rfl) rfl rfl (rd_ldC rfl sc47 K rfl (inM 0 rfl) rfl) ?_; clear K; intro a K
                        refine T_rd K (want_no rfl) rfl rfl (rd_field rfl fld49_2 K rfl) ?_; clear K; intro a K
                        refine T_rd K (want_no rfl) rfl rfl (rd_ldC rfl sc47 K rfl (inM 3 rfl) rfl) ?_; clear K; intro a K
                        refine T_rd K (want_no rfl) rfl rfl (rd_move rfl K rfl) ?_; clear K; intro a K
                        refine T_rd K (want_no rfl) rfl rfl (rd_move rfl K rfl) ?_; clear K; intro a K
                        refine T_rd K (want_no rfl) rfl rfl (rd_field rfl fld51_2 K rfl) ?_; clear K; intro a K
                        refine T_rd K (want_no rfl) rfl rfl (rd_ldC rfl sc3 K rfl (inM 2 rfl) rfl) ?_; clear K; intro a K
                        refine T_rd K (want_no rfl) rfl rfl (rd_add rfl K rfl rfl) ?_; clear K; intro a K
                        obtain ⟨l3, h_l3, h⟩ := obind h
                        refine T_rd K (want_no rfl) rfl rfl (rd_slice (C := cIII) (k := .i64) (k' := .i64) rfl sl47 rfl K rfl C_d_P rfl rfl h_l3) ?_; clear K; intro a K
                        obtain ⟨x_P3, h_x_P3, h⟩ := obind h
                        refine T_ac K (want_no rfl) rfl rfl (ac_app (C := cIII) (xs := x_P) (ys := l3) rfl sl47 rfl z73 rfl rfl K rfl rfl 0 M rfl ((fun w M => (slA_SL h_l3 C_d_P) w ((inA R_d_P) w M)) _ M) h_x_P3) ?_
                        have M0 := M; clear K M; rintro _ a w ⟨A4, c4, rfl, M⟩ K
                        clear M0
                        refine ⟨M.pick [1,2,3,4] (by decide), ?_⟩
                        refine T_rd K (want_no rfl) rfl rfl (rd_field rfl fld49_2 K rfl) ?_; clear K; intro a K
                        refine T_a0z K (want_no rfl) rfl (ac_storeC rfl sc47 K rfl rfl rfl 1 M rfl rfl) ?_
                        have M0 := M; clear K M; rintro _ a w M K
                        clear M0
                        refine T_end ?_
                        refine inb_n ?_
                        refine then_n ?_
                        refine X_reg ?_
                        refine X_rd K (want_no rfl) rfl rfl (rd_add rfl K rfl rfl) M ?_; clear K; intro a K
                        refine X_rd K (want_no rfl) rfl rfl (rd_move rfl K rfl) M ?_; clear K; intro a K
                        refine wpList_nil ?_
                        exact then_n ⟨(x_P3, IntKind.i64.wrap (i + 1)), ⟨A4, c4, K.pick [2,3,4,8,79,80], M.pick [0,1,2,3,4] (by decide)⟩, h⟩
                      · have h := cfalse hb h
                        refine wp_exit ?_
                        refine then_e ?_
                        exact then_e (hk1 (x_P, i) _ _ ⟨A2, c2, K.pick [2,3,4,8,79,80], M.pick [0,1,2,3,4] (by decide)⟩ h)

set_option maxRecDepth 100000 in
set_option maxHeartbeats 4000000 in
theorem W_turn_moves (N : Nat)  (w0 : World)  (r : Bool × Bool × Bool × Bool × Bool × Bool × Bool × Bool × Bool × Bool × Bool × Bool × Bool × Bool × Bool × Bool × Bool × Bool × Bool × Bool × Bool × Bool × Bool × Bool × Bool × Bool × Bool) (h : D_turn_moves N  = some r) :
    Calls Try.prog 68 #[] w0 fun e w' => ∃ v, e = .returned v ∧ v = .agg #[.bool r.1, .bool r.2.1, .bool r.2.2.1, .bool r.2.2.2.1, .bool r.2.2.2.2.1, .bool r.2.2.2.2.2.1, .bool r.2.2.2.2.2.2.1, .bool r.2.2.2.2.2.2.2.1, .bool r.2.2.2.2.2.2.2.2.1, .bool r.2.2.2.2.2.2.2.2.2.1, .bool r.2.2.2.2.2.2.2.2.2.2.1, .bool r.2.2.2.2.2.2.2.2.2.2.2.1, .bool r.2.2.2.2.2.2.2.2.2.2.2.2.1, .bool r.2.2.2.2.2.2.2.2.2.2.2.2.2.1, .bool r.2.2.2.2.2.2.2.2.2.2.2.2.2.2.1, .bool r.2.2.2.2.2.2.2.2.2.2.2.2.2.2.2.1, .bool r.2.2.2.2.2.2.2.2.2.2.2.2.2.2.2.2.1, .bool r.2.2.2.2.2.2.2.2.2.2.2.2.2.2.2.2.2.1, .bool r.2.2.2.2.2.2.2.2.2.2.2.2.2.2.2.2.2.2.1, .bool r.2.2.2.2.2.2.2.2.2.2.2.2.2.2.2.2.2.2.2.1, .bool r.2.2.2.2.2.2.2.2.2.2.2.2.2.2.2.2.2.2.2.2.1, .bool r.2.2.2.2.2.2.2.2.2.2.2.2.2.2.2.2.2.2.2.2.2.1, .bool r.2.2.2.2.2.2.2.2.2.2.2.2.2.2.2.2.2.2.2.2.2.2.1, .bool r.2.2.2.2.2.2.2.2.2.2.2.2.2.2.2.2.2.2.2.2.2.2.2.1, .bool r.2.2.2.2.2.2.2.2.2.2.2.2.2.2.2.2.2.2.2.2.2.2.2.2.1, .bool r.2.2.2.2.2.2.2.2.2.2.2.2.2.2.2.2.2.2.2.2.2.2.2.2.2.1, .bool r.2.2.2.2.2.2.2.2.2.2.2.2.2.2.2.2.2.2.2.2.2.2.2.2.2.2] ∧ Mem w0.heap.size w0 w' [] := by
  refine X_enter Try.func68 rfl Try.ntmps68 rfl ?_
  intro a K
  have M := Mem.start w0
  have K : Kn a 10 [] := K
  unfold D_turn_moves at h
  refine wp_seq ?_
  refine X_reg ?_
  refine X_ac K (want_no rfl) rfl rfl (ac_alloc rfl z103 M) ?_
  have M0 := M; clear K M; rintro _ a w ⟨g_x, rfl, M⟩ K
  clear M0
  refine wpList_nil ?_
  refine then_n ?_
  refine wp_seq ?_
  refine X_reg ?_
  refine X_rd K (want_no rfl) rfl rfl (rd_build rfl K (vs := []) (cs := [.bool false, .bool false, .bool false]) rfl (by kernel_rfl)) M ?_; clear K; intro a K
  refine X_rd K (want_no rfl) rfl rfl (rd_build rfl K (vs := [(1, .bool true)]) (cs := [.bool false, .bool true, .bool false]) rfl (by kernel_rfl)) M ?_; clear K; intro a K
  refine X_rd K (want_no rfl) rfl rfl (rd_build rfl K (vs := [(1, .bool true), (2, .bool true)]) (cs := [.bool false, .bool true, .bool true]) rfl (by kernel_rfl)) M ?_; clear K; intro a K
  refine X_rd K (want_no rfl) rfl rfl (rd_build rfl K (vs := [(2, .bool true)]) (cs := [.bool false, .bool false, .bool true]) rfl (by kernel_rfl)) M ?_; clear K; intro a K
  refine X_rd K (want_no rfl) rfl rfl (rd_build rfl K (vs := [(0, .bool true)]) (cs := [.bool true, .bool false, .bool false]) rfl (by kernel_rfl)) M ?_; clear K; intro a K
  refine X_rd K (want_no rfl) rfl rfl (rd_build rfl K (vs := [(0, .bool true), (1, .bool true)]) (cs := [.bool true, .bool true, .bool false]) rfl (by kernel_rfl)) M ?_; clear K; intro a K
  refine X_rd K (want_no rfl) rfl rfl (rd_build rfl K (vs := [(0, .bool true), (1, .bool true), (2, .bool true)]) (cs := [.bool true, .bool true, .bool true]) rfl (by kernel_rfl)) M ?_; clear K; intro a K
  refine X_rd K (want_no rfl) rfl rfl (rd_build rfl K (vs := [(0, .bool true), (2, .bool true)]) (cs := [.bool true, .bool false, .bool true]) rfl (by kernel_rfl)) M ?_; clear K; intro a K
  refine X_rd K (want_no rfl) rfl rfl (rd_build rfl K (vs := [(1, .agg #[.bool false, .bool false, .bool false]), (2, .agg #[.bool false, .bool true, .bool false]), (3, .agg #[.bool false, .bool true, .bool true]), (4, .agg #[.bool false, .bool false, .bool true]), (5, .agg #[.bool true, .bool false, .bool false]), (6, .agg #[.bool true, .bool true, .bool false]), (7, .agg #[.bool true, .bool true, .bool true]), (8, .agg #[.bool true, .bool false, .bool true])]) (cs := [.bool false, .bool false, .bool false, .bool false, .bool false, .bool false, .bool false, .bool true, .bool false, .bool false, .bool true, .bool true, .bool false, .bool false, .bool true, .bool true, .bool false, .bool false, .bool true, .bool true, .bool false, .bool true, .bool true, .bool true, .bool true, .bool false, .bool true]) rfl (by kernel_rfl)) M ?_; clear K; intro a K
  refine X_a0 K (want_no rfl) rfl (ac_storeA rfl ty103 K rfl (ds := [.bool false, .bool false, .bool false, .bool false, .bool false, .bool false, .bool false, .bool true, .bool false, .bool false, .bool true, .bool true, .bool false, .bool false, .bool true, .bool true, .bool false, .bool false, .bool true, .bool true, .bool false, .bool true, .bool true, .bool true, .bool true, .bool false, .bool true]) rfl rfl 0 M rfl rfl rfl) ?_
  have M0 := M; clear K M; rintro _ a w M K
  clear M0
  refine wpList_nil ?_
  refine then_n ?_
  refine wp_ret ?_
  cases h
  exact ret1 K rfl (res_cellA K rfl ty103 (M.blkAt (i := 0) rfl) rfl) ⟨_, rfl, rfl, ((M).pick [] (by decide))⟩

set_option maxRecDepth 100000 in
set_option maxHeartbeats 4000000 in
theorem W_turn_swapped (N : Nat) (q_W : Int) (q_H : Int) (q_P : List (Int × Int × Int)) (A_q_P : Option Addr) (c_q_P : Nat) (w0 : World) (R_q_P : SL w0 cIII A_q_P q_P) (C_q_P : q_P.length ≤ c_q_P) (r : Int × Int × List (Int × Int × Int)) (h : D_turn_swapped N q_W q_H q_P = some r) :
    Calls Try.prog 69 #[.agg #[.int .i64 q_W, .int .i64 q_H, .slice A_q_P q_P.length c_q_P]] w0 fun e w' => ∃ v, e = .returned v ∧ ∃ A2 c2, v = .agg #[.int .i64 r.1, .int .i64 r.2.1, .slice A2 r.2.2.length c2] ∧ Mem w0.heap.size w0 w' [.row 73 3 A2 r.2.2.length c2 (cIII.all r.2.2)] := by
  refine X_enter Try.func69 rfl Try.ntmps69 rfl ?_
  intro a K
  have M := Mem.start w0
  have K : Kn a 41 [(0, .agg #[.int .i64 q_W, .int .i64 q_H, .slice A_q_P q_P.length c_q_P])] := K
  unfold D_turn_swapped at h
  refine wp_seq ?_
  refine X_reg ?_
  refine X_ac K (want_no rfl) rfl rfl (ac_box rfl K rfl (cs := [.int .i64 q_W, .int .i64 q_H, .slice A_q_P q_P.length c_q_P]) rfl M) ?_
  have M0 := M; clear K M; rintro _ a w ⟨g_q, rfl, M⟩ K
  clear M0
  refine X_ac K (want_no rfl) rfl rfl (ac_alloc rfl z49 M) ?_
  have M0 := M; clear K M; rintro _ a w ⟨g_x, rfl, M⟩ K
  clear M0
  refine wpList_nil ?_
  refine then_n ?_
  refine wp_seq ?_
  refine wp_region_tr (fun w => Mem _ _ w _) [0,0,0,0,0,0,0,1,0,1,2] 11 [0,1,2,3,4,5,6,7,8,9,10] (by kernel_rfl) (by kernel_rfl) (by kernel_rfl) rfl M.drew ?_
  replace M := M.drew
  refine R_rd 0 [1,2,3,4,5,6,7,8,9,10] (by kernel_rfl) rfl K (want_no rfl) rfl rfl (rd_field rfl fld49_1 K rfl) ?_; clear K; intro a K
  refine R_rd 1 [2,3,4,5,6,7,8,9,10] (by kernel_rfl) rfl K (want_no rfl) rfl rfl (rd_ldC rfl sc3 K rfl (inM 1 rfl) rfl) ?_; clear K; intro a K
  refine R_rd 2 [3,4,5,6,7,8,9,10] (by kernel_rfl) rfl K (want_no rfl) rfl rfl (rd_field rfl fld49_0 K rfl) ?_; clear K; intro a K
  refine R_rd 3 [4,5,6,7,8,9,10] (by kernel_rfl) rfl K (want_no rfl) rfl rfl (rd_ldC rfl sc3 K rfl (inM 1 rfl) rfl) ?_; clear K; intro a K
  refine R_rd 4 [5,6,7,8,9,10] (by kernel_rfl) rfl K (want_no rfl) rfl rfl (rd_field rfl fld49_2 K rfl) ?_; clear K; intro a K
  refine R_rd 5 [6,7,8,9,10] (by kernel_rfl) rfl K (want_no rfl) rfl rfl (rd_ldC rfl sc47 K rfl (inM 1 rfl) rfl) ?_; clear K; intro a K
  obtain ⟨x2, hx, h⟩ := olet h
  refine R_rd 6 [7,8,9,10] (by kernel_rfl) rfl K (want_no rfl) rfl rfl (rdi hx (rd_len rfl un47 K rfl)) ?_; clear K; intro a K
  refine R_br [7,9] (by kernel_rfl) ⟨?_, ?_, trivial⟩
  ·
    obtain ⟨l2, h_l2, h⟩ := obind h
    refine R_ac [8,9,10] (by kernel_rfl) rfl K (want_no rfl) rfl rfl (ac_make (C := cIII) (z := (0, 0, 0)) rfl sl47 rfl z73 rfl K rfl rfl M h_l2) ?_
    have M0 := M; clear K M; rintro _ a w ⟨A, c, rfl, M⟩ K
    clear M0
    refine ⟨fun _ => M.pick [1,2] (by decide), ?_⟩
    refine R_rd 8 [9,10] (by kernel_rfl) rfl K (want_no rfl) rfl rfl (rd_build rfl K (vs := [(0, .int .i64 q_H), (1, .int .i64 q_W), (2, .slice A l2.length c)]) (cs := [.int .i64 q_H, .int .i64 q_W, .slice A l2.length c]) rfl (by kernel_rfl)) ?_; clear K; intro a K
    refine R_br [9] (by kernel_rfl) ⟨?_, trivial⟩
    refine R_ac [10] (by kernel_rfl) rfl K (want_no rfl) rfl rfl (ac_alloc rfl z49 M) ?_
    have M0 := M; clear K M; rintro _ a w ⟨g_out, rfl, M⟩ K
    clear M0
    refine ⟨fun _ => M.pick [2,3] (by decide), ?_⟩
    refine R_br [10] (by kernel_rfl) ⟨?_, trivial⟩
    refine R_a0 [] (by kernel_rfl) rfl K (want_no rfl) rfl (ac_storeA rfl ty49 K rfl (ds := [.int .i64 q_H, .int .i64 q_W, .slice A l2.length c]) rfl rfl 0 M rfl rfl rfl) ?_
    have M0 := M; clear K M; rintro _ a w M K
    clear M0
    refine ⟨fun h => absurd h (by decide), ?_⟩
    refine R_end ?_
    refine then_n ?_
    refine wp_seq ?_
    refine wp_seq ?_
    refine X_reg ?_
    refine X_rd K (want_no rfl) rfl rfl (rd_field rfl fld49_2 K rfl) M ?_; clear K; intro a K
    refine X_rd K (want_no rfl) rfl rfl (rd_ldC rfl sc47 K rfl (inM 3 rfl) rfl) M ?_; clear K; intro a K
    refine X_rd K (want_no rfl) rfl rfl (rd_len rfl un47 K rfl) M ?_; clear K; intro a K
    refine X_rd K (want_no rfl) rfl rfl (rd_move rfl K rfl) M ?_; clear K; intro a K
    refine wpList_nil ?_
    refine then_n ?_
    refine wp_block ?_
    refine X_lp (id := 0) (Rel := fun (⟨out_P, i⟩ : List (Int × Int × Int) × Int) a w => ∃ (A2 : Option Addr) (c2 : Nat), Kn a 41 [(1, .pointer (some ⟨g_q, 0, none⟩)), (2, .pointer (some ⟨g_x, 0, none⟩)), (3, .pointer (some ⟨g_out, 0, none⟩)), (16, .slice A_q_P q_P.length c_q_P), (17, .int .i64 (q_P.length : Int)), (18, .int .i64 i)] ∧ Mem w0.heap.size w0 w [.blk g_out 49 [.int .i64 q_H, .int .i64 q_W, .slice A2 out_P.length c2], .row 73 3 A2 out_P.length c2 (cIII.all out_P), .blk g_x 49 [.int .i64 0, .int .i64 0, .slice none (([] : List (Int × Int × Int))).length 0], .blk g_q 49 [.int .i64 q_W, .int .i64 q_H, .slice A_q_P q_P.length c_q_P]]) h (fun _ _ => rfl) ⟨A, c, K.pick [1,2,3,16,17,18], M.pick [0,1,2,3] (by decide)⟩ ?_ ?_
    · clear K M h
      rintro ⟨out_P2, i2⟩ a w ⟨A3, c3, K, M⟩ h
      try dsimp only at h
      refine inb_e ?_
      refine then_n ?_
      refine wp_seq ?_
      refine X_reg ?_
      refine X_rd K (want_no rfl) rfl rfl (rd_ldA rfl ty49 K rfl (inM 0 rfl) rfl rfl) M ?_; clear K; intro a K
      refine X_a0 K (want_no rfl) rfl (ac_storeA rfl ty49 K rfl (ds := [.int .i64 q_H, .int .i64 q_W, .slice A3 out_P2.length c3]) rfl rfl 2 M rfl rfl rfl) ?_
      have M0 := M; clear K M; rintro _ a w M K
      clear M0
      refine wpList_nil ?_
      refine then_n ?_
      refine wp_ret ?_
      cases h
      exact ret1 K rfl (res_cellA K rfl ty49 (M.blkAt (i := 2) rfl) rfl) ⟨_, rfl, _, _, rfl, ((M).pick [1] (by decide))⟩
    · clear K M h
      rintro kk fuel ⟨out_P, i⟩ a w hk1 ⟨A2, c2, K, M⟩ h
      unfold D_turn_swapped_l1 at h
      refine wp_seq ?_
      refine X_reg ?_
      refine X_rd K (want_no rfl) rfl rfl (rd_lss rfl K rfl rfl) M ?_; clear K; intro a K
      refine wpList_nil ?_
      refine then_n ?_
      refine wp_seq ?_
      refine X_cond K rfl (fun hb => ?_) (fun hb => ?_)
      · have h := ctrue hb h
        refine wp_skip ?_
        refine then_n ?_
        refine wp_seq ?_
        refine wp_block ?_
        refine wp_seq ?_
        refine X_reg ?_
        refine X_rd K (want_no rfl) rfl rfl (rd_move rfl K rfl) M ?_; clear K; intro a K
        obtain ⟨e3, h_e3, h⟩ := obind h
        refine X_rd K (want_no rfl) rfl rfl (rd_ix rfl sl47 K rfl rfl (inA R_q_P) h_e3) M ?_; clear K; intro a K
        refine X_rd K (want_no rfl) rfl rfl (rd_elA rfl ty73 K rfl rfl rfl (inA R_q_P) h_e3) M ?_; clear K; intro a K
        refine X_ac K (want_no rfl) rfl rfl (ac_alloc rfl z73 M) ?_
        have M0 := M; clear K M; rintro _ a w ⟨g_c2, rfl, M⟩ K
        clear M0
        refine X_rd K (want_no rfl) rfl rfl (rd_assign rfl K rfl) M ?_; clear K; intro a K
        refine X_a0 K (want_no rfl) rfl (ac_storeA rfl ty73 K rfl (ds := [.int .i64 e3.1, .int .i64 e3.2.1, .int .i64 e3.2.2]) rfl rfl 0 M rfl rfl rfl) ?_
        have M0 := M; clear K M; rintro _ a w M K
        clear M0
        refine wpList_nil ?_
        refine then_n ?_
        refine wp_region_tl (fun w => Mem _ _ w _) [0,0,0,0,0,0,0,0,0,0,0,0,0,0,0,0,2] (by kernel_rfl) (by kernel_rfl) M.drew ?_
        replace M := M.drew
        refine T_rd K (want_no rfl) rfl rfl (rd_field rfl fld49_2 K rfl) ?_; clear K; intro a K
        refine T_rd K (want_no rfl) rfl rfl (rd_ldC rfl sc47 K rfl (inM 1 rfl) rfl) ?_; clear K; intro a K
        refine T_rd K (want_no rfl) rfl rfl (rd_move rfl K rfl) ?_; clear K; intro a K
        refine T_rd K (want_no rfl) rfl rfl (rd_field rfl fld49_0 K rfl) ?_; clear K; intro a K
        refine T_rd K (want_no rfl) rfl rfl (rd_ldC rfl sc3 K rfl (inM 4 rfl) rfl) ?_; clear K; intro a K
        obtain ⟨_, h0, h⟩ := obind h
        have h0 := nz_spec h0
        refine T_rd K (want_no rfl) rfl rfl (rd_rem rfl K rfl rfl h0) ?_; clear K; intro a K
        refine T_rd K (want_no rfl) rfl rfl (rd_field rfl fld49_1 K rfl) ?_; clear K; intro a K
        refine T_rd K (want_no rfl) rfl rfl (rd_ldC rfl sc3 K rfl (inM 4 rfl) rfl) ?_; clear K; intro a K
        refine T_rd K (want_no rfl) rfl rfl (rd_mul rfl K rfl rfl) ?_; clear K; intro a K
        refine T_rd K (want_no rfl) rfl rfl (rd_move rfl K rfl) ?_; clear K; intro a K
        refine T_rd K (want_no rfl) rfl rfl (rd_field rfl fld49_0 K rfl) ?_; clear K; intro a K
        refine T_rd K (want_no rfl) rfl rfl (rd_ldC rfl sc3 K rfl (inM 4 rfl) rfl) ?_; clear K; intro a K
        obtain ⟨_, h0, h⟩ := obind h
        have h0 := nz_spec h0
        refine T_rd K (want_no rfl) rfl rfl (rd_quo rfl K rfl rfl h0) ?_; clear K; intro a K
        refine T_rd K (want_no rfl) rfl rfl (rd_add rfl K rfl rfl) ?_; clear K; intro a K
        refine T_rd K (want_no rfl) rfl rfl (rd_ldA rfl ty73 K rfl (inM 0 rfl) rfl rfl) ?_; clear K; intro a K
        obtain ⟨e4, h_e4, h⟩ := obind h
        refine T_rd K (want_no rfl) rfl rfl (rd_ix rfl sl47 K rfl rfl (inR (C := cIII) 2 rfl rfl) h_e4) ?_; clear K; intro a K
        obtain ⟨l4, h_l4, h⟩ := obind h
        refine T_a0z K (want_no rfl) rfl (ac_rowset (el := (e3.1, e3.2.1, e3.2.2)) rfl sz73 rfl rfl K rfl rfl rfl 2 M rfl h_l4) ?_
        have M0 := M; clear K M; rintro _ a w M K
        have hl := setL_len h_l4
        try rw [hl] at M
        clear hl
        clear M0
        refine T_end ?_
        refine inb_n ?_
        refine then_n ?_
        refine X_reg ?_
        refine X_rd K (want_no rfl) rfl rfl (rd_add rfl K rfl rfl) M ?_; clear K; intro a K
        refine X_rd K (want_no rfl) rfl rfl (rd_move rfl K rfl) M ?_; clear K; intro a K
        refine wpList_nil ?_
        exact then_n ⟨(l4, IntKind.i64.wrap (i + 1)), ⟨A2, c2, K.pick [1,2,3,16,17,18], M.pick [1,2,3,4] (by decide)⟩, h⟩
      · have h := cfalse hb h
        refine wp_exit ?_
        refine then_e ?_
        exact then_e (hk1 (out_P, i) _ _ ⟨A2, c2, K.pick [1,2,3,16,17,18], M.pick [0,1,2,3] (by decide)⟩ h)
  ·
    refine R_ac [7,8,10] (by kernel_rfl) rfl K (want_no rfl) rfl rfl (ac_alloc rfl z49 M) ?_
    have M0 := M; clear K M; rintro _ a w ⟨g_out2, rfl, M⟩ K
    clear M0
    refine ⟨fun _ => M.pick [1,2] (by decide), ?_⟩
    refine R_br [7] (by kernel_rfl) ⟨?_, trivial⟩
    obtain ⟨l5, h_l5, h⟩ := obind h
    refine R_ac [8,10] (by kernel_rfl) rfl K (want_no rfl) rfl rfl (ac_make (C := cIII) (z := (0, 0, 0)) rfl sl47 rfl z73 rfl K rfl rfl M h_l5) ?_
    have M0 := M; clear K M; rintro _ a w ⟨A4, c4, rfl, M⟩ K
    clear M0
    refine ⟨fun _ => M.pick [2,3] (by decide), ?_⟩
    refine R_rd 8 [10] (by kernel_rfl) rfl K (want_no rfl) rfl rfl (rd_build rfl K (vs := [(0, .int .i64 q_H), (1, .int .i64 q_W), (2, .slice A4 l5.length c4)]) (cs := [.int .i64 q_H, .int .i64 q_W, .slice A4 l5.length c4]) rfl (by kernel_rfl)) ?_; clear K; intro a K
    refine R_br [10] (by kernel_rfl) ⟨?_, trivial⟩
    refine R_a0 [] (by kernel_rfl) rfl K (want_no rfl) rfl (ac_storeA rfl ty49 K rfl (ds := [.int .i64 q_H, .int .i64 q_W, .slice A4 l5.length c4]) rfl rfl 1 M rfl rfl rfl) ?_
    have M0 := M; clear K M; rintro _ a w M K
    clear M0
    refine ⟨fun h => absurd h (by decide), ?_⟩
    refine R_end ?_
    refine then_n ?_
    refine wp_seq ?_
    refine wp_seq ?_
    refine X_reg ?_
    refine X_rd K (want_no rfl) rfl rfl (rd_field rfl fld49_2 K rfl) M ?_; clear K; intro a K
    refine X_rd K (want_no rfl) rfl rfl (rd_ldC rfl sc47 K rfl (inM 3 rfl) rfl) M ?_; clear K; intro a K
    refine X_rd K (want_no rfl) rfl rfl (rd_len rfl un47 K rfl) M ?_; clear K; intro a K
    refine X_rd K (want_no rfl) rfl rfl (rd_move rfl K rfl) M ?_; clear K; intro a K
    refine wpList_nil ?_
    refine then_n ?_
    refine wp_block ?_
    refine X_lp (id := 0) (Rel := fun (⟨out_P3, i3⟩ : List (Int × Int × Int) × Int) a w => ∃ (A5 : Option Addr) (c5 : Nat), Kn a 41 [(1, .pointer (some ⟨g_q, 0, none⟩)), (2, .pointer (some ⟨g_x, 0, none⟩)), (3, .pointer (some ⟨g_out2, 0, none⟩)), (16, .slice A_q_P q_P.length c_q_P), (17, .int .i64 (q_P.length : Int)), (18, .int .i64 i3)] ∧ Mem w0.heap.size w0 w [.row 73 3 A5 out_P3.length c5 (cIII.all out_P3), .blk g_out2 49 [.int .i64 q_H, .int .i64 q_W, .slice A5 out_P3.length c5], .blk g_x 49 [.int .i64 0, .int .i64 0, .slice none (([] : List (Int × Int × Int))).length 0], .blk g_q 49 [.int .i64 q_W, .int .i64 q_H, .slice A_q_P q_P.length c_q_P]]) h (fun _ _ => rfl) ⟨A4, c4, K.pick [1,2,3,16,17,18], M.pick [0,1,2,3] (by decide)⟩ ?_ ?_
    · clear K M h
      rintro ⟨out_P4, i4⟩ a w ⟨A6, c6, K, M⟩ h
      try dsimp only at h
      refine inb_e ?_
      refine then_n ?_
      refine wp_seq ?_
      refine X_reg ?_
      refine X_rd K (want_no rfl) rfl rfl (rd_ldA rfl ty49 K rfl (inM 1 rfl) rfl rfl) M ?_; clear K; intro a K
      refine X_a0 K (want_no rfl) rfl (ac_storeA rfl ty49 K rfl (ds := [.int .i64 q_H, .int .i64 q_W, .slice A6 out_P4.length c6]) rfl rfl 2 M rfl rfl rfl) ?_
      have M0 := M; clear K M; rintro _ a w M K
      clear M0
      refine wpList_nil ?_
      refine then_n ?_
      refine wp_ret ?_
      cases h
      exact ret1 K rfl (res_cellA K rfl ty49 (M.blkAt (i := 2) rfl) rfl) ⟨_, rfl, _, _, rfl, ((M).pick [0] (by decide))⟩
    · clear K M h
      rintro kk fuel ⟨out_P3, i3⟩ a w hk1 ⟨A5, c5, K, M⟩ h
      unfold D_turn_swapped_l1 at h
      refine wp_seq ?_
      refine X_reg ?_
      refine X_rd K (want_no rfl) rfl rfl (rd_lss rfl K rfl rfl) M ?_; clear K; intro a K
      refine wpList_nil ?_
      refine then_n ?_
      refine wp_seq ?_
      refine X_cond K rfl (fun hb => ?_) (fun hb => ?_)
      · have h := ctrue hb h
        refine wp_skip ?_
        refine then_n ?_
        refine wp_seq ?_
        refine wp_block ?_
        refine wp_seq ?_
        refine X_reg ?_
        refine X_rd K (want_no rfl) rfl rfl (rd_move rfl K rfl) M ?_; clear K; intro a K
        obtain ⟨e7, h_e7, h⟩ := obind h
        refine X_rd K (want_no rfl) rfl rfl (rd_ix rfl sl47 K rfl rfl (inA R_q_P) h_e7) M ?_; clear K; intro a K
        refine X_rd K (want_no rfl) rfl rfl (rd_elA rfl ty73 K rfl rfl rfl (inA R_q_P) h_e7) M ?_; clear K; intro a K
        refine X_ac K (want_no rfl) rfl rfl (ac_alloc rfl z73 M) ?_
        have M0 := M; clear K M; rintro _ a w ⟨g_c4, rfl, M⟩ K
        clear M0
        refine X_rd K (want_no rfl) rfl rfl (rd_assign rfl K rfl) M ?_; clear K; intro a K
        refine X_a0 K (want_no rfl) rfl (ac_storeA rfl ty73 K rfl (ds := [.int .i64 e7.1, .int .i64 e7.2.1, .int .i64 e7.2.2]) rfl rfl 0 M rfl rfl rfl) ?_
        have M0 := M; clear K M; rintro _ a w M K
        clear M0
        refine wpList_nil ?_
        refine then_n ?_
        refine wp_region_tl (fun w => Mem _ _ w _) [0,0,0,0,0,0,0,0,0,0,0,0,0,0,0,0,2] (by kernel_rfl) (by kernel_rfl) M.drew ?_
        replace M := M.drew
        refine T_rd K (want_no rfl) rfl rfl (rd_field rfl fld49_2 K rfl) ?_; clear K; intro a K
        refine T_rd K (want_no rfl) rfl rfl (rd_ldC rfl sc47 K rfl (inM 2 rfl) rfl) ?_; clear K; intro a K
        refine T_rd K (want_no rfl) rfl rfl (rd_move rfl K rfl) ?_; clear K; intro a K
        refine T_rd K (want_no rfl) rfl rfl (rd_field rfl fld49_0 K rfl) ?_; clear K; intro a K
        refine T_rd K (want_no rfl) rfl rfl (rd_ldC rfl sc3 K rfl (inM 4 rfl) rfl) ?_; clear K; intro a K
        obtain ⟨_, h0, h⟩ := obind h
        have h0 := nz_spec h0
        refine T_rd K (want_no rfl) rfl rfl (rd_rem rfl K rfl rfl h0) ?_; clear K; intro a K
        refine T_rd K (want_no rfl) rfl rfl (rd_field rfl fld49_1 K rfl) ?_; clear K; intro a K
        refine T_rd K (want_no rfl) rfl rfl (rd_ldC rfl sc3 K rfl (inM 4 rfl) rfl) ?_; clear K; intro a K
        refine T_rd K (want_no rfl) rfl rfl (rd_mul rfl K rfl rfl) ?_; clear K; intro a K
        refine T_rd K (want_no rfl) rfl rfl (rd_move rfl K rfl) ?_; clear K; intro a K
        refine T_rd K (want_no rfl) rfl rfl (rd_field rfl fld49_0 K rfl) ?_; clear K; intro a K
        refine T_rd K (want_no rfl) rfl rfl (rd_ldC rfl sc3 K rfl (inM 4 rfl) rfl) ?_; clear K; intro a K
        obtain ⟨_, h0, h⟩ := obind h
        have h0 := nz_spec h0
        refine T_rd K (want_no rfl) rfl rfl (rd_quo rfl K rfl rfl h0) ?_; clear K; intro a K
        refine T_rd K (want_no rfl) rfl rfl (rd_add rfl K rfl rfl) ?_; clear K; intro a K
        refine T_rd K (want_no rfl) rfl rfl (rd_ldA rfl ty73 K rfl (inM 0 rfl) rfl rfl) ?_; clear K; intro a K
        obtain ⟨e8, h_e8, h⟩ := obind h
        refine T_rd K (want_no rfl) rfl rfl (rd_ix rfl sl47 K rfl rfl (inR (C := cIII) 1 rfl rfl) h_e8) ?_; clear K; intro a K
        obtain ⟨l7, h_l7, h⟩ := obind h
        refine T_a0z K (want_no rfl) rfl (ac_rowset (el := (e7.1, e7.2.1, e7.2.2)) rfl sz73 rfl rfl K rfl rfl rfl 1 M rfl h_l7) ?_
        have M0 := M; clear K M; rintro _ a w M K
        have hl := setL_len h_l7
        try rw [hl] at M
        clear hl
        clear M0
        refine T_end ?_
        refine inb_n ?_
        refine then_n ?_
        refine X_reg ?_
        refine X_rd K (want_no rfl) rfl rfl (rd_add rfl K rfl rfl) M ?_; clear K; intro a K
        refine X_rd K (want_no rfl) rfl rfl (rd_move rfl K rfl) M ?_; clear K; intro a K
        refine wpList_nil ?_
        exact then_n ⟨(l7, IntKind.i64.wrap (i3 + 1)), ⟨A5, c5, K.pick [1,2,3,16,17,18], M.pick [1,2,3,4] (by decide)⟩, h⟩
      · have h := cfalse hb h
        refine wp_exit ?_
        refine then_e ?_
        exact then_e (hk1 (out_P3, i3) _ _ ⟨A5, c5, K.pick [1,2,3,16,17,18], M.pick [0,1,2,3] (by decide)⟩ h)

set_option maxRecDepth 100000 in
set_option maxHeartbeats 4000000 in
theorem W_turn_Turn_1 (N : Nat) (x2 : Int) (y : Int) (v0_W : Int) (v0_H : Int) (v0_P : List (Int × Int × Int)) (A_v0_P : Option Addr) (c_v0_P : Nat) (g_v0 : Nat) (w0 : World) (R_v0_P : SL w0 cIII A_v0_P v0_P) (C_v0_P : v0_P.length ≤ c_v0_P) (B_g_v0 : Blk w0 g_v0 49 #[.int .i64 v0_W, .int .i64 v0_H, .slice A_v0_P v0_P.length c_v0_P]) (r : Int) (h : D_turn_Turn_1 N x2 y v0_W v0_H v0_P = some r) :
    Calls Try.prog 71 #[.int .i64 x2, .int .i64 y, .pointer (some ⟨g_v0, 0, none⟩)] w0 fun e w' => ∃ v, e = .returned v ∧ v = .int .i64 r ∧ Mem w0.heap.size w0 w' [] := by
  refine X_enter Try.func71 rfl Try.ntmps71 rfl ?_
  intro a K
  have M := Mem.start w0
  have K : Kn a 16 [(0, .int .i64 x2), (1, .int .i64 y), (2, .pointer (some ⟨g_v0, 0, none⟩))] := K
  unfold D_turn_Turn_1 at h
  refine wp_seq ?_
  refine X_reg ?_
  refine X_rd K (want_no rfl) rfl rfl (rd_assign rfl K rfl) M ?_; clear K; intro a K
  refine wpList_nil ?_
  refine then_n ?_
  refine wp_seq ?_
  refine X_reg ?_
  refine X_rd K (want_no rfl) rfl rfl (rd_move rfl K rfl) M ?_; clear K; intro a K
  refine X_rd K (want_no rfl) rfl rfl (rd_field rfl fld49_0 K rfl) M ?_; clear K; intro a K
  refine X_rd K (want_no rfl) rfl rfl (rd_ldC rfl sc3 K rfl (inO B_g_v0) rfl) M ?_; clear K; intro a K
  refine X_rd K (want_no rfl) rfl rfl (rd_mul rfl K rfl rfl) M ?_; clear K; intro a K
  refine X_rd K (want_no rfl) rfl rfl (rd_field rfl fld49_0 K rfl) M ?_; clear K; intro a K
  refine X_rd K (want_no rfl) rfl rfl (rd_ldC rfl sc3 K rfl (inO B_g_v0) rfl) M ?_; clear K; intro a K
  refine X_rd K (want_no rfl) rfl rfl (rd_add rfl K rfl rfl) M ?_; clear K; intro a K
  refine X_rd K (want_no rfl) rfl rfl (rd_sub rfl K rfl rfl) M ?_; clear K; intro a K
  refine X_rd K (want_no rfl) rfl rfl (rd_move rfl K rfl) M ?_; clear K; intro a K
  refine X_rd K (want_no rfl) rfl rfl (rd_sub rfl K rfl rfl) M ?_; clear K; intro a K
  refine X_rd K (want_no rfl) rfl rfl (rd_assign rfl K rfl) M ?_; clear K; intro a K
  refine wpList_nil ?_
  refine then_n ?_
  refine wp_ret ?_
  cases h
  exact ret1 K rfl (res_tmp K rfl) ⟨_, rfl, rfl, ((M).pick [] (by decide))⟩

set_option maxRecDepth 100000 in
set_option maxHeartbeats 4000000 in
theorem W_turn_changed__turn_Turn_1 (N : Nat) (q_W : Int) (q_H : Int) (q_P : List (Int × Int × Int)) (A_q_P : Option Addr) (c_q_P : Nat) (Turn_1_0_W : Int) (Turn_1_0_H : Int) (Turn_1_0_P : List (Int × Int × Int)) (A_Turn_1_0_P : Option Addr) (c_Turn_1_0_P : Nat) (g_Turn_1_0 : Nat) (w0 : World) (R_q_P : SL w0 cIII A_q_P q_P) (C_q_P : q_P.length ≤ c_q_P) (R_Turn_1_0_P : SL w0 cIII A_Turn_1_0_P Turn_1_0_P) (C_Turn_1_0_P : Turn_1_0_P.length ≤ c_Turn_1_0_P) (B_g_Turn_1_0 : Blk w0 g_Turn_1_0 49 #[.int .i64 Turn_1_0_W, .int .i64 Turn_1_0_H, .slice A_Turn_1_0_P Turn_1_0_P.length c_Turn_1_0_P]) (r : Int × Int × List (Int × Int × Int)) (h : D_turn_changed__turn_Turn_1 N q_W q_H q_P Turn_1_0_W Turn_1_0_H Turn_1_0_P = some r) :
    Calls Try.prog 70 #[.agg #[.int .i64 q_W, .int .i64 q_H, .slice A_q_P q_P.length c_q_P], .func (.func 71) #[] #[.pointer (some ⟨g_Turn_1_0, 0, none⟩)]] w0 fun e w' => ∃ v, e = .returned v ∧ ∃ A2 c2, v = .agg #[.int .i64 r.1, .int .i64 r.2.1, .slice A2 r.2.2.length c2] ∧ Mem w0.heap.size w0 w' [.row 73 3 A2 r.2.2.length c2 (cIII.all r.2.2)] := by
  refine X_enter Try.func70 rfl Try.ntmps70 rfl ?_
  intro a K
  have M := Mem.start w0
  have K : Kn a 41 [(0, .agg #[.int .i64 q_W, .int .i64 q_H, .slice A_q_P q_P.length c_q_P]), (1, .func (.func 71) #[] #[.pointer (some ⟨g_Turn_1_0, 0, none⟩)])] := K
  unfold D_turn_changed__turn_Turn_1 at h
  refine wp_seq ?_
  refine X_reg ?_
  refine X_ac K (want_no rfl) rfl rfl (ac_box rfl K rfl (cs := [.int .i64 q_W, .int .i64 q_H, .slice A_q_P q_P.length c_q_P]) rfl M) ?_
  have M0 := M; clear K M; rintro _ a w ⟨g_q, rfl, M⟩ K
  clear M0
  refine X_ac K (want_no rfl) rfl rfl (ac_alloc rfl z49 M) ?_
  have M0 := M; clear K M; rintro _ a w ⟨g_x, rfl, M⟩ K
  clear M0
  refine wpList_nil ?_
  refine then_n ?_
  refine wp_seq ?_
  refine wp_region_tr (fun w => Mem _ _ w _) [0,0,0,0,0,0,0,1,0,1,2] 11 [0,1,2,3,4,5,6,7,8,9,10] (by kernel_rfl) (by kernel_rfl) (by kernel_rfl) rfl M.drew ?_
  replace M := M.drew
  refine R_rd 0 [1,2,3,4,5,6,7,8,9,10] (by kernel_rfl) rfl K (want_no rfl) rfl rfl (rd_field rfl fld49_0 K rfl) ?_; clear K; intro a K
  refine R_rd 1 [2,3,4,5,6,7,8,9,10] (by kernel_rfl) rfl K (want_no rfl) rfl rfl (rd_ldC rfl sc3 K rfl (inM 1 rfl) rfl) ?_; clear K; intro a K
  refine R_rd 2 [3,4,5,6,7,8,9,10] (by kernel_rfl) rfl K (want_no rfl) rfl rfl (rd_field rfl fld49_1 K rfl) ?_; clear K; intro a K
  refine R_rd 3 [4,5,6,7,8,9,10] (by kernel_rfl) rfl K (want_no rfl) rfl rfl (rd_ldC rfl sc3 K rfl (inM 1 rfl) rfl) ?_; clear K; intro a K
  refine R_rd 4 [5,6,7,8,9,10] (by kernel_rfl) rfl K (want_no rfl) rfl rfl (rd_field rfl fld49_2 K rfl) ?_; clear K; intro a K
  refine R_rd 5 [6,7,8,9,10] (by kernel_rfl) rfl K (want_no rfl) rfl rfl (rd_ldC rfl sc47 K rfl (inM 1 rfl) rfl) ?_; clear K; intro a K
  obtain ⟨x2, hx, h⟩ := olet h
  refine R_rd 6 [7,8,9,10] (by kernel_rfl) rfl K (want_no rfl) rfl rfl (rdi hx (rd_len rfl un47 K rfl)) ?_; clear K; intro a K
  refine R_br [7,9] (by kernel_rfl) ⟨?_, ?_, trivial⟩
  ·
    obtain ⟨l2, h_l2, h⟩ := obind h
    refine R_ac [8,9,10] (by kernel_rfl) rfl K (want_no rfl) rfl rfl (ac_make (C := cIII) (z := (0, 0, 0)) rfl sl47 rfl z73 rfl K rfl rfl M h_l2) ?_
    have M0 := M; clear K M; rintro _ a w ⟨A, c, rfl, M⟩ K
    clear M0
    refine ⟨fun _ => M.pick [1,2] (by decide), ?_⟩
    refine R_rd 8 [9,10] (by kernel_rfl) rfl K (want_no rfl) rfl rfl (rd_build rfl K (vs := [(0, .int .i64 q_W), (1, .int .i64 q_H), (2, .slice A l2.length c)]) (cs := [.int .i64 q_W, .int .i64 q_H, .slice A l2.length c]) rfl (by kernel_rfl)) ?_; clear K; intro a K
    refine R_br [9] (by kernel_rfl) ⟨?_, trivial⟩
    refine R_ac [10] (by kernel_rfl) rfl K (want_no rfl) rfl rfl (ac_alloc rfl z49 M) ?_
    have M0 := M; clear K M; rintro _ a w ⟨g_out, rfl, M⟩ K
    clear M0
    refine ⟨fun _ => M.pick [2,3] (by decide), ?_⟩
    refine R_br [10] (by kernel_rfl) ⟨?_, trivial⟩
    refine R_a0 [] (by kernel_rfl) rfl K (want_no rfl) rfl (ac_storeA rfl ty49 K rfl (ds := [.int .i64 q_W, .int .i64 q_H, .slice A l2.length c]) rfl rfl 0 M rfl rfl rfl) ?_
    have M0 := M; clear K M; rintro _ a w M K
    clear M0
    refine ⟨fun h => absurd h (by decide), ?_⟩
    refine R_end ?_
    refine then_n ?_
    refine wp_seq ?_
    refine wp_seq ?_
    refine X_reg ?_
    refine X_rd K (want_no rfl) rfl rfl (rd_field rfl fld49_2 K rfl) M ?_; clear K; intro a K
    refine X_rd K (want_no rfl) rfl rfl (rd_ldC rfl sc47 K rfl (inM 3 rfl) rfl) M ?_; clear K; intro a K
    refine X_rd K (want_no rfl) rfl rfl (rd_len rfl un47 K rfl) M ?_; clear K; intro a K
    refine X_rd K (want_no rfl) rfl rfl (rd_move rfl K rfl) M ?_; clear K; intro a K
    refine wpList_nil ?_
    refine then_n ?_
    refine wp_block ?_
    refine X_lp (id := 0) (Rel := fun (⟨out_P, i⟩ : List (Int × Int × Int) × Int) a w => ∃ (A2 : Option Addr) (c2 : Nat), Kn a 41 [(1, .func (.func 71) #[] #[.pointer (some ⟨g_Turn_1_0, 0, none⟩)]), (2, .pointer (some ⟨g_q, 0, none⟩)), (4, .pointer (some ⟨g_x, 0, none⟩)), (5, .pointer (some ⟨g_out, 0, none⟩)), (18, .slice A_q_P q_P.length c_q_P), (19, .int .i64 (q_P.length : Int)), (20, .int .i64 i)] ∧ Mem w0.heap.size w0 w [.blk g_out 49 [.int .i64 q_W, .int .i64 q_H, .slice A2 out_P.length c2], .row 73 3 A2 out_P.length c2 (cIII.all out_P), .blk g_x 49 [.int .i64 0, .int .i64 0, .slice none (([] : List (Int × Int × Int))).length 0], .blk g_q 49 [.int .i64 q_W, .int .i64 q_H, .slice A_q_P q_P.length c_q_P]]) h (fun _ _ => rfl) ⟨A, c, K.pick [1,2,4,5,18,19,20], M.pick [0,1,2,3] (by decide)⟩ ?_ ?_
    · clear K M h
      rintro ⟨out_P2, i2⟩ a w ⟨A3, c3, K, M⟩ h
      try dsimp only at h
      refine inb_e ?_
      refine then_n ?_
      refine wp_seq ?_
      refine X_reg ?_
      refine X_rd K (want_no rfl) rfl rfl (rd_ldA rfl ty49 K rfl (inM 0 rfl) rfl rfl) M ?_; clear K; intro a K
      refine X_a0 K (want_no rfl) rfl (ac_storeA rfl ty49 K rfl (ds := [.int .i64 q_W, .int .i64 q_H, .slice A3 out_P2.length c3]) rfl rfl 2 M rfl rfl rfl) ?_
      have M0 := M; clear K M; rintro _ a w M K
      clear M0
      refine wpList_nil ?_
      refine then_n ?_
      refine wp_ret ?_
      cases h
      exact ret1 K rfl (res_cellA K rfl ty49 (M.blkAt (i := 2) rfl) rfl) ⟨_, rfl, _, _, rfl, ((M).pick [1] (by decide))⟩
    · clear K M h
      rintro kk fuel ⟨out_P, i⟩ a w hk1 ⟨A2, c2, K, M⟩ h
      unfold D_turn_changed__turn_Turn_1_l1 at h
      refine wp_seq ?_
      refine X_reg ?_
      refine X_rd K (want_no rfl) rfl rfl (rd_lss rfl K rfl rfl) M ?_; clear K; intro a K
      refine wpList_nil ?_
      refine then_n ?_
      refine wp_seq ?_
      refine X_cond K rfl (fun hb => ?_) (fun hb => ?_)
      · have h := ctrue hb h
        refine wp_skip ?_
        refine then_n ?_
        refine wp_seq ?_
        refine wp_block ?_
        refine wp_seq ?_
        refine X_reg ?_
        refine X_rd K (want_no rfl) rfl rfl (rd_move rfl K rfl) M ?_; clear K; intro a K
        obtain ⟨e3, h_e3, h⟩ := obind h
        refine X_rd K (want_no rfl) rfl rfl (rd_ix rfl sl47 K rfl rfl (inA R_q_P) h_e3) M ?_; clear K; intro a K
        refine X_rd K (want_no rfl) rfl rfl (rd_elA rfl ty73 K rfl rfl rfl (inA R_q_P) h_e3) M ?_; clear K; intro a K
        refine X_ac K (want_no rfl) rfl rfl (ac_alloc rfl z73 M) ?_
        have M0 := M; clear K M; rintro _ a w ⟨g_c2, rfl, M⟩ K
        clear M0
        refine X_rd K (want_no rfl) rfl rfl (rd_assign rfl K rfl) M ?_; clear K; intro a K
        refine X_a0 K (want_no rfl) rfl (ac_storeA rfl ty73 K rfl (ds := [.int .i64 e3.1, .int .i64 e3.2.1, .int .i64 e3.2.2]) rfl rfl 0 M rfl rfl rfl) ?_
        have M0 := M; clear K M; rintro _ a w M K
        clear M0
        refine wpList_nil ?_
        refine then_n ?_
        refine wp_region_tl (fun w => Mem _ _ w _) [0,0,0,0,0,0,0,0,0,0,0,1,0,0,2] (by kernel_rfl) (by kernel_rfl) M.drew ?_
        replace M := M.drew
        refine T_rd K (want_no rfl) rfl rfl (rd_field rfl fld49_2 K rfl) ?_; clear K; intro a K
        refine T_rd K (want_no rfl) rfl rfl (rd_ldC rfl sc47 K rfl (inM 1 rfl) rfl) ?_; clear K; intro a K
        refine T_rd K (want_no rfl) rfl rfl (rd_move rfl K rfl) ?_; clear K; intro a K
        refine T_rd K (want_no rfl) rfl rfl (rd_move rfl K rfl) ?_; clear K; intro a K
        refine T_rd K (want_no rfl) rfl rfl (rd_field rfl fld49_0 K rfl) ?_; clear K; intro a K
        refine T_rd K (want_no rfl) rfl rfl (rd_ldC rfl sc3 K rfl (inM 4 rfl) rfl) ?_; clear K; intro a K
        obtain ⟨_, h0, h⟩ := obind h
        have h0 := nz_spec h0
        refine T_rd K (want_no rfl) rfl rfl (rd_rem rfl K rfl rfl h0) ?_; clear K; intro a K
        refine T_rd K (want_no rfl) rfl rfl (rd_move rfl K rfl) ?_; clear K; intro a K
        refine T_rd K (want_no rfl) rfl rfl (rd_field rfl fld49_0 K rfl) ?_; clear K; intro a K
        refine T_rd K (want_no rfl) rfl rfl (rd_ldC rfl sc3 K rfl (inM 4 rfl) rfl) ?_; clear K; intro a K
        obtain ⟨_, h0, h⟩ := obind h
        have h0 := nz_spec h0
        refine T_rd K (want_no rfl) rfl rfl (rd_quo rfl K rfl rfl h0) ?_; clear K; intro a K
        obtain ⟨r3, h_r3, h⟩ := obind h
        refine T_ac K (want_no rfl) rfl rfl (ac_call (vs := [.int .i64 (Int.tmod i q_W), .int .i64 (IntKind.i64.wrap (Int.tdiv i q_W))]) (cap := [.pointer (some ⟨g_Turn_1_0, 0, none⟩)]) rfl fok71 K rfl rfl (W_turn_Turn_1 N (Int.tmod i q_W) (IntKind.i64.wrap (Int.tdiv i q_W)) Turn_1_0_W Turn_1_0_H Turn_1_0_P A_Turn_1_0_P c_Turn_1_0_P g_Turn_1_0 _ ((inA R_Turn_1_0_P) _ M) C_Turn_1_0_P (inO B_g_Turn_1_0 _ M) r3 h_r3)) ?_
        have M0 := M; clear K M; rintro _ a w ⟨rfl, M⟩ K
        have M := M0.call M
        clear M0
        refine ⟨M.pick [0,1,2,3,4] (by decide), ?_⟩
        refine T_rd K (want_no rfl) rfl rfl (rd_ldA rfl ty73 K rfl (inM 0 rfl) rfl rfl) ?_; clear K; intro a K
        obtain ⟨e4, h_e4, h⟩ := obind h
        refine T_rd K (want_no rfl) rfl rfl (rd_ix rfl sl47 K rfl rfl (inR (C := cIII) 2 rfl rfl) h_e4) ?_; clear K; intro a K
        obtain ⟨l4, h_l4, h⟩ := obind h
        refine T_a0z K (want_no rfl) rfl (ac_rowset (el := (e3.1, e3.2.1, e3.2.2)) rfl sz73 rfl rfl K rfl rfl rfl 2 M rfl h_l4) ?_
        have M0 := M; clear K M; rintro _ a w M K
        have hl := setL_len h_l4
        try rw [hl] at M
        clear hl
        clear M0
        refine T_end ?_
        refine inb_n ?_
        refine then_n ?_
        refine X_reg ?_
        refine X_rd K (want_no rfl) rfl rfl (rd_add rfl K rfl rfl) M ?_; clear K; intro a K
        refine X_rd K (want_no rfl) rfl rfl (rd_move rfl K rfl) M ?_; clear K; intro a K
        refine wpList_nil ?_
        exact then_n ⟨(l4, IntKind.i64.wrap (i + 1)), ⟨A2, c2, K.pick [1,2,4,5,18,19,20], M.pick [1,2,3,4] (by decide)⟩, h⟩
      · have h := cfalse hb h
        refine wp_exit ?_
        refine then_e ?_
        exact then_e (hk1 (out_P, i) _ _ ⟨A2, c2, K.pick [1,2,4,5,18,19,20], M.pick [0,1,2,3] (by decide)⟩ h)
  ·
    refine R_ac [7,8,10] (by kernel_rfl) rfl K (want_no rfl) rfl rfl (ac_alloc rfl z49 M) ?_
    have M0 := M; clear K M; rintro _ a w ⟨g_out2, rfl, M⟩ K
    clear M0
    refine ⟨fun _ => M.pick [1,2] (by decide), ?_⟩
    refine R_br [7] (by kernel_rfl) ⟨?_, trivial⟩
    obtain ⟨l5, h_l5, h⟩ := obind h
    refine R_ac [8,10] (by kernel_rfl) rfl K (want_no rfl) rfl rfl (ac_make (C := cIII) (z := (0, 0, 0)) rfl sl47 rfl z73 rfl K rfl rfl M h_l5) ?_
    have M0 := M; clear K M; rintro _ a w ⟨A4, c4, rfl, M⟩ K
    clear M0
    refine ⟨fun _ => M.pick [2,3] (by decide), ?_⟩
    refine R_rd 8 [10] (by kernel_rfl) rfl K (want_no rfl) rfl rfl (rd_build rfl K (vs := [(0, .int .i64 q_W), (1, .int .i64 q_H), (2, .slice A4 l5.length c4)]) (cs := [.int .i64 q_W, .int .i64 q_H, .slice A4 l5.length c4]) rfl (by kernel_rfl)) ?_; clear K; intro a K
    refine R_br [10] (by kernel_rfl) ⟨?_, trivial⟩
    refine R_a0 [] (by kernel_rfl) rfl K (want_no rfl) rfl (ac_storeA rfl ty49 K rfl (ds := [.int .i64 q_W, .int .i64 q_H, .slice A4 l5.length c4]) rfl rfl 1 M rfl rfl rfl) ?_
    have M0 := M; clear K M; rintro _ a w M K
    clear M0
    refine ⟨fun h => absurd h (by decide), ?_⟩
    refine R_end ?_
    refine then_n ?_
    refine wp_seq ?_
    refine wp_seq ?_
    refine X_reg ?_
    refine X_rd K (want_no rfl) rfl rfl (rd_field rfl fld49_2 K rfl) M ?_; clear K; intro a K
    refine X_rd K (want_no rfl) rfl rfl (rd_ldC rfl sc47 K rfl (inM 3 rfl) rfl) M ?_; clear K; intro a K
    refine X_rd K (want_no rfl) rfl rfl (rd_len rfl un47 K rfl) M ?_; clear K; intro a K
    refine X_rd K (want_no rfl) rfl rfl (rd_move rfl K rfl) M ?_; clear K; intro a K
    refine wpList_nil ?_
    refine then_n ?_
    refine wp_block ?_
    refine X_lp (id := 0) (Rel := fun (⟨out_P3, i3⟩ : List (Int × Int × Int) × Int) a w => ∃ (A5 : Option Addr) (c5 : Nat), Kn a 41 [(1, .func (.func 71) #[] #[.pointer (some ⟨g_Turn_1_0, 0, none⟩)]), (2, .pointer (some ⟨g_q, 0, none⟩)), (4, .pointer (some ⟨g_x, 0, none⟩)), (5, .pointer (some ⟨g_out2, 0, none⟩)), (18, .slice A_q_P q_P.length c_q_P), (19, .int .i64 (q_P.length : Int)), (20, .int .i64 i3)] ∧ Mem w0.heap.size w0 w [.row 73 3 A5 out_P3.length c5 (cIII.all out_P3), .blk g_out2 49 [.int .i64 q_W, .int .i64 q_H, .slice A5 out_P3.length c5], .blk g_x 49 [.int .i64 0, .int .i64 0, .slice none (([] : List (Int × Int × Int))).length 0], .blk g_q 49 [.int .i64 q_W, .int .i64 q_H, .slice A_q_P q_P.length c_q_P]]) h (fun _ _ => rfl) ⟨A4, c4, K.pick [1,2,4,5,18,19,20], M.pick [0,1,2,3] (by decide)⟩ ?_ ?_
    · clear K M h
      rintro ⟨out_P4, i4⟩ a w ⟨A6, c6, K, M⟩ h
      try dsimp only at h
      refine inb_e ?_
      refine then_n ?_
      refine wp_seq ?_
      refine X_reg ?_
      refine X_rd K (want_no rfl) rfl rfl (rd_ldA rfl ty49 K rfl (inM 1 rfl) rfl rfl) M ?_; clear K; intro a K
      refine X_a0 K (want_no rfl) rfl (ac_storeA rfl ty49 K rfl (ds := [.int .i64 q_W, .int .i64 q_H, .slice A6 out_P4.length c6]) rfl rfl 2 M rfl rfl rfl) ?_
      have M0 := M; clear K M; rintro _ a w M K
      clear M0
      refine wpList_nil ?_
      refine then_n ?_
      refine wp_ret ?_
      cases h
      exact ret1 K rfl (res_cellA K rfl ty49 (M.blkAt (i := 2) rfl) rfl) ⟨_, rfl, _, _, rfl, ((M).pick [0] (by decide))⟩
    · clear K M h
      rintro kk fuel ⟨out_P3, i3⟩ a w hk1 ⟨A5, c5, K, M⟩ h
      unfold D_turn_changed__turn_Turn_1_l1 at h
      refine wp_seq ?_
      refine X_reg ?_
      refine X_rd K (want_no rfl) rfl rfl (rd_lss rfl K rfl rfl) M ?_; clear K; intro a K
      refine wpList_nil ?_
      refine then_n ?_
      refine wp_seq ?_
      refine X_cond K rfl (fun hb => ?_) (fun hb => ?_)
      · have h := ctrue hb h
        refine wp_skip ?_
        refine then_n ?_
        refine wp_seq ?_
        refine wp_block ?_
        refine wp_seq ?_
        refine X_reg ?_
        refine X_rd K (want_no rfl) rfl rfl (rd_move rfl K rfl) M ?_; clear K; intro a K
        obtain ⟨e7, h_e7, h⟩ := obind h
        refine X_rd K (want_no rfl) rfl rfl (rd_ix rfl sl47 K rfl rfl (inA R_q_P) h_e7) M ?_; clear K; intro a K
        refine X_rd K (want_no rfl) rfl rfl (rd_elA rfl ty73 K rfl rfl rfl (inA R_q_P) h_e7) M ?_; clear K; intro a K
        refine X_ac K (want_no rfl) rfl rfl (ac_alloc rfl z73 M) ?_
        have M0 := M; clear K M; rintro _ a w ⟨g_c4, rfl, M⟩ K
        clear M0
        refine X_rd K (want_no rfl) rfl rfl (rd_assign rfl K rfl) M ?_; clear K; intro a K
        refine X_a0 K (want_no rfl) rfl (ac_storeA rfl ty73 K rfl (ds := [.int .i64 e7.1, .int .i64 e7.2.1, .int .i64 e7.2.2]) rfl rfl 0 M rfl rfl rfl) ?_
        have M0 := M; clear K M; rintro _ a w M K
        clear M0
        refine wpList_nil ?_
        refine then_n ?_
        refine wp_region_tl (fun w => Mem _ _ w _) [0,0,0,0,0,0,0,0,0,0,0,1,0,0,2] (by kernel_rfl) (by kernel_rfl) M.drew ?_
        replace M := M.drew
        refine T_rd K (want_no rfl) rfl rfl (rd_field rfl fld49_2 K rfl) ?_; clear K; intro a K
        refine T_rd K (want_no rfl) rfl rfl (rd_ldC rfl sc47 K rfl (inM 2 rfl) rfl) ?_; clear K; intro a K
        refine T_rd K (want_no rfl) rfl rfl (rd_move rfl K rfl) ?_; clear K; intro a K
        refine T_rd K (want_no rfl) rfl rfl (rd_move rfl K rfl) ?_; clear K; intro a K
        refine T_rd K (want_no rfl) rfl rfl (rd_field rfl fld49_0 K rfl) ?_; clear K; intro a K
        refine T_rd K (want_no rfl) rfl rfl (rd_ldC rfl sc3 K rfl (inM 4 rfl) rfl) ?_; clear K; intro a K
        obtain ⟨_, h0, h⟩ := obind h
        have h0 := nz_spec h0
        refine T_rd K (want_no rfl) rfl rfl (rd_rem rfl K rfl rfl h0) ?_; clear K; intro a K
        refine T_rd K (want_no rfl) rfl rfl (rd_move rfl K rfl) ?_; clear K; intro a K
        refine T_rd K (want_no rfl) rfl rfl (rd_field rfl fld49_0 K rfl) ?_; clear K; intro a K
        refine T_rd K (want_no rfl) rfl rfl (rd_ldC rfl sc3 K rfl (inM 4 rfl) rfl) ?_; clear K; intro a K
        obtain ⟨_, h0, h⟩ := obind h
        have h0 := nz_spec h0
        refine T_rd K (want_no rfl) rfl rfl (rd_quo rfl K rfl rfl h0) ?_; clear K; intro a K
        obtain ⟨r5, h_r5, h⟩ := obind h
        refine T_ac K (want_no rfl) rfl rfl (ac_call (vs := [.int .i64 (Int.tmod i3 q_W), .int .i64 (IntKind.i64.wrap (Int.tdiv i3 q_W))]) (cap := [.pointer (some ⟨g_Turn_1_0, 0, none⟩)]) rfl fok71 K rfl rfl (W_turn_Turn_1 N (Int.tmod i3 q_W) (IntKind.i64.wrap (Int.tdiv i3 q_W)) Turn_1_0_W Turn_1_0_H Turn_1_0_P A_Turn_1_0_P c_Turn_1_0_P g_Turn_1_0 _ ((inA R_Turn_1_0_P) _ M) C_Turn_1_0_P (inO B_g_Turn_1_0 _ M) r5 h_r5)) ?_
        have M0 := M; clear K M; rintro _ a w ⟨rfl, M⟩ K
        have M := M0.call M
        clear M0
        refine ⟨M.pick [0,1,2,3,4] (by decide), ?_⟩
        refine T_rd K (want_no rfl) rfl rfl (rd_ldA rfl ty73 K rfl (inM 0 rfl) rfl rfl) ?_; clear K; intro a K
        obtain ⟨e8, h_e8, h⟩ := obind h
        refine T_rd K (want_no rfl) rfl rfl (rd_ix rfl sl47 K rfl rfl (inR (C := cIII) 1 rfl rfl) h_e8) ?_; clear K; intro a K
        obtain ⟨l7, h_l7, h⟩ := obind h
        refine T_a0z K (want_no rfl) rfl (ac_rowset (el := (e7.1, e7.2.1, e7.2.2)) rfl sz73 rfl rfl K rfl rfl rfl 1 M rfl h_l7) ?_
        have M0 := M; clear K M; rintro _ a w M K
        have hl := setL_len h_l7
        try rw [hl] at M
        clear hl
        clear M0
        refine T_end ?_
        refine inb_n ?_
        refine then_n ?_
        refine X_reg ?_
        refine X_rd K (want_no rfl) rfl rfl (rd_add rfl K rfl rfl) M ?_; clear K; intro a K
        refine X_rd K (want_no rfl) rfl rfl (rd_move rfl K rfl) M ?_; clear K; intro a K
        refine wpList_nil ?_
        exact then_n ⟨(l7, IntKind.i64.wrap (i3 + 1)), ⟨A5, c5, K.pick [1,2,4,5,18,19,20], M.pick [1,2,3,4] (by decide)⟩, h⟩
      · have h := cfalse hb h
        refine wp_exit ?_
        refine then_e ?_
        exact then_e (hk1 (out_P3, i3) _ _ ⟨A5, c5, K.pick [1,2,4,5,18,19,20], M.pick [0,1,2,3] (by decide)⟩ h)

set_option maxRecDepth 100000 in
set_option maxHeartbeats 4000000 in
theorem W_turn_Turn_2 (N : Nat) (x2 : Int) (y : Int) (v0_W : Int) (v0_H : Int) (v0_P : List (Int × Int × Int)) (A_v0_P : Option Addr) (c_v0_P : Nat) (g_v0 : Nat) (w0 : World) (R_v0_P : SL w0 cIII A_v0_P v0_P) (C_v0_P : v0_P.length ≤ c_v0_P) (B_g_v0 : Blk w0 g_v0 49 #[.int .i64 v0_W, .int .i64 v0_H, .slice A_v0_P v0_P.length c_v0_P]) (r : Int) (h : D_turn_Turn_2 N x2 y v0_W v0_H v0_P = some r) :
    Calls Try.prog 72 #[.int .i64 x2, .int .i64 y, .pointer (some ⟨g_v0, 0, none⟩)] w0 fun e w' => ∃ v, e = .returned v ∧ v = .int .i64 r ∧ Mem w0.heap.size w0 w' [] := by
  refine X_enter Try.func72 rfl Try.ntmps72 rfl ?_
  intro a K
  have M := Mem.start w0
  have K : Kn a 16 [(0, .int .i64 x2), (1, .int .i64 y), (2, .pointer (some ⟨g_v0, 0, none⟩))] := K
  unfold D_turn_Turn_2 at h
  refine wp_seq ?_
  refine X_reg ?_
  refine X_rd K (want_no rfl) rfl rfl (rd_assign rfl K rfl) M ?_; clear K; intro a K
  refine wpList_nil ?_
  refine then_n ?_
  refine wp_seq ?_
  refine X_reg ?_
  refine X_rd K (want_no rfl) rfl rfl (rd_field rfl fld49_1 K rfl) M ?_; clear K; intro a K
  refine X_rd K (want_no rfl) rfl rfl (rd_ldC rfl sc3 K rfl (inO B_g_v0) rfl) M ?_; clear K; intro a K
  refine X_rd K (want_no rfl) rfl rfl (rd_sub rfl K rfl rfl) M ?_; clear K; intro a K
  refine X_rd K (want_no rfl) rfl rfl (rd_move rfl K rfl) M ?_; clear K; intro a K
  refine X_rd K (want_no rfl) rfl rfl (rd_sub rfl K rfl rfl) M ?_; clear K; intro a K
  refine X_rd K (want_no rfl) rfl rfl (rd_field rfl fld49_0 K rfl) M ?_; clear K; intro a K
  refine X_rd K (want_no rfl) rfl rfl (rd_ldC rfl sc3 K rfl (inO B_g_v0) rfl) M ?_; clear K; intro a K
  refine X_rd K (want_no rfl) rfl rfl (rd_mul rfl K rfl rfl) M ?_; clear K; intro a K
  refine X_rd K (want_no rfl) rfl rfl (rd_move rfl K rfl) M ?_; clear K; intro a K
  refine X_rd K (want_no rfl) rfl rfl (rd_add rfl K rfl rfl) M ?_; clear K; intro a K
  refine X_rd K (want_no rfl) rfl rfl (rd_assign rfl K rfl) M ?_; clear K; intro a K
  refine wpList_nil ?_
  refine then_n ?_
  refine wp_ret ?_
  cases h
  exact ret1 K rfl (res_tmp K rfl) ⟨_, rfl, rfl, ((M).pick [] (by decide))⟩

set_option maxRecDepth 100000 in
set_option maxHeartbeats 4000000 in
theorem W_turn_changed__turn_Turn_2 (N : Nat) (q_W : Int) (q_H : Int) (q_P : List (Int × Int × Int)) (A_q_P : Option Addr) (c_q_P : Nat) (Turn_2_0_W : Int) (Turn_2_0_H : Int) (Turn_2_0_P : List (Int × Int × Int)) (A_Turn_2_0_P : Option Addr) (c_Turn_2_0_P : Nat) (g_Turn_2_0 : Nat) (w0 : World) (R_q_P : SL w0 cIII A_q_P q_P) (C_q_P : q_P.length ≤ c_q_P) (R_Turn_2_0_P : SL w0 cIII A_Turn_2_0_P Turn_2_0_P) (C_Turn_2_0_P : Turn_2_0_P.length ≤ c_Turn_2_0_P) (B_g_Turn_2_0 : Blk w0 g_Turn_2_0 49 #[.int .i64 Turn_2_0_W, .int .i64 Turn_2_0_H, .slice A_Turn_2_0_P Turn_2_0_P.length c_Turn_2_0_P]) (r : Int × Int × List (Int × Int × Int)) (h : D_turn_changed__turn_Turn_2 N q_W q_H q_P Turn_2_0_W Turn_2_0_H Turn_2_0_P = some r) :
    Calls Try.prog 70 #[.agg #[.int .i64 q_W, .int .i64 q_H, .slice A_q_P q_P.length c_q_P], .func (.func 72) #[] #[.pointer (some ⟨g_Turn_2_0, 0, none⟩)]] w0 fun e w' => ∃ v, e = .returned v ∧ ∃ A2 c2, v = .agg #[.int .i64 r.1, .int .i64 r.2.1, .slice A2 r.2.2.length c2] ∧ Mem w0.heap.size w0 w' [.row 73 3 A2 r.2.2.length c2 (cIII.all r.2.2)] := by
  refine X_enter Try.func70 rfl Try.ntmps70 rfl ?_
  intro a K
  have M := Mem.start w0
  have K : Kn a 41 [(0, .agg #[.int .i64 q_W, .int .i64 q_H, .slice A_q_P q_P.length c_q_P]), (1, .func (.func 72) #[] #[.pointer (some ⟨g_Turn_2_0, 0, none⟩)])] := K
  unfold D_turn_changed__turn_Turn_2 at h
  refine wp_seq ?_
  refine X_reg ?_
  refine X_ac K (want_no rfl) rfl rfl (ac_box rfl K rfl (cs := [.int .i64 q_W, .int .i64 q_H, .slice A_q_P q_P.length c_q_P]) rfl M) ?_
  have M0 := M; clear K M; rintro _ a w ⟨g_q, rfl, M⟩ K
  clear M0
  refine X_ac K (want_no rfl) rfl rfl (ac_alloc rfl z49 M) ?_
  have M0 := M; clear K M; rintro _ a w ⟨g_x, rfl, M⟩ K
  clear M0
  refine wpList_nil ?_
  refine then_n ?_
  refine wp_seq ?_
  refine wp_region_tr (fun w => Mem _ _ w _) [0,0,0,0,0,0,0,1,0,1,2] 11 [0,1,2,3,4,5,6,7,8,9,10] (by kernel_rfl) (by kernel_rfl) (by kernel_rfl) rfl M.drew ?_
  replace M := M.drew
  refine R_rd 0 [1,2,3,4,5,6,7,8,9,10] (by kernel_rfl) rfl K (want_no rfl) rfl rfl (rd_field rfl fld49_0 K rfl) ?_; clear K; intro a K
  refine R_rd 1 [2,3,4,5,6,7,8,9,10] (by kernel_rfl) rfl K (want_no rfl) rfl rfl (rd_ldC rfl sc3 K rfl (inM 1 rfl) rfl) ?_; clear K; intro a K
  refine R_rd 2 [3,4,5,6,7,8,9,10] (by kernel_rfl) rfl K (want_no rfl) rfl rfl (rd_field rfl fld49_1 K rfl) ?_; clear K; intro a K
  refine R_rd 3 [4,5,6,7,8,9,10] (by kernel_rfl) rfl K (want_no rfl) rfl rfl (rd_ldC rfl sc3 K rfl (inM 1 rfl) rfl) ?_; clear K; intro a K
  refine R_rd 4 [5,6,7,8,9,10] (by kernel_rfl) rfl K (want_no rfl) rfl rfl (rd_field rfl fld49_2 K rfl) ?_; clear K; intro a K
  refine R_rd 5 [6,7,8,9,10] (by kernel_rfl) rfl K (want_no rfl) rfl rfl (rd_ldC rfl sc47 K rfl (inM 1 rfl) rfl) ?_; clear K; intro a K
  obtain ⟨x2, hx, h⟩ := olet h
  refine R_rd 6 [7,8,9,10] (by kernel_rfl) rfl K (want_no rfl) rfl rfl (rdi hx (rd_len rfl un47 K rfl)) ?_; clear K; intro a K
  refine R_br [7,9] (by kernel_rfl) ⟨?_, ?_, trivial⟩
  ·
    obtain ⟨l2, h_l2, h⟩ := obind h
    refine R_ac [8,9,10] (by kernel_rfl) rfl K (want_no rfl) rfl rfl (ac_make (C := cIII) (z := (0, 0, 0)) rfl sl47 rfl z73 rfl K rfl rfl M h_l2) ?_
    have M0 := M; clear K M; rintro _ a w ⟨A, c, rfl, M⟩ K
    clear M0
    refine ⟨fun _ => M.pick [1,2] (by decide), ?_⟩
    refine R_rd 8 [9,10] (by kernel_rfl) rfl K (want_no rfl) rfl rfl (rd_build rfl K (vs := [(0, .int .i64 q_W), (1, .int .i64 q_H), (2, .slice A l2.length c)]) (cs := [.int .i64 q_W, .int .i64 q_H, .slice A l2.length c]) rfl (by kernel_rfl)) ?_; clear K; intro a K
    refine R_br [9] (by kernel_rfl) ⟨?_, trivial⟩
    refine R_ac [10] (by kernel_rfl) rfl K (want_no rfl) rfl rfl (ac_alloc rfl z49 M) ?_
    have M0 := M; clear K M; rintro _ a w ⟨g_out, rfl, M⟩ K
    clear M0
    refine ⟨fun _ => M.pick [2,3] (by decide), ?_⟩
    refine R_br [10] (by kernel_rfl) ⟨?_, trivial⟩
    refine R_a0 [] (by kernel_rfl) rfl K (want_no rfl) rfl (ac_storeA rfl ty49 K rfl (ds := [.int .i64 q_W, .int .i64 q_H, .slice A l2.length c]) rfl rfl 0 M rfl rfl rfl) ?_
    have M0 := M; clear K M; rintro _ a w M K
    clear M0
    refine ⟨fun h => absurd h (by decide), ?_⟩
    refine R_end ?_
    refine then_n ?_
    refine wp_seq ?_
    refine wp_seq ?_
    refine X_reg ?_
    refine X_rd K (want_no rfl) rfl rfl (rd_field rfl fld49_2 K rfl) M ?_; clear K; intro a K
    refine X_rd K (want_no rfl) rfl rfl (rd_ldC rfl sc47 K rfl (inM 3 rfl) rfl) M ?_; clear K; intro a K
    refine X_rd K (want_no rfl) rfl rfl (rd_len rfl un47 K rfl) M ?_; clear K; intro a K
    refine X_rd K (want_no rfl) rfl rfl (rd_move rfl K rfl) M ?_; clear K; intro a K
    refine wpList_nil ?_
    refine then_n ?_
    refine wp_block ?_
    refine X_lp (id := 0) (Rel := fun (⟨out_P, i⟩ : List (Int × Int × Int) × Int) a w => ∃ (A2 : Option Addr) (c2 : Nat), Kn a 41 [(1, .func (.func 72) #[] #[.pointer (some ⟨g_Turn_2_0, 0, none⟩)]), (2, .pointer (some ⟨g_q, 0, none⟩)), (4, .pointer (some ⟨g_x, 0, none⟩)), (5, .pointer (some ⟨g_out, 0, none⟩)), (18, .slice A_q_P q_P.length c_q_P), (19, .int .i64 (q_P.length : Int)), (20, .int .i64 i)] ∧ Mem w0.heap.size w0 w [.blk g_out 49 [.int .i64 q_W, .int .i64 q_H, .slice A2 out_P.length c2], .row 73 3 A2 out_P.length c2 (cIII.all out_P), .blk g_x 49 [.int .i64 0, .int .i64 0, .slice none (([] : List (Int × Int × Int))).length 0], .blk g_q 49 [.int .i64 q_W, .int .i64 q_H, .slice A_q_P q_P.length c_q_P]]) h (fun _ _ => rfl) ⟨A, c, K.pick [1,2,4,5,18,19,20], M.pick [0,1,2,3] (by decide)⟩ ?_ ?_
    · clear K M h
      rintro ⟨out_P2, i2⟩ a w ⟨A3, c3, K, M⟩ h
      try dsimp only at h
      refine inb_e ?_
      refine then_n ?_
      refine wp_seq ?_
      refine X_reg ?_
      refine X_rd K (want_no rfl) rfl rfl (rd_ldA rfl ty49 K rfl (inM 0 rfl) rfl rfl) M ?_; clear K; intro a K
      refine X_a0 K (want_no rfl) rfl (ac_storeA rfl ty49 K rfl (ds := [.int .i64 q_W, .int .i64 q_H, .slice A3 out_P2.length c3]) rfl rfl 2 M rfl rfl rfl) ?_
      have M0 := M; clear K M; rintro _ a w M K
      clear M0
      refine wpList_nil ?_
      refine then_n ?_
      refine wp_ret ?_
      cases h
      exact ret1 K rfl (res_cellA K rfl ty49 (M.blkAt (i := 2) rfl) rfl) ⟨_, rfl, _, _, rfl, ((M).pick [1] (by decide))⟩
    · clear K M h
      rintro kk fuel ⟨out_P, i⟩ a w hk1 ⟨A2, c2, K, M⟩ h
      unfold D_turn_changed__turn_Turn_2_l1 at h
      refine wp_seq ?_
      refine X_reg ?_
      refine X_rd K (want_no rfl) rfl rfl (rd_lss rfl K rfl rfl) M ?_; clear K; intro a K
      refine wpList_nil ?_
      refine then_n ?_
      refine wp_seq ?_
      refine X_cond K rfl (fun hb => ?_) (fun hb => ?_)
      · have h := ctrue hb h
        refine wp_skip ?_
        refine then_n ?_
        refine wp_seq ?_
        refine wp_block ?_
        refine wp_seq ?_
        refine X_reg ?_
        refine X_rd K (want_no rfl) rfl rfl (rd_move rfl K rfl) M ?_; clear K; intro a K
        obtain ⟨e3, h_e3, h⟩ := obind h
        refine X_rd K (want_no rfl) rfl rfl (rd_ix rfl sl47 K rfl rfl (inA R_q_P) h_e3) M ?_; clear K; intro a K
        refine X_rd K (want_no rfl) rfl rfl (rd_elA rfl ty73 K rfl rfl rfl (inA R_q_P) h_e3) M ?_; clear K; intro a K
        refine X_ac K (want_no rfl) rfl rfl (ac_alloc rfl z73 M) ?_
        have M0 := M; clear K M; rintro _ a w ⟨g_c2, rfl, M⟩ K
        clear M0
        refine X_rd K (want_no rfl) rfl rfl (rd_assign rfl K rfl) M ?_; clear K; intro a K
        refine X_a0 K (want_no rfl) rfl (ac_storeA rfl ty73 K rfl (ds := [.int .i64 e3.1, .int .i64 e3.2.1, .int .i64 e3.2.2]) rfl rfl 0 M rfl rfl rfl) ?_
        have M0 := M; clear K M; rintro _ a w M K
        clear M0
        refine wpList_nil ?_
        refine then_n ?_
        refine wp_region_tl (fun w => Mem _ _ w _) [0,0,0,0,0,0,0,0,0,0,0,1,0,0,2] (by kernel_rfl) (by kernel_rfl) M.drew ?_
        replace M := M.drew
        refine T_rd K (want_no rfl) rfl rfl (rd_field rfl fld49_2 K rfl) ?_; clear K; intro a K
        refine T_rd K (want_no rfl) rfl rfl (rd_ldC rfl sc47 K rfl (inM 1 rfl) rfl) ?_; clear K; intro a K
        refine T_rd K (want_no rfl) rfl rfl (rd_move rfl K rfl) ?_; clear K; intro a K
        refine T_rd K (want_no rfl) rfl rfl (rd_move rfl K rfl) ?_; clear K; intro a K
        refine T_rd K (want_no rfl) rfl rfl (rd_field rfl fld49_0 K rfl) ?_; clear K; intro a K
        refine T_rd K (want_no rfl) rfl rfl (rd_ldC rfl sc3 K rfl (inM 4 rfl) rfl) ?_; clear K; intro a K
        obtain ⟨_, h0, h⟩ := obind h
        have h0 := nz_spec h0
        refine T_rd K (want_no rfl) rfl rfl (rd_rem rfl K rfl rfl h0) ?_; clear K; intro a K
        refine T_rd K (want_no rfl) rfl rfl (rd_move rfl K rfl) ?_; clear K; intro a K
        refine T_rd K (want_no rfl) rfl rfl (rd_field rfl fld49_0 K rfl) ?_; clear K; intro a K
        refine T_rd K (want_no rfl) rfl rfl (rd_ldC rfl sc3 K rfl (inM 4 rfl) rfl) ?_; clear K; intro a K
        obtain ⟨_, h0, h⟩ := obind h
        have h0 := nz_spec h0
        refine T_rd K (want_no rfl) rfl rfl (rd_quo rfl K rfl rfl h0) ?_; clear K; intro a K
        obtain ⟨r3, h_r3, h⟩ := obind h
        refine T_ac K (want_no rfl) rfl rfl (ac_call (vs := [.int .i64 (Int.tmod i q_W), .int .i64 (IntKind.i64.wrap (Int.tdiv i q_W))]) (cap := [.pointer (some ⟨g_Turn_2_0, 0, none⟩)]) rfl fok72 K rfl rfl (W_turn_Turn_2 N (Int.tmod i q_W) (IntKind.i64.wrap (Int.tdiv i q_W)) Turn_2_0_W Turn_2_0_H Turn_2_0_P A_Turn_2_0_P c_Turn_2_0_P g_Turn_2_0 _ ((inA R_Turn_2_0_P) _ M) C_Turn_2_0_P (inO B_g_Turn_2_0 _ M) r3 h_r3)) ?_
        have M0 := M; clear K M; rintro _ a w ⟨rfl, M⟩ K
        have M := M0.call M
        clear M0
        refine ⟨M.pick [0,1,2,3,4] (by decide), ?_⟩
        refine T_rd K (want_no rfl) rfl rfl (rd_ldA rfl ty73 K rfl (inM 0 rfl) rfl rfl) ?_; clear K; intro a K
        obtain ⟨e4, h_e4, h⟩ := obind h
        refine T_rd K (want_no rfl) rfl rfl (rd_ix rfl sl47 K rfl rfl (inR (C := cIII) 2 rfl rfl) h_e4) ?_; clear K; intro a K
        obtain ⟨l4, h_l4, h⟩ := obind h
        refine T_a0z K (want_no rfl) rfl (ac_rowset (el := (e3.1, e3.2.1, e3.2.2)) rfl sz73 rfl rfl K rfl rfl rfl 2 M rfl h_l4) ?_
        have M0 := M; clear K M; rintro _ a w M K
        have hl := setL_len h_l4
        try rw [hl] at M
        clear hl
        clear M0
        refine T_end ?_
        refine inb_n ?_
        refine then_n ?_
        refine X_reg ?_
        refine X_rd K (want_no rfl) rfl rfl (rd_add rfl K rfl rfl) M ?_; clear K; intro a K
        refine X_rd K (want_no rfl) rfl rfl (rd_move rfl K rfl) M ?_; clear K; intro a K
        refine wpList_nil ?_
        exact then_n ⟨(l4, IntKind.i64.wrap (i + 1)), ⟨A2, c2, K.pick [1,2,4,5,18,19,20], M.pick [1,2,3,4] (by decide)⟩, h⟩
      · have h := cfalse hb h
        refine wp_exit ?_
        refine then_e ?_
        exact then_e (hk1 (out_P, i) _ _ ⟨A2, c2, K.pick [1,2,4,5,18,19,20], M.pick [0,1,2,3] (by decide)⟩ h)
  ·
    refine R_ac [7,8,10] (by kernel_rfl) rfl K (want_no rfl) rfl rfl (ac_alloc rfl z49 M) ?_
    have M0 := M; clear K M; rintro _ a w ⟨g_out2, rfl, M⟩ K
    clear M0
    refine ⟨fun _ => M.pick [1,2] (by decide), ?_⟩
    refine R_br [7] (by kernel_rfl) ⟨?_, trivial⟩
    obtain ⟨l5, h_l5, h⟩ := obind h
    refine R_ac [8,10] (by kernel_rfl) rfl K (want_no rfl) rfl rfl (ac_make (C := cIII) (z := (0, 0, 0)) rfl sl47 rfl z73 rfl K rfl rfl M h_l5) ?_
    have M0 := M; clear K M; rintro _ a w ⟨A4, c4, rfl, M⟩ K
    clear M0
    refine ⟨fun _ => M.pick [2,3] (by decide), ?_⟩
    refine R_rd 8 [10] (by kernel_rfl) rfl K (want_no rfl) rfl rfl (rd_build rfl K (vs := [(0, .int .i64 q_W), (1, .int .i64 q_H), (2, .slice A4 l5.length c4)]) (cs := [.int .i64 q_W, .int .i64 q_H, .slice A4 l5.length c4]) rfl (by kernel_rfl)) ?_; clear K; intro a K
    refine R_br [10] (by kernel_rfl) ⟨?_, trivial⟩
    refine R_a0 [] (by kernel_rfl) rfl K (want_no rfl) rfl (ac_storeA rfl ty49 K rfl (ds := [.int .i64 q_W, .int .i64 q_H, .slice A4 l5.length c4]) rfl rfl 1 M rfl rfl rfl) ?_
    have M0 := M; clear K M; rintro _ a w M K
    clear M0
    refine ⟨fun h => absurd h (by decide), ?_⟩
    refine R_end ?_
    refine then_n ?_
    refine wp_seq ?_
    refine wp_seq ?_
    refine X_reg ?_
    refine X_rd K (want_no rfl) rfl rfl (rd_field rfl fld49_2 K rfl) M ?_; clear K; intro a K
    refine X_rd K (want_no rfl) rfl rfl (rd_ldC rfl sc47 K rfl (inM 3 rfl) rfl) M ?_; clear K; intro a K
    refine X_rd K (want_no rfl) rfl rfl (rd_len rfl un47 K rfl) M ?_; clear K; intro a K
    refine X_rd K (want_no rfl) rfl rfl (rd_move rfl K rfl) M ?_; clear K; intro a K
    refine wpList_nil ?_
    refine then_n ?_
    refine wp_block ?_
    refine X_lp (id := 0) (Rel := fun (⟨out_P3, i3⟩ : List (Int × Int × Int) × Int) a w => ∃ (A5 : Option Addr) (c5 : Nat), Kn a 41 [(1, .func (.func 72) #[] #[.pointer (some ⟨g_Turn_2_0, 0, none⟩)]), (2, .pointer (some ⟨g_q, 0, none⟩)), (4, .pointer (some ⟨g_x, 0, none⟩)), (5, .pointer (some ⟨g_out2, 0, none⟩)), (18, .slice A_q_P q_P.length c_q_P), (19, .int .i64 (q_P.length : Int)), (20, .int .i64 i3)] ∧ Mem w0.heap.size w0 w [.row 73 3 A5 out_P3.length c5 (cIII.all out_P3), .blk g_out2 49 [.int .i64 q_W, .int .i64 q_H, .slice A5 out_P3.length c5], .blk g_x 49 [.int .i64 0, .int .i64 0, .slice none (([] : List (Int × Int × Int))).length 0], .blk g_q 49 [.int .i64 q_W, .int .i64 q_H, .slice A_q_P q_P.length c_q_P]]) h (fun _ _ => rfl) ⟨A4, c4, K.pick [1,2,4,5,18,19,20], M.pick [0,1,2,3] (by decide)⟩ ?_ ?_
    · clear K M h
      rintro ⟨out_P4, i4⟩ a w ⟨A6, c6, K, M⟩ h
      try dsimp only at h
      refine inb_e ?_
      refine then_n ?_
      refine wp_seq ?_
      refine X_reg ?_
      refine X_rd K (want_no rfl) rfl rfl (rd_ldA rfl ty49 K rfl (inM 1 rfl) rfl rfl) M ?_; clear K; intro a K
      refine X_a0 K (want_no rfl) rfl (ac_storeA rfl ty49 K rfl (ds := [.int .i64 q_W, .int .i64 q_H, .slice A6 out_P4.length c6]) rfl rfl 2 M rfl rfl rfl) ?_
      have M0 := M; clear K M; rintro _ a w M K
      clear M0
      refine wpList_nil ?_
      refine then_n ?_
      refine wp_ret ?_
      cases h
      exact ret1 K rfl (res_cellA K rfl ty49 (M.blkAt (i := 2) rfl) rfl) ⟨_, rfl, _, _, rfl, ((M).pick [0] (by decide))⟩
    · clear K M h
      rintro kk fuel ⟨out_P3, i3⟩ a w hk1 ⟨A5, c5, K, M⟩ h
      unfold D_turn_changed__turn_Turn_2_l1 at h
      refine wp_seq ?_
      refine X_reg ?_
      refine X_rd K (want_no rfl) rfl rfl (rd_lss rfl K rfl rfl) M ?_; clear K; intro a K
      refine wpList_nil ?_
      refine then_n ?_
      refine wp_seq ?_
      refine X_cond K rfl (fun hb => ?_) (fun hb => ?_)
      · have h := ctrue hb h
        refine wp_skip ?_
        refine then_n ?_
        refine wp_seq ?_
        refine wp_block ?_
        refine wp_seq ?_
        refine X_reg ?_
        refine X_rd K (want_no rfl) rfl rfl (rd_move rfl K rfl) M ?_; clear K; intro a K
        obtain ⟨e7, h_e7, h⟩ := obind h
        refine X_rd K (want_no rfl) rfl rfl (rd_ix rfl sl47 K rfl rfl (inA R_q_P) h_e7) M ?_; clear K; intro a K
        refine X_rd K (want_no rfl) rfl rfl (rd_elA rfl ty73 K rfl rfl rfl (inA R_q_P) h_e7) M ?_; clear K; intro a K
        refine X_ac K (want_no rfl) rfl rfl (ac_alloc rfl z73 M) ?_
        have M0 := M; clear K M; rintro _ a w ⟨g_c4, rfl, M⟩ K
        clear M0
        refine X_rd K (want_no rfl) rfl rfl (rd_assign rfl K rfl) M ?_; clear K; intro a K
        refine X_a0 K (want_no rfl) rfl (ac_storeA rfl ty73 K rfl (ds := [.int .i64 e7.1, .int .i64 e7.2.1, .int .i64 e7.2.2]) rfl rfl 0 M rfl rfl rfl) ?_
        have M0 := M; clear K M; rintro _ a w M K
        clear M0
        refine wpList_nil ?_
        refine then_n ?_
        refine wp_region_tl (fun w => Mem _ _ w _) [0,0,0,0,0,0,0,0,0,0,0,1,0,0,2] (by kernel_rfl) (by kernel_rfl) M.drew ?_
        replace M := M.drew
        refine T_rd K (want_no rfl) rfl rfl (rd_field rfl fld49_2 K rfl) ?_; clear K; intro a K
        refine T_rd K (want_no rfl) rfl rfl (rd_ldC rfl sc47 K rfl (inM 2 rfl) rfl) ?_; clear K; intro a K
        refine T_rd K (want_no rfl) rfl rfl (rd_move rfl K rfl) ?_; clear K; intro a K
        refine T_rd K (want_no rfl) rfl rfl (rd_move rfl K rfl) ?_; clear K; intro a K
        refine T_rd K (want_no rfl) rfl rfl (rd_field rfl fld49_0 K rfl) ?_; clear K; intro a K
        refine T_rd K (want_no rfl) rfl rfl (rd_ldC rfl sc3 K rfl (inM 4 rfl) rfl) ?_; clear K; intro a K
        obtain ⟨_, h0, h⟩ := obind h
        have h0 := nz_spec h0
        refine T_rd K (want_no rfl) rfl rfl (rd_rem rfl K rfl rfl h0) ?_; clear K; intro a K
        refine T_rd K (want_no rfl) rfl rfl (rd_move rfl K rfl) ?_; clear K; intro a K
        refine T_rd K (want_no rfl) rfl rfl (rd_field rfl fld49_0 K rfl) ?_; clear K; intro a K
        refine T_rd K (want_no rfl) rfl rfl (rd_ldC rfl sc3 K rfl (inM 4 rfl) rfl) ?_; clear K; intro a K
        obtain ⟨_, h0, h⟩ := obind h
        have h0 := nz_spec h0
        refine T_rd K (want_no rfl) rfl rfl (rd_quo rfl K rfl rfl h0) ?_; clear K; intro a K
        obtain ⟨r5, h_r5, h⟩ := obind h
        refine T_ac K (want_no rfl) rfl rfl (ac_call (vs := [.int .i64 (Int.tmod i3 q_W), .int .i64 (IntKind.i64.wrap (Int.tdiv i3 q_W))]) (cap := [.pointer (some ⟨g_Turn_2_0, 0, none⟩)]) rfl fok72 K rfl rfl (W_turn_Turn_2 N (Int.tmod i3 q_W) (IntKind.i64.wrap (Int.tdiv i3 q_W)) Turn_2_0_W Turn_2_0_H Turn_2_0_P A_Turn_2_0_P c_Turn_2_0_P g_Turn_2_0 _ ((inA R_Turn_2_0_P) _ M) C_Turn_2_0_P (inO B_g_Turn_2_0 _ M) r5 h_r5)) ?_
        have M0 := M; clear K M; rintro _ a w ⟨rfl, M⟩ K
        have M := M0.call M
        clear M0
        refine ⟨M.pick [0,1,2,3,4] (by decide), ?_⟩
        refine T_rd K (want_no rfl) rfl rfl (rd_ldA rfl ty73 K rfl (inM 0 rfl) rfl rfl) ?_; clear K; intro a K
        obtain ⟨e8, h_e8, h⟩ := obind h
        refine T_rd K (want_no rfl) rfl rfl (rd_ix rfl sl47 K rfl rfl (inR (C := cIII) 1 rfl rfl) h_e8) ?_; clear K; intro a K
        obtain ⟨l7, h_l7, h⟩ := obind h
        refine T_a0z K (want_no rfl) rfl (ac_rowset (el := (e7.1, e7.2.1, e7.2.2)) rfl sz73 rfl rfl K rfl rfl rfl 1 M rfl h_l7) ?_
        have M0 := M; clear K M; rintro _ a w M K
        have hl := setL_len h_l7
        try rw [hl] at M
        clear hl
        clear M0
        refine T_end ?_
        refine inb_n ?_
        refine then_n ?_
        refine X_reg ?_
        refine X_rd K (want_no rfl) rfl rfl (rd_add rfl K rfl rfl) M ?_; clear K; intro a K
        refine X_rd K (want_no rfl) rfl rfl (rd_move rfl K rfl) M ?_; clear K; intro a K
        refine wpList_nil ?_
        exact then_n ⟨(l7, IntKind.i64.wrap (i3 + 1)), ⟨A5, c5, K.pick [1,2,4,5,18,19,20], M.pick [1,2,3,4] (by decide)⟩, h⟩
      · have h := cfalse hb h
        refine wp_exit ?_
        refine then_e ?_
        exact then_e (hk1 (out_P3, i3) _ _ ⟨A5, c5, K.pick [1,2,4,5,18,19,20], M.pick [0,1,2,3] (by decide)⟩ h)

set_option maxRecDepth 100000 in
set_option maxHeartbeats 4000000 in
theorem W_turn_Turn_3 (N : Nat) (x2 : Int) (y : Int) (v0_W : Int) (v0_H : Int) (v0_P : List (Int × Int × Int)) (A_v0_P : Option Addr) (c_v0_P : Nat) (g_v0 : Nat) (w0 : World) (R_v0_P : SL w0 cIII A_v0_P v0_P) (C_v0_P : v0_P.length ≤ c_v0_P) (B_g_v0 : Blk w0 g_v0 49 #[.int .i64 v0_W, .int .i64 v0_H, .slice A_v0_P v0_P.length c_v0_P]) (r : Int) (h : D_turn_Turn_3 N x2 y v0_W v0_H v0_P = some r) :
    Calls Try.prog 73 #[.int .i64 x2, .int .i64 y, .pointer (some ⟨g_v0, 0, none⟩)] w0 fun e w' => ∃ v, e = .returned v ∧ v = .int .i64 r ∧ Mem w0.heap.size w0 w' [] := by
  refine X_enter Try.func73 rfl Try.ntmps73 rfl ?_
  intro a K
  have M := Mem.start w0
  have K : Kn a 12 [(0, .int .i64 x2), (1, .int .i64 y), (2, .pointer (some ⟨g_v0, 0, none⟩))] := K
  unfold D_turn_Turn_3 at h
  refine wp_seq ?_
  refine X_reg ?_
  refine X_rd K (want_no rfl) rfl rfl (rd_assign rfl K rfl) M ?_; clear K; intro a K
  refine wpList_nil ?_
  refine then_n ?_
  refine wp_seq ?_
  refine X_reg ?_
  refine X_rd K (want_no rfl) rfl rfl (rd_move rfl K rfl) M ?_; clear K; intro a K
  refine X_rd K (want_no rfl) rfl rfl (rd_field rfl fld49_0 K rfl) M ?_; clear K; intro a K
  refine X_rd K (want_no rfl) rfl rfl (rd_ldC rfl sc3 K rfl (inO B_g_v0) rfl) M ?_; clear K; intro a K
  refine X_rd K (want_no rfl) rfl rfl (rd_mul rfl K rfl rfl) M ?_; clear K; intro a K
  refine X_rd K (want_no rfl) rfl rfl (rd_move rfl K rfl) M ?_; clear K; intro a K
  refine X_rd K (want_no rfl) rfl rfl (rd_add rfl K rfl rfl) M ?_; clear K; intro a K
  refine X_rd K (want_no rfl) rfl rfl (rd_assign rfl K rfl) M ?_; clear K; intro a K
  refine wpList_nil ?_
  refine then_n ?_
  refine wp_ret ?_
  cases h
  exact ret1 K rfl (res_tmp K rfl) ⟨_, rfl, rfl, ((M).pick [] (by decide))⟩

set_option maxRecDepth 100000 in
set_option maxHeartbeats 4000000 in
theorem W_turn_changed__turn_Turn_3 (N : Nat) (q_W : Int) (q_H : Int) (q_P : List (Int × Int × Int)) (A_q_P : Option Addr) (c_q_P : Nat) (Turn_3_0_W : Int) (Turn_3_0_H : Int) (Turn_3_0_P : List (Int × Int × Int)) (A_Turn_3_0_P : Option Addr) (c_Turn_3_0_P : Nat) (g_Turn_3_0 : Nat) (w0 : World) (R_q_P : SL w0 cIII A_q_P q_P) (C_q_P : q_P.length ≤ c_q_P) (R_Turn_3_0_P : SL w0 cIII A_Turn_3_0_P Turn_3_0_P) (C_Turn_3_0_P : Turn_3_0_P.length ≤ c_Turn_3_0_P) (B_g_Turn_3_0 : Blk w0 g_Turn_3_0 49 #[.int .i64 Turn_3_0_W, .int .i64 Turn_3_0_H, .slice A_Turn_3_0_P Turn_3_0_P.length c_Turn_3_0_P]) (r : Int × Int × List (Int × Int × Int)) (h : D_turn_changed__turn_Turn_3 N q_W q_H q_P Turn_3_0_W Turn_3_0_H Turn_3_0_P = some r) :
    Calls Try.prog 70 #[.agg #[.int .i64 q_W, .int .i64 q_H, .slice A_q_P q_P.length c_q_P], .func (.func 73) #[] #[.pointer (some ⟨g_Turn_3_0, 0, none⟩)]] w0 fun e w' => ∃ v, e = .returned v ∧ ∃ A2 c2, v = .agg #[.int .i64 r.1, .int .i64 r.2.1, .slice A2 r.2.2.length c2] ∧ Mem w0.heap.size w0 w' [.row 73 3 A2 r.2.2.length c2 (cIII.all r.2.2)] := by
  refine X_enter Try.func70 rfl Try.ntmps70 rfl ?_
  intro a K
  have M := Mem.start w0
  have K : Kn a 41 [(0, .agg #[.int .i64 q_W, .int .i64 q_H, .slice A_q_P q_P.length c_q_P]), (1, .func (.func 73) #[] #[.pointer (some ⟨g_Turn_3_0, 0, none⟩)])] := K
  unfold D_turn_changed__turn_Turn_3 at h
  refine wp_seq ?_
  refine X_reg ?_
  refine X_ac K (want_no rfl) rfl rfl (ac_box rfl K rfl (cs := [.int .i64 q_W, .int .i64 q_H, .slice A_q_P q_P.length c_q_P]) rfl M) ?_
  have M0 := M; clear K M; rintro _ a w ⟨g_q, rfl, M⟩ K
  clear M0
  refine X_ac K (want_no rfl) rfl rfl (ac_alloc rfl z49 M) ?_
  have M0 := M; clear K M; rintro _ a w ⟨g_x, rfl, M⟩ K
  clear M0
  refine wpList_nil ?_
  refine then_n ?_
  refine wp_seq ?_
  refine wp_region_tr (fun w => Mem _ _ w _) [0,0,0,0,0,0,0,1,0,1,2] 11 [0,1,2,3,4,5,6,7,8,9,10] (by kernel_rfl) (by kernel_rfl) (by kernel_rfl) rfl M.drew ?_
  replace M := M.drew
  refine R_rd 0 [1,2,3,4,5,6,7,8,9,10] (by kernel_rfl) rfl K (want_no rfl) rfl rfl (rd_field rfl fld49_0 K rfl) ?_; clear K; intro a K
  refine R_rd 1 [2,3,4,5,6,7,8,9,10] (by kernel_rfl) rfl K (want_no rfl) rfl rfl (rd_ldC rfl sc3 K rfl (inM 1 rfl) rfl) ?_; clear K; intro a K
  refine R_rd 2 [3,4,5,6,7,8,9,10] (by kernel_rfl) rfl K (want_no rfl) rfl rfl (rd_field rfl fld49_1 K rfl) ?_; clear K; intro a K
  refine R_rd 3 [4,5,6,7,8,9,10] (by kernel_rfl) rfl K (want_no rfl) rfl rfl (rd_ldC rfl sc3 K rfl (inM 1 rfl) rfl) ?_; clear K; intro a K
  refine R_rd 4 [5,6,7,8,9,10] (by kernel_rfl) rfl K (want_no rfl) rfl rfl (rd_field rfl fld49_2 K rfl) ?_; clear K; intro a K
  refine R_rd 5 [6,7,8,9,10] (by kernel_rfl) rfl K (want_no rfl) rfl rfl (rd_ldC rfl sc47 K rfl (inM 1 rfl) rfl) ?_; clear K; intro a K
  obtain ⟨x2, hx, h⟩ := olet h
  refine R_rd 6 [7,8,9,10] (by kernel_rfl) rfl K (want_no rfl) rfl rfl (rdi hx (rd_len rfl un47 K rfl)) ?_; clear K; intro a K
  refine R_br [7,9] (by kernel_rfl) ⟨?_, ?_, trivial⟩
  ·
    obtain ⟨l2, h_l2, h⟩ := obind h
    refine R_ac [8,9,10] (by kernel_rfl) rfl K (want_no rfl) rfl rfl (ac_make (C := cIII) (z := (0, 0, 0)) rfl sl47 rfl z73 rfl K rfl rfl M h_l2) ?_
    have M0 := M; clear K M; rintro _ a w ⟨A, c, rfl, M⟩ K
    clear M0
    refine ⟨fun _ => M.pick [1,2] (by decide), ?_⟩
    refine R_rd 8 [9,10] (by kernel_rfl) rfl K (want_no rfl) rfl rfl (rd_build rfl K (vs := [(0, .int .i64 q_W), (1, .int .i64 q_H), (2, .slice A l2.length c)]) (cs := [.int .i64 q_W, .int .i64 q_H, .slice A l2.length c]) rfl (by kernel_rfl)) ?_; clear K; intro a K
    refine R_br [9] (by kernel_rfl) ⟨?_, trivial⟩
    refine R_ac [10] (by kernel_rfl) rfl K (want_no rfl) rfl rfl (ac_alloc rfl z49 M) ?_
    have M0 := M; clear K M; rintro _ a w ⟨g_out, rfl, M⟩ K
    clear M0
    refine ⟨fun _ => M.pick [2,3] (by decide), ?_⟩
    refine R_br [10] (by kernel_rfl) ⟨?_, trivial⟩
    refine R_a0 [] (by kernel_rfl) rfl K (want_no rfl) rfl (ac_storeA rfl ty49 K rfl (ds := [.int .i64 q_W, .int .i64 q_H, .slice A l2.length c]) rfl rfl 0 M rfl rfl rfl) ?_
    have M0 := M; clear K M; rintro _ a w M K
    clear M0
    refine ⟨fun h => absurd h (by decide), ?_⟩
    refine R_end ?_
    refine then_n ?_
    refine wp_seq ?_
    refine wp_seq ?_
    refine X_reg ?_
    refine X_rd K (want_no rfl) rfl rfl (rd_field rfl fld49_2 K rfl) M ?_; clear K; intro a K
    refine X_rd K (want_no rfl) rfl rfl (rd_ldC rfl sc47 K rfl (inM 3 rfl) rfl) M ?_; clear K; intro a K
    refine X_rd K (want_no rfl) rfl rfl (rd_len rfl un47 K rfl) M ?_; clear K; intro a K
    refine X_rd K (want_no rfl) rfl rfl (rd_move rfl K rfl) M ?_; clear K; intro a K
    refine wpList_nil ?_
    refine then_n ?_
    refine wp_block ?_
    refine X_lp (id := 0) (Rel := fun (⟨out_P, i⟩ : List (Int × Int × Int) × Int) a w => ∃ (A2 : Option Addr) (c2 : Nat), Kn a 41 [(1, .func (.func 73) #[] #[.pointer (some ⟨g_Turn_3_0, 0, none⟩)]), (2, .pointer (some ⟨g_q, 0, none⟩)), (4, .pointer (some ⟨g_x, 0, none⟩)), (5, .pointer (some ⟨g_out, 0, none⟩)), (18, .slice A_q_P q_P.length c_q_P), (19, .int .i64 (q_P.length : Int)), (20, .int .i64 i)] ∧ Mem w0.heap.size w0 w [.blk g_out 49 [.int .i64 q_W, .int .i64 q_H, .slice A2 out_P.length c2], .row 73 3 A2 out_P.length c2 (cIII.all out_P), .blk g_x 49 [.int .i64 0, .int .i64 0, .slice none (([] : List (Int × Int × Int))).length 0], .blk g_q 49 [.int .i64 q_W, .int .i64 q_H, .slice A_q_P q_P.length c_q_P]]) h (fun _ _ => rfl) ⟨A, c, K.pick [1,2,4,5,18,19,20], M.pick [0,1,2,3] (by decide)⟩ ?_ ?_
    · clear K M h
      rintro ⟨out_P2, i2⟩ a w ⟨A3, c3, K, M⟩ h
      try dsimp only at h
      refine inb_e ?_
      refine then_n ?_
      refine wp_seq ?_
      refine X_reg ?_
      refine X_rd K (want_no rfl) rfl rfl (rd_ldA rfl ty49 K rfl (inM 0 rfl) rfl rfl) M ?_; clear K; intro a K
      refine X_a0 K (want_no rfl) rfl (ac_storeA rfl ty49 K rfl (ds := [.int .i64 q_W, .int .i64 q_H, .slice A3 out_P2.length c3]) rfl rfl 2 M rfl rfl rfl) ?_
      have M0 := M; clear K M; rintro _ a w M K
      clear M0
      refine wpList_nil ?_
      refine then_n ?_
      refine wp_ret ?_
      cases h
      exact ret1 K rfl (res_cellA K rfl ty49 (M.blkAt (i := 2) rfl) rfl) ⟨_, rfl, _, _, rfl, ((M).pick [1] (by decide))⟩
    · clear K M h
      rintro kk fuel ⟨out_P, i⟩ a w hk1 ⟨A2, c2, K, M⟩ h
      unfold D_turn_changed__turn_Turn_3_l1 at h
      refine wp_seq ?_
      refine X_reg ?_
      refine X_rd K (want_no rfl) rfl rfl (rd_lss rfl K rfl rfl) M ?_; clear K; intro a K
      refine wpList_nil ?_
      refine then_n ?_
      refine wp_seq ?_
      refine X_cond K rfl (fun hb => ?_) (fun hb => ?_)
      · have h := ctrue hb h
        refine wp_skip ?_
        refine then_n ?_
        refine wp_seq ?_
        refine wp_block ?_
        refine wp_seq ?_
        refine X_reg ?_
        refine X_rd K (want_no rfl) rfl rfl (rd_move rfl K rfl) M ?_; clear K; intro a K
        obtain ⟨e3, h_e3, h⟩ := obind h
        refine X_rd K (want_no rfl) rfl rfl (rd_ix rfl sl47 K rfl rfl (inA R_q_P) h_e3) M ?_; clear K; intro a K
        refine X_rd K (want_no rfl) rfl rfl (rd_elA rfl ty73 K rfl rfl rfl (inA R_q_P) h_e3) M ?_; clear K; intro a K
        refine X_ac K (want_no rfl) rfl rfl (ac_alloc rfl z73 M) ?_
        have M0 := M; clear K M; rintro _ a w ⟨g_c2, rfl, M⟩ K
        clear M0
        refine X_rd K (want_no rfl) rfl rfl (rd_assign rfl K rfl) M ?_; clear K; intro a K
        refine X_a0 K (want_no rfl) rfl (ac_storeA rfl ty73 K rfl (ds := [.int .i64 e3.1, .int .i64 e3.2.1, .int .i64 e3.2.2]) rfl rfl 0 M rfl rfl rfl) ?_
        have M0 := M; clear K M; rintro _ a w M K
        clear M0
        refine wpList_nil ?_
        refine then_n ?_
        refine wp_region_tl (fun w => Mem _ _ w _) [0,0,0,0,0,0,0,0,0,0,0,1,0,0,2] (by kernel_rfl) (by kernel_rfl) M.drew ?_
        replace M := M.drew
        refine T_rd K (want_no rfl) rfl rfl (rd_field rfl fld49_2 K rfl) ?_; clear K; intro a K
        refine T_rd K (want_no rfl) rfl rfl (rd_ldC rfl sc47 K rfl (inM 1 rfl) rfl) ?_; clear K; intro a K
        refine T_rd K (want_no rfl) rfl rfl (rd_move rfl K rfl) ?_; clear K; intro a K
        refine T_rd K (want_no rfl) rfl rfl (rd_move rfl K rfl) ?_; clear K; intro a K
        refine T_rd K (want_no rfl) rfl rfl (rd_field rfl fld49_0 K rfl) ?_; clear K; intro a K
        refine T_rd K (want_no rfl) rfl rfl (rd_ldC rfl sc3 K rfl (inM 4 rfl) rfl) ?_; clear K; intro a K
        obtain ⟨_, h0, h⟩ := obind h
        have h0 := nz_spec h0
        refine T_rd K (want_no rfl) rfl rfl (rd_rem rfl K rfl rfl h0) ?_; clear K; intro a K
        refine T_rd K (want_no rfl) rfl rfl (rd_move rfl K rfl) ?_; clear K; intro a K
        refine T_rd K (want_no rfl) rfl rfl (rd_field rfl fld49_0 K rfl) ?_; clear K; intro a K
        refine T_rd K (want_no rfl) rfl rfl (rd_ldC rfl sc3 K rfl (inM 4 rfl) rfl) ?_; clear K; intro a K
        obtain ⟨_, h0, h⟩ := obind h
        have h0 := nz_spec h0
        refine T_rd K (want_no rfl) rfl rfl (rd_quo rfl K rfl rfl h0) ?_; clear K; intro a K
        obtain ⟨r3, h_r3, h⟩ := obind h
        refine T_ac K (want_no rfl) rfl rfl (ac_call (vs := [.int .i64 (Int.tmod i q_W), .int .i64 (IntKind.i64.wrap (Int.tdiv i q_W))]) (cap := [.pointer (some ⟨g_Turn_3_0, 0, none⟩)]) rfl fok73 K rfl rfl (W_turn_Turn_3 N (Int.tmod i q_W) (IntKind.i64.wrap (Int.tdiv i q_W)) Turn_3_0_W Turn_3_0_H Turn_3_0_P A_Turn_3_0_P c_Turn_3_0_P g_Turn_3_0 _ ((inA R_Turn_3_0_P) _ M) C_Turn_3_0_P (inO B_g_Turn_3_0 _ M) r3 h_r3)) ?_
        have M0 := M; clear K M; rintro _ a w ⟨rfl, M⟩ K
        have M := M0.call M
        clear M0
        refine ⟨M.pick [0,1,2,3,4] (by decide), ?_⟩
        refine T_rd K (want_no rfl) rfl rfl (rd_ldA rfl ty73 K rfl (inM 0 rfl) rfl rfl) ?_; clear K; intro a K
        obtain ⟨e4, h_e4, h⟩ := obind h
        refine T_rd K (want_no rfl) rfl rfl (rd_ix rfl sl47 K rfl rfl (inR (C := cIII) 2 rfl rfl) h_e4) ?_; clear K; intro a K
        obtain ⟨l4, h_l4, h⟩ := obind h
        refine T_a0z K (want_no rfl) rfl (ac_rowset (el := (e3.1, e3.2.1, e3.2.2)) rfl sz73 rfl rfl K rfl rfl rfl 2 M rfl h_l4) ?_
        have M0 := M; clear K M; rintro _ a w M K
        have hl := setL_len h_l4
        try rw [hl] at M
        clear hl
        clear M0
        refine T_end ?_
        refine inb_n ?_
        refine then_n ?_
        refine X_reg ?_
        refine X_rd K (want_no rfl) rfl rfl (rd_add rfl K rfl rfl) M ?_; clear K; intro a K
        refine X_rd K (want_no rfl) rfl rfl (rd_move rfl K rfl) M ?_; clear K; intro a K
        refine wpList_nil ?_
        exact then_n ⟨(l4, IntKind.i64.wrap (i + 1)), ⟨A2, c2, K.pick [1,2,4,5,18,19,20], M.pick [1,2,3,4] (by decide)⟩, h⟩
      · have h := cfalse hb h
        refine wp_exit ?_
        refine then_e ?_
        exact then_e (hk1 (out_P, i) _ _ ⟨A2, c2, K.pick [1,2,4,5,18,19,20], M.pick [0,1,2,3] (by decide)⟩ h)
  ·
    refine R_ac [7,8,10] (by kernel_rfl) rfl K (want_no rfl) rfl rfl (ac_alloc rfl z49 M) ?_
    have M0 := M; clear K M; rintro _ a w ⟨g_out2, rfl, M⟩ K
    clear M0
    refine ⟨fun _ => M.pick [1,2] (by decide), ?_⟩
    refine R_br [7] (by kernel_rfl) ⟨?_, trivial⟩
    obtain ⟨l5, h_l5, h⟩ := obind h
    refine R_ac [8,10] (by kernel_rfl) rfl K (want_no rfl) rfl rfl (ac_make (C := cIII) (z := (0, 0, 0)) rfl sl47 rfl z73 rfl K rfl rfl M h_l5) ?_
    have M0 := M; clear K M; rintro _ a w ⟨A4, c4, rfl, M⟩ K
    clear M0
    refine ⟨fun _ => M.pick [2,3] (by decide), ?_⟩
    refine R_rd 8 [10] (by kernel_rfl) rfl K (want_no rfl) rfl rfl (rd_build rfl K (vs := [(0, .int .i64 q_W), (1, .int .i64 q_H), (2, .slice A4 l5.length c4)]) (cs := [.int .i64 q_W, .int .i64 q_H, .slice A4 l5.length c4]) rfl (by kernel_rfl)) ?_; clear K; intro a K
    refine R_br [10] (by kernel_rfl) ⟨?_, trivial⟩
    refine R_a0 [] (by kernel_rfl) rfl K (want_no rfl) rfl (ac_storeA rfl ty49 K rfl (ds := [.int .i64 q_W, .int .i64 q_H, .slice A4 l5.length c4]) rfl rfl 1 M rfl rfl rfl) ?_
    have M0 := M; clear K M; rintro _ a w M K
    clear M0
    refine ⟨fun h => absurd h (by decide), ?_⟩
    refine R_end ?_
    refine then_n ?_
    refine wp_seq ?_
    refine wp_seq ?_
    refine X_reg ?_
    refine X_rd K (want_no rfl) rfl rfl (rd_field rfl fld49_2 K rfl) M ?_; clear K; intro a K
    refine X_rd K (want_no rfl) rfl rfl (rd_ldC rfl sc47 K rfl (inM 3 rfl) rfl) M ?_; clear K; intro a K
    refine X_rd K (want_no rfl) rfl rfl (rd_len rfl un47 K rfl) M ?_; clear K; intro a K
    refine X_rd K (want_no rfl) rfl rfl (rd_move rfl K rfl) M ?_; clear K; intro a K
    refine wpList_nil ?_
    refine then_n ?_
    refine wp_block ?_
    refine X_lp (id := 0) (Rel := fun (⟨out_P3, i3⟩ : List (Int × Int × Int) × Int) a w => ∃ (A5 : Option Addr) (c5 : Nat), Kn a 41 [(1, .func (.func 73) #[] #[.pointer (some ⟨g_Turn_3_0, 0, none⟩)]), (2, .pointer (some ⟨g_q, 0, none⟩)), (4, .pointer (some ⟨g_x, 0, none⟩)), (5, .pointer (some ⟨g_out2, 0, none⟩)), (18, .slice A_q_P q_P.length c_q_P), (19, .int .i64 (q_P.length : Int)), (20, .int .i64 i3)] ∧ Mem w0.heap.size w0 w [.row 73 3 A5 out_P3.length c5 (cIII.all out_P3), .blk g_out2 49 [.int .i64 q_W, .int .i64 q_H, .slice A5 out_P3.length c5], .blk g_x 49 [.int .i64 0, .int .i64 0, .slice none (([] : List (Int × Int × Int))).length 0], .blk g_q 49 [.int .i64 q_W, .int .i64 q_H, .slice A_q_P q_P.length c_q_P]]) h (fun _ _ => rfl) ⟨A4, c4, K.pick [1,2,4,5,18,19,20], M.pick [0,1,2,3] (by decide)⟩ ?_ ?_
    · clear K M h
      rintro ⟨out_P4, i4⟩ a w ⟨A6, c6, K, M⟩ h
      try dsimp only at h
      refine inb_e ?_
      refine then_n ?_
      refine wp_seq ?_
      refine X_reg ?_
      refine X_rd K (want_no rfl) rfl rfl (rd_ldA rfl ty49 K rfl (inM 1 rfl) rfl rfl) M ?_; clear K; intro a K
      refine X_a0 K (want_no rfl) rfl (ac_storeA rfl ty49 K rfl (ds := [.int .i64 q_W, .int .i64 q_H, .slice A6 out_P4.length c6]) rfl rfl 2 M rfl rfl rfl) ?_
      have M0 := M; clear K M; rintro _ a w M K
      clear M0
      refine wpList_nil ?_
      refine then_n ?_
      refine wp_ret ?_
      cases h
      exact ret1 K rfl (res_cellA K rfl ty49 (M.blkAt (i := 2) rfl) rfl) ⟨_, rfl, _, _, rfl, ((M).pick [0] (by decide))⟩
    · clear K M h
      rintro kk fuel ⟨out_P3, i3⟩ a w hk1 ⟨A5, c5, K, M⟩ h
      unfold D_turn_changed__turn_Turn_3_l1 at h
      refine wp_seq ?_
      refine X_reg ?_
      refine X_rd K (want_no rfl) rfl rfl (rd_lss rfl K rfl rfl) M ?_; clear K; intro a K
      refine wpList_nil ?_
      refine then_n ?_
      refine wp_seq ?_
      refine X_cond K rfl (fun hb => ?_) (fun hb => ?_)
      · have h := ctrue hb h
        refine wp_skip ?_
        refine then_n ?_
        refine wp_seq ?_
        refine wp_block ?_
        refine wp_seq ?_
        refine X_reg ?_
        refine X_rd K (want_no rfl) rfl rfl (rd_move rfl K rfl) M ?_; clear K; intro a K
        obtain ⟨e7, h_e7, h⟩ := obind h
        refine X_rd K (want_no rfl) rfl rfl (rd_ix rfl sl47 K rfl rfl (inA R_q_P) h_e7) M ?_; clear K; intro a K
        refine X_rd K (want_no rfl) rfl rfl (rd_elA rfl ty73 K rfl rfl rfl (inA R_q_P) h_e7) M ?_; clear K; intro a K
        refine X_ac K (want_no rfl) rfl rfl (ac_alloc rfl z73 M) ?_
        have M0 := M; clear K M; rintro _ a w ⟨g_c4, rfl, M⟩ K
        clear M0
        refine X_rd K (want_no rfl) rfl rfl (rd_assign rfl K rfl) M ?_; clear K; intro a K
        refine X_a0 K (want_no rfl) rfl (ac_storeA rfl ty73 K rfl (ds := [.int .i64 e7.1, .int .i64 e7.2.1, .int .i64 e7.2.2]) rfl rfl 0 M rfl rfl rfl) ?_
        have M0 := M; clear K M; rintro _ a w M K
        clear M0
        refine wpList_nil ?_
        refine then_n ?_
        refine wp_region_tl (fun w => Mem _ _ w _) [0,0,0,0,0,0,0,0,0,0,0,1,0,0,2] (by kernel_rfl) (by kernel_rfl) M.drew ?_
        replace M := M.drew
        refine T_rd K (want_no rfl) rfl rfl (rd_field rfl fld49_2 K rfl) ?_; clear K; intro a K
        refine T_rd K (want_no rfl) rfl rfl (rd_ldC rfl sc47 K rfl (inM 2 rfl) rfl) ?_; clear K; intro a K
        refine T_rd K (want_no rfl) rfl rfl (rd_move rfl K rfl) ?_; clear K; intro a K
        refine T_rd K (want_no rfl) rfl rfl (rd_move rfl K rfl) ?_; clear K; intro a K
        refine T_rd K (want_no rfl) rfl rfl (rd_field rfl fld49_0 K rfl) ?_; clear K; intro a K
        refine T_rd K (want_no rfl) rfl rfl (rd_ldC rfl sc3 K rfl (inM 4 rfl) rfl) ?_; clear K; intro a K
        obtain ⟨_, h0, h⟩ := obind h
        have h0 := nz_spec h0
        refine T_rd K (want_no rfl) rfl rfl (rd_rem rfl K rfl rfl h0) ?_; clear K; intro a K
        refine T_rd K (want_no rfl) rfl rfl (rd_move rfl K rfl) ?_; clear K; intro a K
        refine T_rd K (want_no rfl) rfl rfl (rd_field rfl fld49_0 K rfl) ?_; clear K; intro a K
        refine T_rd K (want_no rfl) rfl rfl (rd_ldC rfl sc3 K rfl (inM 4 rfl) rfl) ?_; clear K; intro a K
        obtain ⟨_, h0, h⟩ := obind h
        have h0 := nz_spec h0
        refine T_rd K (want_no rfl) rfl rfl (rd_quo rfl K rfl rfl h0) ?_; clear K; intro a K
        obtain ⟨r5, h_r5, h⟩ := obind h
        refine T_ac K (want_no rfl) rfl rfl (ac_call (vs := [.int .i64 (Int.tmod i3 q_W), .int .i64 (IntKind.i64.wrap (Int.tdiv i3 q_W))]) (cap := [.pointer (some ⟨g_Turn_3_0, 0, none⟩)]) rfl fok73 K rfl rfl (W_turn_Turn_3 N (Int.tmod i3 q_W) (IntKind.i64.wrap (Int.tdiv i3 q_W)) Turn_3_0_W Turn_3_0_H Turn_3_0_P A_Turn_3_0_P c_Turn_3_0_P g_Turn_3_0 _ ((inA R_Turn_3_0_P) _ M) C_Turn_3_0_P (inO B_g_Turn_3_0 _ M) r5 h_r5)) ?_
        have M0 := M; clear K M; rintro _ a w ⟨rfl, M⟩ K
        have M := M0.call M
        clear M0
        refine ⟨M.pick [0,1,2,3,4] (by decide), ?_⟩
        refine T_rd K (want_no rfl) rfl rfl (rd_ldA rfl ty73 K rfl (inM 0 rfl) rfl rfl) ?_; clear K; intro a K
        obtain ⟨e8, h_e8, h⟩ := obind h
        refine T_rd K (want_no rfl) rfl rfl (rd_ix rfl sl47 K rfl rfl (inR (C := cIII) 1 rfl rfl) h_e8) ?_; clear K; intro a K
        obtain ⟨l7, h_l7, h⟩ := obind h
        refine T_a0z K (want_no rfl) rfl (ac_rowset (el := (e7.1, e7.2.1, e7.2.2)) rfl sz73 rfl rfl K rfl rfl rfl 1 M rfl h_l7) ?_
        have M0 := M; clear K M; rintro _ a w M K
        have hl := setL_len h_l7
        try rw [hl] at M
        clear hl
        clear M0
        refine T_end ?_
        refine inb_n ?_
        refine then_n ?_
        refine X_reg ?_
        refine X_rd K (want_no rfl) rfl rfl (rd_add rfl K rfl rfl) M ?_; clear K; intro a K
        refine X_rd K (want_no rfl) rfl rfl (rd_move rfl K rfl) M ?_; clear K; intro a K
        refine wpList_nil ?_
        exact then_n ⟨(l7, IntKind.i64.wrap (i3 + 1)), ⟨A5, c5, K.pick [1,2,4,5,18,19,20], M.pick [1,2,3,4] (by decide)⟩, h⟩
      · have h := cfalse hb h
        refine wp_exit ?_
        refine then_e ?_
        exact then_e (hk1 (out_P3, i3) _ _ ⟨A5, c5, K.pick [1,2,4,5,18,19,20], M.pick [0,1,2,3] (by decide)⟩ h)

set_option maxRecDepth 100000 in
set_option maxHeartbeats 4000000 in
theorem W_turn_Turn (N : Nat) (q_W : Int) (q_H : Int) (q_P : List (Int × Int × Int)) (A_q_P : Option Addr) (c_q_P : Nat) (how : Int) (w0 : World) (R_q_P : SL w0 cIII A_q_P q_P) (C_q_P : q_P.length ≤ c_q_P) (r : Int × Int × List (Int × Int × Int) × Int) (h : D_turn_Turn N q_W q_H q_P how = some r) :
    Calls Try.prog 32 #[.agg #[.int .i64 q_W, .int .i64 q_H, .slice A_q_P q_P.length c_q_P], .int .i64 how] w0 fun e w' => ∃ v, e = .returned v ∧ ∃ A2 c2, v = .tuple #[.agg #[.int .i64 r.1, .int .i64 r.2.1, .slice A2 r.2.2.1.length c2], .int .i64 r.2.2.2] ∧ Mem w0.heap.size w0 w' [.row 73 3 A2 r.2.2.1.length c2 (cIII.all r.2.2.1)] := by
  refine X_enter Try.func32 rfl Try.ntmps32 rfl ?_
  intro a K
  have M := Mem.start w0
  have K : Kn a 45 [(0, .agg #[.int .i64 q_W, .int .i64 q_H, .slice A_q_P q_P.length c_q_P]), (1, .int .i64 how)] := K
  unfold D_turn_Turn at h
  refine wp_seq ?_
  refine X_reg ?_
  refine X_ac K (want_no rfl) rfl rfl (ac_box rfl K rfl (cs := [.int .i64 q_W, .int .i64 q_H, .slice A_q_P q_P.length c_q_P]) rfl M) ?_
  have M0 := M; clear K M; rintro _ a w ⟨g_q, rfl, M⟩ K
  clear M0
  refine X_ac K (want_no rfl) rfl rfl (ac_alloc rfl z49 M) ?_
  have M0 := M; clear K M; rintro _ a w ⟨g_x, rfl, M⟩ K
  clear M0
  refine X_rd K (want_no rfl) rfl rfl (rd_assign rfl K rfl) M ?_; clear K; intro a K
  refine wpList_nil ?_
  refine then_n ?_
  refine wp_seq ?_
  refine wp_seq ?_
  refine X_reg ?_
  refine X_rd K (want_no rfl) rfl rfl (rd_ldA rfl ty49 K rfl (inM 1 rfl) rfl rfl) M ?_; clear K; intro a K
  obtain ⟨r2, h_r2, h⟩ := obind h
  refine X_ac K (want_no rfl) rfl rfl (ac_call (vs := [.agg #[.int .i64 q_W, .int .i64 q_H, .slice A_q_P q_P.length c_q_P], .int .i64 0]) (cap := []) rfl fok39 K rfl rfl (W_mosaic_Take N q_W q_H q_P A_q_P c_q_P 0 _ ((inA R_q_P) _ M) C_q_P r2 h_r2)) ?_
  have M0 := M; clear K M; rintro _ a w ⟨A, c, rfl, M⟩ K
  have M := M0.call M
  clear M0
  refine X_rd K (want_no rfl) rfl rfl (rd_move rfl K rfl) M ?_; clear K; intro a K
  refine X_rd K (want_no rfl) rfl rfl (rd_extract rfl K rfl rfl) M ?_; clear K; intro a K
  refine X_rd K (want_no rfl) rfl rfl (rd_extract rfl K rfl rfl) M ?_; clear K; intro a K
  refine X_ac K (want_no rfl) rfl rfl (ac_alloc rfl z24 M) ?_
  have M0 := M; clear K M; rintro _ a w ⟨g__, rfl, M⟩ K
  clear M0
  refine X_a0 K (want_no rfl) rfl (ac_storeA rfl ty24 K rfl (ds := [.int .i64 r2.1, .int .i64 r2.2.1, .slice A r2.2.2.1.length c]) rfl rfl 0 M rfl rfl rfl) ?_
  have M0 := M; clear K M; rintro _ a w M K
  clear M0
  refine X_rd K (want_no rfl) rfl rfl (rd_assign rfl K rfl) M ?_; clear K; intro a K
  refine wpList_nil ?_
  refine then_n ?_
  refine wp_seq ?_
  refine X_reg ?_
  refine X_rd K (want_no rfl) rfl rfl (rd_move rfl K rfl) M ?_; clear K; intro a K
  refine X_rd K (want_no rfl) rfl rfl (rd_neq rfl K rfl rfl) M ?_; clear K; intro a K
  refine wpList_nil ?_
  refine then_n ?_
  refine X_cond K rfl (fun hb => ?_) (fun hb => ?_)
  · have h := ctrue hb h
    refine wp_seq ?_
    refine X_reg ?_
    refine X_rd K (want_no rfl) rfl rfl (rd_build rfl K (vs := []) (cs := [.int .i64 0, .int .i64 0, .slice none (([] : List (Int × Int × Int))).length 0]) rfl (by kernel_rfl)) M ?_; clear K; intro a K
    refine X_rd K (want_no rfl) rfl rfl (rd_move rfl K rfl) M ?_; clear K; intro a K
    refine X_a0 K (want_no rfl) rfl (ac_storeA rfl ty49 K rfl (ds := [.int .i64 0, .int .i64 0, .slice none (([] : List (Int × Int × Int))).length 0]) rfl rfl 2 M rfl rfl rfl) ?_
    have M0 := M; clear K M; rintro _ a w M K
    clear M0
    refine X_rd K (want_no rfl) rfl rfl (rd_assign rfl K rfl) M ?_; clear K; intro a K
    refine wpList_nil ?_
    refine then_n ?_
    refine wp_ret ?_
    refine then_r ?_
    cases h
    exact ret2 K rfl (res_cellA K rfl ty49 (M.blkAt (i := 2) rfl) rfl) (res_tmp K rfl) ⟨_, rfl, _, _, rfl, (((Mem.nilrow 73 3 cIII M)).pick [0] (by decide))⟩
  · have h := cfalse hb h
    refine wp_skip ?_
    refine then_n ?_
    refine wp_seq ?_
    refine wp_seq ?_
    refine X_reg ?_
    refine X_rd K (want_no rfl) rfl rfl (rd_move rfl K rfl) M ?_; clear K; intro a K
    refine X_rd K (want_no rfl) rfl rfl (rd_lss rfl K rfl rfl) M ?_; clear K; intro a K
    refine X_rd K (want_no rfl) rfl rfl (rd_move rfl K rfl) M ?_; clear K; intro a K
    rcases Bool.eq_false_or_eq_true (decide (how < 1)) with hb | hb
    · have h := ctrue hb h
      have K := K.reb (s := 20) rfl hb
      refine X_no K (K.no rfl rfl rfl rfl) rfl rfl ?_; clear K; intro a K
      refine X_no K (K.no rfl rfl rfl rfl) rfl rfl ?_; clear K; intro a K
      refine X_rd K (want_no rfl) rfl rfl (rd_pickT rfl K rfl rfl) M ?_; clear K; intro a K
      refine wpList_nil ?_
      refine then_n ?_
      refine X_condT K rfl ?_
      refine wp_seq ?_
      refine X_reg ?_
      refine X_rd K (want_no rfl) rfl rfl (rd_build rfl K (vs := []) (cs := [.int .i64 0, .int .i64 0, .slice none (([] : List (Int × Int × Int))).length 0]) rfl (by kernel_rfl)) M ?_; clear K; intro a K
      refine X_a0 K (want_no rfl) rfl (ac_storeA rfl ty49 K rfl (ds := [.int .i64 0, .int .i64 0, .slice none (([] : List (Int × Int × Int))).length 0]) rfl rfl 2 M rfl rfl rfl) ?_
      have M0 := M; clear K M; rintro _ a w M K
      clear M0
      refine X_rd K (want_no rfl) rfl rfl (rd_assign rfl K rfl) M ?_; clear K; intro a K
      refine wpList_nil ?_
      refine then_n ?_
      refine wp_ret ?_
      refine then_r ?_
      cases h
      exact ret2 K rfl (res_cellA K rfl ty49 (M.blkAt (i := 2) rfl) rfl) (res_tmp K rfl) ⟨_, rfl, _, _, rfl, (((Mem.nilrow 73 3 cIII M)).pick [0] (by decide))⟩
    · have h := cfalse hb h
      have K := K.reb (s := 20) rfl hb
      refine X_rd K (K.yes rfl rfl rfl) rfl rfl (rd_move rfl K rfl) M ?_; clear K; intro a K
      refine X_rd K (K.yes rfl rfl rfl) rfl rfl (rd_gtr rfl K rfl rfl) M ?_; clear K; intro a K
      refine X_rd K (want_no rfl) rfl rfl (rd_pickF rfl K rfl rfl) M ?_; clear K; intro a K
      refine wpList_nil ?_
      refine then_n ?_
      refine X_cond K rfl (fun hb => ?_) (fun hb => ?_)
      · have h := ctrue hb h
        refine wp_seq ?_
        refine X_reg ?_
        refine X_rd K (want_no rfl) rfl rfl (rd_build rfl K (vs := []) (cs := [.int .i64 0, .int .i64 0, .slice none (([] : List (Int × Int × Int))).length 0]) rfl (by kernel_rfl)) M ?_; clear K; intro a K
        refine X_a0 K (want_no rfl) rfl (ac_storeA rfl ty49 K rfl (ds := [.int .i64 0, .int .i64 0, .slice none (([] : List (Int × Int × Int))).length 0]) rfl rfl 2 M rfl rfl rfl) ?_
        have M0 := M; clear K M; rintro _ a w M K
        clear M0
        refine X_rd K (want_no rfl) rfl rfl (rd_assign rfl K rfl) M ?_; clear K; intro a K
        refine wpList_nil ?_
        refine then_n ?_
        refine wp_ret ?_
        refine then_r ?_
        cases h
        exact ret2 K rfl (res_cellA K rfl ty49 (M.blkAt (i := 2) rfl) rfl) (res_tmp K rfl) ⟨_, rfl, _, _, rfl, (((Mem.nilrow 73 3 cIII M)).pick [0] (by decide))⟩
      · have h := cfalse hb h
        refine wp_skip ?_
        refine then_n ?_
        refine wp_seq ?_
        refine X_reg ?_
        obtain ⟨r3, h_r3, h⟩ := obind h
        refine X_ac K (want_no rfl) rfl rfl (ac_call (vs := []) (cap := []) rfl fok68 K rfl rfl (W_turn_moves N  _  r3 h_r3)) ?_
        have M0 := M; clear K M; rintro _ a w ⟨rfl, M⟩ K
        have M := M0.call M
        clear M0
        refine X_rd K (want_no rfl) rfl rfl (rd_move rfl K rfl) M ?_; clear K; intro a K
        obtain ⟨e, h_e, h⟩ := obind h
        refine X_rd K (want_no rfl) rfl rfl (rd_ixVA (C := cBBB) (es := [(r3.1, r3.2.1, r3.2.2.1), (r3.2.2.2.1, r3.2.2.2.2.1, r3.2.2.2.2.2.1), (r3.2.2.2.2.2.2.1, r3.2.2.2.2.2.2.2.1, r3.2.2.2.2.2.2.2.2.1), (r3.2.2.2.2.2.2.2.2.2.1, r3.2.2.2.2.2.2.2.2.2.2.1, r3.2.2.2.2.2.2.2.2.2.2.2.1), (r3.2.2.2.2.2.2.2.2.2.2.2.2.1, r3.2.2.2.2.2.2.2.2.2.2.2.2.2.1, r3.2.2.2.2.2.2.2.2.2.2.2.2.2.2.1), (r3.2.2.2.2.2.2.2.2.2.2.2.2.2.2.2.1, r3.2.2.2.2.2.2.2.2.2.2.2.2.2.2.2.2.1, r3.2.2.2.2.2.2.2.2.2.2.2.2.2.2.2.2.2.1), (r3.2.2.2.2.2.2.2.2.2.2.2.2.2.2.2.2.2.2.1, r3.2.2.2.2.2.2.2.2.2.2.2.2.2.2.2.2.2.2.2.1, r3.2.2.2.2.2.2.2.2.2.2.2.2.2.2.2.2.2.2.2.2.1), (r3.2.2.2.2.2.2.2.2.2.2.2.2.2.2.2.2.2.2.2.2.2.1, r3.2.2.2.2.2.2.2.2.2.2.2.2.2.2.2.2.2.2.2.2.2.2.1, r3.2.2.2.2.2.2.2.2.2.2.2.2.2.2.2.2.2.2.2.2.2.2.2.1), (r3.2.2.2.2.2.2.2.2.2.2.2.2.2.2.2.2.2.2.2.2.2.2.2.2.1, r3.2.2.2.2.2.2.2.2.2.2.2.2.2.2.2.2.2.2.2.2.2.2.2.2.2.1, r3.2.2.2.2.2.2.2.2.2.2.2.2.2.2.2.2.2.2.2.2.2.2.2.2.2.2)]) rfl ar103 ty102 rfl K rfl rfl rfl h_e) M ?_; clear K; intro a K
        refine X_ac K (want_no rfl) rfl rfl (ac_alloc rfl z102 M) ?_
        have M0 := M; clear K M; rintro _ a w ⟨g_m, rfl, M⟩ K
        clear M0
        refine X_a0 K (want_no rfl) rfl (ac_storeA rfl ty102 K rfl (ds := [.bool e.1, .bool e.2.1, .bool e.2.2]) rfl rfl 0 M rfl rfl rfl) ?_
        have M0 := M; clear K M; rintro _ a w M K
        clear M0
        refine wpList_nil ?_
        refine then_n ?_
        refine wp_seq ?_
        refine wp_seq ?_
        refine X_reg ?_
        refine X_rd K (want_no rfl) rfl rfl (rd_field rfl fld102_0 K rfl) M ?_; clear K; intro a K
        refine X_rd K (want_no rfl) rfl rfl (rd_ldC rfl sc4 K rfl (inM 0 rfl) rfl) M ?_; clear K; intro a K
        refine wpList_nil ?_
        refine then_n ?_
        refine X_cond K rfl (fun hb => ?_) (fun hb => ?_)
        · have h := ctrue hb h
          refine X_reg ?_
          refine X_rd K (want_no rfl) rfl rfl (rd_ldA rfl ty49 K rfl (inM 4 rfl) rfl rfl) M ?_; clear K; intro a K
          obtain ⟨r4, h_r4, h⟩ := obind h
          refine X_ac K (want_no rfl) rfl rfl (ac_call (vs := [.agg #[.int .i64 q_W, .int .i64 q_H, .slice A_q_P q_P.length c_q_P]]) (cap := []) rfl fok69 K rfl rfl (W_turn_swapped N q_W q_H q_P A_q_P c_q_P _ ((inA R_q_P) _ M) C_q_P r4 h_r4)) ?_
          have M0 := M; clear K M; rintro _ a w ⟨A2, c2, rfl, M⟩ K
          have M := M0.call M
          clear M0
          refine X_a0 K (want_no rfl) rfl (ac_storeA rfl ty49 K rfl (ds := [.int .i64 r4.1, .int .i64 r4.2.1, .slice A2 r4.2.2.length c2]) rfl rfl 5 M rfl rfl rfl) ?_
          have M0 := M; clear K M; rintro _ a w M K
          clear M0
          refine wpList_nil ?_
          refine then_n ?_
          refine wp_seq ?_
          refine wp_seq ?_
          refine X_reg ?_
          refine X_rd K (want_no rfl) rfl rfl (rd_field rfl fld102_1 K rfl) M ?_; clear K; intro a K
          refine X_rd K (want_no rfl) rfl rfl (rd_ldC rfl sc4 K rfl (inM 1 rfl) rfl) M ?_; clear K; intro a K
          refine wpList_nil ?_
          refine then_n ?_
          refine X_cond K rfl (fun hb => ?_) (fun hb => ?_)
          · have h := ctrue hb h
            refine X_reg ?_
            refine X_rd K (want_no rfl) rfl rfl (rd_ldA rfl ty49 K rfl (inM 5 rfl) rfl rfl) M ?_; clear K; intro a K
            refine X_rd K (want_no rfl) rfl rfl (rd_func rfl K (vs := [.pointer (some ⟨g_q, 0, none⟩)]) rfl) M ?_; clear K; intro a K
            obtain ⟨r5, h_r5, h⟩ := obind h
            refine X_ac K (want_no rfl) rfl rfl (ac_call (vs := [.agg #[.int .i64 r4.1, .int .i64 r4.2.1, .slice A2 r4.2.2.length c2], .func (.func 71) #[] #[.pointer (some ⟨g_q, 0, none⟩)]]) (cap := []) rfl fok70 K rfl rfl (W_turn_changed__turn_Turn_1 N r4.1 r4.2.1 r4.2.2 A2 c2 r4.1 r4.2.1 r4.2.2 A2 c2 g_q _ ((inR (C := cIII) 0 rfl rfl) _ M) (M.cap 0 rfl) ((inR (C := cIII) 0 rfl rfl) _ M) (M.cap 0 rfl) (M.blkAt (i := 5) rfl) r5 h_r5)) ?_
            have M0 := M; clear K M; rintro _ a w ⟨A3, c3, rfl, M⟩ K
            have M := M0.call M
            clear M0
            refine X_a0 K (want_no rfl) rfl (ac_storeA rfl ty49 K rfl (ds := [.int .i64 r5.1, .int .i64 r5.2.1, .slice A3 r5.2.2.length c3]) rfl rfl 6 M rfl rfl rfl) ?_
            have M0 := M; clear K M; rintro _ a w M K
            clear M0
            refine wpList_nil ?_
            refine then_n ?_
            refine wp_seq ?_
            refine wp_seq ?_
            refine X_reg ?_
            refine X_rd K (want_no rfl) rfl rfl (rd_field rfl fld102_2 K rfl) M ?_; clear K; intro a K
            refine X_rd K (want_no rfl) rfl rfl (rd_ldC rfl sc4 K rfl (inM 2 rfl) rfl) M ?_; clear K; intro a K
            refine wpList_nil ?_
            refine then_n ?_
            refine X_cond K rfl (fun hb => ?_) (fun hb => ?_)
            · have h := ctrue hb h
              refine X_reg ?_
              refine X_rd K (want_no rfl) rfl rfl (rd_ldA rfl ty49 K rfl (inM 6 rfl) rfl rfl) M ?_; clear K; intro a K
              refine X_rd K (want_no rfl) rfl rfl (rd_func rfl K (vs := [.pointer (some ⟨g_q, 0, none⟩)]) rfl) M ?_; clear K; intro a K
              obtain ⟨r6, h_r6, h⟩ := obind h
              refine X_ac K (want_no rfl) rfl rfl (ac_call (vs := [.agg #[.int .i64 r5.1, .int .i64 r5.2.1, .slice A3 r5.2.2.length c3], .func (.func 72) #[] #[.pointer (some ⟨g_q, 0, none⟩)]]) (cap := []) rfl fok70 K rfl rfl (W_turn_changed__turn_Turn_2 N r5.1 r5.2.1 r5.2.2 A3 c3 r5.1 r5.2.1 r5.2.2 A3 c3 g_q _ ((inR (C := cIII) 0 rfl rfl) _ M) (M.cap 0 rfl) ((inR (C := cIII) 0 rfl rfl) _ M) (M.cap 0 rfl) (M.blkAt (i := 6) rfl) r6 h_r6)) ?_
              have M0 := M; clear K M; rintro _ a w ⟨A4, c4, rfl, M⟩ K
              have M := M0.call M
              clear M0
              refine X_a0 K (want_no rfl) rfl (ac_storeA rfl ty49 K rfl (ds := [.int .i64 r6.1, .int .i64 r6.2.1, .slice A4 r6.2.2.length c4]) rfl rfl 7 M rfl rfl rfl) ?_
              have M0 := M; clear K M; rintro _ a w M K
              clear M0
              refine wpList_nil ?_
              refine then_n ?_
              refine wp_seq ?_
              refine X_reg ?_
              refine X_rd K (want_no rfl) rfl rfl (rd_ldA rfl ty49 K rfl (inM 7 rfl) rfl rfl) M ?_; clear K; intro a K
              refine X_rd K (want_no rfl) rfl rfl (rd_func rfl K (vs := [.pointer (some ⟨g_q, 0, none⟩)]) rfl) M ?_; clear K; intro a K
              obtain ⟨r7, h_r7, h⟩ := obind h
              refine X_ac K (want_no rfl) rfl rfl (ac_call (vs := [.agg #[.int .i64 r6.1, .int .i64 r6.2.1, .slice A4 r6.2.2.length c4], .func (.func 73) #[] #[.pointer (some ⟨g_q, 0, none⟩)]]) (cap := []) rfl fok70 K rfl rfl (W_turn_changed__turn_Turn_3 N r6.1 r6.2.1 r6.2.2 A4 c4 r6.1 r6.2.1 r6.2.2 A4 c4 g_q _ ((inR (C := cIII) 0 rfl rfl) _ M) (M.cap 0 rfl) ((inR (C := cIII) 0 rfl rfl) _ M) (M.cap 0 rfl) (M.blkAt (i := 7) rfl) r7 h_r7)) ?_
              have M0 := M; clear K M; rintro _ a w ⟨A5, c5, rfl, M⟩ K
              have M := M0.call M
              clear M0
              refine X_a0 K (want_no rfl) rfl (ac_storeA rfl ty49 K rfl (ds := [.int .i64 r7.1, .int .i64 r7.2.1, .slice A5 r7.2.2.length c5]) rfl rfl 7 M rfl rfl rfl) ?_
              have M0 := M; clear K M; rintro _ a w M K
              clear M0
              refine X_rd K (want_no rfl) rfl rfl (rd_assign rfl K rfl) M ?_; clear K; intro a K
              refine wpList_nil ?_
              refine then_n ?_
              refine wp_ret ?_
              cases h
              exact ret2 K rfl (res_cellA K rfl ty49 (M.blkAt (i := 7) rfl) rfl) (res_tmp K rfl) ⟨_, rfl, _, _, rfl, ((M).pick [0] (by decide))⟩
            · have h := cfalse hb h
              refine wp_skip ?_
              refine then_n ?_
              refine wp_seq ?_
              refine X_reg ?_
              refine X_rd K (want_no rfl) rfl rfl (rd_ldA rfl ty49 K rfl (inM 6 rfl) rfl rfl) M ?_; clear K; intro a K
              refine X_rd K (want_no rfl) rfl rfl (rd_func rfl K (vs := [.pointer (some ⟨g_q, 0, none⟩)]) rfl) M ?_; clear K; intro a K
              obtain ⟨r8, h_r8, h⟩ := obind h
              refine X_ac K (want_no rfl) rfl rfl (ac_call (vs := [.agg #[.int .i64 r5.1, .int .i64 r5.2.1, .slice A3 r5.2.2.length c3], .func (.func 73) #[] #[.pointer (some ⟨g_q, 0, none⟩)]]) (cap := []) rfl fok70 K rfl rfl (W_turn_changed__turn_Turn_3 N r5.1 r5.2.1 r5.2.2 A3 c3 r5.1 r5.2.1 r5.2.2 A3 c3 g_q _ ((inR (C := cIII) 0 rfl rfl) _ M) (M.cap 0 rfl) ((inR (C := cIII) 0 rfl rfl) _ M) (M.cap 0 rfl) (M.blkAt (i := 6) rfl) r8 h_r8)) ?_
              have M0 := M; clear K M; rintro _ a w ⟨A6, c6, rfl, M⟩ K
              have M := M0.call M
              clear M0
              refine X_a0 K (want_no rfl) rfl (ac_storeA rfl ty49 K rfl (ds := [.int .i64 r8.1, .int .i64 r8.2.1, .slice A6 r8.2.2.length c6]) rfl rfl 6 M rfl rfl rfl) ?_
              have M0 := M; clear K M; rintro _ a w M K
              clear M0
              refine X_rd K (want_no rfl) rfl rfl (rd_assign rfl K rfl) M ?_; clear K; intro a K
              refine wpList_nil ?_
              refine then_n ?_
              refine wp_ret ?_
              cases h
              exact ret2 K rfl (res_cellA K rfl ty49 (M.blkAt (i := 6) rfl) rfl) (res_tmp K rfl) ⟨_, rfl, _, _, rfl, ((M).pick [0] (by decide))⟩
          · have h := cfalse hb h
            refine wp_skip ?_
            refine then_n ?_
            refine wp_seq ?_
            refine wp_seq ?_
            refine X_reg ?_
            refine X_rd K (want_no rfl) rfl rfl (rd_field rfl fld102_2 K rfl) M ?_; clear K; intro a K
            refine X_rd K (want_no rfl) rfl rfl (rd_ldC rfl sc4 K rfl (inM 1 rfl) rfl) M ?_; clear K; intro a K
            refine wpList_nil ?_
            refine then_n ?_
            refine X_cond K rfl (fun hb => ?_) (fun hb => ?_)
            · have h := ctrue hb h
              refine X_reg ?_
              refine X_rd K (want_no rfl) rfl rfl (rd_ldA rfl ty49 K rfl (inM 5 rfl) rfl rfl) M ?_; clear K; intro a K
              refine X_rd K (want_no rfl) rfl rfl (rd_func rfl K (vs := [.pointer (some ⟨g_q, 0, none⟩)]) rfl) M ?_; clear K; intro a K
              obtain ⟨r9, h_r9, h⟩ := obind h
              refine X_ac K (want_no rfl) rfl rfl (ac_call (vs := [.agg #[.int .i64 r4.1, .int .i64 r4.2.1, .slice A2 r4.2.2.length c2], .func (.func 72) #[] #[.pointer (some ⟨g_q, 0, none⟩)]]) (cap := []) rfl fok70 K rfl rfl (W_turn_changed__turn_Turn_2 N r4.1 r4.2.1 r4.2.2 A2 c2 r4.1 r4.2.1 r4.2.2 A2 c2 g_q _ ((inR (C := cIII) 0 rfl rfl) _ M) (M.cap 0 rfl) ((inR (C := cIII) 0 rfl rfl) _ M) (M.cap 0 rfl) (M.blkAt (i := 5) rfl) r9 h_r9)) ?_
              have M0 := M; clear K M; rintro _ a w ⟨A7, c7, rfl, M⟩ K
              have M := M0.call M
              clear M0
              refine X_a0 K (want_no rfl) rfl (ac_storeA rfl ty49 K rfl (ds := [.int .i64 r9.1, .int .i64 r9.2.1, .slice A7 r9.2.2.length c7]) rfl rfl 6 M rfl rfl rfl) ?_
              have M0 := M; clear K M; rintro _ a w M K
              clear M0
              refine wpList_nil ?_
              refine then_n ?_
              refine wp_seq ?_
              refine X_reg ?_
              refine X_rd K (want_no rfl) rfl rfl (rd_ldA rfl ty49 K rfl (inM 6 rfl) rfl rfl) M ?_; clear K; intro a K
              refine X_rd K (want_no rfl) rfl rfl (rd_func rfl K (vs := [.pointer (some ⟨g_q, 0, none⟩)]) rfl) M ?_; clear K; intro a K
              obtain ⟨r10, h_r10, h⟩ := obind h
              refine X_ac K (want_no rfl) rfl rfl (ac_call (vs := [.agg #[.int .i64 r9.1, .int .i64 r9.2.1, .slice A7 r9.2.2.length c7], .func (.func 73) #[] #[.pointer (some ⟨g_q, 0, none⟩)]]) (cap := []) rfl fok70 K rfl rfl (W_turn_changed__turn_Turn_3 N r9.1 r9.2.1 r9.2.2 A7 c7 r9.1 r9.2.1 r9.2.2 A7 c7 g_q _ ((inR (C := cIII) 0 rfl rfl) _ M) (M.cap 0 rfl) ((inR (C := cIII) 0 rfl rfl) _ M) (M.cap 0 rfl) (M.blkAt (i := 6) rfl) r10 h_r10)) ?_
              have M0 := M; clear K M; rintro _ a w ⟨A8, c8, rfl, M⟩ K
              have M := M0.call M
              clear M0
              refine X_a0 K (want_no rfl) rfl (ac_storeA rfl ty49 K rfl (ds := [.int .i64 r10.1, .int .i64 r10.2.1, .slice A8 r10.2.2.length c8]) rfl rfl 6 M rfl rfl rfl) ?_
              have M0 := M; clear K M; rintro _ a w M K
              clear M0
              refine X_rd K (want_no rfl) rfl rfl (rd_assign rfl K rfl) M ?_; clear K; intro a K
              refine wpList_nil ?_
              refine then_n ?_
              refine wp_ret ?_
              cases h
              exact ret2 K rfl (res_cellA K rfl ty49 (M.blkAt (i := 6) rfl) rfl) (res_tmp K rfl) ⟨_, rfl, _, _, rfl, ((M).pick [0] (by decide))⟩
            · have h := cfalse hb h
              refine wp_skip ?_
              refine then_n ?_
              refine wp_seq ?_
              refine X_reg ?_
              refine X_rd K (want_no rfl) rfl rfl (rd_ldA rfl ty49 K rfl (inM 5 rfl) rfl rfl) M ?_; clear K; intro a K
              refine X_rd K (want_no rfl) rfl rfl (rd_func rfl K (vs := [.pointer (some ⟨g_q, 0, none⟩)]) rfl) M ?_; clear K; intro a K
              obtain ⟨r11, h_r11, h⟩ := obind h
              refine X_ac K (want_no rfl) rfl rfl (ac_call (vs := [.agg #[.int .i64 r4.1, .int .i64 r4.2.1, .slice A2 r4.2.2.length c2], .func (.func 73) #[] #[.pointer (some ⟨g_q, 0, none⟩)]]) (cap := []) rfl fok70 K rfl rfl (W_turn_changed__turn_Turn_3 N r4.1 r4.2.1 r4.2.2 A2 c2 r4.1 r4.2.1 r4.2.2 A2 c2 g_q _ ((inR (C := cIII) 0 rfl rfl) _ M) (M.cap 0 rfl) ((inR (C := cIII) 0 rfl rfl) _ M) (M.cap 0 rfl) (M.blkAt (i := 5) rfl) r11 h_r11)) ?_
              have M0 := M; clear K M; rintro _ a w ⟨A9, c9, rfl, M⟩ K
              have M := M0.call M
              clear M0
              refine X_a0 K (want_no rfl) rfl (ac_storeA rfl ty49 K rfl (ds := [.int .i64 r11.1, .int .i64 r11.2.1, .slice A9 r11.2.2.length c9]) rfl rfl 5 M rfl rfl rfl) ?_
              have M0 := M; clear K M; rintro _ a w M K
              clear M0
              refine X_rd K (want_no rfl) rfl rfl (rd_assign rfl K rfl) M ?_; clear K; intro a K
              refine wpList_nil ?_
              refine then_n ?_
              refine wp_ret ?_
              cases h
              exact ret2 K rfl (res_cellA K rfl ty49 (M.blkAt (i := 5) rfl) rfl) (res_tmp K rfl) ⟨_, rfl, _, _, rfl, ((M).pick [0] (by decide))⟩
        · have h := cfalse hb h
          refine wp_skip ?_
          refine then_n ?_
          refine wp_seq ?_
          refine wp_seq ?_
          refine X_reg ?_
          refine X_rd K (want_no rfl) rfl rfl (rd_field rfl fld102_1 K rfl) M ?_; clear K; intro a K
          refine X_rd K (want_no rfl) rfl rfl (rd_ldC rfl sc4 K rfl (inM 0 rfl) rfl) M ?_; clear K; intro a K
          refine wpList_nil ?_
          refine then_n ?_
          refine X_cond K rfl (fun hb => ?_) (fun hb => ?_)
          · have h := ctrue hb h
            refine X_reg ?_
            refine X_rd K (want_no rfl) rfl rfl (rd_ldA rfl ty49 K rfl (inM 4 rfl) rfl rfl) M ?_; clear K; intro a K
            refine X_rd K (want_no rfl) rfl rfl (rd_func rfl K (vs := [.pointer (some ⟨g_q, 0, none⟩)]) rfl) M ?_; clear K; intro a K
            obtain ⟨r12, h_r12, h⟩ := obind h
            refine X_ac K (want_no rfl) rfl rfl (ac_call (vs := [.agg #[.int .i64 q_W, .int .i64 q_H, .slice A_q_P q_P.length c_q_P], .func (.func 71) #[] #[.pointer (some ⟨g_q, 0, none⟩)]]) (cap := []) rfl fok70 K rfl rfl (W_turn_changed__turn_Turn_1 N q_W q_H q_P A_q_P c_q_P q_W q_H q_P A_q_P c_q_P g_q _ ((inA R_q_P) _ M) C_q_P ((inA R_q_P) _ M) C_q_P (M.blkAt (i := 4) rfl) r12 h_r12)) ?_
            have M0 := M; clear K M; rintro _ a w ⟨A10, c10, rfl, M⟩ K
            have M := M0.call M
            clear M0
            refine X_a0 K (want_no rfl) rfl (ac_storeA rfl ty49 K rfl (ds := [.int .i64 r12.1, .int .i64 r12.2.1, .slice A10 r12.2.2.length c10]) rfl rfl 5 M rfl rfl rfl) ?_
            have M0 := M; clear K M; rintro _ a w M K
            clear M0
            refine wpList_nil ?_
            refine then_n ?_
            refine wp_seq ?_
            refine wp_seq ?_
            refine X_reg ?_
            refine X_rd K (want_no rfl) rfl rfl (rd_field rfl fld102_2 K rfl) M ?_; clear K; intro a K
            refine X_rd K (want_no rfl) rfl rfl (rd_ldC rfl sc4 K rfl (inM 1 rfl) rfl) M ?_; clear K; intro a K
            refine wpList_nil ?_
            refine then_n ?_
            refine X_cond K rfl (fun hb => ?_) (fun hb => ?_)
            · have h := ctrue hb h
              refine X_reg ?_
              refine X_rd K (want_no rfl) rfl rfl (rd_ldA rfl ty49 K rfl (inM 5 rfl) rfl rfl) M ?_; clear K; intro a K
              refine X_rd K (want_no rfl) rfl rfl (rd_func rfl K (vs := [.pointer (some ⟨g_q, 0, none⟩)]) rfl) M ?_; clear K; intro a K
              obtain ⟨r13, h_r13, h⟩ := obind h
              refine X_ac K (want_no rfl) rfl rfl (ac_call (vs := [.agg #[.int .i64 r12.1, .int .i64 r12.2.1, .slice A10 r12.2.2.length c10], .func (.func 72) #[] #[.pointer (some ⟨g_q, 0, none⟩)]]) (cap := []) rfl fok70 K rfl rfl (W_turn_changed__turn_Turn_2 N r12.1 r12.2.1 r12.2.2 A10 c10 r12.1 r12.2.1 r12.2.2 A10 c10 g_q _ ((inR (C := cIII) 0 rfl rfl) _ M) (M.cap 0 rfl) ((inR (C := cIII) 0 rfl rfl) _ M) (M.cap 0 rfl) (M.blkAt (i := 5) rfl) r13 h_r13)) ?_
              have M0 := M; clear K M; rintro _ a w ⟨A11, c11, rfl, M⟩ K
              have M := M0.call M
              clear M0
              refine X_a0 K (want_no rfl) rfl (ac_storeA rfl ty49 K rfl (ds := [.int .i64 r13.1, .int .i64 r13.2.1, .slice A11 r13.2.2.length c11]) rfl rfl 6 M rfl rfl rfl) ?_
              have M0 := M; clear K M; rintro _ a w M K
              clear M0
              refine wpList_nil ?_
              refine then_n ?_
              refine wp_seq ?_
              refine X_reg ?_
              refine X_rd K (want_no rfl) rfl rfl (rd_ldA rfl ty49 K rfl (inM 6 rfl) rfl rfl) M ?_; clear K; intro a K
              refine X_rd K (want_no rfl) rfl rfl (rd_func rfl K (vs := [.pointer (some ⟨g_q, 0, none⟩)]) rfl) M ?_; clear K; intro a K
              obtain ⟨r14, h_r14, h⟩ := obind h
              refine X_ac K (want_no rfl) rfl rfl (ac_call (vs := [.agg #[.int .i64 r13.1, .int .i64 r13.2.1, .slice A11 r13.2.2.length c11], .func (.func 73) #[] #[.pointer (some ⟨g_q, 0, none⟩)]]) (cap := []) rfl fok70 K rfl rfl (W_turn_changed__turn_Turn_3 N r13.1 r13.2.1 r13.2.2 A11 c11 r13.1 r13.2.1 r13.2.2 A11 c11 g_q _ ((inR (C := cIII) 0 rfl rfl) _ M) (M.cap 0 rfl) ((inR (C := cIII) 0 rfl rfl) _ M) (M.cap 0 rfl) (M.blkAt (i := 6) rfl) r14 h_r14)) ?_
              have M0 := M; clear K M; rintro _ a w ⟨A12, c12, rfl, M⟩ K
              have M := M0.call M
              clear M0
              refine X_a0 K (want_no rfl) rfl (ac_storeA rfl ty49 K rfl (ds := [.int .i64 r14.1, .int .i64 r14.2.1, .slice A12 r14.2.2.length c12]) rfl rfl 6 M rfl rfl rfl) ?_
              have M0 := M; clear K M; rintro _ a w M K
              clear M0
              refine X_rd K (want_no rfl) rfl rfl (rd_assign rfl K rfl) M ?_; clear K; intro a K
              refine wpList_nil ?_
              refine then_n ?_
              refine wp_ret ?_
              cases h
              exact ret2 K rfl (res_cellA K rfl ty49 (M.blkAt (i := 6) rfl) rfl) (res_tmp K rfl) ⟨_, rfl, _, _, rfl, ((M).pick [0] (by decide))⟩
            · have h := cfalse hb h
              refine wp_skip ?_
              refine then_n ?_
              refine wp_seq ?_
              refine X_reg ?_
              refine X_rd K (want_no rfl) rfl rfl (rd_ldA rfl ty49 K rfl (inM 5 rfl) rfl rfl) M ?_; clear K; intro a K
              refine X_rd K (want_no rfl) rfl rfl (rd_func rfl K (vs := [.pointer (some ⟨g_q, 0, none⟩)]) rfl) M ?_; clear K; intro a K
              obtain ⟨r15, h_r15, h⟩ := obind h
              refine X_ac K (want_no rfl) rfl rfl (ac_call (vs := [.agg #[.int .i64 r12.1, .int .i64 r12.2.1, .slice A10 r12.2.2.length c10], .func (.func 73) #[] #[.pointer (some ⟨g_q, 0, none⟩)]]) (cap := []) rfl fok70 K rfl rfl (W_turn_changed__turn_Turn_3 N r12.1 r12.2.1 r12.2.2 A10 c10 r12.1 r12.2.1 r12.2.2 A10 c10 g_q _ ((inR (C := cIII) 0 rfl rfl) _ M) (M.cap 0 rfl) ((inR (C := cIII) 0 rfl rfl) _ M) (M.cap 0 rfl) (M.blkAt (i := 5) rfl) r15 h_r15)) ?_
              have M0 := M; clear K M; rintro _ a w ⟨A13, c13, rfl, M⟩ K
              have M := M0.call M
              clear M0
              refine X_a0 K (want_no rfl) rfl (ac_storeA rfl ty49 K rfl (ds := [.int .i64 r15.1, .int .i64 r15.2.1, .slice A13 r15.2.2.length c13]) rfl rfl 5 M rfl rfl rfl) ?_
              have M0 := M; clear K M; rintro _ a w M K
              clear M0
              refine X_rd K (want_no rfl) rfl rfl (rd_assign rfl K rfl) M ?_; clear K; intro a K
              refine wpList_nil ?_
              refine then_n ?_
              refine wp_ret ?_
              cases h
              exact ret2 K rfl (res_cellA K rfl ty49 (M.blkAt (i := 5) rfl) rfl) (res_tmp K rfl) ⟨_, rfl, _, _, rfl, ((M).pick [0] (by decide))⟩
          · have h := cfalse hb h
            refine wp_skip ?_
            refine then_n ?_
            refine wp_seq ?_
            refine wp_seq ?_
            refine X_reg ?_
            refine X_rd K (want_no rfl) rfl rfl (rd_field rfl fld102_2 K rfl) M ?_; clear K; intro a K
            refine X_rd K (want_no rfl) rfl rfl (rd_ldC rfl sc4 K rfl (inM 0 rfl) rfl) M ?_; clear K; intro a K
            refine wpList_nil ?_
            refine then_n ?_
            refine X_cond K rfl (fun hb => ?_) (fun hb => ?_)
            · have h := ctrue hb h
              refine X_reg ?_
              refine X_rd K (want_no rfl) rfl rfl (rd_ldA rfl ty49 K rfl (inM 4 rfl) rfl rfl) M ?_; clear K; intro a K
              refine X_rd K (want_no rfl) rfl rfl (rd_func rfl K (vs := [.pointer (some ⟨g_q, 0, none⟩)]) rfl) M ?_; clear K; intro a K
              obtain ⟨r16, h_r16, h⟩ := obind h
              refine X_ac K (want_no rfl) rfl rfl (ac_call (vs := [.agg #[.int .i64 q_W, .int .i64 q_H, .slice A_q_P q_P.length c_q_P], .func (.func 72) #[] #[.pointer (some ⟨g_q, 0, none⟩)]]) (cap := []) rfl fok70 K rfl rfl (W_turn_changed__turn_Turn_2 N q_W q_H q_P A_q_P c_q_P q_W q_H q_P A_q_P c_q_P g_q _ ((inA R_q_P) _ M) C_q_P ((inA R_q_P) _ M) C_q_P (M.blkAt (i := 4) rfl) r16 h_r16)) ?_
              have M0 := M; clear K M; rintro _ a w ⟨A14, c14, rfl, M⟩ K
              have M := M0.call M
              clear M0
              refine X_a0 K (want_no rfl) rfl (ac_storeA rfl ty49 K rfl (ds := [.int .i64 r16.1, .int .i64 r16.2.1, .slice A14 r16.2.2.length c14]) rfl rfl 5 M rfl rfl rfl) ?_
              have M0 := M; clear K M; rintro _ a w M K
              clear M0
              refine wpList_nil ?_
              refine then_n ?_
              refine wp_seq ?_
              refine X_reg ?_
              refine X_rd K (want_no rfl) rfl rfl (rd_ldA rfl ty49 K rfl (inM 5 rfl) rfl rfl) M ?_; clear K; intro a K
              refine X_rd K (want_no rfl) rfl rfl (rd_func rfl K (vs := [.pointer (some ⟨g_q, 0, none⟩)]) rfl) M ?_; clear K; intro a K
              obtain ⟨r17, h_r17, h⟩ := obind h
              refine X_ac K (want_no rfl) rfl rfl (ac_call (vs := [.agg #[.int .i64 r16.1, .int .i64 r16.2.1, .slice A14 r16.2.2.length c14], .func (.func 73) #[] #[.pointer (some ⟨g_q, 0, none⟩)]]) (cap := []) rfl fok70 K rfl rfl (W_turn_changed__turn_Turn_3 N r16.1 r16.2.1 r16.2.2 A14 c14 r16.1 r16.2.1 r16.2.2 A14 c14 g_q _ ((inR (C := cIII) 0 rfl rfl) _ M) (M.cap 0 rfl) ((inR (C := cIII) 0 rfl rfl) _ M) (M.cap 0 rfl) (M.blkAt (i := 5) rfl) r17 h_r17)) ?_
              have M0 := M; clear K M; rintro _ a w ⟨A15, c15, rfl, M⟩ K
              have M := M0.call M
              clear M0
              refine X_a0 K (want_no rfl) rfl (ac_storeA rfl ty49 K rfl (ds := [.int .i64 r17.1, .int .i64 r17.2.1, .slice A15 r17.2.2.length c15]) rfl rfl 5 M rfl rfl rfl) ?_
              have M0 := M; clear K M; rintro _ a w M K
              clear M0
              refine X_rd K (want_no rfl) rfl rfl (rd_assign rfl K rfl) M ?_; clear K; intro a K
              refine wpList_nil ?_
              refine then_n ?_
              refine wp_ret ?_
              cases h
              exact ret2 K rfl (res_cellA K rfl ty49 (M.blkAt (i := 5) rfl) rfl) (res_tmp K rfl) ⟨_, rfl, _, _, rfl, ((M).pick [0] (by decide))⟩
            · have h := cfalse hb h
              refine wp_skip ?_
              refine then_n ?_
              refine wp_seq ?_
              refine X_reg ?_
              refine X_rd K (want_no rfl) rfl rfl (rd_ldA rfl ty49 K rfl (inM 4 rfl) rfl rfl) M ?_; clear K; intro a K
              refine X_rd K (want_no rfl) rfl rfl (rd_func rfl K (vs := [.pointer (some ⟨g_q, 0, none⟩)]) rfl) M ?_; clear K; intro a K
              obtain ⟨r18, h_r18, h⟩ := obind h
              refine X_ac K (want_no rfl) rfl rfl (ac_call (vs := [.agg #[.int .i64 q_W, .int .i64 q_H, .slice A_q_P q_P.length c_q_P], .func (.func 73) #[] #[.pointer (some ⟨g_q, 0, none⟩)]]) (cap := []) rfl fok70 K rfl rfl (W_turn_changed__turn_Turn_3 N q_W q_H q_P A_q_P c_q_P q_W q_H q_P A_q_P c_q_P g_q _ ((inA R_q_P) _ M) C_q_P ((inA R_q_P) _ M) C_q_P (M.blkAt (i := 4) rfl) r18 h_r18)) ?_
              have M0 := M; clear K M; rintro _ a w ⟨A16, c16, rfl, M⟩ K
              have M := M0.call M
              clear M0
              refine X_a0 K (want_no rfl) rfl (ac_storeA rfl ty49 K rfl (ds := [.int .i64 r18.1, .int .i64 r18.2.1, .slice A16 r18.2.2.length c16]) rfl rfl 4 M rfl rfl rfl) ?_
              have M0 := M; clear K M; rintro _ a w M K
              clear M0
              refine X_rd K (want_no rfl) rfl rfl (rd_assign rfl K rfl) M ?_; clear K; intro a K
              refine wpList_nil ?_
              refine then_n ?_
              refine wp_ret ?_
              cases h
              exact ret2 K rfl (res_cellA K rfl ty49 (M.blkAt (i := 4) rfl) rfl) (res_tmp K rfl) ⟨_, rfl, _, _, rfl, ((M).pick [0] (by decide))⟩

set_option maxRecDepth 100000 in
set_option maxHeartbeats 4000000 in
theorem W_turn_after (N : Nat) (a_swap : Bool) (a_mirror : Bool) (a_flip : Bool) (b_swap : Bool) (b_mirror : Bool) (b_flip : Bool) (w0 : World)  (r : Bool × Bool × Bool) (h : D_turn_after N a_swap a_mirror a_flip b_swap b_mirror b_flip = some r) :
    Calls Try.prog 75 #[.agg #[.bool a_swap, .bool a_mirror, .bool a_flip], .agg #[.bool b_swap, .bool b_mirror, .bool b_flip]] w0 fun e w' => ∃ v, e = .returned v ∧ v = .agg #[.bool r.1, .bool r.2.1, .bool r.2.2] ∧ Mem w0.heap.size w0 w' [] := by
  refine X_enter Try.func75 rfl Try.ntmps75 rfl ?_
  intro a K
  have M := Mem.start w0
  have K : Kn a 28 [(0, .agg #[.bool a_swap, .bool a_mirror, .bool a_flip]), (1, .agg #[.bool b_swap, .bool b_mirror, .bool b_flip])] := K
  unfold D_turn_after at h
  refine wp_seq ?_
  refine X_reg ?_
  refine X_ac K (want_no rfl) rfl rfl (ac_box rfl K rfl (cs := [.bool a_swap, .bool a_mirror, .bool a_flip]) rfl M) ?_
  have M0 := M; clear K M; rintro _ a w ⟨g_a, rfl, M⟩ K
  clear M0
  refine X_ac K (want_no rfl) rfl rfl (ac_box rfl K rfl (cs := [.bool b_swap, .bool b_mirror, .bool b_flip]) rfl M) ?_
  have M0 := M; clear K M; rintro _ a w ⟨g_b, rfl, M⟩ K
  clear M0
  refine X_ac K (want_no rfl) rfl rfl (ac_alloc rfl z102 M) ?_
  have M0 := M; clear K M; rintro _ a w ⟨g_x, rfl, M⟩ K
  clear M0
  refine wpList_nil ?_
  refine then_n ?_
  refine wp_seq ?_
  refine wp_seq ?_
  refine X_reg ?_
  refine X_rd K (want_no rfl) rfl rfl (rd_field rfl fld102_0 K rfl) M ?_; clear K; intro a K
  refine X_rd K (want_no rfl) rfl rfl (rd_ldC rfl sc4 K rfl (inM 1 rfl) rfl) M ?_; clear K; intro a K
  refine wpList_nil ?_
  refine then_n ?_
  refine X_cond K rfl (fun hb => ?_) (fun hb => ?_)
  · have h := ctrue hb h
    refine X_reg ?_
    refine X_rd K (want_no rfl) rfl rfl (rd_field rfl fld102_0 K rfl) M ?_; clear K; intro a K
    refine X_rd K (want_no rfl) rfl rfl (rd_ldC rfl sc4 K rfl (inM 2 rfl) rfl) M ?_; clear K; intro a K
    refine X_rd K (want_no rfl) rfl rfl (rd_not rfl K rfl) M ?_; clear K; intro a K
    refine X_rd K (want_no rfl) rfl rfl (rd_field rfl fld102_2 K rfl) M ?_; clear K; intro a K
    refine X_rd K (want_no rfl) rfl rfl (rd_ldC rfl sc4 K rfl (inM 2 rfl) rfl) M ?_; clear K; intro a K
    refine X_rd K (want_no rfl) rfl rfl (rd_field rfl fld102_1 K rfl) M ?_; clear K; intro a K
    refine X_rd K (want_no rfl) rfl rfl (rd_ldC rfl sc4 K rfl (inM 2 rfl) rfl) M ?_; clear K; intro a K
    refine X_rd K (want_no rfl) rfl rfl (rd_build rfl K (vs := [(0, .bool (!(a_swap))), (1, .bool a_flip), (2, .bool a_mirror)]) (cs := [.bool (!(a_swap)), .bool a_flip, .bool a_mirror]) rfl (by kernel_rfl)) M ?_; clear K; intro a K
    refine X_a0 K (want_no rfl) rfl (ac_storeA rfl ty102 K rfl (ds := [.bool (!(a_swap)), .bool a_flip, .bool a_mirror]) rfl rfl 2 M rfl rfl rfl) ?_
    have M0 := M; clear K M; rintro _ a w M K
    clear M0
    refine wpList_nil ?_
    refine then_n ?_
    refine wp_seq ?_
    refine X_reg ?_
    refine X_rd K (want_no rfl) rfl rfl (rd_field rfl fld102_0 K rfl) M ?_; clear K; intro a K
    refine X_rd K (want_no rfl) rfl rfl (rd_ldC rfl sc4 K rfl (inM 2 rfl) rfl) M ?_; clear K; intro a K
    refine X_rd K (want_no rfl) rfl rfl (rd_field rfl fld102_1 K rfl) M ?_; clear K; intro a K
    refine X_rd K (want_no rfl) rfl rfl (rd_ldC rfl sc4 K rfl (inM 2 rfl) rfl) M ?_; clear K; intro a K
    refine X_rd K (want_no rfl) rfl rfl (rd_field rfl fld102_1 K rfl) M ?_; clear K; intro a K
    refine X_rd K (want_no rfl) rfl rfl (rd_ldC rfl sc4 K rfl (inM 1 rfl) rfl) M ?_; clear K; intro a K
    refine X_rd K (want_no rfl) rfl rfl (rd_neqB bo4 rfl K rfl rfl) M ?_; clear K; intro a K
    refine X_rd K (want_no rfl) rfl rfl (rd_field rfl fld102_2 K rfl) M ?_; clear K; intro a K
    refine X_rd K (want_no rfl) rfl rfl (rd_ldC rfl sc4 K rfl (inM 2 rfl) rfl) M ?_; clear K; intro a K
    refine X_rd K (want_no rfl) rfl rfl (rd_field rfl fld102_2 K rfl) M ?_; clear K; intro a K
    refine X_rd K (want_no rfl) rfl rfl (rd_ldC rfl sc4 K rfl (inM 1 rfl) rfl) M ?_; clear K; intro a K
    refine X_rd K (want_no rfl) rfl rfl (rd_neqB bo4 rfl K rfl rfl) M ?_; clear K; intro a K
    refine X_rd K (want_no rfl) rfl rfl (rd_build rfl K (vs := [(0, .bool (!(a_swap))), (1, .bool (!decide (a_flip = b_mirror))), (2, .bool (!decide (a_mirror = b_flip)))]) (cs := [.bool (!(a_swap)), .bool (!decide (a_flip = b_mirror)), .bool (!decide (a_mirror = b_flip))]) rfl (by kernel_rfl)) M ?_; clear K; intro a K
    refine X_a0 K (want_no rfl) rfl (ac_storeA rfl ty102 K rfl (ds := [.bool (!(a_swap)), .bool (!decide (a_flip = b_mirror)), .bool (!decide (a_mirror = b_flip))]) rfl rfl 0 M rfl rfl rfl) ?_
    have M0 := M; clear K M; rintro _ a w M K
    clear M0
    refine wpList_nil ?_
    refine then_n ?_
    refine wp_ret ?_
    cases h
    exact ret1 K rfl (res_cellA K rfl ty102 (M.blkAt (i := 0) rfl) rfl) ⟨_, rfl, rfl, ((M).pick [] (by decide))⟩
  · have h := cfalse hb h
    refine wp_skip ?_
    refine then_n ?_
    refine wp_seq ?_
    refine X_reg ?_
    refine X_rd K (want_no rfl) rfl rfl (rd_field rfl fld102_0 K rfl) M ?_; clear K; intro a K
    refine X_rd K (want_no rfl) rfl rfl (rd_ldC rfl sc4 K rfl (inM 2 rfl) rfl) M ?_; clear K; intro a K
    refine X_rd K (want_no rfl) rfl rfl (rd_field rfl fld102_1 K rfl) M ?_; clear K; intro a K
    refine X_rd K (want_no rfl) rfl rfl (rd_ldC rfl sc4 K rfl (inM 2 rfl) rfl) M ?_; clear K; intro a K
    refine X_rd K (want_no rfl) rfl rfl (rd_field rfl fld102_1 K rfl) M ?_; clear K; intro a K
    refine X_rd K (want_no rfl) rfl rfl (rd_ldC rfl sc4 K rfl (inM 1 rfl) rfl) M ?_; clear K; intro a K
    refine X_rd K (want_no rfl) rfl rfl (rd_neqB bo4 rfl K rfl rfl) M ?_; clear K; intro a K
    refine X_rd K (want_no rfl) rfl rfl (rd_field rfl fld102_2 K rfl) M ?_; clear K; intro a K
    refine X_rd K (want_no rfl) rfl rfl (rd_ldC rfl sc4 K rfl (inM 2 rfl) rfl) M ?_; clear K; intro a K
    refine X_rd K (want_no rfl) rfl rfl (rd_field rfl fld102_2 K rfl) M ?_; clear K; intro a K
    refine X_rd K (want_no rfl) rfl rfl (rd_ldC rfl sc4 K rfl (inM 1 rfl) rfl) M ?_; clear K; intro a K
    refine X_rd K (want_no rfl) rfl rfl (rd_neqB bo4 rfl K rfl rfl) M ?_; clear K; intro a K
    refine X_rd K (want_no rfl) rfl rfl (rd_build rfl K (vs := [(0, .bool a_swap), (1, .bool (!decide (a_mirror = b_mirror))), (2, .bool (!decide (a_flip = b_flip)))]) (cs := [.bool a_swap, .bool (!decide (a_mirror = b_mirror)), .bool (!decide (a_flip = b_flip))]) rfl (by kernel_rfl)) M ?_; clear K; intro a K
    refine X_a0 K (want_no rfl) rfl (ac_storeA rfl ty102 K rfl (ds := [.bool a_swap, .bool (!decide (a_mirror = b_mirror)), .bool (!decide (a_flip = b_flip))]) rfl rfl 0 M rfl rfl rfl) ?_
    have M0 := M; clear K M; rintro _ a w M K
    clear M0
    refine wpList_nil ?_
    refine then_n ?_
    refine wp_ret ?_
    cases h
    exact ret1 K rfl (res_cellA K rfl ty102 (M.blkAt (i := 0) rfl) rfl) ⟨_, rfl, rfl, ((M).pick [] (by decide))⟩

set_option maxRecDepth 100000 in
set_option maxHeartbeats 4000000 in
theorem W_turn_number (N : Nat) (m_swap : Bool) (m_mirror : Bool) (m_flip : Bool) (w0 : World)  (r : Int) (h : D_turn_number N m_swap m_mirror m_flip = some r) :
    Calls Try.prog 74 #[.agg #[.bool m_swap, .bool m_mirror, .bool m_flip]] w0 fun e w' => ∃ v, e = .returned v ∧ v = .int .i64 r ∧ Mem w0.heap.size w0 w' [] := by
  refine X_enter Try.func74 rfl Try.ntmps74 rfl ?_
  intro a K
  have M := Mem.start w0
  have K : Kn a 16 [(0, .agg #[.bool m_swap, .bool m_mirror, .bool m_flip])] := K
  unfold D_turn_number at h
  refine wp_seq ?_
  refine X_reg ?_
  refine X_ac K (want_no rfl) rfl rfl (ac_box rfl K rfl (cs := [.bool m_swap, .bool m_mirror, .bool m_flip]) rfl M) ?_
  have M0 := M; clear K M; rintro _ a w ⟨g_m, rfl, M⟩ K
  clear M0
  refine X_rd K (want_no rfl) rfl rfl (rd_assign rfl K rfl) M ?_; clear K; intro a K
  refine wpList_nil ?_
  refine then_n ?_
  refine wp_seq ?_
  refine X_reg ?_
  refine X_rd K (want_no rfl) rfl rfl (rd_assign rfl K rfl) M ?_; clear K; intro a K
  refine wpList_nil ?_
  refine then_n ?_
  refine wp_seq ?_
  refine wp_block ?_
  refine X_lp (id := 0) (Rel := fun (how : Int) a w => Kn a 16 [(1, .pointer (some ⟨g_m, 0, none⟩)), (3, .int .i64 how)] ∧ Mem w0.heap.size w0 w [.blk g_m 102 [.bool m_swap, .bool m_mirror, .bool m_flip]]) h (fun _ _ => rfl) ⟨K.pick [1,3], M.pick [0] (by decide)⟩ ?_ ?_
  · clear K M h
    rintro how4 a w ⟨K, M⟩ h
    try dsimp only at h
    refine inb_e ?_
    refine then_n ?_
    refine wp_seq ?_
    refine X_reg ?_
    refine X_rd K (want_no rfl) rfl rfl (rd_move rfl K rfl) M ?_; clear K; intro a K
    refine X_rd K (want_no rfl) rfl rfl (rd_assign rfl K rfl) M ?_; clear K; intro a K
    refine wpList_nil ?_
    refine then_n ?_
    refine wp_ret ?_
    cases h
    exact ret1 K rfl (res_tmp K rfl) ⟨_, rfl, rfl, ((M).pick [] (by decide))⟩
  · clear K M h
    rintro kk fuel how a w hk1 ⟨K, M⟩ h
    unfold D_turn_number_l1 at h
    refine wp_seq ?_
    refine wp_seq ?_
    refine wp_region_tl (fun w => Mem _ _ w _) [0,0,0,1,0,0,0,0,0] (by kernel_rfl) (by kernel_rfl) M.drew ?_
    replace M := M.drew
    refine T_rd K (want_no rfl) rfl rfl (rd_move rfl K rfl) ?_; clear K; intro a K
    refine T_rd K (want_no rfl) rfl rfl (rd_lss rfl K rfl rfl) ?_; clear K; intro a K
    refine T_rd K (want_no rfl) rfl rfl (rd_move rfl K rfl) ?_; clear K; intro a K
    rcases Bool.eq_false_or_eq_true (decide (how < 8)) with hb | hb
    · have h := ctrue hb h
      have K := K.reb (s := 6) rfl hb
      obtain ⟨r3, h_r3, h⟩ := obind h
      refine T_ac K (K.yes rfl rfl rfl) rfl rfl (ac_call (vs := []) (cap := []) rfl fok68 K rfl rfl (W_turn_moves N  _  r3 h_r3)) ?_
      have M0 := M; clear K M; rintro _ a w ⟨rfl, M⟩ K
      have M := M0.call M
      clear M0
      refine ⟨M.pick [0] (by decide), ?_⟩
      refine T_rd K (K.yes rfl rfl rfl) rfl rfl (rd_move rfl K rfl) ?_; clear K; intro a K
      obtain ⟨e2, h_e2, h⟩ := obind h
      refine T_rd K (K.yes rfl rfl rfl) rfl rfl (rd_ixVA (C := cBBB) (es := [(r3.1, r3.2.1, r3.2.2.1), (r3.2.2.2.1, r3.2.2.2.2.1, r3.2.2.2.2.2.1), (r3.2.2.2.2.2.2.1, r3.2.2.2.2.2.2.2.1, r3.2.2.2.2.2.2.2.2.1), (r3.2.2.2.2.2.2.2.2.2.1, r3.2.2.2.2.2.2.2.2.2.2.1, r3.2.2.2.2.2.2.2.2.2.2.2.1), (r3.2.2.2.2.2.2.2.2.2.2.2.2.1, r3.2.2.2.2.2.2.2.2.2.2.2.2.2.1, r3.2.2.2.2.2.2.2.2.2.2.2.2.2.2.1), (r3.2.2.2.2.2.2.2.2.2.2.2.2.2.2.2.1, r3.2.2.2.2.2.2.2.2.2.2.2.2.2.2.2.2.1, r3.2.2.2.2.2.2.2.2.2.2.2.2.2.2.2.2.2.1), (r3.2.2.2.2.2.2.2.2.2.2.2.2.2.2.2.2.2.2.1, r3.2.2.2.2.2.2.2.2.2.2.2.2.2.2.2.2.2.2.2.1, r3.2.2.2.2.2.2.2.2.2.2.2.2.2.2.2.2.2.2.2.2.1), (r3.2.2.2.2.2.2.2.2.2.2.2.2.2.2.2.2.2.2.2.2.2.1, r3.2.2.2.2.2.2.2.2.2.2.2.2.2.2.2.2.2.2.2.2.2.2.1, r3.2.2.2.2.2.2.2.2.2.2.2.2.2.2.2.2.2.2.2.2.2.2.2.1), (r3.2.2.2.2.2.2.2.2.2.2.2.2.2.2.2.2.2.2.2.2.2.2.2.2.1, r3.2.2.2.2.2.2.2.2.2.2.2.2.2.2.2.2.2.2.2.2.2.2.2.2.2.1, r3.2.2.2.2.2.2.2.2.2.2.2.2.2.2.2.2.2.2.2.2.2.2.2.2.2.2)]) rfl ar103 ty102 rfl K rfl rfl rfl h_e2) ?_; clear K; intro a K
      refine T_rd K (K.yes rfl rfl rfl) rfl rfl (rd_ldA rfl ty102 K rfl (inM 0 rfl) rfl rfl) ?_; clear K; intro a K
      refine T_rd K (K.yes rfl rfl rfl) rfl rfl (rd_aggN eg102 rfl K rfl rfl (eqr102 _ _ _ _ _ _)) ?_; clear K; intro a K
      refine T_rd K (want_no rfl) rfl rfl (rd_pickT rfl K rfl rfl) ?_; clear K; intro a K
      refine T_end ?_
      refine then_n ?_
      refine X_cond K rfl (fun hb => ?_) (fun hb => ?_)
      · have h := ctrue hb h
        refine wp_skip ?_
        refine then_n ?_
        refine wp_block ?_
        refine X_reg ?_
        refine X_rd K (want_no rfl) rfl rfl (rd_move rfl K rfl) M ?_; clear K; intro a K
        refine X_rd K (want_no rfl) rfl rfl (rd_add rfl K rfl rfl) M ?_; clear K; intro a K
        obtain ⟨how3, hx, h⟩ := olet h
        refine X_rd K (want_no rfl) rfl rfl (rdi hx (rd_assign rfl K rfl)) M ?_; clear K; intro a K
        refine wpList_nil ?_
        refine inb_n ?_
        exact then_n ⟨how3, ⟨K.pick [1,3], M.pick [0] (by decide)⟩, h⟩
      · have h := cfalse hb h
        refine wp_exit ?_
        refine then_e ?_
        exact then_e (hk1 how _ _ ⟨K.pick [1,3], M.pick [0] (by decide)⟩ h)
    · have h := cfalse hb h
      have K := K.reb (s := 6) rfl hb
      refine T_no1 K (K.no rfl rfl rfl rfl) rfl rfl (M.pick [0] (by decide)) ?_; clear K; intro a K
      refine T_no K (K.no rfl rfl rfl rfl) rfl rfl ?_; clear K; intro a K
      refine T_no K (K.no rfl rfl rfl rfl) rfl rfl ?_; clear K; intro a K
      refine T_no K (K.no rfl rfl rfl rfl) rfl rfl ?_; clear K; intro a K
      refine T_no K (K.no rfl rfl rfl rfl) rfl rfl ?_; clear K; intro a K
      refine T_rd K (want_no rfl) rfl rfl (rd_pickF rfl K rfl rfl) ?_; clear K; intro a K
      refine T_end ?_
      refine then_n ?_
      refine X_condF K rfl ?_
      refine wp_exit ?_
      refine then_e ?_
      exact then_e (hk1 how _ _ ⟨K.pick [1,3], M.pick [0] (by decide)⟩ h)

set_option maxRecDepth 100000 in
set_option maxHeartbeats 4000000 in
theorem W_turn_Both (N : Nat) (one : Int) (two : Int) (w0 : World)  (r : Int × Int) (h : D_turn_Both N one two = some r) :
    Calls Try.prog 34 #[.int .i64 one, .int .i64 two] w0 fun e w' => ∃ v, e = .returned v ∧ v = .tuple #[.int .i64 r.1, .int .i64 r.2] ∧ Mem w0.heap.size w0 w' [] := by
  refine X_enter Try.func34 rfl Try.ntmps34 rfl ?_
  intro a K
  have M := Mem.start w0
  have K : Kn a 28 [(0, .int .i64 one), (1, .int .i64 two)] := K
  unfold D_turn_Both at h
  refine wp_seq ?_
  refine X_reg ?_
  refine X_rd K (want_no rfl) rfl rfl (rd_assign rfl K rfl) M ?_; clear K; intro a K
  refine X_rd K (want_no rfl) rfl rfl (rd_assign rfl K rfl) M ?_; clear K; intro a K
  refine wpList_nil ?_
  refine then_n ?_
  refine wp_seq ?_
  refine wp_seq ?_
  refine X_reg ?_
  refine X_rd K (want_no rfl) rfl rfl (rd_move rfl K rfl) M ?_; clear K; intro a K
  refine X_rd K (want_no rfl) rfl rfl (rd_lss rfl K rfl rfl) M ?_; clear K; intro a K
  refine X_rd K (want_no rfl) rfl rfl (rd_move rfl K rfl) M ?_; clear K; intro a K
  rcases Bool.eq_false_or_eq_true (decide (one < 1)) with hb | hb
  · have h := ctrue hb h
    have K := K.reb (s := 8) rfl hb
    refine X_no K (K.no rfl rfl rfl rfl) rfl rfl ?_; clear K; intro a K
    refine X_no K (K.no rfl rfl rfl rfl) rfl rfl ?_; clear K; intro a K
    refine X_rd K (want_no rfl) rfl rfl (rd_pickT rfl K rfl rfl) M ?_; clear K; intro a K
    refine X_rd K (want_no rfl) rfl rfl (rd_move rfl K rfl) M ?_; clear K; intro a K
    refine X_no K (K.no rfl rfl rfl rfl) rfl rfl ?_; clear K; intro a K
    refine X_no K (K.no rfl rfl rfl rfl) rfl rfl ?_; clear K; intro a K
    refine X_rd K (want_no rfl) rfl rfl (rd_pickT rfl K rfl rfl) M ?_; clear K; intro a K
    refine X_rd K (want_no rfl) rfl rfl (rd_move rfl K rfl) M ?_; clear K; intro a K
    refine X_no K (K.no rfl rfl rfl rfl) rfl rfl ?_; clear K; intro a K
    refine X_no K (K.no rfl rfl rfl rfl) rfl rfl ?_; clear K; intro a K
    refine X_rd K (want_no rfl) rfl rfl (rd_pickT rfl K rfl rfl) M ?_; clear K; intro a K
    refine wpList_nil ?_
    refine then_n ?_
    refine X_condT K rfl ?_
    refine wp_seq ?_
    refine X_reg ?_
    refine X_rd K (want_no rfl) rfl rfl (rd_assign rfl K rfl) M ?_; clear K; intro a K
    refine X_rd K (want_no rfl) rfl rfl (rd_assign rfl K rfl) M ?_; clear K; intro a K
    refine wpList_nil ?_
    refine then_n ?_
    refine wp_ret ?_
    refine then_r ?_
    cases h
    exact ret2 K rfl (res_tmp K rfl) (res_tmp K rfl) ⟨_, rfl, rfl, ((M).pick [] (by decide))⟩
  · have h := cfalse hb h
    have K := K.reb (s := 8) rfl hb
    refine X_rd K (K.yes rfl rfl rfl) rfl rfl (rd_move rfl K rfl) M ?_; clear K; intro a K
    refine X_rd K (K.yes rfl rfl rfl) rfl rfl (rd_gtr rfl K rfl rfl) M ?_; clear K; intro a K
    refine X_rd K (want_no rfl) rfl rfl (rd_pickF rfl K rfl rfl) M ?_; clear K; intro a K
    refine X_rd K (want_no rfl) rfl rfl (rd_move rfl K rfl) M ?_; clear K; intro a K
    rcases Bool.eq_false_or_eq_true (decide (8 < one)) with hb | hb
    · have h := ctrue hb h
      have K := K.reb (s := 12) rfl hb
      refine X_no K (K.no rfl rfl rfl rfl) rfl rfl ?_; clear K; intro a K
      refine X_no K (K.no rfl rfl rfl rfl) rfl rfl ?_; clear K; intro a K
      refine X_rd K (want_no rfl) rfl rfl (rd_pickT rfl K rfl rfl) M ?_; clear K; intro a K
      refine X_rd K (want_no rfl) rfl rfl (rd_move rfl K rfl) M ?_; clear K; intro a K
      refine X_no K (K.no rfl rfl rfl rfl) rfl rfl ?_; clear K; intro a K
      refine X_no K (K.no rfl rfl rfl rfl) rfl rfl ?_; clear K; intro a K
      refine X_rd K (want_no rfl) rfl rfl (rd_pickT rfl K rfl rfl) M ?_; clear K; intro a K
      refine wpList_nil ?_
      refine then_n ?_
      refine X_condT K rfl ?_
      refine wp_seq ?_
      refine X_reg ?_
      refine X_rd K (want_no rfl) rfl rfl (rd_assign rfl K rfl) M ?_; clear K; intro a K
      refine X_rd K (want_no rfl) rfl rfl (rd_assign rfl K rfl) M ?_; clear K; intro a K
      refine wpList_nil ?_
      refine then_n ?_
      refine wp_ret ?_
      refine then_r ?_
      cases h
      exact ret2 K rfl (res_tmp K rfl) (res_tmp K rfl) ⟨_, rfl, rfl, ((M).pick [] (by decide))⟩
    · have h := cfalse hb h
      have K := K.reb (s := 12) rfl hb
      refine X_rd K (K.yes rfl rfl rfl) rfl rfl (rd_move rfl K rfl) M ?_; clear K; intro a K
      refine X_rd K (K.yes rfl rfl rfl) rfl rfl (rd_lss rfl K rfl rfl) M ?_; clear K; intro a K
      refine X_rd K (want_no rfl) rfl rfl (rd_pickF rfl K rfl rfl) M ?_; clear K; intro a K
      refine X_rd K (want_no rfl) rfl rfl (rd_move rfl K rfl) M ?_; clear K; intro a K
      rcases Bool.eq_false_or_eq_true (decide (two < 1)) with hb | hb
      · have h := ctrue hb h
        have K := K.reb (s := 16) rfl hb
        refine X_no K (K.no rfl rfl rfl rfl) rfl rfl ?_; clear K; intro a K
        refine X_no K (K.no rfl rfl rfl rfl) rfl rfl ?_; clear K; intro a K
        refine X_rd K (want_no rfl) rfl rfl (rd_pickT rfl K rfl rfl) M ?_; clear K; intro a K
        refine wpList_nil ?_
        refine then_n ?_
        refine X_condT K rfl ?_
        refine wp_seq ?_
        refine X_reg ?_
        refine X_rd K (want_no rfl) rfl rfl (rd_assign rfl K rfl) M ?_; clear K; intro a K
        refine X_rd K (want_no rfl) rfl rfl (rd_assign rfl K rfl) M ?_; clear K; intro a K
        refine wpList_nil ?_
        refine then_n ?_
        refine wp_ret ?_
        refine then_r ?_
        cases h
        exact ret2 K rfl (res_tmp K rfl) (res_tmp K rfl) ⟨_, rfl, rfl, ((M).pick [] (by decide))⟩
      · have h := cfalse hb h
        have K := K.reb (s := 16) rfl hb
        refine X_rd K (K.yes rfl rfl rfl) rfl rfl (rd_move rfl K rfl) M ?_; clear K; intro a K
        refine X_rd K (K.yes rfl rfl rfl) rfl rfl (rd_gtr rfl K rfl rfl) M ?_; clear K; intro a K
        refine X_rd K (want_no rfl) rfl rfl (rd_pickF rfl K rfl rfl) M ?_; clear K; intro a K
        refine wpList_nil ?_
        refine then_n ?_
        refine X_cond K rfl (fun hb => ?_) (fun hb => ?_)
        · have h := ctrue hb h
          refine wp_seq ?_
          refine X_reg ?_
          refine X_rd K (want_no rfl) rfl rfl (rd_assign rfl K rfl) M ?_; clear K; intro a K
          refine X_rd K (want_no rfl) rfl rfl (rd_assign rfl K rfl) M ?_; clear K; intro a K
          refine wpList_nil ?_
          refine then_n ?_
          refine wp_ret ?_
          refine then_r ?_
          cases h
          exact ret2 K rfl (res_tmp K rfl) (res_tmp K rfl) ⟨_, rfl, rfl, ((M).pick [] (by decide))⟩
        · have h := cfalse hb h
          refine wp_skip ?_
          refine then_n ?_
          refine wp_seq ?_
          refine wp_region_tl (fun w => Mem _ _ w _) [1,0,0,1,0,0,1,1,0,0] (by kernel_rfl) (by kernel_rfl) M.drew ?_
          replace M := M.drew
          obtain ⟨r2, h_r2, h⟩ := obind h
          refine T_ac K (want_no rfl) rfl rfl (ac_call (vs := []) (cap := []) rfl fok68 K rfl rfl (W_turn_moves N  _  r2 h_r2)) ?_
          have M0 := M; clear K M; rintro _ a w ⟨rfl, M⟩ K
          have M := M0.call M
          clear M0
          refine ⟨M.pick [] (by decide), ?_⟩
          refine T_rd K (want_no rfl) rfl rfl (rd_move rfl K rfl) ?_; clear K; intro a K
          obtain ⟨e, h_e, h⟩ := obind h
          refine T_rd K (want_no rfl) rfl rfl (rd_ixVA (C := cBBB) (es := [(r2.1, r2.2.1, r2.2.2.1), (r2.2.2.2.1, r2.2.2.2.2.1, r2.2.2.2.2.2.1), (r2.2.2.2.2.2.2.1, r2.2.2.2.2.2.2.2.1, r2.2.2.2.2.2.2.2.2.1), (r2.2.2.2.2.2.2.2.2.2.1, r2.2.2.2.2.2.2.2.2.2.2.1, r2.2.2.2.2.2.2.2.2.2.2.2.1), (r2.2.2.2.2.2.2.2.2.2.2.2.2.1, r2.2.2.2.2.2.2.2.2.2.2.2.2.2.1, r2.2.2.2.2.2.2.2.2.2.2.2.2.2.2.1), (r2.2.2.2.2.2.2.2.2.2.2.2.2.2.2.2.1, r2.2.2.2.2.2.2.2.2.2.2.2.2.2.2.2.2.1, r2.2.2.2.2.2.2.2.2.2.2.2.2.2.2.2.2.2.1), (r2.2.2.2.2.2.2.2.2.2.2.2.2.2.2.2.2.2.2.1, r2.2.2.2.2.2.2.2.2.2.2.2.2.2.2.2.2.2.2.2.1, r2.2.2.2.2.2.2.2.2.2.2.2.2.2.2.2.2.2.2.2.2.1), (r2.2.2.2.2.2.2.2.2.2.2.2.2.2.2.2.2.2.2.2.2.2.1, r2.2.2.2.2.2.2.2.2.2.2.2.2.2.2.2.2.2.2.2.2.2.2.1, r2.2.2.2.2.2.2.2.2.2.2.2.2.2.2.2.2.2.2.2.2.2.2.2.1), (r2.2.2.2.2.2.2.2.2.2.2.2.2.2.2.2.2.2.2.2.2.2.2.2.2.1, r2.2.2.2.2.2.2.2.2.2.2.2.2.2.2.2.2.2.2.2.2.2.2.2.2.2.1, r2.2.2.2.2.2.2.2.2.2.2.2.2.2.2.2.2.2.2.2.2.2.2.2.2.2.2)]) rfl ar103 ty102 rfl K rfl rfl rfl h_e) ?_; clear K; intro a K
          obtain ⟨r3, h_r3, h⟩ := obind h
          refine T_ac K (want_no rfl) rfl rfl (ac_call (vs := []) (cap := []) rfl fok68 K rfl rfl (W_turn_moves N  _  r3 h_r3)) ?_
          have M0 := M; clear K M; rintro _ a w ⟨rfl, M⟩ K
          have M := M0.call M
          clear M0
          refine ⟨M.pick [] (by decide), ?_⟩
          refine T_rd K (want_no rfl) rfl rfl (rd_move rfl K rfl) ?_; clear K; intro a K
          obtain ⟨e2, h_e2, h⟩ := obind h
          refine T_rd K (want_no rfl) rfl rfl (rd_ixVA (C := cBBB) (es := [(r3.1, r3.2.1, r3.2.2.1), (r3.2.2.2.1, r3.2.2.2.2.1, r3.2.2.2.2.2.1), (r3.2.2.2.2.2.2.1, r3.2.2.2.2.2.2.2.1, r3.2.2.2.2.2.2.2.2.1), (r3.2.2.2.2.2.2.2.2.2.1, r3.2.2.2.2.2.2.2.2.2.2.1, r3.2.2.2.2.2.2.2.2.2.2.2.1), (r3.2.2.2.2.2.2.2.2.2.2.2.2.1, r3.2.2.2.2.2.2.2.2.2.2.2.2.2.1, r3.2.2.2.2.2.2.2.2.2.2.2.2.2.2.1), (r3.2.2.2.2.2.2.2.2.2.2.2.2.2.2.2.1, r3.2.2.2.2.2.2.2.2.2.2.2.2.2.2.2.2.1, r3.2.2.2.2.2.2.2.2.2.2.2.2.2.2.2.2.2.1), (r3.2.2.2.2.2.2.2.2.2.2.2.2.2.2.2.2.2.2.1, r3.2.2.2.2.2.2.2.2.2.2.2.2.2.2.2.2.2.2.2.1, r3.2.2.2.2.2.2.2.2.2.2.2.2.2.2.2.2.2.2.2.2.1), (r3.2.2.2.2.2.2.2.2.2.2.2.2.2.2.2.2.2.2.2.2.2.1, r3.2.2.2.2.2.2.2.2.2.2.2.2.2.2.2.2.2.2.2.2.2.2.1, r3.2.2.2.2.2.2.2.2.2.2.2.2.2.2.2.2.2.2.2.2.2.2.2.1), (r3.2.2.2.2.2.2.2.2.2.2.2.2.2.2.2.2.2.2.2.2.2.2.2.2.1, r3.2.2.2.2.2.2.2.2.2.2.2.2.2.2.2.2.2.2.2.2.2.2.2.2.2.1, r3.2.2.2.2.2.2.2.2.2.2.2.2.2.2.2.2.2.2.2.2.2.2.2.2.2.2)]) rfl ar103 ty102 rfl K rfl rfl rfl h_e2) ?_; clear K; intro a K
          obtain ⟨r4, h_r4, h⟩ := obind h
          refine T_ac K (want_no rfl) rfl rfl (ac_call (vs := [.agg #[.bool e.1, .bool e.2.1, .bool e.2.2], .agg #[.bool e2.1, .bool e2.2.1, .bool e2.2.2]]) (cap := []) rfl fok75 K rfl rfl (W_turn_after N e.1 e.2.1 e.2.2 e2.1 e2.2.1 e2.2.2 _  r4 h_r4)) ?_
          have M0 := M; clear K M; rintro _ a w ⟨rfl, M⟩ K
          have M := M0.call M
          clear M0
          refine ⟨M.pick [] (by decide), ?_⟩
          obtain ⟨r5, h_r5, h⟩ := obind h
          refine T_ac K (want_no rfl) rfl rfl (ac_call (vs := [.agg #[.bool r4.1, .bool r4.2.1, .bool r4.2.2]]) (cap := []) rfl fok74 K rfl rfl (W_turn_number N r4.1 r4.2.1 r4.2.2 _  r5 h_r5)) ?_
          have M0 := M; clear K M; rintro _ a w ⟨rfl, M⟩ K
          have M := M0.call M
          clear M0
          refine ⟨M.pick [] (by decide), ?_⟩
          refine T_rd K (want_no rfl) rfl rfl (rd_assign rfl K rfl) ?_; clear K; intro a K
          refine T_rd K (want_no rfl) rfl rfl (rd_assign rfl K rfl) ?_; clear K; intro a K
          refine T_end ?_
          refine then_n ?_
          refine wp_ret ?_
          cases h
          exact ret2 K rfl (res_tmp K rfl) (res_tmp K rfl) ⟨_, rfl, rfl, ((M).pick [] (by decide))⟩

set_option maxRecDepth 100000 in
set_option maxHeartbeats 4000000 in
theorem W_turn_Back (N : Nat) (how : Int) (w0 : World)  (r : Int × Int) (h : D_turn_Back N how = some r) :
    Calls Try.prog 33 #[.int .i64 how] w0 fun e w' => ∃ v, e = .returned v ∧ v = .tuple #[.int .i64 r.1, .int .i64 r.2] ∧ Mem w0.heap.size w0 w' [] := by
  refine X_enter Try.func33 rfl Try.ntmps33 rfl ?_
  intro a K
  have M := Mem.start w0
  have K : Kn a 28 [(0, .int .i64 how)] := K
  unfold D_turn_Back at h
  refine wp_seq ?_
  refine X_reg ?_
  refine X_rd K (want_no rfl) rfl rfl (rd_assign rfl K rfl) M ?_; clear K; intro a K
  refine X_rd K (want_no rfl) rfl rfl (rd_assign rfl K rfl) M ?_; clear K; intro a K
  refine wpList_nil ?_
  refine then_n ?_
  refine wp_seq ?_
  refine wp_seq ?_
  refine X_reg ?_
  refine X_rd K (want_no rfl) rfl rfl (rd_move rfl K rfl) M ?_; clear K; intro a K
  refine X_rd K (want_no rfl) rfl rfl (rd_lss rfl K rfl rfl) M ?_; clear K; intro a K
  refine X_rd K (want_no rfl) rfl rfl (rd_move rfl K rfl) M ?_; clear K; intro a K
  rcases Bool.eq_false_or_eq_true (decide (how < 1)) with hb | hb
  · have h := ctrue hb h
    have K := K.reb (s := 9) rfl hb
    refine X_no K (K.no rfl rfl rfl rfl) rfl rfl ?_; clear K; intro a K
    refine X_no K (K.no rfl rfl rfl rfl) rfl rfl ?_; clear K; intro a K
    refine X_rd K (want_no rfl) rfl rfl (rd_pickT rfl K rfl rfl) M ?_; clear K; intro a K
    refine wpList_nil ?_
    refine then_n ?_
    refine X_condT K rfl ?_
    refine wp_seq ?_
    refine X_reg ?_
    refine X_rd K (want_no rfl) rfl rfl (rd_assign rfl K rfl) M ?_; clear K; intro a K
    refine X_rd K (want_no rfl) rfl rfl (rd_assign rfl K rfl) M ?_; clear K; intro a K
    refine wpList_nil ?_
    refine then_n ?_
    refine wp_ret ?_
    refine then_r ?_
    cases h
    exact ret2 K rfl (res_tmp K rfl) (res_tmp K rfl) ⟨_, rfl, rfl, ((M).pick [] (by decide))⟩
  · have h := cfalse hb h
    have K := K.reb (s := 9) rfl hb
    refine X_rd K (K.yes rfl rfl rfl) rfl rfl (rd_move rfl K rfl) M ?_; clear K; intro a K
    refine X_rd K (K.yes rfl rfl rfl) rfl rfl (rd_gtr rfl K rfl rfl) M ?_; clear K; intro a K
    refine X_rd K (want_no rfl) rfl rfl (rd_pickF rfl K rfl rfl) M ?_; clear K; intro a K
    refine wpList_nil ?_
    refine then_n ?_
    refine X_cond K rfl (fun hb => ?_) (fun hb => ?_)
    · have h := ctrue hb h
      refine wp_seq ?_
      refine X_reg ?_
      refine X_rd K (want_no rfl) rfl rfl (rd_assign rfl K rfl) M ?_; clear K; intro a K
      refine X_rd K (want_no rfl) rfl rfl (rd_assign rfl K rfl) M ?_; clear K; intro a K
      refine wpList_nil ?_
      refine then_n ?_
      refine wp_ret ?_
      refine then_r ?_
      cases h
      exact ret2 K rfl (res_tmp K rfl) (res_tmp K rfl) ⟨_, rfl, rfl, ((M).pick [] (by decide))⟩
    · have h := cfalse hb h
      refine wp_skip ?_
      refine then_n ?_
      refine wp_seq ?_
      refine wp_seq ?_
      refine X_reg ?_
      refine X_rd K (want_no rfl) rfl rfl (rd_move rfl K rfl) M ?_; clear K; intro a K
      refine wpList_nil ?_
      refine then_n ?_
      refine wp_block ?_
      refine X_lp (id := 0) (Rel := fun (i : Int) a w => Kn a 28 [(0, .int .i64 how), (13, .int .i64 i)] ∧ Mem w0.heap.size w0 w []) h (fun _ _ => rfl) ⟨K.pick [0,13], M.pick [] (by decide)⟩ ?_ ?_
      · clear K M h
        rintro i2 a w ⟨K, M⟩ h
        try dsimp only at h
        refine inb_e ?_
        refine then_n ?_
        refine wp_seq ?_
        refine X_reg ?_
        refine X_rd K (want_no rfl) rfl rfl (rd_assign rfl K rfl) M ?_; clear K; intro a K
        refine X_rd K (want_no rfl) rfl rfl (rd_assign rfl K rfl) M ?_; clear K; intro a K
        refine wpList_nil ?_
        refine then_n ?_
        refine wp_ret ?_
        cases h
        exact ret2 K rfl (res_tmp K rfl) (res_tmp K rfl) ⟨_, rfl, rfl, ((M).pick [] (by decide))⟩
      · clear K M h
        rintro kk fuel i a w hk1 ⟨K, M⟩ h
        unfold D_turn_Back_l1 at h
        refine wp_seq ?_
        refine X_reg ?_
        refine X_rd K (want_no rfl) rfl rfl (rd_lss rfl K rfl rfl) M ?_; clear K; intro a K
        refine wpList_nil ?_
        refine then_n ?_
        refine wp_seq ?_
        refine X_cond K rfl (fun hb => ?_) (fun hb => ?_)
        · have h := ctrue hb h
          refine wp_skip ?_
          refine then_n ?_
          refine wp_seq ?_
          refine wp_block ?_
          refine wp_seq ?_
          refine X_reg ?_
          refine X_rd K (want_no rfl) rfl rfl (rd_move rfl K rfl) M ?_; clear K; intro a K
          refine X_rd K (want_no rfl) rfl rfl (rd_assign rfl K rfl) M ?_; clear K; intro a K
          refine wpList_nil ?_
          refine then_n ?_
          refine wp_seq ?_
          refine X_reg ?_
          refine X_rd K (want_no rfl) rfl rfl (rd_move rfl K rfl) M ?_; clear K; intro a K
          refine X_rd K (want_no rfl) rfl rfl (rd_move rfl K rfl) M ?_; clear K; intro a K
          refine X_rd K (want_no rfl) rfl rfl (rd_add rfl K rfl rfl) M ?_; clear K; intro a K
          obtain ⟨r3, h_r3, h⟩ := obind h
          refine X_ac K (want_no rfl) rfl rfl (ac_call (vs := [.int .i64 how, .int .i64 (IntKind.i64.wrap (i + 1))]) (cap := []) rfl fok34 K rfl rfl (W_turn_Both N how (IntKind.i64.wrap (i + 1)) _  r3 h_r3)) ?_
          have M0 := M; clear K M; rintro _ a w ⟨rfl, M⟩ K
          have M := M0.call M
          clear M0
          refine X_rd K (want_no rfl) rfl rfl (rd_move rfl K rfl) M ?_; clear K; intro a K
          refine X_rd K (want_no rfl) rfl rfl (rd_extract rfl K rfl rfl) M ?_; clear K; intro a K
          refine X_rd K (want_no rfl) rfl rfl (rd_extract rfl K rfl rfl) M ?_; clear K; intro a K
          refine X_rd K (want_no rfl) rfl rfl (rd_assign rfl K rfl) M ?_; clear K; intro a K
          refine X_rd K (want_no rfl) rfl rfl (rd_assign rfl K rfl) M ?_; clear K; intro a K
          refine wpList_nil ?_
          refine then_n ?_
          refine wp_seq ?_
          refine X_reg ?_
          refine X_rd K (want_no rfl) rfl rfl (rd_move rfl K rfl) M ?_; clear K; intro a K
          refine X_rd K (want_no rfl) rfl rfl (rd_eql rfl K rfl rfl) M ?_; clear K; intro a K
          refine wpList_nil ?_
          refine then_n ?_
          refine X_cond K rfl (fun hb => ?_) (fun hb => ?_)
          · have h := ctrue hb h
            refine wp_seq ?_
            refine X_reg ?_
            refine X_rd K (want_no rfl) rfl rfl (rd_move rfl K rfl) M ?_; clear K; intro a K
            refine X_rd K (want_no rfl) rfl rfl (rd_add rfl K rfl rfl) M ?_; clear K; intro a K
            refine X_rd K (want_no rfl) rfl rfl (rd_assign rfl K rfl) M ?_; clear K; intro a K
            refine X_rd K (want_no rfl) rfl rfl (rd_assign rfl K rfl) M ?_; clear K; intro a K
            refine wpList_nil ?_
            refine then_n ?_
            refine wp_ret ?_
            refine inb_r ?_
            refine then_r ?_
            refine then_r ?_
            refine inb_r ?_
            refine then_r ?_
            cases h
            exact ret2 K rfl (res_tmp K rfl) (res_tmp K rfl) ⟨_, rfl, rfl, ((M).pick [] (by decide))⟩
          · have h := cfalse hb h
            refine wp_skip ?_
            refine inb_n ?_
            refine then_n ?_
            refine X_reg ?_
            refine X_rd K (want_no rfl) rfl rfl (rd_add rfl K rfl rfl) M ?_; clear K; intro a K
            refine X_rd K (want_no rfl) rfl rfl (rd_move rfl K rfl) M ?_; clear K; intro a K
            refine wpList_nil ?_
            exact then_n ⟨(IntKind.i64.wrap (i + 1)), ⟨K.pick [0,13], M.pick [] (by decide)⟩, h⟩
        · have h := cfalse hb h
          refine wp_exit ?_
          refine then_e ?_
          exact then_e (hk1 i _ _ ⟨K.pick [0,13], M.pick [] (by decide)⟩ h)

end Go.Proofs.Ytpmnfhifmmfglaa
