/- Printed by a program (walk.py): the walks of mosaic_fine, mosaic_Take: each function computes what its plain program tells. -/
import Derived.Test.YtpmnfhifmmfglabFacts
import Derived.Test.YtpmnfhifmmfglabDD
import Derived.Test.YtpmnfhifmmfglabWSensor
set_option linter.unusedVariables false
set_option linter.unusedSimpArgs false
set_option linter.unusedSectionVars false
namespace Go.Proofs.Ytpmnfhifmmfglab
open Go.RowKit

set_option maxRecDepth 100000 in
set_option maxHeartbeats 4000000 in
theorem W_mosaic_fine (N : Nat) (q_W : Int) (q_H : Int) (q_P : List (Int × Int × Int)) (A_q_P : Option Addr) (c_q_P : Nat) (w0 : World) (R_q_P : SL w0 cIII A_q_P q_P) (C_q_P : q_P.length ≤ c_q_P) (r : Bool) (h : D_mosaic_fine N q_W q_H q_P = some r) :
    Calls Try.prog 73 #[.agg #[.int .i64 q_W, .int .i64 q_H, .slice A_q_P q_P.length c_q_P]] w0 fun e w' => ∃ v, e = .returned v ∧ v = .bool r ∧ Mem w0.heap.size w0 w' [] := by
  refine X_enter Try.func73 rfl Try.ntmps73 rfl ?_
  intro a K
  have M := Mem.start w0
  have K : Kn a 60 [(0, .agg #[.int .i64 q_W, .int .i64 q_H, .slice A_q_P q_P.length c_q_P])] := K
  unfold D_mosaic_fine at h
  refine wp_seq ?_
  refine X_reg ?_
  refine X_ac K (want_no rfl) rfl rfl (ac_box rfl K rfl (cs := [.int .i64 q_W, .int .i64 q_H, .slice A_q_P q_P.length c_q_P]) rfl M) ?_
  have M0 := M; clear K M; rintro _ a w ⟨g_q, rfl, M⟩ K
  clear M0
  refine X_rd K (want_no rfl) rfl rfl (rd_assign rfl K rfl) M ?_; clear K; intro a K
  refine wpList_nil ?_
  refine then_n ?_
  refine wp_seq ?_
  refine wp_seq ?_
  refine X_reg ?_
  refine X_rd K (want_no rfl) rfl rfl (rd_field rfl fld24_0 K rfl) M ?_; clear K; intro a K
  refine X_rd K (want_no rfl) rfl rfl (rd_ldC rfl sc3 K rfl (inM 0 rfl) rfl) M ?_; clear K; intro a K
  refine X_rd K (want_no rfl) rfl rfl (rd_lss rfl K rfl rfl) M ?_; clear K; intro a K
  refine X_rd K (want_no rfl) rfl rfl (rd_move rfl K rfl) M ?_; clear K; intro a K
  rcases Bool.eq_false_or_eq_true (decide (q_W < 1)) with hb | hb
  · have h := ctrue hb h
    have K := K.reb (s := 8) rfl hb
    refine X_no K (K.no rfl rfl rfl rfl) rfl rfl ?_; clear K; intro a K
    refine X_no K (K.no rfl rfl rfl rfl) rfl rfl ?_; clear K; intro a K
    refine X_no K (K.no rfl rfl rfl rfl) rfl rfl ?_; clear K; intro a K
    refine X_rd K (want_no rfl) rfl rfl (rd_pickT rfl K rfl rfl) M ?_; clear K; intro a K
    refine X_rd K (want_no rfl) rfl rfl (rd_move rfl K rfl) M ?_; clear K; intro a K
    refine X_no K (K.no rfl rfl rfl rfl) rfl rfl ?_; clear K; intro a K
    refine X_no K (K.no rfl rfl rfl rfl) rfl rfl ?_; clear K; intro a K
    refine X_no K (K.no rfl rfl rfl rfl) rfl rfl ?_; clear K; intro a K
    refine X_rd K (want_no rfl) rfl rfl (rd_pickT rfl K rfl rfl) M ?_; clear K; intro a K
    refine X_rd K (want_no rfl) rfl rfl (rd_move rfl K rfl) M ?_; clear K; intro a K
    refine X_no K (K.no rfl rfl rfl rfl) rfl rfl ?_; clear K; intro a K
    refine X_no K (K.no rfl rfl rfl rfl) rfl rfl ?_; clear K; intro a K
    refine X_no K (K.no rfl rfl rfl rfl) rfl rfl ?_; clear K; intro a K
    refine X_rd K (want_no rfl) rfl rfl (rd_pickT rfl K rfl rfl) M ?_; clear K; intro a K
    refine X_rd K (want_no rfl) rfl rfl (rd_move rfl K rfl) M ?_; clear K; intro a K
    refine X_no K (K.no rfl rfl rfl rfl) rfl rfl ?_; clear K; intro a K
    refine X_no K (K.no rfl rfl rfl rfl) rfl rfl ?_; clear K; intro a K
    refine X_no K (K.no rfl rfl rfl rfl) rfl rfl ?_; clear K; intro a K
    refine X_no K (K.no rfl rfl rfl rfl) rfl rfl ?_; clear K; intro a K
    refine X_no K (K.no rfl rfl rfl rfl) rfl rfl ?_; clear K; intro a K
    refine X_no K (K.no rfl rfl rfl rfl) rfl rfl ?_; clear K; intro a K
    refine X_no K (K.no rfl rfl rfl rfl) rfl rfl ?_; clear K; intro a K
    refine X_no K (K.no rfl rfl rfl rfl) rfl rfl ?_; clear K; intro a K
    refine X_no K (K.no rfl rfl rfl rfl) rfl rfl ?_; clear K; intro a K
    refine X_rd K (want_no rfl) rfl rfl (rd_pickT rfl K rfl rfl) M ?_; clear K; intro a K
    refine wpList_nil ?_
    refine then_n ?_
    refine X_condT K rfl ?_
    refine wp_seq ?_
    refine X_reg ?_
    refine X_rd K (want_no rfl) rfl rfl (rd_assign rfl K rfl) M ?_; clear K; intro a K
    refine wpList_nil ?_
    refine then_n ?_
    refine wp_ret ?_
    refine then_r ?_
    cases h
    exact ret1 K rfl (res_tmp K rfl) ⟨_, rfl, rfl, ((M).pick [] (by decide))⟩
  · have h := cfalse hb h
    have K := K.reb (s := 8) rfl hb
    refine X_rd K (K.yes rfl rfl rfl) rfl rfl (rd_field rfl fld24_0 K rfl) M ?_; clear K; intro a K
    refine X_rd K (K.yes rfl rfl rfl) rfl rfl (rd_ldC rfl sc3 K rfl (inM 0 rfl) rfl) M ?_; clear K; intro a K
    refine X_rd K (K.yes rfl rfl rfl) rfl rfl (rd_gtr rfl K rfl rfl) M ?_; clear K; intro a K
    refine X_rd K (want_no rfl) rfl rfl (rd_pickF rfl K rfl rfl) M ?_; clear K; intro a K
    refine X_rd K (want_no rfl) rfl rfl (rd_move rfl K rfl) M ?_; clear K; intro a K
    rcases Bool.eq_false_or_eq_true (decide (64 < q_W)) with hb | hb
    · have h := ctrue hb h
      have K := K.reb (s := 13) rfl hb
      refine X_no K (K.no rfl rfl rfl rfl) rfl rfl ?_; clear K; intro a K
      refine X_no K (K.no rfl rfl rfl rfl) rfl rfl ?_; clear K; intro a K
      refine X_no K (K.no rfl rfl rfl rfl) rfl rfl ?_; clear K; intro a K
      refine X_rd K (want_no rfl) rfl rfl (rd_pickT rfl K rfl rfl) M ?_; clear K; intro a K
      refine X_rd K (want_no rfl) rfl rfl (rd_move rfl K rfl) M ?_; clear K; intro a K
      refine X_no K (K.no rfl rfl rfl rfl) rfl rfl ?_; clear K; intro a K
      refine X_no K (K.no rfl rfl rfl rfl) rfl rfl ?_; clear K; intro a K
      refine X_no K (K.no rfl rfl rfl rfl) rfl rfl ?_; clear K; intro a K
      refine X_rd K (want_no rfl) rfl rfl (rd_pickT rfl K rfl rfl) M ?_; clear K; intro a K
      refine X_rd K (want_no rfl) rfl rfl (rd_move rfl K rfl) M ?_; clear K; intro a K
      refine X_no K (K.no rfl rfl rfl rfl) rfl rfl ?_; clear K; intro a K
      refine X_no K (K.no rfl rfl rfl rfl) rfl rfl ?_; clear K; intro a K
      refine X_no K (K.no rfl rfl rfl rfl) rfl rfl ?_; clear K; intro a K
      refine X_no K (K.no rfl rfl rfl rfl) rfl rfl ?_; clear K; intro a K
      refine X_no K (K.no rfl rfl rfl rfl) rfl rfl ?_; clear K; intro a K
      refine X_no K (K.no rfl rfl rfl rfl) rfl rfl ?_; clear K; intro a K
      refine X_no K (K.no rfl rfl rfl rfl) rfl rfl ?_; clear K; intro a K
      refine X_no K (K.no rfl rfl rfl rfl) rfl rfl ?_; clear K; intro a K
      refine X_no K (K.no rfl rfl rfl rfl) rfl rfl ?_; clear K; intro a K
      refine X_rd K (want_no rfl) rfl rfl (rd_pickT rfl K rfl rfl) M ?_; clear K; intro a K
      refine wpList_nil ?_
      refine then_n ?_
      refine X_condT K rfl ?_
      refine wp_seq ?_
      refine X_reg ?_
      refine X_rd K (want_no rfl) rfl rfl (rd_assign rfl K rfl) M ?_; clear K; intro a K
      refine wpList_nil ?_
      refine then_n ?_
      refine wp_ret ?_
      refine then_r ?_
      cases h
      exact ret1 K rfl (res_tmp K rfl) ⟨_, rfl, rfl, ((M).pick [] (by decide))⟩
    · have h := cfalse hb h
      have K := K.reb (s := 13) rfl hb
      refine X_rd K (K.yes rfl rfl rfl) rfl rfl (rd_field rfl fld24_1 K rfl) M ?_; clear K; intro a K
      refine X_rd K (K.yes rfl rfl rfl) rfl rfl (rd_ldC rfl sc3 K rfl (inM 0 rfl) rfl) M ?_; clear K; intro a K
      refine X_rd K (K.yes rfl rfl rfl) rfl rfl (rd_lss rfl K rfl rfl) M ?_; clear K; intro a K
      refine X_rd K (want_no rfl) rfl rfl (rd_pickF rfl K rfl rfl) M ?_; clear K; intro a K
      refine X_rd K (want_no rfl) rfl rfl (rd_move rfl K rfl) M ?_; clear K; intro a K
      rcases Bool.eq_false_or_eq_true (decide (q_H < 1)) with hb | hb
      · have h := ctrue hb h
        have K := K.reb (s := 18) rfl hb
        refine X_no K (K.no rfl rfl rfl rfl) rfl rfl ?_; clear K; intro a K
        refine X_no K (K.no rfl rfl rfl rfl) rfl rfl ?_; clear K; intro a K
        refine X_no K (K.no rfl rfl rfl rfl) rfl rfl ?_; clear K; intro a K
        refine X_rd K (want_no rfl) rfl rfl (rd_pickT rfl K rfl rfl) M ?_; clear K; intro a K
        refine X_rd K (want_no rfl) rfl rfl (rd_move rfl K rfl) M ?_; clear K; intro a K
        refine X_no K (K.no rfl rfl rfl rfl) rfl rfl ?_; clear K; intro a K
        refine X_no K (K.no rfl rfl rfl rfl) rfl rfl ?_; clear K; intro a K
        refine X_no K (K.no rfl rfl rfl rfl) rfl rfl ?_; clear K; intro a K
        refine X_no K (K.no rfl rfl rfl rfl) rfl rfl ?_; clear K; intro a K
        refine X_no K (K.no rfl rfl rfl rfl) rfl rfl ?_; clear K; intro a K
        refine X_no K (K.no rfl rfl rfl rfl) rfl rfl ?_; clear K; intro a K
        refine X_no K (K.no rfl rfl rfl rfl) rfl rfl ?_; clear K; intro a K
        refine X_no K (K.no rfl rfl rfl rfl) rfl rfl ?_; clear K; intro a K
        refine X_no K (K.no rfl rfl rfl rfl) rfl rfl ?_; clear K; intro a K
        refine X_rd K (want_no rfl) rfl rfl (rd_pickT rfl K rfl rfl) M ?_; clear K; intro a K
        refine wpList_nil ?_
        refine then_n ?_
        refine X_condT K rfl ?_
        refine wp_seq ?_
        refine X_reg ?_
        refine X_rd K (want_no rfl) rfl rfl (rd_assign rfl K rfl) M ?_; clear K; intro a K
        refine wpList_nil ?_
        refine then_n ?_
        refine wp_ret ?_
        refine then_r ?_
        cases h
        exact ret1 K rfl (res_tmp K rfl) ⟨_, rfl, rfl, ((M).pick [] (by decide))⟩
      · have h := cfalse hb h
        have K := K.reb (s := 18) rfl hb
        refine X_rd K (K.yes rfl rfl rfl) rfl rfl (rd_field rfl fld24_1 K rfl) M ?_; clear K; intro a K
        refine X_rd K (K.yes rfl rfl rfl) rfl rfl (rd_ldC rfl sc3 K rfl (inM 0 rfl) rfl) M ?_; clear K; intro a K
        refine X_rd K (K.yes rfl rfl rfl) rfl rfl (rd_gtr rfl K rfl rfl) M ?_; clear K; intro a K
        refine X_rd K (want_no rfl) rfl rfl (rd_pickF rfl K rfl rfl) M ?_; clear K; intro a K
        refine X_rd K (want_no rfl) rfl rfl (rd_move rfl K rfl) M ?_; clear K; intro a K
        rcases Bool.eq_false_or_eq_true (decide (64 < q_H)) with hb | hb
        · have h := ctrue hb h
          have K := K.reb (s := 23) rfl hb
          refine X_no K (K.no rfl rfl rfl rfl) rfl rfl ?_; clear K; intro a K
          refine X_no K (K.no rfl rfl rfl rfl) rfl rfl ?_; clear K; intro a K
          refine X_no K (K.no rfl rfl rfl rfl) rfl rfl ?_; clear K; intro a K
          refine X_no K (K.no rfl rfl rfl rfl) rfl rfl ?_; clear K; intro a K
          refine X_no K (K.no rfl rfl rfl rfl) rfl rfl ?_; clear K; intro a K
          refine X_no K (K.no rfl rfl rfl rfl) rfl rfl ?_; clear K; intro a K
          refine X_no K (K.no rfl rfl rfl rfl) rfl rfl ?_; clear K; intro a K
          refine X_no K (K.no rfl rfl rfl rfl) rfl rfl ?_; clear K; intro a K
          refine X_no K (K.no rfl rfl rfl rfl) rfl rfl ?_; clear K; intro a K
          refine X_rd K (want_no rfl) rfl rfl (rd_pickT rfl K rfl rfl) M ?_; clear K; intro a K
          refine wpList_nil ?_
          refine then_n ?_
          refine X_condT K rfl ?_
          refine wp_seq ?_
          refine X_reg ?_
          refine X_rd K (want_no rfl) rfl rfl (rd_assign rfl K rfl) M ?_; clear K; intro a K
          refine wpList_nil ?_
          refine then_n ?_
          refine wp_ret ?_
          refine then_r ?_
          cases h
          exact ret1 K rfl (res_tmp K rfl) ⟨_, rfl, rfl, ((M).pick [] (by decide))⟩
        · have h := cfalse hb h
          have K := K.reb (s := 23) rfl hb
          refine X_rd K (K.yes rfl rfl rfl) rfl rfl (rd_field rfl fld24_2 K rfl) M ?_; clear K; intro a K
          refine X_rd K (K.yes rfl rfl rfl) rfl rfl (rd_ldC rfl sc22 K rfl (inM 0 rfl) rfl) M ?_; clear K; intro a K
          refine X_rd K (K.yes rfl rfl rfl) rfl rfl (rd_len rfl un22 K rfl) M ?_; clear K; intro a K
          refine X_rd K (K.yes rfl rfl rfl) rfl rfl (rd_field rfl fld24_0 K rfl) M ?_; clear K; intro a K
          refine X_rd K (K.yes rfl rfl rfl) rfl rfl (rd_ldC rfl sc3 K rfl (inM 0 rfl) rfl) M ?_; clear K; intro a K
          refine X_rd K (K.yes rfl rfl rfl) rfl rfl (rd_field rfl fld24_1 K rfl) M ?_; clear K; intro a K
          refine X_rd K (K.yes rfl rfl rfl) rfl rfl (rd_ldC rfl sc3 K rfl (inM 0 rfl) rfl) M ?_; clear K; intro a K
          refine X_rd K (K.yes rfl rfl rfl) rfl rfl (rd_mul rfl K rfl rfl) M ?_; clear K; intro a K
          refine X_rd K (K.yes rfl rfl rfl) rfl rfl (rd_neq rfl K rfl rfl) M ?_; clear K; intro a K
          refine X_rd K (want_no rfl) rfl rfl (rd_pickF rfl K rfl rfl) M ?_; clear K; intro a K
          refine wpList_nil ?_
          refine then_n ?_
          refine X_cond K rfl (fun hb => ?_) (fun hb => ?_)
          · have h := ctrue hb h
            refine wp_seq ?_
            refine X_reg ?_
            refine X_rd K (want_no rfl) rfl rfl (rd_assign rfl K rfl) M ?_; clear K; intro a K
            refine wpList_nil ?_
            refine then_n ?_
            refine wp_ret ?_
            refine then_r ?_
            cases h
            exact ret1 K rfl (res_tmp K rfl) ⟨_, rfl, rfl, ((M).pick [] (by decide))⟩
          · have h := cfalse hb h
            refine wp_skip ?_
            refine then_n ?_
            refine wp_seq ?_
            refine wp_seq ?_
            refine X_reg ?_
            refine X_rd K (want_no rfl) rfl rfl (rd_field rfl fld24_2 K rfl) M ?_; clear K; intro a K
            refine X_rd K (want_no rfl) rfl rfl (rd_ldC rfl sc22 K rfl (inM 0 rfl) rfl) M ?_; clear K; intro a K
            refine X_rd K (want_no rfl) rfl rfl (rd_len rfl un22 K rfl) M ?_; clear K; intro a K
            refine X_rd K (want_no rfl) rfl rfl (rd_move rfl K rfl) M ?_; clear K; intro a K
            refine wpList_nil ?_
            refine then_n ?_
            refine wp_block ?_
            refine X_lp (id := 0) (Rel := fun (i : Int) a w => Kn a 60 [(35, .slice A_q_P q_P.length c_q_P), (36, .int .i64 (q_P.length : Int)), (37, .int .i64 i)] ∧ Mem w0.heap.size w0 w []) h (fun _ _ => rfl) ⟨K.pick [35,36,37], M.pick [] (by decide)⟩ ?_ ?_
            · clear K M h
              rintro i2 a w ⟨K, M⟩ h
              try dsimp only at h
              refine inb_e ?_
              refine then_n ?_
              refine wp_seq ?_
              refine X_reg ?_
              refine X_rd K (want_no rfl) rfl rfl (rd_assign rfl K rfl) M ?_; clear K; intro a K
              refine wpList_nil ?_
              refine then_n ?_
              refine wp_ret ?_
              cases h
              exact ret1 K rfl (res_tmp K rfl) ⟨_, rfl, rfl, ((M).pick [] (by decide))⟩
            · clear K M h
              rintro kk fuel i a w hk1 ⟨K, M⟩ h
              unfold D_mosaic_fine_l1 at h
              refine wp_seq ?_
              refine X_reg ?_
              refine X_rd K (want_no rfl) rfl rfl (rd_lss rfl K rfl rfl) M ?_; clear K; intro a K
              refine wpList_nil ?_
              refine then_n ?_
              refine wp_seq ?_
              refine X_cond K rfl (fun hb => ?_) (fun hb => ?_)
              · have h := ctrue hb h
                refine wp_skip ?_
                refine then_n ?_
                refine wp_seq ?_
                refine wp_block ?_
                refine wp_seq ?_
                refine X_reg ?_
                obtain ⟨e2, h_e2, h⟩ := obind h
                refine X_rd K (want_no rfl) rfl rfl (rd_ix rfl sl22 K rfl rfl (inA R_q_P) h_e2) M ?_; clear K; intro a K
                refine X_rd K (want_no rfl) rfl rfl (rd_elA rfl ty34 K rfl rfl rfl (inA R_q_P) h_e2) M ?_; clear K; intro a K
                refine X_ac K (want_no rfl) rfl rfl (ac_alloc rfl z34 M) ?_
                have M0 := M; clear K M; rintro _ a w ⟨g_c2, rfl, M⟩ K
                clear M0
                refine X_a0 K (want_no rfl) rfl (ac_storeA rfl ty34 K rfl (ds := [.int .i64 e2.1, .int .i64 e2.2.1, .int .i64 e2.2.2]) rfl rfl 0 M rfl rfl rfl) ?_
                have M0 := M; clear K M; rintro _ a w M K
                clear M0
                refine wpList_nil ?_
                refine then_n ?_
                refine wp_seq ?_
                refine X_reg ?_
                refine X_rd K (want_no rfl) rfl rfl (rd_field rfl fld34_0 K rfl) M ?_; clear K; intro a K
                refine X_rd K (want_no rfl) rfl rfl (rd_ldC rfl sc3 K rfl (inM 0 rfl) rfl) M ?_; clear K; intro a K
                refine X_rd K (want_no rfl) rfl rfl (rd_field rfl fld34_1 K rfl) M ?_; clear K; intro a K
                refine X_rd K (want_no rfl) rfl rfl (rd_ldC rfl sc3 K rfl (inM 0 rfl) rfl) M ?_; clear K; intro a K
                refine X_rd K (want_no rfl) rfl rfl (rd_field rfl fld34_2 K rfl) M ?_; clear K; intro a K
                refine X_rd K (want_no rfl) rfl rfl (rd_ldC rfl sc3 K rfl (inM 0 rfl) rfl) M ?_; clear K; intro a K
                refine X_rd K (want_no rfl) rfl rfl (rd_min3 rfl K rfl rfl rfl) M ?_; clear K; intro a K
                refine X_rd K (want_no rfl) rfl rfl (rd_lss rfl K rfl rfl) M ?_; clear K; intro a K
                refine X_rd K (want_no rfl) rfl rfl (rd_move rfl K rfl) M ?_; clear K; intro a K
                rcases Bool.eq_false_or_eq_true (decide ((min (min e2.1 e2.2.1) e2.2.2) < 0)) with hb | hb
                · have h := ctrue hb h
                  have K := K.reb (s := 49) rfl hb
                  refine X_no K (K.no rfl rfl rfl rfl) rfl rfl ?_; clear K; intro a K
                  refine X_no K (K.no rfl rfl rfl rfl) rfl rfl ?_; clear K; intro a K
                  refine X_no K (K.no rfl rfl rfl rfl) rfl rfl ?_; clear K; intro a K
                  refine X_no K (K.no rfl rfl rfl rfl) rfl rfl ?_; clear K; intro a K
                  refine X_no K (K.no rfl rfl rfl rfl) rfl rfl ?_; clear K; intro a K
                  refine X_no K (K.no rfl rfl rfl rfl) rfl rfl ?_; clear K; intro a K
                  refine X_no K (K.no rfl rfl rfl rfl) rfl rfl ?_; clear K; intro a K
                  refine X_no K (K.no rfl rfl rfl rfl) rfl rfl ?_; clear K; intro a K
                  refine X_rd K (want_no rfl) rfl rfl (rd_pickT rfl K rfl rfl) M ?_; clear K; intro a K
                  refine wpList_nil ?_
                  refine then_n ?_
                  refine X_condT K rfl ?_
                  refine wp_seq ?_
                  refine X_reg ?_
                  refine X_rd K (want_no rfl) rfl rfl (rd_assign rfl K rfl) M ?_; clear K; intro a K
                  refine wpList_nil ?_
                  refine then_n ?_
                  refine wp_ret ?_
                  refine inb_r ?_
                  refine then_r ?_
                  refine then_r ?_
                  refine inb_r ?_
                  refine then_r ?_
                  cases h
                  exact ret1 K rfl (res_tmp K rfl) ⟨_, rfl, rfl, ((M).pick [] (by decide))⟩
                · have h := cfalse hb h
                  have K := K.reb (s := 49) rfl hb
                  refine X_rd K (K.yes rfl rfl rfl) rfl rfl (rd_field rfl fld34_0 K rfl) M ?_; clear K; intro a K
                  refine X_rd K (K.yes rfl rfl rfl) rfl rfl (rd_ldC rfl sc3 K rfl (inM 0 rfl) rfl) M ?_; clear K; intro a K
                  refine X_rd K (K.yes rfl rfl rfl) rfl rfl (rd_field rfl fld34_1 K rfl) M ?_; clear K; intro a K
                  refine X_rd K (K.yes rfl rfl rfl) rfl rfl (rd_ldC rfl sc3 K rfl (inM 0 rfl) rfl) M ?_; clear K; intro a K
                  refine X_rd K (K.yes rfl rfl rfl) rfl rfl (rd_field rfl fld34_2 K rfl) M ?_; clear K; intro a K
                  refine X_rd K (K.yes rfl rfl rfl) rfl rfl (rd_ldC rfl sc3 K rfl (inM 0 rfl) rfl) M ?_; clear K; intro a K
                  refine X_rd K (K.yes rfl rfl rfl) rfl rfl (rd_max3 rfl K rfl rfl rfl) M ?_; clear K; intro a K
                  refine X_rd K (K.yes rfl rfl rfl) rfl rfl (rd_gtr rfl K rfl rfl) M ?_; clear K; intro a K
                  refine X_rd K (want_no rfl) rfl rfl (rd_pickF rfl K rfl rfl) M ?_; clear K; intro a K
                  refine wpList_nil ?_
                  refine then_n ?_
                  refine X_cond K rfl (fun hb => ?_) (fun hb => ?_)
                  · have h := ctrue hb h
                    refine wp_seq ?_
                    refine X_reg ?_
                    refine X_rd K (want_no rfl) rfl rfl (rd_assign rfl K rfl) M ?_; clear K; intro a K
                    refine wpList_nil ?_
                    refine then_n ?_
                    refine wp_ret ?_
                    refine inb_r ?_
                    refine then_r ?_
                    refine then_r ?_
                    refine inb_r ?_
                    refine then_r ?_
                    cases h
                    exact ret1 K rfl (res_tmp K rfl) ⟨_, rfl, rfl, ((M).pick [] (by decide))⟩
                  · have h := cfalse hb h
                    refine wp_skip ?_
                    refine inb_n ?_
                    refine then_n ?_
                    refine X_reg ?_
                    refine X_rd K (want_no rfl) rfl rfl (rd_add rfl K rfl rfl) M ?_; clear K; intro a K
                    refine X_rd K (want_no rfl) rfl rfl (rd_move rfl K rfl) M ?_; clear K; intro a K
                    refine wpList_nil ?_
                    exact then_n ⟨(IntKind.i64.wrap (i + 1)), ⟨K.pick [35,36,37], M.pick [] (by decide)⟩, h⟩
              · have h := cfalse hb h
                refine wp_exit ?_
                refine then_e ?_
                exact then_e (hk1 i _ _ ⟨K.pick [35,36,37], M.pick [] (by decide)⟩ h)

set_option maxRecDepth 100000 in
set_option maxHeartbeats 4000000 in
theorem W_mosaic_Take (N : Nat) (q_W : Int) (q_H : Int) (q_P : List (Int × Int × Int)) (A_q_P : Option Addr) (c_q_P : Nat) (phase : Int) (w0 : World) (R_q_P : SL w0 cIII A_q_P q_P) (C_q_P : q_P.length ≤ c_q_P) (r : Int × Int × List Int × Int) (h : D_mosaic_Take N q_W q_H q_P phase = some r) :
    Calls Try.prog 56 #[.agg #[.int .i64 q_W, .int .i64 q_H, .slice A_q_P q_P.length c_q_P], .int .i64 phase] w0 fun e w' => ∃ v, e = .returned v ∧ ∃ A2 c2, v = .tuple #[.agg #[.int .i64 r.1, .int .i64 r.2.1, .slice A2 r.2.2.1.length c2], .int .i64 r.2.2.2] ∧ Mem w0.heap.size w0 w' [.row 3 1 A2 r.2.2.1.length c2 ((cI .i64).all r.2.2.1)] := by
  refine X_enter Try.func56 rfl Try.ntmps56 rfl ?_
  intro a K
  have M := Mem.start w0
  have K : Kn a 60 [(0, .agg #[.int .i64 q_W, .int .i64 q_H, .slice A_q_P q_P.length c_q_P]), (1, .int .i64 phase)] := K
  unfold D_mosaic_Take at h
  refine wp_seq ?_
  refine X_reg ?_
  refine X_ac K (want_no rfl) rfl rfl (ac_box rfl K rfl (cs := [.int .i64 q_W, .int .i64 q_H, .slice A_q_P q_P.length c_q_P]) rfl M) ?_
  have M0 := M; clear K M; rintro _ a w ⟨g_q, rfl, M⟩ K
  clear M0
  refine X_ac K (want_no rfl) rfl rfl (ac_alloc rfl z45 M) ?_
  have M0 := M; clear K M; rintro _ a w ⟨g_x, rfl, M⟩ K
  clear M0
  refine X_rd K (want_no rfl) rfl rfl (rd_assign rfl K rfl) M ?_; clear K; intro a K
  refine wpList_nil ?_
  refine then_n ?_
  refine wp_seq ?_
  refine wp_seq ?_
  refine X_reg ?_
  refine X_rd K (want_no rfl) rfl rfl (rd_ldA rfl ty24 K rfl (inM 1 rfl) rfl rfl) M ?_; clear K; intro a K
  obtain ⟨r2, h_r2, h⟩ := obind h
  refine X_ac K (want_no rfl) rfl rfl (ac_call (vs := [.agg #[.int .i64 q_W, .int .i64 q_H, .slice A_q_P q_P.length c_q_P]]) (cap := []) rfl fok73 K rfl rfl (W_mosaic_fine N q_W q_H q_P A_q_P c_q_P _ ((inA R_q_P) _ M) C_q_P r2 h_r2)) ?_
  have M0 := M; clear K M; rintro _ a w ⟨rfl, M⟩ K
  have M := M0.call M
  clear M0
  refine X_rd K (want_no rfl) rfl rfl (rd_not rfl K rfl) M ?_; clear K; intro a K
  refine wpList_nil ?_
  refine then_n ?_
  refine X_cond K rfl (fun hb => ?_) (fun hb => ?_)
  · have h := ctrue hb h
    refine wp_seq ?_
    refine X_reg ?_
    refine X_rd K (want_no rfl) rfl rfl (rd_build rfl K (vs := []) (cs := [.int .i64 0, .int .i64 0, .slice none ([] : List Int).length 0]) rfl (by kernel_rfl)) M ?_; clear K; intro a K
    refine X_a0 K (want_no rfl) rfl (ac_storeA rfl ty45 K rfl (ds := [.int .i64 0, .int .i64 0, .slice none ([] : List Int).length 0]) rfl rfl 0 M rfl rfl rfl) ?_
    have M0 := M; clear K M; rintro _ a w M K
    clear M0
    refine X_rd K (want_no rfl) rfl rfl (rd_assign rfl K rfl) M ?_; clear K; intro a K
    refine wpList_nil ?_
    refine then_n ?_
    refine wp_ret ?_
    refine then_r ?_
    cases h
    exact ret2 K rfl (res_cellA K rfl ty45 (M.blkAt (i := 0) rfl) rfl) (res_tmp K rfl) ⟨_, rfl, _, _, rfl, (((Mem.nilrow 3 1 (cI .i64) M)).pick [0] (by decide))⟩
  · have h := cfalse hb h
    refine wp_skip ?_
    refine then_n ?_
    refine wp_seq ?_
    refine wp_seq ?_
    refine X_reg ?_
    refine X_rd K (want_no rfl) rfl rfl (rd_move rfl K rfl) M ?_; clear K; intro a K
    refine X_rd K (want_no rfl) rfl rfl (rd_lss rfl K rfl rfl) M ?_; clear K; intro a K
    refine X_rd K (want_no rfl) rfl rfl (rd_move rfl K rfl) M ?_; clear K; intro a K
    rcases Bool.eq_false_or_eq_true (decide (phase < 0)) with hb | hb
    · have h := ctrue hb h
      have K := K.reb (s := 16) rfl hb
      refine X_no K (K.no rfl rfl rfl rfl) rfl rfl ?_; clear K; intro a K
      refine X_no K (K.no rfl rfl rfl rfl) rfl rfl ?_; clear K; intro a K
      refine X_rd K (want_no rfl) rfl rfl (rd_pickT rfl K rfl rfl) M ?_; clear K; intro a K
      refine wpList_nil ?_
      refine then_n ?_
      refine X_condT K rfl ?_
      refine wp_seq ?_
      refine X_reg ?_
      refine X_rd K (want_no rfl) rfl rfl (rd_build rfl K (vs := []) (cs := [.int .i64 0, .int .i64 0, .slice none ([] : List Int).length 0]) rfl (by kernel_rfl)) M ?_; clear K; intro a K
      refine X_a0 K (want_no rfl) rfl (ac_storeA rfl ty45 K rfl (ds := [.int .i64 0, .int .i64 0, .slice none ([] : List Int).length 0]) rfl rfl 0 M rfl rfl rfl) ?_
      have M0 := M; clear K M; rintro _ a w M K
      clear M0
      refine X_rd K (want_no rfl) rfl rfl (rd_assign rfl K rfl) M ?_; clear K; intro a K
      refine wpList_nil ?_
      refine then_n ?_
      refine wp_ret ?_
      refine then_r ?_
      cases h
      exact ret2 K rfl (res_cellA K rfl ty45 (M.blkAt (i := 0) rfl) rfl) (res_tmp K rfl) ⟨_, rfl, _, _, rfl, (((Mem.nilrow 3 1 (cI .i64) M)).pick [0] (by decide))⟩
    · have h := cfalse hb h
      have K := K.reb (s := 16) rfl hb
      refine X_rd K (K.yes rfl rfl rfl) rfl rfl (rd_move rfl K rfl) M ?_; clear K; intro a K
      refine X_rd K (K.yes rfl rfl rfl) rfl rfl (rd_gtr rfl K rfl rfl) M ?_; clear K; intro a K
      refine X_rd K (want_no rfl) rfl rfl (rd_pickF rfl K rfl rfl) M ?_; clear K; intro a K
      refine wpList_nil ?_
      refine then_n ?_
      refine X_cond K rfl (fun hb => ?_) (fun hb => ?_)
      · have h := ctrue hb h
        refine wp_seq ?_
        refine X_reg ?_
        refine X_rd K (want_no rfl) rfl rfl (rd_build rfl K (vs := []) (cs := [.int .i64 0, .int .i64 0, .slice none ([] : List Int).length 0]) rfl (by kernel_rfl)) M ?_; clear K; intro a K
        refine X_a0 K (want_no rfl) rfl (ac_storeA rfl ty45 K rfl (ds := [.int .i64 0, .int .i64 0, .slice none ([] : List Int).length 0]) rfl rfl 0 M rfl rfl rfl) ?_
        have M0 := M; clear K M; rintro _ a w M K
        clear M0
        refine X_rd K (want_no rfl) rfl rfl (rd_assign rfl K rfl) M ?_; clear K; intro a K
        refine wpList_nil ?_
        refine then_n ?_
        refine wp_ret ?_
        refine then_r ?_
        cases h
        exact ret2 K rfl (res_cellA K rfl ty45 (M.blkAt (i := 0) rfl) rfl) (res_tmp K rfl) ⟨_, rfl, _, _, rfl, (((Mem.nilrow 3 1 (cI .i64) M)).pick [0] (by decide))⟩
      · have h := cfalse hb h
        refine wp_skip ?_
        refine then_n ?_
        refine wp_seq ?_
        refine X_reg ?_
        refine X_rd K (want_no rfl) rfl rfl (rd_field rfl fld24_0 K rfl) M ?_; clear K; intro a K
        refine X_rd K (want_no rfl) rfl rfl (rd_ldC rfl sc3 K rfl (inM 1 rfl) rfl) M ?_; clear K; intro a K
        refine X_rd K (want_no rfl) rfl rfl (rd_field rfl fld24_1 K rfl) M ?_; clear K; intro a K
        refine X_rd K (want_no rfl) rfl rfl (rd_ldC rfl sc3 K rfl (inM 1 rfl) rfl) M ?_; clear K; intro a K
        refine X_rd K (want_no rfl) rfl rfl (rd_build rfl K (vs := [(0, .int .i64 q_W), (1, .int .i64 q_H)]) (cs := [.int .i64 q_W, .int .i64 q_H, .slice none ([] : List Int).length 0]) rfl (by kernel_rfl)) M ?_; clear K; intro a K
        refine X_ac K (want_no rfl) rfl rfl (ac_alloc rfl z45 M) ?_
        have M0 := M; clear K M; rintro _ a w ⟨g_out, rfl, M⟩ K
        clear M0
        refine X_a0 K (want_no rfl) rfl (ac_storeA rfl ty45 K rfl (ds := [.int .i64 q_W, .int .i64 q_H, .slice none ([] : List Int).length 0]) rfl rfl 0 M rfl rfl rfl) ?_
        have M0 := M; clear K M; rintro _ a w M K
        clear M0
        refine wpList_nil ?_
        refine then_n ?_
        refine wp_seq ?_
        refine wp_seq ?_
        refine X_reg ?_
        refine X_rd K (want_no rfl) rfl rfl (rd_field rfl fld24_2 K rfl) M ?_; clear K; intro a K
        refine X_rd K (want_no rfl) rfl rfl (rd_ldC rfl sc22 K rfl (inM 2 rfl) rfl) M ?_; clear K; intro a K
        refine X_rd K (want_no rfl) rfl rfl (rd_len rfl un22 K rfl) M ?_; clear K; intro a K
        refine X_rd K (want_no rfl) rfl rfl (rd_move rfl K rfl) M ?_; clear K; intro a K
        refine wpList_nil ?_
        refine then_n ?_
        refine wp_block ?_
        replace M := Mem.nilrow 3 1 (cI .i64) M
        refine X_lp (id := 0) (Rel := fun (⟨out_P, i⟩ : List Int × Int) a w => ∃ (A : Option Addr) (c : Nat), Kn a 60 [(1, .int .i64 phase), (2, .pointer (some ⟨g_q, 0, none⟩)), (4, .pointer (some ⟨g_x, 0, none⟩)), (6, .pointer (some ⟨g_out, 0, none⟩)), (28, .int .i64 (q_P.length : Int)), (29, .int .i64 i)] ∧ Mem w0.heap.size w0 w [.row 3 1 A out_P.length c ((cI .i64).all out_P), .blk g_out 45 [.int .i64 q_W, .int .i64 q_H, .slice A out_P.length c], .blk g_x 45 [.int .i64 0, .int .i64 0, .slice none ([] : List Int).length 0], .blk g_q 24 [.int .i64 q_W, .int .i64 q_H, .slice A_q_P q_P.length c_q_P]]) h (fun _ _ => rfl) ⟨none, 0, K.pick [1,2,4,6,28,29], M.pick [0,1,2,3] (by decide)⟩ ?_ ?_
        · clear K M h
          rintro ⟨out_P8, i2⟩ a w ⟨A8, c8, K, M⟩ h
          try dsimp only at h
          refine inb_e ?_
          refine then_n ?_
          refine wp_seq ?_
          refine X_reg ?_
          refine X_rd K (want_no rfl) rfl rfl (rd_ldA rfl ty45 K rfl (inM 1 rfl) rfl rfl) M ?_; clear K; intro a K
          refine X_a0 K (want_no rfl) rfl (ac_storeA rfl ty45 K rfl (ds := [.int .i64 q_W, .int .i64 q_H, .slice A8 out_P8.length c8]) rfl rfl 2 M rfl rfl rfl) ?_
          have M0 := M; clear K M; rintro _ a w M K
          clear M0
          refine X_rd K (want_no rfl) rfl rfl (rd_assign rfl K rfl) M ?_; clear K; intro a K
          refine wpList_nil ?_
          refine then_n ?_
          refine wp_ret ?_
          cases h
          exact ret2 K rfl (res_cellA K rfl ty45 (M.blkAt (i := 2) rfl) rfl) (res_tmp K rfl) ⟨_, rfl, _, _, rfl, ((M).pick [0] (by decide))⟩
        · clear K M h
          rintro kk fuel ⟨out_P, i⟩ a w hk1 ⟨A, c, K, M⟩ h
          unfold D_mosaic_Take_l1 at h
          refine wp_seq ?_
          refine X_reg ?_
          refine X_rd K (want_no rfl) rfl rfl (rd_lss rfl K rfl rfl) M ?_; clear K; intro a K
          refine wpList_nil ?_
          refine then_n ?_
          refine wp_seq ?_
          refine X_cond K rfl (fun hb => ?_) (fun hb => ?_)
          · have h := ctrue hb h
            refine wp_skip ?_
            refine then_n ?_
            refine wp_seq ?_
            refine wp_block ?_
            refine wp_seq ?_
            refine X_reg ?_
            refine X_rd K (want_no rfl) rfl rfl (rd_move rfl K rfl) M ?_; clear K; intro a K
            refine X_rd K (want_no rfl) rfl rfl (rd_assign rfl K rfl) M ?_; clear K; intro a K
            refine wpList_nil ?_
            refine then_n ?_
            refine wp_seq ?_
            refine wp_region_tl (fun w => Mem _ _ w _) [0,0,0,0,0,0,0,0,0,1,0,0,0,0,0] (by kernel_rfl) (by kernel_rfl) M.drew ?_
            replace M := M.drew
            refine T_rd K (want_no rfl) rfl rfl (rd_move rfl K rfl) ?_; clear K; intro a K
            refine T_rd K (want_no rfl) rfl rfl (rd_move rfl K rfl) ?_; clear K; intro a K
            refine T_rd K (want_no rfl) rfl rfl (rd_field rfl fld24_0 K rfl) ?_; clear K; intro a K
            refine T_rd K (want_no rfl) rfl rfl (rd_ldC rfl sc3 K rfl (inM 3 rfl) rfl) ?_; clear K; intro a K
            obtain ⟨_, h0, h⟩ := obind h
            have h0 := nz_spec h0
            refine T_rd K (want_no rfl) rfl rfl (rd_rem rfl K rfl rfl h0) ?_; clear K; intro a K
            refine T_rd K (want_no rfl) rfl rfl (rd_move rfl K rfl) ?_; clear K; intro a K
            refine T_rd K (want_no rfl) rfl rfl (rd_field rfl fld24_0 K rfl) ?_; clear K; intro a K
            refine T_rd K (want_no rfl) rfl rfl (rd_ldC rfl sc3 K rfl (inM 3 rfl) rfl) ?_; clear K; intro a K
            obtain ⟨_, h0, h⟩ := obind h
            have h0 := nz_spec h0
            refine T_rd K (want_no rfl) rfl rfl (rd_quo rfl K rfl rfl h0) ?_; clear K; intro a K
            obtain ⟨r4, h_r4, h⟩ := obind h
            refine T_ac K (want_no rfl) rfl rfl (ac_call (vs := [.int .i64 phase, .int .i64 (Int.tmod i q_W), .int .i64 (IntKind.i64.wrap (Int.tdiv i q_W))]) (cap := []) rfl fok74 K rfl rfl (W_sensor_Colour N phase (Int.tmod i q_W) (IntKind.i64.wrap (Int.tdiv i q_W)) _  r4 h_r4)) ?_
            have M0 := M; clear K M; rintro _ a w ⟨rfl, M⟩ K
            have M := M0.call M
            clear M0
            refine ⟨M.pick [0,1,2,3] (by decide), ?_⟩
            refine T_rd K (want_no rfl) rfl rfl (rd_move rfl K rfl) ?_; clear K; intro a K
            refine T_rd K (want_no rfl) rfl rfl (rd_extract rfl K rfl rfl) ?_; clear K; intro a K
            refine T_rd K (want_no rfl) rfl rfl (rd_extract rfl K rfl rfl) ?_; clear K; intro a K
            refine T_rd K (want_no rfl) rfl rfl (rd_assign rfl K rfl) ?_; clear K; intro a K
            refine T_rd K (want_no rfl) rfl rfl (rd_assign rfl K rfl) ?_; clear K; intro a K
            refine T_end ?_
            refine then_n ?_
            refine wp_region_tl (fun w => Mem _ _ w _) [0,0,0,0,0,0,0,1,1,1,1,1,0,2] (by kernel_rfl) (by kernel_rfl) (M.pick [1,2,3] (by decide)).drew ?_
            replace M := M.drew
            refine T_rd K (want_no rfl) rfl rfl (rd_field rfl fld45_2 K rfl) ?_; clear K; intro a K
            refine T_rd K (want_no rfl) rfl rfl (rd_ldC rfl sc43 K rfl (inM 0 rfl) rfl) ?_; clear K; intro a K
            refine T_rd K (want_no rfl) rfl rfl (rd_field rfl fld24_2 K rfl) ?_; clear K; intro a K
            refine T_rd K (want_no rfl) rfl rfl (rd_ldC rfl sc22 K rfl (inM 2 rfl) rfl) ?_; clear K; intro a K
            refine T_rd K (want_no rfl) rfl rfl (rd_move rfl K rfl) ?_; clear K; intro a K
            obtain ⟨e2, h_e2, h⟩ := obind h
            refine T_rd K (want_no rfl) rfl rfl (rd_ix rfl sl22 K rfl rfl (inA R_q_P) h_e2) ?_; clear K; intro a K
            refine T_rd K (want_no rfl) rfl rfl (rd_move rfl K rfl) ?_; clear K; intro a K
            refine T_inl (vs := [.pointer (some (((adr A_q_P).add (Int.toNat i * 3)))), .int .i64 r4.1]) (cap := []) K (want_no rfl) rfl rfl rfl fok75 rfl rfl ?_; clear K
            refine X_enter Try.func75 rfl Try.ntmps75 rfl ?_
            intro a K
            have K : Kn a 19 [(0, .pointer (some (((adr A_q_P).add (Int.toNat i * 3))))), (1, .int .i64 r4.1)] := K
            refine wp_seq ?_
            refine X_reg ?_
            refine X_rd K (want_no rfl) rfl rfl (rd_assign rfl K rfl) M ?_; clear K; intro a K
            refine wpList_nil ?_
            refine then_n ?_
            refine wp_seq ?_
            refine wp_seq ?_
            refine X_reg ?_
            refine X_rd K (want_no rfl) rfl rfl (rd_move rfl K rfl) M ?_; clear K; intro a K
            refine wpList_nil ?_
            refine then_n ?_
            refine wp_block ?_
            refine wp_seq ?_
            refine X_reg ?_
            refine X_rd K (want_no rfl) rfl rfl (rd_eql rfl K rfl rfl) M ?_; clear K; intro a K
            refine X_rd K (want_no rfl) rfl rfl (rd_assign rfl K rfl) M ?_; clear K; intro a K
            refine wpList_nil ?_
            refine then_n ?_
            refine X_cond K rfl (fun hb => ?_) (fun hb => ?_)
            · have h := ctrue hb h
              refine wp_seq ?_
              refine X_reg ?_
              refine X_rd K (want_no rfl) rfl rfl (rd_move rfl K rfl) M ?_; clear K; intro a K
              refine X_rd K (want_no rfl) rfl rfl (rd_nil rfl K rfl) M ?_; clear K; intro a K
              refine X_rd K (want_no rfl) rfl rfl (rd_field rfl fld34_0 K rfl) M ?_; clear K; intro a K
              refine X_rd K (want_no rfl) rfl rfl (rd_assign rfl K rfl) M ?_; clear K; intro a K
              refine wpList_nil ?_
              refine then_n ?_
              refine wp_ret ?_
              refine inb_r ?_
              refine then_r ?_
              refine ret1 K rfl (res_tmp K rfl) ⟨_, rfl, ?_⟩; clear K; intro a K
              refine ⟨M.pick [1,2,3] (by decide), ?_⟩
              refine T_rd1 K (want_no rfl) rfl rfl (rd_nil rfl K rfl) M (M.pick [1,2,3] (by decide)) ?_; clear K; intro a K
              refine T_rd1 K (want_no rfl) rfl rfl (rd_elF rfl sc3 K rfl rfl (inA R_q_P) h_e2 rfl) M (M.pick [1,2,3] (by decide)) ?_; clear K; intro a K
              refine T_ac K (want_no rfl) rfl rfl (ac_bslice rfl sl43 z3 K (vs := [(0, .int .i64 e2.1)]) (cs := [.int .i64 e2.1]) rfl (by kernel_rfl) rfl rfl M) ?_
              have M0 := M; clear K M; rintro _ a w ⟨gs4, rfl, M⟩ K
              replace M := M.asRow 0 rfl (cI .i64) ([e2.1] : List Int) (n := 1) rfl rfl rfl
              clear M0
              refine ⟨M.pick [2,3,4] (by decide), ?_⟩
              obtain ⟨out_P5, h_out_P5, h⟩ := obind h
              refine T_ac K (want_no rfl) rfl rfl (ac_app (C := (cI .i64)) (xs := out_P) (ys := ([e2.1] : List Int)) rfl sl43 rfl z3 rfl rfl K rfl rfl 1 M rfl ((inR (C := (cI .i64)) 0 rfl rfl) _ M) h_out_P5) ?_
              have M0 := M; clear K M; rintro _ a w ⟨A5, c5, rfl, M⟩ K
              clear M0
              refine ⟨M.pick [2,3,4] (by decide), ?_⟩
              refine T_rd K (want_no rfl) rfl rfl (rd_field rfl fld45_2 K rfl) ?_; clear K; intro a K
              refine T_a0z K (want_no rfl) rfl (ac_storeC rfl sc43 K rfl rfl rfl 2 M rfl rfl) ?_
              have M0 := M; clear K M; rintro _ a w M K
              clear M0
              refine T_end ?_
              refine inb_n ?_
              refine then_n ?_
              refine X_reg ?_
              refine X_rd K (want_no rfl) rfl rfl (rd_add rfl K rfl rfl) M ?_; clear K; intro a K
              refine X_rd K (want_no rfl) rfl rfl (rd_move rfl K rfl) M ?_; clear K; intro a K
              refine wpList_nil ?_
              exact then_n ⟨(out_P5, IntKind.i64.wrap (i + 1)), ⟨A5, c5, K.pick [1,2,4,6,28,29], M.pick [1,2,3,4] (by decide)⟩, h⟩
            · have h := cfalse hb h
              refine wp_seq ?_
              refine X_reg ?_
              refine X_rd K (want_no rfl) rfl rfl (rd_eql rfl K rfl rfl) M ?_; clear K; intro a K
              refine X_rd K (want_no rfl) rfl rfl (rd_assign rfl K rfl) M ?_; clear K; intro a K
              refine wpList_nil ?_
              refine then_n ?_
              refine X_cond K rfl (fun hb => ?_) (fun hb => ?_)
              · have h := ctrue hb h
                refine wp_seq ?_
                refine X_reg ?_
                refine X_rd K (want_no rfl) rfl rfl (rd_move rfl K rfl) M ?_; clear K; intro a K
                refine X_rd K (want_no rfl) rfl rfl (rd_nil rfl K rfl) M ?_; clear K; intro a K
                refine X_rd K (want_no rfl) rfl rfl (rd_field rfl fld34_1 K rfl) M ?_; clear K; intro a K
                refine X_rd K (want_no rfl) rfl rfl (rd_assign rfl K rfl) M ?_; clear K; intro a K
                refine wpList_nil ?_
                refine then_n ?_
                refine wp_ret ?_
                refine inb_r ?_
                refine then_r ?_
                refine ret1 K rfl (res_tmp K rfl) ⟨_, rfl, ?_⟩; clear K; intro a K
                refine ⟨M.pick [1,2,3] (by decide), ?_⟩
                refine T_rd1 K (want_no rfl) rfl rfl (rd_nil rfl K rfl) M (M.pick [1,2,3] (by decide)) ?_; clear K; intro a K
                refine T_rd1 K (want_no rfl) rfl rfl (rd_elF rfl sc3 K rfl rfl (inA R_q_P) h_e2 rfl) M (M.pick [1,2,3] (by decide)) ?_; clear K; intro a K
                refine T_ac K (want_no rfl) rfl rfl (ac_bslice rfl sl43 z3 K (vs := [(0, .int .i64 e2.2.1)]) (cs := [.int .i64 e2.2.1]) rfl (by kernel_rfl) rfl rfl M) ?_
                have M0 := M; clear K M; rintro _ a w ⟨gs5, rfl, M⟩ K
                replace M := M.asRow 0 rfl (cI .i64) ([e2.2.1] : List Int) (n := 1) rfl rfl rfl
                clear M0
                refine ⟨M.pick [2,3,4] (by decide), ?_⟩
                obtain ⟨out_P6, h_out_P6, h⟩ := obind h
                refine T_ac K (want_no rfl) rfl rfl (ac_app (C := (cI .i64)) (xs := out_P) (ys := ([e2.2.1] : List Int)) rfl sl43 rfl z3 rfl rfl K rfl rfl 1 M rfl ((inR (C := (cI .i64)) 0 rfl rfl) _ M) h_out_P6) ?_
                have M0 := M; clear K M; rintro _ a w ⟨A6, c6, rfl, M⟩ K
                clear M0
                refine ⟨M.pick [2,3,4] (by decide), ?_⟩
                refine T_rd K (want_no rfl) rfl rfl (rd_field rfl fld45_2 K rfl) ?_; clear K; intro a K
                refine T_a0z K (want_no rfl) rfl (ac_storeC rfl sc43 K rfl rfl rfl 2 M rfl rfl) ?_
                have M0 := M; clear K M; rintro _ a w M K
                clear M0
                refine T_end ?_
                refine inb_n ?_
                refine then_n ?_
                refine X_reg ?_
                refine X_rd K (want_no rfl) rfl rfl (rd_add rfl K rfl rfl) M ?_; clear K; intro a K
                refine X_rd K (want_no rfl) rfl rfl (rd_move rfl K rfl) M ?_; clear K; intro a K
                refine wpList_nil ?_
                exact then_n ⟨(out_P6, IntKind.i64.wrap (i + 1)), ⟨A6, c6, K.pick [1,2,4,6,28,29], M.pick [1,2,3,4] (by decide)⟩, h⟩
              · have h := cfalse hb h
                refine wp_skip ?_
                refine inb_n ?_
                refine then_n ?_
                refine wp_seq ?_
                refine X_reg ?_
                refine X_rd K (want_no rfl) rfl rfl (rd_move rfl K rfl) M ?_; clear K; intro a K
                refine X_rd K (want_no rfl) rfl rfl (rd_nil rfl K rfl) M ?_; clear K; intro a K
                refine X_rd K (want_no rfl) rfl rfl (rd_field rfl fld34_2 K rfl) M ?_; clear K; intro a K
                refine X_rd K (want_no rfl) rfl rfl (rd_assign rfl K rfl) M ?_; clear K; intro a K
                refine wpList_nil ?_
                refine then_n ?_
                refine wp_ret ?_
                refine ret1 K rfl (res_tmp K rfl) ⟨_, rfl, ?_⟩; clear K; intro a K
                refine ⟨M.pick [1,2,3] (by decide), ?_⟩
                refine T_rd1 K (want_no rfl) rfl rfl (rd_nil rfl K rfl) M (M.pick [1,2,3] (by decide)) ?_; clear K; intro a K
                refine T_rd1 K (want_no rfl) rfl rfl (rd_elF rfl sc3 K rfl rfl (inA R_q_P) h_e2 rfl) M (M.pick [1,2,3] (by decide)) ?_; clear K; intro a K
                refine T_ac K (want_no rfl) rfl rfl (ac_bslice rfl sl43 z3 K (vs := [(0, .int .i64 e2.2.2)]) (cs := [.int .i64 e2.2.2]) rfl (by kernel_rfl) rfl rfl M) ?_
                have M0 := M; clear K M; rintro _ a w ⟨gs6, rfl, M⟩ K
                replace M := M.asRow 0 rfl (cI .i64) ([e2.2.2] : List Int) (n := 1) rfl rfl rfl
                clear M0
                refine ⟨M.pick [2,3,4] (by decide), ?_⟩
                obtain ⟨out_P7, h_out_P7, h⟩ := obind h
                refine T_ac K (want_no rfl) rfl rfl (ac_app (C := (cI .i64)) (xs := out_P) (ys := ([e2.2.2] : List Int)) rfl sl43 rfl z3 rfl rfl K rfl rfl 1 M rfl ((inR (C := (cI .i64)) 0 rfl rfl) _ M) h_out_P7) ?_
                have M0 := M; clear K M; rintro _ a w ⟨A7, c7, rfl, M⟩ K
                clear M0
                refine ⟨M.pick [2,3,4] (by decide), ?_⟩
                refine T_rd K (want_no rfl) rfl rfl (rd_field rfl fld45_2 K rfl) ?_; clear K; intro a K
                refine T_a0z K (want_no rfl) rfl (ac_storeC rfl sc43 K rfl rfl rfl 2 M rfl rfl) ?_
                have M0 := M; clear K M; rintro _ a w M K
                clear M0
                refine T_end ?_
                refine inb_n ?_
                refine then_n ?_
                refine X_reg ?_
                refine X_rd K (want_no rfl) rfl rfl (rd_add rfl K rfl rfl) M ?_; clear K; intro a K
                refine X_rd K (want_no rfl) rfl rfl (rd_move rfl K rfl) M ?_; clear K; intro a K
                refine wpList_nil ?_
                exact then_n ⟨(out_P7, IntKind.i64.wrap (i + 1)), ⟨A7, c7, K.pick [1,2,4,6,28,29], M.pick [1,2,3,4] (by decide)⟩, h⟩
          · have h := cfalse hb h
            refine wp_exit ?_
            refine then_e ?_
            exact then_e (hk1 (out_P, i) _ _ ⟨A, c, K.pick [1,2,4,6,28,29], M.pick [0,1,2,3] (by decide)⟩ h)

end Go.Proofs.Ytpmnfhifmmfglab
