/- Printed by a program (walk.py): the walks of sensor_fine, sensor_Level_1, sensor_each__sensor_Level_1, sensor_Level, sensor_colour, sensor_Gain_1, sensor_each__sensor_Gain_1, sensor_Gain, sensor_Colour: each function computes what its plain program tells. -/
import Derived.Test.YtpmnfhifmmfglaaFacts
import Derived.Test.YtpmnfhifmmfglaaDD
set_option linter.unusedVariables false
set_option linter.unusedSimpArgs false
set_option linter.unusedSectionVars false
namespace Go.Proofs.Ytpmnfhifmmfglaa
open Go.RowKit

set_option maxRecDepth 100000 in
set_option maxHeartbeats 4000000 in
theorem W_sensor_fine (N : Nat) (p_W : Int) (p_H : Int) (p_P : List Int) (A_p_P : Option Addr) (c_p_P : Nat) (w0 : World) (R_p_P : SL w0 (cI .i64) A_p_P p_P) (C_p_P : p_P.length ≤ c_p_P) (r : Bool) (h : D_sensor_fine N p_W p_H p_P = some r) :
    Calls Try.prog 54 #[.agg #[.int .i64 p_W, .int .i64 p_H, .slice A_p_P p_P.length c_p_P]] w0 fun e w' => ∃ v, e = .returned v ∧ v = .bool r ∧ Mem w0.heap.size w0 w' [] := by
  refine X_enter Try.func54 rfl Try.ntmps54 rfl ?_
  intro a K
  have M := Mem.start w0
  have K : Kn a 48 [(0, .agg #[.int .i64 p_W, .int .i64 p_H, .slice A_p_P p_P.length c_p_P])] := K
  unfold D_sensor_fine at h
  refine wp_seq ?_
  refine X_reg ?_
  refine X_ac K (want_no rfl) rfl rfl (ac_box rfl K rfl (cs := [.int .i64 p_W, .int .i64 p_H, .slice A_p_P p_P.length c_p_P]) rfl M) ?_
  have M0 := M; clear K M; rintro _ a w ⟨g_p, rfl, M⟩ K
  clear M0
  refine X_rd K (want_no rfl) rfl rfl (rd_assign rfl K rfl) M ?_; clear K; intro a K
  refine wpList_nil ?_
  refine then_n ?_
  refine wp_seq ?_
  refine wp_seq ?_
  refine X_reg ?_
  refine X_rd K (want_no rfl) rfl rfl (rd_field rfl fld24_0 K rfl) M ?_; clear K; intro a K
  refine X_rd K (want_no rfl) rfl rfl (rd_ldC rfl sc3 K rfl (inM 0 rfl) rfl) M ?_; clear K; intro a K
  refine X_rd K (want_no rfl) rfl rfl (rd_lss rfl K rfl rfl) M ?_; clear K; intro a K
  refine X_rd K (want_no rfl) rfl rfl (rd_move rfl K rfl) M ?_; clear K; intro a K
  rcases Bool.eq_false_or_eq_true (decide (p_W < 1)) with hb | hb
  · have h := ctrue hb h
    have K := K.reb (s := 8) rfl hb
    refine X_no K (K.no rfl rfl rfl rfl) rfl rfl ?_; clear K; intro a K
    refine X_no K (K.no rfl rfl rfl rfl) rfl rfl ?_; clear K; intro a K
    refine X_no K (K.no rfl rfl rfl rfl) rfl rfl ?_; clear K; intro a K
    refine X_rd K (want_no rfl) rfl rfl (rd_pickT rfl K rfl rfl) M ?_; clear K; intro a K
    refine X_rd K (want_no rfl) rfl rfl (rd_move rfl K rfl) M ?_; clear K; intro a K
    refine X_no K (K.no rfl rfl rfl rfl) rfl rfl ?_; clear K; intro a K
    refine X_no K (K.no rfl rfl rfl rfl) rfl rfl ?_; clear K; intro a K
    refine X_no K (K.no rfl rfl rfl rfl) rfl rfl ?_; clear K; intro a K
    refine X_rd K (want_no rfl) rfl rfl (rd_pickT rfl K rfl rfl) M ?_; clear K; intro a K
    refine X_rd K (want_no rfl) rfl rfl (rd_move rfl K rfl) M ?_; clear K; intro a K
    refine X_no K (K.no rfl rfl rfl rfl) rfl rfl ?_; clear K; intro a K
    refine X_no K (K.no rfl rfl rfl rfl) rfl rfl ?_; clear K; intro a K
    refine X_no K (K.no rfl rfl rfl rfl) rfl rfl ?_; clear K; intro a K
    refine X_rd K (want_no rfl) rfl rfl (rd_pickT rfl K rfl rfl) M ?_; clear K; intro a K
    refine X_rd K (want_no rfl) rfl rfl (rd_move rfl K rfl) M ?_; clear K; intro a K
    refine X_no K (K.no rfl rfl rfl rfl) rfl rfl ?_; clear K; intro a K
    refine X_no K (K.no rfl rfl rfl rfl) rfl rfl ?_; clear K; intro a K
    refine X_no K (K.no rfl rfl rfl rfl) rfl rfl ?_; clear K; intro a K
    refine X_no K (K.no rfl rfl rfl rfl) rfl rfl ?_; clear K; intro a K
    refine X_no K (K.no rfl rfl rfl rfl) rfl rfl ?_; clear K; intro a K
    refine X_no K (K.no rfl rfl rfl rfl) rfl rfl ?_; clear K; intro a K
    refine X_no K (K.no rfl rfl rfl rfl) rfl rfl ?_; clear K; intro a K
    refine X_no K (K.no rfl rfl rfl rfl) rfl rfl ?_; clear K; intro a K
    refine X_no K (K.no rfl rfl rfl rfl) rfl rfl ?_; clear K; intro a K
    refine X_rd K (want_no rfl) rfl rfl (rd_pickT rfl K rfl rfl) M ?_; clear K; intro a K
    refine wpList_nil ?_
    refine then_n ?_
    refine X_condT K rfl ?_
    refine wp_seq ?_
    refine X_reg ?_
    refine X_rd K (want_no rfl) rfl rfl (rd_assign rfl K rfl) M ?_; clear K; intro a K
    refine wpList_nil ?_
    refine then_n ?_
    refine wp_ret ?_
    refine then_r ?_
    cases h
    exact ret1 K rfl (res_tmp K rfl) ⟨_, rfl, rfl, ((M).pick [] (by decide))⟩
  · have h := cfalse hb h
    have K := K.reb (s := 8) rfl hb
    refine X_rd K (K.yes rfl rfl rfl) rfl rfl (rd_field rfl fld24_0 K rfl) M ?_; clear K; intro a K
    refine X_rd K (K.yes rfl rfl rfl) rfl rfl (rd_ldC rfl sc3 K rfl (inM 0 rfl) rfl) M ?_; clear K; intro a K
    refine X_rd K (K.yes rfl rfl rfl) rfl rfl (rd_gtr rfl K rfl rfl) M ?_; clear K; intro a K
    refine X_rd K (want_no rfl) rfl rfl (rd_pickF rfl K rfl rfl) M ?_; clear K; intro a K
    refine X_rd K (want_no rfl) rfl rfl (rd_move rfl K rfl) M ?_; clear K; intro a K
    rcases Bool.eq_false_or_eq_true (decide (64 < p_W)) with hb | hb
    · have h := ctrue hb h
      have K := K.reb (s := 13) rfl hb
      refine X_no K (K.no rfl rfl rfl rfl) rfl rfl ?_; clear K; intro a K
      refine X_no K (K.no rfl rfl rfl rfl) rfl rfl ?_; clear K; intro a K
      refine X_no K (K.no rfl rfl rfl rfl) rfl rfl ?_; clear K; intro a K
      refine X_rd K (want_no rfl) rfl rfl (rd_pickT rfl K rfl rfl) M ?_; clear K; intro a K
      refine X_rd K (want_no rfl) rfl rfl (rd_move rfl K rfl) M ?_; clear K; intro a K
      refine X_no K (K.no rfl rfl rfl rfl) rfl rfl ?_; clear K; intro a K
      refine X_no K (K.no rfl rfl rfl rfl) rfl rfl ?_; clear K; intro a K
      refine X_no K (K.no rfl rfl rfl rfl) rfl rfl ?_; clear K; intro a K
      refine X_rd K (want_no rfl) rfl rfl (rd_pickT rfl K rfl rfl) M ?_; clear K; intro a K
      refine X_rd K (want_no rfl) rfl rfl (rd_move rfl K rfl) M ?_; clear K; intro a K
      refine X_no K (K.no rfl rfl rfl rfl) rfl rfl ?_; clear K; intro a K
      refine X_no K (K.no rfl rfl rfl rfl) rfl rfl ?_; clear K; intro a K
      refine X_no K (K.no rfl rfl rfl rfl) rfl rfl ?_; clear K; intro a K
      refine X_no K (K.no rfl rfl rfl rfl) rfl rfl ?_; clear K; intro a K
      refine X_no K (K.no rfl rfl rfl rfl) rfl rfl ?_; clear K; intro a K
      refine X_no K (K.no rfl rfl rfl rfl) rfl rfl ?_; clear K; intro a K
      refine X_no K (K.no rfl rfl rfl rfl) rfl rfl ?_; clear K; intro a K
      refine X_no K (K.no rfl rfl rfl rfl) rfl rfl ?_; clear K; intro a K
      refine X_no K (K.no rfl rfl rfl rfl) rfl rfl ?_; clear K; intro a K
      refine X_rd K (want_no rfl) rfl rfl (rd_pickT rfl K rfl rfl) M ?_; clear K; intro a K
      refine wpList_nil ?_
      refine then_n ?_
      refine X_condT K rfl ?_
      refine wp_seq ?_
      refine X_reg ?_
      refine X_rd K (want_no rfl) rfl rfl (rd_assign rfl K rfl) M ?_; clear K; intro a K
      refine wpList_nil ?_
      refine then_n ?_
      refine wp_ret ?_
      refine then_r ?_
      cases h
      exact ret1 K rfl (res_tmp K rfl) ⟨_, rfl, rfl, ((M).pick [] (by decide))⟩
    · have h := cfalse hb h
      have K := K.reb (s := 13) rfl hb
      refine X_rd K (K.yes rfl rfl rfl) rfl rfl (rd_field rfl fld24_1 K rfl) M ?_; clear K; intro a K
      refine X_rd K (K.yes rfl rfl rfl) rfl rfl (rd_ldC rfl sc3 K rfl (inM 0 rfl) rfl) M ?_; clear K; intro a K
      refine X_rd K (K.yes rfl rfl rfl) rfl rfl (rd_lss rfl K rfl rfl) M ?_; clear K; intro a K
      refine X_rd K (want_no rfl) rfl rfl (rd_pickF rfl K rfl rfl) M ?_; clear K; intro a K
      refine X_rd K (want_no rfl) rfl rfl (rd_move rfl K rfl) M ?_; clear K; intro a K
      rcases Bool.eq_false_or_eq_true (decide (p_H < 1)) with hb | hb
      · have h := ctrue hb h
        have K := K.reb (s := 18) rfl hb
        refine X_no K (K.no rfl rfl rfl rfl) rfl rfl ?_; clear K; intro a K
        refine X_no K (K.no rfl rfl rfl rfl) rfl rfl ?_; clear K; intro a K
        refine X_no K (K.no rfl rfl rfl rfl) rfl rfl ?_; clear K; intro a K
        refine X_rd K (want_no rfl) rfl rfl (rd_pickT rfl K rfl rfl) M ?_; clear K; intro a K
        refine X_rd K (want_no rfl) rfl rfl (rd_move rfl K rfl) M ?_; clear K; intro a K
        refine X_no K (K.no rfl rfl rfl rfl) rfl rfl ?_; clear K; intro a K
        refine X_no K (K.no rfl rfl rfl rfl) rfl rfl ?_; clear K; intro a K
        refine X_no K (K.no rfl rfl rfl rfl) rfl rfl ?_; clear K; intro a K
        refine X_no K (K.no rfl rfl rfl rfl) rfl rfl ?_; clear K; intro a K
        refine X_no K (K.no rfl rfl rfl rfl) rfl rfl ?_; clear K; intro a K
        refine X_no K (K.no rfl rfl rfl rfl) rfl rfl ?_; clear K; intro a K
        refine X_no K (K.no rfl rfl rfl rfl) rfl rfl ?_; clear K; intro a K
        refine X_no K (K.no rfl rfl rfl rfl) rfl rfl ?_; clear K; intro a K
        refine X_no K (K.no rfl rfl rfl rfl) rfl rfl ?_; clear K; intro a K
        refine X_rd K (want_no rfl) rfl rfl (rd_pickT rfl K rfl rfl) M ?_; clear K; intro a K
        refine wpList_nil ?_
        refine then_n ?_
        refine X_condT K rfl ?_
        refine wp_seq ?_
        refine X_reg ?_
        refine X_rd K (want_no rfl) rfl rfl (rd_assign rfl K rfl) M ?_; clear K; intro a K
        refine wpList_nil ?_
        refine then_n ?_
        refine wp_ret ?_
        refine then_r ?_
        cases h
        exact ret1 K rfl (res_tmp K rfl) ⟨_, rfl, rfl, ((M).pick [] (by decide))⟩
      · have h := cfalse hb h
        have K := K.reb (s := 18) rfl hb
        refine X_rd K (K.yes rfl rfl rfl) rfl rfl (rd_field rfl fld24_1 K rfl) M ?_; clear K; intro a K
        refine X_rd K (K.yes rfl rfl rfl) rfl rfl (rd_ldC rfl sc3 K rfl (inM 0 rfl) rfl) M ?_; clear K; intro a K
        refine X_rd K (K.yes rfl rfl rfl) rfl rfl (rd_gtr rfl K rfl rfl) M ?_; clear K; intro a K
        refine X_rd K (want_no rfl) rfl rfl (rd_pickF rfl K rfl rfl) M ?_; clear K; intro a K
        refine X_rd K (want_no rfl) rfl rfl (rd_move rfl K rfl) M ?_; clear K; intro a K
        rcases Bool.eq_false_or_eq_true (decide (64 < p_H)) with hb | hb
        · have h := ctrue hb h
          have K := K.reb (s := 23) rfl hb
          refine X_no K (K.no rfl rfl rfl rfl) rfl rfl ?_; clear K; intro a K
          refine X_no K (K.no rfl rfl rfl rfl) rfl rfl ?_; clear K; intro a K
          refine X_no K (K.no rfl rfl rfl rfl) rfl rfl ?_; clear K; intro a K
          refine X_no K (K.no rfl rfl rfl rfl) rfl rfl ?_; clear K; intro a K
          refine X_no K (K.no rfl rfl rfl rfl) rfl rfl ?_; clear K; intro a K
          refine X_no K (K.no rfl rfl rfl rfl) rfl rfl ?_; clear K; intro a K
          refine X_no K (K.no rfl rfl rfl rfl) rfl rfl ?_; clear K; intro a K
          refine X_no K (K.no rfl rfl rfl rfl) rfl rfl ?_; clear K; intro a K
          refine X_no K (K.no rfl rfl rfl rfl) rfl rfl ?_; clear K; intro a K
          refine X_rd K (want_no rfl) rfl rfl (rd_pickT rfl K rfl rfl) M ?_; clear K; intro a K
          refine wpList_nil ?_
          refine then_n ?_
          refine X_condT K rfl ?_
          refine wp_seq ?_
          refine X_reg ?_
          refine X_rd K (want_no rfl) rfl rfl (rd_assign rfl K rfl) M ?_; clear K; intro a K
          refine wpList_nil ?_
          refine then_n ?_
          refine wp_ret ?_
          refine then_r ?_
          cases h
          exact ret1 K rfl (res_tmp K rfl) ⟨_, rfl, rfl, ((M).pick [] (by decide))⟩
        · have h := cfalse hb h
          have K := K.reb (s := 23) rfl hb
          refine X_rd K (K.yes rfl rfl rfl) rfl rfl (rd_field rfl fld24_2 K rfl) M ?_; clear K; intro a K
          refine X_rd K (K.yes rfl rfl rfl) rfl rfl (rd_ldC rfl sc22 K rfl (inM 0 rfl) rfl) M ?_; clear K; intro a K
          refine X_rd K (K.yes rfl rfl rfl) rfl rfl (rd_len rfl un22 K rfl) M ?_; clear K; intro a K
          refine X_rd K (K.yes rfl rfl rfl) rfl rfl (rd_field rfl fld24_0 K rfl) M ?_; clear K; intro a K
          refine X_rd K (K.yes rfl rfl rfl) rfl rfl (rd_ldC rfl sc3 K rfl (inM 0 rfl) rfl) M ?_; clear K; intro a K
          refine X_rd K (K.yes rfl rfl rfl) rfl rfl (rd_field rfl fld24_1 K rfl) M ?_; clear K; intro a K
          refine X_rd K (K.yes rfl rfl rfl) rfl rfl (rd_ldC rfl sc3 K rfl (inM 0 rfl) rfl) M ?_; clear K; intro a K
          refine X_rd K (K.yes rfl rfl rfl) rfl rfl (rd_mul rfl K rfl rfl) M ?_; clear K; intro a K
          refine X_rd K (K.yes rfl rfl rfl) rfl rfl (rd_neq rfl K rfl rfl) M ?_; clear K; intro a K
          refine X_rd K (want_no rfl) rfl rfl (rd_pickF rfl K rfl rfl) M ?_; clear K; intro a K
          refine wpList_nil ?_
          refine then_n ?_
          refine X_cond K rfl (fun hb => ?_) (fun hb => ?_)
          · have h := ctrue hb h
            refine wp_seq ?_
            refine X_reg ?_
            refine X_rd K (want_no rfl) rfl rfl (rd_assign rfl K rfl) M ?_; clear K; intro a K
            refine wpList_nil ?_
            refine then_n ?_
            refine wp_ret ?_
            refine then_r ?_
            cases h
            exact ret1 K rfl (res_tmp K rfl) ⟨_, rfl, rfl, ((M).pick [] (by decide))⟩
          · have h := cfalse hb h
            refine wp_skip ?_
            refine then_n ?_
            refine wp_seq ?_
            refine wp_seq ?_
            refine X_reg ?_
            refine X_rd K (want_no rfl) rfl rfl (rd_field rfl fld24_2 K rfl) M ?_; clear K; intro a K
            refine X_rd K (want_no rfl) rfl rfl (rd_ldC rfl sc22 K rfl (inM 0 rfl) rfl) M ?_; clear K; intro a K
            refine X_rd K (want_no rfl) rfl rfl (rd_len rfl un22 K rfl) M ?_; clear K; intro a K
            refine X_rd K (want_no rfl) rfl rfl (rd_move rfl K rfl) M ?_; clear K; intro a K
            refine wpList_nil ?_
            refine then_n ?_
            refine wp_block ?_
            refine X_lp (id := 0) (Rel := fun (i : Int) a w => Kn a 48 [(35, .slice A_p_P p_P.length c_p_P), (36, .int .i64 (p_P.length : Int)), (37, .int .i64 i)] ∧ Mem w0.heap.size w0 w []) h (fun _ _ => rfl) ⟨K.pick [35,36,37], M.pick [] (by decide)⟩ ?_ ?_
            · clear K M h
              rintro i2 a w ⟨K, M⟩ h
              try dsimp only at h
              refine inb_e ?_
              refine then_n ?_
              refine wp_seq ?_
              refine X_reg ?_
              refine X_rd K (want_no rfl) rfl rfl (rd_assign rfl K rfl) M ?_; clear K; intro a K
              refine wpList_nil ?_
              refine then_n ?_
              refine wp_ret ?_
              cases h
              exact ret1 K rfl (res_tmp K rfl) ⟨_, rfl, rfl, ((M).pick [] (by decide))⟩
            · clear K M h
              rintro kk fuel i a w hk1 ⟨K, M⟩ h
              unfold D_sensor_fine_l1 at h
              refine wp_seq ?_
              refine X_reg ?_
              refine X_rd K (want_no rfl) rfl rfl (rd_lss rfl K rfl rfl) M ?_; clear K; intro a K
              refine wpList_nil ?_
              refine then_n ?_
              refine wp_seq ?_
              refine X_cond K rfl (fun hb => ?_) (fun hb => ?_)
              · have h := ctrue hb h
                refine wp_skip ?_
                refine then_n ?_
                refine wp_seq ?_
                refine wp_block ?_
                refine wp_seq ?_
                refine X_reg ?_
                obtain ⟨e2, h_e2, h⟩ := obind h
                refine X_rd K (want_no rfl) rfl rfl (rd_ix rfl sl22 K rfl rfl (inA R_p_P) h_e2) M ?_; clear K; intro a K
                refine X_rd K (want_no rfl) rfl rfl (rd_elC rfl sc3 K rfl rfl (inA R_p_P) h_e2 rfl) M ?_; clear K; intro a K
                refine X_rd K (want_no rfl) rfl rfl (rd_assign rfl K rfl) M ?_; clear K; intro a K
                refine wpList_nil ?_
                refine then_n ?_
                refine wp_seq ?_
                refine X_reg ?_
                refine X_rd K (want_no rfl) rfl rfl (rd_move rfl K rfl) M ?_; clear K; intro a K
                refine X_rd K (want_no rfl) rfl rfl (rd_lss rfl K rfl rfl) M ?_; clear K; intro a K
                refine X_rd K (want_no rfl) rfl rfl (rd_move rfl K rfl) M ?_; clear K; intro a K
                rcases Bool.eq_false_or_eq_true (decide (e2 < 0)) with hb | hb
                · have h := ctrue hb h
                  have K := K.reb (s := 43) rfl hb
                  refine X_no K (K.no rfl rfl rfl rfl) rfl rfl ?_; clear K; intro a K
                  refine X_no K (K.no rfl rfl rfl rfl) rfl rfl ?_; clear K; intro a K
                  refine X_rd K (want_no rfl) rfl rfl (rd_pickT rfl K rfl rfl) M ?_; clear K; intro a K
                  refine wpList_nil ?_
                  refine then_n ?_
                  refine X_condT K rfl ?_
                  refine wp_seq ?_
                  refine X_reg ?_
                  refine X_rd K (want_no rfl) rfl rfl (rd_assign rfl K rfl) M ?_; clear K; intro a K
                  refine wpList_nil ?_
                  refine then_n ?_
                  refine wp_ret ?_
                  refine inb_r ?_
                  refine then_r ?_
                  refine then_r ?_
                  refine inb_r ?_
                  refine then_r ?_
                  cases h
                  exact ret1 K rfl (res_tmp K rfl) ⟨_, rfl, rfl, ((M).pick [] (by decide))⟩
                · have h := cfalse hb h
                  have K := K.reb (s := 43) rfl hb
                  refine X_rd K (K.yes rfl rfl rfl) rfl rfl (rd_move rfl K rfl) M ?_; clear K; intro a K
                  refine X_rd K (K.yes rfl rfl rfl) rfl rfl (rd_gtr rfl K rfl rfl) M ?_; clear K; intro a K
                  refine X_rd K (want_no rfl) rfl rfl (rd_pickF rfl K rfl rfl) M ?_; clear K; intro a K
                  refine wpList_nil ?_
                  refine then_n ?_
                  refine X_cond K rfl (fun hb => ?_) (fun hb => ?_)
                  · have h := ctrue hb h
                    refine wp_seq ?_
                    refine X_reg ?_
                    refine X_rd K (want_no rfl) rfl rfl (rd_assign rfl K rfl) M ?_; clear K; intro a K
                    refine wpList_nil ?_
                    refine then_n ?_
                    refine wp_ret ?_
                    refine inb_r ?_
                    refine then_r ?_
                    refine then_r ?_
                    refine inb_r ?_
                    refine then_r ?_
                    cases h
                    exact ret1 K rfl (res_tmp K rfl) ⟨_, rfl, rfl, ((M).pick [] (by decide))⟩
                  · have h := cfalse hb h
                    refine wp_skip ?_
                    refine inb_n ?_
                    refine then_n ?_
                    refine X_reg ?_
                    refine X_rd K (want_no rfl) rfl rfl (rd_add rfl K rfl rfl) M ?_; clear K; intro a K
                    refine X_rd K (want_no rfl) rfl rfl (rd_move rfl K rfl) M ?_; clear K; intro a K
                    refine wpList_nil ?_
                    exact then_n ⟨(IntKind.i64.wrap (i + 1)), ⟨K.pick [35,36,37], M.pick [] (by decide)⟩, h⟩
              · have h := cfalse hb h
                refine wp_exit ?_
                refine then_e ?_
                exact then_e (hk1 i _ _ ⟨K.pick [35,36,37], M.pick [] (by decide)⟩ h)

set_option maxRecDepth 100000 in
set_option maxHeartbeats 4000000 in
theorem W_sensor_Level_1 (N : Nat) (n : Int) (x2 : Int) (y : Int) (v00 : Int) (v01 : Int) (v02 : Int) (v03 : Int) (v1 : Int) (g_v0 : Nat) (g_v1 : Nat) (w0 : World) (B_g_v0 : Blk w0 g_v0 25 #[.int .i64 v00, .int .i64 v01, .int .i64 v02, .int .i64 v03]) (B_g_v1 : Blk w0 g_v1 3 #[.int .i64 v1]) (r : Int) (h : D_sensor_Level_1 N n x2 y v00 v01 v02 v03 v1 = some r) :
    Calls Try.prog 56 #[.int .i64 n, .int .i64 x2, .int .i64 y, .pointer (some ⟨g_v0, 0, none⟩), .pointer (some ⟨g_v1, 0, none⟩)] w0 fun e w' => ∃ v, e = .returned v ∧ v = .int .i64 r ∧ Mem w0.heap.size w0 w' [] := by
  refine X_enter Try.func56 rfl Try.ntmps56 rfl ?_
  intro a K
  have M := Mem.start w0
  have K : Kn a 27 [(0, .int .i64 n), (1, .int .i64 x2), (2, .int .i64 y), (3, .pointer (some ⟨g_v0, 0, none⟩)), (4, .pointer (some ⟨g_v1, 0, none⟩))] := K
  unfold D_sensor_Level_1 at h
  refine wp_seq ?_
  refine X_reg ?_
  refine X_rd K (want_no rfl) rfl rfl (rd_assign rfl K rfl) M ?_; clear K; intro a K
  refine wpList_nil ?_
  refine then_n ?_
  refine wp_seq ?_
  refine X_reg ?_
  refine X_rd K (want_no rfl) rfl rfl (rd_move rfl K rfl) M ?_; clear K; intro a K
  refine X_rd K (want_no rfl) rfl rfl (rd_and rfl K rfl rfl) M ?_; clear K; intro a K
  refine X_rd K (want_no rfl) rfl rfl (rd_shl rfl K rfl rfl (by decide)) M ?_; clear K; intro a K
  refine X_rd K (want_no rfl) rfl rfl (rd_move rfl K rfl) M ?_; clear K; intro a K
  refine X_rd K (want_no rfl) rfl rfl (rd_and rfl K rfl rfl) M ?_; clear K; intro a K
  refine X_rd K (want_no rfl) rfl rfl (rd_or rfl K rfl rfl) M ?_; clear K; intro a K
  obtain ⟨_, h0, h⟩ := obind h
  have h0 := inr_spec h0
  refine X_rd K (want_no rfl) rfl rfl (rd_ixA rfl ar25 sz3 K rfl rfl h0.1 h0.2) M ?_; clear K; intro a K
  obtain ⟨e, h_e, h⟩ := obind h
  refine X_rd K (want_no rfl) rfl rfl (rd_ldIa rfl sc3 K rfl (inO B_g_v0) rfl rfl h_e) M ?_; clear K; intro a K
  refine X_rd K (want_no rfl) rfl rfl (rd_assign rfl K rfl) M ?_; clear K; intro a K
  refine wpList_nil ?_
  refine then_n ?_
  refine wp_seq ?_
  refine X_reg ?_
  refine X_rd K (want_no rfl) rfl rfl (rd_move rfl K rfl) M ?_; clear K; intro a K
  refine X_rd K (want_no rfl) rfl rfl (rd_move rfl K rfl) M ?_; clear K; intro a K
  refine X_rd K (want_no rfl) rfl rfl (rd_sub rfl K rfl rfl) M ?_; clear K; intro a K
  refine X_rd K (want_no rfl) rfl rfl (rd_max rfl K rfl rfl) M ?_; clear K; intro a K
  refine X_rd K (want_no rfl) rfl rfl (rd_mul rfl K rfl rfl) M ?_; clear K; intro a K
  refine X_rd K (want_no rfl) rfl rfl (rd_ldC rfl sc3 K rfl (inO B_g_v1) rfl) M ?_; clear K; intro a K
  refine X_rd K (want_no rfl) rfl rfl (rd_move rfl K rfl) M ?_; clear K; intro a K
  refine X_rd K (want_no rfl) rfl rfl (rd_sub rfl K rfl rfl) M ?_; clear K; intro a K
  obtain ⟨_, h0, h⟩ := obind h
  have h0 := nz_spec h0
  refine X_rd K (want_no rfl) rfl rfl (rd_quo rfl K rfl rfl h0) M ?_; clear K; intro a K
  refine X_rd K (want_no rfl) rfl rfl (rd_assign rfl K rfl) M ?_; clear K; intro a K
  refine wpList_nil ?_
  refine then_n ?_
  refine wp_ret ?_
  cases h
  exact ret1 K rfl (res_tmp K rfl) ⟨_, rfl, rfl, ((M).pick [] (by decide))⟩

set_option maxRecDepth 100000 in
set_option maxHeartbeats 4000000 in
theorem W_sensor_each__sensor_Level_1 (N : Nat) (p_W : Int) (p_H : Int) (p_P : List Int) (A_p_P : Option Addr) (c_p_P : Nat) (Level_1_00 : Int) (Level_1_01 : Int) (Level_1_02 : Int) (Level_1_03 : Int) (Level_1_1 : Int) (g_Level_1_0 : Nat) (g_Level_1_1 : Nat) (w0 : World) (R_p_P : SL w0 (cI .i64) A_p_P p_P) (C_p_P : p_P.length ≤ c_p_P) (B_g_Level_1_0 : Blk w0 g_Level_1_0 25 #[.int .i64 Level_1_00, .int .i64 Level_1_01, .int .i64 Level_1_02, .int .i64 Level_1_03]) (B_g_Level_1_1 : Blk w0 g_Level_1_1 3 #[.int .i64 Level_1_1]) (r : Int × Int × List Int) (h : D_sensor_each__sensor_Level_1 N p_W p_H p_P Level_1_00 Level_1_01 Level_1_02 Level_1_03 Level_1_1 = some r) :
    Calls Try.prog 55 #[.agg #[.int .i64 p_W, .int .i64 p_H, .slice A_p_P p_P.length c_p_P], .func (.func 56) #[] #[.pointer (some ⟨g_Level_1_0, 0, none⟩), .pointer (some ⟨g_Level_1_1, 0, none⟩)]] w0 fun e w' => ∃ v, e = .returned v ∧ ∃ A2 c2, v = .agg #[.int .i64 r.1, .int .i64 r.2.1, .slice A2 r.2.2.length c2] ∧ Mem w0.heap.size w0 w' [.row 3 1 A2 r.2.2.length c2 ((cI .i64).all r.2.2)] := by
  refine X_enter Try.func55 rfl Try.ntmps55 rfl ?_
  intro a K
  have M := Mem.start w0
  have K : Kn a 43 [(0, .agg #[.int .i64 p_W, .int .i64 p_H, .slice A_p_P p_P.length c_p_P]), (1, .func (.func 56) #[] #[.pointer (some ⟨g_Level_1_0, 0, none⟩), .pointer (some ⟨g_Level_1_1, 0, none⟩)])] := K
  unfold D_sensor_each__sensor_Level_1 at h
  refine wp_seq ?_
  refine X_reg ?_
  refine X_ac K (want_no rfl) rfl rfl (ac_box rfl K rfl (cs := [.int .i64 p_W, .int .i64 p_H, .slice A_p_P p_P.length c_p_P]) rfl M) ?_
  have M0 := M; clear K M; rintro _ a w ⟨g_p, rfl, M⟩ K
  clear M0
  refine X_ac K (want_no rfl) rfl rfl (ac_alloc rfl z24 M) ?_
  have M0 := M; clear K M; rintro _ a w ⟨g_x, rfl, M⟩ K
  clear M0
  refine wpList_nil ?_
  refine then_n ?_
  refine wp_seq ?_
  refine wp_region_tr (fun w => Mem _ _ w _) [0,0,0,0,0,0,0,1,0,1,2] 11 [0,1,2,3,4,5,6,7,8,9,10] (by kernel_rfl) (by kernel_rfl) (by kernel_rfl) rfl M.drew ?_
  replace M := M.drew
  refine R_rd 0 [1,2,3,4,5,6,7,8,9,10] (by kernel_rfl) rfl K (want_no rfl) rfl rfl (rd_field rfl fld24_0 K rfl) ?_; clear K; intro a K
  refine R_rd 1 [2,3,4,5,6,7,8,9,10] (by kernel_rfl) rfl K (want_no rfl) rfl rfl (rd_ldC rfl sc3 K rfl (inM 1 rfl) rfl) ?_; clear K; intro a K
  refine R_rd 2 [3,4,5,6,7,8,9,10] (by kernel_rfl) rfl K (want_no rfl) rfl rfl (rd_field rfl fld24_1 K rfl) ?_; clear K; intro a K
  refine R_rd 3 [4,5,6,7,8,9,10] (by kernel_rfl) rfl K (want_no rfl) rfl rfl (rd_ldC rfl sc3 K rfl (inM 1 rfl) rfl) ?_; clear K; intro a K
  refine R_rd 4 [5,6,7,8,9,10] (by kernel_rfl) rfl K (want_no rfl) rfl rfl (rd_field rfl fld24_2 K rfl) ?_; clear K; intro a K
  refine R_rd 5 [6,7,8,9,10] (by kernel_rfl) rfl K (want_no rfl) rfl rfl (rd_ldC rfl sc22 K rfl (inM 1 rfl) rfl) ?_; clear K; intro a K
  obtain ⟨x2, hx, h⟩ := olet h
  refine R_rd 6 [7,8,9,10] (by kernel_rfl) rfl K (want_no rfl) rfl rfl (rdi hx (rd_len rfl un22 K rfl)) ?_; clear K; intro a K
  refine R_br [7,9] (by kernel_rfl) ⟨?_, ?_, trivial⟩
  ·
    obtain ⟨l2, h_l2, h⟩ := obind h
    refine R_ac [8,9,10] (by kernel_rfl) rfl K (want_no rfl) rfl rfl (ac_make (C := (cI .i64)) (z := 0) rfl sl22 rfl z3 rfl K rfl rfl M h_l2) ?_
    have M0 := M; clear K M; rintro _ a w ⟨A, c, rfl, M⟩ K
    clear M0
    refine ⟨fun _ => M.pick [1,2] (by decide), ?_⟩
    refine R_rd 8 [9,10] (by kernel_rfl) rfl K (want_no rfl) rfl rfl (rd_build rfl K (vs := [(0, .int .i64 p_W), (1, .int .i64 p_H), (2, .slice A l2.length c)]) (cs := [.int .i64 p_W, .int .i64 p_H, .slice A l2.length c]) rfl (by kernel_rfl)) ?_; clear K; intro a K
    refine R_br [9] (by kernel_rfl) ⟨?_, trivial⟩
    refine R_ac [10] (by kernel_rfl) rfl K (want_no rfl) rfl rfl (ac_alloc rfl z24 M) ?_
    have M0 := M; clear K M; rintro _ a w ⟨g_out, rfl, M⟩ K
    clear M0
    refine ⟨fun _ => M.pick [2,3] (by decide), ?_⟩
    refine R_br [10] (by kernel_rfl) ⟨?_, trivial⟩
    refine R_a0 [] (by kernel_rfl) rfl K (want_no rfl) rfl (ac_storeA rfl ty24 K rfl (ds := [.int .i64 p_W, .int .i64 p_H, .slice A l2.length c]) rfl rfl 0 M rfl rfl rfl) ?_
    have M0 := M; clear K M; rintro _ a w M K
    clear M0
    refine ⟨fun h => absurd h (by decide), ?_⟩
    refine R_end ?_
    refine then_n ?_
    refine wp_seq ?_
    refine wp_seq ?_
    refine X_reg ?_
    refine X_rd K (want_no rfl) rfl rfl (rd_field rfl fld24_2 K rfl) M ?_; clear K; intro a K
    refine X_rd K (want_no rfl) rfl rfl (rd_ldC rfl sc22 K rfl (inM 3 rfl) rfl) M ?_; clear K; intro a K
    refine X_rd K (want_no rfl) rfl rfl (rd_len rfl un22 K rfl) M ?_; clear K; intro a K
    refine X_rd K (want_no rfl) rfl rfl (rd_move rfl K rfl) M ?_; clear K; intro a K
    refine wpList_nil ?_
    refine then_n ?_
    refine wp_block ?_
    refine X_lp (id := 0) (Rel := fun (⟨out_P, i⟩ : List Int × Int) a w => ∃ (A2 : Option Addr) (c2 : Nat), Kn a 43 [(1, .func (.func 56) #[] #[.pointer (some ⟨g_Level_1_0, 0, none⟩), .pointer (some ⟨g_Level_1_1, 0, none⟩)]), (2, .pointer (some ⟨g_p, 0, none⟩)), (4, .pointer (some ⟨g_x, 0, none⟩)), (5, .pointer (some ⟨g_out, 0, none⟩)), (18, .slice A_p_P p_P.length c_p_P), (19, .int .i64 (p_P.length : Int)), (20, .int .i64 i)] ∧ Mem w0.heap.size w0 w [.blk g_out 24 [.int .i64 p_W, .int .i64 p_H, .slice A2 out_P.length c2], .row 3 1 A2 out_P.length c2 ((cI .i64).all out_P), .blk g_x 24 [.int .i64 0, .int .i64 0, .slice none ([] : List Int).length 0], .blk g_p 24 [.int .i64 p_W, .int .i64 p_H, .slice A_p_P p_P.length c_p_P]]) h (fun _ _ => rfl) ⟨A, c, K.pick [1,2,4,5,18,19,20], M.pick [0,1,2,3] (by decide)⟩ ?_ ?_
    · clear K M h
      rintro ⟨out_P2, i2⟩ a w ⟨A3, c3, K, M⟩ h
      try dsimp only at h
      refine inb_e ?_
      refine then_n ?_
      refine wp_seq ?_
      refine X_reg ?_
      refine X_rd K (want_no rfl) rfl rfl (rd_ldA rfl ty24 K rfl (inM 0 rfl) rfl rfl) M ?_; clear K; intro a K
      refine X_a0 K (want_no rfl) rfl (ac_storeA rfl ty24 K rfl (ds := [.int .i64 p_W, .int .i64 p_H, .slice A3 out_P2.length c3]) rfl rfl 2 M rfl rfl rfl) ?_
      have M0 := M; clear K M; rintro _ a w M K
      clear M0
      refine wpList_nil ?_
      refine then_n ?_
      refine wp_ret ?_
      cases h
      exact ret1 K rfl (res_cellA K rfl ty24 (M.blkAt (i := 2) rfl) rfl) ⟨_, rfl, _, _, rfl, ((M).pick [1] (by decide))⟩
    · clear K M h
      rintro kk fuel ⟨out_P, i⟩ a w hk1 ⟨A2, c2, K, M⟩ h
      unfold D_sensor_each__sensor_Level_1_l1 at h
      refine wp_seq ?_
      refine X_reg ?_
      refine X_rd K (want_no rfl) rfl rfl (rd_lss rfl K rfl rfl) M ?_; clear K; intro a K
      refine wpList_nil ?_
      refine then_n ?_
      refine wp_seq ?_
      refine X_cond K rfl (fun hb => ?_) (fun hb => ?_)
      · have h := ctrue hb h
        refine wp_skip ?_
        refine then_n ?_
        refine wp_seq ?_
        refine wp_block ?_
        refine wp_seq ?_
        refine X_reg ?_
        refine X_rd K (want_no rfl) rfl rfl (rd_move rfl K rfl) M ?_; clear K; intro a K
        obtain ⟨e3, h_e3, h⟩ := obind h
        refine X_rd K (want_no rfl) rfl rfl (rd_ix rfl sl22 K rfl rfl (inA R_p_P) h_e3) M ?_; clear K; intro a K
        refine X_rd K (want_no rfl) rfl rfl (rd_elC rfl sc3 K rfl rfl (inA R_p_P) h_e3 rfl) M ?_; clear K; intro a K
        refine X_rd K (want_no rfl) rfl rfl (rd_assign rfl K rfl) M ?_; clear K; intro a K
        refine X_rd K (want_no rfl) rfl rfl (rd_assign rfl K rfl) M ?_; clear K; intro a K
        refine wpList_nil ?_
        refine then_n ?_
        refine wp_region_tl (fun w => Mem _ _ w _) [0,0,0,0,0,0,0,0,0,0,0,0,0,1,0,0,2] (by kernel_rfl) (by kernel_rfl) M.drew ?_
        replace M := M.drew
        refine T_rd K (want_no rfl) rfl rfl (rd_field rfl fld24_2 K rfl) ?_; clear K; intro a K
        refine T_rd K (want_no rfl) rfl rfl (rd_ldC rfl sc22 K rfl (inM 0 rfl) rfl) ?_; clear K; intro a K
        refine T_rd K (want_no rfl) rfl rfl (rd_move rfl K rfl) ?_; clear K; intro a K
        refine T_rd K (want_no rfl) rfl rfl (rd_move rfl K rfl) ?_; clear K; intro a K
        refine T_rd K (want_no rfl) rfl rfl (rd_move rfl K rfl) ?_; clear K; intro a K
        refine T_rd K (want_no rfl) rfl rfl (rd_move rfl K rfl) ?_; clear K; intro a K
        refine T_rd K (want_no rfl) rfl rfl (rd_field rfl fld24_0 K rfl) ?_; clear K; intro a K
        refine T_rd K (want_no rfl) rfl rfl (rd_ldC rfl sc3 K rfl (inM 3 rfl) rfl) ?_; clear K; intro a K
        obtain ⟨_, h0, h⟩ := obind h
        have h0 := nz_spec h0
        refine T_rd K (want_no rfl) rfl rfl (rd_rem rfl K rfl rfl h0) ?_; clear K; intro a K
        refine T_rd K (want_no rfl) rfl rfl (rd_move rfl K rfl) ?_; clear K; intro a K
        refine T_rd K (want_no rfl) rfl rfl (rd_field rfl fld24_0 K rfl) ?_; clear K; intro a K
        refine T_rd K (want_no rfl) rfl rfl (rd_ldC rfl sc3 K rfl (inM 3 rfl) rfl) ?_; clear K; intro a K
        obtain ⟨_, h0, h⟩ := obind h
        have h0 := nz_spec h0
        refine T_rd K (want_no rfl) rfl rfl (rd_quo rfl K rfl rfl h0) ?_; clear K; intro a K
        obtain ⟨r3, h_r3, h⟩ := obind h
        refine T_ac K (want_no rfl) rfl rfl (ac_call (vs := [.int .i64 e3, .int .i64 (Int.tmod i p_W), .int .i64 (IntKind.i64.wrap (Int.tdiv i p_W))]) (cap := [.pointer (some ⟨g_Level_1_0, 0, none⟩), .pointer (some ⟨g_Level_1_1, 0, none⟩)]) rfl fok56 K rfl rfl (W_sensor_Level_1 N e3 (Int.tmod i p_W) (IntKind.i64.wrap (Int.tdiv i p_W)) Level_1_00 Level_1_01 Level_1_02 Level_1_03 Level_1_1 g_Level_1_0 g_Level_1_1 _ (inO B_g_Level_1_0 _ M) (inO B_g_Level_1_1 _ M) r3 h_r3)) ?_
        have M0 := M; clear K M; rintro _ a w ⟨rfl, M⟩ K
        have M := M0.call M
        clear M0
        refine ⟨M.pick [0,1,2,3] (by decide), ?_⟩
        refine T_rd K (want_no rfl) rfl rfl (rd_min rfl K rfl rfl) ?_; clear K; intro a K
        obtain ⟨e4, h_e4, h⟩ := obind h
        refine T_rd K (want_no rfl) rfl rfl (rd_ix rfl sl22 K rfl rfl (inR (C := (cI .i64)) 1 rfl rfl) h_e4) ?_; clear K; intro a K
        obtain ⟨l4, h_l4, h⟩ := obind h
        refine T_a0z K (want_no rfl) rfl (ac_rowset (el := min r3 65535) rfl sz3 rfl rfl K rfl rfl rfl 1 M rfl h_l4) ?_
        have M0 := M; clear K M; rintro _ a w M K
        have hl := setL_len h_l4
        try rw [hl] at M
        clear hl
        clear M0
        refine T_end ?_
        refine inb_n ?_
        refine then_n ?_
        refine X_reg ?_
        refine X_rd K (want_no rfl) rfl rfl (rd_add rfl K rfl rfl) M ?_; clear K; intro a K
        refine X_rd K (want_no rfl) rfl rfl (rd_move rfl K rfl) M ?_; clear K; intro a K
        refine wpList_nil ?_
        exact then_n ⟨(l4, IntKind.i64.wrap (i + 1)), ⟨A2, c2, K.pick [1,2,4,5,18,19,20], M.pick [0,1,2,3] (by decide)⟩, h⟩
      · have h := cfalse hb h
        refine wp_exit ?_
        refine then_e ?_
        exact then_e (hk1 (out_P, i) _ _ ⟨A2, c2, K.pick [1,2,4,5,18,19,20], M.pick [0,1,2,3] (by decide)⟩ h)
  ·
    refine R_ac [7,8,10] (by kernel_rfl) rfl K (want_no rfl) rfl rfl (ac_alloc rfl z24 M) ?_
    have M0 := M; clear K M; rintro _ a w ⟨g_out2, rfl, M⟩ K
    clear M0
    refine ⟨fun _ => M.pick [1,2] (by decide), ?_⟩
    refine R_br [7] (by kernel_rfl) ⟨?_, trivial⟩
    obtain ⟨l5, h_l5, h⟩ := obind h
    refine R_ac [8,10] (by kernel_rfl) rfl K (want_no rfl) rfl rfl (ac_make (C := (cI .i64)) (z := 0) rfl sl22 rfl z3 rfl K rfl rfl M h_l5) ?_
    have M0 := M; clear K M; rintro _ a w ⟨A4, c4, rfl, M⟩ K
    clear M0
    refine ⟨fun _ => M.pick [2,3] (by decide), ?_⟩
    refine R_rd 8 [10] (by kernel_rfl) rfl K (want_no rfl) rfl rfl (rd_build rfl K (vs := [(0, .int .i64 p_W), (1, .int .i64 p_H), (2, .slice A4 l5.length c4)]) (cs := [.int .i64 p_W, .int .i64 p_H, .slice A4 l5.length c4]) rfl (by kernel_rfl)) ?_; clear K; intro a K
    refine R_br [10] (by kernel_rfl) ⟨?_, trivial⟩
    refine R_a0 [] (by kernel_rfl) rfl K (want_no rfl) rfl (ac_storeA rfl ty24 K rfl (ds := [.int .i64 p_W, .int .i64 p_H, .slice A4 l5.length c4]) rfl rfl 1 M rfl rfl rfl) ?_
    have M0 := M; clear K M; rintro _ a w M K
    clear M0
    refine ⟨fun h => absurd h (by decide), ?_⟩
    refine R_end ?_
    refine then_n ?_
    refine wp_seq ?_
    refine wp_seq ?_
    refine X_reg ?_
    refine X_rd K (want_no rfl) rfl rfl (rd_field rfl fld24_2 K rfl) M ?_; clear K; intro a K
    refine X_rd K (want_no rfl) rfl rfl (rd_ldC rfl sc22 K rfl (inM 3 rfl) rfl) M ?_; clear K; intro a K
    refine X_rd K (want_no rfl) rfl rfl (rd_len rfl un22 K rfl) M ?_; clear K; intro a K
    refine X_rd K (want_no rfl) rfl rfl (rd_move rfl K rfl) M ?_; clear K; intro a K
    refine wpList_nil ?_
    refine then_n ?_
    refine wp_block ?_
    refine X_lp (id := 0) (Rel := fun (⟨out_P3, i3⟩ : List Int × Int) a w => ∃ (A5 : Option Addr) (c5 : Nat), Kn a 43 [(1, .func (.func 56) #[] #[.pointer (some ⟨g_Level_1_0, 0, none⟩), .pointer (some ⟨g_Level_1_1, 0, none⟩)]), (2, .pointer (some ⟨g_p, 0, none⟩)), (4, .pointer (some ⟨g_x, 0, none⟩)), (5, .pointer (some ⟨g_out2, 0, none⟩)), (18, .slice A_p_P p_P.length c_p_P), (19, .int .i64 (p_P.length : Int)), (20, .int .i64 i3)] ∧ Mem w0.heap.size w0 w [.row 3 1 A5 out_P3.length c5 ((cI .i64).all out_P3), .blk g_out2 24 [.int .i64 p_W, .int .i64 p_H, .slice A5 out_P3.length c5], .blk g_x 24 [.int .i64 0, .int .i64 0, .slice none ([] : List Int).length 0], .blk g_p 24 [.int .i64 p_W, .int .i64 p_H, .slice A_p_P p_P.length c_p_P]]) h (fun _ _ => rfl) ⟨A4, c4, K.pick [1,2,4,5,18,19,20], M.pick [0,1,2,3] (by decide)⟩ ?_ ?_
    · clear K M h
      rintro ⟨out_P4, i4⟩ a w ⟨A6, c6, K, M⟩ h
      try dsimp only at h
      refine inb_e ?_
      refine then_n ?_
      refine wp_seq ?_
      refine X_reg ?_
      refine X_rd K (want_no rfl) rfl rfl (rd_ldA rfl ty24 K rfl (inM 1 rfl) rfl rfl) M ?_; clear K; intro a K
      refine X_a0 K (want_no rfl) rfl (ac_storeA rfl ty24 K rfl (ds := [.int .i64 p_W, .int .i64 p_H, .slice A6 out_P4.length c6]) rfl rfl 2 M rfl rfl rfl) ?_
      have M0 := M; clear K M; rintro _ a w M K
      clear M0
      refine wpList_nil ?_
      refine then_n ?_
      refine wp_ret ?_
      cases h
      exact ret1 K rfl (res_cellA K rfl ty24 (M.blkAt (i := 2) rfl) rfl) ⟨_, rfl, _, _, rfl, ((M).pick [0] (by decide))⟩
    · clear K M h
      rintro kk fuel ⟨out_P3, i3⟩ a w hk1 ⟨A5, c5, K, M⟩ h
      unfold D_sensor_each__sensor_Level_1_l1 at h
      refine wp_seq ?_
      refine X_reg ?_
      refine X_rd K (want_no rfl) rfl rfl (rd_lss rfl K rfl rfl) M ?_; clear K; intro a K
      refine wpList_nil ?_
      refine then_n ?_
      refine wp_seq ?_
      refine X_cond K rfl (fun hb => ?_) (fun hb => ?_)
      · have h := ctrue hb h
        refine wp_skip ?_
        refine then_n ?_
        refine wp_seq ?_
        refine wp_block ?_
        refine wp_seq ?_
        refine X_reg ?_
        refine X_rd K (want_no rfl) rfl rfl (rd_move rfl K rfl) M ?_; clear K; intro a K
        obtain ⟨e7, h_e7, h⟩ := obind h
        refine X_rd K (want_no rfl) rfl rfl (rd_ix rfl sl22 K rfl rfl (inA R_p_P) h_e7) M ?_; clear K; intro a K
        refine X_rd K (want_no rfl) rfl rfl (rd_elC rfl sc3 K rfl rfl (inA R_p_P) h_e7 rfl) M ?_; clear K; intro a K
        refine X_rd K (want_no rfl) rfl rfl (rd_assign rfl K rfl) M ?_; clear K; intro a K
        refine X_rd K (want_no rfl) rfl rfl (rd_assign rfl K rfl) M ?_; clear K; intro a K
        refine wpList_nil ?_
        refine then_n ?_
        refine wp_region_tl (fun w => Mem _ _ w _) [0,0,0,0,0,0,0,0,0,0,0,0,0,1,0,0,2] (by kernel_rfl) (by kernel_rfl) M.drew ?_
        replace M := M.drew
        refine T_rd K (want_no rfl) rfl rfl (rd_field rfl fld24_2 K rfl) ?_; clear K; intro a K
        refine T_rd K (want_no rfl) rfl rfl (rd_ldC rfl sc22 K rfl (inM 1 rfl) rfl) ?_; clear K; intro a K
        refine T_rd K (want_no rfl) rfl rfl (rd_move rfl K rfl) ?_; clear K; intro a K
        refine T_rd K (want_no rfl) rfl rfl (rd_move rfl K rfl) ?_; clear K; intro a K
        refine T_rd K (want_no rfl) rfl rfl (rd_move rfl K rfl) ?_; clear K; intro a K
        refine T_rd K (want_no rfl) rfl rfl (rd_move rfl K rfl) ?_; clear K; intro a K
        refine T_rd K (want_no rfl) rfl rfl (rd_field rfl fld24_0 K rfl) ?_; clear K; intro a K
        refine T_rd K (want_no rfl) rfl rfl (rd_ldC rfl sc3 K rfl (inM 3 rfl) rfl) ?_; clear K; intro a K
        obtain ⟨_, h0, h⟩ := obind h
        have h0 := nz_spec h0
        refine T_rd K (want_no rfl) rfl rfl (rd_rem rfl K rfl rfl h0) ?_; clear K; intro a K
        refine T_rd K (want_no rfl) rfl rfl (rd_move rfl K rfl) ?_; clear K; intro a K
        refine T_rd K (want_no rfl) rfl rfl (rd_field rfl fld24_0 K rfl) ?_; clear K; intro a K
        refine T_rd K (want_no rfl) rfl rfl (rd_ldC rfl sc3 K rfl (inM 3 rfl) rfl) ?_; clear K; intro a K
        obtain ⟨_, h0, h⟩ := obind h
        have h0 := nz_spec h0
        refine T_rd K (want_no rfl) rfl rfl (rd_quo rfl K rfl rfl h0) ?_; clear K; intro a K
        obtain ⟨r5, h_r5, h⟩ := obind h
        refine T_ac K (want_no rfl) rfl rfl (ac_call (vs := [.int .i64 e7, .int .i64 (Int.tmod i3 p_W), .int .i64 (IntKind.i64.wrap (Int.tdiv i3 p_W))]) (cap := [.pointer (some ⟨g_Level_1_0, 0, none⟩), .pointer (some ⟨g_Level_1_1, 0, none⟩)]) rfl fok56 K rfl rfl (W_sensor_Level_1 N e7 (Int.tmod i3 p_W) (IntKind.i64.wrap (Int.tdiv i3 p_W)) Level_1_00 Level_1_01 Level_1_02 Level_1_03 Level_1_1 g_Level_1_0 g_Level_1_1 _ (inO B_g_Level_1_0 _ M) (inO B_g_Level_1_1 _ M) r5 h_r5)) ?_
        have M0 := M; clear K M; rintro _ a w ⟨rfl, M⟩ K
        have M := M0.call M
        clear M0
        refine ⟨M.pick [0,1,2,3] (by decide), ?_⟩
        refine T_rd K (want_no rfl) rfl rfl (rd_min rfl K rfl rfl) ?_; clear K; intro a K
        obtain ⟨e8, h_e8, h⟩ := obind h
        refine T_rd K (want_no rfl) rfl rfl (rd_ix rfl sl22 K rfl rfl (inR (C := (cI .i64)) 0 rfl rfl) h_e8) ?_; clear K; intro a K
        obtain ⟨l7, h_l7, h⟩ := obind h
        refine T_a0z K (want_no rfl) rfl (ac_rowset (el := min r5 65535) rfl sz3 rfl rfl K rfl rfl rfl 0 M rfl h_l7) ?_
        have M0 := M; clear K M; rintro _ a w M K
        have hl := setL_len h_l7
        try rw [hl] at M
        clear hl
        clear M0
        refine T_end ?_
        refine inb_n ?_
        refine then_n ?_
        refine X_reg ?_
        refine X_rd K (want_no rfl) rfl rfl (rd_add rfl K rfl rfl) M ?_; clear K; intro a K
        refine X_rd K (want_no rfl) rfl rfl (rd_move rfl K rfl) M ?_; clear K; intro a K
        refine wpList_nil ?_
        exact then_n ⟨(l7, IntKind.i64.wrap (i3 + 1)), ⟨A5, c5, K.pick [1,2,4,5,18,19,20], M.pick [0,1,2,3] (by decide)⟩, h⟩
      · have h := cfalse hb h
        refine wp_exit ?_
        refine then_e ?_
        exact then_e (hk1 (out_P3, i3) _ _ ⟨A5, c5, K.pick [1,2,4,5,18,19,20], M.pick [0,1,2,3] (by decide)⟩ h)

set_option maxRecDepth 100000 in
set_option maxHeartbeats 4000000 in
theorem W_sensor_Level (N : Nat) (p_W : Int) (p_H : Int) (p_P : List Int) (A_p_P : Option Addr) (c_p_P : Nat) (black0 : Int) (black1 : Int) (black2 : Int) (black3 : Int) (white : Int) (w0 : World) (R_p_P : SL w0 (cI .i64) A_p_P p_P) (C_p_P : p_P.length ≤ c_p_P) (r : Int × Int × List Int × Int) (h : D_sensor_Level N p_W p_H p_P black0 black1 black2 black3 white = some r) :
    Calls Try.prog 14 #[.agg #[.int .i64 p_W, .int .i64 p_H, .slice A_p_P p_P.length c_p_P], .agg #[.int .i64 black0, .int .i64 black1, .int .i64 black2, .int .i64 black3], .int .i64 white] w0 fun e w' => ∃ v, e = .returned v ∧ ∃ A2 c2, v = .tuple #[.agg #[.int .i64 r.1, .int .i64 r.2.1, .slice A2 r.2.2.1.length c2], .int .i64 r.2.2.2] ∧ Mem w0.heap.size w0 w' [.row 3 1 A2 r.2.2.1.length c2 ((cI .i64).all r.2.2.1)] := by
  refine X_enter Try.func14 rfl Try.ntmps14 rfl ?_
  intro a K
  have M := Mem.start w0
  have K : Kn a 34 [(0, .agg #[.int .i64 p_W, .int .i64 p_H, .slice A_p_P p_P.length c_p_P]), (1, .agg #[.int .i64 black0, .int .i64 black1, .int .i64 black2, .int .i64 black3]), (2, .int .i64 white)] := K
  unfold D_sensor_Level at h
  refine wp_seq ?_
  refine X_reg ?_
  refine X_ac K (want_no rfl) rfl rfl (ac_box rfl K rfl (cs := [.int .i64 p_W, .int .i64 p_H, .slice A_p_P p_P.length c_p_P]) rfl M) ?_
  have M0 := M; clear K M; rintro _ a w ⟨g_p, rfl, M⟩ K
  clear M0
  refine X_ac K (want_no rfl) rfl rfl (ac_box rfl K rfl (cs := [.int .i64 black0, .int .i64 black1, .int .i64 black2, .int .i64 black3]) rfl M) ?_
  have M0 := M; clear K M; rintro _ a w ⟨g_black, rfl, M⟩ K
  clear M0
  refine X_ac K (want_no rfl) rfl rfl (ac_box rfl K rfl (cs := [.int .i64 white]) rfl M) ?_
  have M0 := M; clear K M; rintro _ a w ⟨g_white, rfl, M⟩ K
  clear M0
  refine X_ac K (want_no rfl) rfl rfl (ac_alloc rfl z24 M) ?_
  have M0 := M; clear K M; rintro _ a w ⟨g_x, rfl, M⟩ K
  clear M0
  refine X_rd K (want_no rfl) rfl rfl (rd_assign rfl K rfl) M ?_; clear K; intro a K
  refine wpList_nil ?_
  refine then_n ?_
  refine wp_seq ?_
  refine wp_seq ?_
  refine X_reg ?_
  refine X_rd K (want_no rfl) rfl rfl (rd_ldA rfl ty24 K rfl (inM 3 rfl) rfl rfl) M ?_; clear K; intro a K
  obtain ⟨r2, h_r2, h⟩ := obind h
  refine X_ac K (want_no rfl) rfl rfl (ac_call (vs := [.agg #[.int .i64 p_W, .int .i64 p_H, .slice A_p_P p_P.length c_p_P]]) (cap := []) rfl fok54 K rfl rfl (W_sensor_fine N p_W p_H p_P A_p_P c_p_P _ ((inA R_p_P) _ M) C_p_P r2 h_r2)) ?_
  have M0 := M; clear K M; rintro _ a w ⟨rfl, M⟩ K
  have M := M0.call M
  clear M0
  refine X_rd K (want_no rfl) rfl rfl (rd_not rfl K rfl) M ?_; clear K; intro a K
  refine wpList_nil ?_
  refine then_n ?_
  refine X_cond K rfl (fun hb => ?_) (fun hb => ?_)
  · have h := ctrue hb h
    refine wp_seq ?_
    refine X_reg ?_
    refine X_rd K (want_no rfl) rfl rfl (rd_build rfl K (vs := []) (cs := [.int .i64 0, .int .i64 0, .slice none ([] : List Int).length 0]) rfl (by kernel_rfl)) M ?_; clear K; intro a K
    refine X_a0 K (want_no rfl) rfl (ac_storeA rfl ty24 K rfl (ds := [.int .i64 0, .int .i64 0, .slice none ([] : List Int).length 0]) rfl rfl 0 M rfl rfl rfl) ?_
    have M0 := M; clear K M; rintro _ a w M K
    clear M0
    refine X_rd K (want_no rfl) rfl rfl (rd_assign rfl K rfl) M ?_; clear K; intro a K
    refine wpList_nil ?_
    refine then_n ?_
    refine wp_ret ?_
    refine then_r ?_
    cases h
    exact ret2 K rfl (res_cellA K rfl ty24 (M.blkAt (i := 0) rfl) rfl) (res_tmp K rfl) ⟨_, rfl, _, _, rfl, (((Mem.nilrow 3 1 (cI .i64) M)).pick [0] (by decide))⟩
  · have h := cfalse hb h
    refine wp_skip ?_
    refine then_n ?_
    refine wp_seq ?_
    refine wp_seq ?_
    refine X_reg ?_
    refine X_rd K (want_no rfl) rfl rfl (rd_ldA rfl ty25 K rfl (inM 2 rfl) rfl rfl) M ?_; clear K; intro a K
    refine X_rd K (want_no rfl) rfl rfl (rd_move rfl K rfl) M ?_; clear K; intro a K
    refine wpList_nil ?_
    refine then_n ?_
    refine wp_block ?_
    refine X_lp (id := 0) (Rel := fun (i : Int) a w => Kn a 34 [(3, .pointer (some ⟨g_p, 0, none⟩)), (4, .pointer (some ⟨g_black, 0, none⟩)), (5, .pointer (some ⟨g_white, 0, none⟩)), (6, .pointer (some ⟨g_x, 0, none⟩)), (14, .agg #[.int .i64 black0, .int .i64 black1, .int .i64 black2, .int .i64 black3]), (15, .int .i64 i)] ∧ Mem w0.heap.size w0 w [.blk g_x 24 [.int .i64 0, .int .i64 0, .slice none ([] : List Int).length 0], .blk g_white 3 [.int .i64 white], .blk g_black 25 [.int .i64 black0, .int .i64 black1, .int .i64 black2, .int .i64 black3], .blk g_p 24 [.int .i64 p_W, .int .i64 p_H, .slice A_p_P p_P.length c_p_P]]) h (fun _ _ => rfl) ⟨K.pick [3,4,5,6,14,15], M.pick [0,1,2,3] (by decide)⟩ ?_ ?_
    · clear K M h
      rintro i2 a w ⟨K, M⟩ h
      try dsimp only at h
      refine inb_e ?_
      refine then_n ?_
      refine wp_seq ?_
      refine X_reg ?_
      refine X_rd K (want_no rfl) rfl rfl (rd_ldA rfl ty24 K rfl (inM 3 rfl) rfl rfl) M ?_; clear K; intro a K
      refine X_rd K (want_no rfl) rfl rfl (rd_func rfl K (vs := [.pointer (some ⟨g_black, 0, none⟩), .pointer (some ⟨g_white, 0, none⟩)]) rfl) M ?_; clear K; intro a K
      obtain ⟨r3, h_r3, h⟩ := obind h
      refine X_ac K (want_no rfl) rfl rfl (ac_call (vs := [.agg #[.int .i64 p_W, .int .i64 p_H, .slice A_p_P p_P.length c_p_P], .func (.func 56) #[] #[.pointer (some ⟨g_black, 0, none⟩), .pointer (some ⟨g_white, 0, none⟩)]]) (cap := []) rfl fok55 K rfl rfl (W_sensor_each__sensor_Level_1 N p_W p_H p_P A_p_P c_p_P black0 black1 black2 black3 white g_black g_white _ ((inA R_p_P) _ M) C_p_P (M.blkAt (i := 2) rfl) (M.blkAt (i := 1) rfl) r3 h_r3)) ?_
      have M0 := M; clear K M; rintro _ a w ⟨A, c, rfl, M⟩ K
      have M := M0.call M
      clear M0
      refine X_a0 K (want_no rfl) rfl (ac_storeA rfl ty24 K rfl (ds := [.int .i64 r3.1, .int .i64 r3.2.1, .slice A r3.2.2.length c]) rfl rfl 1 M rfl rfl rfl) ?_
      have M0 := M; clear K M; rintro _ a w M K
      clear M0
      refine X_rd K (want_no rfl) rfl rfl (rd_assign rfl K rfl) M ?_; clear K; intro a K
      refine wpList_nil ?_
      refine then_n ?_
      refine wp_ret ?_
      cases h
      exact ret2 K rfl (res_cellA K rfl ty24 (M.blkAt (i := 1) rfl) rfl) (res_tmp K rfl) ⟨_, rfl, _, _, rfl, ((M).pick [0] (by decide))⟩
    · clear K M h
      rintro kk fuel i a w hk1 ⟨K, M⟩ h
      unfold D_sensor_Level_l1 at h
      refine wp_seq ?_
      refine X_reg ?_
      refine X_rd K (want_no rfl) rfl rfl (rd_lss rfl K rfl rfl) M ?_; clear K; intro a K
      refine wpList_nil ?_
      refine then_n ?_
      refine wp_seq ?_
      refine X_cond K rfl (fun hb => ?_) (fun hb => ?_)
      · have h := ctrue hb h
        refine wp_skip ?_
        refine then_n ?_
        refine wp_seq ?_
        refine wp_block ?_
        refine wp_seq ?_
        refine X_reg ?_
        obtain ⟨e2, h_e2, h⟩ := obind h
        refine X_rd K (want_no rfl) rfl rfl (rd_ixV (C := (cI .i64)) (es := [black0, black1, black2, black3]) rfl ar25 sc3 K rfl rfl rfl h_e2 rfl) M ?_; clear K; intro a K
        refine X_rd K (want_no rfl) rfl rfl (rd_assign rfl K rfl) M ?_; clear K; intro a K
        refine wpList_nil ?_
        refine then_n ?_
        refine wp_seq ?_
        refine X_reg ?_
        refine X_rd K (want_no rfl) rfl rfl (rd_move rfl K rfl) M ?_; clear K; intro a K
        refine X_rd K (want_no rfl) rfl rfl (rd_lss rfl K rfl rfl) M ?_; clear K; intro a K
        refine X_rd K (want_no rfl) rfl rfl (rd_move rfl K rfl) M ?_; clear K; intro a K
        rcases Bool.eq_false_or_eq_true (decide (e2 < 0)) with hb | hb
        · have h := ctrue hb h
          have K := K.reb (s := 20) rfl hb
          refine X_no K (K.no rfl rfl rfl rfl) rfl rfl ?_; clear K; intro a K
          refine X_no K (K.no rfl rfl rfl rfl) rfl rfl ?_; clear K; intro a K
          refine X_no K (K.no rfl rfl rfl rfl) rfl rfl ?_; clear K; intro a K
          refine X_rd K (want_no rfl) rfl rfl (rd_pickT rfl K rfl rfl) M ?_; clear K; intro a K
          refine X_rd K (want_no rfl) rfl rfl (rd_move rfl K rfl) M ?_; clear K; intro a K
          refine X_no K (K.no rfl rfl rfl rfl) rfl rfl ?_; clear K; intro a K
          refine X_no K (K.no rfl rfl rfl rfl) rfl rfl ?_; clear K; intro a K
          refine X_rd K (want_no rfl) rfl rfl (rd_pickT rfl K rfl rfl) M ?_; clear K; intro a K
          refine wpList_nil ?_
          refine then_n ?_
          refine X_condT K rfl ?_
          refine wp_seq ?_
          refine X_reg ?_
          refine X_rd K (want_no rfl) rfl rfl (rd_build rfl K (vs := []) (cs := [.int .i64 0, .int .i64 0, .slice none ([] : List Int).length 0]) rfl (by kernel_rfl)) M ?_; clear K; intro a K
          refine X_a0 K (want_no rfl) rfl (ac_storeA rfl ty24 K rfl (ds := [.int .i64 0, .int .i64 0, .slice none ([] : List Int).length 0]) rfl rfl 0 M rfl rfl rfl) ?_
          have M0 := M; clear K M; rintro _ a w M K
          clear M0
          refine X_rd K (want_no rfl) rfl rfl (rd_assign rfl K rfl) M ?_; clear K; intro a K
          refine wpList_nil ?_
          refine then_n ?_
          refine wp_ret ?_
          refine inb_r ?_
          refine then_r ?_
          refine then_r ?_
          refine inb_r ?_
          refine then_r ?_
          cases h
          exact ret2 K rfl (res_cellA K rfl ty24 (M.blkAt (i := 0) rfl) rfl) (res_tmp K rfl) ⟨_, rfl, _, _, rfl, (((Mem.nilrow 3 1 (cI .i64) M)).pick [0] (by decide))⟩
        · have h := cfalse hb h
          have K := K.reb (s := 20) rfl hb
          refine X_rd K (K.yes rfl rfl rfl) rfl rfl (rd_move rfl K rfl) M ?_; clear K; intro a K
          refine X_rd K (K.yes rfl rfl rfl) rfl rfl (rd_ldC rfl sc3 K rfl (inM 1 rfl) rfl) M ?_; clear K; intro a K
          refine X_rd K (K.yes rfl rfl rfl) rfl rfl (rd_geq rfl K rfl rfl) M ?_; clear K; intro a K
          refine X_rd K (want_no rfl) rfl rfl (rd_pickF rfl K rfl rfl) M ?_; clear K; intro a K
          refine X_rd K (want_no rfl) rfl rfl (rd_move rfl K rfl) M ?_; clear K; intro a K
          rcases Bool.eq_false_or_eq_true (decide (white ≤ e2)) with hb | hb
          · have h := ctrue hb h
            have K := K.reb (s := 25) rfl hb
            refine X_no K (K.no rfl rfl rfl rfl) rfl rfl ?_; clear K; intro a K
            refine X_no K (K.no rfl rfl rfl rfl) rfl rfl ?_; clear K; intro a K
            refine X_rd K (want_no rfl) rfl rfl (rd_pickT rfl K rfl rfl) M ?_; clear K; intro a K
            refine wpList_nil ?_
            refine then_n ?_
            refine X_condT K rfl ?_
            refine wp_seq ?_
            refine X_reg ?_
            refine X_rd K (want_no rfl) rfl rfl (rd_build rfl K (vs := []) (cs := [.int .i64 0, .int .i64 0, .slice none ([] : List Int).length 0]) rfl (by kernel_rfl)) M ?_; clear K; intro a K
            refine X_a0 K (want_no rfl) rfl (ac_storeA rfl ty24 K rfl (ds := [.int .i64 0, .int .i64 0, .slice none ([] : List Int).length 0]) rfl rfl 0 M rfl rfl rfl) ?_
            have M0 := M; clear K M; rintro _ a w M K
            clear M0
            refine X_rd K (want_no rfl) rfl rfl (rd_assign rfl K rfl) M ?_; clear K; intro a K
            refine wpList_nil ?_
            refine then_n ?_
            refine wp_ret ?_
            refine inb_r ?_
            refine then_r ?_
            refine then_r ?_
            refine inb_r ?_
            refine then_r ?_
            cases h
            exact ret2 K rfl (res_cellA K rfl ty24 (M.blkAt (i := 0) rfl) rfl) (res_tmp K rfl) ⟨_, rfl, _, _, rfl, (((Mem.nilrow 3 1 (cI .i64) M)).pick [0] (by decide))⟩
          · have h := cfalse hb h
            have K := K.reb (s := 25) rfl hb
            refine X_rd K (K.yes rfl rfl rfl) rfl rfl (rd_ldC rfl sc3 K rfl (inM 1 rfl) rfl) M ?_; clear K; intro a K
            refine X_rd K (K.yes rfl rfl rfl) rfl rfl (rd_gtr rfl K rfl rfl) M ?_; clear K; intro a K
            refine X_rd K (want_no rfl) rfl rfl (rd_pickF rfl K rfl rfl) M ?_; clear K; intro a K
            refine wpList_nil ?_
            refine then_n ?_
            refine X_cond K rfl (fun hb => ?_) (fun hb => ?_)
            · have h := ctrue hb h
              refine wp_seq ?_
              refine X_reg ?_
              refine X_rd K (want_no rfl) rfl rfl (rd_build rfl K (vs := []) (cs := [.int .i64 0, .int .i64 0, .slice none ([] : List Int).length 0]) rfl (by kernel_rfl)) M ?_; clear K; intro a K
              refine X_a0 K (want_no rfl) rfl (ac_storeA rfl ty24 K rfl (ds := [.int .i64 0, .int .i64 0, .slice none ([] : List Int).length 0]) rfl rfl 0 M rfl rfl rfl) ?_
              have M0 := M; clear K M; rintro _ a w M K
              clear M0
              refine X_rd K (want_no rfl) rfl rfl (rd_assign rfl K rfl) M ?_; clear K; intro a K
              refine wpList_nil ?_
              refine then_n ?_
              refine wp_ret ?_
              refine inb_r ?_
              refine then_r ?_
              refine then_r ?_
              refine inb_r ?_
              refine then_r ?_
              cases h
              exact ret2 K rfl (res_cellA K rfl ty24 (M.blkAt (i := 0) rfl) rfl) (res_tmp K rfl) ⟨_, rfl, _, _, rfl, (((Mem.nilrow 3 1 (cI .i64) M)).pick [0] (by decide))⟩
            · have h := cfalse hb h
              refine wp_skip ?_
              refine inb_n ?_
              refine then_n ?_
              refine X_reg ?_
              refine X_rd K (want_no rfl) rfl rfl (rd_add rfl K rfl rfl) M ?_; clear K; intro a K
              refine X_rd K (want_no rfl) rfl rfl (rd_move rfl K rfl) M ?_; clear K; intro a K
              refine wpList_nil ?_
              exact then_n ⟨(IntKind.i64.wrap (i + 1)), ⟨K.pick [3,4,5,6,14,15], M.pick [0,1,2,3] (by decide)⟩, h⟩
      · have h := cfalse hb h
        refine wp_exit ?_
        refine then_e ?_
        exact then_e (hk1 i _ _ ⟨K.pick [3,4,5,6,14,15], M.pick [0,1,2,3] (by decide)⟩ h)

set_option maxRecDepth 100000 in
set_option maxHeartbeats 4000000 in
theorem W_sensor_colour (N : Nat) (phase : Int) (x2 : Int) (y : Int) (w0 : World)  (r : Int) (h : D_sensor_colour N phase x2 y = some r) :
    Calls Try.prog 67 #[.int .i64 phase, .int .i64 x2, .int .i64 y] w0 fun e w' => ∃ v, e = .returned v ∧ v = .int .i64 r ∧ Mem w0.heap.size w0 w' [] := by
  refine X_enter Try.func67 rfl Try.ntmps67 rfl ?_
  intro a K
  have M := Mem.start w0
  have K : Kn a 17 [(0, .int .i64 phase), (1, .int .i64 x2), (2, .int .i64 y)] := K
  unfold D_sensor_colour at h
  refine wp_seq ?_
  refine X_reg ?_
  refine X_rd K (want_no rfl) rfl rfl (rd_assign rfl K rfl) M ?_; clear K; intro a K
  refine wpList_nil ?_
  refine then_n ?_
  refine wp_seq ?_
  refine X_reg ?_
  refine X_rd K (want_no rfl) rfl rfl (rd_move rfl K rfl) M ?_; clear K; intro a K
  refine X_rd K (want_no rfl) rfl rfl (rd_move rfl K rfl) M ?_; clear K; intro a K
  refine X_rd K (want_no rfl) rfl rfl (rd_add rfl K rfl rfl) M ?_; clear K; intro a K
  refine X_rd K (want_no rfl) rfl rfl (rd_and rfl K rfl rfl) M ?_; clear K; intro a K
  refine X_rd K (want_no rfl) rfl rfl (rd_move rfl K rfl) M ?_; clear K; intro a K
  refine X_rd K (want_no rfl) rfl rfl (rd_move rfl K rfl) M ?_; clear K; intro a K
  refine X_rd K (want_no rfl) rfl rfl (rd_shr rfl K rfl rfl (by decide)) M ?_; clear K; intro a K
  refine X_rd K (want_no rfl) rfl rfl (rd_add rfl K rfl rfl) M ?_; clear K; intro a K
  refine X_rd K (want_no rfl) rfl rfl (rd_and rfl K rfl rfl) M ?_; clear K; intro a K
  refine X_rd K (want_no rfl) rfl rfl (rd_add rfl K rfl rfl) M ?_; clear K; intro a K
  refine X_rd K (want_no rfl) rfl rfl (rd_assign rfl K rfl) M ?_; clear K; intro a K
  refine wpList_nil ?_
  refine then_n ?_
  refine wp_ret ?_
  cases h
  exact ret1 K rfl (res_tmp K rfl) ⟨_, rfl, rfl, ((M).pick [] (by decide))⟩

set_option maxRecDepth 100000 in
set_option maxHeartbeats 4000000 in
theorem W_sensor_Gain_1 (N : Nat) (n : Int) (x2 : Int) (y : Int) (v00 : Int) (v01 : Int) (v02 : Int) (v1 : Int) (g_v0 : Nat) (g_v1 : Nat) (w0 : World) (B_g_v0 : Blk w0 g_v0 39 #[.int .i64 v00, .int .i64 v01, .int .i64 v02]) (B_g_v1 : Blk w0 g_v1 3 #[.int .i64 v1]) (r : Int) (h : D_sensor_Gain_1 N n x2 y v00 v01 v02 v1 = some r) :
    Calls Try.prog 66 #[.int .i64 n, .int .i64 x2, .int .i64 y, .pointer (some ⟨g_v0, 0, none⟩), .pointer (some ⟨g_v1, 0, none⟩)] w0 fun e w' => ∃ v, e = .returned v ∧ v = .int .i64 r ∧ Mem w0.heap.size w0 w' [] := by
  refine X_enter Try.func66 rfl Try.ntmps66 rfl ?_
  intro a K
  have M := Mem.start w0
  have K : Kn a 18 [(0, .int .i64 n), (1, .int .i64 x2), (2, .int .i64 y), (3, .pointer (some ⟨g_v0, 0, none⟩)), (4, .pointer (some ⟨g_v1, 0, none⟩))] := K
  unfold D_sensor_Gain_1 at h
  refine wp_seq ?_
  refine X_reg ?_
  refine X_rd K (want_no rfl) rfl rfl (rd_assign rfl K rfl) M ?_; clear K; intro a K
  refine wpList_nil ?_
  refine then_n ?_
  refine wp_seq ?_
  refine X_reg ?_
  refine X_rd K (want_no rfl) rfl rfl (rd_move rfl K rfl) M ?_; clear K; intro a K
  refine X_rd K (want_no rfl) rfl rfl (rd_ldC rfl sc3 K rfl (inO B_g_v1) rfl) M ?_; clear K; intro a K
  refine X_rd K (want_no rfl) rfl rfl (rd_move rfl K rfl) M ?_; clear K; intro a K
  refine X_rd K (want_no rfl) rfl rfl (rd_move rfl K rfl) M ?_; clear K; intro a K
  obtain ⟨r2, h_r2, h⟩ := obind h
  refine X_ac K (want_no rfl) rfl rfl (ac_call (vs := [.int .i64 v1, .int .i64 x2, .int .i64 y]) (cap := []) rfl fok67 K rfl rfl (W_sensor_colour N v1 x2 y _  r2 h_r2)) ?_
  have M0 := M; clear K M; rintro _ a w ⟨rfl, M⟩ K
  have M := M0.call M
  clear M0
  obtain ⟨_, h0, h⟩ := obind h
  have h0 := inr_spec h0
  refine X_rd K (want_no rfl) rfl rfl (rd_ixA rfl ar39 sz3 K rfl rfl h0.1 h0.2) M ?_; clear K; intro a K
  obtain ⟨e, h_e, h⟩ := obind h
  refine X_rd K (want_no rfl) rfl rfl (rd_ldIa rfl sc3 K rfl (inO B_g_v0) rfl rfl h_e) M ?_; clear K; intro a K
  refine X_rd K (want_no rfl) rfl rfl (rd_mul rfl K rfl rfl) M ?_; clear K; intro a K
  refine X_rd K (want_no rfl) rfl rfl (rd_shr rfl K rfl rfl (by decide)) M ?_; clear K; intro a K
  refine X_rd K (want_no rfl) rfl rfl (rd_assign rfl K rfl) M ?_; clear K; intro a K
  refine wpList_nil ?_
  refine then_n ?_
  refine wp_ret ?_
  cases h
  exact ret1 K rfl (res_tmp K rfl) ⟨_, rfl, rfl, ((M).pick [] (by decide))⟩

set_option maxRecDepth 100000 in
set_option maxHeartbeats 4000000 in
theorem W_sensor_each__sensor_Gain_1 (N : Nat) (p_W : Int) (p_H : Int) (p_P : List Int) (A_p_P : Option Addr) (c_p_P : Nat) (Gain_1_00 : Int) (Gain_1_01 : Int) (Gain_1_02 : Int) (Gain_1_1 : Int) (g_Gain_1_0 : Nat) (g_Gain_1_1 : Nat) (w0 : World) (R_p_P : SL w0 (cI .i64) A_p_P p_P) (C_p_P : p_P.length ≤ c_p_P) (B_g_Gain_1_0 : Blk w0 g_Gain_1_0 39 #[.int .i64 Gain_1_00, .int .i64 Gain_1_01, .int .i64 Gain_1_02]) (B_g_Gain_1_1 : Blk w0 g_Gain_1_1 3 #[.int .i64 Gain_1_1]) (r : Int × Int × List Int) (h : D_sensor_each__sensor_Gain_1 N p_W p_H p_P Gain_1_00 Gain_1_01 Gain_1_02 Gain_1_1 = some r) :
    Calls Try.prog 55 #[.agg #[.int .i64 p_W, .int .i64 p_H, .slice A_p_P p_P.length c_p_P], .func (.func 66) #[] #[.pointer (some ⟨g_Gain_1_0, 0, none⟩), .pointer (some ⟨g_Gain_1_1, 0, none⟩)]] w0 fun e w' => ∃ v, e = .returned v ∧ ∃ A2 c2, v = .agg #[.int .i64 r.1, .int .i64 r.2.1, .slice A2 r.2.2.length c2] ∧ Mem w0.heap.size w0 w' [.row 3 1 A2 r.2.2.length c2 ((cI .i64).all r.2.2)] := by
  refine X_enter Try.func55 rfl Try.ntmps55 rfl ?_
  intro a K
  have M := Mem.start w0
  have K : Kn a 43 [(0, .agg #[.int .i64 p_W, .int .i64 p_H, .slice A_p_P p_P.length c_p_P]), (1, .func (.func 66) #[] #[.pointer (some ⟨g_Gain_1_0, 0, none⟩), .pointer (some ⟨g_Gain_1_1, 0, none⟩)])] := K
  unfold D_sensor_each__sensor_Gain_1 at h
  refine wp_seq ?_
  refine X_reg ?_
  refine X_ac K (want_no rfl) rfl rfl (ac_box rfl K rfl (cs := [.int .i64 p_W, .int .i64 p_H, .slice A_p_P p_P.length c_p_P]) rfl M) ?_
  have M0 := M; clear K M; rintro _ a w ⟨g_p, rfl, M⟩ K
  clear M0
  refine X_ac K (want_no rfl) rfl rfl (ac_alloc rfl z24 M) ?_
  have M0 := M; clear K M; rintro _ a w ⟨g_x, rfl, M⟩ K
  clear M0
  refine wpList_nil ?_
  refine then_n ?_
  refine wp_seq ?_
  refine wp_region_tr (fun w => Mem _ _ w _) [0,0,0,0,0,0,0,1,0,1,2] 11 [0,1,2,3,4,5,6,7,8,9,10] (by kernel_rfl) (by kernel_rfl) (by kernel_rfl) rfl M.drew ?_
  replace M := M.drew
  refine R_rd 0 [1,2,3,4,5,6,7,8,9,10] (by kernel_rfl) rfl K (want_no rfl) rfl rfl (rd_field rfl fld24_0 K rfl) ?_; clear K; intro a K
  refine R_rd 1 [2,3,4,5,6,7,8,9,10] (by kernel_rfl) rfl K (want_no rfl) rfl rfl (rd_ldC rfl sc3 K rfl (inM 1 rfl) rfl) ?_; clear K; intro a K
  refine R_rd 2 [3,4,5,6,7,8,9,10] (by kernel_rfl) rfl K (want_no rfl) rfl rfl (rd_field rfl fld24_1 K rfl) ?_; clear K; intro a K
  refine R_rd 3 [4,5,6,7,8,9,10] (by kernel_rfl) rfl K (want_no rfl) rfl rfl (rd_ldC rfl sc3 K rfl (inM 1 rfl) rfl) ?_; clear K; intro a K
  refine R_rd 4 [5,6,7,8,9,10] (by kernel_rfl) rfl K (want_no rfl) rfl rfl (rd_field rfl fld24_2 K rfl) ?_; clear K; intro a K
  refine R_rd 5 [6,7,8,9,10] (by kernel_rfl) rfl K (want_no rfl) rfl rfl (rd_ldC rfl sc22 K rfl (inM 1 rfl) rfl) ?_; clear K; intro a K
  obtain ⟨x2, hx, h⟩ := olet h
  refine R_rd 6 [7,8,9,10] (by kernel_rfl) rfl K (want_no rfl) rfl rfl (rdi hx (rd_len rfl un22 K rfl)) ?_; clear K; intro a K
  refine R_br [7,9] (by kernel_rfl) ⟨?_, ?_, trivial⟩
  ·
    obtain ⟨l2, h_l2, h⟩ := obind h
    refine R_ac [8,9,10] (by kernel_rfl) rfl K (want_no rfl) rfl rfl (ac_make (C := (cI .i64)) (z := 0) rfl sl22 rfl z3 rfl K rfl rfl M h_l2) ?_
    have M0 := M; clear K M; rintro _ a w ⟨A, c, rfl, M⟩ K
    clear M0
    refine ⟨fun _ => M.pick [1,2] (by decide), ?_⟩
    refine R_rd 8 [9,10] (by kernel_rfl) rfl K (want_no rfl) rfl rfl (rd_build rfl K (vs := [(0, .int .i64 p_W), (1, .int .i64 p_H), (2, .slice A l2.length c)]) (cs := [.int .i64 p_W, .int .i64 p_H, .slice A l2.length c]) rfl (by kernel_rfl)) ?_; clear K; intro a K
    refine R_br [9] (by kernel_rfl) ⟨?_, trivial⟩
    refine R_ac [10] (by kernel_rfl) rfl K (want_no rfl) rfl rfl (ac_alloc rfl z24 M) ?_
    have M0 := M; clear K M; rintro _ a w ⟨g_out, rfl, M⟩ K
    clear M0
    refine ⟨fun _ => M.pick [2,3] (by decide), ?_⟩
    refine R_br [10] (by kernel_rfl) ⟨?_, trivial⟩
    refine R_a0 [] (by kernel_rfl) rfl K (want_no rfl) rfl (ac_storeA rfl ty24 K rfl (ds := [.int .i64 p_W, .int .i64 p_H, .slice A l2.length c]) rfl rfl 0 M rfl rfl rfl) ?_
    have M0 := M; clear K M; rintro _ a w M K
    clear M0
    refine ⟨fun h => absurd h (by decide), ?_⟩
    refine R_end ?_
    refine then_n ?_
    refine wp_seq ?_
    refine wp_seq ?_
    refine X_reg ?_
    refine X_rd K (want_no rfl) rfl rfl (rd_field rfl fld24_2 K rfl) M ?_; clear K; intro a K
    refine X_rd K (want_no rfl) rfl rfl (rd_ldC rfl sc22 K rfl (inM 3 rfl) rfl) M ?_; clear K; intro a K
    refine X_rd K (want_no rfl) rfl rfl (rd_len rfl un22 K rfl) M ?_; clear K; intro a K
    refine X_rd K (want_no rfl) rfl rfl (rd_move rfl K rfl) M ?_; clear K; intro a K
    refine wpList_nil ?_
    refine then_n ?_
    refine wp_block ?_
    refine X_lp (id := 0) (Rel := fun (⟨out_P, i⟩ : List Int × Int) a w => ∃ (A2 : Option Addr) (c2 : Nat), Kn a 43 [(1, .func (.func 66) #[] #[.pointer (some ⟨g_Gain_1_0, 0, none⟩), .pointer (some ⟨g_Gain_1_1, 0, none⟩)]), (2, .pointer (some ⟨g_p, 0, none⟩)), (4, .pointer (some ⟨g_x, 0, none⟩)), (5, .pointer (some ⟨g_out, 0, none⟩)), (18, .slice A_p_P p_P.length c_p_P), (19, .int .i64 (p_P.length : Int)), (20, .int .i64 i)] ∧ Mem w0.heap.size w0 w [.blk g_out 24 [.int .i64 p_W, .int .i64 p_H, .slice A2 out_P.length c2], .row 3 1 A2 out_P.length c2 ((cI .i64).all out_P), .blk g_x 24 [.int .i64 0, .int .i64 0, .slice none ([] : List Int).length 0], .blk g_p 24 [.int .i64 p_W, .int .i64 p_H, .slice A_p_P p_P.length c_p_P]]) h (fun _ _ => rfl) ⟨A, c, K.pick [1,2,4,5,18,19,20], M.pick [0,1,2,3] (by decide)⟩ ?_ ?_
    · clear K M h
      rintro ⟨out_P2, i2⟩ a w ⟨A3, c3, K, M⟩ h
      try dsimp only at h
      refine inb_e ?_
      refine then_n ?_
      refine wp_seq ?_
      refine X_reg ?_
      refine X_rd K (want_no rfl) rfl rfl (rd_ldA rfl ty24 K rfl (inM 0 rfl) rfl rfl) M ?_; clear K; intro a K
      refine X_a0 K (want_no rfl) rfl (ac_storeA rfl ty24 K rfl (ds := [.int .i64 p_W, .int .i64 p_H, .slice A3 out_P2.length c3]) rfl rfl 2 M rfl rfl rfl) ?_
      have M0 := M; clear K M; rintro _ a w M K
      clear M0
      refine wpList_nil ?_
      refine then_n ?_
      refine wp_ret ?_
      cases h
      exact ret1 K rfl (res_cellA K rfl ty24 (M.blkAt (i := 2) rfl) rfl) ⟨_, rfl, _, _, rfl, ((M).pick [1] (by decide))⟩
    · clear K M h
      rintro kk fuel ⟨out_P, i⟩ a w hk1 ⟨A2, c2, K, M⟩ h
      unfold D_sensor_each__sensor_Gain_1_l1 at h
      refine wp_seq ?_
      refine X_reg ?_
      refine X_rd K (want_no rfl) rfl rfl (rd_lss rfl K rfl rfl) M ?_; clear K; intro a K
      refine wpList_nil ?_
      refine then_n ?_
      refine wp_seq ?_
      refine X_cond K rfl (fun hb => ?_) (fun hb => ?_)
      · have h := ctrue hb h
        refine wp_skip ?_
        refine then_n ?_
        refine wp_seq ?_
        refine wp_block ?_
        refine wp_seq ?_
        refine X_reg ?_
        refine X_rd K (want_no rfl) rfl rfl (rd_move rfl K rfl) M ?_; clear K; intro a K
        obtain ⟨e3, h_e3, h⟩ := obind h
        refine X_rd K (want_no rfl) rfl rfl (rd_ix rfl sl22 K rfl rfl (inA R_p_P) h_e3) M ?_; clear K; intro a K
        refine X_rd K (want_no rfl) rfl rfl (rd_elC rfl sc3 K rfl rfl (inA R_p_P) h_e3 rfl) M ?_; clear K; intro a K
        refine X_rd K (want_no rfl) rfl rfl (rd_assign rfl K rfl) M ?_; clear K; intro a K
        refine X_rd K (want_no rfl) rfl rfl (rd_assign rfl K rfl) M ?_; clear K; intro a K
        refine wpList_nil ?_
        refine then_n ?_
        refine wp_region_tl (fun w => Mem _ _ w _) [0,0,0,0,0,0,0,0,0,0,0,0,0,1,0,0,2] (by kernel_rfl) (by kernel_rfl) M.drew ?_
        replace M := M.drew
        refine T_rd K (want_no rfl) rfl rfl (rd_field rfl fld24_2 K rfl) ?_; clear K; intro a K
        refine T_rd K (want_no rfl) rfl rfl (rd_ldC rfl sc22 K rfl (inM 0 rfl) rfl) ?_; clear K; intro a K
        refine T_rd K (want_no rfl) rfl rfl (rd_move rfl K rfl) ?_; clear K; intro a K
        refine T_rd K (want_no rfl) rfl rfl (rd_move rfl K rfl) ?_; clear K; intro a K
        refine T_rd K (want_no rfl) rfl rfl (rd_move rfl K rfl) ?_; clear K; intro a K
        refine T_rd K (want_no rfl) rfl rfl (rd_move rfl K rfl) ?_; clear K; intro a K
        refine T_rd K (want_no rfl) rfl rfl (rd_field rfl fld24_0 K rfl) ?_; clear K; intro a K
        refine T_rd K (want_no rfl) rfl rfl (rd_ldC rfl sc3 K rfl (inM 3 rfl) rfl) ?_; clear K; intro a K
        obtain ⟨_, h0, h⟩ := obind h
        have h0 := nz_spec h0
        refine T_rd K (want_no rfl) rfl rfl (rd_rem rfl K rfl rfl h0) ?_; clear K; intro a K
        refine T_rd K (want_no rfl) rfl rfl (rd_move rfl K rfl) ?_; clear K; intro a K
        refine T_rd K (want_no rfl) rfl rfl (rd_field rfl fld24_0 K rfl) ?_; clear K; intro a K
        refine T_rd K (want_no rfl) rfl rfl (rd_ldC rfl sc3 K rfl (inM 3 rfl) rfl) ?_; clear K; intro a K
        obtain ⟨_, h0, h⟩ := obind h
        have h0 := nz_spec h0
        refine T_rd K (want_no rfl) rfl rfl (rd_quo rfl K rfl rfl h0) ?_; clear K; intro a K
        obtain ⟨r3, h_r3, h⟩ := obind h
        refine T_ac K (want_no rfl) rfl rfl (ac_call (vs := [.int .i64 e3, .int .i64 (Int.tmod i p_W), .int .i64 (IntKind.i64.wrap (Int.tdiv i p_W))]) (cap := [.pointer (some ⟨g_Gain_1_0, 0, none⟩), .pointer (some ⟨g_Gain_1_1, 0, none⟩)]) rfl fok66 K rfl rfl (W_sensor_Gain_1 N e3 (Int.tmod i p_W) (IntKind.i64.wrap (Int.tdiv i p_W)) Gain_1_00 Gain_1_01 Gain_1_02 Gain_1_1 g_Gain_1_0 g_Gain_1_1 _ (inO B_g_Gain_1_0 _ M) (inO B_g_Gain_1_1 _ M) r3 h_r3)) ?_
        have M0 := M; clear K M; rintro _ a w ⟨rfl, M⟩ K
        have M := M0.call M
        clear M0
        refine ⟨M.pick [0,1,2,3] (by decide), ?_⟩
        refine T_rd K (want_no rfl) rfl rfl (rd_min rfl K rfl rfl) ?_; clear K; intro a K
        obtain ⟨e4, h_e4, h⟩ := obind h
        refine T_rd K (want_no rfl) rfl rfl (rd_ix rfl sl22 K rfl rfl (inR (C := (cI .i64)) 1 rfl rfl) h_e4) ?_; clear K; intro a K
        obtain ⟨l4, h_l4, h⟩ := obind h
        refine T_a0z K (want_no rfl) rfl (ac_rowset (el := min r3 65535) rfl sz3 rfl rfl K rfl rfl rfl 1 M rfl h_l4) ?_
        have M0 := M; clear K M; rintro _ a w M K
        have hl := setL_len h_l4
        try rw [hl] at M
        clear hl
        clear M0
        refine T_end ?_
        refine inb_n ?_
        refine then_n ?_
        refine X_reg ?_
        refine X_rd K (want_no rfl) rfl rfl (rd_add rfl K rfl rfl) M ?_; clear K; intro a K
        refine X_rd K (want_no rfl) rfl rfl (rd_move rfl K rfl) M ?_; clear K; intro a K
        refine wpList_nil ?_
        exact then_n ⟨(l4, IntKind.i64.wrap (i + 1)), ⟨A2, c2, K.pick [1,2,4,5,18,19,20], M.pick [0,1,2,3] (by decide)⟩, h⟩
      · have h := cfalse hb h
        refine wp_exit ?_
        refine then_e ?_
        exact then_e (hk1 (out_P, i) _ _ ⟨A2, c2, K.pick [1,2,4,5,18,19,20], M.pick [0,1,2,3] (by decide)⟩ h)
  ·
    refine R_ac [7,8,10] (by kernel_rfl) rfl K (want_no rfl) rfl rfl (ac_alloc rfl z24 M) ?_
    have M0 := M; clear K M; rintro _ a w ⟨g_out2, rfl, M⟩ K
    clear M0
    refine ⟨fun _ => M.pick [1,2] (by decide), ?_⟩
    refine R_br [7] (by kernel_rfl) ⟨?_, trivial⟩
    obtain ⟨l5, h_l5, h⟩ := obind h
    refine R_ac [8,10] (by kernel_rfl) rfl K (want_no rfl) rfl rfl (ac_make (C := (cI .i64)) (z := 0) rfl sl22 rfl z3 rfl K rfl rfl M h_l5) ?_
    have M0 := M; clear K M; rintro _ a w ⟨A4, c4, rfl, M⟩ K
    clear M0
    refine ⟨fun _ => M.pick [2,3] (by decide), ?_⟩
    refine R_rd 8 [10] (by kernel_rfl) rfl K (want_no rfl) rfl rfl (rd_build rfl K (vs := [(0, .int .i64 p_W), (1, .int .i64 p_H), (2, .slice A4 l5.length c4)]) (cs := [.int .i64 p_W, .int .i64 p_H, .slice A4 l5.length c4]) rfl (by kernel_rfl)) ?_; clear K; intro a K
    refine R_br [10] (by kernel_rfl) ⟨?_, trivial⟩
    refine R_a0 [] (by kernel_rfl) rfl K (want_no rfl) rfl (ac_storeA rfl ty24 K rfl (ds := [.int .i64 p_W, .int .i64 p_H, .slice A4 l5.length c4]) rfl rfl 1 M rfl rfl rfl) ?_
    have M0 := M; clear K M; rintro _ a w M K
    clear M0
    refine ⟨fun h => absurd h (by decide), ?_⟩
    refine R_end ?_
    refine then_n ?_
    refine wp_seq ?_
    refine wp_seq ?_
    refine X_reg ?_
    refine X_rd K (want_no rfl) rfl rfl (rd_field rfl fld24_2 K rfl) M ?_; clear K; intro a K
    refine X_rd K (want_no rfl) rfl rfl (rd_ldC rfl sc22 K rfl (inM 3 rfl) rfl) M ?_; clear K; intro a K
    refine X_rd K (want_no rfl) rfl rfl (rd_len rfl un22 K rfl) M ?_; clear K; intro a K
    refine X_rd K (want_no rfl) rfl rfl (rd_move rfl K rfl) M ?_; clear K; intro a K
    refine wpList_nil ?_
    refine then_n ?_
    refine wp_block ?_
    refine X_lp (id := 0) (Rel := fun (⟨out_P3, i3⟩ : List Int × Int) a w => ∃ (A5 : Option Addr) (c5 : Nat), Kn a 43 [(1, .func (.func 66) #[] #[.pointer (some ⟨g_Gain_1_0, 0, none⟩), .pointer (some ⟨g_Gain_1_1, 0, none⟩)]), (2, .pointer (some ⟨g_p, 0, none⟩)), (4, .pointer (some ⟨g_x, 0, none⟩)), (5, .pointer (some ⟨g_out2, 0, none⟩)), (18, .slice A_p_P p_P.length c_p_P), (19, .int .i64 (p_P.length : Int)), (20, .int .i64 i3)] ∧ Mem w0.heap.size w0 w [.row 3 1 A5 out_P3.length c5 ((cI .i64).all out_P3), .blk g_out2 24 [.int .i64 p_W, .int .i64 p_H, .slice A5 out_P3.length c5], .blk g_x 24 [.int .i64 0, .int .i64 0, .slice none ([] : List Int).length 0], .blk g_p 24 [.int .i64 p_W, .int .i64 p_H, .slice A_p_P p_P.length c_p_P]]) h (fun _ _ => rfl) ⟨A4, c4, K.pick [1,2,4,5,18,19,20], M.pick [0,1,2,3] (by decide)⟩ ?_ ?_
    · clear K M h
      rintro ⟨out_P4, i4⟩ a w ⟨A6, c6, K, M⟩ h
      try dsimp only at h
      refine inb_e ?_
      refine then_n ?_
      refine wp_seq ?_
      refine X_reg ?_
      refine X_rd K (want_no rfl) rfl rfl (rd_ldA rfl ty24 K rfl (inM 1 rfl) rfl rfl) M ?_; clear K; intro a K
      refine X_a0 K (want_no rfl) rfl (ac_storeA rfl ty24 K rfl (ds := [.int .i64 p_W, .int .i64 p_H, .slice A6 out_P4.length c6]) rfl rfl 2 M rfl rfl rfl) ?_
      have M0 := M; clear K M; rintro _ a w M K
      clear M0
      refine wpList_nil ?_
      refine then_n ?_
      refine wp_ret ?_
      cases h
      exact ret1 K rfl (res_cellA K rfl ty24 (M.blkAt (i := 2) rfl) rfl) ⟨_, rfl, _, _, rfl, ((M).pick [0] (by decide))⟩
    · clear K M h
      rintro kk fuel ⟨out_P3, i3⟩ a w hk1 ⟨A5, c5, K, M⟩ h
      unfold D_sensor_each__sensor_Gain_1_l1 at h
      refine wp_seq ?_
      refine X_reg ?_
      refine X_rd K (want_no rfl) rfl rfl (rd_lss rfl K rfl rfl) M ?_; clear K; intro a K
      refine wpList_nil ?_
      refine then_n ?_
      refine wp_seq ?_
      refine X_cond K rfl (fun hb => ?_) (fun hb => ?_)
      · have h := ctrue hb h
        refine wp_skip ?_
        refine then_n ?_
        refine wp_seq ?_
        refine wp_block ?_
        refine wp_seq ?_
        refine X_reg ?_
        refine X_rd K (want_no rfl) rfl rfl (rd_move rfl K rfl) M ?_; clear K; intro a K
        obtain ⟨e7, h_e7, h⟩ := obind h
        refine X_rd K (want_no rfl) rfl rfl (rd_ix rfl sl22 K rfl rfl (inA R_p_P) h_e7) M ?_; clear K; intro a K
        refine X_rd K (want_no rfl) rfl rfl (rd_elC rfl sc3 K rfl rfl (inA R_p_P) h_e7 rfl) M ?_; clear K; intro a K
        refine X_rd K (want_no rfl) rfl rfl (rd_assign rfl K rfl) M ?_; clear K; intro a K
        refine X_rd K (want_no rfl) rfl rfl (rd_assign rfl K rfl) M ?_; clear K; intro a K
        refine wpList_nil ?_
        refine then_n ?_
        refine wp_region_tl (fun w => Mem _ _ w _) [0,0,0,0,0,0,0,0,0,0,0,0,0,1,0,0,2] (by kernel_rfl) (by kernel_rfl) M.drew ?_
        replace M := M.drew
        refine T_rd K (want_no rfl) rfl rfl (rd_field rfl fld24_2 K rfl) ?_; clear K; intro a K
        refine T_rd K (want_no rfl) rfl rfl (rd_ldC rfl sc22 K rfl (inM 1 rfl) rfl) ?_; clear K; intro a K
        refine T_rd K (want_no rfl) rfl rfl (rd_move rfl K rfl) ?_; clear K; intro a K
        refine T_rd K (want_no rfl) rfl rfl (rd_move rfl K rfl) ?_; clear K; intro a K
        refine T_rd K (want_no rfl) rfl rfl (rd_move rfl K rfl) ?_; clear K; intro a K
        refine T_rd K (want_no rfl) rfl rfl (rd_move rfl K rfl) ?_; clear K; intro a K
        refine T_rd K (want_no rfl) rfl rfl (rd_field rfl fld24_0 K rfl) ?_; clear K; intro a K
        refine T_rd K (want_no rfl) rfl rfl (rd_ldC rfl sc3 K rfl (inM 3 rfl) rfl) ?_; clear K; intro a K
        obtain ⟨_, h0, h⟩ := obind h
        have h0 := nz_spec h0
        refine T_rd K (want_no rfl) rfl rfl (rd_rem rfl K rfl rfl h0) ?_; clear K; intro a K
        refine T_rd K (want_no rfl) rfl rfl (rd_move rfl K rfl) ?_; clear K; intro a K
        refine T_rd K (want_no rfl) rfl rfl (rd_field rfl fld24_0 K rfl) ?_; clear K; intro a K
        refine T_rd K (want_no rfl) rfl rfl (rd_ldC rfl sc3 K rfl (inM 3 rfl) rfl) ?_; clear K; intro a K
        obtain ⟨_, h0, h⟩ := obind h
        have h0 := nz_spec h0
        refine T_rd K (want_no rfl) rfl rfl (rd_quo rfl K rfl rfl h0) ?_; clear K; intro a K
        obtain ⟨r5, h_r5, h⟩ := obind h
        refine T_ac K (want_no rfl) rfl rfl (ac_call (vs := [.int .i64 e7, .int .i64 (Int.tmod i3 p_W), .int .i64 (IntKind.i64.wrap (Int.tdiv i3 p_W))]) (cap := [.pointer (some ⟨g_Gain_1_0, 0, none⟩), .pointer (some ⟨g_Gain_1_1, 0, none⟩)]) rfl fok66 K rfl rfl (W_sensor_Gain_1 N e7 (Int.tmod i3 p_W) (IntKind.i64.wrap (Int.tdiv i3 p_W)) Gain_1_00 Gain_1_01 Gain_1_02 Gain_1_1 g_Gain_1_0 g_Gain_1_1 _ (inO B_g_Gain_1_0 _ M) (inO B_g_Gain_1_1 _ M) r5 h_r5)) ?_
        have M0 := M; clear K M; rintro _ a w ⟨rfl, M⟩ K
        have M := M0.call M
        clear M0
        refine ⟨M.pick [0,1,2,3] (by decide), ?_⟩
        refine T_rd K (want_no rfl) rfl rfl (rd_min rfl K rfl rfl) ?_; clear K; intro a K
        obtain ⟨e8, h_e8, h⟩ := obind h
        refine T_rd K (want_no rfl) rfl rfl (rd_ix rfl sl22 K rfl rfl (inR (C := (cI .i64)) 0 rfl rfl) h_e8) ?_; clear K; intro a K
        obtain ⟨l7, h_l7, h⟩ := obind h
        refine T_a0z K (want_no rfl) rfl (ac_rowset (el := min r5 65535) rfl sz3 rfl rfl K rfl rfl rfl 0 M rfl h_l7) ?_
        have M0 := M; clear K M; rintro _ a w M K
        have hl := setL_len h_l7
        try rw [hl] at M
        clear hl
        clear M0
        refine T_end ?_
        refine inb_n ?_
        refine then_n ?_
        refine X_reg ?_
        refine X_rd K (want_no rfl) rfl rfl (rd_add rfl K rfl rfl) M ?_; clear K; intro a K
        refine X_rd K (want_no rfl) rfl rfl (rd_move rfl K rfl) M ?_; clear K; intro a K
        refine wpList_nil ?_
        exact then_n ⟨(l7, IntKind.i64.wrap (i3 + 1)), ⟨A5, c5, K.pick [1,2,4,5,18,19,20], M.pick [0,1,2,3] (by decide)⟩, h⟩
      · have h := cfalse hb h
        refine wp_exit ?_
        refine then_e ?_
        exact then_e (hk1 (out_P3, i3) _ _ ⟨A5, c5, K.pick [1,2,4,5,18,19,20], M.pick [0,1,2,3] (by decide)⟩ h)

set_option maxRecDepth 100000 in
set_option maxHeartbeats 4000000 in
theorem W_sensor_Gain (N : Nat) (p_W : Int) (p_H : Int) (p_P : List Int) (A_p_P : Option Addr) (c_p_P : Nat) (phase : Int) (gains0 : Int) (gains1 : Int) (gains2 : Int) (w0 : World) (R_p_P : SL w0 (cI .i64) A_p_P p_P) (C_p_P : p_P.length ≤ c_p_P) (r : Int × Int × List Int × Int) (h : D_sensor_Gain N p_W p_H p_P phase gains0 gains1 gains2 = some r) :
    Calls Try.prog 22 #[.agg #[.int .i64 p_W, .int .i64 p_H, .slice A_p_P p_P.length c_p_P], .int .i64 phase, .agg #[.int .i64 gains0, .int .i64 gains1, .int .i64 gains2]] w0 fun e w' => ∃ v, e = .returned v ∧ ∃ A2 c2, v = .tuple #[.agg #[.int .i64 r.1, .int .i64 r.2.1, .slice A2 r.2.2.1.length c2], .int .i64 r.2.2.2] ∧ Mem w0.heap.size w0 w' [.row 3 1 A2 r.2.2.1.length c2 ((cI .i64).all r.2.2.1)] := by
  refine X_enter Try.func22 rfl Try.ntmps22 rfl ?_
  intro a K
  have M := Mem.start w0
  have K : Kn a 37 [(0, .agg #[.int .i64 p_W, .int .i64 p_H, .slice A_p_P p_P.length c_p_P]), (1, .int .i64 phase), (2, .agg #[.int .i64 gains0, .int .i64 gains1, .int .i64 gains2])] := K
  unfold D_sensor_Gain at h
  refine wp_seq ?_
  refine X_reg ?_
  refine X_ac K (want_no rfl) rfl rfl (ac_box rfl K rfl (cs := [.int .i64 p_W, .int .i64 p_H, .slice A_p_P p_P.length c_p_P]) rfl M) ?_
  have M0 := M; clear K M; rintro _ a w ⟨g_p, rfl, M⟩ K
  clear M0
  refine X_ac K (want_no rfl) rfl rfl (ac_box rfl K rfl (cs := [.int .i64 phase]) rfl M) ?_
  have M0 := M; clear K M; rintro _ a w ⟨g_phase, rfl, M⟩ K
  clear M0
  refine X_ac K (want_no rfl) rfl rfl (ac_box rfl K rfl (cs := [.int .i64 gains0, .int .i64 gains1, .int .i64 gains2]) rfl M) ?_
  have M0 := M; clear K M; rintro _ a w ⟨g_gains, rfl, M⟩ K
  clear M0
  refine X_ac K (want_no rfl) rfl rfl (ac_alloc rfl z24 M) ?_
  have M0 := M; clear K M; rintro _ a w ⟨g_x, rfl, M⟩ K
  clear M0
  refine X_rd K (want_no rfl) rfl rfl (rd_assign rfl K rfl) M ?_; clear K; intro a K
  refine wpList_nil ?_
  refine then_n ?_
  refine wp_seq ?_
  refine wp_seq ?_
  refine X_reg ?_
  refine X_rd K (want_no rfl) rfl rfl (rd_ldA rfl ty24 K rfl (inM 3 rfl) rfl rfl) M ?_; clear K; intro a K
  obtain ⟨r2, h_r2, h⟩ := obind h
  refine X_ac K (want_no rfl) rfl rfl (ac_call (vs := [.agg #[.int .i64 p_W, .int .i64 p_H, .slice A_p_P p_P.length c_p_P]]) (cap := []) rfl fok54 K rfl rfl (W_sensor_fine N p_W p_H p_P A_p_P c_p_P _ ((inA R_p_P) _ M) C_p_P r2 h_r2)) ?_
  have M0 := M; clear K M; rintro _ a w ⟨rfl, M⟩ K
  have M := M0.call M
  clear M0
  refine X_rd K (want_no rfl) rfl rfl (rd_not rfl K rfl) M ?_; clear K; intro a K
  refine wpList_nil ?_
  refine then_n ?_
  refine X_cond K rfl (fun hb => ?_) (fun hb => ?_)
  · have h := ctrue hb h
    refine wp_seq ?_
    refine X_reg ?_
    refine X_rd K (want_no rfl) rfl rfl (rd_build rfl K (vs := []) (cs := [.int .i64 0, .int .i64 0, .slice none ([] : List Int).length 0]) rfl (by kernel_rfl)) M ?_; clear K; intro a K
    refine X_a0 K (want_no rfl) rfl (ac_storeA rfl ty24 K rfl (ds := [.int .i64 0, .int .i64 0, .slice none ([] : List Int).length 0]) rfl rfl 0 M rfl rfl rfl) ?_
    have M0 := M; clear K M; rintro _ a w M K
    clear M0
    refine X_rd K (want_no rfl) rfl rfl (rd_assign rfl K rfl) M ?_; clear K; intro a K
    refine wpList_nil ?_
    refine then_n ?_
    refine wp_ret ?_
    refine then_r ?_
    cases h
    exact ret2 K rfl (res_cellA K rfl ty24 (M.blkAt (i := 0) rfl) rfl) (res_tmp K rfl) ⟨_, rfl, _, _, rfl, (((Mem.nilrow 3 1 (cI .i64) M)).pick [0] (by decide))⟩
  · have h := cfalse hb h
    refine wp_skip ?_
    refine then_n ?_
    refine wp_seq ?_
    refine wp_seq ?_
    refine X_reg ?_
    refine X_rd K (want_no rfl) rfl rfl (rd_ldA rfl ty39 K rfl (inM 1 rfl) rfl rfl) M ?_; clear K; intro a K
    refine X_rd K (want_no rfl) rfl rfl (rd_move rfl K rfl) M ?_; clear K; intro a K
    refine wpList_nil ?_
    refine then_n ?_
    refine wp_block ?_
    refine X_lp (id := 0) (Rel := fun (i : Int) a w => Kn a 37 [(3, .pointer (some ⟨g_p, 0, none⟩)), (4, .pointer (some ⟨g_phase, 0, none⟩)), (5, .pointer (some ⟨g_gains, 0, none⟩)), (6, .pointer (some ⟨g_x, 0, none⟩)), (14, .agg #[.int .i64 gains0, .int .i64 gains1, .int .i64 gains2]), (15, .int .i64 i)] ∧ Mem w0.heap.size w0 w [.blk g_x 24 [.int .i64 0, .int .i64 0, .slice none ([] : List Int).length 0], .blk g_gains 39 [.int .i64 gains0, .int .i64 gains1, .int .i64 gains2], .blk g_phase 3 [.int .i64 phase], .blk g_p 24 [.int .i64 p_W, .int .i64 p_H, .slice A_p_P p_P.length c_p_P]]) h (fun _ _ => rfl) ⟨K.pick [3,4,5,6,14,15], M.pick [0,1,2,3] (by decide)⟩ ?_ ?_
    · clear K M h
      rintro i2 a w ⟨K, M⟩ h
      try dsimp only at h
      refine inb_e ?_
      refine then_n ?_
      refine wp_seq ?_
      refine X_reg ?_
      refine X_rd K (want_no rfl) rfl rfl (rd_ldA rfl ty24 K rfl (inM 3 rfl) rfl rfl) M ?_; clear K; intro a K
      refine X_rd K (want_no rfl) rfl rfl (rd_func rfl K (vs := [.pointer (some ⟨g_gains, 0, none⟩), .pointer (some ⟨g_phase, 0, none⟩)]) rfl) M ?_; clear K; intro a K
      obtain ⟨r3, h_r3, h⟩ := obind h
      refine X_ac K (want_no rfl) rfl rfl (ac_call (vs := [.agg #[.int .i64 p_W, .int .i64 p_H, .slice A_p_P p_P.length c_p_P], .func (.func 66) #[] #[.pointer (some ⟨g_gains, 0, none⟩), .pointer (some ⟨g_phase, 0, none⟩)]]) (cap := []) rfl fok55 K rfl rfl (W_sensor_each__sensor_Gain_1 N p_W p_H p_P A_p_P c_p_P gains0 gains1 gains2 phase g_gains g_phase _ ((inA R_p_P) _ M) C_p_P (M.blkAt (i := 1) rfl) (M.blkAt (i := 2) rfl) r3 h_r3)) ?_
      have M0 := M; clear K M; rintro _ a w ⟨A, c, rfl, M⟩ K
      have M := M0.call M
      clear M0
      refine X_a0 K (want_no rfl) rfl (ac_storeA rfl ty24 K rfl (ds := [.int .i64 r3.1, .int .i64 r3.2.1, .slice A r3.2.2.length c]) rfl rfl 1 M rfl rfl rfl) ?_
      have M0 := M; clear K M; rintro _ a w M K
      clear M0
      refine X_rd K (want_no rfl) rfl rfl (rd_assign rfl K rfl) M ?_; clear K; intro a K
      refine wpList_nil ?_
      refine then_n ?_
      refine wp_ret ?_
      cases h
      exact ret2 K rfl (res_cellA K rfl ty24 (M.blkAt (i := 1) rfl) rfl) (res_tmp K rfl) ⟨_, rfl, _, _, rfl, ((M).pick [0] (by decide))⟩
    · clear K M h
      rintro kk fuel i a w hk1 ⟨K, M⟩ h
      unfold D_sensor_Gain_l1 at h
      refine wp_seq ?_
      refine X_reg ?_
      refine X_rd K (want_no rfl) rfl rfl (rd_lss rfl K rfl rfl) M ?_; clear K; intro a K
      refine wpList_nil ?_
      refine then_n ?_
      refine wp_seq ?_
      refine X_cond K rfl (fun hb => ?_) (fun hb => ?_)
      · have h := ctrue hb h
        refine wp_skip ?_
        refine then_n ?_
        refine wp_seq ?_
        refine wp_block ?_
        refine wp_seq ?_
        refine X_reg ?_
        obtain ⟨e2, h_e2, h⟩ := obind h
        refine X_rd K (want_no rfl) rfl rfl (rd_ixV (C := (cI .i64)) (es := [gains0, gains1, gains2]) rfl ar39 sc3 K rfl rfl rfl h_e2 rfl) M ?_; clear K; intro a K
        refine X_rd K (want_no rfl) rfl rfl (rd_assign rfl K rfl) M ?_; clear K; intro a K
        refine wpList_nil ?_
        refine then_n ?_
        refine wp_seq ?_
        refine X_reg ?_
        refine X_rd K (want_no rfl) rfl rfl (rd_move rfl K rfl) M ?_; clear K; intro a K
        refine X_rd K (want_no rfl) rfl rfl (rd_lss rfl K rfl rfl) M ?_; clear K; intro a K
        refine X_rd K (want_no rfl) rfl rfl (rd_move rfl K rfl) M ?_; clear K; intro a K
        rcases Bool.eq_false_or_eq_true (decide (e2 < 0)) with hb | hb
        · have h := ctrue hb h
          have K := K.reb (s := 20) rfl hb
          refine X_no K (K.no rfl rfl rfl rfl) rfl rfl ?_; clear K; intro a K
          refine X_no K (K.no rfl rfl rfl rfl) rfl rfl ?_; clear K; intro a K
          refine X_rd K (want_no rfl) rfl rfl (rd_pickT rfl K rfl rfl) M ?_; clear K; intro a K
          refine X_rd K (want_no rfl) rfl rfl (rd_move rfl K rfl) M ?_; clear K; intro a K
          refine X_no K (K.no rfl rfl rfl rfl) rfl rfl ?_; clear K; intro a K
          refine X_no K (K.no rfl rfl rfl rfl) rfl rfl ?_; clear K; intro a K
          refine X_rd K (want_no rfl) rfl rfl (rd_pickT rfl K rfl rfl) M ?_; clear K; intro a K
          refine X_rd K (want_no rfl) rfl rfl (rd_move rfl K rfl) M ?_; clear K; intro a K
          refine X_no K (K.no rfl rfl rfl rfl) rfl rfl ?_; clear K; intro a K
          refine X_no K (K.no rfl rfl rfl rfl) rfl rfl ?_; clear K; intro a K
          refine X_rd K (want_no rfl) rfl rfl (rd_pickT rfl K rfl rfl) M ?_; clear K; intro a K
          refine wpList_nil ?_
          refine then_n ?_
          refine X_condT K rfl ?_
          refine wp_seq ?_
          refine X_reg ?_
          refine X_rd K (want_no rfl) rfl rfl (rd_build rfl K (vs := []) (cs := [.int .i64 0, .int .i64 0, .slice none ([] : List Int).length 0]) rfl (by kernel_rfl)) M ?_; clear K; intro a K
          refine X_a0 K (want_no rfl) rfl (ac_storeA rfl ty24 K rfl (ds := [.int .i64 0, .int .i64 0, .slice none ([] : List Int).length 0]) rfl rfl 0 M rfl rfl rfl) ?_
          have M0 := M; clear K M; rintro _ a w M K
          clear M0
          refine X_rd K (want_no rfl) rfl rfl (rd_assign rfl K rfl) M ?_; clear K; intro a K
          refine wpList_nil ?_
          refine then_n ?_
          refine wp_ret ?_
          refine inb_r ?_
          refine then_r ?_
          refine then_r ?_
          refine inb_r ?_
          refine then_r ?_
          cases h
          exact ret2 K rfl (res_cellA K rfl ty24 (M.blkAt (i := 0) rfl) rfl) (res_tmp K rfl) ⟨_, rfl, _, _, rfl, (((Mem.nilrow 3 1 (cI .i64) M)).pick [0] (by decide))⟩
        · have h := cfalse hb h
          have K := K.reb (s := 20) rfl hb
          refine X_rd K (K.yes rfl rfl rfl) rfl rfl (rd_move rfl K rfl) M ?_; clear K; intro a K
          refine X_rd K (K.yes rfl rfl rfl) rfl rfl (rd_gtr rfl K rfl rfl) M ?_; clear K; intro a K
          refine X_rd K (want_no rfl) rfl rfl (rd_pickF rfl K rfl rfl) M ?_; clear K; intro a K
          refine X_rd K (want_no rfl) rfl rfl (rd_move rfl K rfl) M ?_; clear K; intro a K
          rcases Bool.eq_false_or_eq_true (decide (65535 < e2)) with hb | hb
          · have h := ctrue hb h
            have K := K.reb (s := 24) rfl hb
            refine X_no K (K.no rfl rfl rfl rfl) rfl rfl ?_; clear K; intro a K
            refine X_no K (K.no rfl rfl rfl rfl) rfl rfl ?_; clear K; intro a K
            refine X_rd K (want_no rfl) rfl rfl (rd_pickT rfl K rfl rfl) M ?_; clear K; intro a K
            refine X_rd K (want_no rfl) rfl rfl (rd_move rfl K rfl) M ?_; clear K; intro a K
            refine X_no K (K.no rfl rfl rfl rfl) rfl rfl ?_; clear K; intro a K
            refine X_no K (K.no rfl rfl rfl rfl) rfl rfl ?_; clear K; intro a K
            refine X_rd K (want_no rfl) rfl rfl (rd_pickT rfl K rfl rfl) M ?_; clear K; intro a K
            refine wpList_nil ?_
            refine then_n ?_
            refine X_condT K rfl ?_
            refine wp_seq ?_
            refine X_reg ?_
            refine X_rd K (want_no rfl) rfl rfl (rd_build rfl K (vs := []) (cs := [.int .i64 0, .int .i64 0, .slice none ([] : List Int).length 0]) rfl (by kernel_rfl)) M ?_; clear K; intro a K
            refine X_a0 K (want_no rfl) rfl (ac_storeA rfl ty24 K rfl (ds := [.int .i64 0, .int .i64 0, .slice none ([] : List Int).length 0]) rfl rfl 0 M rfl rfl rfl) ?_
            have M0 := M; clear K M; rintro _ a w M K
            clear M0
            refine X_rd K (want_no rfl) rfl rfl (rd_assign rfl K rfl) M ?_; clear K; intro a K
            refine wpList_nil ?_
            refine then_n ?_
            refine wp_ret ?_
            refine inb_r ?_
            refine then_r ?_
            refine then_r ?_
            refine inb_r ?_
            refine then_r ?_
            cases h
            exact ret2 K rfl (res_cellA K rfl ty24 (M.blkAt (i := 0) rfl) rfl) (res_tmp K rfl) ⟨_, rfl, _, _, rfl, (((Mem.nilrow 3 1 (cI .i64) M)).pick [0] (by decide))⟩
          · have h := cfalse hb h
            have K := K.reb (s := 24) rfl hb
            refine X_rd K (K.yes rfl rfl rfl) rfl rfl (rd_ldC rfl sc3 K rfl (inM 2 rfl) rfl) M ?_; clear K; intro a K
            refine X_rd K (K.yes rfl rfl rfl) rfl rfl (rd_lss rfl K rfl rfl) M ?_; clear K; intro a K
            refine X_rd K (want_no rfl) rfl rfl (rd_pickF rfl K rfl rfl) M ?_; clear K; intro a K
            refine X_rd K (want_no rfl) rfl rfl (rd_move rfl K rfl) M ?_; clear K; intro a K
            rcases Bool.eq_false_or_eq_true (decide (phase < 0)) with hb | hb
            · have h := ctrue hb h
              have K := K.reb (s := 28) rfl hb
              refine X_no K (K.no rfl rfl rfl rfl) rfl rfl ?_; clear K; intro a K
              refine X_no K (K.no rfl rfl rfl rfl) rfl rfl ?_; clear K; intro a K
              refine X_rd K (want_no rfl) rfl rfl (rd_pickT rfl K rfl rfl) M ?_; clear K; intro a K
              refine wpList_nil ?_
              refine then_n ?_
              refine X_condT K rfl ?_
              refine wp_seq ?_
              refine X_reg ?_
              refine X_rd K (want_no rfl) rfl rfl (rd_build rfl K (vs := []) (cs := [.int .i64 0, .int .i64 0, .slice none ([] : List Int).length 0]) rfl (by kernel_rfl)) M ?_; clear K; intro a K
              refine X_a0 K (want_no rfl) rfl (ac_storeA rfl ty24 K rfl (ds := [.int .i64 0, .int .i64 0, .slice none ([] : List Int).length 0]) rfl rfl 0 M rfl rfl rfl) ?_
              have M0 := M; clear K M; rintro _ a w M K
              clear M0
              refine X_rd K (want_no rfl) rfl rfl (rd_assign rfl K rfl) M ?_; clear K; intro a K
              refine wpList_nil ?_
              refine then_n ?_
              refine wp_ret ?_
              refine inb_r ?_
              refine then_r ?_
              refine then_r ?_
              refine inb_r ?_
              refine then_r ?_
              cases h
              exact ret2 K rfl (res_cellA K rfl ty24 (M.blkAt (i := 0) rfl) rfl) (res_tmp K rfl) ⟨_, rfl, _, _, rfl, (((Mem.nilrow 3 1 (cI .i64) M)).pick [0] (by decide))⟩
            · have h := cfalse hb h
              have K := K.reb (s := 28) rfl hb
              refine X_rd K (K.yes rfl rfl rfl) rfl rfl (rd_ldC rfl sc3 K rfl (inM 2 rfl) rfl) M ?_; clear K; intro a K
              refine X_rd K (K.yes rfl rfl rfl) rfl rfl (rd_gtr rfl K rfl rfl) M ?_; clear K; intro a K
              refine X_rd K (want_no rfl) rfl rfl (rd_pickF rfl K rfl rfl) M ?_; clear K; intro a K
              refine wpList_nil ?_
              refine then_n ?_
              refine X_cond K rfl (fun hb => ?_) (fun hb => ?_)
              · have h := ctrue hb h
                refine wp_seq ?_
                refine X_reg ?_
                refine X_rd K (want_no rfl) rfl rfl (rd_build rfl K (vs := []) (cs := [.int .i64 0, .int .i64 0, .slice none ([] : List Int).length 0]) rfl (by kernel_rfl)) M ?_; clear K; intro a K
                refine X_a0 K (want_no rfl) rfl (ac_storeA rfl ty24 K rfl (ds := [.int .i64 0, .int .i64 0, .slice none ([] : List Int).length 0]) rfl rfl 0 M rfl rfl rfl) ?_
                have M0 := M; clear K M; rintro _ a w M K
                clear M0
                refine X_rd K (want_no rfl) rfl rfl (rd_assign rfl K rfl) M ?_; clear K; intro a K
                refine wpList_nil ?_
                refine then_n ?_
                refine wp_ret ?_
                refine inb_r ?_
                refine then_r ?_
                refine then_r ?_
                refine inb_r ?_
                refine then_r ?_
                cases h
                exact ret2 K rfl (res_cellA K rfl ty24 (M.blkAt (i := 0) rfl) rfl) (res_tmp K rfl) ⟨_, rfl, _, _, rfl, (((Mem.nilrow 3 1 (cI .i64) M)).pick [0] (by decide))⟩
              · have h := cfalse hb h
                refine wp_skip ?_
                refine inb_n ?_
                refine then_n ?_
                refine X_reg ?_
                refine X_rd K (want_no rfl) rfl rfl (rd_add rfl K rfl rfl) M ?_; clear K; intro a K
                refine X_rd K (want_no rfl) rfl rfl (rd_move rfl K rfl) M ?_; clear K; intro a K
                refine wpList_nil ?_
                exact then_n ⟨(IntKind.i64.wrap (i + 1)), ⟨K.pick [3,4,5,6,14,15], M.pick [0,1,2,3] (by decide)⟩, h⟩
      · have h := cfalse hb h
        refine wp_exit ?_
        refine then_e ?_
        exact then_e (hk1 i _ _ ⟨K.pick [3,4,5,6,14,15], M.pick [0,1,2,3] (by decide)⟩ h)

set_option maxRecDepth 100000 in
set_option maxHeartbeats 4000000 in
theorem W_sensor_Colour (N : Nat) (phase : Int) (x2 : Int) (y : Int) (w0 : World)  (r : Int × Int) (h : D_sensor_Colour N phase x2 y = some r) :
    Calls Try.prog 25 #[.int .i64 phase, .int .i64 x2, .int .i64 y] w0 fun e w' => ∃ v, e = .returned v ∧ v = .tuple #[.int .i64 r.1, .int .i64 r.2] ∧ Mem w0.heap.size w0 w' [] := by
  refine X_enter Try.func25 rfl Try.ntmps25 rfl ?_
  intro a K
  have M := Mem.start w0
  have K : Kn a 28 [(0, .int .i64 phase), (1, .int .i64 x2), (2, .int .i64 y)] := K
  unfold D_sensor_Colour at h
  refine wp_seq ?_
  refine X_reg ?_
  refine X_rd K (want_no rfl) rfl rfl (rd_assign rfl K rfl) M ?_; clear K; intro a K
  refine X_rd K (want_no rfl) rfl rfl (rd_assign rfl K rfl) M ?_; clear K; intro a K
  refine wpList_nil ?_
  refine then_n ?_
  refine wp_seq ?_
  refine wp_seq ?_
  refine X_reg ?_
  refine X_rd K (want_no rfl) rfl rfl (rd_move rfl K rfl) M ?_; clear K; intro a K
  refine X_rd K (want_no rfl) rfl rfl (rd_lss rfl K rfl rfl) M ?_; clear K; intro a K
  refine X_rd K (want_no rfl) rfl rfl (rd_move rfl K rfl) M ?_; clear K; intro a K
  rcases Bool.eq_false_or_eq_true (decide (phase < 0)) with hb | hb
  · have h := ctrue hb h
    have K := K.reb (s := 10) rfl hb
    refine X_no K (K.no rfl rfl rfl rfl) rfl rfl ?_; clear K; intro a K
    refine X_no K (K.no rfl rfl rfl rfl) rfl rfl ?_; clear K; intro a K
    refine X_rd K (want_no rfl) rfl rfl (rd_pickT rfl K rfl rfl) M ?_; clear K; intro a K
    refine X_rd K (want_no rfl) rfl rfl (rd_move rfl K rfl) M ?_; clear K; intro a K
    refine X_no K (K.no rfl rfl rfl rfl) rfl rfl ?_; clear K; intro a K
    refine X_no K (K.no rfl rfl rfl rfl) rfl rfl ?_; clear K; intro a K
    refine X_rd K (want_no rfl) rfl rfl (rd_pickT rfl K rfl rfl) M ?_; clear K; intro a K
    refine X_rd K (want_no rfl) rfl rfl (rd_move rfl K rfl) M ?_; clear K; intro a K
    refine X_no K (K.no rfl rfl rfl rfl) rfl rfl ?_; clear K; intro a K
    refine X_no K (K.no rfl rfl rfl rfl) rfl rfl ?_; clear K; intro a K
    refine X_rd K (want_no rfl) rfl rfl (rd_pickT rfl K rfl rfl) M ?_; clear K; intro a K
    refine wpList_nil ?_
    refine then_n ?_
    refine X_condT K rfl ?_
    refine wp_seq ?_
    refine X_reg ?_
    refine X_rd K (want_no rfl) rfl rfl (rd_assign rfl K rfl) M ?_; clear K; intro a K
    refine X_rd K (want_no rfl) rfl rfl (rd_assign rfl K rfl) M ?_; clear K; intro a K
    refine wpList_nil ?_
    refine then_n ?_
    refine wp_ret ?_
    refine then_r ?_
    cases h
    exact ret2 K rfl (res_tmp K rfl) (res_tmp K rfl) ⟨_, rfl, rfl, ((M).pick [] (by decide))⟩
  · have h := cfalse hb h
    have K := K.reb (s := 10) rfl hb
    refine X_rd K (K.yes rfl rfl rfl) rfl rfl (rd_move rfl K rfl) M ?_; clear K; intro a K
    refine X_rd K (K.yes rfl rfl rfl) rfl rfl (rd_gtr rfl K rfl rfl) M ?_; clear K; intro a K
    refine X_rd K (want_no rfl) rfl rfl (rd_pickF rfl K rfl rfl) M ?_; clear K; intro a K
    refine X_rd K (want_no rfl) rfl rfl (rd_move rfl K rfl) M ?_; clear K; intro a K
    rcases Bool.eq_false_or_eq_true (decide (3 < phase)) with hb | hb
    · have h := ctrue hb h
      have K := K.reb (s := 14) rfl hb
      refine X_no K (K.no rfl rfl rfl rfl) rfl rfl ?_; clear K; intro a K
      refine X_no K (K.no rfl rfl rfl rfl) rfl rfl ?_; clear K; intro a K
      refine X_rd K (want_no rfl) rfl rfl (rd_pickT rfl K rfl rfl) M ?_; clear K; intro a K
      refine X_rd K (want_no rfl) rfl rfl (rd_move rfl K rfl) M ?_; clear K; intro a K
      refine X_no K (K.no rfl rfl rfl rfl) rfl rfl ?_; clear K; intro a K
      refine X_no K (K.no rfl rfl rfl rfl) rfl rfl ?_; clear K; intro a K
      refine X_rd K (want_no rfl) rfl rfl (rd_pickT rfl K rfl rfl) M ?_; clear K; intro a K
      refine wpList_nil ?_
      refine then_n ?_
      refine X_condT K rfl ?_
      refine wp_seq ?_
      refine X_reg ?_
      refine X_rd K (want_no rfl) rfl rfl (rd_assign rfl K rfl) M ?_; clear K; intro a K
      refine X_rd K (want_no rfl) rfl rfl (rd_assign rfl K rfl) M ?_; clear K; intro a K
      refine wpList_nil ?_
      refine then_n ?_
      refine wp_ret ?_
      refine then_r ?_
      cases h
      exact ret2 K rfl (res_tmp K rfl) (res_tmp K rfl) ⟨_, rfl, rfl, ((M).pick [] (by decide))⟩
    · have h := cfalse hb h
      have K := K.reb (s := 14) rfl hb
      refine X_rd K (K.yes rfl rfl rfl) rfl rfl (rd_move rfl K rfl) M ?_; clear K; intro a K
      refine X_rd K (K.yes rfl rfl rfl) rfl rfl (rd_lss rfl K rfl rfl) M ?_; clear K; intro a K
      refine X_rd K (want_no rfl) rfl rfl (rd_pickF rfl K rfl rfl) M ?_; clear K; intro a K
      refine X_rd K (want_no rfl) rfl rfl (rd_move rfl K rfl) M ?_; clear K; intro a K
      rcases Bool.eq_false_or_eq_true (decide (x2 < 0)) with hb | hb
      · have h := ctrue hb h
        have K := K.reb (s := 18) rfl hb
        refine X_no K (K.no rfl rfl rfl rfl) rfl rfl ?_; clear K; intro a K
        refine X_no K (K.no rfl rfl rfl rfl) rfl rfl ?_; clear K; intro a K
        refine X_rd K (want_no rfl) rfl rfl (rd_pickT rfl K rfl rfl) M ?_; clear K; intro a K
        refine wpList_nil ?_
        refine then_n ?_
        refine X_condT K rfl ?_
        refine wp_seq ?_
        refine X_reg ?_
        refine X_rd K (want_no rfl) rfl rfl (rd_assign rfl K rfl) M ?_; clear K; intro a K
        refine X_rd K (want_no rfl) rfl rfl (rd_assign rfl K rfl) M ?_; clear K; intro a K
        refine wpList_nil ?_
        refine then_n ?_
        refine wp_ret ?_
        refine then_r ?_
        cases h
        exact ret2 K rfl (res_tmp K rfl) (res_tmp K rfl) ⟨_, rfl, rfl, ((M).pick [] (by decide))⟩
      · have h := cfalse hb h
        have K := K.reb (s := 18) rfl hb
        refine X_rd K (K.yes rfl rfl rfl) rfl rfl (rd_move rfl K rfl) M ?_; clear K; intro a K
        refine X_rd K (K.yes rfl rfl rfl) rfl rfl (rd_lss rfl K rfl rfl) M ?_; clear K; intro a K
        refine X_rd K (want_no rfl) rfl rfl (rd_pickF rfl K rfl rfl) M ?_; clear K; intro a K
        refine wpList_nil ?_
        refine then_n ?_
        refine X_cond K rfl (fun hb => ?_) (fun hb => ?_)
        · have h := ctrue hb h
          refine wp_seq ?_
          refine X_reg ?_
          refine X_rd K (want_no rfl) rfl rfl (rd_assign rfl K rfl) M ?_; clear K; intro a K
          refine X_rd K (want_no rfl) rfl rfl (rd_assign rfl K rfl) M ?_; clear K; intro a K
          refine wpList_nil ?_
          refine then_n ?_
          refine wp_ret ?_
          refine then_r ?_
          cases h
          exact ret2 K rfl (res_tmp K rfl) (res_tmp K rfl) ⟨_, rfl, rfl, ((M).pick [] (by decide))⟩
        · have h := cfalse hb h
          refine wp_skip ?_
          refine then_n ?_
          refine wp_seq ?_
          refine X_reg ?_
          refine X_rd K (want_no rfl) rfl rfl (rd_move rfl K rfl) M ?_; clear K; intro a K
          refine X_rd K (want_no rfl) rfl rfl (rd_move rfl K rfl) M ?_; clear K; intro a K
          refine X_rd K (want_no rfl) rfl rfl (rd_and rfl K rfl rfl) M ?_; clear K; intro a K
          refine X_rd K (want_no rfl) rfl rfl (rd_move rfl K rfl) M ?_; clear K; intro a K
          refine X_rd K (want_no rfl) rfl rfl (rd_and rfl K rfl rfl) M ?_; clear K; intro a K
          obtain ⟨r2, h_r2, h⟩ := obind h
          refine X_ac K (want_no rfl) rfl rfl (ac_call (vs := [.int .i64 phase, .int .i64 (andI .i64 x2 1), .int .i64 (andI .i64 y 1)]) (cap := []) rfl fok67 K rfl rfl (W_sensor_colour N phase (andI .i64 x2 1) (andI .i64 y 1) _  r2 h_r2)) ?_
          have M0 := M; clear K M; rintro _ a w ⟨rfl, M⟩ K
          have M := M0.call M
          clear M0
          refine X_rd K (want_no rfl) rfl rfl (rd_assign rfl K rfl) M ?_; clear K; intro a K
          refine X_rd K (want_no rfl) rfl rfl (rd_assign rfl K rfl) M ?_; clear K; intro a K
          refine wpList_nil ?_
          refine then_n ?_
          refine wp_ret ?_
          cases h
          exact ret2 K rfl (res_tmp K rfl) (res_tmp K rfl) ⟨_, rfl, rfl, ((M).pick [] (by decide))⟩

end Go.Proofs.Ytpmnfhifmmfglaa
