/- Printed by a program (walk.py): the walks of darkslidelaw_turnBegun: each function computes what its plain program tells. -/
import Derived.Test.YtpmnfhifmmfglaaFacts
import Derived.Test.YtpmnfhifmmfglaaDD
import Derived.Test.YtpmnfhifmmfglaaWTurn
set_option linter.unusedVariables false
set_option linter.unusedSimpArgs false
set_option linter.unusedSectionVars false
namespace Go.Proofs.Ytpmnfhifmmfglaa
open Go.RowKit

set_option maxRecDepth 100000 in
set_option maxHeartbeats 4000000 in
theorem W_darkslidelaw_turnBegun (N : Nat)  (w0 : World)  (r : Bool) (h : D_darkslidelaw_turnBegun N  = some r) :
    Calls Try.prog 30 #[] w0 fun e w' => ∃ v, e = .returned v ∧ v = .bool r ∧ Mem w0.heap.size w0 w' [] := by
  refine X_enter Try.func30 rfl Try.ntmps30 rfl ?_
  intro a K
  have M := Mem.start w0
  have K : Kn a 93 [] := K
  unfold D_darkslidelaw_turnBegun at h
  refine wp_seq ?_
  refine X_reg ?_
  refine X_rd K (want_no rfl) rfl rfl (rd_assign rfl K rfl) M ?_; clear K; intro a K
  refine wpList_nil ?_
  refine then_n ?_
  refine wp_seq ?_
  refine X_reg ?_
  refine X_rd K (want_no rfl) rfl rfl (rd_build rfl K (vs := [(0, .int .i64 1)]) (cs := [.int .i64 1, .int .i64 0, .int .i64 0]) rfl (by kernel_rfl)) M ?_; clear K; intro a K
  refine X_rd K (want_no rfl) rfl rfl (rd_build rfl K (vs := [(0, .int .i64 2)]) (cs := [.int .i64 2, .int .i64 0, .int .i64 0]) rfl (by kernel_rfl)) M ?_; clear K; intro a K
  refine X_ac K (want_no rfl) rfl rfl (ac_bslice rfl sl47 z73 K (vs := [(0, .agg #[.int .i64 1, .int .i64 0, .int .i64 0]), (1, .agg #[.int .i64 2, .int .i64 0, .int .i64 0])]) (cs := [.int .i64 1, .int .i64 0, .int .i64 0, .int .i64 2, .int .i64 0, .int .i64 0]) rfl (by kernel_rfl) rfl rfl M) ?_
  have M0 := M; clear K M; rintro _ a w ⟨gs, rfl, M⟩ K
  replace M := M.asRow 0 rfl cIII ([(1, 0, 0), (2, 0, 0)] : List (Int × Int × Int)) (n := 2) rfl rfl rfl
  clear M0
  refine X_rd K (want_no rfl) rfl rfl (rd_build rfl K (vs := [(0, .int .i64 2), (1, .int .i64 1), (2, .slice (some ⟨gs, 0, none⟩) (([(1, 0, 0), (2, 0, 0)] : List (Int × Int × Int))).length 2)]) (cs := [.int .i64 2, .int .i64 1, .slice (some ⟨gs, 0, none⟩) (([(1, 0, 0), (2, 0, 0)] : List (Int × Int × Int))).length 2]) rfl (by kernel_rfl)) M ?_; clear K; intro a K
  refine X_ac K (want_no rfl) rfl rfl (ac_alloc rfl z49 M) ?_
  have M0 := M; clear K M; rintro _ a w ⟨g_o, rfl, M⟩ K
  clear M0
  refine X_a0 K (want_no rfl) rfl (ac_storeA rfl ty49 K rfl (ds := [.int .i64 2, .int .i64 1, .slice (some ⟨gs, 0, none⟩) (([(1, 0, 0), (2, 0, 0)] : List (Int × Int × Int))).length 2]) rfl rfl 0 M rfl rfl rfl) ?_
  have M0 := M; clear K M; rintro _ a w M K
  clear M0
  refine wpList_nil ?_
  refine then_n ?_
  refine wp_seq ?_
  refine X_reg ?_
  refine X_rd K (want_no rfl) rfl rfl (rd_ldA rfl ty49 K rfl (inM 0 rfl) rfl rfl) M ?_; clear K; intro a K
  obtain ⟨r2, h_r2, h⟩ := obind h
  refine X_ac K (want_no rfl) rfl rfl (ac_call (vs := [.agg #[.int .i64 2, .int .i64 1, .slice (some ⟨gs, 0, none⟩) (([(1, 0, 0), (2, 0, 0)] : List (Int × Int × Int))).length 2], .int .i64 6]) (cap := []) rfl fok32 K rfl rfl (W_turn_Turn N 2 1 (([(1, 0, 0), (2, 0, 0)] : List (Int × Int × Int))) (some ⟨gs, 0, none⟩) 2 6 _ ((inR (C := cIII) 1 rfl rfl) _ M) (M.cap 1 rfl) r2 h_r2)) ?_
  have M0 := M; clear K M; rintro _ a w ⟨A, c, rfl, M⟩ K
  have M := M0.call M
  clear M0
  refine X_rd K (want_no rfl) rfl rfl (rd_move rfl K rfl) M ?_; clear K; intro a K
  refine X_rd K (want_no rfl) rfl rfl (rd_extract rfl K rfl rfl) M ?_; clear K; intro a K
  refine X_rd K (want_no rfl) rfl rfl (rd_extract rfl K rfl rfl) M ?_; clear K; intro a K
  refine X_ac K (want_no rfl) rfl rfl (ac_alloc rfl z49 M) ?_
  have M0 := M; clear K M; rintro _ a w ⟨g_x, rfl, M⟩ K
  clear M0
  refine X_a0 K (want_no rfl) rfl (ac_storeA rfl ty49 K rfl (ds := [.int .i64 r2.1, .int .i64 r2.2.1, .slice A r2.2.2.1.length c]) rfl rfl 0 M rfl rfl rfl) ?_
  have M0 := M; clear K M; rintro _ a w M K
  clear M0
  refine X_rd K (want_no rfl) rfl rfl (rd_assign rfl K rfl) M ?_; clear K; intro a K
  refine wpList_nil ?_
  refine then_n ?_
  refine wp_seq ?_
  refine X_reg ?_
  refine X_rd K (want_no rfl) rfl rfl (rd_ldA rfl ty49 K rfl (inM 2 rfl) rfl rfl) M ?_; clear K; intro a K
  refine X_rd K (want_no rfl) rfl rfl (rd_build rfl K (vs := [(0, .int .i64 1), (2, .int .i64 1), (3, .int .i64 1)]) (cs := [.int .i64 1, .int .i64 0, .int .i64 1, .int .i64 1]) rfl (by kernel_rfl)) M ?_; clear K; intro a K
  obtain ⟨r3, h_r3, h⟩ := obind h
  refine X_ac K (want_no rfl) rfl rfl (ac_call (vs := [.agg #[.int .i64 2, .int .i64 1, .slice (some ⟨gs, 0, none⟩) (([(1, 0, 0), (2, 0, 0)] : List (Int × Int × Int))).length 2], .agg #[.int .i64 1, .int .i64 0, .int .i64 1, .int .i64 1]]) (cap := []) rfl fok27 K rfl rfl (W_turn_Cut N 2 1 (([(1, 0, 0), (2, 0, 0)] : List (Int × Int × Int))) (some ⟨gs, 0, none⟩) 2 1 0 1 1 _ ((inR (C := cIII) 3 rfl rfl) _ M) (M.cap 3 rfl) r3 h_r3)) ?_
  have M0 := M; clear K M; rintro _ a w ⟨A2, c2, rfl, M⟩ K
  have M := M0.call M
  clear M0
  refine X_rd K (want_no rfl) rfl rfl (rd_move rfl K rfl) M ?_; clear K; intro a K
  refine X_rd K (want_no rfl) rfl rfl (rd_extract rfl K rfl rfl) M ?_; clear K; intro a K
  refine X_rd K (want_no rfl) rfl rfl (rd_extract rfl K rfl rfl) M ?_; clear K; intro a K
  refine X_ac K (want_no rfl) rfl rfl (ac_alloc rfl z49 M) ?_
  have M0 := M; clear K M; rintro _ a w ⟨g_x2, rfl, M⟩ K
  clear M0
  refine X_a0 K (want_no rfl) rfl (ac_storeA rfl ty49 K rfl (ds := [.int .i64 r3.1, .int .i64 r3.2.1, .slice A2 r3.2.2.1.length c2]) rfl rfl 0 M rfl rfl rfl) ?_
  have M0 := M; clear K M; rintro _ a w M K
  clear M0
  refine X_rd K (want_no rfl) rfl rfl (rd_assign rfl K rfl) M ?_; clear K; intro a K
  refine wpList_nil ?_
  refine then_n ?_
  refine wp_seq ?_
  refine X_reg ?_
  obtain ⟨r4, h_r4, h⟩ := obind h
  refine X_ac K (want_no rfl) rfl rfl (ac_call (vs := [.int .i64 6]) (cap := []) rfl fok33 K rfl rfl (W_turn_Back N 6 _  r4 h_r4)) ?_
  have M0 := M; clear K M; rintro _ a w ⟨rfl, M⟩ K
  have M := M0.call M
  clear M0
  refine X_rd K (want_no rfl) rfl rfl (rd_move rfl K rfl) M ?_; clear K; intro a K
  refine X_rd K (want_no rfl) rfl rfl (rd_extract rfl K rfl rfl) M ?_; clear K; intro a K
  refine X_rd K (want_no rfl) rfl rfl (rd_extract rfl K rfl rfl) M ?_; clear K; intro a K
  refine X_rd K (want_no rfl) rfl rfl (rd_assign rfl K rfl) M ?_; clear K; intro a K
  refine X_rd K (want_no rfl) rfl rfl (rd_assign rfl K rfl) M ?_; clear K; intro a K
  refine wpList_nil ?_
  refine then_n ?_
  refine wp_seq ?_
  refine X_reg ?_
  obtain ⟨r5, h_r5, h⟩ := obind h
  refine X_ac K (want_no rfl) rfl rfl (ac_call (vs := [.int .i64 2, .int .i64 4]) (cap := []) rfl fok34 K rfl rfl (W_turn_Both N 2 4 _  r5 h_r5)) ?_
  have M0 := M; clear K M; rintro _ a w ⟨rfl, M⟩ K
  have M := M0.call M
  clear M0
  refine X_rd K (want_no rfl) rfl rfl (rd_move rfl K rfl) M ?_; clear K; intro a K
  refine X_rd K (want_no rfl) rfl rfl (rd_extract rfl K rfl rfl) M ?_; clear K; intro a K
  refine X_rd K (want_no rfl) rfl rfl (rd_extract rfl K rfl rfl) M ?_; clear K; intro a K
  refine X_rd K (want_no rfl) rfl rfl (rd_assign rfl K rfl) M ?_; clear K; intro a K
  refine X_rd K (want_no rfl) rfl rfl (rd_assign rfl K rfl) M ?_; clear K; intro a K
  refine wpList_nil ?_
  refine then_n ?_
  refine wp_seq ?_
  refine X_reg ?_
  refine X_rd K (want_no rfl) rfl rfl (rd_move rfl K rfl) M ?_; clear K; intro a K
  refine X_rd K (want_no rfl) rfl rfl (rd_eql rfl K rfl rfl) M ?_; clear K; intro a K
  refine X_rd K (want_no rfl) rfl rfl (rd_move rfl K rfl) M ?_; clear K; intro a K
  rcases Bool.eq_false_or_eq_true (decide (r2.2.2.2 = 0)) with hb | hb
  · have h := ctrue hb h
    have K := K.reb (s := 35) rfl hb
    refine X_rd K (K.yes rfl rfl rfl) rfl rfl (rd_move rfl K rfl) M ?_; clear K; intro a K
    refine X_rd K (K.yes rfl rfl rfl) rfl rfl (rd_eql rfl K rfl rfl) M ?_; clear K; intro a K
    refine X_rd K (want_no rfl) rfl rfl (rd_pickT rfl K rfl rfl) M ?_; clear K; intro a K
    refine X_rd K (want_no rfl) rfl rfl (rd_move rfl K rfl) M ?_; clear K; intro a K
    rcases Bool.eq_false_or_eq_true (decide (r3.2.2.2 = 0)) with hb | hb
    · have h := ctrue hb h
      have K := K.reb (s := 39) rfl hb
      refine X_rd K (K.yes rfl rfl rfl) rfl rfl (rd_move rfl K rfl) M ?_; clear K; intro a K
      refine X_rd K (K.yes rfl rfl rfl) rfl rfl (rd_eql rfl K rfl rfl) M ?_; clear K; intro a K
      refine X_rd K (want_no rfl) rfl rfl (rd_pickT rfl K rfl rfl) M ?_; clear K; intro a K
      refine X_rd K (want_no rfl) rfl rfl (rd_move rfl K rfl) M ?_; clear K; intro a K
      rcases Bool.eq_false_or_eq_true (decide (r4.2 = 0)) with hb | hb
      · have h := ctrue hb h
        have K := K.reb (s := 43) rfl hb
        refine X_rd K (K.yes rfl rfl rfl) rfl rfl (rd_move rfl K rfl) M ?_; clear K; intro a K
        refine X_rd K (K.yes rfl rfl rfl) rfl rfl (rd_eql rfl K rfl rfl) M ?_; clear K; intro a K
        refine X_rd K (want_no rfl) rfl rfl (rd_pickT rfl K rfl rfl) M ?_; clear K; intro a K
        refine X_rd K (want_no rfl) rfl rfl (rd_move rfl K rfl) M ?_; clear K; intro a K
        rcases Bool.eq_false_or_eq_true (decide (r5.2 = 0)) with hb | hb
        · have h := ctrue hb h
          have K := K.reb (s := 47) rfl hb
          refine X_rd K (K.yes rfl rfl rfl) rfl rfl (rd_field rfl fld49_0 K rfl) M ?_; clear K; intro a K
          refine X_rd K (K.yes rfl rfl rfl) rfl rfl (rd_ldC rfl sc3 K rfl (inM 2 rfl) rfl) M ?_; clear K; intro a K
          refine X_rd K (K.yes rfl rfl rfl) rfl rfl (rd_eql rfl K rfl rfl) M ?_; clear K; intro a K
          refine X_rd K (want_no rfl) rfl rfl (rd_pickT rfl K rfl rfl) M ?_; clear K; intro a K
          refine X_rd K (want_no rfl) rfl rfl (rd_move rfl K rfl) M ?_; clear K; intro a K
          rcases Bool.eq_false_or_eq_true (decide (r2.1 = 1)) with hb | hb
          · have h := ctrue hb h
            have K := K.reb (s := 52) rfl hb
            refine X_rd K (K.yes rfl rfl rfl) rfl rfl (rd_field rfl fld49_1 K rfl) M ?_; clear K; intro a K
            refine X_rd K (K.yes rfl rfl rfl) rfl rfl (rd_ldC rfl sc3 K rfl (inM 2 rfl) rfl) M ?_; clear K; intro a K
            refine X_rd K (K.yes rfl rfl rfl) rfl rfl (rd_eql rfl K rfl rfl) M ?_; clear K; intro a K
            refine X_rd K (want_no rfl) rfl rfl (rd_pickT rfl K rfl rfl) M ?_; clear K; intro a K
            refine X_rd K (want_no rfl) rfl rfl (rd_move rfl K rfl) M ?_; clear K; intro a K
            rcases Bool.eq_false_or_eq_true (decide (r2.2.1 = 2)) with hb | hb
            · have h := ctrue hb h
              have K := K.reb (s := 57) rfl hb
              refine X_rd K (K.yes rfl rfl rfl) rfl rfl (rd_field rfl fld49_2 K rfl) M ?_; clear K; intro a K
              refine X_rd K (K.yes rfl rfl rfl) rfl rfl (rd_ldC rfl sc47 K rfl (inM 2 rfl) rfl) M ?_; clear K; intro a K
              refine X_rd K (K.yes rfl rfl rfl) rfl rfl (rd_len rfl un47 K rfl) M ?_; clear K; intro a K
              refine X_rd K (K.yes rfl rfl rfl) rfl rfl (rd_eql rfl K rfl rfl) M ?_; clear K; intro a K
              refine X_rd K (want_no rfl) rfl rfl (rd_pickT rfl K rfl rfl) M ?_; clear K; intro a K
              refine X_rd K (want_no rfl) rfl rfl (rd_move rfl K rfl) M ?_; clear K; intro a K
              rcases Bool.eq_false_or_eq_true (decide ((r2.2.2.1.length : Int) = 2)) with hb | hb
              · have h := ctrue hb h
                have K := K.reb (s := 63) rfl hb
                refine X_rd K (K.yes rfl rfl rfl) rfl rfl (rd_field rfl fld49_2 K rfl) M ?_; clear K; intro a K
                refine X_rd K (K.yes rfl rfl rfl) rfl rfl (rd_ldC rfl sc47 K rfl (inM 2 rfl) rfl) M ?_; clear K; intro a K
                obtain ⟨e, h_e, h⟩ := obind h
                refine X_rd K (K.yes rfl rfl rfl) rfl rfl (rd_ix rfl sl47 K rfl rfl (inR (C := cIII) 3 rfl rfl) h_e) M ?_; clear K; intro a K
                refine X_rd K (K.yes rfl rfl rfl) rfl rfl (rd_field rfl fld73_0 K rfl) M ?_; clear K; intro a K
                refine X_rd K (K.yes rfl rfl rfl) rfl rfl (rd_elF rfl sc3 K rfl rfl (inR (C := cIII) 3 rfl rfl) h_e rfl) M ?_; clear K; intro a K
                refine X_rd K (K.yes rfl rfl rfl) rfl rfl (rd_eql rfl K rfl rfl) M ?_; clear K; intro a K
                refine X_rd K (want_no rfl) rfl rfl (rd_pickT rfl K rfl rfl) M ?_; clear K; intro a K
                refine X_rd K (want_no rfl) rfl rfl (rd_move rfl K rfl) M ?_; clear K; intro a K
                rcases Bool.eq_false_or_eq_true (decide (e.1 = 1)) with hb | hb
                · have h := ctrue hb h
                  have K := K.reb (s := 71) rfl hb
                  refine X_rd K (K.yes rfl rfl rfl) rfl rfl (rd_field rfl fld49_2 K rfl) M ?_; clear K; intro a K
                  refine X_rd K (K.yes rfl rfl rfl) rfl rfl (rd_ldC rfl sc47 K rfl (inM 0 rfl) rfl) M ?_; clear K; intro a K
                  refine X_rd K (K.yes rfl rfl rfl) rfl rfl (rd_len rfl un47 K rfl) M ?_; clear K; intro a K
                  refine X_rd K (K.yes rfl rfl rfl) rfl rfl (rd_eql rfl K rfl rfl) M ?_; clear K; intro a K
                  refine X_rd K (want_no rfl) rfl rfl (rd_pickT rfl K rfl rfl) M ?_; clear K; intro a K
                  refine X_rd K (want_no rfl) rfl rfl (rd_move rfl K rfl) M ?_; clear K; intro a K
                  rcases Bool.eq_false_or_eq_true (decide ((r3.2.2.1.length : Int) = 1)) with hb | hb
                  · have h := ctrue hb h
                    have K := K.reb (s := 77) rfl hb
                    refine X_rd K (K.yes rfl rfl rfl) rfl rfl (rd_field rfl fld49_2 K rfl) M ?_; clear K; intro a K
                    refine X_rd K (K.yes rfl rfl rfl) rfl rfl (rd_ldC rfl sc47 K rfl (inM 0 rfl) rfl) M ?_; clear K; intro a K
                    obtain ⟨e2, h_e2, h⟩ := obind h
                    refine X_rd K (K.yes rfl rfl rfl) rfl rfl (rd_ix rfl sl47 K rfl rfl (inR (C := cIII) 1 rfl rfl) h_e2) M ?_; clear K; intro a K
                    refine X_rd K (K.yes rfl rfl rfl) rfl rfl (rd_field rfl fld73_0 K rfl) M ?_; clear K; intro a K
                    refine X_rd K (K.yes rfl rfl rfl) rfl rfl (rd_elF rfl sc3 K rfl rfl (inR (C := cIII) 1 rfl rfl) h_e2 rfl) M ?_; clear K; intro a K
                    refine X_rd K (K.yes rfl rfl rfl) rfl rfl (rd_eql rfl K rfl rfl) M ?_; clear K; intro a K
                    refine X_rd K (want_no rfl) rfl rfl (rd_pickT rfl K rfl rfl) M ?_; clear K; intro a K
                    refine X_rd K (want_no rfl) rfl rfl (rd_move rfl K rfl) M ?_; clear K; intro a K
                    rcases Bool.eq_false_or_eq_true (decide (e2.1 = 2)) with hb | hb
                    · have h := ctrue hb h
                      have K := K.reb (s := 85) rfl hb
                      refine X_rd K (K.yes rfl rfl rfl) rfl rfl (rd_move rfl K rfl) M ?_; clear K; intro a K
                      refine X_rd K (K.yes rfl rfl rfl) rfl rfl (rd_eql rfl K rfl rfl) M ?_; clear K; intro a K
                      refine X_rd K (want_no rfl) rfl rfl (rd_pickT rfl K rfl rfl) M ?_; clear K; intro a K
                      refine X_rd K (want_no rfl) rfl rfl (rd_move rfl K rfl) M ?_; clear K; intro a K
                      rcases Bool.eq_false_or_eq_true (decide (r4.1 = 8)) with hb | hb
                      · have h := ctrue hb h
                        have K := K.reb (s := 89) rfl hb
                        refine X_rd K (K.yes rfl rfl rfl) rfl rfl (rd_move rfl K rfl) M ?_; clear K; intro a K
                        refine X_rd K (K.yes rfl rfl rfl) rfl rfl (rd_eql rfl K rfl rfl) M ?_; clear K; intro a K
                        refine X_rd K (want_no rfl) rfl rfl (rd_pickT rfl K rfl rfl) M ?_; clear K; intro a K
                        refine X_rd K (want_no rfl) rfl rfl (rd_assign rfl K rfl) M ?_; clear K; intro a K
                        refine wpList_nil ?_
                        refine then_n ?_
                        refine wp_ret ?_
                        cases h
                        exact ret1 K rfl (res_tmp K rfl) ⟨_, rfl, rfl, ((M).pick [] (by decide))⟩
                      · have h := cfalse hb h
                        have K := K.reb (s := 89) rfl hb
                        refine X_no K (K.no rfl rfl rfl rfl) rfl rfl ?_; clear K; intro a K
                        refine X_no K (K.no rfl rfl rfl rfl) rfl rfl ?_; clear K; intro a K
                        refine X_rd K (want_no rfl) rfl rfl (rd_pickF rfl K rfl rfl) M ?_; clear K; intro a K
                        refine X_rd K (want_no rfl) rfl rfl (rd_assign rfl K rfl) M ?_; clear K; intro a K
                        refine wpList_nil ?_
                        refine then_n ?_
                        refine wp_ret ?_
                        cases h
                        exact ret1 K rfl (res_tmp K rfl) ⟨_, rfl, rfl, ((M).pick [] (by decide))⟩
                    · have h := cfalse hb h
                      have K := K.reb (s := 85) rfl hb
                      refine X_no K (K.no rfl rfl rfl rfl) rfl rfl ?_; clear K; intro a K
                      refine X_no K (K.no rfl rfl rfl rfl) rfl rfl ?_; clear K; intro a K
                      refine X_rd K (want_no rfl) rfl rfl (rd_pickF rfl K rfl rfl) M ?_; clear K; intro a K
                      refine X_rd K (want_no rfl) rfl rfl (rd_move rfl K rfl) M ?_; clear K; intro a K
                      refine X_no K (K.no rfl rfl rfl rfl) rfl rfl ?_; clear K; intro a K
                      refine X_no K (K.no rfl rfl rfl rfl) rfl rfl ?_; clear K; intro a K
                      refine X_rd K (want_no rfl) rfl rfl (rd_pickF rfl K rfl rfl) M ?_; clear K; intro a K
                      refine X_rd K (want_no rfl) rfl rfl (rd_assign rfl K rfl) M ?_; clear K; intro a K
                      refine wpList_nil ?_
                      refine then_n ?_
                      refine wp_ret ?_
                      cases h
                      exact ret1 K rfl (res_tmp K rfl) ⟨_, rfl, rfl, ((M).pick [] (by decide))⟩
                  · have h := cfalse hb h
                    have K := K.reb (s := 77) rfl hb
                    refine X_no K (K.no rfl rfl rfl rfl) rfl rfl ?_; clear K; intro a K
                    refine X_no K (K.no rfl rfl rfl rfl) rfl rfl ?_; clear K; intro a K
                    refine X_no K (K.no rfl rfl rfl rfl) rfl rfl ?_; clear K; intro a K
                    refine X_no K (K.no rfl rfl rfl rfl) rfl rfl ?_; clear K; intro a K
                    refine X_no K (K.no rfl rfl rfl rfl) rfl rfl ?_; clear K; intro a K
                    refine X_no K (K.no rfl rfl rfl rfl) rfl rfl ?_; clear K; intro a K
                    refine X_rd K (want_no rfl) rfl rfl (rd_pickF rfl K rfl rfl) M ?_; clear K; intro a K
                    refine X_rd K (want_no rfl) rfl rfl (rd_move rfl K rfl) M ?_; clear K; intro a K
                    refine X_no K (K.no rfl rfl rfl rfl) rfl rfl ?_; clear K; intro a K
                    refine X_no K (K.no rfl rfl rfl rfl) rfl rfl ?_; clear K; intro a K
                    refine X_rd K (want_no rfl) rfl rfl (rd_pickF rfl K rfl rfl) M ?_; clear K; intro a K
                    refine X_rd K (want_no rfl) rfl rfl (rd_move rfl K rfl) M ?_; clear K; intro a K
                    refine X_no K (K.no rfl rfl rfl rfl) rfl rfl ?_; clear K; intro a K
                    refine X_no K (K.no rfl rfl rfl rfl) rfl rfl ?_; clear K; intro a K
                    refine X_rd K (want_no rfl) rfl rfl (rd_pickF rfl K rfl rfl) M ?_; clear K; intro a K
                    refine X_rd K (want_no rfl) rfl rfl (rd_assign rfl K rfl) M ?_; clear K; intro a K
                    refine wpList_nil ?_
                    refine then_n ?_
                    refine wp_ret ?_
                    cases h
                    exact ret1 K rfl (res_tmp K rfl) ⟨_, rfl, rfl, ((M).pick [] (by decide))⟩
                · have h := cfalse hb h
                  have K := K.reb (s := 71) rfl hb
                  refine X_no K (K.no rfl rfl rfl rfl) rfl rfl ?_; clear K; intro a K
                  refine X_no K (K.no rfl rfl rfl rfl) rfl rfl ?_; clear K; intro a K
                  refine X_no K (K.no rfl rfl rfl rfl) rfl rfl ?_; clear K; intro a K
                  refine X_no K (K.no rfl rfl rfl rfl) rfl rfl ?_; clear K; intro a K
                  refine X_rd K (want_no rfl) rfl rfl (rd_pickF rfl K rfl rfl) M ?_; clear K; intro a K
                  refine X_rd K (want_no rfl) rfl rfl (rd_move rfl K rfl) M ?_; clear K; intro a K
                  refine X_no K (K.no rfl rfl rfl rfl) rfl rfl ?_; clear K; intro a K
                  refine X_no K (K.no rfl rfl rfl rfl) rfl rfl ?_; clear K; intro a K
                  refine X_no K (K.no rfl rfl rfl rfl) rfl rfl ?_; clear K; intro a K
                  refine X_no K (K.no rfl rfl rfl rfl) rfl rfl ?_; clear K; intro a K
                  refine X_no K (K.no rfl rfl rfl rfl) rfl rfl ?_; clear K; intro a K
                  refine X_no K (K.no rfl rfl rfl rfl) rfl rfl ?_; clear K; intro a K
                  refine X_rd K (want_no rfl) rfl rfl (rd_pickF rfl K rfl rfl) M ?_; clear K; intro a K
                  refine X_rd K (want_no rfl) rfl rfl (rd_move rfl K rfl) M ?_; clear K; intro a K
                  refine X_no K (K.no rfl rfl rfl rfl) rfl rfl ?_; clear K; intro a K
                  refine X_no K (K.no rfl rfl rfl rfl) rfl rfl ?_; clear K; intro a K
                  refine X_rd K (want_no rfl) rfl rfl (rd_pickF rfl K rfl rfl) M ?_; clear K; intro a K
                  refine X_rd K (want_no rfl) rfl rfl (rd_move rfl K rfl) M ?_; clear K; intro a K
                  refine X_no K (K.no rfl rfl rfl rfl) rfl rfl ?_; clear K; intro a K
                  refine X_no K (K.no rfl rfl rfl rfl) rfl rfl ?_; clear K; intro a K
                  refine X_rd K (want_no rfl) rfl rfl (rd_pickF rfl K rfl rfl) M ?_; clear K; intro a K
                  refine X_rd K (want_no rfl) rfl rfl (rd_assign rfl K rfl) M ?_; clear K; intro a K
                  refine wpList_nil ?_
                  refine then_n ?_
                  refine wp_ret ?_
                  cases h
                  exact ret1 K rfl (res_tmp K rfl) ⟨_, rfl, rfl, ((M).pick [] (by decide))⟩
              · have h := cfalse hb h
                have K := K.reb (s := 63) rfl hb
                refine X_no K (K.no rfl rfl rfl rfl) rfl rfl ?_; clear K; intro a K
                refine X_no K (K.no rfl rfl rfl rfl) rfl rfl ?_; clear K; intro a K
                refine X_no K (K.no rfl rfl rfl rfl) rfl rfl ?_; clear K; intro a K
                refine X_no K (K.no rfl rfl rfl rfl) rfl rfl ?_; clear K; intro a K
                refine X_no K (K.no rfl rfl rfl rfl) rfl rfl ?_; clear K; intro a K
                refine X_no K (K.no rfl rfl rfl rfl) rfl rfl ?_; clear K; intro a K
                refine X_rd K (want_no rfl) rfl rfl (rd_pickF rfl K rfl rfl) M ?_; clear K; intro a K
                refine X_rd K (want_no rfl) rfl rfl (rd_move rfl K rfl) M ?_; clear K; intro a K
                refine X_no K (K.no rfl rfl rfl rfl) rfl rfl ?_; clear K; intro a K
                refine X_no K (K.no rfl rfl rfl rfl) rfl rfl ?_; clear K; intro a K
                refine X_no K (K.no rfl rfl rfl rfl) rfl rfl ?_; clear K; intro a K
                refine X_no K (K.no rfl rfl rfl rfl) rfl rfl ?_; clear K; intro a K
                refine X_rd K (want_no rfl) rfl rfl (rd_pickF rfl K rfl rfl) M ?_; clear K; intro a K
                refine X_rd K (want_no rfl) rfl rfl (rd_move rfl K rfl) M ?_; clear K; intro a K
                refine X_no K (K.no rfl rfl rfl rfl) rfl rfl ?_; clear K; intro a K
                refine X_no K (K.no rfl rfl rfl rfl) rfl rfl ?_; clear K; intro a K
                refine X_no K (K.no rfl rfl rfl rfl) rfl rfl ?_; clear K; intro a K
                refine X_no K (K.no rfl rfl rfl rfl) rfl rfl ?_; clear K; intro a K
                refine X_no K (K.no rfl rfl rfl rfl) rfl rfl ?_; clear K; intro a K
                refine X_no K (K.no rfl rfl rfl rfl) rfl rfl ?_; clear K; intro a K
                refine X_rd K (want_no rfl) rfl rfl (rd_pickF rfl K rfl rfl) M ?_; clear K; intro a K
                refine X_rd K (want_no rfl) rfl rfl (rd_move rfl K rfl) M ?_; clear K; intro a K
                refine X_no K (K.no rfl rfl rfl rfl) rfl rfl ?_; clear K; intro a K
                refine X_no K (K.no rfl rfl rfl rfl) rfl rfl ?_; clear K; intro a K
                refine X_rd K (want_no rfl) rfl rfl (rd_pickF rfl K rfl rfl) M ?_; clear K; intro a K
                refine X_rd K (want_no rfl) rfl rfl (rd_move rfl K rfl) M ?_; clear K; intro a K
                refine X_no K (K.no rfl rfl rfl rfl) rfl rfl ?_; clear K; intro a K
                refine X_no K (K.no rfl rfl rfl rfl) rfl rfl ?_; clear K; intro a K
                refine X_rd K (want_no rfl) rfl rfl (rd_pickF rfl K rfl rfl) M ?_; clear K; intro a K
                refine X_rd K (want_no rfl) rfl rfl (rd_assign rfl K rfl) M ?_; clear K; intro a K
                refine wpList_nil ?_
                refine then_n ?_
                refine wp_ret ?_
                cases h
                exact ret1 K rfl (res_tmp K rfl) ⟨_, rfl, rfl, ((M).pick [] (by decide))⟩
            · have h := cfalse hb h
              have K := K.reb (s := 57) rfl hb
              refine X_no K (K.no rfl rfl rfl rfl) rfl rfl ?_; clear K; intro a K
              refine X_no K (K.no rfl rfl rfl rfl) rfl rfl ?_; clear K; intro a K
              refine X_no K (K.no rfl rfl rfl rfl) rfl rfl ?_; clear K; intro a K
              refine X_no K (K.no rfl rfl rfl rfl) rfl rfl ?_; clear K; intro a K
              refine X_rd K (want_no rfl) rfl rfl (rd_pickF rfl K rfl rfl) M ?_; clear K; intro a K
              refine X_rd K (want_no rfl) rfl rfl (rd_move rfl K rfl) M ?_; clear K; intro a K
              refine X_no K (K.no rfl rfl rfl rfl) rfl rfl ?_; clear K; intro a K
              refine X_no K (K.no rfl rfl rfl rfl) rfl rfl ?_; clear K; intro a K
              refine X_no K (K.no rfl rfl rfl rfl) rfl rfl ?_; clear K; intro a K
              refine X_no K (K.no rfl rfl rfl rfl) rfl rfl ?_; clear K; intro a K
              refine X_no K (K.no rfl rfl rfl rfl) rfl rfl ?_; clear K; intro a K
              refine X_no K (K.no rfl rfl rfl rfl) rfl rfl ?_; clear K; intro a K
              refine X_rd K (want_no rfl) rfl rfl (rd_pickF rfl K rfl rfl) M ?_; clear K; intro a K
              refine X_rd K (want_no rfl) rfl rfl (rd_move rfl K rfl) M ?_; clear K; intro a K
              refine X_no K (K.no rfl rfl rfl rfl) rfl rfl ?_; clear K; intro a K
              refine X_no K (K.no rfl rfl rfl rfl) rfl rfl ?_; clear K; intro a K
              refine X_no K (K.no rfl rfl rfl rfl) rfl rfl ?_; clear K; intro a K
              refine X_no K (K.no rfl rfl rfl rfl) rfl rfl ?_; clear K; intro a K
              refine X_rd K (want_no rfl) rfl rfl (rd_pickF rfl K rfl rfl) M ?_; clear K; intro a K
              refine X_rd K (want_no rfl) rfl rfl (rd_move rfl K rfl) M ?_; clear K; intro a K
              refine X_no K (K.no rfl rfl rfl rfl) rfl rfl ?_; clear K; intro a K
              refine X_no K (K.no rfl rfl rfl rfl) rfl rfl ?_; clear K; intro a K
              refine X_no K (K.no rfl rfl rfl rfl) rfl rfl ?_; clear K; intro a K
              refine X_no K (K.no rfl rfl rfl rfl) rfl rfl ?_; clear K; intro a K
              refine X_no K (K.no rfl rfl rfl rfl) rfl rfl ?_; clear K; intro a K
              refine X_no K (K.no rfl rfl rfl rfl) rfl rfl ?_; clear K; intro a K
              refine X_rd K (want_no rfl) rfl rfl (rd_pickF rfl K rfl rfl) M ?_; clear K; intro a K
              refine X_rd K (want_no rfl) rfl rfl (rd_move rfl K rfl) M ?_; clear K; intro a K
              refine X_no K (K.no rfl rfl rfl rfl) rfl rfl ?_; clear K; intro a K
              refine X_no K (K.no rfl rfl rfl rfl) rfl rfl ?_; clear K; intro a K
              refine X_rd K (want_no rfl) rfl rfl (rd_pickF rfl K rfl rfl) M ?_; clear K; intro a K
              refine X_rd K (want_no rfl) rfl rfl (rd_move rfl K rfl) M ?_; clear K; intro a K
              refine X_no K (K.no rfl rfl rfl rfl) rfl rfl ?_; clear K; intro a K
              refine X_no K (K.no rfl rfl rfl rfl) rfl rfl ?_; clear K; intro a K
              refine X_rd K (want_no rfl) rfl rfl (rd_pickF rfl K rfl rfl) M ?_; clear K; intro a K
              refine X_rd K (want_no rfl) rfl rfl (rd_assign rfl K rfl) M ?_; clear K; intro a K
              refine wpList_nil ?_
              refine then_n ?_
              refine wp_ret ?_
              cases h
              exact ret1 K rfl (res_tmp K rfl) ⟨_, rfl, rfl, ((M).pick [] (by decide))⟩
          · have h := cfalse hb h
            have K := K.reb (s := 52) rfl hb
            refine X_no K (K.no rfl rfl rfl rfl) rfl rfl ?_; clear K; intro a K
            refine X_no K (K.no rfl rfl rfl rfl) rfl rfl ?_; clear K; intro a K
            refine X_no K (K.no rfl rfl rfl rfl) rfl rfl ?_; clear K; intro a K
            refine X_rd K (want_no rfl) rfl rfl (rd_pickF rfl K rfl rfl) M ?_; clear K; intro a K
            refine X_rd K (want_no rfl) rfl rfl (rd_move rfl K rfl) M ?_; clear K; intro a K
            refine X_no K (K.no rfl rfl rfl rfl) rfl rfl ?_; clear K; intro a K
            refine X_no K (K.no rfl rfl rfl rfl) rfl rfl ?_; clear K; intro a K
            refine X_no K (K.no rfl rfl rfl rfl) rfl rfl ?_; clear K; intro a K
            refine X_no K (K.no rfl rfl rfl rfl) rfl rfl ?_; clear K; intro a K
            refine X_rd K (want_no rfl) rfl rfl (rd_pickF rfl K rfl rfl) M ?_; clear K; intro a K
            refine X_rd K (want_no rfl) rfl rfl (rd_move rfl K rfl) M ?_; clear K; intro a K
            refine X_no K (K.no rfl rfl rfl rfl) rfl rfl ?_; clear K; intro a K
            refine X_no K (K.no rfl rfl rfl rfl) rfl rfl ?_; clear K; intro a K
            refine X_no K (K.no rfl rfl rfl rfl) rfl rfl ?_; clear K; intro a K
            refine X_no K (K.no rfl rfl rfl rfl) rfl rfl ?_; clear K; intro a K
            refine X_no K (K.no rfl rfl rfl rfl) rfl rfl ?_; clear K; intro a K
            refine X_no K (K.no rfl rfl rfl rfl) rfl rfl ?_; clear K; intro a K
            refine X_rd K (want_no rfl) rfl rfl (rd_pickF rfl K rfl rfl) M ?_; clear K; intro a K
            refine X_rd K (want_no rfl) rfl rfl (rd_move rfl K rfl) M ?_; clear K; intro a K
            refine X_no K (K.no rfl rfl rfl rfl) rfl rfl ?_; clear K; intro a K
            refine X_no K (K.no rfl rfl rfl rfl) rfl rfl ?_; clear K; intro a K
            refine X_no K (K.no rfl rfl rfl rfl) rfl rfl ?_; clear K; intro a K
            refine X_no K (K.no rfl rfl rfl rfl) rfl rfl ?_; clear K; intro a K
            refine X_rd K (want_no rfl) rfl rfl (rd_pickF rfl K rfl rfl) M ?_; clear K; intro a K
            refine X_rd K (want_no rfl) rfl rfl (rd_move rfl K rfl) M ?_; clear K; intro a K
            refine X_no K (K.no rfl rfl rfl rfl) rfl rfl ?_; clear K; intro a K
            refine X_no K (K.no rfl rfl rfl rfl) rfl rfl ?_; clear K; intro a K
            refine X_no K (K.no rfl rfl rfl rfl) rfl rfl ?_; clear K; intro a K
            refine X_no K (K.no rfl rfl rfl rfl) rfl rfl ?_; clear K; intro a K
            refine X_no K (K.no rfl rfl rfl rfl) rfl rfl ?_; clear K; intro a K
            refine X_no K (K.no rfl rfl rfl rfl) rfl rfl ?_; clear K; intro a K
            refine X_rd K (want_no rfl) rfl rfl (rd_pickF rfl K rfl rfl) M ?_; clear K; intro a K
            refine X_rd K (want_no rfl) rfl rfl (rd_move rfl K rfl) M ?_; clear K; intro a K
            refine X_no K (K.no rfl rfl rfl rfl) rfl rfl ?_; clear K; intro a K
            refine X_no K (K.no rfl rfl rfl rfl) rfl rfl ?_; clear K; intro a K
            refine X_rd K (want_no rfl) rfl rfl (rd_pickF rfl K rfl rfl) M ?_; clear K; intro a K
            refine X_rd K (want_no rfl) rfl rfl (rd_move rfl K rfl) M ?_; clear K; intro a K
            refine X_no K (K.no rfl rfl rfl rfl) rfl rfl ?_; clear K; intro a K
            refine X_no K (K.no rfl rfl rfl rfl) rfl rfl ?_; clear K; intro a K
            refine X_rd K (want_no rfl) rfl rfl (rd_pickF rfl K rfl rfl) M ?_; clear K; intro a K
            refine X_rd K (want_no rfl) rfl rfl (rd_assign rfl K rfl) M ?_; clear K; intro a K
            refine wpList_nil ?_
            refine then_n ?_
            refine wp_ret ?_
            cases h
            exact ret1 K rfl (res_tmp K rfl) ⟨_, rfl, rfl, ((M).pick [] (by decide))⟩
        · have h := cfalse hb h
          have K := K.reb (s := 47) rfl hb
          refine X_no K (K.no rfl rfl rfl rfl) rfl rfl ?_; clear K; intro a K
          refine X_no K (K.no rfl rfl rfl rfl) rfl rfl ?_; clear K; intro a K
          refine X_no K (K.no rfl rfl rfl rfl) rfl rfl ?_; clear K; intro a K
          refine X_rd K (want_no rfl) rfl rfl (rd_pickF rfl K rfl rfl) M ?_; clear K; intro a K
          refine X_rd K (want_no rfl) rfl rfl (rd_move rfl K rfl) M ?_; clear K; intro a K
          refine X_no K (K.no rfl rfl rfl rfl) rfl rfl ?_; clear K; intro a K
          refine X_no K (K.no rfl rfl rfl rfl) rfl rfl ?_; clear K; intro a K
          refine X_no K (K.no rfl rfl rfl rfl) rfl rfl ?_; clear K; intro a K
          refine X_rd K (want_no rfl) rfl rfl (rd_pickF rfl K rfl rfl) M ?_; clear K; intro a K
          refine X_rd K (want_no rfl) rfl rfl (rd_move rfl K rfl) M ?_; clear K; intro a K
          refine X_no K (K.no rfl rfl rfl rfl) rfl rfl ?_; clear K; intro a K
          refine X_no K (K.no rfl rfl rfl rfl) rfl rfl ?_; clear K; intro a K
          refine X_no K (K.no rfl rfl rfl rfl) rfl rfl ?_; clear K; intro a K
          refine X_no K (K.no rfl rfl rfl rfl) rfl rfl ?_; clear K; intro a K
          refine X_rd K (want_no rfl) rfl rfl (rd_pickF rfl K rfl rfl) M ?_; clear K; intro a K
          refine X_rd K (want_no rfl) rfl rfl (rd_move rfl K rfl) M ?_; clear K; intro a K
          refine X_no K (K.no rfl rfl rfl rfl) rfl rfl ?_; clear K; intro a K
          refine X_no K (K.no rfl rfl rfl rfl) rfl rfl ?_; clear K; intro a K
          refine X_no K (K.no rfl rfl rfl rfl) rfl rfl ?_; clear K; intro a K
          refine X_no K (K.no rfl rfl rfl rfl) rfl rfl ?_; clear K; intro a K
          refine X_no K (K.no rfl rfl rfl rfl) rfl rfl ?_; clear K; intro a K
          refine X_no K (K.no rfl rfl rfl rfl) rfl rfl ?_; clear K; intro a K
          refine X_rd K (want_no rfl) rfl rfl (rd_pickF rfl K rfl rfl) M ?_; clear K; intro a K
          refine X_rd K (want_no rfl) rfl rfl (rd_move rfl K rfl) M ?_; clear K; intro a K
          refine X_no K (K.no rfl rfl rfl rfl) rfl rfl ?_; clear K; intro a K
          refine X_no K (K.no rfl rfl rfl rfl) rfl rfl ?_; clear K; intro a K
          refine X_no K (K.no rfl rfl rfl rfl) rfl rfl ?_; clear K; intro a K
          refine X_no K (K.no rfl rfl rfl rfl) rfl rfl ?_; clear K; intro a K
          refine X_rd K (want_no rfl) rfl rfl (rd_pickF rfl K rfl rfl) M ?_; clear K; intro a K
          refine X_rd K (want_no rfl) rfl rfl (rd_move rfl K rfl) M ?_; clear K; intro a K
          refine X_no K (K.no rfl rfl rfl rfl) rfl rfl ?_; clear K; intro a K
          refine X_no K (K.no rfl rfl rfl rfl) rfl rfl ?_; clear K; intro a K
          refine X_no K (K.no rfl rfl rfl rfl) rfl rfl ?_; clear K; intro a K
          refine X_no K (K.no rfl rfl rfl rfl) rfl rfl ?_; clear K; intro a K
          refine X_no K (K.no rfl rfl rfl rfl) rfl rfl ?_; clear K; intro a K
          refine X_no K (K.no rfl rfl rfl rfl) rfl rfl ?_; clear K; intro a K
          refine X_rd K (want_no rfl) rfl rfl (rd_pickF rfl K rfl rfl) M ?_; clear K; intro a K
          refine X_rd K (want_no rfl) rfl rfl (rd_move rfl K rfl) M ?_; clear K; intro a K
          refine X_no K (K.no rfl rfl rfl rfl) rfl rfl ?_; clear K; intro a K
          refine X_no K (K.no rfl rfl rfl rfl) rfl rfl ?_; clear K; intro a K
          refine X_rd K (want_no rfl) rfl rfl (rd_pickF rfl K rfl rfl) M ?_; clear K; intro a K
          refine X_rd K (want_no rfl) rfl rfl (rd_move rfl K rfl) M ?_; clear K; intro a K
          refine X_no K (K.no rfl rfl rfl rfl) rfl rfl ?_; clear K; intro a K
          refine X_no K (K.no rfl rfl rfl rfl) rfl rfl ?_; clear K; intro a K
          refine X_rd K (want_no rfl) rfl rfl (rd_pickF rfl K rfl rfl) M ?_; clear K; intro a K
          refine X_rd K (want_no rfl) rfl rfl (rd_assign rfl K rfl) M ?_; clear K; intro a K
          refine wpList_nil ?_
          refine then_n ?_
          refine wp_ret ?_
          cases h
          exact ret1 K rfl (res_tmp K rfl) ⟨_, rfl, rfl, ((M).pick [] (by decide))⟩
      · have h := cfalse hb h
        have K := K.reb (s := 43) rfl hb
        refine X_no K (K.no rfl rfl rfl rfl) rfl rfl ?_; clear K; intro a K
        refine X_no K (K.no rfl rfl rfl rfl) rfl rfl ?_; clear K; intro a K
        refine X_rd K (want_no rfl) rfl rfl (rd_pickF rfl K rfl rfl) M ?_; clear K; intro a K
        refine X_rd K (want_no rfl) rfl rfl (rd_move rfl K rfl) M ?_; clear K; intro a K
        refine X_no K (K.no rfl rfl rfl rfl) rfl rfl ?_; clear K; intro a K
        refine X_no K (K.no rfl rfl rfl rfl) rfl rfl ?_; clear K; intro a K
        refine X_no K (K.no rfl rfl rfl rfl) rfl rfl ?_; clear K; intro a K
        refine X_rd K (want_no rfl) rfl rfl (rd_pickF rfl K rfl rfl) M ?_; clear K; intro a K
        refine X_rd K (want_no rfl) rfl rfl (rd_move rfl K rfl) M ?_; clear K; intro a K
        refine X_no K (K.no rfl rfl rfl rfl) rfl rfl ?_; clear K; intro a K
        refine X_no K (K.no rfl rfl rfl rfl) rfl rfl ?_; clear K; intro a K
        refine X_no K (K.no rfl rfl rfl rfl) rfl rfl ?_; clear K; intro a K
        refine X_rd K (want_no rfl) rfl rfl (rd_pickF rfl K rfl rfl) M ?_; clear K; intro a K
        refine X_rd K (want_no rfl) rfl rfl (rd_move rfl K rfl) M ?_; clear K; intro a K
        refine X_no K (K.no rfl rfl rfl rfl) rfl rfl ?_; clear K; intro a K
        refine X_no K (K.no rfl rfl rfl rfl) rfl rfl ?_; clear K; intro a K
        refine X_no K (K.no rfl rfl rfl rfl) rfl rfl ?_; clear K; intro a K
        refine X_no K (K.no rfl rfl rfl rfl) rfl rfl ?_; clear K; intro a K
        refine X_rd K (want_no rfl) rfl rfl (rd_pickF rfl K rfl rfl) M ?_; clear K; intro a K
        refine X_rd K (want_no rfl) rfl rfl (rd_move rfl K rfl) M ?_; clear K; intro a K
        refine X_no K (K.no rfl rfl rfl rfl) rfl rfl ?_; clear K; intro a K
        refine X_no K (K.no rfl rfl rfl rfl) rfl rfl ?_; clear K; intro a K
        refine X_no K (K.no rfl rfl rfl rfl) rfl rfl ?_; clear K; intro a K
        refine X_no K (K.no rfl rfl rfl rfl) rfl rfl ?_; clear K; intro a K
        refine X_no K (K.no rfl rfl rfl rfl) rfl rfl ?_; clear K; intro a K
        refine X_no K (K.no rfl rfl rfl rfl) rfl rfl ?_; clear K; intro a K
        refine X_rd K (want_no rfl) rfl rfl (rd_pickF rfl K rfl rfl) M ?_; clear K; intro a K
        refine X_rd K (want_no rfl) rfl rfl (rd_move rfl K rfl) M ?_; clear K; intro a K
        refine X_no K (K.no rfl rfl rfl rfl) rfl rfl ?_; clear K; intro a K
        refine X_no K (K.no rfl rfl rfl rfl) rfl rfl ?_; clear K; intro a K
        refine X_no K (K.no rfl rfl rfl rfl) rfl rfl ?_; clear K; intro a K
        refine X_no K (K.no rfl rfl rfl rfl) rfl rfl ?_; clear K; intro a K
        refine X_rd K (want_no rfl) rfl rfl (rd_pickF rfl K rfl rfl) M ?_; clear K; intro a K
        refine X_rd K (want_no rfl) rfl rfl (rd_move rfl K rfl) M ?_; clear K; intro a K
        refine X_no K (K.no rfl rfl rfl rfl) rfl rfl ?_; clear K; intro a K
        refine X_no K (K.no rfl rfl rfl rfl) rfl rfl ?_; clear K; intro a K
        refine X_no K (K.no rfl rfl rfl rfl) rfl rfl ?_; clear K; intro a K
        refine X_no K (K.no rfl rfl rfl rfl) rfl rfl ?_; clear K; intro a K
        refine X_no K (K.no rfl rfl rfl rfl) rfl rfl ?_; clear K; intro a K
        refine X_no K (K.no rfl rfl rfl rfl) rfl rfl ?_; clear K; intro a K
        refine X_rd K (want_no rfl) rfl rfl (rd_pickF rfl K rfl rfl) M ?_; clear K; intro a K
        refine X_rd K (want_no rfl) rfl rfl (rd_move rfl K rfl) M ?_; clear K; intro a K
        refine X_no K (K.no rfl rfl rfl rfl) rfl rfl ?_; clear K; intro a K
        refine X_no K (K.no rfl rfl rfl rfl) rfl rfl ?_; clear K; intro a K
        refine X_rd K (want_no rfl) rfl rfl (rd_pickF rfl K rfl rfl) M ?_; clear K; intro a K
        refine X_rd K (want_no rfl) rfl rfl (rd_move rfl K rfl) M ?_; clear K; intro a K
        refine X_no K (K.no rfl rfl rfl rfl) rfl rfl ?_; clear K; intro a K
        refine X_no K (K.no rfl rfl rfl rfl) rfl rfl ?_; clear K; intro a K
        refine X_rd K (want_no rfl) rfl rfl (rd_pickF rfl K rfl rfl) M ?_; clear K; intro a K
        refine X_rd K (want_no rfl) rfl rfl (rd_assign rfl K rfl) M ?_; clear K; intro a K
        refine wpList_nil ?_
        refine then_n ?_
        refine wp_ret ?_
        cases h
        exact ret1 K rfl (res_tmp K rfl) ⟨_, rfl, rfl, ((M).pick [] (by decide))⟩
    · have h := cfalse hb h
      have K := K.reb (s := 39) rfl hb
      refine X_no K (K.no rfl rfl rfl rfl) rfl rfl ?_; clear K; intro a K
      refine X_no K (K.no rfl rfl rfl rfl) rfl rfl ?_; clear K; intro a K
      refine X_rd K (want_no rfl) rfl rfl (rd_pickF rfl K rfl rfl) M ?_; clear K; intro a K
      refine X_rd K (want_no rfl) rfl rfl (rd_move rfl K rfl) M ?_; clear K; intro a K
      refine X_no K (K.no rfl rfl rfl rfl) rfl rfl ?_; clear K; intro a K
      refine X_no K (K.no rfl rfl rfl rfl) rfl rfl ?_; clear K; intro a K
      refine X_rd K (want_no rfl) rfl rfl (rd_pickF rfl K rfl rfl) M ?_; clear K; intro a K
      refine X_rd K (want_no rfl) rfl rfl (rd_move rfl K rfl) M ?_; clear K; intro a K
      refine X_no K (K.no rfl rfl rfl rfl) rfl rfl ?_; clear K; intro a K
      refine X_no K (K.no rfl rfl rfl rfl) rfl rfl ?_; clear K; intro a K
      refine X_no K (K.no rfl rfl rfl rfl) rfl rfl ?_; clear K; intro a K
      refine X_rd K (want_no rfl) rfl rfl (rd_pickF rfl K rfl rfl) M ?_; clear K; intro a K
      refine X_rd K (want_no rfl) rfl rfl (rd_move rfl K rfl) M ?_; clear K; intro a K
      refine X_no K (K.no rfl rfl rfl rfl) rfl rfl ?_; clear K; intro a K
      refine X_no K (K.no rfl rfl rfl rfl) rfl rfl ?_; clear K; intro a K
      refine X_no K (K.no rfl rfl rfl rfl) rfl rfl ?_; clear K; intro a K
      refine X_rd K (want_no rfl) rfl rfl (rd_pickF rfl K rfl rfl) M ?_; clear K; intro a K
      refine X_rd K (want_no rfl) rfl rfl (rd_move rfl K rfl) M ?_; clear K; intro a K
      refine X_no K (K.no rfl rfl rfl rfl) rfl rfl ?_; clear K; intro a K
      refine X_no K (K.no rfl rfl rfl rfl) rfl rfl ?_; clear K; intro a K
      refine X_no K (K.no rfl rfl rfl rfl) rfl rfl ?_; clear K; intro a K
      refine X_no K (K.no rfl rfl rfl rfl) rfl rfl ?_; clear K; intro a K
      refine X_rd K (want_no rfl) rfl rfl (rd_pickF rfl K rfl rfl) M ?_; clear K; intro a K
      refine X_rd K (want_no rfl) rfl rfl (rd_move rfl K rfl) M ?_; clear K; intro a K
      refine X_no K (K.no rfl rfl rfl rfl) rfl rfl ?_; clear K; intro a K
      refine X_no K (K.no rfl rfl rfl rfl) rfl rfl ?_; clear K; intro a K
      refine X_no K (K.no rfl rfl rfl rfl) rfl rfl ?_; clear K; intro a K
      refine X_no K (K.no rfl rfl rfl rfl) rfl rfl ?_; clear K; intro a K
      refine X_no K (K.no rfl rfl rfl rfl) rfl rfl ?_; clear K; intro a K
      refine X_no K (K.no rfl rfl rfl rfl) rfl rfl ?_; clear K; intro a K
      refine X_rd K (want_no rfl) rfl rfl (rd_pickF rfl K rfl rfl) M ?_; clear K; intro a K
      refine X_rd K (want_no rfl) rfl rfl (rd_move rfl K rfl) M ?_; clear K; intro a K
      refine X_no K (K.no rfl rfl rfl rfl) rfl rfl ?_; clear K; intro a K
      refine X_no K (K.no rfl rfl rfl rfl) rfl rfl ?_; clear K; intro a K
      refine X_no K (K.no rfl rfl rfl rfl) rfl rfl ?_; clear K; intro a K
      refine X_no K (K.no rfl rfl rfl rfl) rfl rfl ?_; clear K; intro a K
      refine X_rd K (want_no rfl) rfl rfl (rd_pickF rfl K rfl rfl) M ?_; clear K; intro a K
      refine X_rd K (want_no rfl) rfl rfl (rd_move rfl K rfl) M ?_; clear K; intro a K
      refine X_no K (K.no rfl rfl rfl rfl) rfl rfl ?_; clear K; intro a K
      refine X_no K (K.no rfl rfl rfl rfl) rfl rfl ?_; clear K; intro a K
      refine X_no K (K.no rfl rfl rfl rfl) rfl rfl ?_; clear K; intro a K
      refine X_no K (K.no rfl rfl rfl rfl) rfl rfl ?_; clear K; intro a K
      refine X_no K (K.no rfl rfl rfl rfl) rfl rfl ?_; clear K; intro a K
      refine X_no K (K.no rfl rfl rfl rfl) rfl rfl ?_; clear K; intro a K
      refine X_rd K (want_no rfl) rfl rfl (rd_pickF rfl K rfl rfl) M ?_; clear K; intro a K
      refine X_rd K (want_no rfl) rfl rfl (rd_move rfl K rfl) M ?_; clear K; intro a K
      refine X_no K (K.no rfl rfl rfl rfl) rfl rfl ?_; clear K; intro a K
      refine X_no K (K.no rfl rfl rfl rfl) rfl rfl ?_; clear K; intro a K
      refine X_rd K (want_no rfl) rfl rfl (rd_pickF rfl K rfl rfl) M ?_; clear K; intro a K
      refine X_rd K (want_no rfl) rfl rfl (rd_move rfl K rfl) M ?_; clear K; intro a K
      refine X_no K (K.no rfl rfl rfl rfl) rfl rfl ?_; clear K; intro a K
      refine X_no K (K.no rfl rfl rfl rfl) rfl rfl ?_; clear K; intro a K
      refine X_rd K (want_no rfl) rfl rfl (rd_pickF rfl K rfl rfl) M ?_; clear K; intro a K
      refine X_rd K (want_no rfl) rfl rfl (rd_assign rfl K rfl) M ?_; clear K; intro a K
      refine wpList_nil ?_
      refine then_n ?_
      refine wp_ret ?_
      cases h
      exact ret1 K rfl (res_tmp K rfl) ⟨_, rfl, rfl, ((M).pick [] (by decide))⟩
  · have h := cfalse hb h
    have K := K.reb (s := 35) rfl hb
    refine X_no K (K.no rfl rfl rfl rfl) rfl rfl ?_; clear K; intro a K
    refine X_no K (K.no rfl rfl rfl rfl) rfl rfl ?_; clear K; intro a K
    refine X_rd K (want_no rfl) rfl rfl (rd_pickF rfl K rfl rfl) M ?_; clear K; intro a K
    refine X_rd K (want_no rfl) rfl rfl (rd_move rfl K rfl) M ?_; clear K; intro a K
    refine X_no K (K.no rfl rfl rfl rfl) rfl rfl ?_; clear K; intro a K
    refine X_no K (K.no rfl rfl rfl rfl) rfl rfl ?_; clear K; intro a K
    refine X_rd K (want_no rfl) rfl rfl (rd_pickF rfl K rfl rfl) M ?_; clear K; intro a K
    refine X_rd K (want_no rfl) rfl rfl (rd_move rfl K rfl) M ?_; clear K; intro a K
    refine X_no K (K.no rfl rfl rfl rfl) rfl rfl ?_; clear K; intro a K
    refine X_no K (K.no rfl rfl rfl rfl) rfl rfl ?_; clear K; intro a K
    refine X_rd K (want_no rfl) rfl rfl (rd_pickF rfl K rfl rfl) M ?_; clear K; intro a K
    refine X_rd K (want_no rfl) rfl rfl (rd_move rfl K rfl) M ?_; clear K; intro a K
    refine X_no K (K.no rfl rfl rfl rfl) rfl rfl ?_; clear K; intro a K
    refine X_no K (K.no rfl rfl rfl rfl) rfl rfl ?_; clear K; intro a K
    refine X_no K (K.no rfl rfl rfl rfl) rfl rfl ?_; clear K; intro a K
    refine X_rd K (want_no rfl) rfl rfl (rd_pickF rfl K rfl rfl) M ?_; clear K; intro a K
    refine X_rd K (want_no rfl) rfl rfl (rd_move rfl K rfl) M ?_; clear K; intro a K
    refine X_no K (K.no rfl rfl rfl rfl) rfl rfl ?_; clear K; intro a K
    refine X_no K (K.no rfl rfl rfl rfl) rfl rfl ?_; clear K; intro a K
    refine X_no K (K.no rfl rfl rfl rfl) rfl rfl ?_; clear K; intro a K
    refine X_rd K (want_no rfl) rfl rfl (rd_pickF rfl K rfl rfl) M ?_; clear K; intro a K
    refine X_rd K (want_no rfl) rfl rfl (rd_move rfl K rfl) M ?_; clear K; intro a K
    refine X_no K (K.no rfl rfl rfl rfl) rfl rfl ?_; clear K; intro a K
    refine X_no K (K.no rfl rfl rfl rfl) rfl rfl ?_; clear K; intro a K
    refine X_no K (K.no rfl rfl rfl rfl) rfl rfl ?_; clear K; intro a K
    refine X_no K (K.no rfl rfl rfl rfl) rfl rfl ?_; clear K; intro a K
    refine X_rd K (want_no rfl) rfl rfl (rd_pickF rfl K rfl rfl) M ?_; clear K; intro a K
    refine X_rd K (want_no rfl) rfl rfl (rd_move rfl K rfl) M ?_; clear K; intro a K
    refine X_no K (K.no rfl rfl rfl rfl) rfl rfl ?_; clear K; intro a K
    refine X_no K (K.no rfl rfl rfl rfl) rfl rfl ?_; clear K; intro a K
    refine X_no K (K.no rfl rfl rfl rfl) rfl rfl ?_; clear K; intro a K
    refine X_no K (K.no rfl rfl rfl rfl) rfl rfl ?_; clear K; intro a K
    refine X_no K (K.no rfl rfl rfl rfl) rfl rfl ?_; clear K; intro a K
    refine X_no K (K.no rfl rfl rfl rfl) rfl rfl ?_; clear K; intro a K
    refine X_rd K (want_no rfl) rfl rfl (rd_pickF rfl K rfl rfl) M ?_; clear K; intro a K
    refine X_rd K (want_no rfl) rfl rfl (rd_move rfl K rfl) M ?_; clear K; intro a K
    refine X_no K (K.no rfl rfl rfl rfl) rfl rfl ?_; clear K; intro a K
    refine X_no K (K.no rfl rfl rfl rfl) rfl rfl ?_; clear K; intro a K
    refine X_no K (K.no rfl rfl rfl rfl) rfl rfl ?_; clear K; intro a K
    refine X_no K (K.no rfl rfl rfl rfl) rfl rfl ?_; clear K; intro a K
    refine X_rd K (want_no rfl) rfl rfl (rd_pickF rfl K rfl rfl) M ?_; clear K; intro a K
    refine X_rd K (want_no rfl) rfl rfl (rd_move rfl K rfl) M ?_; clear K; intro a K
    refine X_no K (K.no rfl rfl rfl rfl) rfl rfl ?_; clear K; intro a K
    refine X_no K (K.no rfl rfl rfl rfl) rfl rfl ?_; clear K; intro a K
    refine X_no K (K.no rfl rfl rfl rfl) rfl rfl ?_; clear K; intro a K
    refine X_no K (K.no rfl rfl rfl rfl) rfl rfl ?_; clear K; intro a K
    refine X_no K (K.no rfl rfl rfl rfl) rfl rfl ?_; clear K; intro a K
    refine X_no K (K.no rfl rfl rfl rfl) rfl rfl ?_; clear K; intro a K
    refine X_rd K (want_no rfl) rfl rfl (rd_pickF rfl K rfl rfl) M ?_; clear K; intro a K
    refine X_rd K (want_no rfl) rfl rfl (rd_move rfl K rfl) M ?_; clear K; intro a K
    refine X_no K (K.no rfl rfl rfl rfl) rfl rfl ?_; clear K; intro a K
    refine X_no K (K.no rfl rfl rfl rfl) rfl rfl ?_; clear K; intro a K
    refine X_rd K (want_no rfl) rfl rfl (rd_pickF rfl K rfl rfl) M ?_; clear K; intro a K
    refine X_rd K (want_no rfl) rfl rfl (rd_move rfl K rfl) M ?_; clear K; intro a K
    refine X_no K (K.no rfl rfl rfl rfl) rfl rfl ?_; clear K; intro a K
    refine X_no K (K.no rfl rfl rfl rfl) rfl rfl ?_; clear K; intro a K
    refine X_rd K (want_no rfl) rfl rfl (rd_pickF rfl K rfl rfl) M ?_; clear K; intro a K
    refine X_rd K (want_no rfl) rfl rfl (rd_assign rfl K rfl) M ?_; clear K; intro a K
    refine wpList_nil ?_
    refine then_n ?_
    refine wp_ret ?_
    cases h
    exact ret1 K rfl (res_tmp K rfl) ⟨_, rfl, rfl, ((M).pick [] (by decide))⟩

end Go.Proofs.Ytpmnfhifmmfglaa
