/- Printed by a program (walk.py): the walks of darkslidelaw_mosaicBegun: each function computes what its plain program tells. -/
import Derived.Test.YtpmnfhifmmfglaaFacts
import Derived.Test.YtpmnfhifmmfglaaDD
import Derived.Test.YtpmnfhifmmfglaaWLawSmall
import Derived.Test.YtpmnfhifmmfglaaWMosaic
import Derived.Test.YtpmnfhifmmfglaaWRefSameplanes
set_option linter.unusedVariables false
set_option linter.unusedSimpArgs false
set_option linter.unusedSectionVars false
namespace Go.Proofs.Ytpmnfhifmmfglaa
open Go.RowKit

set_option maxRecDepth 100000 in
set_option maxHeartbeats 4000000 in
theorem W_darkslidelaw_mosaicBegun (N : Nat)  (w0 : World)  (r : Bool) (h : D_darkslidelaw_mosaicBegun N  = some r) :
    Calls Try.prog 43 #[] w0 fun e w' => ∃ v, e = .returned v ∧ v = .bool r ∧ Mem w0.heap.size w0 w' [] := by
  refine X_enter Try.func43 rfl Try.ntmps43 rfl ?_
  intro a K
  have M := Mem.start w0
  have K : Kn a 40 [] := K
  unfold D_darkslidelaw_mosaicBegun at h
  refine wp_seq ?_
  refine X_reg ?_
  refine X_rd K (want_no rfl) rfl rfl (rd_assign rfl K rfl) M ?_; clear K; intro a K
  refine wpList_nil ?_
  refine then_n ?_
  refine wp_seq ?_
  refine X_reg ?_
  obtain ⟨r2, h_r2, h⟩ := obind h
  refine X_ac K (want_no rfl) rfl rfl (ac_call (vs := []) (cap := []) rfl fok61 K rfl rfl (W_darkslidelaw_small N  _  r2 h_r2)) ?_
  have M0 := M; clear K M; rintro _ a w ⟨A, c, rfl, M⟩ K
  have M := M0.call M
  clear M0
  obtain ⟨r3, h_r3, h⟩ := obind h
  refine X_ac K (want_no rfl) rfl rfl (ac_call (vs := [.agg #[.int .i64 r2.1, .int .i64 r2.2.1, .slice A r2.2.2.length c], .int .i64 0]) (cap := []) rfl fok38 K rfl rfl (W_mosaic_Fill N r2.1 r2.2.1 r2.2.2 A c 0 _ ((inR (C := (cI .i64)) 0 rfl rfl) _ M) (M.cap 0 rfl) r3 h_r3)) ?_
  have M0 := M; clear K M; rintro _ a w ⟨A2, c2, rfl, M⟩ K
  have M := M0.call M
  clear M0
  refine X_rd K (want_no rfl) rfl rfl (rd_move rfl K rfl) M ?_; clear K; intro a K
  refine X_rd K (want_no rfl) rfl rfl (rd_extract rfl K rfl rfl) M ?_; clear K; intro a K
  refine X_rd K (want_no rfl) rfl rfl (rd_extract rfl K rfl rfl) M ?_; clear K; intro a K
  refine X_ac K (want_no rfl) rfl rfl (ac_alloc rfl z49 M) ?_
  have M0 := M; clear K M; rintro _ a w ⟨g_q, rfl, M⟩ K
  clear M0
  refine X_a0 K (want_no rfl) rfl (ac_storeA rfl ty49 K rfl (ds := [.int .i64 r3.1, .int .i64 r3.2.1, .slice A2 r3.2.2.1.length c2]) rfl rfl 0 M rfl rfl rfl) ?_
  have M0 := M; clear K M; rintro _ a w M K
  clear M0
  refine X_rd K (want_no rfl) rfl rfl (rd_assign rfl K rfl) M ?_; clear K; intro a K
  refine wpList_nil ?_
  refine then_n ?_
  refine wp_seq ?_
  refine X_reg ?_
  refine X_rd K (want_no rfl) rfl rfl (rd_ldA rfl ty49 K rfl (inM 0 rfl) rfl rfl) M ?_; clear K; intro a K
  obtain ⟨r4, h_r4, h⟩ := obind h
  refine X_ac K (want_no rfl) rfl rfl (ac_call (vs := [.agg #[.int .i64 r3.1, .int .i64 r3.2.1, .slice A2 r3.2.2.1.length c2], .int .i64 0]) (cap := []) rfl fok39 K rfl rfl (W_mosaic_Take N r3.1 r3.2.1 r3.2.2.1 A2 c2 0 _ ((inR (C := cIII) 1 rfl rfl) _ M) (M.cap 1 rfl) r4 h_r4)) ?_
  have M0 := M; clear K M; rintro _ a w ⟨A3, c3, rfl, M⟩ K
  have M := M0.call M
  clear M0
  refine X_rd K (want_no rfl) rfl rfl (rd_move rfl K rfl) M ?_; clear K; intro a K
  refine X_rd K (want_no rfl) rfl rfl (rd_extract rfl K rfl rfl) M ?_; clear K; intro a K
  refine X_rd K (want_no rfl) rfl rfl (rd_extract rfl K rfl rfl) M ?_; clear K; intro a K
  refine X_ac K (want_no rfl) rfl rfl (ac_alloc rfl z24 M) ?_
  have M0 := M; clear K M; rintro _ a w ⟨g_p, rfl, M⟩ K
  clear M0
  refine X_a0 K (want_no rfl) rfl (ac_storeA rfl ty24 K rfl (ds := [.int .i64 r4.1, .int .i64 r4.2.1, .slice A3 r4.2.2.1.length c3]) rfl rfl 0 M rfl rfl rfl) ?_
  have M0 := M; clear K M; rintro _ a w M K
  clear M0
  refine X_rd K (want_no rfl) rfl rfl (rd_assign rfl K rfl) M ?_; clear K; intro a K
  refine wpList_nil ?_
  refine then_n ?_
  refine wp_seq ?_
  refine wp_region_tl (fun w => Mem _ _ w _) [0,0,0,0,0,0,0,0,0,0,0,0,0,0,0,0,0,0,0,0,0,0,1,1,0,0] (by kernel_rfl) (by kernel_rfl) M.drew ?_
  replace M := M.drew
  refine T_rd K (want_no rfl) rfl rfl (rd_move rfl K rfl) ?_; clear K; intro a K
  refine T_rd K (want_no rfl) rfl rfl (rd_eql rfl K rfl rfl) ?_; clear K; intro a K
  refine T_rd K (want_no rfl) rfl rfl (rd_move rfl K rfl) ?_; clear K; intro a K
  rcases Bool.eq_false_or_eq_true (decide (r3.2.2.2 = 0)) with hb | hb
  · have h := ctrue hb h
    have K := K.reb (s := 17) rfl hb
    refine T_rd K (K.yes rfl rfl rfl) rfl rfl (rd_move rfl K rfl) ?_; clear K; intro a K
    refine T_rd K (K.yes rfl rfl rfl) rfl rfl (rd_eql rfl K rfl rfl) ?_; clear K; intro a K
    refine T_rd K (want_no rfl) rfl rfl (rd_pickT rfl K rfl rfl) ?_; clear K; intro a K
    refine T_rd K (want_no rfl) rfl rfl (rd_move rfl K rfl) ?_; clear K; intro a K
    rcases Bool.eq_false_or_eq_true (decide (r4.2.2.2 = 0)) with hb | hb
    · have h := ctrue hb h
      have K := K.reb (s := 21) rfl hb
      refine T_rd K (K.yes rfl rfl rfl) rfl rfl (rd_field rfl fld49_2 K rfl) ?_; clear K; intro a K
      refine T_rd K (K.yes rfl rfl rfl) rfl rfl (rd_ldC rfl sc47 K rfl (inM 2 rfl) rfl) ?_; clear K; intro a K
      refine T_rd K (K.yes rfl rfl rfl) rfl rfl (rd_len rfl un47 K rfl) ?_; clear K; intro a K
      refine T_rd K (K.yes rfl rfl rfl) rfl rfl (rd_eql rfl K rfl rfl) ?_; clear K; intro a K
      refine T_rd K (want_no rfl) rfl rfl (rd_pickT rfl K rfl rfl) ?_; clear K; intro a K
      refine T_rd K (want_no rfl) rfl rfl (rd_move rfl K rfl) ?_; clear K; intro a K
      rcases Bool.eq_false_or_eq_true (decide ((r3.2.2.1.length : Int) = 4)) with hb | hb
      · have h := ctrue hb h
        have K := K.reb (s := 27) rfl hb
        refine T_rd K (K.yes rfl rfl rfl) rfl rfl (rd_field rfl fld49_2 K rfl) ?_; clear K; intro a K
        refine T_rd K (K.yes rfl rfl rfl) rfl rfl (rd_ldC rfl sc47 K rfl (inM 2 rfl) rfl) ?_; clear K; intro a K
        obtain ⟨e, h_e, h⟩ := obind h
        refine T_rd K (K.yes rfl rfl rfl) rfl rfl (rd_ix rfl sl47 K rfl rfl (inR (C := cIII) 3 rfl rfl) h_e) ?_; clear K; intro a K
        refine T_rd K (K.yes rfl rfl rfl) rfl rfl (rd_elA rfl ty73 K rfl rfl rfl (inR (C := cIII) 3 rfl rfl) h_e) ?_; clear K; intro a K
        refine T_rd K (K.yes rfl rfl rfl) rfl rfl (rd_build rfl K (vs := [(0, .int .i64 10), (1, .int .i64 32767), (2, .int .i64 7)]) (cs := [.int .i64 10, .int .i64 32767, .int .i64 7]) rfl (by kernel_rfl)) ?_; clear K; intro a K
        refine T_rd K (K.yes rfl rfl rfl) rfl rfl (rd_aggE eg73 rfl K rfl rfl (eqr73 _ _ _ _ _ _)) ?_; clear K; intro a K
        refine T_rd K (want_no rfl) rfl rfl (rd_pickT rfl K rfl rfl) ?_; clear K; intro a K
        refine T_rd K (want_no rfl) rfl rfl (rd_move rfl K rfl) ?_; clear K; intro a K
        rcases Bool.eq_false_or_eq_true (decide (e.1 = 10) && decide (e.2.1 = 32767) && decide (e.2.2 = 7)) with hb | hb
        · have h := ctrue hb h
          have K := K.reb (s := 35) rfl hb
          refine T_rd K (K.yes rfl rfl rfl) rfl rfl (rd_ldA rfl ty24 K rfl (inM 0 rfl) rfl rfl) ?_; clear K; intro a K
          obtain ⟨r5, h_r5, h⟩ := obind h
          refine T_ac K (K.yes rfl rfl rfl) rfl rfl (ac_call (vs := []) (cap := []) rfl fok61 K rfl rfl (W_darkslidelaw_small N  _  r5 h_r5)) ?_
          have M0 := M; clear K M; rintro _ a w ⟨A4, c4, rfl, M⟩ K
          have M := M0.call M
          clear M0
          refine ⟨M.pick [1,2,3,4,5] (by decide), ?_⟩
          obtain ⟨r6, h_r6, h⟩ := obind h
          refine T_ac K (K.yes rfl rfl rfl) rfl rfl (ac_call (vs := [.agg #[.int .i64 r4.1, .int .i64 r4.2.1, .slice A3 r4.2.2.1.length c3], .agg #[.int .i64 r5.1, .int .i64 r5.2.1, .slice A4 r5.2.2.length c4]]) (cap := []) rfl fok18 K rfl rfl (W_darkslideref_SamePlanes N r4.1 r4.2.1 r4.2.2.1 A3 c3 r5.1 r5.2.1 r5.2.2 A4 c4 _ ((inR (C := (cI .i64)) 2 rfl rfl) _ M) (M.cap 2 rfl) ((inR (C := (cI .i64)) 0 rfl rfl) _ M) (M.cap 0 rfl) r6 h_r6)) ?_
          have M0 := M; clear K M; rintro _ a w ⟨rfl, M⟩ K
          have M := M0.call M
          clear M0
          refine ⟨M.pick [1,2,3,4,5] (by decide), ?_⟩
          refine T_rd K (want_no rfl) rfl rfl (rd_pickT rfl K rfl rfl) ?_; clear K; intro a K
          refine T_rd K (want_no rfl) rfl rfl (rd_assign rfl K rfl) ?_; clear K; intro a K
          refine T_end ?_
          refine then_n ?_
          refine wp_ret ?_
          cases h
          exact ret1 K rfl (res_tmp K rfl) ⟨_, rfl, rfl, ((M).pick [] (by decide))⟩
        · have h := cfalse hb h
          have K := K.reb (s := 35) rfl hb
          refine T_no K (K.no rfl rfl rfl rfl) rfl rfl ?_; clear K; intro a K
          refine T_no1 K (K.no rfl rfl rfl rfl) rfl rfl (M.pick [0,1,2,3,4] (by decide)) ?_; clear K; intro a K
          refine T_no1 K (K.no rfl rfl rfl rfl) rfl rfl (M.pick [0,1,2,3,4] (by decide)) ?_; clear K; intro a K
          refine T_rd K (want_no rfl) rfl rfl (rd_pickF rfl K rfl rfl) ?_; clear K; intro a K
          refine T_rd K (want_no rfl) rfl rfl (rd_assign rfl K rfl) ?_; clear K; intro a K
          refine T_end ?_
          refine then_n ?_
          refine wp_ret ?_
          cases h
          exact ret1 K rfl (res_tmp K rfl) ⟨_, rfl, rfl, ((M).pick [] (by decide))⟩
      · have h := cfalse hb h
        have K := K.reb (s := 27) rfl hb
        refine T_no K (K.no rfl rfl rfl rfl) rfl rfl ?_; clear K; intro a K
        refine T_no K (K.no rfl rfl rfl rfl) rfl rfl ?_; clear K; intro a K
        refine T_no K (K.no rfl rfl rfl rfl) rfl rfl ?_; clear K; intro a K
        refine T_no K (K.no rfl rfl rfl rfl) rfl rfl ?_; clear K; intro a K
        refine T_no K (K.no rfl rfl rfl rfl) rfl rfl ?_; clear K; intro a K
        refine T_no K (K.no rfl rfl rfl rfl) rfl rfl ?_; clear K; intro a K
        refine T_rd K (want_no rfl) rfl rfl (rd_pickF rfl K rfl rfl) ?_; clear K; intro a K
        refine T_rd K (want_no rfl) rfl rfl (rd_move rfl K rfl) ?_; clear K; intro a K
        refine T_no K (K.no rfl rfl rfl rfl) rfl rfl ?_; clear K; intro a K
        refine T_no1 K (K.no rfl rfl rfl rfl) rfl rfl (M.pick [0,1,2,3,4] (by decide)) ?_; clear K; intro a K
        refine T_no1 K (K.no rfl rfl rfl rfl) rfl rfl (M.pick [0,1,2,3,4] (by decide)) ?_; clear K; intro a K
        refine T_rd K (want_no rfl) rfl rfl (rd_pickF rfl K rfl rfl) ?_; clear K; intro a K
        refine T_rd K (want_no rfl) rfl rfl (rd_assign rfl K rfl) ?_; clear K; intro a K
        refine T_end ?_
        refine then_n ?_
        refine wp_ret ?_
        cases h
        exact ret1 K rfl (res_tmp K rfl) ⟨_, rfl, rfl, ((M).pick [] (by decide))⟩
    · have h := cfalse hb h
      have K := K.reb (s := 21) rfl hb
      refine T_no K (K.no rfl rfl rfl rfl) rfl rfl ?_; clear K; intro a K
      refine T_no K (K.no rfl rfl rfl rfl) rfl rfl ?_; clear K; intro a K
      refine T_no K (K.no rfl rfl rfl rfl) rfl rfl ?_; clear K; intro a K
      refine T_no K (K.no rfl rfl rfl rfl) rfl rfl ?_; clear K; intro a K
      refine T_rd K (want_no rfl) rfl rfl (rd_pickF rfl K rfl rfl) ?_; clear K; intro a K
      refine T_rd K (want_no rfl) rfl rfl (rd_move rfl K rfl) ?_; clear K; intro a K
      refine T_no K (K.no rfl rfl rfl rfl) rfl rfl ?_; clear K; intro a K
      refine T_no K (K.no rfl rfl rfl rfl) rfl rfl ?_; clear K; intro a K
      refine T_no K (K.no rfl rfl rfl rfl) rfl rfl ?_; clear K; intro a K
      refine T_no K (K.no rfl rfl rfl rfl) rfl rfl ?_; clear K; intro a K
      refine T_no K (K.no rfl rfl rfl rfl) rfl rfl ?_; clear K; intro a K
      refine T_no K (K.no rfl rfl rfl rfl) rfl rfl ?_; clear K; intro a K
      refine T_rd K (want_no rfl) rfl rfl (rd_pickF rfl K rfl rfl) ?_; clear K; intro a K
      refine T_rd K (want_no rfl) rfl rfl (rd_move rfl K rfl) ?_; clear K; intro a K
      refine T_no K (K.no rfl rfl rfl rfl) rfl rfl ?_; clear K; intro a K
      refine T_no1 K (K.no rfl rfl rfl rfl) rfl rfl (M.pick [0,1,2,3,4] (by decide)) ?_; clear K; intro a K
      refine T_no1 K (K.no rfl rfl rfl rfl) rfl rfl (M.pick [0,1,2,3,4] (by decide)) ?_; clear K; intro a K
      refine T_rd K (want_no rfl) rfl rfl (rd_pickF rfl K rfl rfl) ?_; clear K; intro a K
      refine T_rd K (want_no rfl) rfl rfl (rd_assign rfl K rfl) ?_; clear K; intro a K
      refine T_end ?_
      refine then_n ?_
      refine wp_ret ?_
      cases h
      exact ret1 K rfl (res_tmp K rfl) ⟨_, rfl, rfl, ((M).pick [] (by decide))⟩
  · have h := cfalse hb h
    have K := K.reb (s := 17) rfl hb
    refine T_no K (K.no rfl rfl rfl rfl) rfl rfl ?_; clear K; intro a K
    refine T_no K (K.no rfl rfl rfl rfl) rfl rfl ?_; clear K; intro a K
    refine T_rd K (want_no rfl) rfl rfl (rd_pickF rfl K rfl rfl) ?_; clear K; intro a K
    refine T_rd K (want_no rfl) rfl rfl (rd_move rfl K rfl) ?_; clear K; intro a K
    refine T_no K (K.no rfl rfl rfl rfl) rfl rfl ?_; clear K; intro a K
    refine T_no K (K.no rfl rfl rfl rfl) rfl rfl ?_; clear K; intro a K
    refine T_no K (K.no rfl rfl rfl rfl) rfl rfl ?_; clear K; intro a K
    refine T_no K (K.no rfl rfl rfl rfl) rfl rfl ?_; clear K; intro a K
    refine T_rd K (want_no rfl) rfl rfl (rd_pickF rfl K rfl rfl) ?_; clear K; intro a K
    refine T_rd K (want_no rfl) rfl rfl (rd_move rfl K rfl) ?_; clear K; intro a K
    refine T_no K (K.no rfl rfl rfl rfl) rfl rfl ?_; clear K; intro a K
    refine T_no K (K.no rfl rfl rfl rfl) rfl rfl ?_; clear K; intro a K
    refine T_no K (K.no rfl rfl rfl rfl) rfl rfl ?_; clear K; intro a K
    refine T_no K (K.no rfl rfl rfl rfl) rfl rfl ?_; clear K; intro a K
    refine T_no K (K.no rfl rfl rfl rfl) rfl rfl ?_; clear K; intro a K
    refine T_no K (K.no rfl rfl rfl rfl) rfl rfl ?_; clear K; intro a K
    refine T_rd K (want_no rfl) rfl rfl (rd_pickF rfl K rfl rfl) ?_; clear K; intro a K
    refine T_rd K (want_no rfl) rfl rfl (rd_move rfl K rfl) ?_; clear K; intro a K
    refine T_no K (K.no rfl rfl rfl rfl) rfl rfl ?_; clear K; intro a K
    refine T_no1 K (K.no rfl rfl rfl rfl) rfl rfl (M.pick [0,1,2,3,4] (by decide)) ?_; clear K; intro a K
    refine T_no1 K (K.no rfl rfl rfl rfl) rfl rfl (M.pick [0,1,2,3,4] (by decide)) ?_; clear K; intro a K
    refine T_rd K (want_no rfl) rfl rfl (rd_pickF rfl K rfl rfl) ?_; clear K; intro a K
    refine T_rd K (want_no rfl) rfl rfl (rd_assign rfl K rfl) ?_; clear K; intro a K
    refine T_end ?_
    refine then_n ?_
    refine wp_ret ?_
    cases h
    exact ret1 K rfl (res_tmp K rfl) ⟨_, rfl, rfl, ((M).pick [] (by decide))⟩

end Go.Proofs.Ytpmnfhifmmfglaa
