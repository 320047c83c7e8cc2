/- Printed by a program (walk.py): the walks of darkslidelaw_MosaicFills: each function computes what its plain program tells. -/
import Derived.Test.YtpmnfhifmmfglaaFacts
import Derived.Test.YtpmnfhifmmfglaaDD
import Derived.Test.YtpmnfhifmmfglaaWLawMosaicbegun
import Derived.Test.YtpmnfhifmmfglaaWMosaic
import Derived.Test.YtpmnfhifmmfglaaWRefFilled
import Derived.Test.YtpmnfhifmmfglaaWRefPicturefine
import Derived.Test.YtpmnfhifmmfglaaWRefPlanefine
import Derived.Test.YtpmnfhifmmfglaaWRefSamepictures
import Derived.Test.YtpmnfhifmmfglaaWRefSameplanes
import Derived.Test.YtpmnfhifmmfglaaWRefTaken
set_option linter.unusedVariables false
set_option linter.unusedSimpArgs false
set_option linter.unusedSectionVars false
namespace Go.Proofs.Ytpmnfhifmmfglaa
open Go.RowKit

set_option maxRecDepth 100000 in
set_option maxHeartbeats 4000000 in
theorem W_darkslidelaw_MosaicFills (N : Nat) (d_W : Int) (d_H : Int) (d_P : List Int) (A_d_P : Option Addr) (c_d_P : Nat) (o_W : Int) (o_H : Int) (o_P : List (Int × Int × Int)) (A_o_P : Option Addr) (c_o_P : Nat) (p2 : Int) (w0 : World) (R_d_P : SL w0 (cI .i64) A_d_P d_P) (C_d_P : d_P.length ≤ c_d_P) (R_o_P : SL w0 cIII A_o_P o_P) (C_o_P : o_P.length ≤ c_o_P) (r : Bool) (h : D_darkslidelaw_MosaicFills N d_W d_H d_P o_W o_H o_P p2 = some r) :
    Calls Try.prog 9 #[.agg #[.int .i64 d_W, .int .i64 d_H, .slice A_d_P d_P.length c_d_P], .agg #[.int .i64 o_W, .int .i64 o_H, .slice A_o_P o_P.length c_o_P], .int .i64 p2] w0 fun e w' => ∃ v, e = .returned v ∧ v = .bool r ∧ Mem w0.heap.size w0 w' [] := by
  refine X_enter Try.func9 rfl Try.ntmps9 rfl ?_
  intro a K
  have M := Mem.start w0
  have K : Kn a 67 [(0, .agg #[.int .i64 d_W, .int .i64 d_H, .slice A_d_P d_P.length c_d_P]), (1, .agg #[.int .i64 o_W, .int .i64 o_H, .slice A_o_P o_P.length c_o_P]), (2, .int .i64 p2)] := K
  unfold D_darkslidelaw_MosaicFills at h
  refine wp_seq ?_
  refine X_reg ?_
  refine X_ac K (want_no rfl) rfl rfl (ac_box rfl K rfl (cs := [.int .i64 d_W, .int .i64 d_H, .slice A_d_P d_P.length c_d_P]) rfl M) ?_
  have M0 := M; clear K M; rintro _ a w ⟨g_x, rfl, M⟩ K
  clear M0
  refine X_ac K (want_no rfl) rfl rfl (ac_box rfl K rfl (cs := [.int .i64 o_W, .int .i64 o_H, .slice A_o_P o_P.length c_o_P]) rfl M) ?_
  have M0 := M; clear K M; rintro _ a w ⟨g_x2, rfl, M⟩ K
  clear M0
  refine X_rd K (want_no rfl) rfl rfl (rd_assign rfl K rfl) M ?_; clear K; intro a K
  refine wpList_nil ?_
  refine then_n ?_
  refine wp_seq ?_
  refine X_reg ?_
  refine X_rd K (want_no rfl) rfl rfl (rd_ldA rfl ty24 K rfl (inM 1 rfl) rfl rfl) M ?_; clear K; intro a K
  refine X_rd K (want_no rfl) rfl rfl (rd_move rfl K rfl) M ?_; clear K; intro a K
  obtain ⟨r2, h_r2, h⟩ := obind h
  refine X_ac K (want_no rfl) rfl rfl (ac_call (vs := [.agg #[.int .i64 d_W, .int .i64 d_H, .slice A_d_P d_P.length c_d_P], .int .i64 p2]) (cap := []) rfl fok38 K rfl rfl (W_mosaic_Fill N d_W d_H d_P A_d_P c_d_P p2 _ ((inA R_d_P) _ M) C_d_P r2 h_r2)) ?_
  have M0 := M; clear K M; rintro _ a w ⟨A, c, rfl, M⟩ K
  have M := M0.call M
  clear M0
  refine X_rd K (want_no rfl) rfl rfl (rd_move rfl K rfl) M ?_; clear K; intro a K
  refine X_rd K (want_no rfl) rfl rfl (rd_extract rfl K rfl rfl) M ?_; clear K; intro a K
  refine X_rd K (want_no rfl) rfl rfl (rd_extract rfl K rfl rfl) M ?_; clear K; intro a K
  refine X_ac K (want_no rfl) rfl rfl (ac_alloc rfl z49 M) ?_
  have M0 := M; clear K M; rintro _ a w ⟨g_x3, rfl, M⟩ K
  clear M0
  refine X_a0 K (want_no rfl) rfl (ac_storeA rfl ty49 K rfl (ds := [.int .i64 r2.1, .int .i64 r2.2.1, .slice A r2.2.2.1.length c]) rfl rfl 0 M rfl rfl rfl) ?_
  have M0 := M; clear K M; rintro _ a w M K
  clear M0
  refine X_rd K (want_no rfl) rfl rfl (rd_assign rfl K rfl) M ?_; clear K; intro a K
  refine wpList_nil ?_
  refine then_n ?_
  refine wp_seq ?_
  refine X_reg ?_
  refine X_rd K (want_no rfl) rfl rfl (rd_ldA rfl ty49 K rfl (inM 2 rfl) rfl rfl) M ?_; clear K; intro a K
  refine X_rd K (want_no rfl) rfl rfl (rd_move rfl K rfl) M ?_; clear K; intro a K
  obtain ⟨r3, h_r3, h⟩ := obind h
  refine X_ac K (want_no rfl) rfl rfl (ac_call (vs := [.agg #[.int .i64 o_W, .int .i64 o_H, .slice A_o_P o_P.length c_o_P], .int .i64 p2]) (cap := []) rfl fok39 K rfl rfl (W_mosaic_Take N o_W o_H o_P A_o_P c_o_P p2 _ ((inA R_o_P) _ M) C_o_P r3 h_r3)) ?_
  have M0 := M; clear K M; rintro _ a w ⟨A2, c2, rfl, M⟩ K
  have M := M0.call M
  clear M0
  refine X_rd K (want_no rfl) rfl rfl (rd_move rfl K rfl) M ?_; clear K; intro a K
  refine X_rd K (want_no rfl) rfl rfl (rd_extract rfl K rfl rfl) M ?_; clear K; intro a K
  refine X_rd K (want_no rfl) rfl rfl (rd_extract rfl K rfl rfl) M ?_; clear K; intro a K
  refine X_ac K (want_no rfl) rfl rfl (ac_alloc rfl z24 M) ?_
  have M0 := M; clear K M; rintro _ a w ⟨g_x4, rfl, M⟩ K
  clear M0
  refine X_a0 K (want_no rfl) rfl (ac_storeA rfl ty24 K rfl (ds := [.int .i64 r3.1, .int .i64 r3.2.1, .slice A2 r3.2.2.1.length c2]) rfl rfl 0 M rfl rfl rfl) ?_
  have M0 := M; clear K M; rintro _ a w M K
  clear M0
  refine X_rd K (want_no rfl) rfl rfl (rd_assign rfl K rfl) M ?_; clear K; intro a K
  refine wpList_nil ?_
  refine then_n ?_
  refine wp_seq ?_
  refine X_reg ?_
  refine X_rd K (want_no rfl) rfl rfl (rd_assign rfl K rfl) M ?_; clear K; intro a K
  refine X_rd K (want_no rfl) rfl rfl (rd_assign rfl K rfl) M ?_; clear K; intro a K
  refine wpList_nil ?_
  refine then_n ?_
  refine wp_seq ?_
  refine X_reg ?_
  refine X_ac K (want_no rfl) rfl rfl (ac_alloc rfl z49 M) ?_
  have M0 := M; clear K M; rintro _ a w ⟨g_x5, rfl, M⟩ K
  clear M0
  refine wpList_nil ?_
  refine then_n ?_
  refine wp_seq ?_
  refine X_reg ?_
  refine X_ac K (want_no rfl) rfl rfl (ac_alloc rfl z24 M) ?_
  have M0 := M; clear K M; rintro _ a w ⟨g_x6, rfl, M⟩ K
  clear M0
  refine wpList_nil ?_
  refine then_n ?_
  refine wp_seq ?_
  refine X_reg ?_
  refine X_rd K (want_no rfl) rfl rfl (rd_move rfl K rfl) M ?_; clear K; intro a K
  refine X_rd K (want_no rfl) rfl rfl (rd_geq rfl K rfl rfl) M ?_; clear K; intro a K
  refine X_rd K (want_no rfl) rfl rfl (rd_move rfl K rfl) M ?_; clear K; intro a K
  rcases Bool.eq_false_or_eq_true (decide (0 ≤ p2)) with hb | hb
  · have h := ctrue hb h
    have K := K.reb (s := 30) rfl hb
    refine X_rd K (K.yes rfl rfl rfl) rfl rfl (rd_move rfl K rfl) M ?_; clear K; intro a K
    refine X_rd K (K.yes rfl rfl rfl) rfl rfl (rd_leq rfl K rfl rfl) M ?_; clear K; intro a K
    refine X_rd K (want_no rfl) rfl rfl (rd_pickT rfl K rfl rfl) M ?_; clear K; intro a K
    refine X_rd K (want_no rfl) rfl rfl (rd_assign rfl K rfl) M ?_; clear K; intro a K
    refine wpList_nil ?_
    refine then_n ?_
    refine wp_seq ?_
    refine wp_seq ?_
    refine X_reg ?_
    refine X_rd K (want_no rfl) rfl rfl (rd_ldA rfl ty24 K rfl (inM 7 rfl) rfl rfl) M ?_; clear K; intro a K
    obtain ⟨r4, h_r4, h⟩ := obind h
    refine X_ac K (want_no rfl) rfl rfl (ac_call (vs := [.agg #[.int .i64 d_W, .int .i64 d_H, .slice A_d_P d_P.length c_d_P]]) (cap := []) rfl fok40 K rfl rfl (W_darkslideref_PlaneFine N d_W d_H d_P A_d_P c_d_P _ ((inA R_d_P) _ M) C_d_P r4 h_r4)) ?_
    have M0 := M; clear K M; rintro _ a w ⟨rfl, M⟩ K
    have M := M0.call M
    clear M0
    refine wpList_nil ?_
    refine then_n ?_
    refine X_cond K rfl (fun hb => ?_) (fun hb => ?_)
    · have h := ctrue hb h
      refine wp_seq ?_
      refine X_reg ?_
      refine X_rd K (want_no rfl) rfl rfl (rd_assign rfl K rfl) M ?_; clear K; intro a K
      refine wpList_nil ?_
      refine then_n ?_
      refine wp_seq ?_
      refine X_reg ?_
      refine X_rd K (want_no rfl) rfl rfl (rd_move rfl K rfl) M ?_; clear K; intro a K
      refine wpList_nil ?_
      refine then_n ?_
      refine X_cond K rfl (fun hb => ?_) (fun hb => ?_)
      · have h := ctrue hb h
        refine X_reg ?_
        refine X_rd K (want_no rfl) rfl rfl (rd_ldA rfl ty24 K rfl (inM 7 rfl) rfl rfl) M ?_; clear K; intro a K
        refine X_rd K (want_no rfl) rfl rfl (rd_move rfl K rfl) M ?_; clear K; intro a K
        obtain ⟨r5, h_r5, h⟩ := obind h
        refine X_ac K (want_no rfl) rfl rfl (ac_call (vs := [.agg #[.int .i64 d_W, .int .i64 d_H, .slice A_d_P d_P.length c_d_P], .int .i64 p2]) (cap := []) rfl fok41 K rfl rfl (W_darkslideref_Filled N d_W d_H d_P A_d_P c_d_P p2 _ ((inA R_d_P) _ M) C_d_P r5 h_r5)) ?_
        have M0 := M; clear K M; rintro _ a w ⟨A3, c3, rfl, M⟩ K
        have M := M0.call M
        clear M0
        refine X_a0 K (want_no rfl) rfl (ac_storeA rfl ty49 K rfl (ds := [.int .i64 r5.1, .int .i64 r5.2.1, .slice A3 r5.2.2.length c3]) rfl rfl 2 M rfl rfl rfl) ?_
        have M0 := M; clear K M; rintro _ a w M K
        clear M0
        refine X_rd K (want_no rfl) rfl rfl (rd_assign rfl K rfl) M ?_; clear K; intro a K
        refine wpList_nil ?_
        refine then_n ?_
        refine wp_seq ?_
        refine wp_seq ?_
        refine X_reg ?_
        refine X_rd K (want_no rfl) rfl rfl (rd_ldA rfl ty49 K rfl (inM 7 rfl) rfl rfl) M ?_; clear K; intro a K
        obtain ⟨r6, h_r6, h⟩ := obind h
        refine X_ac K (want_no rfl) rfl rfl (ac_call (vs := [.agg #[.int .i64 o_W, .int .i64 o_H, .slice A_o_P o_P.length c_o_P]]) (cap := []) rfl fok35 K rfl rfl (W_darkslideref_PictureFine N o_W o_H o_P A_o_P c_o_P _ ((inA R_o_P) _ M) C_o_P r6 h_r6)) ?_
        have M0 := M; clear K M; rintro _ a w ⟨rfl, M⟩ K
        have M := M0.call M
        clear M0
        refine wpList_nil ?_
        refine then_n ?_
        refine X_cond K rfl (fun hb => ?_) (fun hb => ?_)
        · have h := ctrue hb h
          refine wp_seq ?_
          refine X_reg ?_
          refine X_rd K (want_no rfl) rfl rfl (rd_assign rfl K rfl) M ?_; clear K; intro a K
          refine wpList_nil ?_
          refine then_n ?_
          refine wp_seq ?_
          refine X_reg ?_
          refine X_rd K (want_no rfl) rfl rfl (rd_move rfl K rfl) M ?_; clear K; intro a K
          refine wpList_nil ?_
          refine then_n ?_
          refine X_cond K rfl (fun hb => ?_) (fun hb => ?_)
          · have h := ctrue hb h
            refine X_reg ?_
            refine X_rd K (want_no rfl) rfl rfl (rd_ldA rfl ty49 K rfl (inM 7 rfl) rfl rfl) M ?_; clear K; intro a K
            refine X_rd K (want_no rfl) rfl rfl (rd_move rfl K rfl) M ?_; clear K; intro a K
            obtain ⟨r7, h_r7, h⟩ := obind h
            refine X_ac K (want_no rfl) rfl rfl (ac_call (vs := [.agg #[.int .i64 o_W, .int .i64 o_H, .slice A_o_P o_P.length c_o_P], .int .i64 p2]) (cap := []) rfl fok42 K rfl rfl (W_darkslideref_Taken N o_W o_H o_P A_o_P c_o_P p2 _ ((inA R_o_P) _ M) C_o_P r7 h_r7)) ?_
            have M0 := M; clear K M; rintro _ a w ⟨A4, c4, rfl, M⟩ K
            have M := M0.call M
            clear M0
            refine X_a0 K (want_no rfl) rfl (ac_storeA rfl ty24 K rfl (ds := [.int .i64 r7.1, .int .i64 r7.2.1, .slice A4 r7.2.2.length c4]) rfl rfl 2 M rfl rfl rfl) ?_
            have M0 := M; clear K M; rintro _ a w M K
            clear M0
            refine X_rd K (want_no rfl) rfl rfl (rd_assign rfl K rfl) M ?_; clear K; intro a K
            refine wpList_nil ?_
            refine then_n ?_
            refine wp_seq ?_
            refine X_reg ?_
            obtain ⟨r8, h_r8, h⟩ := obind h
            refine X_ac K (want_no rfl) rfl rfl (ac_call (vs := []) (cap := []) rfl fok43 K rfl rfl (W_darkslidelaw_mosaicBegun N  _  r8 h_r8)) ?_
            have M0 := M; clear K M; rintro _ a w ⟨rfl, M⟩ K
            have M := M0.call M
            clear M0
            refine X_rd K (want_no rfl) rfl rfl (rd_move rfl K rfl) M ?_; clear K; intro a K
            rcases Bool.eq_false_or_eq_true (r8) with hb | hb
            · have h := ctrue hb h
              have K := K.reb (s := 47) rfl hb
              refine X_rd K (K.yes rfl rfl rfl) rfl rfl (rd_move rfl K rfl) M ?_; clear K; intro a K
              refine X_rd K (K.yes rfl rfl rfl) rfl rfl (rd_move rfl K rfl) M ?_; clear K; intro a K
              refine X_rd K (K.yes rfl rfl rfl) rfl rfl (rd_eql rfl K rfl rfl) M ?_; clear K; intro a K
              refine X_rd K (want_no rfl) rfl rfl (rd_pickT rfl K rfl rfl) M ?_; clear K; intro a K
              refine X_rd K (want_no rfl) rfl rfl (rd_move rfl K rfl) M ?_; clear K; intro a K
              rcases Bool.eq_false_or_eq_true (decide (r2.2.2.2 = 0)) with hb | hb
              · have h := ctrue hb h
                have K := K.reb (s := 52) rfl hb
                refine X_rd K (K.yes rfl rfl rfl) rfl rfl (rd_move rfl K rfl) M ?_; clear K; intro a K
                refine X_rd K (K.yes rfl rfl rfl) rfl rfl (rd_move rfl K rfl) M ?_; clear K; intro a K
                refine X_rd K (K.yes rfl rfl rfl) rfl rfl (rd_eql rfl K rfl rfl) M ?_; clear K; intro a K
                refine X_rd K (want_no rfl) rfl rfl (rd_pickT rfl K rfl rfl) M ?_; clear K; intro a K
                refine X_rd K (want_no rfl) rfl rfl (rd_move rfl K rfl) M ?_; clear K; intro a K
                rcases Bool.eq_false_or_eq_true (decide (r3.2.2.2 = 0)) with hb | hb
                · have h := ctrue hb h
                  have K := K.reb (s := 57) rfl hb
                  refine X_rd K (K.yes rfl rfl rfl) rfl rfl (rd_ldA rfl ty49 K rfl (inM 6 rfl) rfl rfl) M ?_; clear K; intro a K
                  refine X_rd K (K.yes rfl rfl rfl) rfl rfl (rd_ldA rfl ty49 K rfl (inM 3 rfl) rfl rfl) M ?_; clear K; intro a K
                  obtain ⟨r9, h_r9, h⟩ := obind h
                  refine X_ac K (K.yes rfl rfl rfl) rfl rfl (ac_call (vs := [.agg #[.int .i64 r2.1, .int .i64 r2.2.1, .slice A r2.2.2.1.length c], .agg #[.int .i64 r5.1, .int .i64 r5.2.1, .slice A3 r5.2.2.length c3]]) (cap := []) rfl fok31 K rfl rfl (W_darkslideref_SamePictures N r2.1 r2.2.1 r2.2.2.1 A c r5.1 r5.2.1 r5.2.2 A3 c3 _ ((inR (C := cIII) 7 rfl rfl) _ M) (M.cap 7 rfl) ((inR (C := cIII) 1 rfl rfl) _ M) (M.cap 1 rfl) r9 h_r9)) ?_
                  have M0 := M; clear K M; rintro _ a w ⟨rfl, M⟩ K
                  have M := M0.call M
                  clear M0
                  refine X_rd K (want_no rfl) rfl rfl (rd_pickT rfl K rfl rfl) M ?_; clear K; intro a K
                  refine X_rd K (want_no rfl) rfl rfl (rd_move rfl K rfl) M ?_; clear K; intro a K
                  rcases Bool.eq_false_or_eq_true (r9) with hb | hb
                  · have h := ctrue hb h
                    have K := K.reb (s := 62) rfl hb
                    refine X_rd K (K.yes rfl rfl rfl) rfl rfl (rd_ldA rfl ty24 K rfl (inM 4 rfl) rfl rfl) M ?_; clear K; intro a K
                    refine X_rd K (K.yes rfl rfl rfl) rfl rfl (rd_ldA rfl ty24 K rfl (inM 2 rfl) rfl rfl) M ?_; clear K; intro a K
                    obtain ⟨r10, h_r10, h⟩ := obind h
                    refine X_ac K (K.yes rfl rfl rfl) rfl rfl (ac_call (vs := [.agg #[.int .i64 r3.1, .int .i64 r3.2.1, .slice A2 r3.2.2.1.length c2], .agg #[.int .i64 r7.1, .int .i64 r7.2.1, .slice A4 r7.2.2.length c4]]) (cap := []) rfl fok18 K rfl rfl (W_darkslideref_SamePlanes N r3.1 r3.2.1 r3.2.2.1 A2 c2 r7.1 r7.2.1 r7.2.2 A4 c4 _ ((inR (C := (cI .i64)) 5 rfl rfl) _ M) (M.cap 5 rfl) ((inR (C := (cI .i64)) 0 rfl rfl) _ M) (M.cap 0 rfl) r10 h_r10)) ?_
                    have M0 := M; clear K M; rintro _ a w ⟨rfl, M⟩ K
                    have M := M0.call M
                    clear M0
                    refine X_rd K (want_no rfl) rfl rfl (rd_pickT rfl K rfl rfl) M ?_; clear K; intro a K
                    refine X_rd K (want_no rfl) rfl rfl (rd_assign rfl K rfl) M ?_; clear K; intro a K
                    refine wpList_nil ?_
                    refine then_n ?_
                    refine wp_ret ?_
                    cases h
                    exact ret1 K rfl (res_tmp K rfl) ⟨_, rfl, rfl, ((M).pick [] (by decide))⟩
                  · have h := cfalse hb h
                    have K := K.reb (s := 62) rfl hb
                    refine X_no K (K.no rfl rfl rfl rfl) rfl rfl ?_; clear K; intro a K
                    refine X_no K (K.no rfl rfl rfl rfl) rfl rfl ?_; clear K; intro a K
                    refine X_no K (K.no rfl rfl rfl rfl) rfl rfl ?_; clear K; intro a K
                    refine X_rd K (want_no rfl) rfl rfl (rd_pickF rfl K rfl rfl) M ?_; clear K; intro a K
                    refine X_rd K (want_no rfl) rfl rfl (rd_assign rfl K rfl) M ?_; clear K; intro a K
                    refine wpList_nil ?_
                    refine then_n ?_
                    refine wp_ret ?_
                    cases h
                    exact ret1 K rfl (res_tmp K rfl) ⟨_, rfl, rfl, ((M).pick [] (by decide))⟩
                · have h := cfalse hb h
                  have K := K.reb (s := 57) rfl hb
                  refine X_no K (K.no rfl rfl rfl rfl) rfl rfl ?_; clear K; intro a K
                  refine X_no K (K.no rfl rfl rfl rfl) rfl rfl ?_; clear K; intro a K
                  refine X_no K (K.no rfl rfl rfl rfl) rfl rfl ?_; clear K; intro a K
                  refine X_rd K (want_no rfl) rfl rfl (rd_pickF rfl K rfl rfl) M ?_; clear K; intro a K
                  refine X_rd K (want_no rfl) rfl rfl (rd_move rfl K rfl) M ?_; clear K; intro a K
                  refine X_no K (K.no rfl rfl rfl rfl) rfl rfl ?_; clear K; intro a K
                  refine X_no K (K.no rfl rfl rfl rfl) rfl rfl ?_; clear K; intro a K
                  refine X_no K (K.no rfl rfl rfl rfl) rfl rfl ?_; clear K; intro a K
                  refine X_rd K (want_no rfl) rfl rfl (rd_pickF rfl K rfl rfl) M ?_; clear K; intro a K
                  refine X_rd K (want_no rfl) rfl rfl (rd_assign rfl K rfl) M ?_; clear K; intro a K
                  refine wpList_nil ?_
                  refine then_n ?_
                  refine wp_ret ?_
                  cases h
                  exact ret1 K rfl (res_tmp K rfl) ⟨_, rfl, rfl, ((M).pick [] (by decide))⟩
              · have h := cfalse hb h
                have K := K.reb (s := 52) rfl hb
                refine X_no K (K.no rfl rfl rfl rfl) rfl rfl ?_; clear K; intro a K
                refine X_no K (K.no rfl rfl rfl rfl) rfl rfl ?_; clear K; intro a K
                refine X_no K (K.no rfl rfl rfl rfl) rfl rfl ?_; clear K; intro a K
                refine X_rd K (want_no rfl) rfl rfl (rd_pickF rfl K rfl rfl) M ?_; clear K; intro a K
                refine X_rd K (want_no rfl) rfl rfl (rd_move rfl K rfl) M ?_; clear K; intro a K
                refine X_no K (K.no rfl rfl rfl rfl) rfl rfl ?_; clear K; intro a K
                refine X_no K (K.no rfl rfl rfl rfl) rfl rfl ?_; clear K; intro a K
                refine X_no K (K.no rfl rfl rfl rfl) rfl rfl ?_; clear K; intro a K
                refine X_rd K (want_no rfl) rfl rfl (rd_pickF rfl K rfl rfl) M ?_; clear K; intro a K
                refine X_rd K (want_no rfl) rfl rfl (rd_move rfl K rfl) M ?_; clear K; intro a K
                refine X_no K (K.no rfl rfl rfl rfl) rfl rfl ?_; clear K; intro a K
                refine X_no K (K.no rfl rfl rfl rfl) rfl rfl ?_; clear K; intro a K
                refine X_no K (K.no rfl rfl rfl rfl) rfl rfl ?_; clear K; intro a K
                refine X_rd K (want_no rfl) rfl rfl (rd_pickF rfl K rfl rfl) M ?_; clear K; intro a K
                refine X_rd K (want_no rfl) rfl rfl (rd_assign rfl K rfl) M ?_; clear K; intro a K
                refine wpList_nil ?_
                refine then_n ?_
                refine wp_ret ?_
                cases h
                exact ret1 K rfl (res_tmp K rfl) ⟨_, rfl, rfl, ((M).pick [] (by decide))⟩
            · have h := cfalse hb h
              have K := K.reb (s := 47) rfl hb
              refine X_no K (K.no rfl rfl rfl rfl) rfl rfl ?_; clear K; intro a K
              refine X_no K (K.no rfl rfl rfl rfl) rfl rfl ?_; clear K; intro a K
              refine X_no K (K.no rfl rfl rfl rfl) rfl rfl ?_; clear K; intro a K
              refine X_rd K (want_no rfl) rfl rfl (rd_pickF rfl K rfl rfl) M ?_; clear K; intro a K
              refine X_rd K (want_no rfl) rfl rfl (rd_move rfl K rfl) M ?_; clear K; intro a K
              refine X_no K (K.no rfl rfl rfl rfl) rfl rfl ?_; clear K; intro a K
              refine X_no K (K.no rfl rfl rfl rfl) rfl rfl ?_; clear K; intro a K
              refine X_no K (K.no rfl rfl rfl rfl) rfl rfl ?_; clear K; intro a K
              refine X_rd K (want_no rfl) rfl rfl (rd_pickF rfl K rfl rfl) M ?_; clear K; intro a K
              refine X_rd K (want_no rfl) rfl rfl (rd_move rfl K rfl) M ?_; clear K; intro a K
              refine X_no K (K.no rfl rfl rfl rfl) rfl rfl ?_; clear K; intro a K
              refine X_no K (K.no rfl rfl rfl rfl) rfl rfl ?_; clear K; intro a K
              refine X_no K (K.no rfl rfl rfl rfl) rfl rfl ?_; clear K; intro a K
              refine X_rd K (want_no rfl) rfl rfl (rd_pickF rfl K rfl rfl) M ?_; clear K; intro a K
              refine X_rd K (want_no rfl) rfl rfl (rd_move rfl K rfl) M ?_; clear K; intro a K
              refine X_no K (K.no rfl rfl rfl rfl) rfl rfl ?_; clear K; intro a K
              refine X_no K (K.no rfl rfl rfl rfl) rfl rfl ?_; clear K; intro a K
              refine X_no K (K.no rfl rfl rfl rfl) rfl rfl ?_; clear K; intro a K
              refine X_rd K (want_no rfl) rfl rfl (rd_pickF rfl K rfl rfl) M ?_; clear K; intro a K
              refine X_rd K (want_no rfl) rfl rfl (rd_assign rfl K rfl) M ?_; clear K; intro a K
              refine wpList_nil ?_
              refine then_n ?_
              refine wp_ret ?_
              cases h
              exact ret1 K rfl (res_tmp K rfl) ⟨_, rfl, rfl, ((M).pick [] (by decide))⟩
          · have h := cfalse hb h
            refine wp_skip ?_
            refine then_n ?_
            refine wp_seq ?_
            refine X_reg ?_
            obtain ⟨r11, h_r11, h⟩ := obind h
            refine X_ac K (want_no rfl) rfl rfl (ac_call (vs := []) (cap := []) rfl fok43 K rfl rfl (W_darkslidelaw_mosaicBegun N  _  r11 h_r11)) ?_
            have M0 := M; clear K M; rintro _ a w ⟨rfl, M⟩ K
            have M := M0.call M
            clear M0
            refine X_rd K (want_no rfl) rfl rfl (rd_move rfl K rfl) M ?_; clear K; intro a K
            rcases Bool.eq_false_or_eq_true (r11) with hb | hb
            · have h := ctrue hb h
              have K := K.reb (s := 47) rfl hb
              refine X_rd K (K.yes rfl rfl rfl) rfl rfl (rd_move rfl K rfl) M ?_; clear K; intro a K
              refine X_rd K (K.yes rfl rfl rfl) rfl rfl (rd_move rfl K rfl) M ?_; clear K; intro a K
              refine X_rd K (K.yes rfl rfl rfl) rfl rfl (rd_eql rfl K rfl rfl) M ?_; clear K; intro a K
              refine X_rd K (want_no rfl) rfl rfl (rd_pickT rfl K rfl rfl) M ?_; clear K; intro a K
              refine X_rd K (want_no rfl) rfl rfl (rd_move rfl K rfl) M ?_; clear K; intro a K
              rcases Bool.eq_false_or_eq_true (decide (r2.2.2.2 = 0)) with hb | hb
              · have h := ctrue hb h
                have K := K.reb (s := 52) rfl hb
                refine X_rd K (K.yes rfl rfl rfl) rfl rfl (rd_move rfl K rfl) M ?_; clear K; intro a K
                refine X_rd K (K.yes rfl rfl rfl) rfl rfl (rd_move rfl K rfl) M ?_; clear K; intro a K
                refine X_rd K (K.yes rfl rfl rfl) rfl rfl (rd_eql rfl K rfl rfl) M ?_; clear K; intro a K
                refine X_rd K (want_no rfl) rfl rfl (rd_pickT rfl K rfl rfl) M ?_; clear K; intro a K
                refine X_rd K (want_no rfl) rfl rfl (rd_move rfl K rfl) M ?_; clear K; intro a K
                rcases Bool.eq_false_or_eq_true (decide (r3.2.2.2 = 3)) with hb | hb
                · have h := ctrue hb h
                  have K := K.reb (s := 57) rfl hb
                  refine X_rd K (K.yes rfl rfl rfl) rfl rfl (rd_ldA rfl ty49 K rfl (inM 5 rfl) rfl rfl) M ?_; clear K; intro a K
                  refine X_rd K (K.yes rfl rfl rfl) rfl rfl (rd_ldA rfl ty49 K rfl (inM 2 rfl) rfl rfl) M ?_; clear K; intro a K
                  obtain ⟨r12, h_r12, h⟩ := obind h
                  refine X_ac K (K.yes rfl rfl rfl) rfl rfl (ac_call (vs := [.agg #[.int .i64 r2.1, .int .i64 r2.2.1, .slice A r2.2.2.1.length c], .agg #[.int .i64 r5.1, .int .i64 r5.2.1, .slice A3 r5.2.2.length c3]]) (cap := []) rfl fok31 K rfl rfl (W_darkslideref_SamePictures N r2.1 r2.2.1 r2.2.2.1 A c r5.1 r5.2.1 r5.2.2 A3 c3 _ ((inR (C := cIII) 6 rfl rfl) _ M) (M.cap 6 rfl) ((inR (C := cIII) 0 rfl rfl) _ M) (M.cap 0 rfl) r12 h_r12)) ?_
                  have M0 := M; clear K M; rintro _ a w ⟨rfl, M⟩ K
                  have M := M0.call M
                  clear M0
                  refine X_rd K (want_no rfl) rfl rfl (rd_pickT rfl K rfl rfl) M ?_; clear K; intro a K
                  refine X_rd K (want_no rfl) rfl rfl (rd_move rfl K rfl) M ?_; clear K; intro a K
                  rcases Bool.eq_false_or_eq_true (r12) with hb | hb
                  · have h := ctrue hb h
                    have K := K.reb (s := 62) rfl hb
                    refine X_rd K (K.yes rfl rfl rfl) rfl rfl (rd_ldA rfl ty24 K rfl (inM 3 rfl) rfl rfl) M ?_; clear K; intro a K
                    refine X_rd K (K.yes rfl rfl rfl) rfl rfl (rd_ldA rfl ty24 K rfl (inM 1 rfl) rfl rfl) M ?_; clear K; intro a K
                    obtain ⟨r13, h_r13, h⟩ := obind h
                    refine X_ac K (K.yes rfl rfl rfl) rfl rfl (ac_call (vs := [.agg #[.int .i64 r3.1, .int .i64 r3.2.1, .slice A2 r3.2.2.1.length c2], .agg #[.int .i64 0, .int .i64 0, .slice none ([] : List Int).length 0]]) (cap := []) rfl fok18 K rfl rfl (W_darkslideref_SamePlanes N r3.1 r3.2.1 r3.2.2.1 A2 c2 0 0 ([] : List Int) none 0 _ ((inR (C := (cI .i64)) 4 rfl rfl) _ M) (M.cap 4 rfl) ((fun _ _ => SL.nil) _ M) (Nat.le_refl _) r13 h_r13)) ?_
                    have M0 := M; clear K M; rintro _ a w ⟨rfl, M⟩ K
                    have M := M0.call M
                    clear M0
                    refine X_rd K (want_no rfl) rfl rfl (rd_pickT rfl K rfl rfl) M ?_; clear K; intro a K
                    refine X_rd K (want_no rfl) rfl rfl (rd_assign rfl K rfl) M ?_; clear K; intro a K
                    refine wpList_nil ?_
                    refine then_n ?_
                    refine wp_ret ?_
                    cases h
                    exact ret1 K rfl (res_tmp K rfl) ⟨_, rfl, rfl, ((M).pick [] (by decide))⟩
                  · have h := cfalse hb h
                    have K := K.reb (s := 62) rfl hb
                    refine X_no K (K.no rfl rfl rfl rfl) rfl rfl ?_; clear K; intro a K
                    refine X_no K (K.no rfl rfl rfl rfl) rfl rfl ?_; clear K; intro a K
                    refine X_no K (K.no rfl rfl rfl rfl) rfl rfl ?_; clear K; intro a K
                    refine X_rd K (want_no rfl) rfl rfl (rd_pickF rfl K rfl rfl) M ?_; clear K; intro a K
                    refine X_rd K (want_no rfl) rfl rfl (rd_assign rfl K rfl) M ?_; clear K; intro a K
                    refine wpList_nil ?_
                    refine then_n ?_
                    refine wp_ret ?_
                    cases h
                    exact ret1 K rfl (res_tmp K rfl) ⟨_, rfl, rfl, ((M).pick [] (by decide))⟩
                · have h := cfalse hb h
                  have K := K.reb (s := 57) rfl hb
                  refine X_no K (K.no rfl rfl rfl rfl) rfl rfl ?_; clear K; intro a K
                  refine X_no K (K.no rfl rfl rfl rfl) rfl rfl ?_; clear K; intro a K
                  refine X_no K (K.no rfl rfl rfl rfl) rfl rfl ?_; clear K; intro a K
                  refine X_rd K (want_no rfl) rfl rfl (rd_pickF rfl K rfl rfl) M ?_; clear K; intro a K
                  refine X_rd K (want_no rfl) rfl rfl (rd_move rfl K rfl) M ?_; clear K; intro a K
                  refine X_no K (K.no rfl rfl rfl rfl) rfl rfl ?_; clear K; intro a K
                  refine X_no K (K.no rfl rfl rfl rfl) rfl rfl ?_; clear K; intro a K
                  refine X_no K (K.no rfl rfl rfl rfl) rfl rfl ?_; clear K; intro a K
                  refine X_rd K (want_no rfl) rfl rfl (rd_pickF rfl K rfl rfl) M ?_; clear K; intro a K
                  refine X_rd K (want_no rfl) rfl rfl (rd_assign rfl K rfl) M ?_; clear K; intro a K
                  refine wpList_nil ?_
                  refine then_n ?_
                  refine wp_ret ?_
                  cases h
                  exact ret1 K rfl (res_tmp K rfl) ⟨_, rfl, rfl, ((M).pick [] (by decide))⟩
              · have h := cfalse hb h
                have K := K.reb (s := 52) rfl hb
                refine X_no K (K.no rfl rfl rfl rfl) rfl rfl ?_; clear K; intro a K
                refine X_no K (K.no rfl rfl rfl rfl) rfl rfl ?_; clear K; intro a K
                refine X_no K (K.no rfl rfl rfl rfl) rfl rfl ?_; clear K; intro a K
                refine X_rd K (want_no rfl) rfl rfl (rd_pickF rfl K rfl rfl) M ?_; clear K; intro a K
                refine X_rd K (want_no rfl) rfl rfl (rd_move rfl K rfl) M ?_; clear K; intro a K
                refine X_no K (K.no rfl rfl rfl rfl) rfl rfl ?_; clear K; intro a K
                refine X_no K (K.no rfl rfl rfl rfl) rfl rfl ?_; clear K; intro a K
                refine X_no K (K.no rfl rfl rfl rfl) rfl rfl ?_; clear K; intro a K
                refine X_rd K (want_no rfl) rfl rfl (rd_pickF rfl K rfl rfl) M ?_; clear K; intro a K
                refine X_rd K (want_no rfl) rfl rfl (rd_move rfl K rfl) M ?_; clear K; intro a K
                refine X_no K (K.no rfl rfl rfl rfl) rfl rfl ?_; clear K; intro a K
                refine X_no K (K.no rfl rfl rfl rfl) rfl rfl ?_; clear K; intro a K
                refine X_no K (K.no rfl rfl rfl rfl) rfl rfl ?_; clear K; intro a K
                refine X_rd K (want_no rfl) rfl rfl (rd_pickF rfl K rfl rfl) M ?_; clear K; intro a K
                refine X_rd K (want_no rfl) rfl rfl (rd_assign rfl K rfl) M ?_; clear K; intro a K
                refine wpList_nil ?_
                refine then_n ?_
                refine wp_ret ?_
                cases h
                exact ret1 K rfl (res_tmp K rfl) ⟨_, rfl, rfl, ((M).pick [] (by decide))⟩
            · have h := cfalse hb h
              have K := K.reb (s := 47) rfl hb
              refine X_no K (K.no rfl rfl rfl rfl) rfl rfl ?_; clear K; intro a K
              refine X_no K (K.no rfl rfl rfl rfl) rfl rfl ?_; clear K; intro a K
              refine X_no K (K.no rfl rfl rfl rfl) rfl rfl ?_; clear K; intro a K
              refine X_rd K (want_no rfl) rfl rfl (rd_pickF rfl K rfl rfl) M ?_; clear K; intro a K
              refine X_rd K (want_no rfl) rfl rfl (rd_move rfl K rfl) M ?_; clear K; intro a K
              refine X_no K (K.no rfl rfl rfl rfl) rfl rfl ?_; clear K; intro a K
              refine X_no K (K.no rfl rfl rfl rfl) rfl rfl ?_; clear K; intro a K
              refine X_no K (K.no rfl rfl rfl rfl) rfl rfl ?_; clear K; intro a K
              refine X_rd K (want_no rfl) rfl rfl (rd_pickF rfl K rfl rfl) M ?_; clear K; intro a K
              refine X_rd K (want_no rfl) rfl rfl (rd_move rfl K rfl) M ?_; clear K; intro a K
              refine X_no K (K.no rfl rfl rfl rfl) rfl rfl ?_; clear K; intro a K
              refine X_no K (K.no rfl rfl rfl rfl) rfl rfl ?_; clear K; intro a K
              refine X_no K (K.no rfl rfl rfl rfl) rfl rfl ?_; clear K; intro a K
              refine X_rd K (want_no rfl) rfl rfl (rd_pickF rfl K rfl rfl) M ?_; clear K; intro a K
              refine X_rd K (want_no rfl) rfl rfl (rd_move rfl K rfl) M ?_; clear K; intro a K
              refine X_no K (K.no rfl rfl rfl rfl) rfl rfl ?_; clear K; intro a K
              refine X_no K (K.no rfl rfl rfl rfl) rfl rfl ?_; clear K; intro a K
              refine X_no K (K.no rfl rfl rfl rfl) rfl rfl ?_; clear K; intro a K
              refine X_rd K (want_no rfl) rfl rfl (rd_pickF rfl K rfl rfl) M ?_; clear K; intro a K
              refine X_rd K (want_no rfl) rfl rfl (rd_assign rfl K rfl) M ?_; clear K; intro a K
              refine wpList_nil ?_
              refine then_n ?_
              refine wp_ret ?_
              cases h
              exact ret1 K rfl (res_tmp K rfl) ⟨_, rfl, rfl, ((M).pick [] (by decide))⟩
        · have h := cfalse hb h
          refine wp_skip ?_
          refine then_n ?_
          refine wp_seq ?_
          refine X_reg ?_
          obtain ⟨r14, h_r14, h⟩ := obind h
          refine X_ac K (want_no rfl) rfl rfl (ac_call (vs := []) (cap := []) rfl fok43 K rfl rfl (W_darkslidelaw_mosaicBegun N  _  r14 h_r14)) ?_
          have M0 := M; clear K M; rintro _ a w ⟨rfl, M⟩ K
          have M := M0.call M
          clear M0
          refine X_rd K (want_no rfl) rfl rfl (rd_move rfl K rfl) M ?_; clear K; intro a K
          rcases Bool.eq_false_or_eq_true (r14) with hb | hb
          · have h := ctrue hb h
            have K := K.reb (s := 47) rfl hb
            refine X_rd K (K.yes rfl rfl rfl) rfl rfl (rd_move rfl K rfl) M ?_; clear K; intro a K
            refine X_rd K (K.yes rfl rfl rfl) rfl rfl (rd_move rfl K rfl) M ?_; clear K; intro a K
            refine X_rd K (K.yes rfl rfl rfl) rfl rfl (rd_eql rfl K rfl rfl) M ?_; clear K; intro a K
            refine X_rd K (want_no rfl) rfl rfl (rd_pickT rfl K rfl rfl) M ?_; clear K; intro a K
            refine X_rd K (want_no rfl) rfl rfl (rd_move rfl K rfl) M ?_; clear K; intro a K
            rcases Bool.eq_false_or_eq_true (decide (r2.2.2.2 = 0)) with hb | hb
            · have h := ctrue hb h
              have K := K.reb (s := 52) rfl hb
              refine X_rd K (K.yes rfl rfl rfl) rfl rfl (rd_move rfl K rfl) M ?_; clear K; intro a K
              refine X_rd K (K.yes rfl rfl rfl) rfl rfl (rd_move rfl K rfl) M ?_; clear K; intro a K
              refine X_rd K (K.yes rfl rfl rfl) rfl rfl (rd_eql rfl K rfl rfl) M ?_; clear K; intro a K
              refine X_rd K (want_no rfl) rfl rfl (rd_pickT rfl K rfl rfl) M ?_; clear K; intro a K
              refine X_rd K (want_no rfl) rfl rfl (rd_move rfl K rfl) M ?_; clear K; intro a K
              rcases Bool.eq_false_or_eq_true (decide (r3.2.2.2 = 1)) with hb | hb
              · have h := ctrue hb h
                have K := K.reb (s := 57) rfl hb
                refine X_rd K (K.yes rfl rfl rfl) rfl rfl (rd_ldA rfl ty49 K rfl (inM 5 rfl) rfl rfl) M ?_; clear K; intro a K
                refine X_rd K (K.yes rfl rfl rfl) rfl rfl (rd_ldA rfl ty49 K rfl (inM 2 rfl) rfl rfl) M ?_; clear K; intro a K
                obtain ⟨r15, h_r15, h⟩ := obind h
                refine X_ac K (K.yes rfl rfl rfl) rfl rfl (ac_call (vs := [.agg #[.int .i64 r2.1, .int .i64 r2.2.1, .slice A r2.2.2.1.length c], .agg #[.int .i64 r5.1, .int .i64 r5.2.1, .slice A3 r5.2.2.length c3]]) (cap := []) rfl fok31 K rfl rfl (W_darkslideref_SamePictures N r2.1 r2.2.1 r2.2.2.1 A c r5.1 r5.2.1 r5.2.2 A3 c3 _ ((inR (C := cIII) 6 rfl rfl) _ M) (M.cap 6 rfl) ((inR (C := cIII) 0 rfl rfl) _ M) (M.cap 0 rfl) r15 h_r15)) ?_
                have M0 := M; clear K M; rintro _ a w ⟨rfl, M⟩ K
                have M := M0.call M
                clear M0
                refine X_rd K (want_no rfl) rfl rfl (rd_pickT rfl K rfl rfl) M ?_; clear K; intro a K
                refine X_rd K (want_no rfl) rfl rfl (rd_move rfl K rfl) M ?_; clear K; intro a K
                rcases Bool.eq_false_or_eq_true (r15) with hb | hb
                · have h := ctrue hb h
                  have K := K.reb (s := 62) rfl hb
                  refine X_rd K (K.yes rfl rfl rfl) rfl rfl (rd_ldA rfl ty24 K rfl (inM 3 rfl) rfl rfl) M ?_; clear K; intro a K
                  refine X_rd K (K.yes rfl rfl rfl) rfl rfl (rd_ldA rfl ty24 K rfl (inM 1 rfl) rfl rfl) M ?_; clear K; intro a K
                  obtain ⟨r16, h_r16, h⟩ := obind h
                  refine X_ac K (K.yes rfl rfl rfl) rfl rfl (ac_call (vs := [.agg #[.int .i64 r3.1, .int .i64 r3.2.1, .slice A2 r3.2.2.1.length c2], .agg #[.int .i64 0, .int .i64 0, .slice none ([] : List Int).length 0]]) (cap := []) rfl fok18 K rfl rfl (W_darkslideref_SamePlanes N r3.1 r3.2.1 r3.2.2.1 A2 c2 0 0 ([] : List Int) none 0 _ ((inR (C := (cI .i64)) 4 rfl rfl) _ M) (M.cap 4 rfl) ((fun _ _ => SL.nil) _ M) (Nat.le_refl _) r16 h_r16)) ?_
                  have M0 := M; clear K M; rintro _ a w ⟨rfl, M⟩ K
                  have M := M0.call M
                  clear M0
                  refine X_rd K (want_no rfl) rfl rfl (rd_pickT rfl K rfl rfl) M ?_; clear K; intro a K
                  refine X_rd K (want_no rfl) rfl rfl (rd_assign rfl K rfl) M ?_; clear K; intro a K
                  refine wpList_nil ?_
                  refine then_n ?_
                  refine wp_ret ?_
                  cases h
                  exact ret1 K rfl (res_tmp K rfl) ⟨_, rfl, rfl, ((M).pick [] (by decide))⟩
                · have h := cfalse hb h
                  have K := K.reb (s := 62) rfl hb
                  refine X_no K (K.no rfl rfl rfl rfl) rfl rfl ?_; clear K; intro a K
                  refine X_no K (K.no rfl rfl rfl rfl) rfl rfl ?_; clear K; intro a K
                  refine X_no K (K.no rfl rfl rfl rfl) rfl rfl ?_; clear K; intro a K
                  refine X_rd K (want_no rfl) rfl rfl (rd_pickF rfl K rfl rfl) M ?_; clear K; intro a K
                  refine X_rd K (want_no rfl) rfl rfl (rd_assign rfl K rfl) M ?_; clear K; intro a K
                  refine wpList_nil ?_
                  refine then_n ?_
                  refine wp_ret ?_
                  cases h
                  exact ret1 K rfl (res_tmp K rfl) ⟨_, rfl, rfl, ((M).pick [] (by decide))⟩
              · have h := cfalse hb h
                have K := K.reb (s := 57) rfl hb
                refine X_no K (K.no rfl rfl rfl rfl) rfl rfl ?_; clear K; intro a K
                refine X_no K (K.no rfl rfl rfl rfl) rfl rfl ?_; clear K; intro a K
                refine X_no K (K.no rfl rfl rfl rfl) rfl rfl ?_; clear K; intro a K
                refine X_rd K (want_no rfl) rfl rfl (rd_pickF rfl K rfl rfl) M ?_; clear K; intro a K
                refine X_rd K (want_no rfl) rfl rfl (rd_move rfl K rfl) M ?_; clear K; intro a K
                refine X_no K (K.no rfl rfl rfl rfl) rfl rfl ?_; clear K; intro a K
                refine X_no K (K.no rfl rfl rfl rfl) rfl rfl ?_; clear K; intro a K
                refine X_no K (K.no rfl rfl rfl rfl) rfl rfl ?_; clear K; intro a K
                refine X_rd K (want_no rfl) rfl rfl (rd_pickF rfl K rfl rfl) M ?_; clear K; intro a K
                refine X_rd K (want_no rfl) rfl rfl (rd_assign rfl K rfl) M ?_; clear K; intro a K
                refine wpList_nil ?_
                refine then_n ?_
                refine wp_ret ?_
                cases h
                exact ret1 K rfl (res_tmp K rfl) ⟨_, rfl, rfl, ((M).pick [] (by decide))⟩
            · have h := cfalse hb h
              have K := K.reb (s := 52) rfl hb
              refine X_no K (K.no rfl rfl rfl rfl) rfl rfl ?_; clear K; intro a K
              refine X_no K (K.no rfl rfl rfl rfl) rfl rfl ?_; clear K; intro a K
              refine X_no K (K.no rfl rfl rfl rfl) rfl rfl ?_; clear K; intro a K
              refine X_rd K (want_no rfl) rfl rfl (rd_pickF rfl K rfl rfl) M ?_; clear K; intro a K
              refine X_rd K (want_no rfl) rfl rfl (rd_move rfl K rfl) M ?_; clear K; intro a K
              refine X_no K (K.no rfl rfl rfl rfl) rfl rfl ?_; clear K; intro a K
              refine X_no K (K.no rfl rfl rfl rfl) rfl rfl ?_; clear K; intro a K
              refine X_no K (K.no rfl rfl rfl rfl) rfl rfl ?_; clear K; intro a K
              refine X_rd K (want_no rfl) rfl rfl (rd_pickF rfl K rfl rfl) M ?_; clear K; intro a K
              refine X_rd K (want_no rfl) rfl rfl (rd_move rfl K rfl) M ?_; clear K; intro a K
              refine X_no K (K.no rfl rfl rfl rfl) rfl rfl ?_; clear K; intro a K
              refine X_no K (K.no rfl rfl rfl rfl) rfl rfl ?_; clear K; intro a K
              refine X_no K (K.no rfl rfl rfl rfl) rfl rfl ?_; clear K; intro a K
              refine X_rd K (want_no rfl) rfl rfl (rd_pickF rfl K rfl rfl) M ?_; clear K; intro a K
              refine X_rd K (want_no rfl) rfl rfl (rd_assign rfl K rfl) M ?_; clear K; intro a K
              refine wpList_nil ?_
              refine then_n ?_
              refine wp_ret ?_
              cases h
              exact ret1 K rfl (res_tmp K rfl) ⟨_, rfl, rfl, ((M).pick [] (by decide))⟩
          · have h := cfalse hb h
            have K := K.reb (s := 47) rfl hb
            refine X_no K (K.no rfl rfl rfl rfl) rfl rfl ?_; clear K; intro a K
            refine X_no K (K.no rfl rfl rfl rfl) rfl rfl ?_; clear K; intro a K
            refine X_no K (K.no rfl rfl rfl rfl) rfl rfl ?_; clear K; intro a K
            refine X_rd K (want_no rfl) rfl rfl (rd_pickF rfl K rfl rfl) M ?_; clear K; intro a K
            refine X_rd K (want_no rfl) rfl rfl (rd_move rfl K rfl) M ?_; clear K; intro a K
            refine X_no K (K.no rfl rfl rfl rfl) rfl rfl ?_; clear K; intro a K
            refine X_no K (K.no rfl rfl rfl rfl) rfl rfl ?_; clear K; intro a K
            refine X_no K (K.no rfl rfl rfl rfl) rfl rfl ?_; clear K; intro a K
            refine X_rd K (want_no rfl) rfl rfl (rd_pickF rfl K rfl rfl) M ?_; clear K; intro a K
            refine X_rd K (want_no rfl) rfl rfl (rd_move rfl K rfl) M ?_; clear K; intro a K
            refine X_no K (K.no rfl rfl rfl rfl) rfl rfl ?_; clear K; intro a K
            refine X_no K (K.no rfl rfl rfl rfl) rfl rfl ?_; clear K; intro a K
            refine X_no K (K.no rfl rfl rfl rfl) rfl rfl ?_; clear K; intro a K
            refine X_rd K (want_no rfl) rfl rfl (rd_pickF rfl K rfl rfl) M ?_; clear K; intro a K
            refine X_rd K (want_no rfl) rfl rfl (rd_move rfl K rfl) M ?_; clear K; intro a K
            refine X_no K (K.no rfl rfl rfl rfl) rfl rfl ?_; clear K; intro a K
            refine X_no K (K.no rfl rfl rfl rfl) rfl rfl ?_; clear K; intro a K
            refine X_no K (K.no rfl rfl rfl rfl) rfl rfl ?_; clear K; intro a K
            refine X_rd K (want_no rfl) rfl rfl (rd_pickF rfl K rfl rfl) M ?_; clear K; intro a K
            refine X_rd K (want_no rfl) rfl rfl (rd_assign rfl K rfl) M ?_; clear K; intro a K
            refine wpList_nil ?_
            refine then_n ?_
            refine wp_ret ?_
            cases h
            exact ret1 K rfl (res_tmp K rfl) ⟨_, rfl, rfl, ((M).pick [] (by decide))⟩
      · have h := cfalse hb h
        refine wp_skip ?_
        refine then_n ?_
        refine wp_seq ?_
        refine wp_seq ?_
        refine X_reg ?_
        refine X_rd K (want_no rfl) rfl rfl (rd_ldA rfl ty49 K rfl (inM 6 rfl) rfl rfl) M ?_; clear K; intro a K
        obtain ⟨r17, h_r17, h⟩ := obind h
        refine X_ac K (want_no rfl) rfl rfl (ac_call (vs := [.agg #[.int .i64 o_W, .int .i64 o_H, .slice A_o_P o_P.length c_o_P]]) (cap := []) rfl fok35 K rfl rfl (W_darkslideref_PictureFine N o_W o_H o_P A_o_P c_o_P _ ((inA R_o_P) _ M) C_o_P r17 h_r17)) ?_
        have M0 := M; clear K M; rintro _ a w ⟨rfl, M⟩ K
        have M := M0.call M
        clear M0
        refine wpList_nil ?_
        refine then_n ?_
        refine X_cond K rfl (fun hb => ?_) (fun hb => ?_)
        · have h := ctrue hb h
          refine wp_seq ?_
          refine X_reg ?_
          refine X_rd K (want_no rfl) rfl rfl (rd_assign rfl K rfl) M ?_; clear K; intro a K
          refine wpList_nil ?_
          refine then_n ?_
          refine wp_seq ?_
          refine X_reg ?_
          refine X_rd K (want_no rfl) rfl rfl (rd_move rfl K rfl) M ?_; clear K; intro a K
          refine wpList_nil ?_
          refine then_n ?_
          refine X_cond K rfl (fun hb => ?_) (fun hb => ?_)
          · have h := ctrue hb h
            refine X_reg ?_
            refine X_rd K (want_no rfl) rfl rfl (rd_ldA rfl ty49 K rfl (inM 6 rfl) rfl rfl) M ?_; clear K; intro a K
            refine X_rd K (want_no rfl) rfl rfl (rd_move rfl K rfl) M ?_; clear K; intro a K
            obtain ⟨r18, h_r18, h⟩ := obind h
            refine X_ac K (want_no rfl) rfl rfl (ac_call (vs := [.agg #[.int .i64 o_W, .int .i64 o_H, .slice A_o_P o_P.length c_o_P], .int .i64 p2]) (cap := []) rfl fok42 K rfl rfl (W_darkslideref_Taken N o_W o_H o_P A_o_P c_o_P p2 _ ((inA R_o_P) _ M) C_o_P r18 h_r18)) ?_
            have M0 := M; clear K M; rintro _ a w ⟨A5, c5, rfl, M⟩ K
            have M := M0.call M
            clear M0
            refine X_a0 K (want_no rfl) rfl (ac_storeA rfl ty24 K rfl (ds := [.int .i64 r18.1, .int .i64 r18.2.1, .slice A5 r18.2.2.length c5]) rfl rfl 1 M rfl rfl rfl) ?_
            have M0 := M; clear K M; rintro _ a w M K
            clear M0
            refine X_rd K (want_no rfl) rfl rfl (rd_assign rfl K rfl) M ?_; clear K; intro a K
            refine wpList_nil ?_
            refine then_n ?_
            refine wp_seq ?_
            refine X_reg ?_
            obtain ⟨r19, h_r19, h⟩ := obind h
            refine X_ac K (want_no rfl) rfl rfl (ac_call (vs := []) (cap := []) rfl fok43 K rfl rfl (W_darkslidelaw_mosaicBegun N  _  r19 h_r19)) ?_
            have M0 := M; clear K M; rintro _ a w ⟨rfl, M⟩ K
            have M := M0.call M
            clear M0
            refine X_rd K (want_no rfl) rfl rfl (rd_move rfl K rfl) M ?_; clear K; intro a K
            rcases Bool.eq_false_or_eq_true (r19) with hb | hb
            · have h := ctrue hb h
              have K := K.reb (s := 47) rfl hb
              refine X_rd K (K.yes rfl rfl rfl) rfl rfl (rd_move rfl K rfl) M ?_; clear K; intro a K
              refine X_rd K (K.yes rfl rfl rfl) rfl rfl (rd_move rfl K rfl) M ?_; clear K; intro a K
              refine X_rd K (K.yes rfl rfl rfl) rfl rfl (rd_eql rfl K rfl rfl) M ?_; clear K; intro a K
              refine X_rd K (want_no rfl) rfl rfl (rd_pickT rfl K rfl rfl) M ?_; clear K; intro a K
              refine X_rd K (want_no rfl) rfl rfl (rd_move rfl K rfl) M ?_; clear K; intro a K
              rcases Bool.eq_false_or_eq_true (decide (r2.2.2.2 = 3)) with hb | hb
              · have h := ctrue hb h
                have K := K.reb (s := 52) rfl hb
                refine X_rd K (K.yes rfl rfl rfl) rfl rfl (rd_move rfl K rfl) M ?_; clear K; intro a K
                refine X_rd K (K.yes rfl rfl rfl) rfl rfl (rd_move rfl K rfl) M ?_; clear K; intro a K
                refine X_rd K (K.yes rfl rfl rfl) rfl rfl (rd_eql rfl K rfl rfl) M ?_; clear K; intro a K
                refine X_rd K (want_no rfl) rfl rfl (rd_pickT rfl K rfl rfl) M ?_; clear K; intro a K
                refine X_rd K (want_no rfl) rfl rfl (rd_move rfl K rfl) M ?_; clear K; intro a K
                rcases Bool.eq_false_or_eq_true (decide (r3.2.2.2 = 0)) with hb | hb
                · have h := ctrue hb h
                  have K := K.reb (s := 57) rfl hb
                  refine X_rd K (K.yes rfl rfl rfl) rfl rfl (rd_ldA rfl ty49 K rfl (inM 5 rfl) rfl rfl) M ?_; clear K; intro a K
                  refine X_rd K (K.yes rfl rfl rfl) rfl rfl (rd_ldA rfl ty49 K rfl (inM 2 rfl) rfl rfl) M ?_; clear K; intro a K
                  obtain ⟨r20, h_r20, h⟩ := obind h
                  refine X_ac K (K.yes rfl rfl rfl) rfl rfl (ac_call (vs := [.agg #[.int .i64 r2.1, .int .i64 r2.2.1, .slice A r2.2.2.1.length c], .agg #[.int .i64 0, .int .i64 0, .slice none (([] : List (Int × Int × Int))).length 0]]) (cap := []) rfl fok31 K rfl rfl (W_darkslideref_SamePictures N r2.1 r2.2.1 r2.2.2.1 A c 0 0 (([] : List (Int × Int × Int))) none 0 _ ((inR (C := cIII) 6 rfl rfl) _ M) (M.cap 6 rfl) ((fun _ _ => SL.nil) _ M) (Nat.le_refl _) r20 h_r20)) ?_
                  have M0 := M; clear K M; rintro _ a w ⟨rfl, M⟩ K
                  have M := M0.call M
                  clear M0
                  refine X_rd K (want_no rfl) rfl rfl (rd_pickT rfl K rfl rfl) M ?_; clear K; intro a K
                  refine X_rd K (want_no rfl) rfl rfl (rd_move rfl K rfl) M ?_; clear K; intro a K
                  rcases Bool.eq_false_or_eq_true (r20) with hb | hb
                  · have h := ctrue hb h
                    have K := K.reb (s := 62) rfl hb
                    refine X_rd K (K.yes rfl rfl rfl) rfl rfl (rd_ldA rfl ty24 K rfl (inM 3 rfl) rfl rfl) M ?_; clear K; intro a K
                    refine X_rd K (K.yes rfl rfl rfl) rfl rfl (rd_ldA rfl ty24 K rfl (inM 1 rfl) rfl rfl) M ?_; clear K; intro a K
                    obtain ⟨r21, h_r21, h⟩ := obind h
                    refine X_ac K (K.yes rfl rfl rfl) rfl rfl (ac_call (vs := [.agg #[.int .i64 r3.1, .int .i64 r3.2.1, .slice A2 r3.2.2.1.length c2], .agg #[.int .i64 r18.1, .int .i64 r18.2.1, .slice A5 r18.2.2.length c5]]) (cap := []) rfl fok18 K rfl rfl (W_darkslideref_SamePlanes N r3.1 r3.2.1 r3.2.2.1 A2 c2 r18.1 r18.2.1 r18.2.2 A5 c5 _ ((inR (C := (cI .i64)) 4 rfl rfl) _ M) (M.cap 4 rfl) ((inR (C := (cI .i64)) 0 rfl rfl) _ M) (M.cap 0 rfl) r21 h_r21)) ?_
                    have M0 := M; clear K M; rintro _ a w ⟨rfl, M⟩ K
                    have M := M0.call M
                    clear M0
                    refine X_rd K (want_no rfl) rfl rfl (rd_pickT rfl K rfl rfl) M ?_; clear K; intro a K
                    refine X_rd K (want_no rfl) rfl rfl (rd_assign rfl K rfl) M ?_; clear K; intro a K
                    refine wpList_nil ?_
                    refine then_n ?_
                    refine wp_ret ?_
                    cases h
                    exact ret1 K rfl (res_tmp K rfl) ⟨_, rfl, rfl, ((M).pick [] (by decide))⟩
                  · have h := cfalse hb h
                    have K := K.reb (s := 62) rfl hb
                    refine X_no K (K.no rfl rfl rfl rfl) rfl rfl ?_; clear K; intro a K
                    refine X_no K (K.no rfl rfl rfl rfl) rfl rfl ?_; clear K; intro a K
                    refine X_no K (K.no rfl rfl rfl rfl) rfl rfl ?_; clear K; intro a K
                    refine X_rd K (want_no rfl) rfl rfl (rd_pickF rfl K rfl rfl) M ?_; clear K; intro a K
                    refine X_rd K (want_no rfl) rfl rfl (rd_assign rfl K rfl) M ?_; clear K; intro a K
                    refine wpList_nil ?_
                    refine then_n ?_
                    refine wp_ret ?_
                    cases h
                    exact ret1 K rfl (res_tmp K rfl) ⟨_, rfl, rfl, ((M).pick [] (by decide))⟩
                · have h := cfalse hb h
                  have K := K.reb (s := 57) rfl hb
                  refine X_no K (K.no rfl rfl rfl rfl) rfl rfl ?_; clear K; intro a K
                  refine X_no K (K.no rfl rfl rfl rfl) rfl rfl ?_; clear K; intro a K
                  refine X_no K (K.no rfl rfl rfl rfl) rfl rfl ?_; clear K; intro a K
                  refine X_rd K (want_no rfl) rfl rfl (rd_pickF rfl K rfl rfl) M ?_; clear K; intro a K
                  refine X_rd K (want_no rfl) rfl rfl (rd_move rfl K rfl) M ?_; clear K; intro a K
                  refine X_no K (K.no rfl rfl rfl rfl) rfl rfl ?_; clear K; intro a K
                  refine X_no K (K.no rfl rfl rfl rfl) rfl rfl ?_; clear K; intro a K
                  refine X_no K (K.no rfl rfl rfl rfl) rfl rfl ?_; clear K; intro a K
                  refine X_rd K (want_no rfl) rfl rfl (rd_pickF rfl K rfl rfl) M ?_; clear K; intro a K
                  refine X_rd K (want_no rfl) rfl rfl (rd_assign rfl K rfl) M ?_; clear K; intro a K
                  refine wpList_nil ?_
                  refine then_n ?_
                  refine wp_ret ?_
                  cases h
                  exact ret1 K rfl (res_tmp K rfl) ⟨_, rfl, rfl, ((M).pick [] (by decide))⟩
              · have h := cfalse hb h
                have K := K.reb (s := 52) rfl hb
                refine X_no K (K.no rfl rfl rfl rfl) rfl rfl ?_; clear K; intro a K
                refine X_no K (K.no rfl rfl rfl rfl) rfl rfl ?_; clear K; intro a K
                refine X_no K (K.no rfl rfl rfl rfl) rfl rfl ?_; clear K; intro a K
                refine X_rd K (want_no rfl) rfl rfl (rd_pickF rfl K rfl rfl) M ?_; clear K; intro a K
                refine X_rd K (want_no rfl) rfl rfl (rd_move rfl K rfl) M ?_; clear K; intro a K
                refine X_no K (K.no rfl rfl rfl rfl) rfl rfl ?_; clear K; intro a K
                refine X_no K (K.no rfl rfl rfl rfl) rfl rfl ?_; clear K; intro a K
                refine X_no K (K.no rfl rfl rfl rfl) rfl rfl ?_; clear K; intro a K
                refine X_rd K (want_no rfl) rfl rfl (rd_pickF rfl K rfl rfl) M ?_; clear K; intro a K
                refine X_rd K (want_no rfl) rfl rfl (rd_move rfl K rfl) M ?_; clear K; intro a K
                refine X_no K (K.no rfl rfl rfl rfl) rfl rfl ?_; clear K; intro a K
                refine X_no K (K.no rfl rfl rfl rfl) rfl rfl ?_; clear K; intro a K
                refine X_no K (K.no rfl rfl rfl rfl) rfl rfl ?_; clear K; intro a K
                refine X_rd K (want_no rfl) rfl rfl (rd_pickF rfl K rfl rfl) M ?_; clear K; intro a K
                refine X_rd K (want_no rfl) rfl rfl (rd_assign rfl K rfl) M ?_; clear K; intro a K
                refine wpList_nil ?_
                refine then_n ?_
                refine wp_ret ?_
                cases h
                exact ret1 K rfl (res_tmp K rfl) ⟨_, rfl, rfl, ((M).pick [] (by decide))⟩
            · have h := cfalse hb h
              have K := K.reb (s := 47) rfl hb
              refine X_no K (K.no rfl rfl rfl rfl) rfl rfl ?_; clear K; intro a K
              refine X_no K (K.no rfl rfl rfl rfl) rfl rfl ?_; clear K; intro a K
              refine X_no K (K.no rfl rfl rfl rfl) rfl rfl ?_; clear K; intro a K
              refine X_rd K (want_no rfl) rfl rfl (rd_pickF rfl K rfl rfl) M ?_; clear K; intro a K
              refine X_rd K (want_no rfl) rfl rfl (rd_move rfl K rfl) M ?_; clear K; intro a K
              refine X_no K (K.no rfl rfl rfl rfl) rfl rfl ?_; clear K; intro a K
              refine X_no K (K.no rfl rfl rfl rfl) rfl rfl ?_; clear K; intro a K
              refine X_no K (K.no rfl rfl rfl rfl) rfl rfl ?_; clear K; intro a K
              refine X_rd K (want_no rfl) rfl rfl (rd_pickF rfl K rfl rfl) M ?_; clear K; intro a K
              refine X_rd K (want_no rfl) rfl rfl (rd_move rfl K rfl) M ?_; clear K; intro a K
              refine X_no K (K.no rfl rfl rfl rfl) rfl rfl ?_; clear K; intro a K
              refine X_no K (K.no rfl rfl rfl rfl) rfl rfl ?_; clear K; intro a K
              refine X_no K (K.no rfl rfl rfl rfl) rfl rfl ?_; clear K; intro a K
              refine X_rd K (want_no rfl) rfl rfl (rd_pickF rfl K rfl rfl) M ?_; clear K; intro a K
              refine X_rd K (want_no rfl) rfl rfl (rd_move rfl K rfl) M ?_; clear K; intro a K
              refine X_no K (K.no rfl rfl rfl rfl) rfl rfl ?_; clear K; intro a K
              refine X_no K (K.no rfl rfl rfl rfl) rfl rfl ?_; clear K; intro a K
              refine X_no K (K.no rfl rfl rfl rfl) rfl rfl ?_; clear K; intro a K
              refine X_rd K (want_no rfl) rfl rfl (rd_pickF rfl K rfl rfl) M ?_; clear K; intro a K
              refine X_rd K (want_no rfl) rfl rfl (rd_assign rfl K rfl) M ?_; clear K; intro a K
              refine wpList_nil ?_
              refine then_n ?_
              refine wp_ret ?_
              cases h
              exact ret1 K rfl (res_tmp K rfl) ⟨_, rfl, rfl, ((M).pick [] (by decide))⟩
          · have h := cfalse hb h
            refine wp_skip ?_
            refine then_n ?_
            refine wp_seq ?_
            refine X_reg ?_
            obtain ⟨r22, h_r22, h⟩ := obind h
            refine X_ac K (want_no rfl) rfl rfl (ac_call (vs := []) (cap := []) rfl fok43 K rfl rfl (W_darkslidelaw_mosaicBegun N  _  r22 h_r22)) ?_
            have M0 := M; clear K M; rintro _ a w ⟨rfl, M⟩ K
            have M := M0.call M
            clear M0
            refine X_rd K (want_no rfl) rfl rfl (rd_move rfl K rfl) M ?_; clear K; intro a K
            rcases Bool.eq_false_or_eq_true (r22) with hb | hb
            · have h := ctrue hb h
              have K := K.reb (s := 47) rfl hb
              refine X_rd K (K.yes rfl rfl rfl) rfl rfl (rd_move rfl K rfl) M ?_; clear K; intro a K
              refine X_rd K (K.yes rfl rfl rfl) rfl rfl (rd_move rfl K rfl) M ?_; clear K; intro a K
              refine X_rd K (K.yes rfl rfl rfl) rfl rfl (rd_eql rfl K rfl rfl) M ?_; clear K; intro a K
              refine X_rd K (want_no rfl) rfl rfl (rd_pickT rfl K rfl rfl) M ?_; clear K; intro a K
              refine X_rd K (want_no rfl) rfl rfl (rd_move rfl K rfl) M ?_; clear K; intro a K
              rcases Bool.eq_false_or_eq_true (decide (r2.2.2.2 = 3)) with hb | hb
              · have h := ctrue hb h
                have K := K.reb (s := 52) rfl hb
                refine X_rd K (K.yes rfl rfl rfl) rfl rfl (rd_move rfl K rfl) M ?_; clear K; intro a K
                refine X_rd K (K.yes rfl rfl rfl) rfl rfl (rd_move rfl K rfl) M ?_; clear K; intro a K
                refine X_rd K (K.yes rfl rfl rfl) rfl rfl (rd_eql rfl K rfl rfl) M ?_; clear K; intro a K
                refine X_rd K (want_no rfl) rfl rfl (rd_pickT rfl K rfl rfl) M ?_; clear K; intro a K
                refine X_rd K (want_no rfl) rfl rfl (rd_move rfl K rfl) M ?_; clear K; intro a K
                rcases Bool.eq_false_or_eq_true (decide (r3.2.2.2 = 3)) with hb | hb
                · have h := ctrue hb h
                  have K := K.reb (s := 57) rfl hb
                  refine X_rd K (K.yes rfl rfl rfl) rfl rfl (rd_ldA rfl ty49 K rfl (inM 4 rfl) rfl rfl) M ?_; clear K; intro a K
                  refine X_rd K (K.yes rfl rfl rfl) rfl rfl (rd_ldA rfl ty49 K rfl (inM 1 rfl) rfl rfl) M ?_; clear K; intro a K
                  obtain ⟨r23, h_r23, h⟩ := obind h
                  refine X_ac K (K.yes rfl rfl rfl) rfl rfl (ac_call (vs := [.agg #[.int .i64 r2.1, .int .i64 r2.2.1, .slice A r2.2.2.1.length c], .agg #[.int .i64 0, .int .i64 0, .slice none (([] : List (Int × Int × Int))).length 0]]) (cap := []) rfl fok31 K rfl rfl (W_darkslideref_SamePictures N r2.1 r2.2.1 r2.2.2.1 A c 0 0 (([] : List (Int × Int × Int))) none 0 _ ((inR (C := cIII) 5 rfl rfl) _ M) (M.cap 5 rfl) ((fun _ _ => SL.nil) _ M) (Nat.le_refl _) r23 h_r23)) ?_
                  have M0 := M; clear K M; rintro _ a w ⟨rfl, M⟩ K
                  have M := M0.call M
                  clear M0
                  refine X_rd K (want_no rfl) rfl rfl (rd_pickT rfl K rfl rfl) M ?_; clear K; intro a K
                  refine X_rd K (want_no rfl) rfl rfl (rd_move rfl K rfl) M ?_; clear K; intro a K
                  rcases Bool.eq_false_or_eq_true (r23) with hb | hb
                  · have h := ctrue hb h
                    have K := K.reb (s := 62) rfl hb
                    refine X_rd K (K.yes rfl rfl rfl) rfl rfl (rd_ldA rfl ty24 K rfl (inM 2 rfl) rfl rfl) M ?_; clear K; intro a K
                    refine X_rd K (K.yes rfl rfl rfl) rfl rfl (rd_ldA rfl ty24 K rfl (inM 0 rfl) rfl rfl) M ?_; clear K; intro a K
                    obtain ⟨r24, h_r24, h⟩ := obind h
                    refine X_ac K (K.yes rfl rfl rfl) rfl rfl (ac_call (vs := [.agg #[.int .i64 r3.1, .int .i64 r3.2.1, .slice A2 r3.2.2.1.length c2], .agg #[.int .i64 0, .int .i64 0, .slice none ([] : List Int).length 0]]) (cap := []) rfl fok18 K rfl rfl (W_darkslideref_SamePlanes N r3.1 r3.2.1 r3.2.2.1 A2 c2 0 0 ([] : List Int) none 0 _ ((inR (C := (cI .i64)) 3 rfl rfl) _ M) (M.cap 3 rfl) ((fun _ _ => SL.nil) _ M) (Nat.le_refl _) r24 h_r24)) ?_
                    have M0 := M; clear K M; rintro _ a w ⟨rfl, M⟩ K
                    have M := M0.call M
                    clear M0
                    refine X_rd K (want_no rfl) rfl rfl (rd_pickT rfl K rfl rfl) M ?_; clear K; intro a K
                    refine X_rd K (want_no rfl) rfl rfl (rd_assign rfl K rfl) M ?_; clear K; intro a K
                    refine wpList_nil ?_
                    refine then_n ?_
                    refine wp_ret ?_
                    cases h
                    exact ret1 K rfl (res_tmp K rfl) ⟨_, rfl, rfl, ((M).pick [] (by decide))⟩
                  · have h := cfalse hb h
                    have K := K.reb (s := 62) rfl hb
                    refine X_no K (K.no rfl rfl rfl rfl) rfl rfl ?_; clear K; intro a K
                    refine X_no K (K.no rfl rfl rfl rfl) rfl rfl ?_; clear K; intro a K
                    refine X_no K (K.no rfl rfl rfl rfl) rfl rfl ?_; clear K; intro a K
                    refine X_rd K (want_no rfl) rfl rfl (rd_pickF rfl K rfl rfl) M ?_; clear K; intro a K
                    refine X_rd K (want_no rfl) rfl rfl (rd_assign rfl K rfl) M ?_; clear K; intro a K
                    refine wpList_nil ?_
                    refine then_n ?_
                    refine wp_ret ?_
                    cases h
                    exact ret1 K rfl (res_tmp K rfl) ⟨_, rfl, rfl, ((M).pick [] (by decide))⟩
                · have h := cfalse hb h
                  have K := K.reb (s := 57) rfl hb
                  refine X_no K (K.no rfl rfl rfl rfl) rfl rfl ?_; clear K; intro a K
                  refine X_no K (K.no rfl rfl rfl rfl) rfl rfl ?_; clear K; intro a K
                  refine X_no K (K.no rfl rfl rfl rfl) rfl rfl ?_; clear K; intro a K
                  refine X_rd K (want_no rfl) rfl rfl (rd_pickF rfl K rfl rfl) M ?_; clear K; intro a K
                  refine X_rd K (want_no rfl) rfl rfl (rd_move rfl K rfl) M ?_; clear K; intro a K
                  refine X_no K (K.no rfl rfl rfl rfl) rfl rfl ?_; clear K; intro a K
                  refine X_no K (K.no rfl rfl rfl rfl) rfl rfl ?_; clear K; intro a K
                  refine X_no K (K.no rfl rfl rfl rfl) rfl rfl ?_; clear K; intro a K
                  refine X_rd K (want_no rfl) rfl rfl (rd_pickF rfl K rfl rfl) M ?_; clear K; intro a K
                  refine X_rd K (want_no rfl) rfl rfl (rd_assign rfl K rfl) M ?_; clear K; intro a K
                  refine wpList_nil ?_
                  refine then_n ?_
                  refine wp_ret ?_
                  cases h
                  exact ret1 K rfl (res_tmp K rfl) ⟨_, rfl, rfl, ((M).pick [] (by decide))⟩
              · have h := cfalse hb h
                have K := K.reb (s := 52) rfl hb
                refine X_no K (K.no rfl rfl rfl rfl) rfl rfl ?_; clear K; intro a K
                refine X_no K (K.no rfl rfl rfl rfl) rfl rfl ?_; clear K; intro a K
                refine X_no K (K.no rfl rfl rfl rfl) rfl rfl ?_; clear K; intro a K
                refine X_rd K (want_no rfl) rfl rfl (rd_pickF rfl K rfl rfl) M ?_; clear K; intro a K
                refine X_rd K (want_no rfl) rfl rfl (rd_move rfl K rfl) M ?_; clear K; intro a K
                refine X_no K (K.no rfl rfl rfl rfl) rfl rfl ?_; clear K; intro a K
                refine X_no K (K.no rfl rfl rfl rfl) rfl rfl ?_; clear K; intro a K
                refine X_no K (K.no rfl rfl rfl rfl) rfl rfl ?_; clear K; intro a K
                refine X_rd K (want_no rfl) rfl rfl (rd_pickF rfl K rfl rfl) M ?_; clear K; intro a K
                refine X_rd K (want_no rfl) rfl rfl (rd_move rfl K rfl) M ?_; clear K; intro a K
                refine X_no K (K.no rfl rfl rfl rfl) rfl rfl ?_; clear K; intro a K
                refine X_no K (K.no rfl rfl rfl rfl) rfl rfl ?_; clear K; intro a K
                refine X_no K (K.no rfl rfl rfl rfl) rfl rfl ?_; clear K; intro a K
                refine X_rd K (want_no rfl) rfl rfl (rd_pickF rfl K rfl rfl) M ?_; clear K; intro a K
                refine X_rd K (want_no rfl) rfl rfl (rd_assign rfl K rfl) M ?_; clear K; intro a K
                refine wpList_nil ?_
                refine then_n ?_
                refine wp_ret ?_
                cases h
                exact ret1 K rfl (res_tmp K rfl) ⟨_, rfl, rfl, ((M).pick [] (by decide))⟩
            · have h := cfalse hb h
              have K := K.reb (s := 47) rfl hb
              refine X_no K (K.no rfl rfl rfl rfl) rfl rfl ?_; clear K; intro a K
              refine X_no K (K.no rfl rfl rfl rfl) rfl rfl ?_; clear K; intro a K
              refine X_no K (K.no rfl rfl rfl rfl) rfl rfl ?_; clear K; intro a K
              refine X_rd K (want_no rfl) rfl rfl (rd_pickF rfl K rfl rfl) M ?_; clear K; intro a K
              refine X_rd K (want_no rfl) rfl rfl (rd_move rfl K rfl) M ?_; clear K; intro a K
              refine X_no K (K.no rfl rfl rfl rfl) rfl rfl ?_; clear K; intro a K
              refine X_no K (K.no rfl rfl rfl rfl) rfl rfl ?_; clear K; intro a K
              refine X_no K (K.no rfl rfl rfl rfl) rfl rfl ?_; clear K; intro a K
              refine X_rd K (want_no rfl) rfl rfl (rd_pickF rfl K rfl rfl) M ?_; clear K; intro a K
              refine X_rd K (want_no rfl) rfl rfl (rd_move rfl K rfl) M ?_; clear K; intro a K
              refine X_no K (K.no rfl rfl rfl rfl) rfl rfl ?_; clear K; intro a K
              refine X_no K (K.no rfl rfl rfl rfl) rfl rfl ?_; clear K; intro a K
              refine X_no K (K.no rfl rfl rfl rfl) rfl rfl ?_; clear K; intro a K
              refine X_rd K (want_no rfl) rfl rfl (rd_pickF rfl K rfl rfl) M ?_; clear K; intro a K
              refine X_rd K (want_no rfl) rfl rfl (rd_move rfl K rfl) M ?_; clear K; intro a K
              refine X_no K (K.no rfl rfl rfl rfl) rfl rfl ?_; clear K; intro a K
              refine X_no K (K.no rfl rfl rfl rfl) rfl rfl ?_; clear K; intro a K
              refine X_no K (K.no rfl rfl rfl rfl) rfl rfl ?_; clear K; intro a K
              refine X_rd K (want_no rfl) rfl rfl (rd_pickF rfl K rfl rfl) M ?_; clear K; intro a K
              refine X_rd K (want_no rfl) rfl rfl (rd_assign rfl K rfl) M ?_; clear K; intro a K
              refine wpList_nil ?_
              refine then_n ?_
              refine wp_ret ?_
              cases h
              exact ret1 K rfl (res_tmp K rfl) ⟨_, rfl, rfl, ((M).pick [] (by decide))⟩
        · have h := cfalse hb h
          refine wp_skip ?_
          refine then_n ?_
          refine wp_seq ?_
          refine X_reg ?_
          obtain ⟨r25, h_r25, h⟩ := obind h
          refine X_ac K (want_no rfl) rfl rfl (ac_call (vs := []) (cap := []) rfl fok43 K rfl rfl (W_darkslidelaw_mosaicBegun N  _  r25 h_r25)) ?_
          have M0 := M; clear K M; rintro _ a w ⟨rfl, M⟩ K
          have M := M0.call M
          clear M0
          refine X_rd K (want_no rfl) rfl rfl (rd_move rfl K rfl) M ?_; clear K; intro a K
          rcases Bool.eq_false_or_eq_true (r25) with hb | hb
          · have h := ctrue hb h
            have K := K.reb (s := 47) rfl hb
            refine X_rd K (K.yes rfl rfl rfl) rfl rfl (rd_move rfl K rfl) M ?_; clear K; intro a K
            refine X_rd K (K.yes rfl rfl rfl) rfl rfl (rd_move rfl K rfl) M ?_; clear K; intro a K
            refine X_rd K (K.yes rfl rfl rfl) rfl rfl (rd_eql rfl K rfl rfl) M ?_; clear K; intro a K
            refine X_rd K (want_no rfl) rfl rfl (rd_pickT rfl K rfl rfl) M ?_; clear K; intro a K
            refine X_rd K (want_no rfl) rfl rfl (rd_move rfl K rfl) M ?_; clear K; intro a K
            rcases Bool.eq_false_or_eq_true (decide (r2.2.2.2 = 3)) with hb | hb
            · have h := ctrue hb h
              have K := K.reb (s := 52) rfl hb
              refine X_rd K (K.yes rfl rfl rfl) rfl rfl (rd_move rfl K rfl) M ?_; clear K; intro a K
              refine X_rd K (K.yes rfl rfl rfl) rfl rfl (rd_move rfl K rfl) M ?_; clear K; intro a K
              refine X_rd K (K.yes rfl rfl rfl) rfl rfl (rd_eql rfl K rfl rfl) M ?_; clear K; intro a K
              refine X_rd K (want_no rfl) rfl rfl (rd_pickT rfl K rfl rfl) M ?_; clear K; intro a K
              refine X_rd K (want_no rfl) rfl rfl (rd_move rfl K rfl) M ?_; clear K; intro a K
              rcases Bool.eq_false_or_eq_true (decide (r3.2.2.2 = 1)) with hb | hb
              · have h := ctrue hb h
                have K := K.reb (s := 57) rfl hb
                refine X_rd K (K.yes rfl rfl rfl) rfl rfl (rd_ldA rfl ty49 K rfl (inM 4 rfl) rfl rfl) M ?_; clear K; intro a K
                refine X_rd K (K.yes rfl rfl rfl) rfl rfl (rd_ldA rfl ty49 K rfl (inM 1 rfl) rfl rfl) M ?_; clear K; intro a K
                obtain ⟨r26, h_r26, h⟩ := obind h
                refine X_ac K (K.yes rfl rfl rfl) rfl rfl (ac_call (vs := [.agg #[.int .i64 r2.1, .int .i64 r2.2.1, .slice A r2.2.2.1.length c], .agg #[.int .i64 0, .int .i64 0, .slice none (([] : List (Int × Int × Int))).length 0]]) (cap := []) rfl fok31 K rfl rfl (W_darkslideref_SamePictures N r2.1 r2.2.1 r2.2.2.1 A c 0 0 (([] : List (Int × Int × Int))) none 0 _ ((inR (C := cIII) 5 rfl rfl) _ M) (M.cap 5 rfl) ((fun _ _ => SL.nil) _ M) (Nat.le_refl _) r26 h_r26)) ?_
                have M0 := M; clear K M; rintro _ a w ⟨rfl, M⟩ K
                have M := M0.call M
                clear M0
                refine X_rd K (want_no rfl) rfl rfl (rd_pickT rfl K rfl rfl) M ?_; clear K; intro a K
                refine X_rd K (want_no rfl) rfl rfl (rd_move rfl K rfl) M ?_; clear K; intro a K
                rcases Bool.eq_false_or_eq_true (r26) with hb | hb
                · have h := ctrue hb h
                  have K := K.reb (s := 62) rfl hb
                  refine X_rd K (K.yes rfl rfl rfl) rfl rfl (rd_ldA rfl ty24 K rfl (inM 2 rfl) rfl rfl) M ?_; clear K; intro a K
                  refine X_rd K (K.yes rfl rfl rfl) rfl rfl (rd_ldA rfl ty24 K rfl (inM 0 rfl) rfl rfl) M ?_; clear K; intro a K
                  obtain ⟨r27, h_r27, h⟩ := obind h
                  refine X_ac K (K.yes rfl rfl rfl) rfl rfl (ac_call (vs := [.agg #[.int .i64 r3.1, .int .i64 r3.2.1, .slice A2 r3.2.2.1.length c2], .agg #[.int .i64 0, .int .i64 0, .slice none ([] : List Int).length 0]]) (cap := []) rfl fok18 K rfl rfl (W_darkslideref_SamePlanes N r3.1 r3.2.1 r3.2.2.1 A2 c2 0 0 ([] : List Int) none 0 _ ((inR (C := (cI .i64)) 3 rfl rfl) _ M) (M.cap 3 rfl) ((fun _ _ => SL.nil) _ M) (Nat.le_refl _) r27 h_r27)) ?_
                  have M0 := M; clear K M; rintro _ a w ⟨rfl, M⟩ K
                  have M := M0.call M
                  clear M0
                  refine X_rd K (want_no rfl) rfl rfl (rd_pickT rfl K rfl rfl) M ?_; clear K; intro a K
                  refine X_rd K (want_no rfl) rfl rfl (rd_assign rfl K rfl) M ?_; clear K; intro a K
                  refine wpList_nil ?_
                  refine then_n ?_
                  refine wp_ret ?_
                  cases h
                  exact ret1 K rfl (res_tmp K rfl) ⟨_, rfl, rfl, ((M).pick [] (by decide))⟩
                · have h := cfalse hb h
                  have K := K.reb (s := 62) rfl hb
                  refine X_no K (K.no rfl rfl rfl rfl) rfl rfl ?_; clear K; intro a K
                  refine X_no K (K.no rfl rfl rfl rfl) rfl rfl ?_; clear K; intro a K
                  refine X_no K (K.no rfl rfl rfl rfl) rfl rfl ?_; clear K; intro a K
                  refine X_rd K (want_no rfl) rfl rfl (rd_pickF rfl K rfl rfl) M ?_; clear K; intro a K
                  refine X_rd K (want_no rfl) rfl rfl (rd_assign rfl K rfl) M ?_; clear K; intro a K
                  refine wpList_nil ?_
                  refine then_n ?_
                  refine wp_ret ?_
                  cases h
                  exact ret1 K rfl (res_tmp K rfl) ⟨_, rfl, rfl, ((M).pick [] (by decide))⟩
              · have h := cfalse hb h
                have K := K.reb (s := 57) rfl hb
                refine X_no K (K.no rfl rfl rfl rfl) rfl rfl ?_; clear K; intro a K
                refine X_no K (K.no rfl rfl rfl rfl) rfl rfl ?_; clear K; intro a K
                refine X_no K (K.no rfl rfl rfl rfl) rfl rfl ?_; clear K; intro a K
                refine X_rd K (want_no rfl) rfl rfl (rd_pickF rfl K rfl rfl) M ?_; clear K; intro a K
                refine X_rd K (want_no rfl) rfl rfl (rd_move rfl K rfl) M ?_; clear K; intro a K
                refine X_no K (K.no rfl rfl rfl rfl) rfl rfl ?_; clear K; intro a K
                refine X_no K (K.no rfl rfl rfl rfl) rfl rfl ?_; clear K; intro a K
                refine X_no K (K.no rfl rfl rfl rfl) rfl rfl ?_; clear K; intro a K
                refine X_rd K (want_no rfl) rfl rfl (rd_pickF rfl K rfl rfl) M ?_; clear K; intro a K
                refine X_rd K (want_no rfl) rfl rfl (rd_assign rfl K rfl) M ?_; clear K; intro a K
                refine wpList_nil ?_
                refine then_n ?_
                refine wp_ret ?_
                cases h
                exact ret1 K rfl (res_tmp K rfl) ⟨_, rfl, rfl, ((M).pick [] (by decide))⟩
            · have h := cfalse hb h
              have K := K.reb (s := 52) rfl hb
              refine X_no K (K.no rfl rfl rfl rfl) rfl rfl ?_; clear K; intro a K
              refine X_no K (K.no rfl rfl rfl rfl) rfl rfl ?_; clear K; intro a K
              refine X_no K (K.no rfl rfl rfl rfl) rfl rfl ?_; clear K; intro a K
              refine X_rd K (want_no rfl) rfl rfl (rd_pickF rfl K rfl rfl) M ?_; clear K; intro a K
              refine X_rd K (want_no rfl) rfl rfl (rd_move rfl K rfl) M ?_; clear K; intro a K
              refine X_no K (K.no rfl rfl rfl rfl) rfl rfl ?_; clear K; intro a K
              refine X_no K (K.no rfl rfl rfl rfl) rfl rfl ?_; clear K; intro a K
              refine X_no K (K.no rfl rfl rfl rfl) rfl rfl ?_; clear K; intro a K
              refine X_rd K (want_no rfl) rfl rfl (rd_pickF rfl K rfl rfl) M ?_; clear K; intro a K
              refine X_rd K (want_no rfl) rfl rfl (rd_move rfl K rfl) M ?_; clear K; intro a K
              refine X_no K (K.no rfl rfl rfl rfl) rfl rfl ?_; clear K; intro a K
              refine X_no K (K.no rfl rfl rfl rfl) rfl rfl ?_; clear K; intro a K
              refine X_no K (K.no rfl rfl rfl rfl) rfl rfl ?_; clear K; intro a K
              refine X_rd K (want_no rfl) rfl rfl (rd_pickF rfl K rfl rfl) M ?_; clear K; intro a K
              refine X_rd K (want_no rfl) rfl rfl (rd_assign rfl K rfl) M ?_; clear K; intro a K
              refine wpList_nil ?_
              refine then_n ?_
              refine wp_ret ?_
              cases h
              exact ret1 K rfl (res_tmp K rfl) ⟨_, rfl, rfl, ((M).pick [] (by decide))⟩
          · have h := cfalse hb h
            have K := K.reb (s := 47) rfl hb
            refine X_no K (K.no rfl rfl rfl rfl) rfl rfl ?_; clear K; intro a K
            refine X_no K (K.no rfl rfl rfl rfl) rfl rfl ?_; clear K; intro a K
            refine X_no K (K.no rfl rfl rfl rfl) rfl rfl ?_; clear K; intro a K
            refine X_rd K (want_no rfl) rfl rfl (rd_pickF rfl K rfl rfl) M ?_; clear K; intro a K
            refine X_rd K (want_no rfl) rfl rfl (rd_move rfl K rfl) M ?_; clear K; intro a K
            refine X_no K (K.no rfl rfl rfl rfl) rfl rfl ?_; clear K; intro a K
            refine X_no K (K.no rfl rfl rfl rfl) rfl rfl ?_; clear K; intro a K
            refine X_no K (K.no rfl rfl rfl rfl) rfl rfl ?_; clear K; intro a K
            refine X_rd K (want_no rfl) rfl rfl (rd_pickF rfl K rfl rfl) M ?_; clear K; intro a K
            refine X_rd K (want_no rfl) rfl rfl (rd_move rfl K rfl) M ?_; clear K; intro a K
            refine X_no K (K.no rfl rfl rfl rfl) rfl rfl ?_; clear K; intro a K
            refine X_no K (K.no rfl rfl rfl rfl) rfl rfl ?_; clear K; intro a K
            refine X_no K (K.no rfl rfl rfl rfl) rfl rfl ?_; clear K; intro a K
            refine X_rd K (want_no rfl) rfl rfl (rd_pickF rfl K rfl rfl) M ?_; clear K; intro a K
            refine X_rd K (want_no rfl) rfl rfl (rd_move rfl K rfl) M ?_; clear K; intro a K
            refine X_no K (K.no rfl rfl rfl rfl) rfl rfl ?_; clear K; intro a K
            refine X_no K (K.no rfl rfl rfl rfl) rfl rfl ?_; clear K; intro a K
            refine X_no K (K.no rfl rfl rfl rfl) rfl rfl ?_; clear K; intro a K
            refine X_rd K (want_no rfl) rfl rfl (rd_pickF rfl K rfl rfl) M ?_; clear K; intro a K
            refine X_rd K (want_no rfl) rfl rfl (rd_assign rfl K rfl) M ?_; clear K; intro a K
            refine wpList_nil ?_
            refine then_n ?_
            refine wp_ret ?_
            cases h
            exact ret1 K rfl (res_tmp K rfl) ⟨_, rfl, rfl, ((M).pick [] (by decide))⟩
    · have h := cfalse hb h
      refine wp_skip ?_
      refine then_n ?_
      refine wp_seq ?_
      refine wp_seq ?_
      refine X_reg ?_
      refine X_rd K (want_no rfl) rfl rfl (rd_ldA rfl ty49 K rfl (inM 6 rfl) rfl rfl) M ?_; clear K; intro a K
      obtain ⟨r28, h_r28, h⟩ := obind h
      refine X_ac K (want_no rfl) rfl rfl (ac_call (vs := [.agg #[.int .i64 o_W, .int .i64 o_H, .slice A_o_P o_P.length c_o_P]]) (cap := []) rfl fok35 K rfl rfl (W_darkslideref_PictureFine N o_W o_H o_P A_o_P c_o_P _ ((inA R_o_P) _ M) C_o_P r28 h_r28)) ?_
      have M0 := M; clear K M; rintro _ a w ⟨rfl, M⟩ K
      have M := M0.call M
      clear M0
      refine wpList_nil ?_
      refine then_n ?_
      refine X_cond K rfl (fun hb => ?_) (fun hb => ?_)
      · have h := ctrue hb h
        refine wp_seq ?_
        refine X_reg ?_
        refine X_rd K (want_no rfl) rfl rfl (rd_assign rfl K rfl) M ?_; clear K; intro a K
        refine wpList_nil ?_
        refine then_n ?_
        refine wp_seq ?_
        refine X_reg ?_
        refine X_rd K (want_no rfl) rfl rfl (rd_move rfl K rfl) M ?_; clear K; intro a K
        refine wpList_nil ?_
        refine then_n ?_
        refine X_cond K rfl (fun hb => ?_) (fun hb => ?_)
        · have h := ctrue hb h
          refine X_reg ?_
          refine X_rd K (want_no rfl) rfl rfl (rd_ldA rfl ty49 K rfl (inM 6 rfl) rfl rfl) M ?_; clear K; intro a K
          refine X_rd K (want_no rfl) rfl rfl (rd_move rfl K rfl) M ?_; clear K; intro a K
          obtain ⟨r29, h_r29, h⟩ := obind h
          refine X_ac K (want_no rfl) rfl rfl (ac_call (vs := [.agg #[.int .i64 o_W, .int .i64 o_H, .slice A_o_P o_P.length c_o_P], .int .i64 p2]) (cap := []) rfl fok42 K rfl rfl (W_darkslideref_Taken N o_W o_H o_P A_o_P c_o_P p2 _ ((inA R_o_P) _ M) C_o_P r29 h_r29)) ?_
          have M0 := M; clear K M; rintro _ a w ⟨A6, c6, rfl, M⟩ K
          have M := M0.call M
          clear M0
          refine X_a0 K (want_no rfl) rfl (ac_storeA rfl ty24 K rfl (ds := [.int .i64 r29.1, .int .i64 r29.2.1, .slice A6 r29.2.2.length c6]) rfl rfl 1 M rfl rfl rfl) ?_
          have M0 := M; clear K M; rintro _ a w M K
          clear M0
          refine X_rd K (want_no rfl) rfl rfl (rd_assign rfl K rfl) M ?_; clear K; intro a K
          refine wpList_nil ?_
          refine then_n ?_
          refine wp_seq ?_
          refine X_reg ?_
          obtain ⟨r30, h_r30, h⟩ := obind h
          refine X_ac K (want_no rfl) rfl rfl (ac_call (vs := []) (cap := []) rfl fok43 K rfl rfl (W_darkslidelaw_mosaicBegun N  _  r30 h_r30)) ?_
          have M0 := M; clear K M; rintro _ a w ⟨rfl, M⟩ K
          have M := M0.call M
          clear M0
          refine X_rd K (want_no rfl) rfl rfl (rd_move rfl K rfl) M ?_; clear K; intro a K
          rcases Bool.eq_false_or_eq_true (r30) with hb | hb
          · have h := ctrue hb h
            have K := K.reb (s := 47) rfl hb
            refine X_rd K (K.yes rfl rfl rfl) rfl rfl (rd_move rfl K rfl) M ?_; clear K; intro a K
            refine X_rd K (K.yes rfl rfl rfl) rfl rfl (rd_move rfl K rfl) M ?_; clear K; intro a K
            refine X_rd K (K.yes rfl rfl rfl) rfl rfl (rd_eql rfl K rfl rfl) M ?_; clear K; intro a K
            refine X_rd K (want_no rfl) rfl rfl (rd_pickT rfl K rfl rfl) M ?_; clear K; intro a K
            refine X_rd K (want_no rfl) rfl rfl (rd_move rfl K rfl) M ?_; clear K; intro a K
            rcases Bool.eq_false_or_eq_true (decide (r2.2.2.2 = 1)) with hb | hb
            · have h := ctrue hb h
              have K := K.reb (s := 52) rfl hb
              refine X_rd K (K.yes rfl rfl rfl) rfl rfl (rd_move rfl K rfl) M ?_; clear K; intro a K
              refine X_rd K (K.yes rfl rfl rfl) rfl rfl (rd_move rfl K rfl) M ?_; clear K; intro a K
              refine X_rd K (K.yes rfl rfl rfl) rfl rfl (rd_eql rfl K rfl rfl) M ?_; clear K; intro a K
              refine X_rd K (want_no rfl) rfl rfl (rd_pickT rfl K rfl rfl) M ?_; clear K; intro a K
              refine X_rd K (want_no rfl) rfl rfl (rd_move rfl K rfl) M ?_; clear K; intro a K
              rcases Bool.eq_false_or_eq_true (decide (r3.2.2.2 = 0)) with hb | hb
              · have h := ctrue hb h
                have K := K.reb (s := 57) rfl hb
                refine X_rd K (K.yes rfl rfl rfl) rfl rfl (rd_ldA rfl ty49 K rfl (inM 5 rfl) rfl rfl) M ?_; clear K; intro a K
                refine X_rd K (K.yes rfl rfl rfl) rfl rfl (rd_ldA rfl ty49 K rfl (inM 2 rfl) rfl rfl) M ?_; clear K; intro a K
                obtain ⟨r31, h_r31, h⟩ := obind h
                refine X_ac K (K.yes rfl rfl rfl) rfl rfl (ac_call (vs := [.agg #[.int .i64 r2.1, .int .i64 r2.2.1, .slice A r2.2.2.1.length c], .agg #[.int .i64 0, .int .i64 0, .slice none (([] : List (Int × Int × Int))).length 0]]) (cap := []) rfl fok31 K rfl rfl (W_darkslideref_SamePictures N r2.1 r2.2.1 r2.2.2.1 A c 0 0 (([] : List (Int × Int × Int))) none 0 _ ((inR (C := cIII) 6 rfl rfl) _ M) (M.cap 6 rfl) ((fun _ _ => SL.nil) _ M) (Nat.le_refl _) r31 h_r31)) ?_
                have M0 := M; clear K M; rintro _ a w ⟨rfl, M⟩ K
                have M := M0.call M
                clear M0
                refine X_rd K (want_no rfl) rfl rfl (rd_pickT rfl K rfl rfl) M ?_; clear K; intro a K
                refine X_rd K (want_no rfl) rfl rfl (rd_move rfl K rfl) M ?_; clear K; intro a K
                rcases Bool.eq_false_or_eq_true (r31) with hb | hb
                · have h := ctrue hb h
                  have K := K.reb (s := 62) rfl hb
                  refine X_rd K (K.yes rfl rfl rfl) rfl rfl (rd_ldA rfl ty24 K rfl (inM 3 rfl) rfl rfl) M ?_; clear K; intro a K
                  refine X_rd K (K.yes rfl rfl rfl) rfl rfl (rd_ldA rfl ty24 K rfl (inM 1 rfl) rfl rfl) M ?_; clear K; intro a K
                  obtain ⟨r32, h_r32, h⟩ := obind h
                  refine X_ac K (K.yes rfl rfl rfl) rfl rfl (ac_call (vs := [.agg #[.int .i64 r3.1, .int .i64 r3.2.1, .slice A2 r3.2.2.1.length c2], .agg #[.int .i64 r29.1, .int .i64 r29.2.1, .slice A6 r29.2.2.length c6]]) (cap := []) rfl fok18 K rfl rfl (W_darkslideref_SamePlanes N r3.1 r3.2.1 r3.2.2.1 A2 c2 r29.1 r29.2.1 r29.2.2 A6 c6 _ ((inR (C := (cI .i64)) 4 rfl rfl) _ M) (M.cap 4 rfl) ((inR (C := (cI .i64)) 0 rfl rfl) _ M) (M.cap 0 rfl) r32 h_r32)) ?_
                  have M0 := M; clear K M; rintro _ a w ⟨rfl, M⟩ K
                  have M := M0.call M
                  clear M0
                  refine X_rd K (want_no rfl) rfl rfl (rd_pickT rfl K rfl rfl) M ?_; clear K; intro a K
                  refine X_rd K (want_no rfl) rfl rfl (rd_assign rfl K rfl) M ?_; clear K; intro a K
                  refine wpList_nil ?_
                  refine then_n ?_
                  refine wp_ret ?_
                  cases h
                  exact ret1 K rfl (res_tmp K rfl) ⟨_, rfl, rfl, ((M).pick [] (by decide))⟩
                · have h := cfalse hb h
                  have K := K.reb (s := 62) rfl hb
                  refine X_no K (K.no rfl rfl rfl rfl) rfl rfl ?_; clear K; intro a K
                  refine X_no K (K.no rfl rfl rfl rfl) rfl rfl ?_; clear K; intro a K
                  refine X_no K (K.no rfl rfl rfl rfl) rfl rfl ?_; clear K; intro a K
                  refine X_rd K (want_no rfl) rfl rfl (rd_pickF rfl K rfl rfl) M ?_; clear K; intro a K
                  refine X_rd K (want_no rfl) rfl rfl (rd_assign rfl K rfl) M ?_; clear K; intro a K
                  refine wpList_nil ?_
                  refine then_n ?_
                  refine wp_ret ?_
                  cases h
                  exact ret1 K rfl (res_tmp K rfl) ⟨_, rfl, rfl, ((M).pick [] (by decide))⟩
              · have h := cfalse hb h
                have K := K.reb (s := 57) rfl hb
                refine X_no K (K.no rfl rfl rfl rfl) rfl rfl ?_; clear K; intro a K
                refine X_no K (K.no rfl rfl rfl rfl) rfl rfl ?_; clear K; intro a K
                refine X_no K (K.no rfl rfl rfl rfl) rfl rfl ?_; clear K; intro a K
                refine X_rd K (want_no rfl) rfl rfl (rd_pickF rfl K rfl rfl) M ?_; clear K; intro a K
                refine X_rd K (want_no rfl) rfl rfl (rd_move rfl K rfl) M ?_; clear K; intro a K
                refine X_no K (K.no rfl rfl rfl rfl) rfl rfl ?_; clear K; intro a K
                refine X_no K (K.no rfl rfl rfl rfl) rfl rfl ?_; clear K; intro a K
                refine X_no K (K.no rfl rfl rfl rfl) rfl rfl ?_; clear K; intro a K
                refine X_rd K (want_no rfl) rfl rfl (rd_pickF rfl K rfl rfl) M ?_; clear K; intro a K
                refine X_rd K (want_no rfl) rfl rfl (rd_assign rfl K rfl) M ?_; clear K; intro a K
                refine wpList_nil ?_
                refine then_n ?_
                refine wp_ret ?_
                cases h
                exact ret1 K rfl (res_tmp K rfl) ⟨_, rfl, rfl, ((M).pick [] (by decide))⟩
            · have h := cfalse hb h
              have K := K.reb (s := 52) rfl hb
              refine X_no K (K.no rfl rfl rfl rfl) rfl rfl ?_; clear K; intro a K
              refine X_no K (K.no rfl rfl rfl rfl) rfl rfl ?_; clear K; intro a K
              refine X_no K (K.no rfl rfl rfl rfl) rfl rfl ?_; clear K; intro a K
              refine X_rd K (want_no rfl) rfl rfl (rd_pickF rfl K rfl rfl) M ?_; clear K; intro a K
              refine X_rd K (want_no rfl) rfl rfl (rd_move rfl K rfl) M ?_; clear K; intro a K
              refine X_no K (K.no rfl rfl rfl rfl) rfl rfl ?_; clear K; intro a K
              refine X_no K (K.no rfl rfl rfl rfl) rfl rfl ?_; clear K; intro a K
              refine X_no K (K.no rfl rfl rfl rfl) rfl rfl ?_; clear K; intro a K
              refine X_rd K (want_no rfl) rfl rfl (rd_pickF rfl K rfl rfl) M ?_; clear K; intro a K
              refine X_rd K (want_no rfl) rfl rfl (rd_move rfl K rfl) M ?_; clear K; intro a K
              refine X_no K (K.no rfl rfl rfl rfl) rfl rfl ?_; clear K; intro a K
              refine X_no K (K.no rfl rfl rfl rfl) rfl rfl ?_; clear K; intro a K
              refine X_no K (K.no rfl rfl rfl rfl) rfl rfl ?_; clear K; intro a K
              refine X_rd K (want_no rfl) rfl rfl (rd_pickF rfl K rfl rfl) M ?_; clear K; intro a K
              refine X_rd K (want_no rfl) rfl rfl (rd_assign rfl K rfl) M ?_; clear K; intro a K
              refine wpList_nil ?_
              refine then_n ?_
              refine wp_ret ?_
              cases h
              exact ret1 K rfl (res_tmp K rfl) ⟨_, rfl, rfl, ((M).pick [] (by decide))⟩
          · have h := cfalse hb h
            have K := K.reb (s := 47) rfl hb
            refine X_no K (K.no rfl rfl rfl rfl) rfl rfl ?_; clear K; intro a K
            refine X_no K (K.no rfl rfl rfl rfl) rfl rfl ?_; clear K; intro a K
            refine X_no K (K.no rfl rfl rfl rfl) rfl rfl ?_; clear K; intro a K
            refine X_rd K (want_no rfl) rfl rfl (rd_pickF rfl K rfl rfl) M ?_; clear K; intro a K
            refine X_rd K (want_no rfl) rfl rfl (rd_move rfl K rfl) M ?_; clear K; intro a K
            refine X_no K (K.no rfl rfl rfl rfl) rfl rfl ?_; clear K; intro a K
            refine X_no K (K.no rfl rfl rfl rfl) rfl rfl ?_; clear K; intro a K
            refine X_no K (K.no rfl rfl rfl rfl) rfl rfl ?_; clear K; intro a K
            refine X_rd K (want_no rfl) rfl rfl (rd_pickF rfl K rfl rfl) M ?_; clear K; intro a K
            refine X_rd K (want_no rfl) rfl rfl (rd_move rfl K rfl) M ?_; clear K; intro a K
            refine X_no K (K.no rfl rfl rfl rfl) rfl rfl ?_; clear K; intro a K
            refine X_no K (K.no rfl rfl rfl rfl) rfl rfl ?_; clear K; intro a K
            refine X_no K (K.no rfl rfl rfl rfl) rfl rfl ?_; clear K; intro a K
            refine X_rd K (want_no rfl) rfl rfl (rd_pickF rfl K rfl rfl) M ?_; clear K; intro a K
            refine X_rd K (want_no rfl) rfl rfl (rd_move rfl K rfl) M ?_; clear K; intro a K
            refine X_no K (K.no rfl rfl rfl rfl) rfl rfl ?_; clear K; intro a K
            refine X_no K (K.no rfl rfl rfl rfl) rfl rfl ?_; clear K; intro a K
            refine X_no K (K.no rfl rfl rfl rfl) rfl rfl ?_; clear K; intro a K
            refine X_rd K (want_no rfl) rfl rfl (rd_pickF rfl K rfl rfl) M ?_; clear K; intro a K
            refine X_rd K (want_no rfl) rfl rfl (rd_assign rfl K rfl) M ?_; clear K; intro a K
            refine wpList_nil ?_
            refine then_n ?_
            refine wp_ret ?_
            cases h
            exact ret1 K rfl (res_tmp K rfl) ⟨_, rfl, rfl, ((M).pick [] (by decide))⟩
        · have h := cfalse hb h
          refine wp_skip ?_
          refine then_n ?_
          refine wp_seq ?_
          refine X_reg ?_
          obtain ⟨r33, h_r33, h⟩ := obind h
          refine X_ac K (want_no rfl) rfl rfl (ac_call (vs := []) (cap := []) rfl fok43 K rfl rfl (W_darkslidelaw_mosaicBegun N  _  r33 h_r33)) ?_
          have M0 := M; clear K M; rintro _ a w ⟨rfl, M⟩ K
          have M := M0.call M
          clear M0
          refine X_rd K (want_no rfl) rfl rfl (rd_move rfl K rfl) M ?_; clear K; intro a K
          rcases Bool.eq_false_or_eq_true (r33) with hb | hb
          · have h := ctrue hb h
            have K := K.reb (s := 47) rfl hb
            refine X_rd K (K.yes rfl rfl rfl) rfl rfl (rd_move rfl K rfl) M ?_; clear K; intro a K
            refine X_rd K (K.yes rfl rfl rfl) rfl rfl (rd_move rfl K rfl) M ?_; clear K; intro a K
            refine X_rd K (K.yes rfl rfl rfl) rfl rfl (rd_eql rfl K rfl rfl) M ?_; clear K; intro a K
            refine X_rd K (want_no rfl) rfl rfl (rd_pickT rfl K rfl rfl) M ?_; clear K; intro a K
            refine X_rd K (want_no rfl) rfl rfl (rd_move rfl K rfl) M ?_; clear K; intro a K
            rcases Bool.eq_false_or_eq_true (decide (r2.2.2.2 = 1)) with hb | hb
            · have h := ctrue hb h
              have K := K.reb (s := 52) rfl hb
              refine X_rd K (K.yes rfl rfl rfl) rfl rfl (rd_move rfl K rfl) M ?_; clear K; intro a K
              refine X_rd K (K.yes rfl rfl rfl) rfl rfl (rd_move rfl K rfl) M ?_; clear K; intro a K
              refine X_rd K (K.yes rfl rfl rfl) rfl rfl (rd_eql rfl K rfl rfl) M ?_; clear K; intro a K
              refine X_rd K (want_no rfl) rfl rfl (rd_pickT rfl K rfl rfl) M ?_; clear K; intro a K
              refine X_rd K (want_no rfl) rfl rfl (rd_move rfl K rfl) M ?_; clear K; intro a K
              rcases Bool.eq_false_or_eq_true (decide (r3.2.2.2 = 3)) with hb | hb
              · have h := ctrue hb h
                have K := K.reb (s := 57) rfl hb
                refine X_rd K (K.yes rfl rfl rfl) rfl rfl (rd_ldA rfl ty49 K rfl (inM 4 rfl) rfl rfl) M ?_; clear K; intro a K
                refine X_rd K (K.yes rfl rfl rfl) rfl rfl (rd_ldA rfl ty49 K rfl (inM 1 rfl) rfl rfl) M ?_; clear K; intro a K
                obtain ⟨r34, h_r34, h⟩ := obind h
                refine X_ac K (K.yes rfl rfl rfl) rfl rfl (ac_call (vs := [.agg #[.int .i64 r2.1, .int .i64 r2.2.1, .slice A r2.2.2.1.length c], .agg #[.int .i64 0, .int .i64 0, .slice none (([] : List (Int × Int × Int))).length 0]]) (cap := []) rfl fok31 K rfl rfl (W_darkslideref_SamePictures N r2.1 r2.2.1 r2.2.2.1 A c 0 0 (([] : List (Int × Int × Int))) none 0 _ ((inR (C := cIII) 5 rfl rfl) _ M) (M.cap 5 rfl) ((fun _ _ => SL.nil) _ M) (Nat.le_refl _) r34 h_r34)) ?_
                have M0 := M; clear K M; rintro _ a w ⟨rfl, M⟩ K
                have M := M0.call M
                clear M0
                refine X_rd K (want_no rfl) rfl rfl (rd_pickT rfl K rfl rfl) M ?_; clear K; intro a K
                refine X_rd K (want_no rfl) rfl rfl (rd_move rfl K rfl) M ?_; clear K; intro a K
                rcases Bool.eq_false_or_eq_true (r34) with hb | hb
                · have h := ctrue hb h
                  have K := K.reb (s := 62) rfl hb
                  refine X_rd K (K.yes rfl rfl rfl) rfl rfl (rd_ldA rfl ty24 K rfl (inM 2 rfl) rfl rfl) M ?_; clear K; intro a K
                  refine X_rd K (K.yes rfl rfl rfl) rfl rfl (rd_ldA rfl ty24 K rfl (inM 0 rfl) rfl rfl) M ?_; clear K; intro a K
                  obtain ⟨r35, h_r35, h⟩ := obind h
                  refine X_ac K (K.yes rfl rfl rfl) rfl rfl (ac_call (vs := [.agg #[.int .i64 r3.1, .int .i64 r3.2.1, .slice A2 r3.2.2.1.length c2], .agg #[.int .i64 0, .int .i64 0, .slice none ([] : List Int).length 0]]) (cap := []) rfl fok18 K rfl rfl (W_darkslideref_SamePlanes N r3.1 r3.2.1 r3.2.2.1 A2 c2 0 0 ([] : List Int) none 0 _ ((inR (C := (cI .i64)) 3 rfl rfl) _ M) (M.cap 3 rfl) ((fun _ _ => SL.nil) _ M) (Nat.le_refl _) r35 h_r35)) ?_
                  have M0 := M; clear K M; rintro _ a w ⟨rfl, M⟩ K
                  have M := M0.call M
                  clear M0
                  refine X_rd K (want_no rfl) rfl rfl (rd_pickT rfl K rfl rfl) M ?_; clear K; intro a K
                  refine X_rd K (want_no rfl) rfl rfl (rd_assign rfl K rfl) M ?_; clear K; intro a K
                  refine wpList_nil ?_
                  refine then_n ?_
                  refine wp_ret ?_
                  cases h
                  exact ret1 K rfl (res_tmp K rfl) ⟨_, rfl, rfl, ((M).pick [] (by decide))⟩
                · have h := cfalse hb h
                  have K := K.reb (s := 62) rfl hb
                  refine X_no K (K.no rfl rfl rfl rfl) rfl rfl ?_; clear K; intro a K
                  refine X_no K (K.no rfl rfl rfl rfl) rfl rfl ?_; clear K; intro a K
                  refine X_no K (K.no rfl rfl rfl rfl) rfl rfl ?_; clear K; intro a K
                  refine X_rd K (want_no rfl) rfl rfl (rd_pickF rfl K rfl rfl) M ?_; clear K; intro a K
                  refine X_rd K (want_no rfl) rfl rfl (rd_assign rfl K rfl) M ?_; clear K; intro a K
                  refine wpList_nil ?_
                  refine then_n ?_
                  refine wp_ret ?_
                  cases h
                  exact ret1 K rfl (res_tmp K rfl) ⟨_, rfl, rfl, ((M).pick [] (by decide))⟩
              · have h := cfalse hb h
                have K := K.reb (s := 57) rfl hb
                refine X_no K (K.no rfl rfl rfl rfl) rfl rfl ?_; clear K; intro a K
                refine X_no K (K.no rfl rfl rfl rfl) rfl rfl ?_; clear K; intro a K
                refine X_no K (K.no rfl rfl rfl rfl) rfl rfl ?_; clear K; intro a K
                refine X_rd K (want_no rfl) rfl rfl (rd_pickF rfl K rfl rfl) M ?_; clear K; intro a K
                refine X_rd K (want_no rfl) rfl rfl (rd_move rfl K rfl) M ?_; clear K; intro a K
                refine X_no K (K.no rfl rfl rfl rfl) rfl rfl ?_; clear K; intro a K
                refine X_no K (K.no rfl rfl rfl rfl) rfl rfl ?_; clear K; intro a K
                refine X_no K (K.no rfl rfl rfl rfl) rfl rfl ?_; clear K; intro a K
                refine X_rd K (want_no rfl) rfl rfl (rd_pickF rfl K rfl rfl) M ?_; clear K; intro a K
                refine X_rd K (want_no rfl) rfl rfl (rd_assign rfl K rfl) M ?_; clear K; intro a K
                refine wpList_nil ?_
                refine then_n ?_
                refine wp_ret ?_
                cases h
                exact ret1 K rfl (res_tmp K rfl) ⟨_, rfl, rfl, ((M).pick [] (by decide))⟩
            · have h := cfalse hb h
              have K := K.reb (s := 52) rfl hb
              refine X_no K (K.no rfl rfl rfl rfl) rfl rfl ?_; clear K; intro a K
              refine X_no K (K.no rfl rfl rfl rfl) rfl rfl ?_; clear K; intro a K
              refine X_no K (K.no rfl rfl rfl rfl) rfl rfl ?_; clear K; intro a K
              refine X_rd K (want_no rfl) rfl rfl (rd_pickF rfl K rfl rfl) M ?_; clear K; intro a K
              refine X_rd K (want_no rfl) rfl rfl (rd_move rfl K rfl) M ?_; clear K; intro a K
              refine X_no K (K.no rfl rfl rfl rfl) rfl rfl ?_; clear K; intro a K
              refine X_no K (K.no rfl rfl rfl rfl) rfl rfl ?_; clear K; intro a K
              refine X_no K (K.no rfl rfl rfl rfl) rfl rfl ?_; clear K; intro a K
              refine X_rd K (want_no rfl) rfl rfl (rd_pickF rfl K rfl rfl) M ?_; clear K; intro a K
              refine X_rd K (want_no rfl) rfl rfl (rd_move rfl K rfl) M ?_; clear K; intro a K
              refine X_no K (K.no rfl rfl rfl rfl) rfl rfl ?_; clear K; intro a K
              refine X_no K (K.no rfl rfl rfl rfl) rfl rfl ?_; clear K; intro a K
              refine X_no K (K.no rfl rfl rfl rfl) rfl rfl ?_; clear K; intro a K
              refine X_rd K (want_no rfl) rfl rfl (rd_pickF rfl K rfl rfl) M ?_; clear K; intro a K
              refine X_rd K (want_no rfl) rfl rfl (rd_assign rfl K rfl) M ?_; clear K; intro a K
              refine wpList_nil ?_
              refine then_n ?_
              refine wp_ret ?_
              cases h
              exact ret1 K rfl (res_tmp K rfl) ⟨_, rfl, rfl, ((M).pick [] (by decide))⟩
          · have h := cfalse hb h
            have K := K.reb (s := 47) rfl hb
            refine X_no K (K.no rfl rfl rfl rfl) rfl rfl ?_; clear K; intro a K
            refine X_no K (K.no rfl rfl rfl rfl) rfl rfl ?_; clear K; intro a K
            refine X_no K (K.no rfl rfl rfl rfl) rfl rfl ?_; clear K; intro a K
            refine X_rd K (want_no rfl) rfl rfl (rd_pickF rfl K rfl rfl) M ?_; clear K; intro a K
            refine X_rd K (want_no rfl) rfl rfl (rd_move rfl K rfl) M ?_; clear K; intro a K
            refine X_no K (K.no rfl rfl rfl rfl) rfl rfl ?_; clear K; intro a K
            refine X_no K (K.no rfl rfl rfl rfl) rfl rfl ?_; clear K; intro a K
            refine X_no K (K.no rfl rfl rfl rfl) rfl rfl ?_; clear K; intro a K
            refine X_rd K (want_no rfl) rfl rfl (rd_pickF rfl K rfl rfl) M ?_; clear K; intro a K
            refine X_rd K (want_no rfl) rfl rfl (rd_move rfl K rfl) M ?_; clear K; intro a K
            refine X_no K (K.no rfl rfl rfl rfl) rfl rfl ?_; clear K; intro a K
            refine X_no K (K.no rfl rfl rfl rfl) rfl rfl ?_; clear K; intro a K
            refine X_no K (K.no rfl rfl rfl rfl) rfl rfl ?_; clear K; intro a K
            refine X_rd K (want_no rfl) rfl rfl (rd_pickF rfl K rfl rfl) M ?_; clear K; intro a K
            refine X_rd K (want_no rfl) rfl rfl (rd_move rfl K rfl) M ?_; clear K; intro a K
            refine X_no K (K.no rfl rfl rfl rfl) rfl rfl ?_; clear K; intro a K
            refine X_no K (K.no rfl rfl rfl rfl) rfl rfl ?_; clear K; intro a K
            refine X_no K (K.no rfl rfl rfl rfl) rfl rfl ?_; clear K; intro a K
            refine X_rd K (want_no rfl) rfl rfl (rd_pickF rfl K rfl rfl) M ?_; clear K; intro a K
            refine X_rd K (want_no rfl) rfl rfl (rd_assign rfl K rfl) M ?_; clear K; intro a K
            refine wpList_nil ?_
            refine then_n ?_
            refine wp_ret ?_
            cases h
            exact ret1 K rfl (res_tmp K rfl) ⟨_, rfl, rfl, ((M).pick [] (by decide))⟩
      · have h := cfalse hb h
        refine wp_skip ?_
        refine then_n ?_
        refine wp_seq ?_
        refine X_reg ?_
        obtain ⟨r36, h_r36, h⟩ := obind h
        refine X_ac K (want_no rfl) rfl rfl (ac_call (vs := []) (cap := []) rfl fok43 K rfl rfl (W_darkslidelaw_mosaicBegun N  _  r36 h_r36)) ?_
        have M0 := M; clear K M; rintro _ a w ⟨rfl, M⟩ K
        have M := M0.call M
        clear M0
        refine X_rd K (want_no rfl) rfl rfl (rd_move rfl K rfl) M ?_; clear K; intro a K
        rcases Bool.eq_false_or_eq_true (r36) with hb | hb
        · have h := ctrue hb h
          have K := K.reb (s := 47) rfl hb
          refine X_rd K (K.yes rfl rfl rfl) rfl rfl (rd_move rfl K rfl) M ?_; clear K; intro a K
          refine X_rd K (K.yes rfl rfl rfl) rfl rfl (rd_move rfl K rfl) M ?_; clear K; intro a K
          refine X_rd K (K.yes rfl rfl rfl) rfl rfl (rd_eql rfl K rfl rfl) M ?_; clear K; intro a K
          refine X_rd K (want_no rfl) rfl rfl (rd_pickT rfl K rfl rfl) M ?_; clear K; intro a K
          refine X_rd K (want_no rfl) rfl rfl (rd_move rfl K rfl) M ?_; clear K; intro a K
          rcases Bool.eq_false_or_eq_true (decide (r2.2.2.2 = 1)) with hb | hb
          · have h := ctrue hb h
            have K := K.reb (s := 52) rfl hb
            refine X_rd K (K.yes rfl rfl rfl) rfl rfl (rd_move rfl K rfl) M ?_; clear K; intro a K
            refine X_rd K (K.yes rfl rfl rfl) rfl rfl (rd_move rfl K rfl) M ?_; clear K; intro a K
            refine X_rd K (K.yes rfl rfl rfl) rfl rfl (rd_eql rfl K rfl rfl) M ?_; clear K; intro a K
            refine X_rd K (want_no rfl) rfl rfl (rd_pickT rfl K rfl rfl) M ?_; clear K; intro a K
            refine X_rd K (want_no rfl) rfl rfl (rd_move rfl K rfl) M ?_; clear K; intro a K
            rcases Bool.eq_false_or_eq_true (decide (r3.2.2.2 = 1)) with hb | hb
            · have h := ctrue hb h
              have K := K.reb (s := 57) rfl hb
              refine X_rd K (K.yes rfl rfl rfl) rfl rfl (rd_ldA rfl ty49 K rfl (inM 4 rfl) rfl rfl) M ?_; clear K; intro a K
              refine X_rd K (K.yes rfl rfl rfl) rfl rfl (rd_ldA rfl ty49 K rfl (inM 1 rfl) rfl rfl) M ?_; clear K; intro a K
              obtain ⟨r37, h_r37, h⟩ := obind h
              refine X_ac K (K.yes rfl rfl rfl) rfl rfl (ac_call (vs := [.agg #[.int .i64 r2.1, .int .i64 r2.2.1, .slice A r2.2.2.1.length c], .agg #[.int .i64 0, .int .i64 0, .slice none (([] : List (Int × Int × Int))).length 0]]) (cap := []) rfl fok31 K rfl rfl (W_darkslideref_SamePictures N r2.1 r2.2.1 r2.2.2.1 A c 0 0 (([] : List (Int × Int × Int))) none 0 _ ((inR (C := cIII) 5 rfl rfl) _ M) (M.cap 5 rfl) ((fun _ _ => SL.nil) _ M) (Nat.le_refl _) r37 h_r37)) ?_
              have M0 := M; clear K M; rintro _ a w ⟨rfl, M⟩ K
              have M := M0.call M
              clear M0
              refine X_rd K (want_no rfl) rfl rfl (rd_pickT rfl K rfl rfl) M ?_; clear K; intro a K
              refine X_rd K (want_no rfl) rfl rfl (rd_move rfl K rfl) M ?_; clear K; intro a K
              rcases Bool.eq_false_or_eq_true (r37) with hb | hb
              · have h := ctrue hb h
                have K := K.reb (s := 62) rfl hb
                refine X_rd K (K.yes rfl rfl rfl) rfl rfl (rd_ldA rfl ty24 K rfl (inM 2 rfl) rfl rfl) M ?_; clear K; intro a K
                refine X_rd K (K.yes rfl rfl rfl) rfl rfl (rd_ldA rfl ty24 K rfl (inM 0 rfl) rfl rfl) M ?_; clear K; intro a K
                obtain ⟨r38, h_r38, h⟩ := obind h
                refine X_ac K (K.yes rfl rfl rfl) rfl rfl (ac_call (vs := [.agg #[.int .i64 r3.1, .int .i64 r3.2.1, .slice A2 r3.2.2.1.length c2], .agg #[.int .i64 0, .int .i64 0, .slice none ([] : List Int).length 0]]) (cap := []) rfl fok18 K rfl rfl (W_darkslideref_SamePlanes N r3.1 r3.2.1 r3.2.2.1 A2 c2 0 0 ([] : List Int) none 0 _ ((inR (C := (cI .i64)) 3 rfl rfl) _ M) (M.cap 3 rfl) ((fun _ _ => SL.nil) _ M) (Nat.le_refl _) r38 h_r38)) ?_
                have M0 := M; clear K M; rintro _ a w ⟨rfl, M⟩ K
                have M := M0.call M
                clear M0
                refine X_rd K (want_no rfl) rfl rfl (rd_pickT rfl K rfl rfl) M ?_; clear K; intro a K
                refine X_rd K (want_no rfl) rfl rfl (rd_assign rfl K rfl) M ?_; clear K; intro a K
                refine wpList_nil ?_
                refine then_n ?_
                refine wp_ret ?_
                cases h
                exact ret1 K rfl (res_tmp K rfl) ⟨_, rfl, rfl, ((M).pick [] (by decide))⟩
              · have h := cfalse hb h
                have K := K.reb (s := 62) rfl hb
                refine X_no K (K.no rfl rfl rfl rfl) rfl rfl ?_; clear K; intro a K
                refine X_no K (K.no rfl rfl rfl rfl) rfl rfl ?_; clear K; intro a K
                refine X_no K (K.no rfl rfl rfl rfl) rfl rfl ?_; clear K; intro a K
                refine X_rd K (want_no rfl) rfl rfl (rd_pickF rfl K rfl rfl) M ?_; clear K; intro a K
                refine X_rd K (want_no rfl) rfl rfl (rd_assign rfl K rfl) M ?_; clear K; intro a K
                refine wpList_nil ?_
                refine then_n ?_
                refine wp_ret ?_
                cases h
                exact ret1 K rfl (res_tmp K rfl) ⟨_, rfl, rfl, ((M).pick [] (by decide))⟩
            · have h := cfalse hb h
              have K := K.reb (s := 57) rfl hb
              refine X_no K (K.no rfl rfl rfl rfl) rfl rfl ?_; clear K; intro a K
              refine X_no K (K.no rfl rfl rfl rfl) rfl rfl ?_; clear K; intro a K
              refine X_no K (K.no rfl rfl rfl rfl) rfl rfl ?_; clear K; intro a K
              refine X_rd K (want_no rfl) rfl rfl (rd_pickF rfl K rfl rfl) M ?_; clear K; intro a K
              refine X_rd K (want_no rfl) rfl rfl (rd_move rfl K rfl) M ?_; clear K; intro a K
              refine X_no K (K.no rfl rfl rfl rfl) rfl rfl ?_; clear K; intro a K
              refine X_no K (K.no rfl rfl rfl rfl) rfl rfl ?_; clear K; intro a K
              refine X_no K (K.no rfl rfl rfl rfl) rfl rfl ?_; clear K; intro a K
              refine X_rd K (want_no rfl) rfl rfl (rd_pickF rfl K rfl rfl) M ?_; clear K; intro a K
              refine X_rd K (want_no rfl) rfl rfl (rd_assign rfl K rfl) M ?_; clear K; intro a K
              refine wpList_nil ?_
              refine then_n ?_
              refine wp_ret ?_
              cases h
              exact ret1 K rfl (res_tmp K rfl) ⟨_, rfl, rfl, ((M).pick [] (by decide))⟩
          · have h := cfalse hb h
            have K := K.reb (s := 52) rfl hb
            refine X_no K (K.no rfl rfl rfl rfl) rfl rfl ?_; clear K; intro a K
            refine X_no K (K.no rfl rfl rfl rfl) rfl rfl ?_; clear K; intro a K
            refine X_no K (K.no rfl rfl rfl rfl) rfl rfl ?_; clear K; intro a K
            refine X_rd K (want_no rfl) rfl rfl (rd_pickF rfl K rfl rfl) M ?_; clear K; intro a K
            refine X_rd K (want_no rfl) rfl rfl (rd_move rfl K rfl) M ?_; clear K; intro a K
            refine X_no K (K.no rfl rfl rfl rfl) rfl rfl ?_; clear K; intro a K
            refine X_no K (K.no rfl rfl rfl rfl) rfl rfl ?_; clear K; intro a K
            refine X_no K (K.no rfl rfl rfl rfl) rfl rfl ?_; clear K; intro a K
            refine X_rd K (want_no rfl) rfl rfl (rd_pickF rfl K rfl rfl) M ?_; clear K; intro a K
            refine X_rd K (want_no rfl) rfl rfl (rd_move rfl K rfl) M ?_; clear K; intro a K
            refine X_no K (K.no rfl rfl rfl rfl) rfl rfl ?_; clear K; intro a K
            refine X_no K (K.no rfl rfl rfl rfl) rfl rfl ?_; clear K; intro a K
            refine X_no K (K.no rfl rfl rfl rfl) rfl rfl ?_; clear K; intro a K
            refine X_rd K (want_no rfl) rfl rfl (rd_pickF rfl K rfl rfl) M ?_; clear K; intro a K
            refine X_rd K (want_no rfl) rfl rfl (rd_assign rfl K rfl) M ?_; clear K; intro a K
            refine wpList_nil ?_
            refine then_n ?_
            refine wp_ret ?_
            cases h
            exact ret1 K rfl (res_tmp K rfl) ⟨_, rfl, rfl, ((M).pick [] (by decide))⟩
        · have h := cfalse hb h
          have K := K.reb (s := 47) rfl hb
          refine X_no K (K.no rfl rfl rfl rfl) rfl rfl ?_; clear K; intro a K
          refine X_no K (K.no rfl rfl rfl rfl) rfl rfl ?_; clear K; intro a K
          refine X_no K (K.no rfl rfl rfl rfl) rfl rfl ?_; clear K; intro a K
          refine X_rd K (want_no rfl) rfl rfl (rd_pickF rfl K rfl rfl) M ?_; clear K; intro a K
          refine X_rd K (want_no rfl) rfl rfl (rd_move rfl K rfl) M ?_; clear K; intro a K
          refine X_no K (K.no rfl rfl rfl rfl) rfl rfl ?_; clear K; intro a K
          refine X_no K (K.no rfl rfl rfl rfl) rfl rfl ?_; clear K; intro a K
          refine X_no K (K.no rfl rfl rfl rfl) rfl rfl ?_; clear K; intro a K
          refine X_rd K (want_no rfl) rfl rfl (rd_pickF rfl K rfl rfl) M ?_; clear K; intro a K
          refine X_rd K (want_no rfl) rfl rfl (rd_move rfl K rfl) M ?_; clear K; intro a K
          refine X_no K (K.no rfl rfl rfl rfl) rfl rfl ?_; clear K; intro a K
          refine X_no K (K.no rfl rfl rfl rfl) rfl rfl ?_; clear K; intro a K
          refine X_no K (K.no rfl rfl rfl rfl) rfl rfl ?_; clear K; intro a K
          refine X_rd K (want_no rfl) rfl rfl (rd_pickF rfl K rfl rfl) M ?_; clear K; intro a K
          refine X_rd K (want_no rfl) rfl rfl (rd_move rfl K rfl) M ?_; clear K; intro a K
          refine X_no K (K.no rfl rfl rfl rfl) rfl rfl ?_; clear K; intro a K
          refine X_no K (K.no rfl rfl rfl rfl) rfl rfl ?_; clear K; intro a K
          refine X_no K (K.no rfl rfl rfl rfl) rfl rfl ?_; clear K; intro a K
          refine X_rd K (want_no rfl) rfl rfl (rd_pickF rfl K rfl rfl) M ?_; clear K; intro a K
          refine X_rd K (want_no rfl) rfl rfl (rd_assign rfl K rfl) M ?_; clear K; intro a K
          refine wpList_nil ?_
          refine then_n ?_
          refine wp_ret ?_
          cases h
          exact ret1 K rfl (res_tmp K rfl) ⟨_, rfl, rfl, ((M).pick [] (by decide))⟩
  · have h := cfalse hb h
    have K := K.reb (s := 30) rfl hb
    refine X_no K (K.no rfl rfl rfl rfl) rfl rfl ?_; clear K; intro a K
    refine X_no K (K.no rfl rfl rfl rfl) rfl rfl ?_; clear K; intro a K
    refine X_rd K (want_no rfl) rfl rfl (rd_pickF rfl K rfl rfl) M ?_; clear K; intro a K
    refine X_rd K (want_no rfl) rfl rfl (rd_assign rfl K rfl) M ?_; clear K; intro a K
    refine wpList_nil ?_
    refine then_n ?_
    refine wp_seq ?_
    refine wp_seq ?_
    refine X_reg ?_
    refine X_rd K (want_no rfl) rfl rfl (rd_ldA rfl ty24 K rfl (inM 7 rfl) rfl rfl) M ?_; clear K; intro a K
    obtain ⟨r39, h_r39, h⟩ := obind h
    refine X_ac K (want_no rfl) rfl rfl (ac_call (vs := [.agg #[.int .i64 d_W, .int .i64 d_H, .slice A_d_P d_P.length c_d_P]]) (cap := []) rfl fok40 K rfl rfl (W_darkslideref_PlaneFine N d_W d_H d_P A_d_P c_d_P _ ((inA R_d_P) _ M) C_d_P r39 h_r39)) ?_
    have M0 := M; clear K M; rintro _ a w ⟨rfl, M⟩ K
    have M := M0.call M
    clear M0
    refine wpList_nil ?_
    refine then_n ?_
    refine X_cond K rfl (fun hb => ?_) (fun hb => ?_)
    · have h := ctrue hb h
      refine wp_seq ?_
      refine X_reg ?_
      refine X_rd K (want_no rfl) rfl rfl (rd_assign rfl K rfl) M ?_; clear K; intro a K
      refine wpList_nil ?_
      refine then_n ?_
      refine wp_seq ?_
      refine X_reg ?_
      refine X_rd K (want_no rfl) rfl rfl (rd_move rfl K rfl) M ?_; clear K; intro a K
      refine wpList_nil ?_
      refine then_n ?_
      refine X_condF K rfl ?_
      refine wp_skip ?_
      refine then_n ?_
      refine wp_seq ?_
      refine wp_seq ?_
      refine X_reg ?_
      refine X_rd K (want_no rfl) rfl rfl (rd_ldA rfl ty49 K rfl (inM 6 rfl) rfl rfl) M ?_; clear K; intro a K
      obtain ⟨r40, h_r40, h⟩ := obind h
      refine X_ac K (want_no rfl) rfl rfl (ac_call (vs := [.agg #[.int .i64 o_W, .int .i64 o_H, .slice A_o_P o_P.length c_o_P]]) (cap := []) rfl fok35 K rfl rfl (W_darkslideref_PictureFine N o_W o_H o_P A_o_P c_o_P _ ((inA R_o_P) _ M) C_o_P r40 h_r40)) ?_
      have M0 := M; clear K M; rintro _ a w ⟨rfl, M⟩ K
      have M := M0.call M
      clear M0
      refine wpList_nil ?_
      refine then_n ?_
      refine X_cond K rfl (fun hb => ?_) (fun hb => ?_)
      · have h := ctrue hb h
        refine wp_seq ?_
        refine X_reg ?_
        refine X_rd K (want_no rfl) rfl rfl (rd_assign rfl K rfl) M ?_; clear K; intro a K
        refine wpList_nil ?_
        refine then_n ?_
        refine wp_seq ?_
        refine X_reg ?_
        refine X_rd K (want_no rfl) rfl rfl (rd_move rfl K rfl) M ?_; clear K; intro a K
        refine wpList_nil ?_
        refine then_n ?_
        refine X_condF K rfl ?_
        refine wp_skip ?_
        refine then_n ?_
        refine wp_seq ?_
        refine X_reg ?_
        obtain ⟨r41, h_r41, h⟩ := obind h
        refine X_ac K (want_no rfl) rfl rfl (ac_call (vs := []) (cap := []) rfl fok43 K rfl rfl (W_darkslidelaw_mosaicBegun N  _  r41 h_r41)) ?_
        have M0 := M; clear K M; rintro _ a w ⟨rfl, M⟩ K
        have M := M0.call M
        clear M0
        refine X_rd K (want_no rfl) rfl rfl (rd_move rfl K rfl) M ?_; clear K; intro a K
        rcases Bool.eq_false_or_eq_true (r41) with hb | hb
        · have h := ctrue hb h
          have K := K.reb (s := 47) rfl hb
          refine X_rd K (K.yes rfl rfl rfl) rfl rfl (rd_move rfl K rfl) M ?_; clear K; intro a K
          refine X_rd K (K.yes rfl rfl rfl) rfl rfl (rd_move rfl K rfl) M ?_; clear K; intro a K
          refine X_rd K (K.yes rfl rfl rfl) rfl rfl (rd_eql rfl K rfl rfl) M ?_; clear K; intro a K
          refine X_rd K (want_no rfl) rfl rfl (rd_pickT rfl K rfl rfl) M ?_; clear K; intro a K
          refine X_rd K (want_no rfl) rfl rfl (rd_move rfl K rfl) M ?_; clear K; intro a K
          rcases Bool.eq_false_or_eq_true (decide (r2.2.2.2 = 3)) with hb | hb
          · have h := ctrue hb h
            have K := K.reb (s := 52) rfl hb
            refine X_rd K (K.yes rfl rfl rfl) rfl rfl (rd_move rfl K rfl) M ?_; clear K; intro a K
            refine X_rd K (K.yes rfl rfl rfl) rfl rfl (rd_move rfl K rfl) M ?_; clear K; intro a K
            refine X_rd K (K.yes rfl rfl rfl) rfl rfl (rd_eql rfl K rfl rfl) M ?_; clear K; intro a K
            refine X_rd K (want_no rfl) rfl rfl (rd_pickT rfl K rfl rfl) M ?_; clear K; intro a K
            refine X_rd K (want_no rfl) rfl rfl (rd_move rfl K rfl) M ?_; clear K; intro a K
            rcases Bool.eq_false_or_eq_true (decide (r3.2.2.2 = 3)) with hb | hb
            · have h := ctrue hb h
              have K := K.reb (s := 57) rfl hb
              refine X_rd K (K.yes rfl rfl rfl) rfl rfl (rd_ldA rfl ty49 K rfl (inM 4 rfl) rfl rfl) M ?_; clear K; intro a K
              refine X_rd K (K.yes rfl rfl rfl) rfl rfl (rd_ldA rfl ty49 K rfl (inM 1 rfl) rfl rfl) M ?_; clear K; intro a K
              obtain ⟨r42, h_r42, h⟩ := obind h
              refine X_ac K (K.yes rfl rfl rfl) rfl rfl (ac_call (vs := [.agg #[.int .i64 r2.1, .int .i64 r2.2.1, .slice A r2.2.2.1.length c], .agg #[.int .i64 0, .int .i64 0, .slice none (([] : List (Int × Int × Int))).length 0]]) (cap := []) rfl fok31 K rfl rfl (W_darkslideref_SamePictures N r2.1 r2.2.1 r2.2.2.1 A c 0 0 (([] : List (Int × Int × Int))) none 0 _ ((inR (C := cIII) 5 rfl rfl) _ M) (M.cap 5 rfl) ((fun _ _ => SL.nil) _ M) (Nat.le_refl _) r42 h_r42)) ?_
              have M0 := M; clear K M; rintro _ a w ⟨rfl, M⟩ K
              have M := M0.call M
              clear M0
              refine X_rd K (want_no rfl) rfl rfl (rd_pickT rfl K rfl rfl) M ?_; clear K; intro a K
              refine X_rd K (want_no rfl) rfl rfl (rd_move rfl K rfl) M ?_; clear K; intro a K
              rcases Bool.eq_false_or_eq_true (r42) with hb | hb
              · have h := ctrue hb h
                have K := K.reb (s := 62) rfl hb
                refine X_rd K (K.yes rfl rfl rfl) rfl rfl (rd_ldA rfl ty24 K rfl (inM 2 rfl) rfl rfl) M ?_; clear K; intro a K
                refine X_rd K (K.yes rfl rfl rfl) rfl rfl (rd_ldA rfl ty24 K rfl (inM 0 rfl) rfl rfl) M ?_; clear K; intro a K
                obtain ⟨r43, h_r43, h⟩ := obind h
                refine X_ac K (K.yes rfl rfl rfl) rfl rfl (ac_call (vs := [.agg #[.int .i64 r3.1, .int .i64 r3.2.1, .slice A2 r3.2.2.1.length c2], .agg #[.int .i64 0, .int .i64 0, .slice none ([] : List Int).length 0]]) (cap := []) rfl fok18 K rfl rfl (W_darkslideref_SamePlanes N r3.1 r3.2.1 r3.2.2.1 A2 c2 0 0 ([] : List Int) none 0 _ ((inR (C := (cI .i64)) 3 rfl rfl) _ M) (M.cap 3 rfl) ((fun _ _ => SL.nil) _ M) (Nat.le_refl _) r43 h_r43)) ?_
                have M0 := M; clear K M; rintro _ a w ⟨rfl, M⟩ K
                have M := M0.call M
                clear M0
                refine X_rd K (want_no rfl) rfl rfl (rd_pickT rfl K rfl rfl) M ?_; clear K; intro a K
                refine X_rd K (want_no rfl) rfl rfl (rd_assign rfl K rfl) M ?_; clear K; intro a K
                refine wpList_nil ?_
                refine then_n ?_
                refine wp_ret ?_
                cases h
                exact ret1 K rfl (res_tmp K rfl) ⟨_, rfl, rfl, ((M).pick [] (by decide))⟩
              · have h := cfalse hb h
                have K := K.reb (s := 62) rfl hb
                refine X_no K (K.no rfl rfl rfl rfl) rfl rfl ?_; clear K; intro a K
                refine X_no K (K.no rfl rfl rfl rfl) rfl rfl ?_; clear K; intro a K
                refine X_no K (K.no rfl rfl rfl rfl) rfl rfl ?_; clear K; intro a K
                refine X_rd K (want_no rfl) rfl rfl (rd_pickF rfl K rfl rfl) M ?_; clear K; intro a K
                refine X_rd K (want_no rfl) rfl rfl (rd_assign rfl K rfl) M ?_; clear K; intro a K
                refine wpList_nil ?_
                refine then_n ?_
                refine wp_ret ?_
                cases h
                exact ret1 K rfl (res_tmp K rfl) ⟨_, rfl, rfl, ((M).pick [] (by decide))⟩
            · have h := cfalse hb h
              have K := K.reb (s := 57) rfl hb
              refine X_no K (K.no rfl rfl rfl rfl) rfl rfl ?_; clear K; intro a K
              refine X_no K (K.no rfl rfl rfl rfl) rfl rfl ?_; clear K; intro a K
              refine X_no K (K.no rfl rfl rfl rfl) rfl rfl ?_; clear K; intro a K
              refine X_rd K (want_no rfl) rfl rfl (rd_pickF rfl K rfl rfl) M ?_; clear K; intro a K
              refine X_rd K (want_no rfl) rfl rfl (rd_move rfl K rfl) M ?_; clear K; intro a K
              refine X_no K (K.no rfl rfl rfl rfl) rfl rfl ?_; clear K; intro a K
              refine X_no K (K.no rfl rfl rfl rfl) rfl rfl ?_; clear K; intro a K
              refine X_no K (K.no rfl rfl rfl rfl) rfl rfl ?_; clear K; intro a K
              refine X_rd K (want_no rfl) rfl rfl (rd_pickF rfl K rfl rfl) M ?_; clear K; intro a K
              refine X_rd K (want_no rfl) rfl rfl (rd_assign rfl K rfl) M ?_; clear K; intro a K
              refine wpList_nil ?_
              refine then_n ?_
              refine wp_ret ?_
              cases h
              exact ret1 K rfl (res_tmp K rfl) ⟨_, rfl, rfl, ((M).pick [] (by decide))⟩
          · have h := cfalse hb h
            have K := K.reb (s := 52) rfl hb
            refine X_no K (K.no rfl rfl rfl rfl) rfl rfl ?_; clear K; intro a K
            refine X_no K (K.no rfl rfl rfl rfl) rfl rfl ?_; clear K; intro a K
            refine X_no K (K.no rfl rfl rfl rfl) rfl rfl ?_; clear K; intro a K
            refine X_rd K (want_no rfl) rfl rfl (rd_pickF rfl K rfl rfl) M ?_; clear K; intro a K
            refine X_rd K (want_no rfl) rfl rfl (rd_move rfl K rfl) M ?_; clear K; intro a K
            refine X_no K (K.no rfl rfl rfl rfl) rfl rfl ?_; clear K; intro a K
            refine X_no K (K.no rfl rfl rfl rfl) rfl rfl ?_; clear K; intro a K
            refine X_no K (K.no rfl rfl rfl rfl) rfl rfl ?_; clear K; intro a K
            refine X_rd K (want_no rfl) rfl rfl (rd_pickF rfl K rfl rfl) M ?_; clear K; intro a K
            refine X_rd K (want_no rfl) rfl rfl (rd_move rfl K rfl) M ?_; clear K; intro a K
            refine X_no K (K.no rfl rfl rfl rfl) rfl rfl ?_; clear K; intro a K
            refine X_no K (K.no rfl rfl rfl rfl) rfl rfl ?_; clear K; intro a K
            refine X_no K (K.no rfl rfl rfl rfl) rfl rfl ?_; clear K; intro a K
            refine X_rd K (want_no rfl) rfl rfl (rd_pickF rfl K rfl rfl) M ?_; clear K; intro a K
            refine X_rd K (want_no rfl) rfl rfl (rd_assign rfl K rfl) M ?_; clear K; intro a K
            refine wpList_nil ?_
            refine then_n ?_
            refine wp_ret ?_
            cases h
            exact ret1 K rfl (res_tmp K rfl) ⟨_, rfl, rfl, ((M).pick [] (by decide))⟩
        · have h := cfalse hb h
          have K := K.reb (s := 47) rfl hb
          refine X_no K (K.no rfl rfl rfl rfl) rfl rfl ?_; clear K; intro a K
          refine X_no K (K.no rfl rfl rfl rfl) rfl rfl ?_; clear K; intro a K
          refine X_no K (K.no rfl rfl rfl rfl) rfl rfl ?_; clear K; intro a K
          refine X_rd K (want_no rfl) rfl rfl (rd_pickF rfl K rfl rfl) M ?_; clear K; intro a K
          refine X_rd K (want_no rfl) rfl rfl (rd_move rfl K rfl) M ?_; clear K; intro a K
          refine X_no K (K.no rfl rfl rfl rfl) rfl rfl ?_; clear K; intro a K
          refine X_no K (K.no rfl rfl rfl rfl) rfl rfl ?_; clear K; intro a K
          refine X_no K (K.no rfl rfl rfl rfl) rfl rfl ?_; clear K; intro a K
          refine X_rd K (want_no rfl) rfl rfl (rd_pickF rfl K rfl rfl) M ?_; clear K; intro a K
          refine X_rd K (want_no rfl) rfl rfl (rd_move rfl K rfl) M ?_; clear K; intro a K
          refine X_no K (K.no rfl rfl rfl rfl) rfl rfl ?_; clear K; intro a K
          refine X_no K (K.no rfl rfl rfl rfl) rfl rfl ?_; clear K; intro a K
          refine X_no K (K.no rfl rfl rfl rfl) rfl rfl ?_; clear K; intro a K
          refine X_rd K (want_no rfl) rfl rfl (rd_pickF rfl K rfl rfl) M ?_; clear K; intro a K
          refine X_rd K (want_no rfl) rfl rfl (rd_move rfl K rfl) M ?_; clear K; intro a K
          refine X_no K (K.no rfl rfl rfl rfl) rfl rfl ?_; clear K; intro a K
          refine X_no K (K.no rfl rfl rfl rfl) rfl rfl ?_; clear K; intro a K
          refine X_no K (K.no rfl rfl rfl rfl) rfl rfl ?_; clear K; intro a K
          refine X_rd K (want_no rfl) rfl rfl (rd_pickF rfl K rfl rfl) M ?_; clear K; intro a K
          refine X_rd K (want_no rfl) rfl rfl (rd_assign rfl K rfl) M ?_; clear K; intro a K
          refine wpList_nil ?_
          refine then_n ?_
          refine wp_ret ?_
          cases h
          exact ret1 K rfl (res_tmp K rfl) ⟨_, rfl, rfl, ((M).pick [] (by decide))⟩
      · have h := cfalse hb h
        refine wp_skip ?_
        refine then_n ?_
        refine wp_seq ?_
        refine X_reg ?_
        obtain ⟨r44, h_r44, h⟩ := obind h
        refine X_ac K (want_no rfl) rfl rfl (ac_call (vs := []) (cap := []) rfl fok43 K rfl rfl (W_darkslidelaw_mosaicBegun N  _  r44 h_r44)) ?_
        have M0 := M; clear K M; rintro _ a w ⟨rfl, M⟩ K
        have M := M0.call M
        clear M0
        refine X_rd K (want_no rfl) rfl rfl (rd_move rfl K rfl) M ?_; clear K; intro a K
        rcases Bool.eq_false_or_eq_true (r44) with hb | hb
        · have h := ctrue hb h
          have K := K.reb (s := 47) rfl hb
          refine X_rd K (K.yes rfl rfl rfl) rfl rfl (rd_move rfl K rfl) M ?_; clear K; intro a K
          refine X_rd K (K.yes rfl rfl rfl) rfl rfl (rd_move rfl K rfl) M ?_; clear K; intro a K
          refine X_rd K (K.yes rfl rfl rfl) rfl rfl (rd_eql rfl K rfl rfl) M ?_; clear K; intro a K
          refine X_rd K (want_no rfl) rfl rfl (rd_pickT rfl K rfl rfl) M ?_; clear K; intro a K
          refine X_rd K (want_no rfl) rfl rfl (rd_move rfl K rfl) M ?_; clear K; intro a K
          rcases Bool.eq_false_or_eq_true (decide (r2.2.2.2 = 3)) with hb | hb
          · have h := ctrue hb h
            have K := K.reb (s := 52) rfl hb
            refine X_rd K (K.yes rfl rfl rfl) rfl rfl (rd_move rfl K rfl) M ?_; clear K; intro a K
            refine X_rd K (K.yes rfl rfl rfl) rfl rfl (rd_move rfl K rfl) M ?_; clear K; intro a K
            refine X_rd K (K.yes rfl rfl rfl) rfl rfl (rd_eql rfl K rfl rfl) M ?_; clear K; intro a K
            refine X_rd K (want_no rfl) rfl rfl (rd_pickT rfl K rfl rfl) M ?_; clear K; intro a K
            refine X_rd K (want_no rfl) rfl rfl (rd_move rfl K rfl) M ?_; clear K; intro a K
            rcases Bool.eq_false_or_eq_true (decide (r3.2.2.2 = 1)) with hb | hb
            · have h := ctrue hb h
              have K := K.reb (s := 57) rfl hb
              refine X_rd K (K.yes rfl rfl rfl) rfl rfl (rd_ldA rfl ty49 K rfl (inM 4 rfl) rfl rfl) M ?_; clear K; intro a K
              refine X_rd K (K.yes rfl rfl rfl) rfl rfl (rd_ldA rfl ty49 K rfl (inM 1 rfl) rfl rfl) M ?_; clear K; intro a K
              obtain ⟨r45, h_r45, h⟩ := obind h
              refine X_ac K (K.yes rfl rfl rfl) rfl rfl (ac_call (vs := [.agg #[.int .i64 r2.1, .int .i64 r2.2.1, .slice A r2.2.2.1.length c], .agg #[.int .i64 0, .int .i64 0, .slice none (([] : List (Int × Int × Int))).length 0]]) (cap := []) rfl fok31 K rfl rfl (W_darkslideref_SamePictures N r2.1 r2.2.1 r2.2.2.1 A c 0 0 (([] : List (Int × Int × Int))) none 0 _ ((inR (C := cIII) 5 rfl rfl) _ M) (M.cap 5 rfl) ((fun _ _ => SL.nil) _ M) (Nat.le_refl _) r45 h_r45)) ?_
              have M0 := M; clear K M; rintro _ a w ⟨rfl, M⟩ K
              have M := M0.call M
              clear M0
              refine X_rd K (want_no rfl) rfl rfl (rd_pickT rfl K rfl rfl) M ?_; clear K; intro a K
              refine X_rd K (want_no rfl) rfl rfl (rd_move rfl K rfl) M ?_; clear K; intro a K
              rcases Bool.eq_false_or_eq_true (r45) with hb | hb
              · have h := ctrue hb h
                have K := K.reb (s := 62) rfl hb
                refine X_rd K (K.yes rfl rfl rfl) rfl rfl (rd_ldA rfl ty24 K rfl (inM 2 rfl) rfl rfl) M ?_; clear K; intro a K
                refine X_rd K (K.yes rfl rfl rfl) rfl rfl (rd_ldA rfl ty24 K rfl (inM 0 rfl) rfl rfl) M ?_; clear K; intro a K
                obtain ⟨r46, h_r46, h⟩ := obind h
                refine X_ac K (K.yes rfl rfl rfl) rfl rfl (ac_call (vs := [.agg #[.int .i64 r3.1, .int .i64 r3.2.1, .slice A2 r3.2.2.1.length c2], .agg #[.int .i64 0, .int .i64 0, .slice none ([] : List Int).length 0]]) (cap := []) rfl fok18 K rfl rfl (W_darkslideref_SamePlanes N r3.1 r3.2.1 r3.2.2.1 A2 c2 0 0 ([] : List Int) none 0 _ ((inR (C := (cI .i64)) 3 rfl rfl) _ M) (M.cap 3 rfl) ((fun _ _ => SL.nil) _ M) (Nat.le_refl _) r46 h_r46)) ?_
                have M0 := M; clear K M; rintro _ a w ⟨rfl, M⟩ K
                have M := M0.call M
                clear M0
                refine X_rd K (want_no rfl) rfl rfl (rd_pickT rfl K rfl rfl) M ?_; clear K; intro a K
                refine X_rd K (want_no rfl) rfl rfl (rd_assign rfl K rfl) M ?_; clear K; intro a K
                refine wpList_nil ?_
                refine then_n ?_
                refine wp_ret ?_
                cases h
                exact ret1 K rfl (res_tmp K rfl) ⟨_, rfl, rfl, ((M).pick [] (by decide))⟩
              · have h := cfalse hb h
                have K := K.reb (s := 62) rfl hb
                refine X_no K (K.no rfl rfl rfl rfl) rfl rfl ?_; clear K; intro a K
                refine X_no K (K.no rfl rfl rfl rfl) rfl rfl ?_; clear K; intro a K
                refine X_no K (K.no rfl rfl rfl rfl) rfl rfl ?_; clear K; intro a K
                refine X_rd K (want_no rfl) rfl rfl (rd_pickF rfl K rfl rfl) M ?_; clear K; intro a K
                refine X_rd K (want_no rfl) rfl rfl (rd_assign rfl K rfl) M ?_; clear K; intro a K
                refine wpList_nil ?_
                refine then_n ?_
                refine wp_ret ?_
                cases h
                exact ret1 K rfl (res_tmp K rfl) ⟨_, rfl, rfl, ((M).pick [] (by decide))⟩
            · have h := cfalse hb h
              have K := K.reb (s := 57) rfl hb
              refine X_no K (K.no rfl rfl rfl rfl) rfl rfl ?_; clear K; intro a K
              refine X_no K (K.no rfl rfl rfl rfl) rfl rfl ?_; clear K; intro a K
              refine X_no K (K.no rfl rfl rfl rfl) rfl rfl ?_; clear K; intro a K
              refine X_rd K (want_no rfl) rfl rfl (rd_pickF rfl K rfl rfl) M ?_; clear K; intro a K
              refine X_rd K (want_no rfl) rfl rfl (rd_move rfl K rfl) M ?_; clear K; intro a K
              refine X_no K (K.no rfl rfl rfl rfl) rfl rfl ?_; clear K; intro a K
              refine X_no K (K.no rfl rfl rfl rfl) rfl rfl ?_; clear K; intro a K
              refine X_no K (K.no rfl rfl rfl rfl) rfl rfl ?_; clear K; intro a K
              refine X_rd K (want_no rfl) rfl rfl (rd_pickF rfl K rfl rfl) M ?_; clear K; intro a K
              refine X_rd K (want_no rfl) rfl rfl (rd_assign rfl K rfl) M ?_; clear K; intro a K
              refine wpList_nil ?_
              refine then_n ?_
              refine wp_ret ?_
              cases h
              exact ret1 K rfl (res_tmp K rfl) ⟨_, rfl, rfl, ((M).pick [] (by decide))⟩
          · have h := cfalse hb h
            have K := K.reb (s := 52) rfl hb
            refine X_no K (K.no rfl rfl rfl rfl) rfl rfl ?_; clear K; intro a K
            refine X_no K (K.no rfl rfl rfl rfl) rfl rfl ?_; clear K; intro a K
            refine X_no K (K.no rfl rfl rfl rfl) rfl rfl ?_; clear K; intro a K
            refine X_rd K (want_no rfl) rfl rfl (rd_pickF rfl K rfl rfl) M ?_; clear K; intro a K
            refine X_rd K (want_no rfl) rfl rfl (rd_move rfl K rfl) M ?_; clear K; intro a K
            refine X_no K (K.no rfl rfl rfl rfl) rfl rfl ?_; clear K; intro a K
            refine X_no K (K.no rfl rfl rfl rfl) rfl rfl ?_; clear K; intro a K
            refine X_no K (K.no rfl rfl rfl rfl) rfl rfl ?_; clear K; intro a K
            refine X_rd K (want_no rfl) rfl rfl (rd_pickF rfl K rfl rfl) M ?_; clear K; intro a K
            refine X_rd K (want_no rfl) rfl rfl (rd_move rfl K rfl) M ?_; clear K; intro a K
            refine X_no K (K.no rfl rfl rfl rfl) rfl rfl ?_; clear K; intro a K
            refine X_no K (K.no rfl rfl rfl rfl) rfl rfl ?_; clear K; intro a K
            refine X_no K (K.no rfl rfl rfl rfl) rfl rfl ?_; clear K; intro a K
            refine X_rd K (want_no rfl) rfl rfl (rd_pickF rfl K rfl rfl) M ?_; clear K; intro a K
            refine X_rd K (want_no rfl) rfl rfl (rd_assign rfl K rfl) M ?_; clear K; intro a K
            refine wpList_nil ?_
            refine then_n ?_
            refine wp_ret ?_
            cases h
            exact ret1 K rfl (res_tmp K rfl) ⟨_, rfl, rfl, ((M).pick [] (by decide))⟩
        · have h := cfalse hb h
          have K := K.reb (s := 47) rfl hb
          refine X_no K (K.no rfl rfl rfl rfl) rfl rfl ?_; clear K; intro a K
          refine X_no K (K.no rfl rfl rfl rfl) rfl rfl ?_; clear K; intro a K
          refine X_no K (K.no rfl rfl rfl rfl) rfl rfl ?_; clear K; intro a K
          refine X_rd K (want_no rfl) rfl rfl (rd_pickF rfl K rfl rfl) M ?_; clear K; intro a K
          refine X_rd K (want_no rfl) rfl rfl (rd_move rfl K rfl) M ?_; clear K; intro a K
          refine X_no K (K.no rfl rfl rfl rfl) rfl rfl ?_; clear K; intro a K
          refine X_no K (K.no rfl rfl rfl rfl) rfl rfl ?_; clear K; intro a K
          refine X_no K (K.no rfl rfl rfl rfl) rfl rfl ?_; clear K; intro a K
          refine X_rd K (want_no rfl) rfl rfl (rd_pickF rfl K rfl rfl) M ?_; clear K; intro a K
          refine X_rd K (want_no rfl) rfl rfl (rd_move rfl K rfl) M ?_; clear K; intro a K
          refine X_no K (K.no rfl rfl rfl rfl) rfl rfl ?_; clear K; intro a K
          refine X_no K (K.no rfl rfl rfl rfl) rfl rfl ?_; clear K; intro a K
          refine X_no K (K.no rfl rfl rfl rfl) rfl rfl ?_; clear K; intro a K
          refine X_rd K (want_no rfl) rfl rfl (rd_pickF rfl K rfl rfl) M ?_; clear K; intro a K
          refine X_rd K (want_no rfl) rfl rfl (rd_move rfl K rfl) M ?_; clear K; intro a K
          refine X_no K (K.no rfl rfl rfl rfl) rfl rfl ?_; clear K; intro a K
          refine X_no K (K.no rfl rfl rfl rfl) rfl rfl ?_; clear K; intro a K
          refine X_no K (K.no rfl rfl rfl rfl) rfl rfl ?_; clear K; intro a K
          refine X_rd K (want_no rfl) rfl rfl (rd_pickF rfl K rfl rfl) M ?_; clear K; intro a K
          refine X_rd K (want_no rfl) rfl rfl (rd_assign rfl K rfl) M ?_; clear K; intro a K
          refine wpList_nil ?_
          refine then_n ?_
          refine wp_ret ?_
          cases h
          exact ret1 K rfl (res_tmp K rfl) ⟨_, rfl, rfl, ((M).pick [] (by decide))⟩
    · have h := cfalse hb h
      refine wp_skip ?_
      refine then_n ?_
      refine wp_seq ?_
      refine wp_seq ?_
      refine X_reg ?_
      refine X_rd K (want_no rfl) rfl rfl (rd_ldA rfl ty49 K rfl (inM 6 rfl) rfl rfl) M ?_; clear K; intro a K
      obtain ⟨r47, h_r47, h⟩ := obind h
      refine X_ac K (want_no rfl) rfl rfl (ac_call (vs := [.agg #[.int .i64 o_W, .int .i64 o_H, .slice A_o_P o_P.length c_o_P]]) (cap := []) rfl fok35 K rfl rfl (W_darkslideref_PictureFine N o_W o_H o_P A_o_P c_o_P _ ((inA R_o_P) _ M) C_o_P r47 h_r47)) ?_
      have M0 := M; clear K M; rintro _ a w ⟨rfl, M⟩ K
      have M := M0.call M
      clear M0
      refine wpList_nil ?_
      refine then_n ?_
      refine X_cond K rfl (fun hb => ?_) (fun hb => ?_)
      · have h := ctrue hb h
        refine wp_seq ?_
        refine X_reg ?_
        refine X_rd K (want_no rfl) rfl rfl (rd_assign rfl K rfl) M ?_; clear K; intro a K
        refine wpList_nil ?_
        refine then_n ?_
        refine wp_seq ?_
        refine X_reg ?_
        refine X_rd K (want_no rfl) rfl rfl (rd_move rfl K rfl) M ?_; clear K; intro a K
        refine wpList_nil ?_
        refine then_n ?_
        refine X_condF K rfl ?_
        refine wp_skip ?_
        refine then_n ?_
        refine wp_seq ?_
        refine X_reg ?_
        obtain ⟨r48, h_r48, h⟩ := obind h
        refine X_ac K (want_no rfl) rfl rfl (ac_call (vs := []) (cap := []) rfl fok43 K rfl rfl (W_darkslidelaw_mosaicBegun N  _  r48 h_r48)) ?_
        have M0 := M; clear K M; rintro _ a w ⟨rfl, M⟩ K
        have M := M0.call M
        clear M0
        refine X_rd K (want_no rfl) rfl rfl (rd_move rfl K rfl) M ?_; clear K; intro a K
        rcases Bool.eq_false_or_eq_true (r48) with hb | hb
        · have h := ctrue hb h
          have K := K.reb (s := 47) rfl hb
          refine X_rd K (K.yes rfl rfl rfl) rfl rfl (rd_move rfl K rfl) M ?_; clear K; intro a K
          refine X_rd K (K.yes rfl rfl rfl) rfl rfl (rd_move rfl K rfl) M ?_; clear K; intro a K
          refine X_rd K (K.yes rfl rfl rfl) rfl rfl (rd_eql rfl K rfl rfl) M ?_; clear K; intro a K
          refine X_rd K (want_no rfl) rfl rfl (rd_pickT rfl K rfl rfl) M ?_; clear K; intro a K
          refine X_rd K (want_no rfl) rfl rfl (rd_move rfl K rfl) M ?_; clear K; intro a K
          rcases Bool.eq_false_or_eq_true (decide (r2.2.2.2 = 1)) with hb | hb
          · have h := ctrue hb h
            have K := K.reb (s := 52) rfl hb
            refine X_rd K (K.yes rfl rfl rfl) rfl rfl (rd_move rfl K rfl) M ?_; clear K; intro a K
            refine X_rd K (K.yes rfl rfl rfl) rfl rfl (rd_move rfl K rfl) M ?_; clear K; intro a K
            refine X_rd K (K.yes rfl rfl rfl) rfl rfl (rd_eql rfl K rfl rfl) M ?_; clear K; intro a K
            refine X_rd K (want_no rfl) rfl rfl (rd_pickT rfl K rfl rfl) M ?_; clear K; intro a K
            refine X_rd K (want_no rfl) rfl rfl (rd_move rfl K rfl) M ?_; clear K; intro a K
            rcases Bool.eq_false_or_eq_true (decide (r3.2.2.2 = 3)) with hb | hb
            · have h := ctrue hb h
              have K := K.reb (s := 57) rfl hb
              refine X_rd K (K.yes rfl rfl rfl) rfl rfl (rd_ldA rfl ty49 K rfl (inM 4 rfl) rfl rfl) M ?_; clear K; intro a K
              refine X_rd K (K.yes rfl rfl rfl) rfl rfl (rd_ldA rfl ty49 K rfl (inM 1 rfl) rfl rfl) M ?_; clear K; intro a K
              obtain ⟨r49, h_r49, h⟩ := obind h
              refine X_ac K (K.yes rfl rfl rfl) rfl rfl (ac_call (vs := [.agg #[.int .i64 r2.1, .int .i64 r2.2.1, .slice A r2.2.2.1.length c], .agg #[.int .i64 0, .int .i64 0, .slice none (([] : List (Int × Int × Int))).length 0]]) (cap := []) rfl fok31 K rfl rfl (W_darkslideref_SamePictures N r2.1 r2.2.1 r2.2.2.1 A c 0 0 (([] : List (Int × Int × Int))) none 0 _ ((inR (C := cIII) 5 rfl rfl) _ M) (M.cap 5 rfl) ((fun _ _ => SL.nil) _ M) (Nat.le_refl _) r49 h_r49)) ?_
              have M0 := M; clear K M; rintro _ a w ⟨rfl, M⟩ K
              have M := M0.call M
              clear M0
              refine X_rd K (want_no rfl) rfl rfl (rd_pickT rfl K rfl rfl) M ?_; clear K; intro a K
              refine X_rd K (want_no rfl) rfl rfl (rd_move rfl K rfl) M ?_; clear K; intro a K
              rcases Bool.eq_false_or_eq_true (r49) with hb | hb
              · have h := ctrue hb h
                have K := K.reb (s := 62) rfl hb
                refine X_rd K (K.yes rfl rfl rfl) rfl rfl (rd_ldA rfl ty24 K rfl (inM 2 rfl) rfl rfl) M ?_; clear K; intro a K
                refine X_rd K (K.yes rfl rfl rfl) rfl rfl (rd_ldA rfl ty24 K rfl (inM 0 rfl) rfl rfl) M ?_; clear K; intro a K
                obtain ⟨r50, h_r50, h⟩ := obind h
                refine X_ac K (K.yes rfl rfl rfl) rfl rfl (ac_call (vs := [.agg #[.int .i64 r3.1, .int .i64 r3.2.1, .slice A2 r3.2.2.1.length c2], .agg #[.int .i64 0, .int .i64 0, .slice none ([] : List Int).length 0]]) (cap := []) rfl fok18 K rfl rfl (W_darkslideref_SamePlanes N r3.1 r3.2.1 r3.2.2.1 A2 c2 0 0 ([] : List Int) none 0 _ ((inR (C := (cI .i64)) 3 rfl rfl) _ M) (M.cap 3 rfl) ((fun _ _ => SL.nil) _ M) (Nat.le_refl _) r50 h_r50)) ?_
                have M0 := M; clear K M; rintro _ a w ⟨rfl, M⟩ K
                have M := M0.call M
                clear M0
                refine X_rd K (want_no rfl) rfl rfl (rd_pickT rfl K rfl rfl) M ?_; clear K; intro a K
                refine X_rd K (want_no rfl) rfl rfl (rd_assign rfl K rfl) M ?_; clear K; intro a K
                refine wpList_nil ?_
                refine then_n ?_
                refine wp_ret ?_
                cases h
                exact ret1 K rfl (res_tmp K rfl) ⟨_, rfl, rfl, ((M).pick [] (by decide))⟩
              · have h := cfalse hb h
                have K := K.reb (s := 62) rfl hb
                refine X_no K (K.no rfl rfl rfl rfl) rfl rfl ?_; clear K; intro a K
                refine X_no K (K.no rfl rfl rfl rfl) rfl rfl ?_; clear K; intro a K
                refine X_no K (K.no rfl rfl rfl rfl) rfl rfl ?_; clear K; intro a K
                refine X_rd K (want_no rfl) rfl rfl (rd_pickF rfl K rfl rfl) M ?_; clear K; intro a K
                refine X_rd K (want_no rfl) rfl rfl (rd_assign rfl K rfl) M ?_; clear K; intro a K
                refine wpList_nil ?_
                refine then_n ?_
                refine wp_ret ?_
                cases h
                exact ret1 K rfl (res_tmp K rfl) ⟨_, rfl, rfl, ((M).pick [] (by decide))⟩
            · have h := cfalse hb h
              have K := K.reb (s := 57) rfl hb
              refine X_no K (K.no rfl rfl rfl rfl) rfl rfl ?_; clear K; intro a K
              refine X_no K (K.no rfl rfl rfl rfl) rfl rfl ?_; clear K; intro a K
              refine X_no K (K.no rfl rfl rfl rfl) rfl rfl ?_; clear K; intro a K
              refine X_rd K (want_no rfl) rfl rfl (rd_pickF rfl K rfl rfl) M ?_; clear K; intro a K
              refine X_rd K (want_no rfl) rfl rfl (rd_move rfl K rfl) M ?_; clear K; intro a K
              refine X_no K (K.no rfl rfl rfl rfl) rfl rfl ?_; clear K; intro a K
              refine X_no K (K.no rfl rfl rfl rfl) rfl rfl ?_; clear K; intro a K
              refine X_no K (K.no rfl rfl rfl rfl) rfl rfl ?_; clear K; intro a K
              refine X_rd K (want_no rfl) rfl rfl (rd_pickF rfl K rfl rfl) M ?_; clear K; intro a K
              refine X_rd K (want_no rfl) rfl rfl (rd_assign rfl K rfl) M ?_; clear K; intro a K
              refine wpList_nil ?_
              refine then_n ?_
              refine wp_ret ?_
              cases h
              exact ret1 K rfl (res_tmp K rfl) ⟨_, rfl, rfl, ((M).pick [] (by decide))⟩
          · have h := cfalse hb h
            have K := K.reb (s := 52) rfl hb
            refine X_no K (K.no rfl rfl rfl rfl) rfl rfl ?_; clear K; intro a K
            refine X_no K (K.no rfl rfl rfl rfl) rfl rfl ?_; clear K; intro a K
            refine X_no K (K.no rfl rfl rfl rfl) rfl rfl ?_; clear K; intro a K
            refine X_rd K (want_no rfl) rfl rfl (rd_pickF rfl K rfl rfl) M ?_; clear K; intro a K
            refine X_rd K (want_no rfl) rfl rfl (rd_move rfl K rfl) M ?_; clear K; intro a K
            refine X_no K (K.no rfl rfl rfl rfl) rfl rfl ?_; clear K; intro a K
            refine X_no K (K.no rfl rfl rfl rfl) rfl rfl ?_; clear K; intro a K
            refine X_no K (K.no rfl rfl rfl rfl) rfl rfl ?_; clear K; intro a K
            refine X_rd K (want_no rfl) rfl rfl (rd_pickF rfl K rfl rfl) M ?_; clear K; intro a K
            refine X_rd K (want_no rfl) rfl rfl (rd_move rfl K rfl) M ?_; clear K; intro a K
            refine X_no K (K.no rfl rfl rfl rfl) rfl rfl ?_; clear K; intro a K
            refine X_no K (K.no rfl rfl rfl rfl) rfl rfl ?_; clear K; intro a K
            refine X_no K (K.no rfl rfl rfl rfl) rfl rfl ?_; clear K; intro a K
            refine X_rd K (want_no rfl) rfl rfl (rd_pickF rfl K rfl rfl) M ?_; clear K; intro a K
            refine X_rd K (want_no rfl) rfl rfl (rd_assign rfl K rfl) M ?_; clear K; intro a K
            refine wpList_nil ?_
            refine then_n ?_
            refine wp_ret ?_
            cases h
            exact ret1 K rfl (res_tmp K rfl) ⟨_, rfl, rfl, ((M).pick [] (by decide))⟩
        · have h := cfalse hb h
          have K := K.reb (s := 47) rfl hb
          refine X_no K (K.no rfl rfl rfl rfl) rfl rfl ?_; clear K; intro a K
          refine X_no K (K.no rfl rfl rfl rfl) rfl rfl ?_; clear K; intro a K
          refine X_no K (K.no rfl rfl rfl rfl) rfl rfl ?_; clear K; intro a K
          refine X_rd K (want_no rfl) rfl rfl (rd_pickF rfl K rfl rfl) M ?_; clear K; intro a K
          refine X_rd K (want_no rfl) rfl rfl (rd_move rfl K rfl) M ?_; clear K; intro a K
          refine X_no K (K.no rfl rfl rfl rfl) rfl rfl ?_; clear K; intro a K
          refine X_no K (K.no rfl rfl rfl rfl) rfl rfl ?_; clear K; intro a K
          refine X_no K (K.no rfl rfl rfl rfl) rfl rfl ?_; clear K; intro a K
          refine X_rd K (want_no rfl) rfl rfl (rd_pickF rfl K rfl rfl) M ?_; clear K; intro a K
          refine X_rd K (want_no rfl) rfl rfl (rd_move rfl K rfl) M ?_; clear K; intro a K
          refine X_no K (K.no rfl rfl rfl rfl) rfl rfl ?_; clear K; intro a K
          refine X_no K (K.no rfl rfl rfl rfl) rfl rfl ?_; clear K; intro a K
          refine X_no K (K.no rfl rfl rfl rfl) rfl rfl ?_; clear K; intro a K
          refine X_rd K (want_no rfl) rfl rfl (rd_pickF rfl K rfl rfl) M ?_; clear K; intro a K
          refine X_rd K (want_no rfl) rfl rfl (rd_move rfl K rfl) M ?_; clear K; intro a K
          refine X_no K (K.no rfl rfl rfl rfl) rfl rfl ?_; clear K; intro a K
          refine X_no K (K.no rfl rfl rfl rfl) rfl rfl ?_; clear K; intro a K
          refine X_no K (K.no rfl rfl rfl rfl) rfl rfl ?_; clear K; intro a K
          refine X_rd K (want_no rfl) rfl rfl (rd_pickF rfl K rfl rfl) M ?_; clear K; intro a K
          refine X_rd K (want_no rfl) rfl rfl (rd_assign rfl K rfl) M ?_; clear K; intro a K
          refine wpList_nil ?_
          refine then_n ?_
          refine wp_ret ?_
          cases h
          exact ret1 K rfl (res_tmp K rfl) ⟨_, rfl, rfl, ((M).pick [] (by decide))⟩
      · have h := cfalse hb h
        refine wp_skip ?_
        refine then_n ?_
        refine wp_seq ?_
        refine X_reg ?_
        obtain ⟨r51, h_r51, h⟩ := obind h
        refine X_ac K (want_no rfl) rfl rfl (ac_call (vs := []) (cap := []) rfl fok43 K rfl rfl (W_darkslidelaw_mosaicBegun N  _  r51 h_r51)) ?_
        have M0 := M; clear K M; rintro _ a w ⟨rfl, M⟩ K
        have M := M0.call M
        clear M0
        refine X_rd K (want_no rfl) rfl rfl (rd_move rfl K rfl) M ?_; clear K; intro a K
        rcases Bool.eq_false_or_eq_true (r51) with hb | hb
        · have h := ctrue hb h
          have K := K.reb (s := 47) rfl hb
          refine X_rd K (K.yes rfl rfl rfl) rfl rfl (rd_move rfl K rfl) M ?_; clear K; intro a K
          refine X_rd K (K.yes rfl rfl rfl) rfl rfl (rd_move rfl K rfl) M ?_; clear K; intro a K
          refine X_rd K (K.yes rfl rfl rfl) rfl rfl (rd_eql rfl K rfl rfl) M ?_; clear K; intro a K
          refine X_rd K (want_no rfl) rfl rfl (rd_pickT rfl K rfl rfl) M ?_; clear K; intro a K
          refine X_rd K (want_no rfl) rfl rfl (rd_move rfl K rfl) M ?_; clear K; intro a K
          rcases Bool.eq_false_or_eq_true (decide (r2.2.2.2 = 1)) with hb | hb
          · have h := ctrue hb h
            have K := K.reb (s := 52) rfl hb
            refine X_rd K (K.yes rfl rfl rfl) rfl rfl (rd_move rfl K rfl) M ?_; clear K; intro a K
            refine X_rd K (K.yes rfl rfl rfl) rfl rfl (rd_move rfl K rfl) M ?_; clear K; intro a K
            refine X_rd K (K.yes rfl rfl rfl) rfl rfl (rd_eql rfl K rfl rfl) M ?_; clear K; intro a K
            refine X_rd K (want_no rfl) rfl rfl (rd_pickT rfl K rfl rfl) M ?_; clear K; intro a K
            refine X_rd K (want_no rfl) rfl rfl (rd_move rfl K rfl) M ?_; clear K; intro a K
            rcases Bool.eq_false_or_eq_true (decide (r3.2.2.2 = 1)) with hb | hb
            · have h := ctrue hb h
              have K := K.reb (s := 57) rfl hb
              refine X_rd K (K.yes rfl rfl rfl) rfl rfl (rd_ldA rfl ty49 K rfl (inM 4 rfl) rfl rfl) M ?_; clear K; intro a K
              refine X_rd K (K.yes rfl rfl rfl) rfl rfl (rd_ldA rfl ty49 K rfl (inM 1 rfl) rfl rfl) M ?_; clear K; intro a K
              obtain ⟨r52, h_r52, h⟩ := obind h
              refine X_ac K (K.yes rfl rfl rfl) rfl rfl (ac_call (vs := [.agg #[.int .i64 r2.1, .int .i64 r2.2.1, .slice A r2.2.2.1.length c], .agg #[.int .i64 0, .int .i64 0, .slice none (([] : List (Int × Int × Int))).length 0]]) (cap := []) rfl fok31 K rfl rfl (W_darkslideref_SamePictures N r2.1 r2.2.1 r2.2.2.1 A c 0 0 (([] : List (Int × Int × Int))) none 0 _ ((inR (C := cIII) 5 rfl rfl) _ M) (M.cap 5 rfl) ((fun _ _ => SL.nil) _ M) (Nat.le_refl _) r52 h_r52)) ?_
              have M0 := M; clear K M; rintro _ a w ⟨rfl, M⟩ K
              have M := M0.call M
              clear M0
              refine X_rd K (want_no rfl) rfl rfl (rd_pickT rfl K rfl rfl) M ?_; clear K; intro a K
              refine X_rd K (want_no rfl) rfl rfl (rd_move rfl K rfl) M ?_; clear K; intro a K
              rcases Bool.eq_false_or_eq_true (r52) with hb | hb
              · have h := ctrue hb h
                have K := K.reb (s := 62) rfl hb
                refine X_rd K (K.yes rfl rfl rfl) rfl rfl (rd_ldA rfl ty24 K rfl (inM 2 rfl) rfl rfl) M ?_; clear K; intro a K
                refine X_rd K (K.yes rfl rfl rfl) rfl rfl (rd_ldA rfl ty24 K rfl (inM 0 rfl) rfl rfl) M ?_; clear K; intro a K
                obtain ⟨r53, h_r53, h⟩ := obind h
                refine X_ac K (K.yes rfl rfl rfl) rfl rfl (ac_call (vs := [.agg #[.int .i64 r3.1, .int .i64 r3.2.1, .slice A2 r3.2.2.1.length c2], .agg #[.int .i64 0, .int .i64 0, .slice none ([] : List Int).length 0]]) (cap := []) rfl fok18 K rfl rfl (W_darkslideref_SamePlanes N r3.1 r3.2.1 r3.2.2.1 A2 c2 0 0 ([] : List Int) none 0 _ ((inR (C := (cI .i64)) 3 rfl rfl) _ M) (M.cap 3 rfl) ((fun _ _ => SL.nil) _ M) (Nat.le_refl _) r53 h_r53)) ?_
                have M0 := M; clear K M; rintro _ a w ⟨rfl, M⟩ K
                have M := M0.call M
                clear M0
                refine X_rd K (want_no rfl) rfl rfl (rd_pickT rfl K rfl rfl) M ?_; clear K; intro a K
                refine X_rd K (want_no rfl) rfl rfl (rd_assign rfl K rfl) M ?_; clear K; intro a K
                refine wpList_nil ?_
                refine then_n ?_
                refine wp_ret ?_
                cases h
                exact ret1 K rfl (res_tmp K rfl) ⟨_, rfl, rfl, ((M).pick [] (by decide))⟩
              · have h := cfalse hb h
                have K := K.reb (s := 62) rfl hb
                refine X_no K (K.no rfl rfl rfl rfl) rfl rfl ?_; clear K; intro a K
                refine X_no K (K.no rfl rfl rfl rfl) rfl rfl ?_; clear K; intro a K
                refine X_no K (K.no rfl rfl rfl rfl) rfl rfl ?_; clear K; intro a K
                refine X_rd K (want_no rfl) rfl rfl (rd_pickF rfl K rfl rfl) M ?_; clear K; intro a K
                refine X_rd K (want_no rfl) rfl rfl (rd_assign rfl K rfl) M ?_; clear K; intro a K
                refine wpList_nil ?_
                refine then_n ?_
                refine wp_ret ?_
                cases h
                exact ret1 K rfl (res_tmp K rfl) ⟨_, rfl, rfl, ((M).pick [] (by decide))⟩
            · have h := cfalse hb h
              have K := K.reb (s := 57) rfl hb
              refine X_no K (K.no rfl rfl rfl rfl) rfl rfl ?_; clear K; intro a K
              refine X_no K (K.no rfl rfl rfl rfl) rfl rfl ?_; clear K; intro a K
              refine X_no K (K.no rfl rfl rfl rfl) rfl rfl ?_; clear K; intro a K
              refine X_rd K (want_no rfl) rfl rfl (rd_pickF rfl K rfl rfl) M ?_; clear K; intro a K
              refine X_rd K (want_no rfl) rfl rfl (rd_move rfl K rfl) M ?_; clear K; intro a K
              refine X_no K (K.no rfl rfl rfl rfl) rfl rfl ?_; clear K; intro a K
              refine X_no K (K.no rfl rfl rfl rfl) rfl rfl ?_; clear K; intro a K
              refine X_no K (K.no rfl rfl rfl rfl) rfl rfl ?_; clear K; intro a K
              refine X_rd K (want_no rfl) rfl rfl (rd_pickF rfl K rfl rfl) M ?_; clear K; intro a K
              refine X_rd K (want_no rfl) rfl rfl (rd_assign rfl K rfl) M ?_; clear K; intro a K
              refine wpList_nil ?_
              refine then_n ?_
              refine wp_ret ?_
              cases h
              exact ret1 K rfl (res_tmp K rfl) ⟨_, rfl, rfl, ((M).pick [] (by decide))⟩
          · have h := cfalse hb h
            have K := K.reb (s := 52) rfl hb
            refine X_no K (K.no rfl rfl rfl rfl) rfl rfl ?_; clear K; intro a K
            refine X_no K (K.no rfl rfl rfl rfl) rfl rfl ?_; clear K; intro a K
            refine X_no K (K.no rfl rfl rfl rfl) rfl rfl ?_; clear K; intro a K
            refine X_rd K (want_no rfl) rfl rfl (rd_pickF rfl K rfl rfl) M ?_; clear K; intro a K
            refine X_rd K (want_no rfl) rfl rfl (rd_move rfl K rfl) M ?_; clear K; intro a K
            refine X_no K (K.no rfl rfl rfl rfl) rfl rfl ?_; clear K; intro a K
            refine X_no K (K.no rfl rfl rfl rfl) rfl rfl ?_; clear K; intro a K
            refine X_no K (K.no rfl rfl rfl rfl) rfl rfl ?_; clear K; intro a K
            refine X_rd K (want_no rfl) rfl rfl (rd_pickF rfl K rfl rfl) M ?_; clear K; intro a K
            refine X_rd K (want_no rfl) rfl rfl (rd_move rfl K rfl) M ?_; clear K; intro a K
            refine X_no K (K.no rfl rfl rfl rfl) rfl rfl ?_; clear K; intro a K
            refine X_no K (K.no rfl rfl rfl rfl) rfl rfl ?_; clear K; intro a K
            refine X_no K (K.no rfl rfl rfl rfl) rfl rfl ?_; clear K; intro a K
            refine X_rd K (want_no rfl) rfl rfl (rd_pickF rfl K rfl rfl) M ?_; clear K; intro a K
            refine X_rd K (want_no rfl) rfl rfl (rd_assign rfl K rfl) M ?_; clear K; intro a K
            refine wpList_nil ?_
            refine then_n ?_
            refine wp_ret ?_
            cases h
            exact ret1 K rfl (res_tmp K rfl) ⟨_, rfl, rfl, ((M).pick [] (by decide))⟩
        · have h := cfalse hb h
          have K := K.reb (s := 47) rfl hb
          refine X_no K (K.no rfl rfl rfl rfl) rfl rfl ?_; clear K; intro a K
          refine X_no K (K.no rfl rfl rfl rfl) rfl rfl ?_; clear K; intro a K
          refine X_no K (K.no rfl rfl rfl rfl) rfl rfl ?_; clear K; intro a K
          refine X_rd K (want_no rfl) rfl rfl (rd_pickF rfl K rfl rfl) M ?_; clear K; intro a K
          refine X_rd K (want_no rfl) rfl rfl (rd_move rfl K rfl) M ?_; clear K; intro a K
          refine X_no K (K.no rfl rfl rfl rfl) rfl rfl ?_; clear K; intro a K
          refine X_no K (K.no rfl rfl rfl rfl) rfl rfl ?_; clear K; intro a K
          refine X_no K (K.no rfl rfl rfl rfl) rfl rfl ?_; clear K; intro a K
          refine X_rd K (want_no rfl) rfl rfl (rd_pickF rfl K rfl rfl) M ?_; clear K; intro a K
          refine X_rd K (want_no rfl) rfl rfl (rd_move rfl K rfl) M ?_; clear K; intro a K
          refine X_no K (K.no rfl rfl rfl rfl) rfl rfl ?_; clear K; intro a K
          refine X_no K (K.no rfl rfl rfl rfl) rfl rfl ?_; clear K; intro a K
          refine X_no K (K.no rfl rfl rfl rfl) rfl rfl ?_; clear K; intro a K
          refine X_rd K (want_no rfl) rfl rfl (rd_pickF rfl K rfl rfl) M ?_; clear K; intro a K
          refine X_rd K (want_no rfl) rfl rfl (rd_move rfl K rfl) M ?_; clear K; intro a K
          refine X_no K (K.no rfl rfl rfl rfl) rfl rfl ?_; clear K; intro a K
          refine X_no K (K.no rfl rfl rfl rfl) rfl rfl ?_; clear K; intro a K
          refine X_no K (K.no rfl rfl rfl rfl) rfl rfl ?_; clear K; intro a K
          refine X_rd K (want_no rfl) rfl rfl (rd_pickF rfl K rfl rfl) M ?_; clear K; intro a K
          refine X_rd K (want_no rfl) rfl rfl (rd_assign rfl K rfl) M ?_; clear K; intro a K
          refine wpList_nil ?_
          refine then_n ?_
          refine wp_ret ?_
          cases h
          exact ret1 K rfl (res_tmp K rfl) ⟨_, rfl, rfl, ((M).pick [] (by decide))⟩

end Go.Proofs.Ytpmnfhifmmfglaa
