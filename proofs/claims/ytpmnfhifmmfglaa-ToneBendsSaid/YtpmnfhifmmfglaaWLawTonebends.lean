/- Printed by a program (walk.py): the walks of darkslidelaw_ToneBends: each function computes what its plain program tells. -/
import Derived.Test.YtpmnfhifmmfglaaFacts
import Derived.Test.YtpmnfhifmmfglaaDD
import Derived.Test.YtpmnfhifmmfglaaWLawTonebegun
import Derived.Test.YtpmnfhifmmfglaaWRefBent
import Derived.Test.YtpmnfhifmmfglaaWRefCurvefine
import Derived.Test.YtpmnfhifmmfglaaWRefOncurve
import Derived.Test.YtpmnfhifmmfglaaWRefPicturefine
import Derived.Test.YtpmnfhifmmfglaaWRefSamepictures
import Derived.Test.YtpmnfhifmmfglaaWTone
set_option linter.unusedVariables false
set_option linter.unusedSimpArgs false
set_option linter.unusedSectionVars false
namespace Go.Proofs.Ytpmnfhifmmfglaa
open Go.RowKit

set_option maxRecDepth 100000 in
set_option maxHeartbeats 4000000 in
theorem W_darkslidelaw_ToneBends (N : Nat) (q_W : Int) (q_H : Int) (q_P : List (Int × Int × Int)) (A_q_P : Option Addr) (c_q_P : Nat) (l2 : List (Int × Int)) (A_l2 : Option Addr) (c_l2 : Nat) (x2 : Int) (w0 : World) (R_q_P : SL w0 cIII A_q_P q_P) (C_q_P : q_P.length ≤ c_q_P) (R_l2 : SL w0 cII A_l2 l2) (C_l2 : l2.length ≤ c_l2) (r : Bool) (h : D_darkslidelaw_ToneBends N q_W q_H q_P l2 x2 = some r) :
    Calls Try.prog 12 #[.agg #[.int .i64 q_W, .int .i64 q_H, .slice A_q_P q_P.length c_q_P], .slice A_l2 l2.length c_l2, .int .i64 x2] w0 fun e w' => ∃ v, e = .returned v ∧ v = .bool r ∧ Mem w0.heap.size w0 w' [] := by
  refine X_enter Try.func12 rfl Try.ntmps12 rfl ?_
  intro a K
  have M := Mem.start w0
  have K : Kn a 64 [(0, .agg #[.int .i64 q_W, .int .i64 q_H, .slice A_q_P q_P.length c_q_P]), (1, .slice A_l2 l2.length c_l2), (2, .int .i64 x2)] := K
  unfold D_darkslidelaw_ToneBends at h
  refine wp_seq ?_
  refine X_reg ?_
  refine X_ac K (want_no rfl) rfl rfl (ac_box rfl K rfl (cs := [.int .i64 q_W, .int .i64 q_H, .slice A_q_P q_P.length c_q_P]) rfl M) ?_
  have M0 := M; clear K M; rintro _ a w ⟨g_q, rfl, M⟩ K
  clear M0
  refine X_rd K (want_no rfl) rfl rfl (rd_assign rfl K rfl) M ?_; clear K; intro a K
  refine wpList_nil ?_
  refine then_n ?_
  refine wp_seq ?_
  refine X_reg ?_
  refine X_rd K (want_no rfl) rfl rfl (rd_ldA rfl ty49 K rfl (inM 0 rfl) rfl rfl) M ?_; clear K; intro a K
  refine X_rd K (want_no rfl) rfl rfl (rd_move rfl K rfl) M ?_; clear K; intro a K
  obtain ⟨r2, h_r2, h⟩ := obind h
  refine X_ac K (want_no rfl) rfl rfl (ac_call (vs := [.agg #[.int .i64 q_W, .int .i64 q_H, .slice A_q_P q_P.length c_q_P], .slice A_l2 l2.length c_l2]) (cap := []) rfl fok49 K rfl rfl (W_tone_Bend N q_W q_H q_P A_q_P c_q_P l2 A_l2 c_l2 _ ((inA R_q_P) _ M) C_q_P ((inA R_l2) _ M) C_l2 r2 h_r2)) ?_
  have M0 := M; clear K M; rintro _ a w ⟨A, c, rfl, M⟩ K
  have M := M0.call M
  clear M0
  refine X_rd K (want_no rfl) rfl rfl (rd_move rfl K rfl) M ?_; clear K; intro a K
  refine X_rd K (want_no rfl) rfl rfl (rd_extract rfl K rfl rfl) M ?_; clear K; intro a K
  refine X_rd K (want_no rfl) rfl rfl (rd_extract rfl K rfl rfl) M ?_; clear K; intro a K
  refine X_ac K (want_no rfl) rfl rfl (ac_alloc rfl z49 M) ?_
  have M0 := M; clear K M; rintro _ a w ⟨g_a, rfl, M⟩ K
  clear M0
  refine X_a0 K (want_no rfl) rfl (ac_storeA rfl ty49 K rfl (ds := [.int .i64 r2.1, .int .i64 r2.2.1, .slice A r2.2.2.1.length c]) rfl rfl 0 M rfl rfl rfl) ?_
  have M0 := M; clear K M; rintro _ a w M K
  clear M0
  refine X_rd K (want_no rfl) rfl rfl (rd_assign rfl K rfl) M ?_; clear K; intro a K
  refine wpList_nil ?_
  refine then_n ?_
  refine wp_seq ?_
  refine X_reg ?_
  refine X_rd K (want_no rfl) rfl rfl (rd_move rfl K rfl) M ?_; clear K; intro a K
  refine X_rd K (want_no rfl) rfl rfl (rd_move rfl K rfl) M ?_; clear K; intro a K
  obtain ⟨r3, h_r3, h⟩ := obind h
  refine X_ac K (want_no rfl) rfl rfl (ac_call (vs := [.slice A_l2 l2.length c_l2, .int .i64 x2]) (cap := []) rfl fok50 K rfl rfl (W_tone_Curve N l2 A_l2 c_l2 x2 _ ((inA R_l2) _ M) C_l2 r3 h_r3)) ?_
  have M0 := M; clear K M; rintro _ a w ⟨rfl, M⟩ K
  have M := M0.call M
  clear M0
  refine X_rd K (want_no rfl) rfl rfl (rd_move rfl K rfl) M ?_; clear K; intro a K
  refine X_rd K (want_no rfl) rfl rfl (rd_extract rfl K rfl rfl) M ?_; clear K; intro a K
  refine X_rd K (want_no rfl) rfl rfl (rd_extract rfl K rfl rfl) M ?_; clear K; intro a K
  refine X_rd K (want_no rfl) rfl rfl (rd_assign rfl K rfl) M ?_; clear K; intro a K
  refine X_rd K (want_no rfl) rfl rfl (rd_assign rfl K rfl) M ?_; clear K; intro a K
  refine wpList_nil ?_
  refine then_n ?_
  refine wp_seq ?_
  refine X_reg ?_
  refine X_rd K (want_no rfl) rfl rfl (rd_assign rfl K rfl) M ?_; clear K; intro a K
  refine X_rd K (want_no rfl) rfl rfl (rd_assign rfl K rfl) M ?_; clear K; intro a K
  refine X_rd K (want_no rfl) rfl rfl (rd_assign rfl K rfl) M ?_; clear K; intro a K
  refine wpList_nil ?_
  refine then_n ?_
  refine wp_seq ?_
  refine X_reg ?_
  refine X_ac K (want_no rfl) rfl rfl (ac_alloc rfl z49 M) ?_
  have M0 := M; clear K M; rintro _ a w ⟨g_want, rfl, M⟩ K
  clear M0
  refine wpList_nil ?_
  refine then_n ?_
  refine wp_seq ?_
  refine wp_seq ?_
  refine X_reg ?_
  refine X_rd K (want_no rfl) rfl rfl (rd_move rfl K rfl) M ?_; clear K; intro a K
  obtain ⟨r4, h_r4, h⟩ := obind h
  refine X_ac K (want_no rfl) rfl rfl (ac_call (vs := [.slice A_l2 l2.length c_l2]) (cap := []) rfl fok51 K rfl rfl (W_darkslideref_CurveFine N l2 A_l2 c_l2 _ ((inA R_l2) _ M) C_l2 r4 h_r4)) ?_
  have M0 := M; clear K M; rintro _ a w ⟨rfl, M⟩ K
  have M := M0.call M
  clear M0
  refine wpList_nil ?_
  refine then_n ?_
  refine X_cond K rfl (fun hb => ?_) (fun hb => ?_)
  · have h := ctrue hb h
    refine wp_seq ?_
    refine X_reg ?_
    refine X_rd K (want_no rfl) rfl rfl (rd_assign rfl K rfl) M ?_; clear K; intro a K
    refine wpList_nil ?_
    refine then_n ?_
    refine wp_seq ?_
    refine wp_seq ?_
    refine X_join (Rel := fun (i : Bool) a w => Kn a 64 [(1, .slice A_l2 l2.length c_l2), (2, .int .i64 x2), (3, .pointer (some ⟨g_q, 0, none⟩)), (7, .pointer (some ⟨g_a, 0, none⟩)), (8, .int .i64 r2.2.2.2), (9, .int .i64 r3.1), (10, .int .i64 r3.2), (11, .int .i64 1), (12, .int .i64 3), (13, .int .i64 0), (14, .pointer (some ⟨g_want, 0, none⟩)), (34, .bool i)] ∧ Mem w0.heap.size w0 w [.blk g_want 49 [.int .i64 0, .int .i64 0, .slice none (([] : List (Int × Int × Int))).length 0], .blk g_a 49 [.int .i64 r2.1, .int .i64 r2.2.1, .slice A r2.2.2.1.length c], .row 73 3 A r2.2.2.1.length c (cIII.all r2.2.2.1), .blk g_q 49 [.int .i64 q_W, .int .i64 q_H, .slice A_q_P q_P.length c_q_P]]) h ?_ ?_
    · clear K M h
      rintro i2 a w ⟨K, M⟩ h
      try dsimp only at h
      refine then_n ?_
      refine X_join (Rel := fun (⟨v, y⟩ : Int × Int) a w => Kn a 64 [(1, .slice A_l2 l2.length c_l2), (3, .pointer (some ⟨g_q, 0, none⟩)), (7, .pointer (some ⟨g_a, 0, none⟩)), (8, .int .i64 r2.2.2.2), (9, .int .i64 r3.1), (10, .int .i64 r3.2), (11, .int .i64 1), (12, .int .i64 v), (13, .int .i64 y), (14, .pointer (some ⟨g_want, 0, none⟩))] ∧ Mem w0.heap.size w0 w [.blk g_want 49 [.int .i64 0, .int .i64 0, .slice none (([] : List (Int × Int × Int))).length 0], .blk g_a 49 [.int .i64 r2.1, .int .i64 r2.2.1, .slice A r2.2.2.1.length c], .row 73 3 A r2.2.2.1.length c (cIII.all r2.2.2.1), .blk g_q 49 [.int .i64 q_W, .int .i64 q_H, .slice A_q_P q_P.length c_q_P]]) h ?_ ?_
      · clear K M h
        rintro ⟨v2, y2⟩ a w ⟨K, M⟩ h
        try dsimp only at h
        refine then_n ?_
        refine wp_seq ?_
        refine X_reg ?_
        refine X_rd K (want_no rfl) rfl rfl (rd_ldA rfl ty49 K rfl (inM 3 rfl) rfl rfl) M ?_; clear K; intro a K
        obtain ⟨r6, h_r6, h⟩ := obind h
        refine X_ac K (want_no rfl) rfl rfl (ac_call (vs := [.agg #[.int .i64 q_W, .int .i64 q_H, .slice A_q_P q_P.length c_q_P]]) (cap := []) rfl fok35 K rfl rfl (W_darkslideref_PictureFine N q_W q_H q_P A_q_P c_q_P _ ((inA R_q_P) _ M) C_q_P r6 h_r6)) ?_
        have M0 := M; clear K M; rintro _ a w ⟨rfl, M⟩ K
        have M := M0.call M
        clear M0
        refine wpList_nil ?_
        refine then_n ?_
        refine X_cond K rfl (fun hb => ?_) (fun hb => ?_)
        · have h := ctrue hb h
          refine X_reg ?_
          refine X_rd K (want_no rfl) rfl rfl (rd_ldA rfl ty49 K rfl (inM 3 rfl) rfl rfl) M ?_; clear K; intro a K
          refine X_rd K (want_no rfl) rfl rfl (rd_move rfl K rfl) M ?_; clear K; intro a K
          obtain ⟨r7, h_r7, h⟩ := obind h
          refine X_ac K (want_no rfl) rfl rfl (ac_call (vs := [.agg #[.int .i64 q_W, .int .i64 q_H, .slice A_q_P q_P.length c_q_P], .slice A_l2 l2.length c_l2]) (cap := []) rfl fok53 K rfl rfl (W_darkslideref_Bent N q_W q_H q_P A_q_P c_q_P l2 A_l2 c_l2 _ ((inA R_q_P) _ M) C_q_P ((inA R_l2) _ M) C_l2 r7 h_r7)) ?_
          have M0 := M; clear K M; rintro _ a w ⟨A2, c2, rfl, M⟩ K
          have M := M0.call M
          clear M0
          refine X_a0 K (want_no rfl) rfl (ac_storeA rfl ty49 K rfl (ds := [.int .i64 r7.1, .int .i64 r7.2.1, .slice A2 r7.2.2.length c2]) rfl rfl 1 M rfl rfl rfl) ?_
          have M0 := M; clear K M; rintro _ a w M K
          clear M0
          refine X_rd K (want_no rfl) rfl rfl (rd_assign rfl K rfl) M ?_; clear K; intro a K
          refine wpList_nil ?_
          refine then_n ?_
          refine wp_seq ?_
          refine X_join (Rel := fun (i3 : Bool) a w => Kn a 64 [(6, .bool i3)] ∧ Mem w0.heap.size w0 w [.row 73 3 A2 r7.2.2.length c2 (cIII.all r7.2.2), .blk g_want 49 [.int .i64 r7.1, .int .i64 r7.2.1, .slice A2 r7.2.2.length c2], .blk g_a 49 [.int .i64 r2.1, .int .i64 r2.2.1, .slice A r2.2.2.1.length c], .row 73 3 A r2.2.2.1.length c (cIII.all r2.2.2.1), .blk g_q 49 [.int .i64 q_W, .int .i64 q_H, .slice A_q_P q_P.length c_q_P]]) h ?_ ?_
          · clear K M h
            rintro i4 a w ⟨K, M⟩ h
            try dsimp only at h
            refine then_n ?_
            refine wp_ret ?_
            cases h
            exact ret1 K rfl (res_tmp K rfl) ⟨_, rfl, rfl, ((M).pick [] (by decide))⟩
          · clear h; rintro kk_darkslidelaw_ToneBends_j3 hj3 h
            unfold D_darkslidelaw_ToneBends_j3 at h
            refine X_reg ?_
            obtain ⟨r8, h_r8, h⟩ := obind h
            refine X_ac K (want_no rfl) rfl rfl (ac_call (vs := []) (cap := []) rfl fok48 K rfl rfl (W_darkslidelaw_toneBegun N  _  r8 h_r8)) ?_
            have M0 := M; clear K M; rintro _ a w ⟨rfl, M⟩ K
            have M := M0.call M
            clear M0
            refine X_rd K (want_no rfl) rfl rfl (rd_move rfl K rfl) M ?_; clear K; intro a K
            rcases Bool.eq_false_or_eq_true (r8) with hb | hb
            · have h := ctrue hb h
              have K := K.reb (s := 44) rfl hb
              refine X_rd K (K.yes rfl rfl rfl) rfl rfl (rd_move rfl K rfl) M ?_; clear K; intro a K
              refine X_rd K (K.yes rfl rfl rfl) rfl rfl (rd_move rfl K rfl) M ?_; clear K; intro a K
              refine X_rd K (K.yes rfl rfl rfl) rfl rfl (rd_eql rfl K rfl rfl) M ?_; clear K; intro a K
              refine X_rd K (want_no rfl) rfl rfl (rd_pickT rfl K rfl rfl) M ?_; clear K; intro a K
              refine X_rd K (want_no rfl) rfl rfl (rd_move rfl K rfl) M ?_; clear K; intro a K
              rcases Bool.eq_false_or_eq_true (decide (r2.2.2.2 = 0)) with hb | hb
              · have h := ctrue hb h
                have K := K.reb (s := 49) rfl hb
                refine X_rd K (K.yes rfl rfl rfl) rfl rfl (rd_ldA rfl ty49 K rfl (inM 2 rfl) rfl rfl) M ?_; clear K; intro a K
                refine X_rd K (K.yes rfl rfl rfl) rfl rfl (rd_ldA rfl ty49 K rfl (inM 1 rfl) rfl rfl) M ?_; clear K; intro a K
                obtain ⟨r9, h_r9, h⟩ := obind h
                refine X_ac K (K.yes rfl rfl rfl) rfl rfl (ac_call (vs := [.agg #[.int .i64 r2.1, .int .i64 r2.2.1, .slice A r2.2.2.1.length c], .agg #[.int .i64 r7.1, .int .i64 r7.2.1, .slice A2 r7.2.2.length c2]]) (cap := []) rfl fok31 K rfl rfl (W_darkslideref_SamePictures N r2.1 r2.2.1 r2.2.2.1 A c r7.1 r7.2.1 r7.2.2 A2 c2 _ ((inR (C := cIII) 3 rfl rfl) _ M) (M.cap 3 rfl) ((inR (C := cIII) 0 rfl rfl) _ M) (M.cap 0 rfl) r9 h_r9)) ?_
                have M0 := M; clear K M; rintro _ a w ⟨rfl, M⟩ K
                have M := M0.call M
                clear M0
                refine X_rd K (want_no rfl) rfl rfl (rd_pickT rfl K rfl rfl) M ?_; clear K; intro a K
                refine X_rd K (want_no rfl) rfl rfl (rd_move rfl K rfl) M ?_; clear K; intro a K
                rcases Bool.eq_false_or_eq_true (r9) with hb | hb
                · have h := ctrue hb h
                  have K := K.reb (s := 54) rfl hb
                  refine X_rd K (K.yes rfl rfl rfl) rfl rfl (rd_move rfl K rfl) M ?_; clear K; intro a K
                  refine X_rd K (K.yes rfl rfl rfl) rfl rfl (rd_move rfl K rfl) M ?_; clear K; intro a K
                  refine X_rd K (K.yes rfl rfl rfl) rfl rfl (rd_eql rfl K rfl rfl) M ?_; clear K; intro a K
                  refine X_rd K (want_no rfl) rfl rfl (rd_pickT rfl K rfl rfl) M ?_; clear K; intro a K
                  refine X_rd K (want_no rfl) rfl rfl (rd_move rfl K rfl) M ?_; clear K; intro a K
                  rcases Bool.eq_false_or_eq_true (decide (r3.1 = y2)) with hb | hb
                  · have h := ctrue hb h
                    have K := K.reb (s := 59) rfl hb
                    refine X_rd K (K.yes rfl rfl rfl) rfl rfl (rd_move rfl K rfl) M ?_; clear K; intro a K
                    refine X_rd K (K.yes rfl rfl rfl) rfl rfl (rd_move rfl K rfl) M ?_; clear K; intro a K
                    refine X_rd K (K.yes rfl rfl rfl) rfl rfl (rd_eql rfl K rfl rfl) M ?_; clear K; intro a K
                    refine X_rd K (want_no rfl) rfl rfl (rd_pickT rfl K rfl rfl) M ?_; clear K; intro a K
                    refine X_rd K (want_no rfl) rfl rfl (rd_assign rfl K rfl) M ?_; clear K; intro a K
                    refine wpList_nil ?_
                    exact hj3 (decide (r3.2 = v2)) _ _ ⟨K.pick [6], M.pick [0,1,2,3,4] (by decide)⟩ h
                  · have h := cfalse hb h
                    have K := K.reb (s := 59) rfl hb
                    refine X_no K (K.no rfl rfl rfl rfl) rfl rfl ?_; clear K; intro a K
                    refine X_no K (K.no rfl rfl rfl rfl) rfl rfl ?_; clear K; intro a K
                    refine X_no K (K.no rfl rfl rfl rfl) rfl rfl ?_; clear K; intro a K
                    refine X_rd K (want_no rfl) rfl rfl (rd_pickF rfl K rfl rfl) M ?_; clear K; intro a K
                    refine X_rd K (want_no rfl) rfl rfl (rd_assign rfl K rfl) M ?_; clear K; intro a K
                    refine wpList_nil ?_
                    exact hj3 false _ _ ⟨K.pick [6], M.pick [0,1,2,3,4] (by decide)⟩ h
                · have h := cfalse hb h
                  have K := K.reb (s := 54) rfl hb
                  refine X_no K (K.no rfl rfl rfl rfl) rfl rfl ?_; clear K; intro a K
                  refine X_no K (K.no rfl rfl rfl rfl) rfl rfl ?_; clear K; intro a K
                  refine X_no K (K.no rfl rfl rfl rfl) rfl rfl ?_; clear K; intro a K
                  refine X_rd K (want_no rfl) rfl rfl (rd_pickF rfl K rfl rfl) M ?_; clear K; intro a K
                  refine X_rd K (want_no rfl) rfl rfl (rd_move rfl K rfl) M ?_; clear K; intro a K
                  refine X_no K (K.no rfl rfl rfl rfl) rfl rfl ?_; clear K; intro a K
                  refine X_no K (K.no rfl rfl rfl rfl) rfl rfl ?_; clear K; intro a K
                  refine X_no K (K.no rfl rfl rfl rfl) rfl rfl ?_; clear K; intro a K
                  refine X_rd K (want_no rfl) rfl rfl (rd_pickF rfl K rfl rfl) M ?_; clear K; intro a K
                  refine X_rd K (want_no rfl) rfl rfl (rd_assign rfl K rfl) M ?_; clear K; intro a K
                  refine wpList_nil ?_
                  exact hj3 false _ _ ⟨K.pick [6], M.pick [0,1,2,3,4] (by decide)⟩ h
              · have h := cfalse hb h
                have K := K.reb (s := 49) rfl hb
                refine X_no K (K.no rfl rfl rfl rfl) rfl rfl ?_; clear K; intro a K
                refine X_no K (K.no rfl rfl rfl rfl) rfl rfl ?_; clear K; intro a K
                refine X_no K (K.no rfl rfl rfl rfl) rfl rfl ?_; clear K; intro a K
                refine X_rd K (want_no rfl) rfl rfl (rd_pickF rfl K rfl rfl) M ?_; clear K; intro a K
                refine X_rd K (want_no rfl) rfl rfl (rd_move rfl K rfl) M ?_; clear K; intro a K
                refine X_no K (K.no rfl rfl rfl rfl) rfl rfl ?_; clear K; intro a K
                refine X_no K (K.no rfl rfl rfl rfl) rfl rfl ?_; clear K; intro a K
                refine X_no K (K.no rfl rfl rfl rfl) rfl rfl ?_; clear K; intro a K
                refine X_rd K (want_no rfl) rfl rfl (rd_pickF rfl K rfl rfl) M ?_; clear K; intro a K
                refine X_rd K (want_no rfl) rfl rfl (rd_move rfl K rfl) M ?_; clear K; intro a K
                refine X_no K (K.no rfl rfl rfl rfl) rfl rfl ?_; clear K; intro a K
                refine X_no K (K.no rfl rfl rfl rfl) rfl rfl ?_; clear K; intro a K
                refine X_no K (K.no rfl rfl rfl rfl) rfl rfl ?_; clear K; intro a K
                refine X_rd K (want_no rfl) rfl rfl (rd_pickF rfl K rfl rfl) M ?_; clear K; intro a K
                refine X_rd K (want_no rfl) rfl rfl (rd_assign rfl K rfl) M ?_; clear K; intro a K
                refine wpList_nil ?_
                exact hj3 false _ _ ⟨K.pick [6], M.pick [0,1,2,3,4] (by decide)⟩ h
            · have h := cfalse hb h
              have K := K.reb (s := 44) rfl hb
              refine X_no K (K.no rfl rfl rfl rfl) rfl rfl ?_; clear K; intro a K
              refine X_no K (K.no rfl rfl rfl rfl) rfl rfl ?_; clear K; intro a K
              refine X_no K (K.no rfl rfl rfl rfl) rfl rfl ?_; clear K; intro a K
              refine X_rd K (want_no rfl) rfl rfl (rd_pickF rfl K rfl rfl) M ?_; clear K; intro a K
              refine X_rd K (want_no rfl) rfl rfl (rd_move rfl K rfl) M ?_; clear K; intro a K
              refine X_no K (K.no rfl rfl rfl rfl) rfl rfl ?_; clear K; intro a K
              refine X_no K (K.no rfl rfl rfl rfl) rfl rfl ?_; clear K; intro a K
              refine X_no K (K.no rfl rfl rfl rfl) rfl rfl ?_; clear K; intro a K
              refine X_rd K (want_no rfl) rfl rfl (rd_pickF rfl K rfl rfl) M ?_; clear K; intro a K
              refine X_rd K (want_no rfl) rfl rfl (rd_move rfl K rfl) M ?_; clear K; intro a K
              refine X_no K (K.no rfl rfl rfl rfl) rfl rfl ?_; clear K; intro a K
              refine X_no K (K.no rfl rfl rfl rfl) rfl rfl ?_; clear K; intro a K
              refine X_no K (K.no rfl rfl rfl rfl) rfl rfl ?_; clear K; intro a K
              refine X_rd K (want_no rfl) rfl rfl (rd_pickF rfl K rfl rfl) M ?_; clear K; intro a K
              refine X_rd K (want_no rfl) rfl rfl (rd_move rfl K rfl) M ?_; clear K; intro a K
              refine X_no K (K.no rfl rfl rfl rfl) rfl rfl ?_; clear K; intro a K
              refine X_no K (K.no rfl rfl rfl rfl) rfl rfl ?_; clear K; intro a K
              refine X_no K (K.no rfl rfl rfl rfl) rfl rfl ?_; clear K; intro a K
              refine X_rd K (want_no rfl) rfl rfl (rd_pickF rfl K rfl rfl) M ?_; clear K; intro a K
              refine X_rd K (want_no rfl) rfl rfl (rd_assign rfl K rfl) M ?_; clear K; intro a K
              refine wpList_nil ?_
              exact hj3 false _ _ ⟨K.pick [6], M.pick [0,1,2,3,4] (by decide)⟩ h
        · have h := cfalse hb h
          refine wp_skip ?_
          refine then_n ?_
          refine wp_seq ?_
          refine X_join (Rel := fun (i5 : Bool) a w => Kn a 64 [(6, .bool i5)] ∧ Mem w0.heap.size w0 w [.blk g_want 49 [.int .i64 0, .int .i64 0, .slice none (([] : List (Int × Int × Int))).length 0], .blk g_a 49 [.int .i64 r2.1, .int .i64 r2.2.1, .slice A r2.2.2.1.length c], .row 73 3 A r2.2.2.1.length c (cIII.all r2.2.2.1), .blk g_q 49 [.int .i64 q_W, .int .i64 q_H, .slice A_q_P q_P.length c_q_P]]) h ?_ ?_
          · clear K M h
            rintro i6 a w ⟨K, M⟩ h
            try dsimp only at h
            refine then_n ?_
            refine wp_ret ?_
            cases h
            exact ret1 K rfl (res_tmp K rfl) ⟨_, rfl, rfl, ((M).pick [] (by decide))⟩
          · clear h; rintro kk_darkslidelaw_ToneBends_j4 hj4 h
            unfold D_darkslidelaw_ToneBends_j4 at h
            refine X_reg ?_
            obtain ⟨r10, h_r10, h⟩ := obind h
            refine X_ac K (want_no rfl) rfl rfl (ac_call (vs := []) (cap := []) rfl fok48 K rfl rfl (W_darkslidelaw_toneBegun N  _  r10 h_r10)) ?_
            have M0 := M; clear K M; rintro _ a w ⟨rfl, M⟩ K
            have M := M0.call M
            clear M0
            refine X_rd K (want_no rfl) rfl rfl (rd_move rfl K rfl) M ?_; clear K; intro a K
            rcases Bool.eq_false_or_eq_true (r10) with hb | hb
            · have h := ctrue hb h
              have K := K.reb (s := 44) rfl hb
              refine X_rd K (K.yes rfl rfl rfl) rfl rfl (rd_move rfl K rfl) M ?_; clear K; intro a K
              refine X_rd K (K.yes rfl rfl rfl) rfl rfl (rd_move rfl K rfl) M ?_; clear K; intro a K
              refine X_rd K (K.yes rfl rfl rfl) rfl rfl (rd_eql rfl K rfl rfl) M ?_; clear K; intro a K
              refine X_rd K (want_no rfl) rfl rfl (rd_pickT rfl K rfl rfl) M ?_; clear K; intro a K
              refine X_rd K (want_no rfl) rfl rfl (rd_move rfl K rfl) M ?_; clear K; intro a K
              rcases Bool.eq_false_or_eq_true (decide (r2.2.2.2 = 1)) with hb | hb
              · have h := ctrue hb h
                have K := K.reb (s := 49) rfl hb
                refine X_rd K (K.yes rfl rfl rfl) rfl rfl (rd_ldA rfl ty49 K rfl (inM 1 rfl) rfl rfl) M ?_; clear K; intro a K
                refine X_rd K (K.yes rfl rfl rfl) rfl rfl (rd_ldA rfl ty49 K rfl (inM 0 rfl) rfl rfl) M ?_; clear K; intro a K
                obtain ⟨r11, h_r11, h⟩ := obind h
                refine X_ac K (K.yes rfl rfl rfl) rfl rfl (ac_call (vs := [.agg #[.int .i64 r2.1, .int .i64 r2.2.1, .slice A r2.2.2.1.length c], .agg #[.int .i64 0, .int .i64 0, .slice none (([] : List (Int × Int × Int))).length 0]]) (cap := []) rfl fok31 K rfl rfl (W_darkslideref_SamePictures N r2.1 r2.2.1 r2.2.2.1 A c 0 0 (([] : List (Int × Int × Int))) none 0 _ ((inR (C := cIII) 2 rfl rfl) _ M) (M.cap 2 rfl) ((fun _ _ => SL.nil) _ M) (Nat.le_refl _) r11 h_r11)) ?_
                have M0 := M; clear K M; rintro _ a w ⟨rfl, M⟩ K
                have M := M0.call M
                clear M0
                refine X_rd K (want_no rfl) rfl rfl (rd_pickT rfl K rfl rfl) M ?_; clear K; intro a K
                refine X_rd K (want_no rfl) rfl rfl (rd_move rfl K rfl) M ?_; clear K; intro a K
                rcases Bool.eq_false_or_eq_true (r11) with hb | hb
                · have h := ctrue hb h
                  have K := K.reb (s := 54) rfl hb
                  refine X_rd K (K.yes rfl rfl rfl) rfl rfl (rd_move rfl K rfl) M ?_; clear K; intro a K
                  refine X_rd K (K.yes rfl rfl rfl) rfl rfl (rd_move rfl K rfl) M ?_; clear K; intro a K
                  refine X_rd K (K.yes rfl rfl rfl) rfl rfl (rd_eql rfl K rfl rfl) M ?_; clear K; intro a K
                  refine X_rd K (want_no rfl) rfl rfl (rd_pickT rfl K rfl rfl) M ?_; clear K; intro a K
                  refine X_rd K (want_no rfl) rfl rfl (rd_move rfl K rfl) M ?_; clear K; intro a K
                  rcases Bool.eq_false_or_eq_true (decide (r3.1 = y2)) with hb | hb
                  · have h := ctrue hb h
                    have K := K.reb (s := 59) rfl hb
                    refine X_rd K (K.yes rfl rfl rfl) rfl rfl (rd_move rfl K rfl) M ?_; clear K; intro a K
                    refine X_rd K (K.yes rfl rfl rfl) rfl rfl (rd_move rfl K rfl) M ?_; clear K; intro a K
                    refine X_rd K (K.yes rfl rfl rfl) rfl rfl (rd_eql rfl K rfl rfl) M ?_; clear K; intro a K
                    refine X_rd K (want_no rfl) rfl rfl (rd_pickT rfl K rfl rfl) M ?_; clear K; intro a K
                    refine X_rd K (want_no rfl) rfl rfl (rd_assign rfl K rfl) M ?_; clear K; intro a K
                    refine wpList_nil ?_
                    exact hj4 (decide (r3.2 = v2)) _ _ ⟨K.pick [6], M.pick [0,1,2,3] (by decide)⟩ h
                  · have h := cfalse hb h
                    have K := K.reb (s := 59) rfl hb
                    refine X_no K (K.no rfl rfl rfl rfl) rfl rfl ?_; clear K; intro a K
                    refine X_no K (K.no rfl rfl rfl rfl) rfl rfl ?_; clear K; intro a K
                    refine X_no K (K.no rfl rfl rfl rfl) rfl rfl ?_; clear K; intro a K
                    refine X_rd K (want_no rfl) rfl rfl (rd_pickF rfl K rfl rfl) M ?_; clear K; intro a K
                    refine X_rd K (want_no rfl) rfl rfl (rd_assign rfl K rfl) M ?_; clear K; intro a K
                    refine wpList_nil ?_
                    exact hj4 false _ _ ⟨K.pick [6], M.pick [0,1,2,3] (by decide)⟩ h
                · have h := cfalse hb h
                  have K := K.reb (s := 54) rfl hb
                  refine X_no K (K.no rfl rfl rfl rfl) rfl rfl ?_; clear K; intro a K
                  refine X_no K (K.no rfl rfl rfl rfl) rfl rfl ?_; clear K; intro a K
                  refine X_no K (K.no rfl rfl rfl rfl) rfl rfl ?_; clear K; intro a K
                  refine X_rd K (want_no rfl) rfl rfl (rd_pickF rfl K rfl rfl) M ?_; clear K; intro a K
                  refine X_rd K (want_no rfl) rfl rfl (rd_move rfl K rfl) M ?_; clear K; intro a K
                  refine X_no K (K.no rfl rfl rfl rfl) rfl rfl ?_; clear K; intro a K
                  refine X_no K (K.no rfl rfl rfl rfl) rfl rfl ?_; clear K; intro a K
                  refine X_no K (K.no rfl rfl rfl rfl) rfl rfl ?_; clear K; intro a K
                  refine X_rd K (want_no rfl) rfl rfl (rd_pickF rfl K rfl rfl) M ?_; clear K; intro a K
                  refine X_rd K (want_no rfl) rfl rfl (rd_assign rfl K rfl) M ?_; clear K; intro a K
                  refine wpList_nil ?_
                  exact hj4 false _ _ ⟨K.pick [6], M.pick [0,1,2,3] (by decide)⟩ h
              · have h := cfalse hb h
                have K := K.reb (s := 49) rfl hb
                refine X_no K (K.no rfl rfl rfl rfl) rfl rfl ?_; clear K; intro a K
                refine X_no K (K.no rfl rfl rfl rfl) rfl rfl ?_; clear K; intro a K
                refine X_no K (K.no rfl rfl rfl rfl) rfl rfl ?_; clear K; intro a K
                refine X_rd K (want_no rfl) rfl rfl (rd_pickF rfl K rfl rfl) M ?_; clear K; intro a K
                refine X_rd K (want_no rfl) rfl rfl (rd_move rfl K rfl) M ?_; clear K; intro a K
                refine X_no K (K.no rfl rfl rfl rfl) rfl rfl ?_; clear K; intro a K
                refine X_no K (K.no rfl rfl rfl rfl) rfl rfl ?_; clear K; intro a K
                refine X_no K (K.no rfl rfl rfl rfl) rfl rfl ?_; clear K; intro a K
                refine X_rd K (want_no rfl) rfl rfl (rd_pickF rfl K rfl rfl) M ?_; clear K; intro a K
                refine X_rd K (want_no rfl) rfl rfl (rd_move rfl K rfl) M ?_; clear K; intro a K
                refine X_no K (K.no rfl rfl rfl rfl) rfl rfl ?_; clear K; intro a K
                refine X_no K (K.no rfl rfl rfl rfl) rfl rfl ?_; clear K; intro a K
                refine X_no K (K.no rfl rfl rfl rfl) rfl rfl ?_; clear K; intro a K
                refine X_rd K (want_no rfl) rfl rfl (rd_pickF rfl K rfl rfl) M ?_; clear K; intro a K
                refine X_rd K (want_no rfl) rfl rfl (rd_assign rfl K rfl) M ?_; clear K; intro a K
                refine wpList_nil ?_
                exact hj4 false _ _ ⟨K.pick [6], M.pick [0,1,2,3] (by decide)⟩ h
            · have h := cfalse hb h
              have K := K.reb (s := 44) rfl hb
              refine X_no K (K.no rfl rfl rfl rfl) rfl rfl ?_; clear K; intro a K
              refine X_no K (K.no rfl rfl rfl rfl) rfl rfl ?_; clear K; intro a K
              refine X_no K (K.no rfl rfl rfl rfl) rfl rfl ?_; clear K; intro a K
              refine X_rd K (want_no rfl) rfl rfl (rd_pickF rfl K rfl rfl) M ?_; clear K; intro a K
              refine X_rd K (want_no rfl) rfl rfl (rd_move rfl K rfl) M ?_; clear K; intro a K
              refine X_no K (K.no rfl rfl rfl rfl) rfl rfl ?_; clear K; intro a K
              refine X_no K (K.no rfl rfl rfl rfl) rfl rfl ?_; clear K; intro a K
              refine X_no K (K.no rfl rfl rfl rfl) rfl rfl ?_; clear K; intro a K
              refine X_rd K (want_no rfl) rfl rfl (rd_pickF rfl K rfl rfl) M ?_; clear K; intro a K
              refine X_rd K (want_no rfl) rfl rfl (rd_move rfl K rfl) M ?_; clear K; intro a K
              refine X_no K (K.no rfl rfl rfl rfl) rfl rfl ?_; clear K; intro a K
              refine X_no K (K.no rfl rfl rfl rfl) rfl rfl ?_; clear K; intro a K
              refine X_no K (K.no rfl rfl rfl rfl) rfl rfl ?_; clear K; intro a K
              refine X_rd K (want_no rfl) rfl rfl (rd_pickF rfl K rfl rfl) M ?_; clear K; intro a K
              refine X_rd K (want_no rfl) rfl rfl (rd_move rfl K rfl) M ?_; clear K; intro a K
              refine X_no K (K.no rfl rfl rfl rfl) rfl rfl ?_; clear K; intro a K
              refine X_no K (K.no rfl rfl rfl rfl) rfl rfl ?_; clear K; intro a K
              refine X_no K (K.no rfl rfl rfl rfl) rfl rfl ?_; clear K; intro a K
              refine X_rd K (want_no rfl) rfl rfl (rd_pickF rfl K rfl rfl) M ?_; clear K; intro a K
              refine X_rd K (want_no rfl) rfl rfl (rd_assign rfl K rfl) M ?_; clear K; intro a K
              refine wpList_nil ?_
              exact hj4 false _ _ ⟨K.pick [6], M.pick [0,1,2,3] (by decide)⟩ h
      · clear h; rintro kk_darkslidelaw_ToneBends_j2 hj2 h
        unfold D_darkslidelaw_ToneBends_j2 at h
        refine X_cond K rfl (fun hb => ?_) (fun hb => ?_)
        · have h := ctrue hb h
          refine X_reg ?_
          refine X_rd K (want_no rfl) rfl rfl (rd_move rfl K rfl) M ?_; clear K; intro a K
          refine X_rd K (want_no rfl) rfl rfl (rd_move rfl K rfl) M ?_; clear K; intro a K
          obtain ⟨r5, h_r5, h⟩ := obind h
          refine X_ac K (want_no rfl) rfl rfl (ac_call (vs := [.slice A_l2 l2.length c_l2, .int .i64 x2]) (cap := []) rfl fok52 K rfl rfl (W_darkslideref_OnCurve N l2 A_l2 c_l2 x2 _ ((inA R_l2) _ M) C_l2 r5 h_r5)) ?_
          have M0 := M; clear K M; rintro _ a w ⟨rfl, M⟩ K
          have M := M0.call M
          clear M0
          refine X_rd K (want_no rfl) rfl rfl (rd_assign rfl K rfl) M ?_; clear K; intro a K
          refine X_rd K (want_no rfl) rfl rfl (rd_assign rfl K rfl) M ?_; clear K; intro a K
          refine wpList_nil ?_
          exact hj2 (0, r5) _ _ ⟨K.pick [1,3,7,8,9,10,11,12,13,14], M.pick [0,1,2,3] (by decide)⟩ h
        · have h := cfalse hb h
          refine wp_skip ?_
          exact hj2 (3, 0) _ _ ⟨K.pick [1,3,7,8,9,10,11,12,13,14], M.pick [0,1,2,3] (by decide)⟩ h
    · clear h; rintro kk_darkslidelaw_ToneBends_j1 hj1 h
      unfold D_darkslidelaw_ToneBends_j1 at h
      refine X_reg ?_
      refine X_rd K (want_no rfl) rfl rfl (rd_move rfl K rfl) M ?_; clear K; intro a K
      refine X_rd K (want_no rfl) rfl rfl (rd_geq rfl K rfl rfl) M ?_; clear K; intro a K
      refine X_rd K (want_no rfl) rfl rfl (rd_move rfl K rfl) M ?_; clear K; intro a K
      rcases Bool.eq_false_or_eq_true (decide (0 ≤ x2)) with hb | hb
      · have h := ctrue hb h
        have K := K.reb (s := 31) rfl hb
        refine X_rd K (K.yes rfl rfl rfl) rfl rfl (rd_move rfl K rfl) M ?_; clear K; intro a K
        refine X_rd K (K.yes rfl rfl rfl) rfl rfl (rd_leq rfl K rfl rfl) M ?_; clear K; intro a K
        refine X_rd K (want_no rfl) rfl rfl (rd_pickT rfl K rfl rfl) M ?_; clear K; intro a K
        refine wpList_nil ?_
        exact hj1 (decide (x2 ≤ 65535)) _ _ ⟨K.pick [1,2,3,7,8,9,10,11,12,13,14,34], M.pick [0,1,2,3] (by decide)⟩ h
      · have h := cfalse hb h
        have K := K.reb (s := 31) rfl hb
        refine X_no K (K.no rfl rfl rfl rfl) rfl rfl ?_; clear K; intro a K
        refine X_no K (K.no rfl rfl rfl rfl) rfl rfl ?_; clear K; intro a K
        refine X_rd K (want_no rfl) rfl rfl (rd_pickF rfl K rfl rfl) M ?_; clear K; intro a K
        refine wpList_nil ?_
        exact hj1 false _ _ ⟨K.pick [1,2,3,7,8,9,10,11,12,13,14,34], M.pick [0,1,2,3] (by decide)⟩ h
  · have h := cfalse hb h
    refine wp_skip ?_
    refine then_n ?_
    refine wp_seq ?_
    refine X_join (Rel := fun (i7 : Bool) a w => Kn a 64 [(6, .bool i7)] ∧ Mem w0.heap.size w0 w [.blk g_want 49 [.int .i64 0, .int .i64 0, .slice none (([] : List (Int × Int × Int))).length 0], .blk g_a 49 [.int .i64 r2.1, .int .i64 r2.2.1, .slice A r2.2.2.1.length c], .row 73 3 A r2.2.2.1.length c (cIII.all r2.2.2.1), .blk g_q 49 [.int .i64 q_W, .int .i64 q_H, .slice A_q_P q_P.length c_q_P]]) h ?_ ?_
    · clear K M h
      rintro i8 a w ⟨K, M⟩ h
      try dsimp only at h
      refine then_n ?_
      refine wp_ret ?_
      cases h
      exact ret1 K rfl (res_tmp K rfl) ⟨_, rfl, rfl, ((M).pick [] (by decide))⟩
    · clear h; rintro kk_darkslidelaw_ToneBends_j5 hj5 h
      unfold D_darkslidelaw_ToneBends_j5 at h
      refine X_reg ?_
      obtain ⟨r12, h_r12, h⟩ := obind h
      refine X_ac K (want_no rfl) rfl rfl (ac_call (vs := []) (cap := []) rfl fok48 K rfl rfl (W_darkslidelaw_toneBegun N  _  r12 h_r12)) ?_
      have M0 := M; clear K M; rintro _ a w ⟨rfl, M⟩ K
      have M := M0.call M
      clear M0
      refine X_rd K (want_no rfl) rfl rfl (rd_move rfl K rfl) M ?_; clear K; intro a K
      rcases Bool.eq_false_or_eq_true (r12) with hb | hb
      · have h := ctrue hb h
        have K := K.reb (s := 44) rfl hb
        refine X_rd K (K.yes rfl rfl rfl) rfl rfl (rd_move rfl K rfl) M ?_; clear K; intro a K
        refine X_rd K (K.yes rfl rfl rfl) rfl rfl (rd_move rfl K rfl) M ?_; clear K; intro a K
        refine X_rd K (K.yes rfl rfl rfl) rfl rfl (rd_eql rfl K rfl rfl) M ?_; clear K; intro a K
        refine X_rd K (want_no rfl) rfl rfl (rd_pickT rfl K rfl rfl) M ?_; clear K; intro a K
        refine X_rd K (want_no rfl) rfl rfl (rd_move rfl K rfl) M ?_; clear K; intro a K
        rcases Bool.eq_false_or_eq_true (decide (r2.2.2.2 = 1)) with hb | hb
        · have h := ctrue hb h
          have K := K.reb (s := 49) rfl hb
          refine X_rd K (K.yes rfl rfl rfl) rfl rfl (rd_ldA rfl ty49 K rfl (inM 1 rfl) rfl rfl) M ?_; clear K; intro a K
          refine X_rd K (K.yes rfl rfl rfl) rfl rfl (rd_ldA rfl ty49 K rfl (inM 0 rfl) rfl rfl) M ?_; clear K; intro a K
          obtain ⟨r13, h_r13, h⟩ := obind h
          refine X_ac K (K.yes rfl rfl rfl) rfl rfl (ac_call (vs := [.agg #[.int .i64 r2.1, .int .i64 r2.2.1, .slice A r2.2.2.1.length c], .agg #[.int .i64 0, .int .i64 0, .slice none (([] : List (Int × Int × Int))).length 0]]) (cap := []) rfl fok31 K rfl rfl (W_darkslideref_SamePictures N r2.1 r2.2.1 r2.2.2.1 A c 0 0 (([] : List (Int × Int × Int))) none 0 _ ((inR (C := cIII) 2 rfl rfl) _ M) (M.cap 2 rfl) ((fun _ _ => SL.nil) _ M) (Nat.le_refl _) r13 h_r13)) ?_
          have M0 := M; clear K M; rintro _ a w ⟨rfl, M⟩ K
          have M := M0.call M
          clear M0
          refine X_rd K (want_no rfl) rfl rfl (rd_pickT rfl K rfl rfl) M ?_; clear K; intro a K
          refine X_rd K (want_no rfl) rfl rfl (rd_move rfl K rfl) M ?_; clear K; intro a K
          rcases Bool.eq_false_or_eq_true (r13) with hb | hb
          · have h := ctrue hb h
            have K := K.reb (s := 54) rfl hb
            refine X_rd K (K.yes rfl rfl rfl) rfl rfl (rd_move rfl K rfl) M ?_; clear K; intro a K
            refine X_rd K (K.yes rfl rfl rfl) rfl rfl (rd_move rfl K rfl) M ?_; clear K; intro a K
            refine X_rd K (K.yes rfl rfl rfl) rfl rfl (rd_eql rfl K rfl rfl) M ?_; clear K; intro a K
            refine X_rd K (want_no rfl) rfl rfl (rd_pickT rfl K rfl rfl) M ?_; clear K; intro a K
            refine X_rd K (want_no rfl) rfl rfl (rd_move rfl K rfl) M ?_; clear K; intro a K
            rcases Bool.eq_false_or_eq_true (decide (r3.1 = 0)) with hb | hb
            · have h := ctrue hb h
              have K := K.reb (s := 59) rfl hb
              refine X_rd K (K.yes rfl rfl rfl) rfl rfl (rd_move rfl K rfl) M ?_; clear K; intro a K
              refine X_rd K (K.yes rfl rfl rfl) rfl rfl (rd_move rfl K rfl) M ?_; clear K; intro a K
              refine X_rd K (K.yes rfl rfl rfl) rfl rfl (rd_eql rfl K rfl rfl) M ?_; clear K; intro a K
              refine X_rd K (want_no rfl) rfl rfl (rd_pickT rfl K rfl rfl) M ?_; clear K; intro a K
              refine X_rd K (want_no rfl) rfl rfl (rd_assign rfl K rfl) M ?_; clear K; intro a K
              refine wpList_nil ?_
              exact hj5 (decide (r3.2 = 1)) _ _ ⟨K.pick [6], M.pick [0,1,2,3] (by decide)⟩ h
            · have h := cfalse hb h
              have K := K.reb (s := 59) rfl hb
              refine X_no K (K.no rfl rfl rfl rfl) rfl rfl ?_; clear K; intro a K
              refine X_no K (K.no rfl rfl rfl rfl) rfl rfl ?_; clear K; intro a K
              refine X_no K (K.no rfl rfl rfl rfl) rfl rfl ?_; clear K; intro a K
              refine X_rd K (want_no rfl) rfl rfl (rd_pickF rfl K rfl rfl) M ?_; clear K; intro a K
              refine X_rd K (want_no rfl) rfl rfl (rd_assign rfl K rfl) M ?_; clear K; intro a K
              refine wpList_nil ?_
              exact hj5 false _ _ ⟨K.pick [6], M.pick [0,1,2,3] (by decide)⟩ h
          · have h := cfalse hb h
            have K := K.reb (s := 54) rfl hb
            refine X_no K (K.no rfl rfl rfl rfl) rfl rfl ?_; clear K; intro a K
            refine X_no K (K.no rfl rfl rfl rfl) rfl rfl ?_; clear K; intro a K
            refine X_no K (K.no rfl rfl rfl rfl) rfl rfl ?_; clear K; intro a K
            refine X_rd K (want_no rfl) rfl rfl (rd_pickF rfl K rfl rfl) M ?_; clear K; intro a K
            refine X_rd K (want_no rfl) rfl rfl (rd_move rfl K rfl) M ?_; clear K; intro a K
            refine X_no K (K.no rfl rfl rfl rfl) rfl rfl ?_; clear K; intro a K
            refine X_no K (K.no rfl rfl rfl rfl) rfl rfl ?_; clear K; intro a K
            refine X_no K (K.no rfl rfl rfl rfl) rfl rfl ?_; clear K; intro a K
            refine X_rd K (want_no rfl) rfl rfl (rd_pickF rfl K rfl rfl) M ?_; clear K; intro a K
            refine X_rd K (want_no rfl) rfl rfl (rd_assign rfl K rfl) M ?_; clear K; intro a K
            refine wpList_nil ?_
            exact hj5 false _ _ ⟨K.pick [6], M.pick [0,1,2,3] (by decide)⟩ h
        · have h := cfalse hb h
          have K := K.reb (s := 49) rfl hb
          refine X_no K (K.no rfl rfl rfl rfl) rfl rfl ?_; clear K; intro a K
          refine X_no K (K.no rfl rfl rfl rfl) rfl rfl ?_; clear K; intro a K
          refine X_no K (K.no rfl rfl rfl rfl) rfl rfl ?_; clear K; intro a K
          refine X_rd K (want_no rfl) rfl rfl (rd_pickF rfl K rfl rfl) M ?_; clear K; intro a K
          refine X_rd K (want_no rfl) rfl rfl (rd_move rfl K rfl) M ?_; clear K; intro a K
          refine X_no K (K.no rfl rfl rfl rfl) rfl rfl ?_; clear K; intro a K
          refine X_no K (K.no rfl rfl rfl rfl) rfl rfl ?_; clear K; intro a K
          refine X_no K (K.no rfl rfl rfl rfl) rfl rfl ?_; clear K; intro a K
          refine X_rd K (want_no rfl) rfl rfl (rd_pickF rfl K rfl rfl) M ?_; clear K; intro a K
          refine X_rd K (want_no rfl) rfl rfl (rd_move rfl K rfl) M ?_; clear K; intro a K
          refine X_no K (K.no rfl rfl rfl rfl) rfl rfl ?_; clear K; intro a K
          refine X_no K (K.no rfl rfl rfl rfl) rfl rfl ?_; clear K; intro a K
          refine X_no K (K.no rfl rfl rfl rfl) rfl rfl ?_; clear K; intro a K
          refine X_rd K (want_no rfl) rfl rfl (rd_pickF rfl K rfl rfl) M ?_; clear K; intro a K
          refine X_rd K (want_no rfl) rfl rfl (rd_assign rfl K rfl) M ?_; clear K; intro a K
          refine wpList_nil ?_
          exact hj5 false _ _ ⟨K.pick [6], M.pick [0,1,2,3] (by decide)⟩ h
      · have h := cfalse hb h
        have K := K.reb (s := 44) rfl hb
        refine X_no K (K.no rfl rfl rfl rfl) rfl rfl ?_; clear K; intro a K
        refine X_no K (K.no rfl rfl rfl rfl) rfl rfl ?_; clear K; intro a K
        refine X_no K (K.no rfl rfl rfl rfl) rfl rfl ?_; clear K; intro a K
        refine X_rd K (want_no rfl) rfl rfl (rd_pickF rfl K rfl rfl) M ?_; clear K; intro a K
        refine X_rd K (want_no rfl) rfl rfl (rd_move rfl K rfl) M ?_; clear K; intro a K
        refine X_no K (K.no rfl rfl rfl rfl) rfl rfl ?_; clear K; intro a K
        refine X_no K (K.no rfl rfl rfl rfl) rfl rfl ?_; clear K; intro a K
        refine X_no K (K.no rfl rfl rfl rfl) rfl rfl ?_; clear K; intro a K
        refine X_rd K (want_no rfl) rfl rfl (rd_pickF rfl K rfl rfl) M ?_; clear K; intro a K
        refine X_rd K (want_no rfl) rfl rfl (rd_move rfl K rfl) M ?_; clear K; intro a K
        refine X_no K (K.no rfl rfl rfl rfl) rfl rfl ?_; clear K; intro a K
        refine X_no K (K.no rfl rfl rfl rfl) rfl rfl ?_; clear K; intro a K
        refine X_no K (K.no rfl rfl rfl rfl) rfl rfl ?_; clear K; intro a K
        refine X_rd K (want_no rfl) rfl rfl (rd_pickF rfl K rfl rfl) M ?_; clear K; intro a K
        refine X_rd K (want_no rfl) rfl rfl (rd_move rfl K rfl) M ?_; clear K; intro a K
        refine X_no K (K.no rfl rfl rfl rfl) rfl rfl ?_; clear K; intro a K
        refine X_no K (K.no rfl rfl rfl rfl) rfl rfl ?_; clear K; intro a K
        refine X_no K (K.no rfl rfl rfl rfl) rfl rfl ?_; clear K; intro a K
        refine X_rd K (want_no rfl) rfl rfl (rd_pickF rfl K rfl rfl) M ?_; clear K; intro a K
        refine X_rd K (want_no rfl) rfl rfl (rd_assign rfl K rfl) M ?_; clear K; intro a K
        refine wpList_nil ?_
        exact hj5 false _ _ ⟨K.pick [6], M.pick [0,1,2,3] (by decide)⟩ h

end Go.Proofs.Ytpmnfhifmmfglaa
