/- Printed by a program (walk.py): the walks of darkslidelaw_TurnTurns: each function computes what its plain program tells. -/
import Derived.Test.YtpmnfhifmmfglaaFacts
import Derived.Test.YtpmnfhifmmfglaaDD
import Derived.Test.YtpmnfhifmmfglaaWLawTurnbegun
import Derived.Test.YtpmnfhifmmfglaaWRefOne
import Derived.Test.YtpmnfhifmmfglaaWRefPicturefine
import Derived.Test.YtpmnfhifmmfglaaWRefSamepictures
import Derived.Test.YtpmnfhifmmfglaaWRefTurned
import Derived.Test.YtpmnfhifmmfglaaWTurn
set_option linter.unusedVariables false
set_option linter.unusedSimpArgs false
set_option linter.unusedSectionVars false
namespace Go.Proofs.Ytpmnfhifmmfglaa
open Go.RowKit

set_option maxRecDepth 100000 in
set_option maxHeartbeats 4000000 in
theorem W_darkslidelaw_TurnTurns (N : Nat) (d_W : Int) (d_H : Int) (d_P : List (Int × Int × Int)) (A_d_P : Option Addr) (c_d_P : Nat) (o : Int) (p2 : Int) (w0 : World) (R_d_P : SL w0 cIII A_d_P d_P) (C_d_P : d_P.length ≤ c_d_P) (r : Bool) (h : D_darkslidelaw_TurnTurns N d_W d_H d_P o p2 = some r) :
    Calls Try.prog 7 #[.agg #[.int .i64 d_W, .int .i64 d_H, .slice A_d_P d_P.length c_d_P], .int .i64 o, .int .i64 p2] w0 fun e w' => ∃ v, e = .returned v ∧ v = .bool r ∧ Mem w0.heap.size w0 w' [] := by
  refine X_enter Try.func7 rfl Try.ntmps7 rfl ?_
  intro a K
  have M := Mem.start w0
  have K : Kn a 103 [(0, .agg #[.int .i64 d_W, .int .i64 d_H, .slice A_d_P d_P.length c_d_P]), (1, .int .i64 o), (2, .int .i64 p2)] := K
  unfold D_darkslidelaw_TurnTurns at h
  refine wp_seq ?_
  refine X_reg ?_
  refine X_ac K (want_no rfl) rfl rfl (ac_box rfl K rfl (cs := [.int .i64 d_W, .int .i64 d_H, .slice A_d_P d_P.length c_d_P]) rfl M) ?_
  have M0 := M; clear K M; rintro _ a w ⟨g_x, rfl, M⟩ K
  clear M0
  refine X_rd K (want_no rfl) rfl rfl (rd_assign rfl K rfl) M ?_; clear K; intro a K
  refine wpList_nil ?_
  refine then_n ?_
  refine wp_seq ?_
  refine X_reg ?_
  refine X_rd K (want_no rfl) rfl rfl (rd_ldA rfl ty49 K rfl (inM 0 rfl) rfl rfl) M ?_; clear K; intro a K
  refine X_rd K (want_no rfl) rfl rfl (rd_move rfl K rfl) M ?_; clear K; intro a K
  obtain ⟨r2, h_r2, h⟩ := obind h
  refine X_ac K (want_no rfl) rfl rfl (ac_call (vs := [.agg #[.int .i64 d_W, .int .i64 d_H, .slice A_d_P d_P.length c_d_P], .int .i64 o]) (cap := []) rfl fok32 K rfl rfl (W_turn_Turn N d_W d_H d_P A_d_P c_d_P o _ ((inA R_d_P) _ M) C_d_P r2 h_r2)) ?_
  have M0 := M; clear K M; rintro _ a w ⟨A, c, rfl, M⟩ K
  have M := M0.call M
  clear M0
  refine X_rd K (want_no rfl) rfl rfl (rd_move rfl K rfl) M ?_; clear K; intro a K
  refine X_rd K (want_no rfl) rfl rfl (rd_extract rfl K rfl rfl) M ?_; clear K; intro a K
  refine X_rd K (want_no rfl) rfl rfl (rd_extract rfl K rfl rfl) M ?_; clear K; intro a K
  refine X_ac K (want_no rfl) rfl rfl (ac_alloc rfl z49 M) ?_
  have M0 := M; clear K M; rintro _ a w ⟨g_x2, rfl, M⟩ K
  clear M0
  refine X_a0 K (want_no rfl) rfl (ac_storeA rfl ty49 K rfl (ds := [.int .i64 r2.1, .int .i64 r2.2.1, .slice A r2.2.2.1.length c]) rfl rfl 0 M rfl rfl rfl) ?_
  have M0 := M; clear K M; rintro _ a w M K
  clear M0
  refine X_rd K (want_no rfl) rfl rfl (rd_assign rfl K rfl) M ?_; clear K; intro a K
  refine wpList_nil ?_
  refine then_n ?_
  refine wp_seq ?_
  refine X_reg ?_
  refine X_rd K (want_no rfl) rfl rfl (rd_move rfl K rfl) M ?_; clear K; intro a K
  obtain ⟨r3, h_r3, h⟩ := obind h
  refine X_ac K (want_no rfl) rfl rfl (ac_call (vs := [.int .i64 o]) (cap := []) rfl fok33 K rfl rfl (W_turn_Back N o _  r3 h_r3)) ?_
  have M0 := M; clear K M; rintro _ a w ⟨rfl, M⟩ K
  have M := M0.call M
  clear M0
  refine X_rd K (want_no rfl) rfl rfl (rd_move rfl K rfl) M ?_; clear K; intro a K
  refine X_rd K (want_no rfl) rfl rfl (rd_extract rfl K rfl rfl) M ?_; clear K; intro a K
  refine X_rd K (want_no rfl) rfl rfl (rd_extract rfl K rfl rfl) M ?_; clear K; intro a K
  refine X_rd K (want_no rfl) rfl rfl (rd_assign rfl K rfl) M ?_; clear K; intro a K
  refine X_rd K (want_no rfl) rfl rfl (rd_assign rfl K rfl) M ?_; clear K; intro a K
  refine wpList_nil ?_
  refine then_n ?_
  refine wp_seq ?_
  refine X_reg ?_
  refine X_rd K (want_no rfl) rfl rfl (rd_move rfl K rfl) M ?_; clear K; intro a K
  refine X_rd K (want_no rfl) rfl rfl (rd_move rfl K rfl) M ?_; clear K; intro a K
  obtain ⟨r4, h_r4, h⟩ := obind h
  refine X_ac K (want_no rfl) rfl rfl (ac_call (vs := [.int .i64 o, .int .i64 p2]) (cap := []) rfl fok34 K rfl rfl (W_turn_Both N o p2 _  r4 h_r4)) ?_
  have M0 := M; clear K M; rintro _ a w ⟨rfl, M⟩ K
  have M := M0.call M
  clear M0
  refine X_rd K (want_no rfl) rfl rfl (rd_move rfl K rfl) M ?_; clear K; intro a K
  refine X_rd K (want_no rfl) rfl rfl (rd_extract rfl K rfl rfl) M ?_; clear K; intro a K
  refine X_rd K (want_no rfl) rfl rfl (rd_extract rfl K rfl rfl) M ?_; clear K; intro a K
  refine X_rd K (want_no rfl) rfl rfl (rd_assign rfl K rfl) M ?_; clear K; intro a K
  refine X_rd K (want_no rfl) rfl rfl (rd_assign rfl K rfl) M ?_; clear K; intro a K
  refine wpList_nil ?_
  refine then_n ?_
  refine wp_seq ?_
  refine X_join (Rel := fun (i : Bool) a w => Kn a 103 [(1, .int .i64 o), (2, .int .i64 p2), (3, .pointer (some ⟨g_x, 0, none⟩)), (7, .pointer (some ⟨g_x2, 0, none⟩)), (8, .int .i64 r2.2.2.2), (9, .int .i64 r3.1), (10, .int .i64 r3.2), (11, .int .i64 r4.1), (12, .int .i64 r4.2), (13, .bool i)] ∧ Mem w0.heap.size w0 w [.blk g_x2 49 [.int .i64 r2.1, .int .i64 r2.2.1, .slice A r2.2.2.1.length c], .row 73 3 A r2.2.2.1.length c (cIII.all r2.2.2.1), .blk g_x 49 [.int .i64 d_W, .int .i64 d_H, .slice A_d_P d_P.length c_d_P]]) h ?_ ?_
  · clear K M h
    rintro i2 a w ⟨K, M⟩ h
    try dsimp only at h
    refine then_n ?_
    refine wp_seq ?_
    refine X_reg ?_
    refine X_rd K (want_no rfl) rfl rfl (rd_assign rfl K rfl) M ?_; clear K; intro a K
    refine X_rd K (want_no rfl) rfl rfl (rd_assign rfl K rfl) M ?_; clear K; intro a K
    refine X_rd K (want_no rfl) rfl rfl (rd_assign rfl K rfl) M ?_; clear K; intro a K
    refine wpList_nil ?_
    refine then_n ?_
    refine wp_seq ?_
    refine X_reg ?_
    refine X_ac K (want_no rfl) rfl rfl (ac_alloc rfl z49 M) ?_
    have M0 := M; clear K M; rintro _ a w ⟨g_x3, rfl, M⟩ K
    clear M0
    refine wpList_nil ?_
    refine then_n ?_
    refine wp_seq ?_
    refine wp_seq ?_
    refine X_reg ?_
    refine X_rd K (want_no rfl) rfl rfl (rd_ldA rfl ty49 K rfl (inM 3 rfl) rfl rfl) M ?_; clear K; intro a K
    obtain ⟨r5, h_r5, h⟩ := obind h
    refine X_ac K (want_no rfl) rfl rfl (ac_call (vs := [.agg #[.int .i64 d_W, .int .i64 d_H, .slice A_d_P d_P.length c_d_P]]) (cap := []) rfl fok35 K rfl rfl (W_darkslideref_PictureFine N d_W d_H d_P A_d_P c_d_P _ ((inA R_d_P) _ M) C_d_P r5 h_r5)) ?_
    have M0 := M; clear K M; rintro _ a w ⟨rfl, M⟩ K
    have M := M0.call M
    clear M0
    refine wpList_nil ?_
    refine then_n ?_
    refine X_cond K rfl (fun hb => ?_) (fun hb => ?_)
    · have h := ctrue hb h
      refine wp_seq ?_
      refine X_reg ?_
      refine X_rd K (want_no rfl) rfl rfl (rd_assign rfl K rfl) M ?_; clear K; intro a K
      refine wpList_nil ?_
      refine then_n ?_
      refine wp_seq ?_
      refine X_reg ?_
      refine X_rd K (want_no rfl) rfl rfl (rd_move rfl K rfl) M ?_; clear K; intro a K
      refine wpList_nil ?_
      refine then_n ?_
      refine X_cond K rfl (fun hb => ?_) (fun hb => ?_)
      · have h := ctrue hb h
        refine X_reg ?_
        refine X_rd K (want_no rfl) rfl rfl (rd_ldA rfl ty49 K rfl (inM 3 rfl) rfl rfl) M ?_; clear K; intro a K
        refine X_rd K (want_no rfl) rfl rfl (rd_move rfl K rfl) M ?_; clear K; intro a K
        obtain ⟨r6, h_r6, h⟩ := obind h
        refine X_ac K (want_no rfl) rfl rfl (ac_call (vs := [.agg #[.int .i64 d_W, .int .i64 d_H, .slice A_d_P d_P.length c_d_P], .int .i64 o]) (cap := []) rfl fok36 K rfl rfl (W_darkslideref_Turned N d_W d_H d_P A_d_P c_d_P o _ ((inA R_d_P) _ M) C_d_P r6 h_r6)) ?_
        have M0 := M; clear K M; rintro _ a w ⟨A2, c2, rfl, M⟩ K
        have M := M0.call M
        clear M0
        refine X_a0 K (want_no rfl) rfl (ac_storeA rfl ty49 K rfl (ds := [.int .i64 r6.1, .int .i64 r6.2.1, .slice A2 r6.2.2.length c2]) rfl rfl 1 M rfl rfl rfl) ?_
        have M0 := M; clear K M; rintro _ a w M K
        clear M0
        refine X_rd K (want_no rfl) rfl rfl (rd_assign rfl K rfl) M ?_; clear K; intro a K
        refine wpList_nil ?_
        refine then_n ?_
        refine wp_seq ?_
        refine X_reg ?_
        refine X_rd K (want_no rfl) rfl rfl (rd_assign rfl K rfl) M ?_; clear K; intro a K
        refine X_rd K (want_no rfl) rfl rfl (rd_assign rfl K rfl) M ?_; clear K; intro a K
        refine wpList_nil ?_
        refine then_n ?_
        refine wp_seq ?_
        refine wp_seq ?_
        refine X_reg ?_
        refine X_rd K (want_no rfl) rfl rfl (rd_move rfl K rfl) M ?_; clear K; intro a K
        refine wpList_nil ?_
        refine then_n ?_
        refine X_join (Rel := fun (⟨i3, i4⟩ : Int × Int) a w => Kn a 103 [(1, .int .i64 o), (2, .int .i64 p2), (7, .pointer (some ⟨g_x2, 0, none⟩)), (8, .int .i64 r2.2.2.2), (9, .int .i64 r3.1), (10, .int .i64 r3.2), (11, .int .i64 r4.1), (12, .int .i64 r4.2), (13, .bool i2), (14, .int .i64 0), (15, .int .i64 i3), (16, .int .i64 3), (17, .pointer (some ⟨g_x3, 0, none⟩)), (18, .int .i64 i4), (19, .int .i64 0)] ∧ Mem w0.heap.size w0 w [.row 73 3 A2 r6.2.2.length c2 (cIII.all r6.2.2), .blk g_x3 49 [.int .i64 r6.1, .int .i64 r6.2.1, .slice A2 r6.2.2.length c2], .blk g_x2 49 [.int .i64 r2.1, .int .i64 r2.2.1, .slice A r2.2.2.1.length c], .row 73 3 A r2.2.2.1.length c (cIII.all r2.2.2.1)]) h ?_ ?_
        · clear K M h
          rintro ⟨i5, i6⟩ a w ⟨K, M⟩ h
          try dsimp only at h
          refine then_n ?_
          refine wp_seq ?_
          refine wp_seq ?_
          refine X_join (Rel := fun (i15 : Bool) a w => Kn a 103 [(1, .int .i64 o), (2, .int .i64 p2), (7, .pointer (some ⟨g_x2, 0, none⟩)), (8, .int .i64 r2.2.2.2), (9, .int .i64 r3.1), (10, .int .i64 r3.2), (11, .int .i64 r4.1), (12, .int .i64 r4.2), (14, .int .i64 0), (15, .int .i64 i5), (16, .int .i64 3), (17, .pointer (some ⟨g_x3, 0, none⟩)), (18, .int .i64 i6), (19, .int .i64 0), (68, .bool i15)] ∧ Mem w0.heap.size w0 w [.row 73 3 A2 r6.2.2.length c2 (cIII.all r6.2.2), .blk g_x3 49 [.int .i64 r6.1, .int .i64 r6.2.1, .slice A2 r6.2.2.length c2], .blk g_x2 49 [.int .i64 r2.1, .int .i64 r2.2.1, .slice A r2.2.2.1.length c], .row 73 3 A r2.2.2.1.length c (cIII.all r2.2.2.1)]) h ?_ ?_
          · clear K M h
            rintro i16 a w ⟨K, M⟩ h
            try dsimp only at h
            refine then_n ?_
            refine X_join (Rel := fun (⟨i17, i18⟩ : Int × Int) a w => Kn a 103 [(7, .pointer (some ⟨g_x2, 0, none⟩)), (8, .int .i64 r2.2.2.2), (9, .int .i64 r3.1), (10, .int .i64 r3.2), (11, .int .i64 r4.1), (12, .int .i64 r4.2), (14, .int .i64 0), (15, .int .i64 i5), (16, .int .i64 i17), (17, .pointer (some ⟨g_x3, 0, none⟩)), (18, .int .i64 i6), (19, .int .i64 i18)] ∧ Mem w0.heap.size w0 w [.row 73 3 A2 r6.2.2.length c2 (cIII.all r6.2.2), .blk g_x3 49 [.int .i64 r6.1, .int .i64 r6.2.1, .slice A2 r6.2.2.length c2], .blk g_x2 49 [.int .i64 r2.1, .int .i64 r2.2.1, .slice A r2.2.2.1.length c], .row 73 3 A r2.2.2.1.length c (cIII.all r2.2.2.1)]) h ?_ ?_
            · clear K M h
              rintro ⟨i19, i20⟩ a w ⟨K, M⟩ h
              try dsimp only at h
              refine then_n ?_
              refine wp_seq ?_
              refine X_join (Rel := fun (i21 : Bool) a w => Kn a 103 [(6, .bool i21)] ∧ Mem w0.heap.size w0 w [.row 73 3 A2 r6.2.2.length c2 (cIII.all r6.2.2), .blk g_x3 49 [.int .i64 r6.1, .int .i64 r6.2.1, .slice A2 r6.2.2.length c2], .blk g_x2 49 [.int .i64 r2.1, .int .i64 r2.2.1, .slice A r2.2.2.1.length c], .row 73 3 A r2.2.2.1.length c (cIII.all r2.2.2.1)]) h ?_ ?_
              · clear K M h
                rintro i22 a w ⟨K, M⟩ h
                try dsimp only at h
                refine then_n ?_
                refine wp_ret ?_
                cases h
                exact ret1 K rfl (res_tmp K rfl) ⟨_, rfl, rfl, ((M).pick [] (by decide))⟩
              · clear h; rintro kk_darkslidelaw_TurnTurns_j6 hj6 h
                unfold D_darkslidelaw_TurnTurns_j6 at h
                refine X_reg ?_
                obtain ⟨r10, h_r10, h⟩ := obind h
                refine X_ac K (want_no rfl) rfl rfl (ac_call (vs := []) (cap := []) rfl fok30 K rfl rfl (W_darkslidelaw_turnBegun N  _  r10 h_r10)) ?_
                have M0 := M; clear K M; rintro _ a w ⟨rfl, M⟩ K
                have M := M0.call M
                clear M0
                refine X_rd K (want_no rfl) rfl rfl (rd_move rfl K rfl) M ?_; clear K; intro a K
                rcases Bool.eq_false_or_eq_true (r10) with hb | hb
                · have h := ctrue hb h
                  have K := K.reb (s := 73) rfl hb
                  refine X_rd K (K.yes rfl rfl rfl) rfl rfl (rd_move rfl K rfl) M ?_; clear K; intro a K
                  refine X_rd K (K.yes rfl rfl rfl) rfl rfl (rd_move rfl K rfl) M ?_; clear K; intro a K
                  refine X_rd K (K.yes rfl rfl rfl) rfl rfl (rd_eql rfl K rfl rfl) M ?_; clear K; intro a K
                  refine X_rd K (want_no rfl) rfl rfl (rd_pickT rfl K rfl rfl) M ?_; clear K; intro a K
                  refine X_rd K (want_no rfl) rfl rfl (rd_move rfl K rfl) M ?_; clear K; intro a K
                  rcases Bool.eq_false_or_eq_true (decide (r2.2.2.2 = 0)) with hb | hb
                  · have h := ctrue hb h
                    have K := K.reb (s := 78) rfl hb
                    refine X_rd K (K.yes rfl rfl rfl) rfl rfl (rd_move rfl K rfl) M ?_; clear K; intro a K
                    refine X_rd K (K.yes rfl rfl rfl) rfl rfl (rd_move rfl K rfl) M ?_; clear K; intro a K
                    refine X_rd K (K.yes rfl rfl rfl) rfl rfl (rd_eql rfl K rfl rfl) M ?_; clear K; intro a K
                    refine X_rd K (want_no rfl) rfl rfl (rd_pickT rfl K rfl rfl) M ?_; clear K; intro a K
                    refine X_rd K (want_no rfl) rfl rfl (rd_move rfl K rfl) M ?_; clear K; intro a K
                    rcases Bool.eq_false_or_eq_true (decide (r3.2 = i5)) with hb | hb
                    · have h := ctrue hb h
                      have K := K.reb (s := 83) rfl hb
                      refine X_rd K (K.yes rfl rfl rfl) rfl rfl (rd_move rfl K rfl) M ?_; clear K; intro a K
                      refine X_rd K (K.yes rfl rfl rfl) rfl rfl (rd_move rfl K rfl) M ?_; clear K; intro a K
                      refine X_rd K (K.yes rfl rfl rfl) rfl rfl (rd_eql rfl K rfl rfl) M ?_; clear K; intro a K
                      refine X_rd K (want_no rfl) rfl rfl (rd_pickT rfl K rfl rfl) M ?_; clear K; intro a K
                      refine X_rd K (want_no rfl) rfl rfl (rd_move rfl K rfl) M ?_; clear K; intro a K
                      rcases Bool.eq_false_or_eq_true (decide (r4.2 = i19)) with hb | hb
                      · have h := ctrue hb h
                        have K := K.reb (s := 88) rfl hb
                        refine X_rd K (K.yes rfl rfl rfl) rfl rfl (rd_ldA rfl ty49 K rfl (inM 2 rfl) rfl rfl) M ?_; clear K; intro a K
                        refine X_rd K (K.yes rfl rfl rfl) rfl rfl (rd_ldA rfl ty49 K rfl (inM 1 rfl) rfl rfl) M ?_; clear K; intro a K
                        obtain ⟨r11, h_r11, h⟩ := obind h
                        refine X_ac K (K.yes rfl rfl rfl) rfl rfl (ac_call (vs := [.agg #[.int .i64 r2.1, .int .i64 r2.2.1, .slice A r2.2.2.1.length c], .agg #[.int .i64 r6.1, .int .i64 r6.2.1, .slice A2 r6.2.2.length c2]]) (cap := []) rfl fok31 K rfl rfl (W_darkslideref_SamePictures N r2.1 r2.2.1 r2.2.2.1 A c r6.1 r6.2.1 r6.2.2 A2 c2 _ ((inR (C := cIII) 3 rfl rfl) _ M) (M.cap 3 rfl) ((inR (C := cIII) 0 rfl rfl) _ M) (M.cap 0 rfl) r11 h_r11)) ?_
                        have M0 := M; clear K M; rintro _ a w ⟨rfl, M⟩ K
                        have M := M0.call M
                        clear M0
                        refine X_rd K (want_no rfl) rfl rfl (rd_pickT rfl K rfl rfl) M ?_; clear K; intro a K
                        refine X_rd K (want_no rfl) rfl rfl (rd_move rfl K rfl) M ?_; clear K; intro a K
                        rcases Bool.eq_false_or_eq_true (r11) with hb | hb
                        · have h := ctrue hb h
                          have K := K.reb (s := 93) rfl hb
                          refine X_rd K (K.yes rfl rfl rfl) rfl rfl (rd_move rfl K rfl) M ?_; clear K; intro a K
                          refine X_rd K (K.yes rfl rfl rfl) rfl rfl (rd_move rfl K rfl) M ?_; clear K; intro a K
                          refine X_rd K (K.yes rfl rfl rfl) rfl rfl (rd_eql rfl K rfl rfl) M ?_; clear K; intro a K
                          refine X_rd K (want_no rfl) rfl rfl (rd_pickT rfl K rfl rfl) M ?_; clear K; intro a K
                          refine X_rd K (want_no rfl) rfl rfl (rd_move rfl K rfl) M ?_; clear K; intro a K
                          rcases Bool.eq_false_or_eq_true (decide (r3.1 = i6)) with hb | hb
                          · have h := ctrue hb h
                            have K := K.reb (s := 98) rfl hb
                            refine X_rd K (K.yes rfl rfl rfl) rfl rfl (rd_move rfl K rfl) M ?_; clear K; intro a K
                            refine X_rd K (K.yes rfl rfl rfl) rfl rfl (rd_move rfl K rfl) M ?_; clear K; intro a K
                            refine X_rd K (K.yes rfl rfl rfl) rfl rfl (rd_eql rfl K rfl rfl) M ?_; clear K; intro a K
                            refine X_rd K (want_no rfl) rfl rfl (rd_pickT rfl K rfl rfl) M ?_; clear K; intro a K
                            refine X_rd K (want_no rfl) rfl rfl (rd_assign rfl K rfl) M ?_; clear K; intro a K
                            refine wpList_nil ?_
                            exact hj6 (decide (r4.1 = i20)) _ _ ⟨K.pick [6], M.pick [0,1,2,3] (by decide)⟩ h
                          · have h := cfalse hb h
                            have K := K.reb (s := 98) rfl hb
                            refine X_no K (K.no rfl rfl rfl rfl) rfl rfl ?_; clear K; intro a K
                            refine X_no K (K.no rfl rfl rfl rfl) rfl rfl ?_; clear K; intro a K
                            refine X_no K (K.no rfl rfl rfl rfl) rfl rfl ?_; clear K; intro a K
                            refine X_rd K (want_no rfl) rfl rfl (rd_pickF rfl K rfl rfl) M ?_; clear K; intro a K
                            refine X_rd K (want_no rfl) rfl rfl (rd_assign rfl K rfl) M ?_; clear K; intro a K
                            refine wpList_nil ?_
                            exact hj6 false _ _ ⟨K.pick [6], M.pick [0,1,2,3] (by decide)⟩ h
                        · have h := cfalse hb h
                          have K := K.reb (s := 93) rfl hb
                          refine X_no K (K.no rfl rfl rfl rfl) rfl rfl ?_; clear K; intro a K
                          refine X_no K (K.no rfl rfl rfl rfl) rfl rfl ?_; clear K; intro a K
                          refine X_no K (K.no rfl rfl rfl rfl) rfl rfl ?_; clear K; intro a K
                          refine X_rd K (want_no rfl) rfl rfl (rd_pickF rfl K rfl rfl) M ?_; clear K; intro a K
                          refine X_rd K (want_no rfl) rfl rfl (rd_move rfl K rfl) M ?_; clear K; intro a K
                          refine X_no K (K.no rfl rfl rfl rfl) rfl rfl ?_; clear K; intro a K
                          refine X_no K (K.no rfl rfl rfl rfl) rfl rfl ?_; clear K; intro a K
                          refine X_no K (K.no rfl rfl rfl rfl) rfl rfl ?_; clear K; intro a K
                          refine X_rd K (want_no rfl) rfl rfl (rd_pickF rfl K rfl rfl) M ?_; clear K; intro a K
                          refine X_rd K (want_no rfl) rfl rfl (rd_assign rfl K rfl) M ?_; clear K; intro a K
                          refine wpList_nil ?_
                          exact hj6 false _ _ ⟨K.pick [6], M.pick [0,1,2,3] (by decide)⟩ h
                      · have h := cfalse hb h
                        have K := K.reb (s := 88) rfl hb
                        refine X_no K (K.no rfl rfl rfl rfl) rfl rfl ?_; clear K; intro a K
                        refine X_no K (K.no rfl rfl rfl rfl) rfl rfl ?_; clear K; intro a K
                        refine X_no K (K.no rfl rfl rfl rfl) rfl rfl ?_; clear K; intro a K
                        refine X_rd K (want_no rfl) rfl rfl (rd_pickF rfl K rfl rfl) M ?_; clear K; intro a K
                        refine X_rd K (want_no rfl) rfl rfl (rd_move rfl K rfl) M ?_; clear K; intro a K
                        refine X_no K (K.no rfl rfl rfl rfl) rfl rfl ?_; clear K; intro a K
                        refine X_no K (K.no rfl rfl rfl rfl) rfl rfl ?_; clear K; intro a K
                        refine X_no K (K.no rfl rfl rfl rfl) rfl rfl ?_; clear K; intro a K
                        refine X_rd K (want_no rfl) rfl rfl (rd_pickF rfl K rfl rfl) M ?_; clear K; intro a K
                        refine X_rd K (want_no rfl) rfl rfl (rd_move rfl K rfl) M ?_; clear K; intro a K
                        refine X_no K (K.no rfl rfl rfl rfl) rfl rfl ?_; clear K; intro a K
                        refine X_no K (K.no rfl rfl rfl rfl) rfl rfl ?_; clear K; intro a K
                        refine X_no K (K.no rfl rfl rfl rfl) rfl rfl ?_; clear K; intro a K
                        refine X_rd K (want_no rfl) rfl rfl (rd_pickF rfl K rfl rfl) M ?_; clear K; intro a K
                        refine X_rd K (want_no rfl) rfl rfl (rd_assign rfl K rfl) M ?_; clear K; intro a K
                        refine wpList_nil ?_
                        exact hj6 false _ _ ⟨K.pick [6], M.pick [0,1,2,3] (by decide)⟩ h
                    · have h := cfalse hb h
                      have K := K.reb (s := 83) rfl hb
                      refine X_no K (K.no rfl rfl rfl rfl) rfl rfl ?_; clear K; intro a K
                      refine X_no K (K.no rfl rfl rfl rfl) rfl rfl ?_; clear K; intro a K
                      refine X_no K (K.no rfl rfl rfl rfl) rfl rfl ?_; clear K; intro a K
                      refine X_rd K (want_no rfl) rfl rfl (rd_pickF rfl K rfl rfl) M ?_; clear K; intro a K
                      refine X_rd K (want_no rfl) rfl rfl (rd_move rfl K rfl) M ?_; clear K; intro a K
                      refine X_no K (K.no rfl rfl rfl rfl) rfl rfl ?_; clear K; intro a K
                      refine X_no K (K.no rfl rfl rfl rfl) rfl rfl ?_; clear K; intro a K
                      refine X_no K (K.no rfl rfl rfl rfl) rfl rfl ?_; clear K; intro a K
                      refine X_rd K (want_no rfl) rfl rfl (rd_pickF rfl K rfl rfl) M ?_; clear K; intro a K
                      refine X_rd K (want_no rfl) rfl rfl (rd_move rfl K rfl) M ?_; clear K; intro a K
                      refine X_no K (K.no rfl rfl rfl rfl) rfl rfl ?_; clear K; intro a K
                      refine X_no K (K.no rfl rfl rfl rfl) rfl rfl ?_; clear K; intro a K
                      refine X_no K (K.no rfl rfl rfl rfl) rfl rfl ?_; clear K; intro a K
                      refine X_rd K (want_no rfl) rfl rfl (rd_pickF rfl K rfl rfl) M ?_; clear K; intro a K
                      refine X_rd K (want_no rfl) rfl rfl (rd_move rfl K rfl) M ?_; clear K; intro a K
                      refine X_no K (K.no rfl rfl rfl rfl) rfl rfl ?_; clear K; intro a K
                      refine X_no K (K.no rfl rfl rfl rfl) rfl rfl ?_; clear K; intro a K
                      refine X_no K (K.no rfl rfl rfl rfl) rfl rfl ?_; clear K; intro a K
                      refine X_rd K (want_no rfl) rfl rfl (rd_pickF rfl K rfl rfl) M ?_; clear K; intro a K
                      refine X_rd K (want_no rfl) rfl rfl (rd_assign rfl K rfl) M ?_; clear K; intro a K
                      refine wpList_nil ?_
                      exact hj6 false _ _ ⟨K.pick [6], M.pick [0,1,2,3] (by decide)⟩ h
                  · have h := cfalse hb h
                    have K := K.reb (s := 78) rfl hb
                    refine X_no K (K.no rfl rfl rfl rfl) rfl rfl ?_; clear K; intro a K
                    refine X_no K (K.no rfl rfl rfl rfl) rfl rfl ?_; clear K; intro a K
                    refine X_no K (K.no rfl rfl rfl rfl) rfl rfl ?_; clear K; intro a K
                    refine X_rd K (want_no rfl) rfl rfl (rd_pickF rfl K rfl rfl) M ?_; clear K; intro a K
                    refine X_rd K (want_no rfl) rfl rfl (rd_move rfl K rfl) M ?_; clear K; intro a K
                    refine X_no K (K.no rfl rfl rfl rfl) rfl rfl ?_; clear K; intro a K
                    refine X_no K (K.no rfl rfl rfl rfl) rfl rfl ?_; clear K; intro a K
                    refine X_no K (K.no rfl rfl rfl rfl) rfl rfl ?_; clear K; intro a K
                    refine X_rd K (want_no rfl) rfl rfl (rd_pickF rfl K rfl rfl) M ?_; clear K; intro a K
                    refine X_rd K (want_no rfl) rfl rfl (rd_move rfl K rfl) M ?_; clear K; intro a K
                    refine X_no K (K.no rfl rfl rfl rfl) rfl rfl ?_; clear K; intro a K
                    refine X_no K (K.no rfl rfl rfl rfl) rfl rfl ?_; clear K; intro a K
                    refine X_no K (K.no rfl rfl rfl rfl) rfl rfl ?_; clear K; intro a K
                    refine X_rd K (want_no rfl) rfl rfl (rd_pickF rfl K rfl rfl) M ?_; clear K; intro a K
                    refine X_rd K (want_no rfl) rfl rfl (rd_move rfl K rfl) M ?_; clear K; intro a K
                    refine X_no K (K.no rfl rfl rfl rfl) rfl rfl ?_; clear K; intro a K
                    refine X_no K (K.no rfl rfl rfl rfl) rfl rfl ?_; clear K; intro a K
                    refine X_no K (K.no rfl rfl rfl rfl) rfl rfl ?_; clear K; intro a K
                    refine X_rd K (want_no rfl) rfl rfl (rd_pickF rfl K rfl rfl) M ?_; clear K; intro a K
                    refine X_rd K (want_no rfl) rfl rfl (rd_move rfl K rfl) M ?_; clear K; intro a K
                    refine X_no K (K.no rfl rfl rfl rfl) rfl rfl ?_; clear K; intro a K
                    refine X_no K (K.no rfl rfl rfl rfl) rfl rfl ?_; clear K; intro a K
                    refine X_no K (K.no rfl rfl rfl rfl) rfl rfl ?_; clear K; intro a K
                    refine X_rd K (want_no rfl) rfl rfl (rd_pickF rfl K rfl rfl) M ?_; clear K; intro a K
                    refine X_rd K (want_no rfl) rfl rfl (rd_assign rfl K rfl) M ?_; clear K; intro a K
                    refine wpList_nil ?_
                    exact hj6 false _ _ ⟨K.pick [6], M.pick [0,1,2,3] (by decide)⟩ h
                · have h := cfalse hb h
                  have K := K.reb (s := 73) rfl hb
                  refine X_no K (K.no rfl rfl rfl rfl) rfl rfl ?_; clear K; intro a K
                  refine X_no K (K.no rfl rfl rfl rfl) rfl rfl ?_; clear K; intro a K
                  refine X_no K (K.no rfl rfl rfl rfl) rfl rfl ?_; clear K; intro a K
                  refine X_rd K (want_no rfl) rfl rfl (rd_pickF rfl K rfl rfl) M ?_; clear K; intro a K
                  refine X_rd K (want_no rfl) rfl rfl (rd_move rfl K rfl) M ?_; clear K; intro a K
                  refine X_no K (K.no rfl rfl rfl rfl) rfl rfl ?_; clear K; intro a K
                  refine X_no K (K.no rfl rfl rfl rfl) rfl rfl ?_; clear K; intro a K
                  refine X_no K (K.no rfl rfl rfl rfl) rfl rfl ?_; clear K; intro a K
                  refine X_rd K (want_no rfl) rfl rfl (rd_pickF rfl K rfl rfl) M ?_; clear K; intro a K
                  refine X_rd K (want_no rfl) rfl rfl (rd_move rfl K rfl) M ?_; clear K; intro a K
                  refine X_no K (K.no rfl rfl rfl rfl) rfl rfl ?_; clear K; intro a K
                  refine X_no K (K.no rfl rfl rfl rfl) rfl rfl ?_; clear K; intro a K
                  refine X_no K (K.no rfl rfl rfl rfl) rfl rfl ?_; clear K; intro a K
                  refine X_rd K (want_no rfl) rfl rfl (rd_pickF rfl K rfl rfl) M ?_; clear K; intro a K
                  refine X_rd K (want_no rfl) rfl rfl (rd_move rfl K rfl) M ?_; clear K; intro a K
                  refine X_no K (K.no rfl rfl rfl rfl) rfl rfl ?_; clear K; intro a K
                  refine X_no K (K.no rfl rfl rfl rfl) rfl rfl ?_; clear K; intro a K
                  refine X_no K (K.no rfl rfl rfl rfl) rfl rfl ?_; clear K; intro a K
                  refine X_rd K (want_no rfl) rfl rfl (rd_pickF rfl K rfl rfl) M ?_; clear K; intro a K
                  refine X_rd K (want_no rfl) rfl rfl (rd_move rfl K rfl) M ?_; clear K; intro a K
                  refine X_no K (K.no rfl rfl rfl rfl) rfl rfl ?_; clear K; intro a K
                  refine X_no K (K.no rfl rfl rfl rfl) rfl rfl ?_; clear K; intro a K
                  refine X_no K (K.no rfl rfl rfl rfl) rfl rfl ?_; clear K; intro a K
                  refine X_rd K (want_no rfl) rfl rfl (rd_pickF rfl K rfl rfl) M ?_; clear K; intro a K
                  refine X_rd K (want_no rfl) rfl rfl (rd_move rfl K rfl) M ?_; clear K; intro a K
                  refine X_no K (K.no rfl rfl rfl rfl) rfl rfl ?_; clear K; intro a K
                  refine X_no K (K.no rfl rfl rfl rfl) rfl rfl ?_; clear K; intro a K
                  refine X_no K (K.no rfl rfl rfl rfl) rfl rfl ?_; clear K; intro a K
                  refine X_rd K (want_no rfl) rfl rfl (rd_pickF rfl K rfl rfl) M ?_; clear K; intro a K
                  refine X_rd K (want_no rfl) rfl rfl (rd_assign rfl K rfl) M ?_; clear K; intro a K
                  refine wpList_nil ?_
                  exact hj6 false _ _ ⟨K.pick [6], M.pick [0,1,2,3] (by decide)⟩ h
            · clear h; rintro kk_darkslidelaw_TurnTurns_j5 hj5 h
              unfold D_darkslidelaw_TurnTurns_j5 at h
              refine X_cond K rfl (fun hb => ?_) (fun hb => ?_)
              · have h := ctrue hb h
                refine X_reg ?_
                refine X_rd K (want_no rfl) rfl rfl (rd_move rfl K rfl) M ?_; clear K; intro a K
                refine X_rd K (want_no rfl) rfl rfl (rd_move rfl K rfl) M ?_; clear K; intro a K
                obtain ⟨r9, h_r9, h⟩ := obind h
                refine X_ac K (want_no rfl) rfl rfl (ac_call (vs := [.int .i64 o, .int .i64 p2]) (cap := []) rfl fok37 K rfl rfl (W_darkslideref_One N o p2 _  r9 h_r9)) ?_
                have M0 := M; clear K M; rintro _ a w ⟨rfl, M⟩ K
                have M := M0.call M
                clear M0
                refine X_rd K (want_no rfl) rfl rfl (rd_assign rfl K rfl) M ?_; clear K; intro a K
                refine X_rd K (want_no rfl) rfl rfl (rd_assign rfl K rfl) M ?_; clear K; intro a K
                refine wpList_nil ?_
                exact hj5 (0, r9) _ _ ⟨K.pick [7,8,9,10,11,12,14,15,16,17,18,19], M.pick [0,1,2,3] (by decide)⟩ h
              · have h := cfalse hb h
                refine wp_skip ?_
                exact hj5 (3, 0) _ _ ⟨K.pick [7,8,9,10,11,12,14,15,16,17,18,19], M.pick [0,1,2,3] (by decide)⟩ h
          · clear h; rintro kk_darkslidelaw_TurnTurns_j4 hj4 h
            unfold D_darkslidelaw_TurnTurns_j4 at h
            refine X_reg ?_
            refine X_rd K (want_no rfl) rfl rfl (rd_move rfl K rfl) M ?_; clear K; intro a K
            refine X_rd K (want_no rfl) rfl rfl (rd_move rfl K rfl) M ?_; clear K; intro a K
            rcases Bool.eq_false_or_eq_true (i2) with hb | hb
            · have h := ctrue hb h
              have K := K.reb (s := 61) rfl hb
              refine X_rd K (K.yes rfl rfl rfl) rfl rfl (rd_move rfl K rfl) M ?_; clear K; intro a K
              refine X_rd K (K.yes rfl rfl rfl) rfl rfl (rd_geq rfl K rfl rfl) M ?_; clear K; intro a K
              refine X_rd K (want_no rfl) rfl rfl (rd_pickT rfl K rfl rfl) M ?_; clear K; intro a K
              refine X_rd K (want_no rfl) rfl rfl (rd_move rfl K rfl) M ?_; clear K; intro a K
              rcases Bool.eq_false_or_eq_true (decide (1 ≤ p2)) with hb | hb
              · have h := ctrue hb h
                have K := K.reb (s := 65) rfl hb
                refine X_rd K (K.yes rfl rfl rfl) rfl rfl (rd_move rfl K rfl) M ?_; clear K; intro a K
                refine X_rd K (K.yes rfl rfl rfl) rfl rfl (rd_leq rfl K rfl rfl) M ?_; clear K; intro a K
                refine X_rd K (want_no rfl) rfl rfl (rd_pickT rfl K rfl rfl) M ?_; clear K; intro a K
                refine wpList_nil ?_
                exact hj4 (decide (p2 ≤ 8)) _ _ ⟨K.pick [1,2,7,8,9,10,11,12,14,15,16,17,18,19,68], M.pick [0,1,2,3] (by decide)⟩ h
              · have h := cfalse hb h
                have K := K.reb (s := 65) rfl hb
                refine X_no K (K.no rfl rfl rfl rfl) rfl rfl ?_; clear K; intro a K
                refine X_no K (K.no rfl rfl rfl rfl) rfl rfl ?_; clear K; intro a K
                refine X_rd K (want_no rfl) rfl rfl (rd_pickF rfl K rfl rfl) M ?_; clear K; intro a K
                refine wpList_nil ?_
                exact hj4 false _ _ ⟨K.pick [1,2,7,8,9,10,11,12,14,15,16,17,18,19,68], M.pick [0,1,2,3] (by decide)⟩ h
            · have h := cfalse hb h
              have K := K.reb (s := 61) rfl hb
              refine X_no K (K.no rfl rfl rfl rfl) rfl rfl ?_; clear K; intro a K
              refine X_no K (K.no rfl rfl rfl rfl) rfl rfl ?_; clear K; intro a K
              refine X_rd K (want_no rfl) rfl rfl (rd_pickF rfl K rfl rfl) M ?_; clear K; intro a K
              refine X_rd K (want_no rfl) rfl rfl (rd_move rfl K rfl) M ?_; clear K; intro a K
              refine X_no K (K.no rfl rfl rfl rfl) rfl rfl ?_; clear K; intro a K
              refine X_no K (K.no rfl rfl rfl rfl) rfl rfl ?_; clear K; intro a K
              refine X_rd K (want_no rfl) rfl rfl (rd_pickF rfl K rfl rfl) M ?_; clear K; intro a K
              refine wpList_nil ?_
              exact hj4 false _ _ ⟨K.pick [1,2,7,8,9,10,11,12,14,15,16,17,18,19,68], M.pick [0,1,2,3] (by decide)⟩ h
        · clear h; rintro kk_darkslidelaw_TurnTurns_j2 hj2 h
          unfold D_darkslidelaw_TurnTurns_j2 at h
          refine X_cond K rfl (fun hb => ?_) (fun hb => ?_)
          · have h := ctrue hb h
            refine wp_seq ?_
            refine X_reg ?_
            refine X_rd K (want_no rfl) rfl rfl (rd_assign rfl K rfl) M ?_; clear K; intro a K
            refine wpList_nil ?_
            refine then_n ?_
            refine wp_seq ?_
            refine X_reg ?_
            refine X_rd K (want_no rfl) rfl rfl (rd_assign rfl K rfl) M ?_; clear K; intro a K
            refine wpList_nil ?_
            refine then_n ?_
            refine wp_block ?_
            refine X_lp (id := 0) (Rel := fun (⟨i7, i8⟩ : Int × Int) a w => Kn a 103 [(1, .int .i64 o), (2, .int .i64 p2), (7, .pointer (some ⟨g_x2, 0, none⟩)), (8, .int .i64 r2.2.2.2), (9, .int .i64 r3.1), (10, .int .i64 r3.2), (11, .int .i64 r4.1), (12, .int .i64 r4.2), (13, .bool i2), (14, .int .i64 0), (15, .int .i64 0), (16, .int .i64 3), (17, .pointer (some ⟨g_x3, 0, none⟩)), (18, .int .i64 i7), (19, .int .i64 0), (20, .int .i64 i8)] ∧ Mem w0.heap.size w0 w [.row 73 3 A2 r6.2.2.length c2 (cIII.all r6.2.2), .blk g_x3 49 [.int .i64 r6.1, .int .i64 r6.2.1, .slice A2 r6.2.2.length c2], .blk g_x2 49 [.int .i64 r2.1, .int .i64 r2.2.1, .slice A r2.2.2.1.length c], .row 73 3 A r2.2.2.1.length c (cIII.all r2.2.2.1)]) h (fun _ _ => rfl) ⟨K.pick [1,2,7,8,9,10,11,12,13,14,15,16,17,18,19,20], M.pick [0,1,2,3] (by decide)⟩ ?_ ?_
            · clear K M h
              rintro ⟨i13, i14⟩ a w ⟨K, M⟩ h
              try dsimp only at h
              refine inb_e ?_
              exact hj2 (0, i13) _ _ ⟨K.pick [1,2,7,8,9,10,11,12,13,14,15,16,17,18,19], M.pick [0,1,2,3] (by decide)⟩ h
            · clear K M h
              rintro kk fuel ⟨i7, i8⟩ a w hk1 ⟨K, M⟩ h
              unfold D_darkslidelaw_TurnTurns_l1 at h
              refine wp_seq ?_
              refine wp_seq ?_
              refine X_reg ?_
              refine X_rd K (want_no rfl) rfl rfl (rd_move rfl K rfl) M ?_; clear K; intro a K
              refine X_rd K (want_no rfl) rfl rfl (rd_leq rfl K rfl rfl) M ?_; clear K; intro a K
              refine wpList_nil ?_
              refine then_n ?_
              refine X_cond K rfl (fun hb => ?_) (fun hb => ?_)
              · have h := ctrue hb h
                refine wp_skip ?_
                refine then_n ?_
                refine wp_seq ?_
                refine wp_block ?_
                refine wp_seq ?_
                refine X_reg ?_
                refine X_rd K (want_no rfl) rfl rfl (rd_move rfl K rfl) M ?_; clear K; intro a K
                refine X_rd K (want_no rfl) rfl rfl (rd_move rfl K rfl) M ?_; clear K; intro a K
                obtain ⟨r8, h_r8, h⟩ := obind h
                refine X_ac K (want_no rfl) rfl rfl (ac_call (vs := [.int .i64 o, .int .i64 i8]) (cap := []) rfl fok37 K rfl rfl (W_darkslideref_One N o i8 _  r8 h_r8)) ?_
                have M0 := M; clear K M; rintro _ a w ⟨rfl, M⟩ K
                have M := M0.call M
                clear M0
                refine X_rd K (want_no rfl) rfl rfl (rd_eql rfl K rfl rfl) M ?_; clear K; intro a K
                refine wpList_nil ?_
                refine then_n ?_
                refine X_join (Rel := fun (i11 : Int) a w => Kn a 103 [(1, .int .i64 o), (2, .int .i64 p2), (7, .pointer (some ⟨g_x2, 0, none⟩)), (8, .int .i64 r2.2.2.2), (9, .int .i64 r3.1), (10, .int .i64 r3.2), (11, .int .i64 r4.1), (12, .int .i64 r4.2), (13, .bool i2), (14, .int .i64 0), (15, .int .i64 0), (16, .int .i64 3), (17, .pointer (some ⟨g_x3, 0, none⟩)), (18, .int .i64 i11), (19, .int .i64 0), (20, .int .i64 i8)] ∧ Mem w0.heap.size w0 w [.row 73 3 A2 r6.2.2.length c2 (cIII.all r6.2.2), .blk g_x3 49 [.int .i64 r6.1, .int .i64 r6.2.1, .slice A2 r6.2.2.length c2], .blk g_x2 49 [.int .i64 r2.1, .int .i64 r2.2.1, .slice A r2.2.2.1.length c], .row 73 3 A r2.2.2.1.length c (cIII.all r2.2.2.1)]) h ?_ ?_
                · clear K M h
                  rintro i12 a w ⟨K, M⟩ h
                  try dsimp only at h
                  refine inb_n ?_
                  refine then_n ?_
                  refine X_reg ?_
                  refine X_rd K (want_no rfl) rfl rfl (rd_move rfl K rfl) M ?_; clear K; intro a K
                  refine X_rd K (want_no rfl) rfl rfl (rd_add rfl K rfl rfl) M ?_; clear K; intro a K
                  obtain ⟨x3, hx, h⟩ := olet h
                  refine X_rd K (want_no rfl) rfl rfl (rdi hx (rd_assign rfl K rfl)) M ?_; clear K; intro a K
                  refine wpList_nil ?_
                  exact then_n ⟨(i12, x3), ⟨K.pick [1,2,7,8,9,10,11,12,13,14,15,16,17,18,19,20], M.pick [0,1,2,3] (by decide)⟩, h⟩
                · clear h; rintro kk_darkslidelaw_TurnTurns_j3 hj3 h
                  unfold D_darkslidelaw_TurnTurns_j3 at h
                  refine X_cond K rfl (fun hb => ?_) (fun hb => ?_)
                  · have h := ctrue hb h
                    refine X_reg ?_
                    refine X_rd K (want_no rfl) rfl rfl (rd_move rfl K rfl) M ?_; clear K; intro a K
                    refine X_rd K (want_no rfl) rfl rfl (rd_assign rfl K rfl) M ?_; clear K; intro a K
                    refine wpList_nil ?_
                    exact hj3 i8 _ _ ⟨K.pick [1,2,7,8,9,10,11,12,13,14,15,16,17,18,19,20], M.pick [0,1,2,3] (by decide)⟩ h
                  · have h := cfalse hb h
                    refine wp_skip ?_
                    exact hj3 i7 _ _ ⟨K.pick [1,2,7,8,9,10,11,12,13,14,15,16,17,18,19,20], M.pick [0,1,2,3] (by decide)⟩ h
              · have h := cfalse hb h
                refine wp_exit ?_
                refine then_e ?_
                exact then_e (hk1 (i7, i8) _ _ ⟨K.pick [1,2,7,8,9,10,11,12,13,14,15,16,17,18,19,20], M.pick [0,1,2,3] (by decide)⟩ h)
          · have h := cfalse hb h
            refine wp_skip ?_
            exact hj2 (3, 0) _ _ ⟨K.pick [1,2,7,8,9,10,11,12,13,14,15,16,17,18,19], M.pick [0,1,2,3] (by decide)⟩ h
      · have h := cfalse hb h
        refine wp_skip ?_
        refine then_n ?_
        refine wp_seq ?_
        refine X_reg ?_
        refine X_rd K (want_no rfl) rfl rfl (rd_assign rfl K rfl) M ?_; clear K; intro a K
        refine X_rd K (want_no rfl) rfl rfl (rd_assign rfl K rfl) M ?_; clear K; intro a K
        refine wpList_nil ?_
        refine then_n ?_
        refine wp_seq ?_
        refine wp_seq ?_
        refine X_reg ?_
        refine X_rd K (want_no rfl) rfl rfl (rd_move rfl K rfl) M ?_; clear K; intro a K
        refine wpList_nil ?_
        refine then_n ?_
        refine X_join (Rel := fun (⟨i23, i24⟩ : Int × Int) a w => Kn a 103 [(1, .int .i64 o), (2, .int .i64 p2), (7, .pointer (some ⟨g_x2, 0, none⟩)), (8, .int .i64 r2.2.2.2), (9, .int .i64 r3.1), (10, .int .i64 r3.2), (11, .int .i64 r4.1), (12, .int .i64 r4.2), (13, .bool i2), (14, .int .i64 3), (15, .int .i64 i23), (16, .int .i64 3), (17, .pointer (some ⟨g_x3, 0, none⟩)), (18, .int .i64 i24), (19, .int .i64 0)] ∧ Mem w0.heap.size w0 w [.blk g_x3 49 [.int .i64 0, .int .i64 0, .slice none (([] : List (Int × Int × Int))).length 0], .blk g_x2 49 [.int .i64 r2.1, .int .i64 r2.2.1, .slice A r2.2.2.1.length c], .row 73 3 A r2.2.2.1.length c (cIII.all r2.2.2.1)]) h ?_ ?_
        · clear K M h
          rintro ⟨i25, i26⟩ a w ⟨K, M⟩ h
          try dsimp only at h
          refine then_n ?_
          refine wp_seq ?_
          refine wp_seq ?_
          refine X_join (Rel := fun (i35 : Bool) a w => Kn a 103 [(1, .int .i64 o), (2, .int .i64 p2), (7, .pointer (some ⟨g_x2, 0, none⟩)), (8, .int .i64 r2.2.2.2), (9, .int .i64 r3.1), (10, .int .i64 r3.2), (11, .int .i64 r4.1), (12, .int .i64 r4.2), (14, .int .i64 3), (15, .int .i64 i25), (16, .int .i64 3), (17, .pointer (some ⟨g_x3, 0, none⟩)), (18, .int .i64 i26), (19, .int .i64 0), (68, .bool i35)] ∧ Mem w0.heap.size w0 w [.blk g_x3 49 [.int .i64 0, .int .i64 0, .slice none (([] : List (Int × Int × Int))).length 0], .blk g_x2 49 [.int .i64 r2.1, .int .i64 r2.2.1, .slice A r2.2.2.1.length c], .row 73 3 A r2.2.2.1.length c (cIII.all r2.2.2.1)]) h ?_ ?_
          · clear K M h
            rintro i36 a w ⟨K, M⟩ h
            try dsimp only at h
            refine then_n ?_
            refine X_join (Rel := fun (⟨i37, i38⟩ : Int × Int) a w => Kn a 103 [(7, .pointer (some ⟨g_x2, 0, none⟩)), (8, .int .i64 r2.2.2.2), (9, .int .i64 r3.1), (10, .int .i64 r3.2), (11, .int .i64 r4.1), (12, .int .i64 r4.2), (14, .int .i64 3), (15, .int .i64 i25), (16, .int .i64 i37), (17, .pointer (some ⟨g_x3, 0, none⟩)), (18, .int .i64 i26), (19, .int .i64 i38)] ∧ Mem w0.heap.size w0 w [.blk g_x3 49 [.int .i64 0, .int .i64 0, .slice none (([] : List (Int × Int × Int))).length 0], .blk g_x2 49 [.int .i64 r2.1, .int .i64 r2.2.1, .slice A r2.2.2.1.length c], .row 73 3 A r2.2.2.1.length c (cIII.all r2.2.2.1)]) h ?_ ?_
            · clear K M h
              rintro ⟨i39, i40⟩ a w ⟨K, M⟩ h
              try dsimp only at h
              refine then_n ?_
              refine wp_seq ?_
              refine X_join (Rel := fun (i41 : Bool) a w => Kn a 103 [(6, .bool i41)] ∧ Mem w0.heap.size w0 w [.blk g_x3 49 [.int .i64 0, .int .i64 0, .slice none (([] : List (Int × Int × Int))).length 0], .blk g_x2 49 [.int .i64 r2.1, .int .i64 r2.2.1, .slice A r2.2.2.1.length c], .row 73 3 A r2.2.2.1.length c (cIII.all r2.2.2.1)]) h ?_ ?_
              · clear K M h
                rintro i42 a w ⟨K, M⟩ h
                try dsimp only at h
                refine then_n ?_
                refine wp_ret ?_
                cases h
                exact ret1 K rfl (res_tmp K rfl) ⟨_, rfl, rfl, ((M).pick [] (by decide))⟩
              · clear h; rintro kk_darkslidelaw_TurnTurns_j11 hj11 h
                unfold D_darkslidelaw_TurnTurns_j11 at h
                refine X_reg ?_
                obtain ⟨r15, h_r15, h⟩ := obind h
                refine X_ac K (want_no rfl) rfl rfl (ac_call (vs := []) (cap := []) rfl fok30 K rfl rfl (W_darkslidelaw_turnBegun N  _  r15 h_r15)) ?_
                have M0 := M; clear K M; rintro _ a w ⟨rfl, M⟩ K
                have M := M0.call M
                clear M0
                refine X_rd K (want_no rfl) rfl rfl (rd_move rfl K rfl) M ?_; clear K; intro a K
                rcases Bool.eq_false_or_eq_true (r15) with hb | hb
                · have h := ctrue hb h
                  have K := K.reb (s := 73) rfl hb
                  refine X_rd K (K.yes rfl rfl rfl) rfl rfl (rd_move rfl K rfl) M ?_; clear K; intro a K
                  refine X_rd K (K.yes rfl rfl rfl) rfl rfl (rd_move rfl K rfl) M ?_; clear K; intro a K
                  refine X_rd K (K.yes rfl rfl rfl) rfl rfl (rd_eql rfl K rfl rfl) M ?_; clear K; intro a K
                  refine X_rd K (want_no rfl) rfl rfl (rd_pickT rfl K rfl rfl) M ?_; clear K; intro a K
                  refine X_rd K (want_no rfl) rfl rfl (rd_move rfl K rfl) M ?_; clear K; intro a K
                  rcases Bool.eq_false_or_eq_true (decide (r2.2.2.2 = 3)) with hb | hb
                  · have h := ctrue hb h
                    have K := K.reb (s := 78) rfl hb
                    refine X_rd K (K.yes rfl rfl rfl) rfl rfl (rd_move rfl K rfl) M ?_; clear K; intro a K
                    refine X_rd K (K.yes rfl rfl rfl) rfl rfl (rd_move rfl K rfl) M ?_; clear K; intro a K
                    refine X_rd K (K.yes rfl rfl rfl) rfl rfl (rd_eql rfl K rfl rfl) M ?_; clear K; intro a K
                    refine X_rd K (want_no rfl) rfl rfl (rd_pickT rfl K rfl rfl) M ?_; clear K; intro a K
                    refine X_rd K (want_no rfl) rfl rfl (rd_move rfl K rfl) M ?_; clear K; intro a K
                    rcases Bool.eq_false_or_eq_true (decide (r3.2 = i25)) with hb | hb
                    · have h := ctrue hb h
                      have K := K.reb (s := 83) rfl hb
                      refine X_rd K (K.yes rfl rfl rfl) rfl rfl (rd_move rfl K rfl) M ?_; clear K; intro a K
                      refine X_rd K (K.yes rfl rfl rfl) rfl rfl (rd_move rfl K rfl) M ?_; clear K; intro a K
                      refine X_rd K (K.yes rfl rfl rfl) rfl rfl (rd_eql rfl K rfl rfl) M ?_; clear K; intro a K
                      refine X_rd K (want_no rfl) rfl rfl (rd_pickT rfl K rfl rfl) M ?_; clear K; intro a K
                      refine X_rd K (want_no rfl) rfl rfl (rd_move rfl K rfl) M ?_; clear K; intro a K
                      rcases Bool.eq_false_or_eq_true (decide (r4.2 = i39)) with hb | hb
                      · have h := ctrue hb h
                        have K := K.reb (s := 88) rfl hb
                        refine X_rd K (K.yes rfl rfl rfl) rfl rfl (rd_ldA rfl ty49 K rfl (inM 1 rfl) rfl rfl) M ?_; clear K; intro a K
                        refine X_rd K (K.yes rfl rfl rfl) rfl rfl (rd_ldA rfl ty49 K rfl (inM 0 rfl) rfl rfl) M ?_; clear K; intro a K
                        obtain ⟨r16, h_r16, h⟩ := obind h
                        refine X_ac K (K.yes rfl rfl rfl) rfl rfl (ac_call (vs := [.agg #[.int .i64 r2.1, .int .i64 r2.2.1, .slice A r2.2.2.1.length c], .agg #[.int .i64 0, .int .i64 0, .slice none (([] : List (Int × Int × Int))).length 0]]) (cap := []) rfl fok31 K rfl rfl (W_darkslideref_SamePictures N r2.1 r2.2.1 r2.2.2.1 A c 0 0 (([] : List (Int × Int × Int))) none 0 _ ((inR (C := cIII) 2 rfl rfl) _ M) (M.cap 2 rfl) ((fun _ _ => SL.nil) _ M) (Nat.le_refl _) r16 h_r16)) ?_
                        have M0 := M; clear K M; rintro _ a w ⟨rfl, M⟩ K
                        have M := M0.call M
                        clear M0
                        refine X_rd K (want_no rfl) rfl rfl (rd_pickT rfl K rfl rfl) M ?_; clear K; intro a K
                        refine X_rd K (want_no rfl) rfl rfl (rd_move rfl K rfl) M ?_; clear K; intro a K
                        rcases Bool.eq_false_or_eq_true (r16) with hb | hb
                        · have h := ctrue hb h
                          have K := K.reb (s := 93) rfl hb
                          refine X_rd K (K.yes rfl rfl rfl) rfl rfl (rd_move rfl K rfl) M ?_; clear K; intro a K
                          refine X_rd K (K.yes rfl rfl rfl) rfl rfl (rd_move rfl K rfl) M ?_; clear K; intro a K
                          refine X_rd K (K.yes rfl rfl rfl) rfl rfl (rd_eql rfl K rfl rfl) M ?_; clear K; intro a K
                          refine X_rd K (want_no rfl) rfl rfl (rd_pickT rfl K rfl rfl) M ?_; clear K; intro a K
                          refine X_rd K (want_no rfl) rfl rfl (rd_move rfl K rfl) M ?_; clear K; intro a K
                          rcases Bool.eq_false_or_eq_true (decide (r3.1 = i26)) with hb | hb
                          · have h := ctrue hb h
                            have K := K.reb (s := 98) rfl hb
                            refine X_rd K (K.yes rfl rfl rfl) rfl rfl (rd_move rfl K rfl) M ?_; clear K; intro a K
                            refine X_rd K (K.yes rfl rfl rfl) rfl rfl (rd_move rfl K rfl) M ?_; clear K; intro a K
                            refine X_rd K (K.yes rfl rfl rfl) rfl rfl (rd_eql rfl K rfl rfl) M ?_; clear K; intro a K
                            refine X_rd K (want_no rfl) rfl rfl (rd_pickT rfl K rfl rfl) M ?_; clear K; intro a K
                            refine X_rd K (want_no rfl) rfl rfl (rd_assign rfl K rfl) M ?_; clear K; intro a K
                            refine wpList_nil ?_
                            exact hj11 (decide (r4.1 = i40)) _ _ ⟨K.pick [6], M.pick [0,1,2] (by decide)⟩ h
                          · have h := cfalse hb h
                            have K := K.reb (s := 98) rfl hb
                            refine X_no K (K.no rfl rfl rfl rfl) rfl rfl ?_; clear K; intro a K
                            refine X_no K (K.no rfl rfl rfl rfl) rfl rfl ?_; clear K; intro a K
                            refine X_no K (K.no rfl rfl rfl rfl) rfl rfl ?_; clear K; intro a K
                            refine X_rd K (want_no rfl) rfl rfl (rd_pickF rfl K rfl rfl) M ?_; clear K; intro a K
                            refine X_rd K (want_no rfl) rfl rfl (rd_assign rfl K rfl) M ?_; clear K; intro a K
                            refine wpList_nil ?_
                            exact hj11 false _ _ ⟨K.pick [6], M.pick [0,1,2] (by decide)⟩ h
                        · have h := cfalse hb h
                          have K := K.reb (s := 93) rfl hb
                          refine X_no K (K.no rfl rfl rfl rfl) rfl rfl ?_; clear K; intro a K
                          refine X_no K (K.no rfl rfl rfl rfl) rfl rfl ?_; clear K; intro a K
                          refine X_no K (K.no rfl rfl rfl rfl) rfl rfl ?_; clear K; intro a K
                          refine X_rd K (want_no rfl) rfl rfl (rd_pickF rfl K rfl rfl) M ?_; clear K; intro a K
                          refine X_rd K (want_no rfl) rfl rfl (rd_move rfl K rfl) M ?_; clear K; intro a K
                          refine X_no K (K.no rfl rfl rfl rfl) rfl rfl ?_; clear K; intro a K
                          refine X_no K (K.no rfl rfl rfl rfl) rfl rfl ?_; clear K; intro a K
                          refine X_no K (K.no rfl rfl rfl rfl) rfl rfl ?_; clear K; intro a K
                          refine X_rd K (want_no rfl) rfl rfl (rd_pickF rfl K rfl rfl) M ?_; clear K; intro a K
                          refine X_rd K (want_no rfl) rfl rfl (rd_assign rfl K rfl) M ?_; clear K; intro a K
                          refine wpList_nil ?_
                          exact hj11 false _ _ ⟨K.pick [6], M.pick [0,1,2] (by decide)⟩ h
                      · have h := cfalse hb h
                        have K := K.reb (s := 88) rfl hb
                        refine X_no K (K.no rfl rfl rfl rfl) rfl rfl ?_; clear K; intro a K
                        refine X_no K (K.no rfl rfl rfl rfl) rfl rfl ?_; clear K; intro a K
                        refine X_no K (K.no rfl rfl rfl rfl) rfl rfl ?_; clear K; intro a K
                        refine X_rd K (want_no rfl) rfl rfl (rd_pickF rfl K rfl rfl) M ?_; clear K; intro a K
                        refine X_rd K (want_no rfl) rfl rfl (rd_move rfl K rfl) M ?_; clear K; intro a K
                        refine X_no K (K.no rfl rfl rfl rfl) rfl rfl ?_; clear K; intro a K
                        refine X_no K (K.no rfl rfl rfl rfl) rfl rfl ?_; clear K; intro a K
                        refine X_no K (K.no rfl rfl rfl rfl) rfl rfl ?_; clear K; intro a K
                        refine X_rd K (want_no rfl) rfl rfl (rd_pickF rfl K rfl rfl) M ?_; clear K; intro a K
                        refine X_rd K (want_no rfl) rfl rfl (rd_move rfl K rfl) M ?_; clear K; intro a K
                        refine X_no K (K.no rfl rfl rfl rfl) rfl rfl ?_; clear K; intro a K
                        refine X_no K (K.no rfl rfl rfl rfl) rfl rfl ?_; clear K; intro a K
                        refine X_no K (K.no rfl rfl rfl rfl) rfl rfl ?_; clear K; intro a K
                        refine X_rd K (want_no rfl) rfl rfl (rd_pickF rfl K rfl rfl) M ?_; clear K; intro a K
                        refine X_rd K (want_no rfl) rfl rfl (rd_assign rfl K rfl) M ?_; clear K; intro a K
                        refine wpList_nil ?_
                        exact hj11 false _ _ ⟨K.pick [6], M.pick [0,1,2] (by decide)⟩ h
                    · have h := cfalse hb h
                      have K := K.reb (s := 83) rfl hb
                      refine X_no K (K.no rfl rfl rfl rfl) rfl rfl ?_; clear K; intro a K
                      refine X_no K (K.no rfl rfl rfl rfl) rfl rfl ?_; clear K; intro a K
                      refine X_no K (K.no rfl rfl rfl rfl) rfl rfl ?_; clear K; intro a K
                      refine X_rd K (want_no rfl) rfl rfl (rd_pickF rfl K rfl rfl) M ?_; clear K; intro a K
                      refine X_rd K (want_no rfl) rfl rfl (rd_move rfl K rfl) M ?_; clear K; intro a K
                      refine X_no K (K.no rfl rfl rfl rfl) rfl rfl ?_; clear K; intro a K
                      refine X_no K (K.no rfl rfl rfl rfl) rfl rfl ?_; clear K; intro a K
                      refine X_no K (K.no rfl rfl rfl rfl) rfl rfl ?_; clear K; intro a K
                      refine X_rd K (want_no rfl) rfl rfl (rd_pickF rfl K rfl rfl) M ?_; clear K; intro a K
                      refine X_rd K (want_no rfl) rfl rfl (rd_move rfl K rfl) M ?_; clear K; intro a K
                      refine X_no K (K.no rfl rfl rfl rfl) rfl rfl ?_; clear K; intro a K
                      refine X_no K (K.no rfl rfl rfl rfl) rfl rfl ?_; clear K; intro a K
                      refine X_no K (K.no rfl rfl rfl rfl) rfl rfl ?_; clear K; intro a K
                      refine X_rd K (want_no rfl) rfl rfl (rd_pickF rfl K rfl rfl) M ?_; clear K; intro a K
                      refine X_rd K (want_no rfl) rfl rfl (rd_move rfl K rfl) M ?_; clear K; intro a K
                      refine X_no K (K.no rfl rfl rfl rfl) rfl rfl ?_; clear K; intro a K
                      refine X_no K (K.no rfl rfl rfl rfl) rfl rfl ?_; clear K; intro a K
                      refine X_no K (K.no rfl rfl rfl rfl) rfl rfl ?_; clear K; intro a K
                      refine X_rd K (want_no rfl) rfl rfl (rd_pickF rfl K rfl rfl) M ?_; clear K; intro a K
                      refine X_rd K (want_no rfl) rfl rfl (rd_assign rfl K rfl) M ?_; clear K; intro a K
                      refine wpList_nil ?_
                      exact hj11 false _ _ ⟨K.pick [6], M.pick [0,1,2] (by decide)⟩ h
                  · have h := cfalse hb h
                    have K := K.reb (s := 78) rfl hb
                    refine X_no K (K.no rfl rfl rfl rfl) rfl rfl ?_; clear K; intro a K
                    refine X_no K (K.no rfl rfl rfl rfl) rfl rfl ?_; clear K; intro a K
                    refine X_no K (K.no rfl rfl rfl rfl) rfl rfl ?_; clear K; intro a K
                    refine X_rd K (want_no rfl) rfl rfl (rd_pickF rfl K rfl rfl) M ?_; clear K; intro a K
                    refine X_rd K (want_no rfl) rfl rfl (rd_move rfl K rfl) M ?_; clear K; intro a K
                    refine X_no K (K.no rfl rfl rfl rfl) rfl rfl ?_; clear K; intro a K
                    refine X_no K (K.no rfl rfl rfl rfl) rfl rfl ?_; clear K; intro a K
                    refine X_no K (K.no rfl rfl rfl rfl) rfl rfl ?_; clear K; intro a K
                    refine X_rd K (want_no rfl) rfl rfl (rd_pickF rfl K rfl rfl) M ?_; clear K; intro a K
                    refine X_rd K (want_no rfl) rfl rfl (rd_move rfl K rfl) M ?_; clear K; intro a K
                    refine X_no K (K.no rfl rfl rfl rfl) rfl rfl ?_; clear K; intro a K
                    refine X_no K (K.no rfl rfl rfl rfl) rfl rfl ?_; clear K; intro a K
                    refine X_no K (K.no rfl rfl rfl rfl) rfl rfl ?_; clear K; intro a K
                    refine X_rd K (want_no rfl) rfl rfl (rd_pickF rfl K rfl rfl) M ?_; clear K; intro a K
                    refine X_rd K (want_no rfl) rfl rfl (rd_move rfl K rfl) M ?_; clear K; intro a K
                    refine X_no K (K.no rfl rfl rfl rfl) rfl rfl ?_; clear K; intro a K
                    refine X_no K (K.no rfl rfl rfl rfl) rfl rfl ?_; clear K; intro a K
                    refine X_no K (K.no rfl rfl rfl rfl) rfl rfl ?_; clear K; intro a K
                    refine X_rd K (want_no rfl) rfl rfl (rd_pickF rfl K rfl rfl) M ?_; clear K; intro a K
                    refine X_rd K (want_no rfl) rfl rfl (rd_move rfl K rfl) M ?_; clear K; intro a K
                    refine X_no K (K.no rfl rfl rfl rfl) rfl rfl ?_; clear K; intro a K
                    refine X_no K (K.no rfl rfl rfl rfl) rfl rfl ?_; clear K; intro a K
                    refine X_no K (K.no rfl rfl rfl rfl) rfl rfl ?_; clear K; intro a K
                    refine X_rd K (want_no rfl) rfl rfl (rd_pickF rfl K rfl rfl) M ?_; clear K; intro a K
                    refine X_rd K (want_no rfl) rfl rfl (rd_assign rfl K rfl) M ?_; clear K; intro a K
                    refine wpList_nil ?_
                    exact hj11 false _ _ ⟨K.pick [6], M.pick [0,1,2] (by decide)⟩ h
                · have h := cfalse hb h
                  have K := K.reb (s := 73) rfl hb
                  refine X_no K (K.no rfl rfl rfl rfl) rfl rfl ?_; clear K; intro a K
                  refine X_no K (K.no rfl rfl rfl rfl) rfl rfl ?_; clear K; intro a K
                  refine X_no K (K.no rfl rfl rfl rfl) rfl rfl ?_; clear K; intro a K
                  refine X_rd K (want_no rfl) rfl rfl (rd_pickF rfl K rfl rfl) M ?_; clear K; intro a K
                  refine X_rd K (want_no rfl) rfl rfl (rd_move rfl K rfl) M ?_; clear K; intro a K
                  refine X_no K (K.no rfl rfl rfl rfl) rfl rfl ?_; clear K; intro a K
                  refine X_no K (K.no rfl rfl rfl rfl) rfl rfl ?_; clear K; intro a K
                  refine X_no K (K.no rfl rfl rfl rfl) rfl rfl ?_; clear K; intro a K
                  refine X_rd K (want_no rfl) rfl rfl (rd_pickF rfl K rfl rfl) M ?_; clear K; intro a K
                  refine X_rd K (want_no rfl) rfl rfl (rd_move rfl K rfl) M ?_; clear K; intro a K
                  refine X_no K (K.no rfl rfl rfl rfl) rfl rfl ?_; clear K; intro a K
                  refine X_no K (K.no rfl rfl rfl rfl) rfl rfl ?_; clear K; intro a K
                  refine X_no K (K.no rfl rfl rfl rfl) rfl rfl ?_; clear K; intro a K
                  refine X_rd K (want_no rfl) rfl rfl (rd_pickF rfl K rfl rfl) M ?_; clear K; intro a K
                  refine X_rd K (want_no rfl) rfl rfl (rd_move rfl K rfl) M ?_; clear K; intro a K
                  refine X_no K (K.no rfl rfl rfl rfl) rfl rfl ?_; clear K; intro a K
                  refine X_no K (K.no rfl rfl rfl rfl) rfl rfl ?_; clear K; intro a K
                  refine X_no K (K.no rfl rfl rfl rfl) rfl rfl ?_; clear K; intro a K
                  refine X_rd K (want_no rfl) rfl rfl (rd_pickF rfl K rfl rfl) M ?_; clear K; intro a K
                  refine X_rd K (want_no rfl) rfl rfl (rd_move rfl K rfl) M ?_; clear K; intro a K
                  refine X_no K (K.no rfl rfl rfl rfl) rfl rfl ?_; clear K; intro a K
                  refine X_no K (K.no rfl rfl rfl rfl) rfl rfl ?_; clear K; intro a K
                  refine X_no K (K.no rfl rfl rfl rfl) rfl rfl ?_; clear K; intro a K
                  refine X_rd K (want_no rfl) rfl rfl (rd_pickF rfl K rfl rfl) M ?_; clear K; intro a K
                  refine X_rd K (want_no rfl) rfl rfl (rd_move rfl K rfl) M ?_; clear K; intro a K
                  refine X_no K (K.no rfl rfl rfl rfl) rfl rfl ?_; clear K; intro a K
                  refine X_no K (K.no rfl rfl rfl rfl) rfl rfl ?_; clear K; intro a K
                  refine X_no K (K.no rfl rfl rfl rfl) rfl rfl ?_; clear K; intro a K
                  refine X_rd K (want_no rfl) rfl rfl (rd_pickF rfl K rfl rfl) M ?_; clear K; intro a K
                  refine X_rd K (want_no rfl) rfl rfl (rd_assign rfl K rfl) M ?_; clear K; intro a K
                  refine wpList_nil ?_
                  exact hj11 false _ _ ⟨K.pick [6], M.pick [0,1,2] (by decide)⟩ h
            · clear h; rintro kk_darkslidelaw_TurnTurns_j10 hj10 h
              unfold D_darkslidelaw_TurnTurns_j10 at h
              refine X_cond K rfl (fun hb => ?_) (fun hb => ?_)
              · have h := ctrue hb h
                refine X_reg ?_
                refine X_rd K (want_no rfl) rfl rfl (rd_move rfl K rfl) M ?_; clear K; intro a K
                refine X_rd K (want_no rfl) rfl rfl (rd_move rfl K rfl) M ?_; clear K; intro a K
                obtain ⟨r14, h_r14, h⟩ := obind h
                refine X_ac K (want_no rfl) rfl rfl (ac_call (vs := [.int .i64 o, .int .i64 p2]) (cap := []) rfl fok37 K rfl rfl (W_darkslideref_One N o p2 _  r14 h_r14)) ?_
                have M0 := M; clear K M; rintro _ a w ⟨rfl, M⟩ K
                have M := M0.call M
                clear M0
                refine X_rd K (want_no rfl) rfl rfl (rd_assign rfl K rfl) M ?_; clear K; intro a K
                refine X_rd K (want_no rfl) rfl rfl (rd_assign rfl K rfl) M ?_; clear K; intro a K
                refine wpList_nil ?_
                exact hj10 (0, r14) _ _ ⟨K.pick [7,8,9,10,11,12,14,15,16,17,18,19], M.pick [0,1,2] (by decide)⟩ h
              · have h := cfalse hb h
                refine wp_skip ?_
                exact hj10 (3, 0) _ _ ⟨K.pick [7,8,9,10,11,12,14,15,16,17,18,19], M.pick [0,1,2] (by decide)⟩ h
          · clear h; rintro kk_darkslidelaw_TurnTurns_j9 hj9 h
            unfold D_darkslidelaw_TurnTurns_j9 at h
            refine X_reg ?_
            refine X_rd K (want_no rfl) rfl rfl (rd_move rfl K rfl) M ?_; clear K; intro a K
            refine X_rd K (want_no rfl) rfl rfl (rd_move rfl K rfl) M ?_; clear K; intro a K
            rcases Bool.eq_false_or_eq_true (i2) with hb | hb
            · have h := ctrue hb h
              have K := K.reb (s := 61) rfl hb
              refine X_rd K (K.yes rfl rfl rfl) rfl rfl (rd_move rfl K rfl) M ?_; clear K; intro a K
              refine X_rd K (K.yes rfl rfl rfl) rfl rfl (rd_geq rfl K rfl rfl) M ?_; clear K; intro a K
              refine X_rd K (want_no rfl) rfl rfl (rd_pickT rfl K rfl rfl) M ?_; clear K; intro a K
              refine X_rd K (want_no rfl) rfl rfl (rd_move rfl K rfl) M ?_; clear K; intro a K
              rcases Bool.eq_false_or_eq_true (decide (1 ≤ p2)) with hb | hb
              · have h := ctrue hb h
                have K := K.reb (s := 65) rfl hb
                refine X_rd K (K.yes rfl rfl rfl) rfl rfl (rd_move rfl K rfl) M ?_; clear K; intro a K
                refine X_rd K (K.yes rfl rfl rfl) rfl rfl (rd_leq rfl K rfl rfl) M ?_; clear K; intro a K
                refine X_rd K (want_no rfl) rfl rfl (rd_pickT rfl K rfl rfl) M ?_; clear K; intro a K
                refine wpList_nil ?_
                exact hj9 (decide (p2 ≤ 8)) _ _ ⟨K.pick [1,2,7,8,9,10,11,12,14,15,16,17,18,19,68], M.pick [0,1,2] (by decide)⟩ h
              · have h := cfalse hb h
                have K := K.reb (s := 65) rfl hb
                refine X_no K (K.no rfl rfl rfl rfl) rfl rfl ?_; clear K; intro a K
                refine X_no K (K.no rfl rfl rfl rfl) rfl rfl ?_; clear K; intro a K
                refine X_rd K (want_no rfl) rfl rfl (rd_pickF rfl K rfl rfl) M ?_; clear K; intro a K
                refine wpList_nil ?_
                exact hj9 false _ _ ⟨K.pick [1,2,7,8,9,10,11,12,14,15,16,17,18,19,68], M.pick [0,1,2] (by decide)⟩ h
            · have h := cfalse hb h
              have K := K.reb (s := 61) rfl hb
              refine X_no K (K.no rfl rfl rfl rfl) rfl rfl ?_; clear K; intro a K
              refine X_no K (K.no rfl rfl rfl rfl) rfl rfl ?_; clear K; intro a K
              refine X_rd K (want_no rfl) rfl rfl (rd_pickF rfl K rfl rfl) M ?_; clear K; intro a K
              refine X_rd K (want_no rfl) rfl rfl (rd_move rfl K rfl) M ?_; clear K; intro a K
              refine X_no K (K.no rfl rfl rfl rfl) rfl rfl ?_; clear K; intro a K
              refine X_no K (K.no rfl rfl rfl rfl) rfl rfl ?_; clear K; intro a K
              refine X_rd K (want_no rfl) rfl rfl (rd_pickF rfl K rfl rfl) M ?_; clear K; intro a K
              refine wpList_nil ?_
              exact hj9 false _ _ ⟨K.pick [1,2,7,8,9,10,11,12,14,15,16,17,18,19,68], M.pick [0,1,2] (by decide)⟩ h
        · clear h; rintro kk_darkslidelaw_TurnTurns_j7 hj7 h
          unfold D_darkslidelaw_TurnTurns_j7 at h
          refine X_cond K rfl (fun hb => ?_) (fun hb => ?_)
          · have h := ctrue hb h
            refine wp_seq ?_
            refine X_reg ?_
            refine X_rd K (want_no rfl) rfl rfl (rd_assign rfl K rfl) M ?_; clear K; intro a K
            refine wpList_nil ?_
            refine then_n ?_
            refine wp_seq ?_
            refine X_reg ?_
            refine X_rd K (want_no rfl) rfl rfl (rd_assign rfl K rfl) M ?_; clear K; intro a K
            refine wpList_nil ?_
            refine then_n ?_
            refine wp_block ?_
            refine X_lp (id := 0) (Rel := fun (⟨i27, i28⟩ : Int × Int) a w => Kn a 103 [(1, .int .i64 o), (2, .int .i64 p2), (7, .pointer (some ⟨g_x2, 0, none⟩)), (8, .int .i64 r2.2.2.2), (9, .int .i64 r3.1), (10, .int .i64 r3.2), (11, .int .i64 r4.1), (12, .int .i64 r4.2), (13, .bool i2), (14, .int .i64 3), (15, .int .i64 0), (16, .int .i64 3), (17, .pointer (some ⟨g_x3, 0, none⟩)), (18, .int .i64 i27), (19, .int .i64 0), (20, .int .i64 i28)] ∧ Mem w0.heap.size w0 w [.blk g_x3 49 [.int .i64 0, .int .i64 0, .slice none (([] : List (Int × Int × Int))).length 0], .blk g_x2 49 [.int .i64 r2.1, .int .i64 r2.2.1, .slice A r2.2.2.1.length c], .row 73 3 A r2.2.2.1.length c (cIII.all r2.2.2.1)]) h (fun _ _ => rfl) ⟨K.pick [1,2,7,8,9,10,11,12,13,14,15,16,17,18,19,20], M.pick [0,1,2] (by decide)⟩ ?_ ?_
            · clear K M h
              rintro ⟨i33, i34⟩ a w ⟨K, M⟩ h
              try dsimp only at h
              refine inb_e ?_
              exact hj7 (0, i33) _ _ ⟨K.pick [1,2,7,8,9,10,11,12,13,14,15,16,17,18,19], M.pick [0,1,2] (by decide)⟩ h
            · clear K M h
              rintro kk fuel ⟨i27, i28⟩ a w hk2 ⟨K, M⟩ h
              unfold D_darkslidelaw_TurnTurns_l2 at h
              refine wp_seq ?_
              refine wp_seq ?_
              refine X_reg ?_
              refine X_rd K (want_no rfl) rfl rfl (rd_move rfl K rfl) M ?_; clear K; intro a K
              refine X_rd K (want_no rfl) rfl rfl (rd_leq rfl K rfl rfl) M ?_; clear K; intro a K
              refine wpList_nil ?_
              refine then_n ?_
              refine X_cond K rfl (fun hb => ?_) (fun hb => ?_)
              · have h := ctrue hb h
                refine wp_skip ?_
                refine then_n ?_
                refine wp_seq ?_
                refine wp_block ?_
                refine wp_seq ?_
                refine X_reg ?_
                refine X_rd K (want_no rfl) rfl rfl (rd_move rfl K rfl) M ?_; clear K; intro a K
                refine X_rd K (want_no rfl) rfl rfl (rd_move rfl K rfl) M ?_; clear K; intro a K
                obtain ⟨r13, h_r13, h⟩ := obind h
                refine X_ac K (want_no rfl) rfl rfl (ac_call (vs := [.int .i64 o, .int .i64 i28]) (cap := []) rfl fok37 K rfl rfl (W_darkslideref_One N o i28 _  r13 h_r13)) ?_
                have M0 := M; clear K M; rintro _ a w ⟨rfl, M⟩ K
                have M := M0.call M
                clear M0
                refine X_rd K (want_no rfl) rfl rfl (rd_eql rfl K rfl rfl) M ?_; clear K; intro a K
                refine wpList_nil ?_
                refine then_n ?_
                refine X_join (Rel := fun (i31 : Int) a w => Kn a 103 [(1, .int .i64 o), (2, .int .i64 p2), (7, .pointer (some ⟨g_x2, 0, none⟩)), (8, .int .i64 r2.2.2.2), (9, .int .i64 r3.1), (10, .int .i64 r3.2), (11, .int .i64 r4.1), (12, .int .i64 r4.2), (13, .bool i2), (14, .int .i64 3), (15, .int .i64 0), (16, .int .i64 3), (17, .pointer (some ⟨g_x3, 0, none⟩)), (18, .int .i64 i31), (19, .int .i64 0), (20, .int .i64 i28)] ∧ Mem w0.heap.size w0 w [.blk g_x3 49 [.int .i64 0, .int .i64 0, .slice none (([] : List (Int × Int × Int))).length 0], .blk g_x2 49 [.int .i64 r2.1, .int .i64 r2.2.1, .slice A r2.2.2.1.length c], .row 73 3 A r2.2.2.1.length c (cIII.all r2.2.2.1)]) h ?_ ?_
                · clear K M h
                  rintro i32 a w ⟨K, M⟩ h
                  try dsimp only at h
                  refine inb_n ?_
                  refine then_n ?_
                  refine X_reg ?_
                  refine X_rd K (want_no rfl) rfl rfl (rd_move rfl K rfl) M ?_; clear K; intro a K
                  refine X_rd K (want_no rfl) rfl rfl (rd_add rfl K rfl rfl) M ?_; clear K; intro a K
                  obtain ⟨x5, hx, h⟩ := olet h
                  refine X_rd K (want_no rfl) rfl rfl (rdi hx (rd_assign rfl K rfl)) M ?_; clear K; intro a K
                  refine wpList_nil ?_
                  exact then_n ⟨(i32, x5), ⟨K.pick [1,2,7,8,9,10,11,12,13,14,15,16,17,18,19,20], M.pick [0,1,2] (by decide)⟩, h⟩
                · clear h; rintro kk_darkslidelaw_TurnTurns_j8 hj8 h
                  unfold D_darkslidelaw_TurnTurns_j8 at h
                  refine X_cond K rfl (fun hb => ?_) (fun hb => ?_)
                  · have h := ctrue hb h
                    refine X_reg ?_
                    refine X_rd K (want_no rfl) rfl rfl (rd_move rfl K rfl) M ?_; clear K; intro a K
                    refine X_rd K (want_no rfl) rfl rfl (rd_assign rfl K rfl) M ?_; clear K; intro a K
                    refine wpList_nil ?_
                    exact hj8 i28 _ _ ⟨K.pick [1,2,7,8,9,10,11,12,13,14,15,16,17,18,19,20], M.pick [0,1,2] (by decide)⟩ h
                  · have h := cfalse hb h
                    refine wp_skip ?_
                    exact hj8 i27 _ _ ⟨K.pick [1,2,7,8,9,10,11,12,13,14,15,16,17,18,19,20], M.pick [0,1,2] (by decide)⟩ h
              · have h := cfalse hb h
                refine wp_exit ?_
                refine then_e ?_
                exact then_e (hk2 (i27, i28) _ _ ⟨K.pick [1,2,7,8,9,10,11,12,13,14,15,16,17,18,19,20], M.pick [0,1,2] (by decide)⟩ h)
          · have h := cfalse hb h
            refine wp_skip ?_
            exact hj7 (3, 0) _ _ ⟨K.pick [1,2,7,8,9,10,11,12,13,14,15,16,17,18,19], M.pick [0,1,2] (by decide)⟩ h
    · have h := cfalse hb h
      refine wp_skip ?_
      refine then_n ?_
      refine wp_seq ?_
      refine X_reg ?_
      refine X_rd K (want_no rfl) rfl rfl (rd_assign rfl K rfl) M ?_; clear K; intro a K
      refine X_rd K (want_no rfl) rfl rfl (rd_assign rfl K rfl) M ?_; clear K; intro a K
      refine wpList_nil ?_
      refine then_n ?_
      refine wp_seq ?_
      refine wp_seq ?_
      refine X_reg ?_
      refine X_rd K (want_no rfl) rfl rfl (rd_move rfl K rfl) M ?_; clear K; intro a K
      refine wpList_nil ?_
      refine then_n ?_
      refine X_join (Rel := fun (⟨i43, i44⟩ : Int × Int) a w => Kn a 103 [(1, .int .i64 o), (2, .int .i64 p2), (7, .pointer (some ⟨g_x2, 0, none⟩)), (8, .int .i64 r2.2.2.2), (9, .int .i64 r3.1), (10, .int .i64 r3.2), (11, .int .i64 r4.1), (12, .int .i64 r4.2), (13, .bool i2), (14, .int .i64 1), (15, .int .i64 i43), (16, .int .i64 3), (17, .pointer (some ⟨g_x3, 0, none⟩)), (18, .int .i64 i44), (19, .int .i64 0)] ∧ Mem w0.heap.size w0 w [.blk g_x3 49 [.int .i64 0, .int .i64 0, .slice none (([] : List (Int × Int × Int))).length 0], .blk g_x2 49 [.int .i64 r2.1, .int .i64 r2.2.1, .slice A r2.2.2.1.length c], .row 73 3 A r2.2.2.1.length c (cIII.all r2.2.2.1)]) h ?_ ?_
      · clear K M h
        rintro ⟨i45, i46⟩ a w ⟨K, M⟩ h
        try dsimp only at h
        refine then_n ?_
        refine wp_seq ?_
        refine wp_seq ?_
        refine X_join (Rel := fun (i55 : Bool) a w => Kn a 103 [(1, .int .i64 o), (2, .int .i64 p2), (7, .pointer (some ⟨g_x2, 0, none⟩)), (8, .int .i64 r2.2.2.2), (9, .int .i64 r3.1), (10, .int .i64 r3.2), (11, .int .i64 r4.1), (12, .int .i64 r4.2), (14, .int .i64 1), (15, .int .i64 i45), (16, .int .i64 3), (17, .pointer (some ⟨g_x3, 0, none⟩)), (18, .int .i64 i46), (19, .int .i64 0), (68, .bool i55)] ∧ Mem w0.heap.size w0 w [.blk g_x3 49 [.int .i64 0, .int .i64 0, .slice none (([] : List (Int × Int × Int))).length 0], .blk g_x2 49 [.int .i64 r2.1, .int .i64 r2.2.1, .slice A r2.2.2.1.length c], .row 73 3 A r2.2.2.1.length c (cIII.all r2.2.2.1)]) h ?_ ?_
        · clear K M h
          rintro i56 a w ⟨K, M⟩ h
          try dsimp only at h
          refine then_n ?_
          refine X_join (Rel := fun (⟨i57, i58⟩ : Int × Int) a w => Kn a 103 [(7, .pointer (some ⟨g_x2, 0, none⟩)), (8, .int .i64 r2.2.2.2), (9, .int .i64 r3.1), (10, .int .i64 r3.2), (11, .int .i64 r4.1), (12, .int .i64 r4.2), (14, .int .i64 1), (15, .int .i64 i45), (16, .int .i64 i57), (17, .pointer (some ⟨g_x3, 0, none⟩)), (18, .int .i64 i46), (19, .int .i64 i58)] ∧ Mem w0.heap.size w0 w [.blk g_x3 49 [.int .i64 0, .int .i64 0, .slice none (([] : List (Int × Int × Int))).length 0], .blk g_x2 49 [.int .i64 r2.1, .int .i64 r2.2.1, .slice A r2.2.2.1.length c], .row 73 3 A r2.2.2.1.length c (cIII.all r2.2.2.1)]) h ?_ ?_
          · clear K M h
            rintro ⟨i59, i60⟩ a w ⟨K, M⟩ h
            try dsimp only at h
            refine then_n ?_
            refine wp_seq ?_
            refine X_join (Rel := fun (i61 : Bool) a w => Kn a 103 [(6, .bool i61)] ∧ Mem w0.heap.size w0 w [.blk g_x3 49 [.int .i64 0, .int .i64 0, .slice none (([] : List (Int × Int × Int))).length 0], .blk g_x2 49 [.int .i64 r2.1, .int .i64 r2.2.1, .slice A r2.2.2.1.length c], .row 73 3 A r2.2.2.1.length c (cIII.all r2.2.2.1)]) h ?_ ?_
            · clear K M h
              rintro i62 a w ⟨K, M⟩ h
              try dsimp only at h
              refine then_n ?_
              refine wp_ret ?_
              cases h
              exact ret1 K rfl (res_tmp K rfl) ⟨_, rfl, rfl, ((M).pick [] (by decide))⟩
            · clear h; rintro kk_darkslidelaw_TurnTurns_j16 hj16 h
              unfold D_darkslidelaw_TurnTurns_j16 at h
              refine X_reg ?_
              obtain ⟨r20, h_r20, h⟩ := obind h
              refine X_ac K (want_no rfl) rfl rfl (ac_call (vs := []) (cap := []) rfl fok30 K rfl rfl (W_darkslidelaw_turnBegun N  _  r20 h_r20)) ?_
              have M0 := M; clear K M; rintro _ a w ⟨rfl, M⟩ K
              have M := M0.call M
              clear M0
              refine X_rd K (want_no rfl) rfl rfl (rd_move rfl K rfl) M ?_; clear K; intro a K
              rcases Bool.eq_false_or_eq_true (r20) with hb | hb
              · have h := ctrue hb h
                have K := K.reb (s := 73) rfl hb
                refine X_rd K (K.yes rfl rfl rfl) rfl rfl (rd_move rfl K rfl) M ?_; clear K; intro a K
                refine X_rd K (K.yes rfl rfl rfl) rfl rfl (rd_move rfl K rfl) M ?_; clear K; intro a K
                refine X_rd K (K.yes rfl rfl rfl) rfl rfl (rd_eql rfl K rfl rfl) M ?_; clear K; intro a K
                refine X_rd K (want_no rfl) rfl rfl (rd_pickT rfl K rfl rfl) M ?_; clear K; intro a K
                refine X_rd K (want_no rfl) rfl rfl (rd_move rfl K rfl) M ?_; clear K; intro a K
                rcases Bool.eq_false_or_eq_true (decide (r2.2.2.2 = 1)) with hb | hb
                · have h := ctrue hb h
                  have K := K.reb (s := 78) rfl hb
                  refine X_rd K (K.yes rfl rfl rfl) rfl rfl (rd_move rfl K rfl) M ?_; clear K; intro a K
                  refine X_rd K (K.yes rfl rfl rfl) rfl rfl (rd_move rfl K rfl) M ?_; clear K; intro a K
                  refine X_rd K (K.yes rfl rfl rfl) rfl rfl (rd_eql rfl K rfl rfl) M ?_; clear K; intro a K
                  refine X_rd K (want_no rfl) rfl rfl (rd_pickT rfl K rfl rfl) M ?_; clear K; intro a K
                  refine X_rd K (want_no rfl) rfl rfl (rd_move rfl K rfl) M ?_; clear K; intro a K
                  rcases Bool.eq_false_or_eq_true (decide (r3.2 = i45)) with hb | hb
                  · have h := ctrue hb h
                    have K := K.reb (s := 83) rfl hb
                    refine X_rd K (K.yes rfl rfl rfl) rfl rfl (rd_move rfl K rfl) M ?_; clear K; intro a K
                    refine X_rd K (K.yes rfl rfl rfl) rfl rfl (rd_move rfl K rfl) M ?_; clear K; intro a K
                    refine X_rd K (K.yes rfl rfl rfl) rfl rfl (rd_eql rfl K rfl rfl) M ?_; clear K; intro a K
                    refine X_rd K (want_no rfl) rfl rfl (rd_pickT rfl K rfl rfl) M ?_; clear K; intro a K
                    refine X_rd K (want_no rfl) rfl rfl (rd_move rfl K rfl) M ?_; clear K; intro a K
                    rcases Bool.eq_false_or_eq_true (decide (r4.2 = i59)) with hb | hb
                    · have h := ctrue hb h
                      have K := K.reb (s := 88) rfl hb
                      refine X_rd K (K.yes rfl rfl rfl) rfl rfl (rd_ldA rfl ty49 K rfl (inM 1 rfl) rfl rfl) M ?_; clear K; intro a K
                      refine X_rd K (K.yes rfl rfl rfl) rfl rfl (rd_ldA rfl ty49 K rfl (inM 0 rfl) rfl rfl) M ?_; clear K; intro a K
                      obtain ⟨r21, h_r21, h⟩ := obind h
                      refine X_ac K (K.yes rfl rfl rfl) rfl rfl (ac_call (vs := [.agg #[.int .i64 r2.1, .int .i64 r2.2.1, .slice A r2.2.2.1.length c], .agg #[.int .i64 0, .int .i64 0, .slice none (([] : List (Int × Int × Int))).length 0]]) (cap := []) rfl fok31 K rfl rfl (W_darkslideref_SamePictures N r2.1 r2.2.1 r2.2.2.1 A c 0 0 (([] : List (Int × Int × Int))) none 0 _ ((inR (C := cIII) 2 rfl rfl) _ M) (M.cap 2 rfl) ((fun _ _ => SL.nil) _ M) (Nat.le_refl _) r21 h_r21)) ?_
                      have M0 := M; clear K M; rintro _ a w ⟨rfl, M⟩ K
                      have M := M0.call M
                      clear M0
                      refine X_rd K (want_no rfl) rfl rfl (rd_pickT rfl K rfl rfl) M ?_; clear K; intro a K
                      refine X_rd K (want_no rfl) rfl rfl (rd_move rfl K rfl) M ?_; clear K; intro a K
                      rcases Bool.eq_false_or_eq_true (r21) with hb | hb
                      · have h := ctrue hb h
                        have K := K.reb (s := 93) rfl hb
                        refine X_rd K (K.yes rfl rfl rfl) rfl rfl (rd_move rfl K rfl) M ?_; clear K; intro a K
                        refine X_rd K (K.yes rfl rfl rfl) rfl rfl (rd_move rfl K rfl) M ?_; clear K; intro a K
                        refine X_rd K (K.yes rfl rfl rfl) rfl rfl (rd_eql rfl K rfl rfl) M ?_; clear K; intro a K
                        refine X_rd K (want_no rfl) rfl rfl (rd_pickT rfl K rfl rfl) M ?_; clear K; intro a K
                        refine X_rd K (want_no rfl) rfl rfl (rd_move rfl K rfl) M ?_; clear K; intro a K
                        rcases Bool.eq_false_or_eq_true (decide (r3.1 = i46)) with hb | hb
                        · have h := ctrue hb h
                          have K := K.reb (s := 98) rfl hb
                          refine X_rd K (K.yes rfl rfl rfl) rfl rfl (rd_move rfl K rfl) M ?_; clear K; intro a K
                          refine X_rd K (K.yes rfl rfl rfl) rfl rfl (rd_move rfl K rfl) M ?_; clear K; intro a K
                          refine X_rd K (K.yes rfl rfl rfl) rfl rfl (rd_eql rfl K rfl rfl) M ?_; clear K; intro a K
                          refine X_rd K (want_no rfl) rfl rfl (rd_pickT rfl K rfl rfl) M ?_; clear K; intro a K
                          refine X_rd K (want_no rfl) rfl rfl (rd_assign rfl K rfl) M ?_; clear K; intro a K
                          refine wpList_nil ?_
                          exact hj16 (decide (r4.1 = i60)) _ _ ⟨K.pick [6], M.pick [0,1,2] (by decide)⟩ h
                        · have h := cfalse hb h
                          have K := K.reb (s := 98) rfl hb
                          refine X_no K (K.no rfl rfl rfl rfl) rfl rfl ?_; clear K; intro a K
                          refine X_no K (K.no rfl rfl rfl rfl) rfl rfl ?_; clear K; intro a K
                          refine X_no K (K.no rfl rfl rfl rfl) rfl rfl ?_; clear K; intro a K
                          refine X_rd K (want_no rfl) rfl rfl (rd_pickF rfl K rfl rfl) M ?_; clear K; intro a K
                          refine X_rd K (want_no rfl) rfl rfl (rd_assign rfl K rfl) M ?_; clear K; intro a K
                          refine wpList_nil ?_
                          exact hj16 false _ _ ⟨K.pick [6], M.pick [0,1,2] (by decide)⟩ h
                      · have h := cfalse hb h
                        have K := K.reb (s := 93) rfl hb
                        refine X_no K (K.no rfl rfl rfl rfl) rfl rfl ?_; clear K; intro a K
                        refine X_no K (K.no rfl rfl rfl rfl) rfl rfl ?_; clear K; intro a K
                        refine X_no K (K.no rfl rfl rfl rfl) rfl rfl ?_; clear K; intro a K
                        refine X_rd K (want_no rfl) rfl rfl (rd_pickF rfl K rfl rfl) M ?_; clear K; intro a K
                        refine X_rd K (want_no rfl) rfl rfl (rd_move rfl K rfl) M ?_; clear K; intro a K
                        refine X_no K (K.no rfl rfl rfl rfl) rfl rfl ?_; clear K; intro a K
                        refine X_no K (K.no rfl rfl rfl rfl) rfl rfl ?_; clear K; intro a K
                        refine X_no K (K.no rfl rfl rfl rfl) rfl rfl ?_; clear K; intro a K
                        refine X_rd K (want_no rfl) rfl rfl (rd_pickF rfl K rfl rfl) M ?_; clear K; intro a K
                        refine X_rd K (want_no rfl) rfl rfl (rd_assign rfl K rfl) M ?_; clear K; intro a K
                        refine wpList_nil ?_
                        exact hj16 false _ _ ⟨K.pick [6], M.pick [0,1,2] (by decide)⟩ h
                    · have h := cfalse hb h
                      have K := K.reb (s := 88) rfl hb
                      refine X_no K (K.no rfl rfl rfl rfl) rfl rfl ?_; clear K; intro a K
                      refine X_no K (K.no rfl rfl rfl rfl) rfl rfl ?_; clear K; intro a K
                      refine X_no K (K.no rfl rfl rfl rfl) rfl rfl ?_; clear K; intro a K
                      refine X_rd K (want_no rfl) rfl rfl (rd_pickF rfl K rfl rfl) M ?_; clear K; intro a K
                      refine X_rd K (want_no rfl) rfl rfl (rd_move rfl K rfl) M ?_; clear K; intro a K
                      refine X_no K (K.no rfl rfl rfl rfl) rfl rfl ?_; clear K; intro a K
                      refine X_no K (K.no rfl rfl rfl rfl) rfl rfl ?_; clear K; intro a K
                      refine X_no K (K.no rfl rfl rfl rfl) rfl rfl ?_; clear K; intro a K
                      refine X_rd K (want_no rfl) rfl rfl (rd_pickF rfl K rfl rfl) M ?_; clear K; intro a K
                      refine X_rd K (want_no rfl) rfl rfl (rd_move rfl K rfl) M ?_; clear K; intro a K
                      refine X_no K (K.no rfl rfl rfl rfl) rfl rfl ?_; clear K; intro a K
                      refine X_no K (K.no rfl rfl rfl rfl) rfl rfl ?_; clear K; intro a K
                      refine X_no K (K.no rfl rfl rfl rfl) rfl rfl ?_; clear K; intro a K
                      refine X_rd K (want_no rfl) rfl rfl (rd_pickF rfl K rfl rfl) M ?_; clear K; intro a K
                      refine X_rd K (want_no rfl) rfl rfl (rd_assign rfl K rfl) M ?_; clear K; intro a K
                      refine wpList_nil ?_
                      exact hj16 false _ _ ⟨K.pick [6], M.pick [0,1,2] (by decide)⟩ h
                  · have h := cfalse hb h
                    have K := K.reb (s := 83) rfl hb
                    refine X_no K (K.no rfl rfl rfl rfl) rfl rfl ?_; clear K; intro a K
                    refine X_no K (K.no rfl rfl rfl rfl) rfl rfl ?_; clear K; intro a K
                    refine X_no K (K.no rfl rfl rfl rfl) rfl rfl ?_; clear K; intro a K
                    refine X_rd K (want_no rfl) rfl rfl (rd_pickF rfl K rfl rfl) M ?_; clear K; intro a K
                    refine X_rd K (want_no rfl) rfl rfl (rd_move rfl K rfl) M ?_; clear K; intro a K
                    refine X_no K (K.no rfl rfl rfl rfl) rfl rfl ?_; clear K; intro a K
                    refine X_no K (K.no rfl rfl rfl rfl) rfl rfl ?_; clear K; intro a K
                    refine X_no K (K.no rfl rfl rfl rfl) rfl rfl ?_; clear K; intro a K
                    refine X_rd K (want_no rfl) rfl rfl (rd_pickF rfl K rfl rfl) M ?_; clear K; intro a K
                    refine X_rd K (want_no rfl) rfl rfl (rd_move rfl K rfl) M ?_; clear K; intro a K
                    refine X_no K (K.no rfl rfl rfl rfl) rfl rfl ?_; clear K; intro a K
                    refine X_no K (K.no rfl rfl rfl rfl) rfl rfl ?_; clear K; intro a K
                    refine X_no K (K.no rfl rfl rfl rfl) rfl rfl ?_; clear K; intro a K
                    refine X_rd K (want_no rfl) rfl rfl (rd_pickF rfl K rfl rfl) M ?_; clear K; intro a K
                    refine X_rd K (want_no rfl) rfl rfl (rd_move rfl K rfl) M ?_; clear K; intro a K
                    refine X_no K (K.no rfl rfl rfl rfl) rfl rfl ?_; clear K; intro a K
                    refine X_no K (K.no rfl rfl rfl rfl) rfl rfl ?_; clear K; intro a K
                    refine X_no K (K.no rfl rfl rfl rfl) rfl rfl ?_; clear K; intro a K
                    refine X_rd K (want_no rfl) rfl rfl (rd_pickF rfl K rfl rfl) M ?_; clear K; intro a K
                    refine X_rd K (want_no rfl) rfl rfl (rd_assign rfl K rfl) M ?_; clear K; intro a K
                    refine wpList_nil ?_
                    exact hj16 false _ _ ⟨K.pick [6], M.pick [0,1,2] (by decide)⟩ h
                · have h := cfalse hb h
                  have K := K.reb (s := 78) rfl hb
                  refine X_no K (K.no rfl rfl rfl rfl) rfl rfl ?_; clear K; intro a K
                  refine X_no K (K.no rfl rfl rfl rfl) rfl rfl ?_; clear K; intro a K
                  refine X_no K (K.no rfl rfl rfl rfl) rfl rfl ?_; clear K; intro a K
                  refine X_rd K (want_no rfl) rfl rfl (rd_pickF rfl K rfl rfl) M ?_; clear K; intro a K
                  refine X_rd K (want_no rfl) rfl rfl (rd_move rfl K rfl) M ?_; clear K; intro a K
                  refine X_no K (K.no rfl rfl rfl rfl) rfl rfl ?_; clear K; intro a K
                  refine X_no K (K.no rfl rfl rfl rfl) rfl rfl ?_; clear K; intro a K
                  refine X_no K (K.no rfl rfl rfl rfl) rfl rfl ?_; clear K; intro a K
                  refine X_rd K (want_no rfl) rfl rfl (rd_pickF rfl K rfl rfl) M ?_; clear K; intro a K
                  refine X_rd K (want_no rfl) rfl rfl (rd_move rfl K rfl) M ?_; clear K; intro a K
                  refine X_no K (K.no rfl rfl rfl rfl) rfl rfl ?_; clear K; intro a K
                  refine X_no K (K.no rfl rfl rfl rfl) rfl rfl ?_; clear K; intro a K
                  refine X_no K (K.no rfl rfl rfl rfl) rfl rfl ?_; clear K; intro a K
                  refine X_rd K (want_no rfl) rfl rfl (rd_pickF rfl K rfl rfl) M ?_; clear K; intro a K
                  refine X_rd K (want_no rfl) rfl rfl (rd_move rfl K rfl) M ?_; clear K; intro a K
                  refine X_no K (K.no rfl rfl rfl rfl) rfl rfl ?_; clear K; intro a K
                  refine X_no K (K.no rfl rfl rfl rfl) rfl rfl ?_; clear K; intro a K
                  refine X_no K (K.no rfl rfl rfl rfl) rfl rfl ?_; clear K; intro a K
                  refine X_rd K (want_no rfl) rfl rfl (rd_pickF rfl K rfl rfl) M ?_; clear K; intro a K
                  refine X_rd K (want_no rfl) rfl rfl (rd_move rfl K rfl) M ?_; clear K; intro a K
                  refine X_no K (K.no rfl rfl rfl rfl) rfl rfl ?_; clear K; intro a K
                  refine X_no K (K.no rfl rfl rfl rfl) rfl rfl ?_; clear K; intro a K
                  refine X_no K (K.no rfl rfl rfl rfl) rfl rfl ?_; clear K; intro a K
                  refine X_rd K (want_no rfl) rfl rfl (rd_pickF rfl K rfl rfl) M ?_; clear K; intro a K
                  refine X_rd K (want_no rfl) rfl rfl (rd_assign rfl K rfl) M ?_; clear K; intro a K
                  refine wpList_nil ?_
                  exact hj16 false _ _ ⟨K.pick [6], M.pick [0,1,2] (by decide)⟩ h
              · have h := cfalse hb h
                have K := K.reb (s := 73) rfl hb
                refine X_no K (K.no rfl rfl rfl rfl) rfl rfl ?_; clear K; intro a K
                refine X_no K (K.no rfl rfl rfl rfl) rfl rfl ?_; clear K; intro a K
                refine X_no K (K.no rfl rfl rfl rfl) rfl rfl ?_; clear K; intro a K
                refine X_rd K (want_no rfl) rfl rfl (rd_pickF rfl K rfl rfl) M ?_; clear K; intro a K
                refine X_rd K (want_no rfl) rfl rfl (rd_move rfl K rfl) M ?_; clear K; intro a K
                refine X_no K (K.no rfl rfl rfl rfl) rfl rfl ?_; clear K; intro a K
                refine X_no K (K.no rfl rfl rfl rfl) rfl rfl ?_; clear K; intro a K
                refine X_no K (K.no rfl rfl rfl rfl) rfl rfl ?_; clear K; intro a K
                refine X_rd K (want_no rfl) rfl rfl (rd_pickF rfl K rfl rfl) M ?_; clear K; intro a K
                refine X_rd K (want_no rfl) rfl rfl (rd_move rfl K rfl) M ?_; clear K; intro a K
                refine X_no K (K.no rfl rfl rfl rfl) rfl rfl ?_; clear K; intro a K
                refine X_no K (K.no rfl rfl rfl rfl) rfl rfl ?_; clear K; intro a K
                refine X_no K (K.no rfl rfl rfl rfl) rfl rfl ?_; clear K; intro a K
                refine X_rd K (want_no rfl) rfl rfl (rd_pickF rfl K rfl rfl) M ?_; clear K; intro a K
                refine X_rd K (want_no rfl) rfl rfl (rd_move rfl K rfl) M ?_; clear K; intro a K
                refine X_no K (K.no rfl rfl rfl rfl) rfl rfl ?_; clear K; intro a K
                refine X_no K (K.no rfl rfl rfl rfl) rfl rfl ?_; clear K; intro a K
                refine X_no K (K.no rfl rfl rfl rfl) rfl rfl ?_; clear K; intro a K
                refine X_rd K (want_no rfl) rfl rfl (rd_pickF rfl K rfl rfl) M ?_; clear K; intro a K
                refine X_rd K (want_no rfl) rfl rfl (rd_move rfl K rfl) M ?_; clear K; intro a K
                refine X_no K (K.no rfl rfl rfl rfl) rfl rfl ?_; clear K; intro a K
                refine X_no K (K.no rfl rfl rfl rfl) rfl rfl ?_; clear K; intro a K
                refine X_no K (K.no rfl rfl rfl rfl) rfl rfl ?_; clear K; intro a K
                refine X_rd K (want_no rfl) rfl rfl (rd_pickF rfl K rfl rfl) M ?_; clear K; intro a K
                refine X_rd K (want_no rfl) rfl rfl (rd_move rfl K rfl) M ?_; clear K; intro a K
                refine X_no K (K.no rfl rfl rfl rfl) rfl rfl ?_; clear K; intro a K
                refine X_no K (K.no rfl rfl rfl rfl) rfl rfl ?_; clear K; intro a K
                refine X_no K (K.no rfl rfl rfl rfl) rfl rfl ?_; clear K; intro a K
                refine X_rd K (want_no rfl) rfl rfl (rd_pickF rfl K rfl rfl) M ?_; clear K; intro a K
                refine X_rd K (want_no rfl) rfl rfl (rd_assign rfl K rfl) M ?_; clear K; intro a K
                refine wpList_nil ?_
                exact hj16 false _ _ ⟨K.pick [6], M.pick [0,1,2] (by decide)⟩ h
          · clear h; rintro kk_darkslidelaw_TurnTurns_j15 hj15 h
            unfold D_darkslidelaw_TurnTurns_j15 at h
            refine X_cond K rfl (fun hb => ?_) (fun hb => ?_)
            · have h := ctrue hb h
              refine X_reg ?_
              refine X_rd K (want_no rfl) rfl rfl (rd_move rfl K rfl) M ?_; clear K; intro a K
              refine X_rd K (want_no rfl) rfl rfl (rd_move rfl K rfl) M ?_; clear K; intro a K
              obtain ⟨r19, h_r19, h⟩ := obind h
              refine X_ac K (want_no rfl) rfl rfl (ac_call (vs := [.int .i64 o, .int .i64 p2]) (cap := []) rfl fok37 K rfl rfl (W_darkslideref_One N o p2 _  r19 h_r19)) ?_
              have M0 := M; clear K M; rintro _ a w ⟨rfl, M⟩ K
              have M := M0.call M
              clear M0
              refine X_rd K (want_no rfl) rfl rfl (rd_assign rfl K rfl) M ?_; clear K; intro a K
              refine X_rd K (want_no rfl) rfl rfl (rd_assign rfl K rfl) M ?_; clear K; intro a K
              refine wpList_nil ?_
              exact hj15 (0, r19) _ _ ⟨K.pick [7,8,9,10,11,12,14,15,16,17,18,19], M.pick [0,1,2] (by decide)⟩ h
            · have h := cfalse hb h
              refine wp_skip ?_
              exact hj15 (3, 0) _ _ ⟨K.pick [7,8,9,10,11,12,14,15,16,17,18,19], M.pick [0,1,2] (by decide)⟩ h
        · clear h; rintro kk_darkslidelaw_TurnTurns_j14 hj14 h
          unfold D_darkslidelaw_TurnTurns_j14 at h
          refine X_reg ?_
          refine X_rd K (want_no rfl) rfl rfl (rd_move rfl K rfl) M ?_; clear K; intro a K
          refine X_rd K (want_no rfl) rfl rfl (rd_move rfl K rfl) M ?_; clear K; intro a K
          rcases Bool.eq_false_or_eq_true (i2) with hb | hb
          · have h := ctrue hb h
            have K := K.reb (s := 61) rfl hb
            refine X_rd K (K.yes rfl rfl rfl) rfl rfl (rd_move rfl K rfl) M ?_; clear K; intro a K
            refine X_rd K (K.yes rfl rfl rfl) rfl rfl (rd_geq rfl K rfl rfl) M ?_; clear K; intro a K
            refine X_rd K (want_no rfl) rfl rfl (rd_pickT rfl K rfl rfl) M ?_; clear K; intro a K
            refine X_rd K (want_no rfl) rfl rfl (rd_move rfl K rfl) M ?_; clear K; intro a K
            rcases Bool.eq_false_or_eq_true (decide (1 ≤ p2)) with hb | hb
            · have h := ctrue hb h
              have K := K.reb (s := 65) rfl hb
              refine X_rd K (K.yes rfl rfl rfl) rfl rfl (rd_move rfl K rfl) M ?_; clear K; intro a K
              refine X_rd K (K.yes rfl rfl rfl) rfl rfl (rd_leq rfl K rfl rfl) M ?_; clear K; intro a K
              refine X_rd K (want_no rfl) rfl rfl (rd_pickT rfl K rfl rfl) M ?_; clear K; intro a K
              refine wpList_nil ?_
              exact hj14 (decide (p2 ≤ 8)) _ _ ⟨K.pick [1,2,7,8,9,10,11,12,14,15,16,17,18,19,68], M.pick [0,1,2] (by decide)⟩ h
            · have h := cfalse hb h
              have K := K.reb (s := 65) rfl hb
              refine X_no K (K.no rfl rfl rfl rfl) rfl rfl ?_; clear K; intro a K
              refine X_no K (K.no rfl rfl rfl rfl) rfl rfl ?_; clear K; intro a K
              refine X_rd K (want_no rfl) rfl rfl (rd_pickF rfl K rfl rfl) M ?_; clear K; intro a K
              refine wpList_nil ?_
              exact hj14 false _ _ ⟨K.pick [1,2,7,8,9,10,11,12,14,15,16,17,18,19,68], M.pick [0,1,2] (by decide)⟩ h
          · have h := cfalse hb h
            have K := K.reb (s := 61) rfl hb
            refine X_no K (K.no rfl rfl rfl rfl) rfl rfl ?_; clear K; intro a K
            refine X_no K (K.no rfl rfl rfl rfl) rfl rfl ?_; clear K; intro a K
            refine X_rd K (want_no rfl) rfl rfl (rd_pickF rfl K rfl rfl) M ?_; clear K; intro a K
            refine X_rd K (want_no rfl) rfl rfl (rd_move rfl K rfl) M ?_; clear K; intro a K
            refine X_no K (K.no rfl rfl rfl rfl) rfl rfl ?_; clear K; intro a K
            refine X_no K (K.no rfl rfl rfl rfl) rfl rfl ?_; clear K; intro a K
            refine X_rd K (want_no rfl) rfl rfl (rd_pickF rfl K rfl rfl) M ?_; clear K; intro a K
            refine wpList_nil ?_
            exact hj14 false _ _ ⟨K.pick [1,2,7,8,9,10,11,12,14,15,16,17,18,19,68], M.pick [0,1,2] (by decide)⟩ h
      · clear h; rintro kk_darkslidelaw_TurnTurns_j12 hj12 h
        unfold D_darkslidelaw_TurnTurns_j12 at h
        refine X_cond K rfl (fun hb => ?_) (fun hb => ?_)
        · have h := ctrue hb h
          refine wp_seq ?_
          refine X_reg ?_
          refine X_rd K (want_no rfl) rfl rfl (rd_assign rfl K rfl) M ?_; clear K; intro a K
          refine wpList_nil ?_
          refine then_n ?_
          refine wp_seq ?_
          refine X_reg ?_
          refine X_rd K (want_no rfl) rfl rfl (rd_assign rfl K rfl) M ?_; clear K; intro a K
          refine wpList_nil ?_
          refine then_n ?_
          refine wp_block ?_
          refine X_lp (id := 0) (Rel := fun (⟨i47, i48⟩ : Int × Int) a w => Kn a 103 [(1, .int .i64 o), (2, .int .i64 p2), (7, .pointer (some ⟨g_x2, 0, none⟩)), (8, .int .i64 r2.2.2.2), (9, .int .i64 r3.1), (10, .int .i64 r3.2), (11, .int .i64 r4.1), (12, .int .i64 r4.2), (13, .bool i2), (14, .int .i64 1), (15, .int .i64 0), (16, .int .i64 3), (17, .pointer (some ⟨g_x3, 0, none⟩)), (18, .int .i64 i47), (19, .int .i64 0), (20, .int .i64 i48)] ∧ Mem w0.heap.size w0 w [.blk g_x3 49 [.int .i64 0, .int .i64 0, .slice none (([] : List (Int × Int × Int))).length 0], .blk g_x2 49 [.int .i64 r2.1, .int .i64 r2.2.1, .slice A r2.2.2.1.length c], .row 73 3 A r2.2.2.1.length c (cIII.all r2.2.2.1)]) h (fun _ _ => rfl) ⟨K.pick [1,2,7,8,9,10,11,12,13,14,15,16,17,18,19,20], M.pick [0,1,2] (by decide)⟩ ?_ ?_
          · clear K M h
            rintro ⟨i53, i54⟩ a w ⟨K, M⟩ h
            try dsimp only at h
            refine inb_e ?_
            exact hj12 (0, i53) _ _ ⟨K.pick [1,2,7,8,9,10,11,12,13,14,15,16,17,18,19], M.pick [0,1,2] (by decide)⟩ h
          · clear K M h
            rintro kk fuel ⟨i47, i48⟩ a w hk3 ⟨K, M⟩ h
            unfold D_darkslidelaw_TurnTurns_l3 at h
            refine wp_seq ?_
            refine wp_seq ?_
            refine X_reg ?_
            refine X_rd K (want_no rfl) rfl rfl (rd_move rfl K rfl) M ?_; clear K; intro a K
            refine X_rd K (want_no rfl) rfl rfl (rd_leq rfl K rfl rfl) M ?_; clear K; intro a K
            refine wpList_nil ?_
            refine then_n ?_
            refine X_cond K rfl (fun hb => ?_) (fun hb => ?_)
            · have h := ctrue hb h
              refine wp_skip ?_
              refine then_n ?_
              refine wp_seq ?_
              refine wp_block ?_
              refine wp_seq ?_
              refine X_reg ?_
              refine X_rd K (want_no rfl) rfl rfl (rd_move rfl K rfl) M ?_; clear K; intro a K
              refine X_rd K (want_no rfl) rfl rfl (rd_move rfl K rfl) M ?_; clear K; intro a K
              obtain ⟨r18, h_r18, h⟩ := obind h
              refine X_ac K (want_no rfl) rfl rfl (ac_call (vs := [.int .i64 o, .int .i64 i48]) (cap := []) rfl fok37 K rfl rfl (W_darkslideref_One N o i48 _  r18 h_r18)) ?_
              have M0 := M; clear K M; rintro _ a w ⟨rfl, M⟩ K
              have M := M0.call M
              clear M0
              refine X_rd K (want_no rfl) rfl rfl (rd_eql rfl K rfl rfl) M ?_; clear K; intro a K
              refine wpList_nil ?_
              refine then_n ?_
              refine X_join (Rel := fun (i51 : Int) a w => Kn a 103 [(1, .int .i64 o), (2, .int .i64 p2), (7, .pointer (some ⟨g_x2, 0, none⟩)), (8, .int .i64 r2.2.2.2), (9, .int .i64 r3.1), (10, .int .i64 r3.2), (11, .int .i64 r4.1), (12, .int .i64 r4.2), (13, .bool i2), (14, .int .i64 1), (15, .int .i64 0), (16, .int .i64 3), (17, .pointer (some ⟨g_x3, 0, none⟩)), (18, .int .i64 i51), (19, .int .i64 0), (20, .int .i64 i48)] ∧ Mem w0.heap.size w0 w [.blk g_x3 49 [.int .i64 0, .int .i64 0, .slice none (([] : List (Int × Int × Int))).length 0], .blk g_x2 49 [.int .i64 r2.1, .int .i64 r2.2.1, .slice A r2.2.2.1.length c], .row 73 3 A r2.2.2.1.length c (cIII.all r2.2.2.1)]) h ?_ ?_
              · clear K M h
                rintro i52 a w ⟨K, M⟩ h
                try dsimp only at h
                refine inb_n ?_
                refine then_n ?_
                refine X_reg ?_
                refine X_rd K (want_no rfl) rfl rfl (rd_move rfl K rfl) M ?_; clear K; intro a K
                refine X_rd K (want_no rfl) rfl rfl (rd_add rfl K rfl rfl) M ?_; clear K; intro a K
                obtain ⟨x7, hx, h⟩ := olet h
                refine X_rd K (want_no rfl) rfl rfl (rdi hx (rd_assign rfl K rfl)) M ?_; clear K; intro a K
                refine wpList_nil ?_
                exact then_n ⟨(i52, x7), ⟨K.pick [1,2,7,8,9,10,11,12,13,14,15,16,17,18,19,20], M.pick [0,1,2] (by decide)⟩, h⟩
              · clear h; rintro kk_darkslidelaw_TurnTurns_j13 hj13 h
                unfold D_darkslidelaw_TurnTurns_j13 at h
                refine X_cond K rfl (fun hb => ?_) (fun hb => ?_)
                · have h := ctrue hb h
                  refine X_reg ?_
                  refine X_rd K (want_no rfl) rfl rfl (rd_move rfl K rfl) M ?_; clear K; intro a K
                  refine X_rd K (want_no rfl) rfl rfl (rd_assign rfl K rfl) M ?_; clear K; intro a K
                  refine wpList_nil ?_
                  exact hj13 i48 _ _ ⟨K.pick [1,2,7,8,9,10,11,12,13,14,15,16,17,18,19,20], M.pick [0,1,2] (by decide)⟩ h
                · have h := cfalse hb h
                  refine wp_skip ?_
                  exact hj13 i47 _ _ ⟨K.pick [1,2,7,8,9,10,11,12,13,14,15,16,17,18,19,20], M.pick [0,1,2] (by decide)⟩ h
            · have h := cfalse hb h
              refine wp_exit ?_
              refine then_e ?_
              exact then_e (hk3 (i47, i48) _ _ ⟨K.pick [1,2,7,8,9,10,11,12,13,14,15,16,17,18,19,20], M.pick [0,1,2] (by decide)⟩ h)
        · have h := cfalse hb h
          refine wp_skip ?_
          exact hj12 (3, 0) _ _ ⟨K.pick [1,2,7,8,9,10,11,12,13,14,15,16,17,18,19], M.pick [0,1,2] (by decide)⟩ h
  · clear h; rintro kk_darkslidelaw_TurnTurns_j1 hj1 h
    unfold D_darkslidelaw_TurnTurns_j1 at h
    refine X_reg ?_
    refine X_rd K (want_no rfl) rfl rfl (rd_move rfl K rfl) M ?_; clear K; intro a K
    refine X_rd K (want_no rfl) rfl rfl (rd_geq rfl K rfl rfl) M ?_; clear K; intro a K
    refine X_rd K (want_no rfl) rfl rfl (rd_move rfl K rfl) M ?_; clear K; intro a K
    rcases Bool.eq_false_or_eq_true (decide (1 ≤ o)) with hb | hb
    · have h := ctrue hb h
      have K := K.reb (s := 40) rfl hb
      refine X_rd K (K.yes rfl rfl rfl) rfl rfl (rd_move rfl K rfl) M ?_; clear K; intro a K
      refine X_rd K (K.yes rfl rfl rfl) rfl rfl (rd_leq rfl K rfl rfl) M ?_; clear K; intro a K
      refine X_rd K (want_no rfl) rfl rfl (rd_pickT rfl K rfl rfl) M ?_; clear K; intro a K
      refine X_rd K (want_no rfl) rfl rfl (rd_assign rfl K rfl) M ?_; clear K; intro a K
      refine wpList_nil ?_
      exact hj1 (decide (o ≤ 8)) _ _ ⟨K.pick [1,2,3,7,8,9,10,11,12,13], M.pick [0,1,2] (by decide)⟩ h
    · have h := cfalse hb h
      have K := K.reb (s := 40) rfl hb
      refine X_no K (K.no rfl rfl rfl rfl) rfl rfl ?_; clear K; intro a K
      refine X_no K (K.no rfl rfl rfl rfl) rfl rfl ?_; clear K; intro a K
      refine X_rd K (want_no rfl) rfl rfl (rd_pickF rfl K rfl rfl) M ?_; clear K; intro a K
      refine X_rd K (want_no rfl) rfl rfl (rd_assign rfl K rfl) M ?_; clear K; intro a K
      refine wpList_nil ?_
      exact hj1 false _ _ ⟨K.pick [1,2,3,7,8,9,10,11,12,13], M.pick [0,1,2] (by decide)⟩ h

end Go.Proofs.Ytpmnfhifmmfglaa
