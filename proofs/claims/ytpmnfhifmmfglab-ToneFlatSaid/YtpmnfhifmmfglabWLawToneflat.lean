/- Printed by a program (walk.py): the walks of darkslidelaw_ToneFlat: each function computes what its plain program tells. -/
import Derived.Test.YtpmnfhifmmfglabFacts
import Derived.Test.YtpmnfhifmmfglabDD
import Derived.Test.YtpmnfhifmmfglabWLawTonebegun
import Derived.Test.YtpmnfhifmmfglabWRefSamepictures
import Derived.Test.YtpmnfhifmmfglabWTone
set_option linter.unusedVariables false
set_option linter.unusedSimpArgs false
set_option linter.unusedSectionVars false
namespace Go.Proofs.Ytpmnfhifmmfglab
open Go.RowKit

set_option maxRecDepth 100000 in
set_option maxHeartbeats 4000000 in
theorem W_darkslidelaw_ToneFlat (N : Nat) (d_R : Int) (d_G : Int) (d_B : Int) (o : Int) (p2 : Int) (p3 : Int) (p4_W : Int) (p4_H : Int) (p4_P : List (Int × Int × Int)) (A_p4_P : Option Addr) (c_p4_P : Nat) (w0 : World) (R_p4_P : SL w0 cIII A_p4_P p4_P) (C_p4_P : p4_P.length ≤ c_p4_P) (r : Bool) (h : D_darkslidelaw_ToneFlat N d_R d_G d_B o p2 p3 p4_W p4_H p4_P = some r) :
    Calls Try.prog 4 #[.agg #[.int .i64 d_R, .int .i64 d_G, .int .i64 d_B], .int .i64 o, .int .i64 p2, .int .i64 p3, .agg #[.int .i64 p4_W, .int .i64 p4_H, .slice A_p4_P p4_P.length c_p4_P]] w0 fun e w' => ∃ v, e = .returned v ∧ v = .bool r ∧ Mem w0.heap.size w0 w' [] := by
  refine X_enter Try.func4 rfl Try.ntmps4 rfl ?_
  intro a K
  have M := Mem.start w0
  have K : Kn a 77 [(0, .agg #[.int .i64 d_R, .int .i64 d_G, .int .i64 d_B]), (1, .int .i64 o), (2, .int .i64 p2), (3, .int .i64 p3), (4, .agg #[.int .i64 p4_W, .int .i64 p4_H, .slice A_p4_P p4_P.length c_p4_P])] := K
  unfold D_darkslidelaw_ToneFlat at h
  refine wp_seq ?_
  refine X_reg ?_
  refine X_ac K (want_no rfl) rfl rfl (ac_box rfl K rfl (cs := [.int .i64 d_R, .int .i64 d_G, .int .i64 d_B]) rfl M) ?_
  have M0 := M; clear K M; rintro _ a w ⟨g_x, rfl, M⟩ K
  clear M0
  refine X_ac K (want_no rfl) rfl rfl (ac_box rfl K rfl (cs := [.int .i64 p4_W, .int .i64 p4_H, .slice A_p4_P p4_P.length c_p4_P]) rfl M) ?_
  have M0 := M; clear K M; rintro _ a w ⟨g_x2, rfl, M⟩ K
  clear M0
  refine X_rd K (want_no rfl) rfl rfl (rd_assign rfl K rfl) M ?_; clear K; intro a K
  refine wpList_nil ?_
  refine then_n ?_
  refine wp_seq ?_
  refine X_reg ?_
  refine X_rd K (want_no rfl) rfl rfl (rd_ldA rfl ty24 K rfl (inM 0 rfl) rfl rfl) M ?_; clear K; intro a K
  obtain ⟨r2, h_r2, h⟩ := obind h
  refine X_ac K (want_no rfl) rfl rfl (ac_call (vs := [.agg #[.int .i64 p4_W, .int .i64 p4_H, .slice A_p4_P p4_P.length c_p4_P], .int .i64 0]) (cap := []) rfl fok10 K rfl rfl (W_tone_Sharpen N p4_W p4_H p4_P A_p4_P c_p4_P 0 _ ((inA R_p4_P) _ M) C_p4_P r2 h_r2)) ?_
  have M0 := M; clear K M; rintro _ a w ⟨A, c, rfl, M⟩ K
  have M := M0.call M
  clear M0
  refine X_rd K (want_no rfl) rfl rfl (rd_move rfl K rfl) M ?_; clear K; intro a K
  refine X_rd K (want_no rfl) rfl rfl (rd_extract rfl K rfl rfl) M ?_; clear K; intro a K
  refine X_rd K (want_no rfl) rfl rfl (rd_extract rfl K rfl rfl) M ?_; clear K; intro a K
  refine X_ac K (want_no rfl) rfl rfl (ac_alloc rfl z24 M) ?_
  have M0 := M; clear K M; rintro _ a w ⟨g_x3, rfl, M⟩ K
  clear M0
  refine X_a0 K (want_no rfl) rfl (ac_storeA rfl ty24 K rfl (ds := [.int .i64 r2.1, .int .i64 r2.2.1, .slice A r2.2.2.1.length c]) rfl rfl 0 M rfl rfl rfl) ?_
  have M0 := M; clear K M; rintro _ a w M K
  clear M0
  refine X_rd K (want_no rfl) rfl rfl (rd_assign rfl K rfl) M ?_; clear K; intro a K
  refine wpList_nil ?_
  refine then_n ?_
  refine wp_seq ?_
  refine wp_seq ?_
  refine X_reg ?_
  refine X_rd K (want_no rfl) rfl rfl (rd_move rfl K rfl) M ?_; clear K; intro a K
  refine X_rd K (want_no rfl) rfl rfl (rd_eql rfl K rfl rfl) M ?_; clear K; intro a K
  refine X_rd K (want_no rfl) rfl rfl (rd_move rfl K rfl) M ?_; clear K; intro a K
  rcases Bool.eq_false_or_eq_true (decide (r2.2.2.2 = 0)) with hb | hb
  · have h := ctrue hb h
    have K := K.reb (s := 24) rfl hb
    refine X_rd K (K.yes rfl rfl rfl) rfl rfl (rd_ldA rfl ty24 K rfl (inM 0 rfl) rfl rfl) M ?_; clear K; intro a K
    refine X_rd K (K.yes rfl rfl rfl) rfl rfl (rd_ldA rfl ty24 K rfl (inM 2 rfl) rfl rfl) M ?_; clear K; intro a K
    obtain ⟨r3, h_r3, h⟩ := obind h
    refine X_ac K (K.yes rfl rfl rfl) rfl rfl (ac_call (vs := [.agg #[.int .i64 r2.1, .int .i64 r2.2.1, .slice A r2.2.2.1.length c], .agg #[.int .i64 p4_W, .int .i64 p4_H, .slice A_p4_P p4_P.length c_p4_P]]) (cap := []) rfl fok14 K rfl rfl (W_darkslideref_SamePictures N r2.1 r2.2.1 r2.2.2.1 A c p4_W p4_H p4_P A_p4_P c_p4_P _ ((inR (C := cIII) 1 rfl rfl) _ M) (M.cap 1 rfl) ((inA R_p4_P) _ M) C_p4_P r3 h_r3)) ?_
    have M0 := M; clear K M; rintro _ a w ⟨rfl, M⟩ K
    have M := M0.call M
    clear M0
    refine X_rd K (K.yes rfl rfl rfl) rfl rfl (rd_not rfl K rfl) M ?_; clear K; intro a K
    refine X_rd K (want_no rfl) rfl rfl (rd_pickT rfl K rfl rfl) M ?_; clear K; intro a K
    refine wpList_nil ?_
    refine then_n ?_
    refine X_cond K rfl (fun hb => ?_) (fun hb => ?_)
    · have h := ctrue hb h
      refine wp_seq ?_
      refine X_reg ?_
      refine X_rd K (want_no rfl) rfl rfl (rd_assign rfl K rfl) M ?_; clear K; intro a K
      refine wpList_nil ?_
      refine then_n ?_
      refine wp_ret ?_
      refine then_r ?_
      cases h
      exact ret1 K rfl (res_tmp K rfl) ⟨_, rfl, rfl, ((M).pick [] (by decide))⟩
    · have h := cfalse hb h
      refine wp_skip ?_
      refine then_n ?_
      refine wp_seq ?_
      refine wp_seq ?_
      refine X_reg ?_
      refine X_rd K (want_no rfl) rfl rfl (rd_move rfl K rfl) M ?_; clear K; intro a K
      refine X_rd K (want_no rfl) rfl rfl (rd_lss rfl K rfl rfl) M ?_; clear K; intro a K
      refine X_rd K (want_no rfl) rfl rfl (rd_move rfl K rfl) M ?_; clear K; intro a K
      rcases Bool.eq_false_or_eq_true (decide (o < 1)) with hb | hb
      · have h := ctrue hb h
        have K := K.reb (s := 32) rfl hb
        refine X_no K (K.no rfl rfl rfl rfl) rfl rfl ?_; clear K; intro a K
        refine X_no K (K.no rfl rfl rfl rfl) rfl rfl ?_; clear K; intro a K
        refine X_rd K (want_no rfl) rfl rfl (rd_pickT rfl K rfl rfl) M ?_; clear K; intro a K
        refine X_rd K (want_no rfl) rfl rfl (rd_move rfl K rfl) M ?_; clear K; intro a K
        refine X_no K (K.no rfl rfl rfl rfl) rfl rfl ?_; clear K; intro a K
        refine X_no K (K.no rfl rfl rfl rfl) rfl rfl ?_; clear K; intro a K
        refine X_rd K (want_no rfl) rfl rfl (rd_pickT rfl K rfl rfl) M ?_; clear K; intro a K
        refine X_rd K (want_no rfl) rfl rfl (rd_move rfl K rfl) M ?_; clear K; intro a K
        refine X_no K (K.no rfl rfl rfl rfl) rfl rfl ?_; clear K; intro a K
        refine X_no K (K.no rfl rfl rfl rfl) rfl rfl ?_; clear K; intro a K
        refine X_rd K (want_no rfl) rfl rfl (rd_pickT rfl K rfl rfl) M ?_; clear K; intro a K
        refine wpList_nil ?_
        refine then_n ?_
        refine X_condT K rfl ?_
        refine wp_seq ?_
        refine X_reg ?_
        obtain ⟨r4, h_r4, h⟩ := obind h
        refine X_ac K (want_no rfl) rfl rfl (ac_call (vs := []) (cap := []) rfl fok13 K rfl rfl (W_darkslidelaw_toneBegun N  _  r4 h_r4)) ?_
        have M0 := M; clear K M; rintro _ a w ⟨rfl, M⟩ K
        have M := M0.call M
        clear M0
        refine X_rd K (want_no rfl) rfl rfl (rd_assign rfl K rfl) M ?_; clear K; intro a K
        refine wpList_nil ?_
        refine then_n ?_
        refine wp_ret ?_
        refine then_r ?_
        cases h
        exact ret1 K rfl (res_tmp K rfl) ⟨_, rfl, rfl, ((M).pick [] (by decide))⟩
      · have h := cfalse hb h
        have K := K.reb (s := 32) rfl hb
        refine X_rd K (K.yes rfl rfl rfl) rfl rfl (rd_move rfl K rfl) M ?_; clear K; intro a K
        refine X_rd K (K.yes rfl rfl rfl) rfl rfl (rd_gtr rfl K rfl rfl) M ?_; clear K; intro a K
        refine X_rd K (want_no rfl) rfl rfl (rd_pickF rfl K rfl rfl) M ?_; clear K; intro a K
        refine X_rd K (want_no rfl) rfl rfl (rd_move rfl K rfl) M ?_; clear K; intro a K
        rcases Bool.eq_false_or_eq_true (decide (64 < o)) with hb | hb
        · have h := ctrue hb h
          have K := K.reb (s := 36) rfl hb
          refine X_no K (K.no rfl rfl rfl rfl) rfl rfl ?_; clear K; intro a K
          refine X_no K (K.no rfl rfl rfl rfl) rfl rfl ?_; clear K; intro a K
          refine X_rd K (want_no rfl) rfl rfl (rd_pickT rfl K rfl rfl) M ?_; clear K; intro a K
          refine X_rd K (want_no rfl) rfl rfl (rd_move rfl K rfl) M ?_; clear K; intro a K
          refine X_no K (K.no rfl rfl rfl rfl) rfl rfl ?_; clear K; intro a K
          refine X_no K (K.no rfl rfl rfl rfl) rfl rfl ?_; clear K; intro a K
          refine X_rd K (want_no rfl) rfl rfl (rd_pickT rfl K rfl rfl) M ?_; clear K; intro a K
          refine wpList_nil ?_
          refine then_n ?_
          refine X_condT K rfl ?_
          refine wp_seq ?_
          refine X_reg ?_
          obtain ⟨r5, h_r5, h⟩ := obind h
          refine X_ac K (want_no rfl) rfl rfl (ac_call (vs := []) (cap := []) rfl fok13 K rfl rfl (W_darkslidelaw_toneBegun N  _  r5 h_r5)) ?_
          have M0 := M; clear K M; rintro _ a w ⟨rfl, M⟩ K
          have M := M0.call M
          clear M0
          refine X_rd K (want_no rfl) rfl rfl (rd_assign rfl K rfl) M ?_; clear K; intro a K
          refine wpList_nil ?_
          refine then_n ?_
          refine wp_ret ?_
          refine then_r ?_
          cases h
          exact ret1 K rfl (res_tmp K rfl) ⟨_, rfl, rfl, ((M).pick [] (by decide))⟩
        · have h := cfalse hb h
          have K := K.reb (s := 36) rfl hb
          refine X_rd K (K.yes rfl rfl rfl) rfl rfl (rd_move rfl K rfl) M ?_; clear K; intro a K
          refine X_rd K (K.yes rfl rfl rfl) rfl rfl (rd_lss rfl K rfl rfl) M ?_; clear K; intro a K
          refine X_rd K (want_no rfl) rfl rfl (rd_pickF rfl K rfl rfl) M ?_; clear K; intro a K
          refine X_rd K (want_no rfl) rfl rfl (rd_move rfl K rfl) M ?_; clear K; intro a K
          rcases Bool.eq_false_or_eq_true (decide (p2 < 1)) with hb | hb
          · have h := ctrue hb h
            have K := K.reb (s := 40) rfl hb
            refine X_no K (K.no rfl rfl rfl rfl) rfl rfl ?_; clear K; intro a K
            refine X_no K (K.no rfl rfl rfl rfl) rfl rfl ?_; clear K; intro a K
            refine X_rd K (want_no rfl) rfl rfl (rd_pickT rfl K rfl rfl) M ?_; clear K; intro a K
            refine wpList_nil ?_
            refine then_n ?_
            refine X_condT K rfl ?_
            refine wp_seq ?_
            refine X_reg ?_
            obtain ⟨r6, h_r6, h⟩ := obind h
            refine X_ac K (want_no rfl) rfl rfl (ac_call (vs := []) (cap := []) rfl fok13 K rfl rfl (W_darkslidelaw_toneBegun N  _  r6 h_r6)) ?_
            have M0 := M; clear K M; rintro _ a w ⟨rfl, M⟩ K
            have M := M0.call M
            clear M0
            refine X_rd K (want_no rfl) rfl rfl (rd_assign rfl K rfl) M ?_; clear K; intro a K
            refine wpList_nil ?_
            refine then_n ?_
            refine wp_ret ?_
            refine then_r ?_
            cases h
            exact ret1 K rfl (res_tmp K rfl) ⟨_, rfl, rfl, ((M).pick [] (by decide))⟩
          · have h := cfalse hb h
            have K := K.reb (s := 40) rfl hb
            refine X_rd K (K.yes rfl rfl rfl) rfl rfl (rd_move rfl K rfl) M ?_; clear K; intro a K
            refine X_rd K (K.yes rfl rfl rfl) rfl rfl (rd_gtr rfl K rfl rfl) M ?_; clear K; intro a K
            refine X_rd K (want_no rfl) rfl rfl (rd_pickF rfl K rfl rfl) M ?_; clear K; intro a K
            refine wpList_nil ?_
            refine then_n ?_
            refine X_cond K rfl (fun hb => ?_) (fun hb => ?_)
            · have h := ctrue hb h
              refine wp_seq ?_
              refine X_reg ?_
              obtain ⟨r7, h_r7, h⟩ := obind h
              refine X_ac K (want_no rfl) rfl rfl (ac_call (vs := []) (cap := []) rfl fok13 K rfl rfl (W_darkslidelaw_toneBegun N  _  r7 h_r7)) ?_
              have M0 := M; clear K M; rintro _ a w ⟨rfl, M⟩ K
              have M := M0.call M
              clear M0
              refine X_rd K (want_no rfl) rfl rfl (rd_assign rfl K rfl) M ?_; clear K; intro a K
              refine wpList_nil ?_
              refine then_n ?_
              refine wp_ret ?_
              refine then_r ?_
              cases h
              exact ret1 K rfl (res_tmp K rfl) ⟨_, rfl, rfl, ((M).pick [] (by decide))⟩
            · have h := cfalse hb h
              refine wp_skip ?_
              refine then_n ?_
              refine wp_seq ?_
              refine X_reg ?_
              refine X_rd K (want_no rfl) rfl rfl (rd_move rfl K rfl) M ?_; clear K; intro a K
              refine X_rd K (want_no rfl) rfl rfl (rd_move rfl K rfl) M ?_; clear K; intro a K
              refine X_rd K (want_no rfl) rfl rfl (rd_build rfl K (vs := [(0, .int .i64 o), (1, .int .i64 p2)]) (cs := [.int .i64 o, .int .i64 p2, .slice none (([] : List (Int × Int × Int))).length 0]) rfl (by kernel_rfl)) M ?_; clear K; intro a K
              refine X_ac K (want_no rfl) rfl rfl (ac_alloc rfl z24 M) ?_
              have M0 := M; clear K M; rintro _ a w ⟨g_x4, rfl, M⟩ K
              clear M0
              refine X_a0 K (want_no rfl) rfl (ac_storeA rfl ty24 K rfl (ds := [.int .i64 o, .int .i64 p2, .slice none (([] : List (Int × Int × Int))).length 0]) rfl rfl 0 M rfl rfl rfl) ?_
              have M0 := M; clear K M; rintro _ a w M K
              clear M0
              refine wpList_nil ?_
              refine then_n ?_
              refine wp_seq ?_
              refine wp_seq ?_
              refine X_reg ?_
              refine X_rd K (want_no rfl) rfl rfl (rd_assign rfl K rfl) M ?_; clear K; intro a K
              refine wpList_nil ?_
              refine then_n ?_
              refine wp_block ?_
              replace M := Mem.nilrow 34 3 cIII M
              refine X_lp (id := 0) (Rel := fun (⟨x_P, i⟩ : List (Int × Int × Int) × Int) a w => ∃ (A2 : Option Addr) (c2 : Nat), Kn a 77 [(1, .int .i64 o), (2, .int .i64 p2), (3, .int .i64 p3), (5, .pointer (some ⟨g_x, 0, none⟩)), (13, .pointer (some ⟨g_x4, 0, none⟩)), (14, .int .i64 i)] ∧ Mem w0.heap.size w0 w [.row 34 3 A2 x_P.length c2 (cIII.all x_P), .blk g_x4 24 [.int .i64 o, .int .i64 p2, .slice A2 x_P.length c2], .blk g_x 34 [.int .i64 d_R, .int .i64 d_G, .int .i64 d_B]]) h (fun _ _ => rfl) ⟨none, 0, K.pick [1,2,3,5,13,14], M.pick [0,1,5] (by decide)⟩ ?_ ?_
              · clear K M h
                rintro ⟨x_P4, i2⟩ a w ⟨A5, c5, K, M⟩ h
                try dsimp only at h
                refine inb_e ?_
                refine then_n ?_
                refine wp_seq ?_
                refine X_reg ?_
                refine X_rd K (want_no rfl) rfl rfl (rd_ldA rfl ty24 K rfl (inM 1 rfl) rfl rfl) M ?_; clear K; intro a K
                refine X_rd K (want_no rfl) rfl rfl (rd_move rfl K rfl) M ?_; clear K; intro a K
                obtain ⟨r8, h_r8, h⟩ := obind h
                refine X_ac K (want_no rfl) rfl rfl (ac_call (vs := [.agg #[.int .i64 o, .int .i64 p2, .slice A5 x_P4.length c5], .int .i64 p3]) (cap := []) rfl fok10 K rfl rfl (W_tone_Sharpen N o p2 x_P4 A5 c5 p3 _ ((inR (C := cIII) 0 rfl rfl) _ M) (M.cap 0 rfl) r8 h_r8)) ?_
                have M0 := M; clear K M; rintro _ a w ⟨A6, c6, rfl, M⟩ K
                have M := M0.call M
                clear M0
                refine X_rd K (want_no rfl) rfl rfl (rd_move rfl K rfl) M ?_; clear K; intro a K
                refine X_rd K (want_no rfl) rfl rfl (rd_extract rfl K rfl rfl) M ?_; clear K; intro a K
                refine X_rd K (want_no rfl) rfl rfl (rd_extract rfl K rfl rfl) M ?_; clear K; intro a K
                refine X_ac K (want_no rfl) rfl rfl (ac_alloc rfl z24 M) ?_
                have M0 := M; clear K M; rintro _ a w ⟨g_x5, rfl, M⟩ K
                clear M0
                refine X_a0 K (want_no rfl) rfl (ac_storeA rfl ty24 K rfl (ds := [.int .i64 r8.1, .int .i64 r8.2.1, .slice A6 r8.2.2.1.length c6]) rfl rfl 0 M rfl rfl rfl) ?_
                have M0 := M; clear K M; rintro _ a w M K
                clear M0
                refine X_rd K (want_no rfl) rfl rfl (rd_assign rfl K rfl) M ?_; clear K; intro a K
                refine wpList_nil ?_
                refine then_n ?_
                refine wp_seq ?_
                refine X_reg ?_
                obtain ⟨r9, h_r9, h⟩ := obind h
                refine X_ac K (want_no rfl) rfl rfl (ac_call (vs := []) (cap := []) rfl fok13 K rfl rfl (W_darkslidelaw_toneBegun N  _  r9 h_r9)) ?_
                have M0 := M; clear K M; rintro _ a w ⟨rfl, M⟩ K
                have M := M0.call M
                clear M0
                refine X_rd K (want_no rfl) rfl rfl (rd_move rfl K rfl) M ?_; clear K; intro a K
                rcases Bool.eq_false_or_eq_true (r9) with hb | hb
                · have h := ctrue hb h
                  have K := K.reb (s := 68) rfl hb
                  refine X_rd K (K.yes rfl rfl rfl) rfl rfl (rd_move rfl K rfl) M ?_; clear K; intro a K
                  refine X_rd K (K.yes rfl rfl rfl) rfl rfl (rd_neq rfl K rfl rfl) M ?_; clear K; intro a K
                  refine X_rd K (K.yes rfl rfl rfl) rfl rfl (rd_move rfl K rfl) M ?_; clear K; intro a K
                  rcases Bool.eq_false_or_eq_true (!decide (r8.2.2.2 = 0)) with hb | hb
                  · have h := ctrue hb h
                    have K := K.reb (s := 71) rfl hb
                    refine X_no K (K.no rfl rfl rfl rfl) rfl rfl ?_; clear K; intro a K
                    refine X_no K (K.no rfl rfl rfl rfl) rfl rfl ?_; clear K; intro a K
                    refine X_no K (K.no rfl rfl rfl rfl) rfl rfl ?_; clear K; intro a K
                    refine X_rd K (K.yes rfl rfl rfl) rfl rfl (rd_pickT rfl K rfl rfl) M ?_; clear K; intro a K
                    refine X_rd K (want_no rfl) rfl rfl (rd_pickT rfl K rfl rfl) M ?_; clear K; intro a K
                    refine X_rd K (want_no rfl) rfl rfl (rd_assign rfl K rfl) M ?_; clear K; intro a K
                    refine wpList_nil ?_
                    refine then_n ?_
                    refine wp_ret ?_
                    cases h
                    exact ret1 K rfl (res_tmp K rfl) ⟨_, rfl, rfl, ((M).pick [] (by decide))⟩
                  · have h := cfalse hb h
                    have K := K.reb (s := 71) rfl hb
                    refine X_rd K (K.yes rfl rfl rfl) rfl rfl (rd_ldA rfl ty24 K rfl (inM 0 rfl) rfl rfl) M ?_; clear K; intro a K
                    refine X_rd K (K.yes rfl rfl rfl) rfl rfl (rd_ldA rfl ty24 K rfl (inM 3 rfl) rfl rfl) M ?_; clear K; intro a K
                    obtain ⟨r10, h_r10, h⟩ := obind h
                    refine X_ac K (K.yes rfl rfl rfl) rfl rfl (ac_call (vs := [.agg #[.int .i64 r8.1, .int .i64 r8.2.1, .slice A6 r8.2.2.1.length c6], .agg #[.int .i64 o, .int .i64 p2, .slice A5 x_P4.length c5]]) (cap := []) rfl fok14 K rfl rfl (W_darkslideref_SamePictures N r8.1 r8.2.1 r8.2.2.1 A6 c6 o p2 x_P4 A5 c5 _ ((inR (C := cIII) 1 rfl rfl) _ M) (M.cap 1 rfl) ((inR (C := cIII) 2 rfl rfl) _ M) (M.cap 2 rfl) r10 h_r10)) ?_
                    have M0 := M; clear K M; rintro _ a w ⟨rfl, M⟩ K
                    have M := M0.call M
                    clear M0
                    refine X_rd K (K.yes rfl rfl rfl) rfl rfl (rd_pickF rfl K rfl rfl) M ?_; clear K; intro a K
                    refine X_rd K (want_no rfl) rfl rfl (rd_pickT rfl K rfl rfl) M ?_; clear K; intro a K
                    refine X_rd K (want_no rfl) rfl rfl (rd_assign rfl K rfl) M ?_; clear K; intro a K
                    refine wpList_nil ?_
                    refine then_n ?_
                    refine wp_ret ?_
                    cases h
                    exact ret1 K rfl (res_tmp K rfl) ⟨_, rfl, rfl, ((M).pick [] (by decide))⟩
                · have h := cfalse hb h
                  have K := K.reb (s := 68) rfl hb
                  refine X_no K (K.no rfl rfl rfl rfl) rfl rfl ?_; clear K; intro a K
                  refine X_no K (K.no rfl rfl rfl rfl) rfl rfl ?_; clear K; intro a K
                  refine X_no K (K.no rfl rfl rfl rfl) rfl rfl ?_; clear K; intro a K
                  refine X_no K (K.nou rfl rfl rfl) rfl rfl ?_; clear K; intro a K
                  refine X_no K (K.nou rfl rfl rfl) rfl rfl ?_; clear K; intro a K
                  refine X_no K (K.nou rfl rfl rfl) rfl rfl ?_; clear K; intro a K
                  refine X_no K (K.no rfl rfl rfl rfl) rfl rfl ?_; clear K; intro a K
                  refine X_rd K (want_no rfl) rfl rfl (rd_pickF rfl K rfl rfl) M ?_; clear K; intro a K
                  refine X_rd K (want_no rfl) rfl rfl (rd_assign rfl K rfl) M ?_; clear K; intro a K
                  refine wpList_nil ?_
                  refine then_n ?_
                  refine wp_ret ?_
                  cases h
                  exact ret1 K rfl (res_tmp K rfl) ⟨_, rfl, rfl, ((M).pick [] (by decide))⟩
              · clear K M h
                rintro kk fuel ⟨x_P, i⟩ a w hk1 ⟨A2, c2, K, M⟩ h
                unfold D_darkslidelaw_ToneFlat_l1 at h
                refine wp_seq ?_
                refine wp_seq ?_
                refine X_reg ?_
                refine X_rd K (want_no rfl) rfl rfl (rd_move rfl K rfl) M ?_; clear K; intro a K
                refine X_rd K (want_no rfl) rfl rfl (rd_move rfl K rfl) M ?_; clear K; intro a K
                refine X_rd K (want_no rfl) rfl rfl (rd_move rfl K rfl) M ?_; clear K; intro a K
                refine X_rd K (want_no rfl) rfl rfl (rd_mul rfl K rfl rfl) M ?_; clear K; intro a K
                refine X_rd K (want_no rfl) rfl rfl (rd_lss rfl K rfl rfl) M ?_; clear K; intro a K
                refine wpList_nil ?_
                refine then_n ?_
                refine X_cond K rfl (fun hb => ?_) (fun hb => ?_)
                · have h := ctrue hb h
                  refine wp_skip ?_
                  refine then_n ?_
                  refine wp_seq ?_
                  refine wp_block ?_
                  refine X_reg ?_
                  refine X_rd K (want_no rfl) rfl rfl (rd_field rfl fld24_2 K rfl) M ?_; clear K; intro a K
                  refine X_rd K (want_no rfl) rfl rfl (rd_ldC rfl sc22 K rfl (inM 1 rfl) rfl) M ?_; clear K; intro a K
                  refine X_rd K (want_no rfl) rfl rfl (rd_ldA rfl ty34 K rfl (inM 2 rfl) rfl rfl) M ?_; clear K; intro a K
                  refine X_ac K (want_no rfl) rfl rfl (ac_bslice rfl sl22 z34 K (vs := [(0, .agg #[.int .i64 d_R, .int .i64 d_G, .int .i64 d_B])]) (cs := [.int .i64 d_R, .int .i64 d_G, .int .i64 d_B]) rfl (by kernel_rfl) rfl rfl M) ?_
                  have M0 := M; clear K M; rintro _ a w ⟨gs2, rfl, M⟩ K
                  replace M := M.asRow 0 rfl cIII ([(d_R, d_G, d_B)] : List (Int × Int × Int)) (n := 1) rfl rfl rfl
                  clear M0
                  obtain ⟨x_P3, h_x_P3, h⟩ := obind h
                  refine X_ac K (want_no rfl) rfl rfl (ac_app (C := cIII) (xs := x_P) (ys := ([(d_R, d_G, d_B)] : List (Int × Int × Int))) rfl sl22 rfl z34 rfl rfl K rfl rfl 1 M rfl ((inR (C := cIII) 0 rfl rfl) _ M) h_x_P3) ?_
                  have M0 := M; clear K M; rintro _ a w ⟨A4, c4, rfl, M⟩ K
                  clear M0
                  refine X_rd K (want_no rfl) rfl rfl (rd_field rfl fld24_2 K rfl) M ?_; clear K; intro a K
                  refine X_a0 K (want_no rfl) rfl (ac_storeC rfl sc22 K rfl rfl rfl 2 M rfl rfl) ?_
                  have M0 := M; clear K M; rintro _ a w M K
                  clear M0
                  refine wpList_nil ?_
                  refine inb_n ?_
                  refine then_n ?_
                  refine X_reg ?_
                  refine X_rd K (want_no rfl) rfl rfl (rd_move rfl K rfl) M ?_; clear K; intro a K
                  refine X_rd K (want_no rfl) rfl rfl (rd_add rfl K rfl rfl) M ?_; clear K; intro a K
                  obtain ⟨x3, hx, h⟩ := olet h
                  refine X_rd K (want_no rfl) rfl rfl (rdi hx (rd_assign rfl K rfl)) M ?_; clear K; intro a K
                  refine wpList_nil ?_
                  exact then_n ⟨(x_P3, x3), ⟨A4, c4, K.pick [1,2,3,5,13,14], M.pick [1,2,3] (by decide)⟩, h⟩
                · have h := cfalse hb h
                  refine wp_exit ?_
                  refine then_e ?_
                  exact then_e (hk1 (x_P, i) _ _ ⟨A2, c2, K.pick [1,2,3,5,13,14], M.pick [0,1,2] (by decide)⟩ h)
  · have h := cfalse hb h
    have K := K.reb (s := 24) rfl hb
    refine X_no K (K.no rfl rfl rfl rfl) rfl rfl ?_; clear K; intro a K
    refine X_no K (K.no rfl rfl rfl rfl) rfl rfl ?_; clear K; intro a K
    refine X_no K (K.no rfl rfl rfl rfl) rfl rfl ?_; clear K; intro a K
    refine X_no K (K.no rfl rfl rfl rfl) rfl rfl ?_; clear K; intro a K
    refine X_rd K (want_no rfl) rfl rfl (rd_pickF rfl K rfl rfl) M ?_; clear K; intro a K
    refine wpList_nil ?_
    refine then_n ?_
    refine X_condF K rfl ?_
    refine wp_skip ?_
    refine then_n ?_
    refine wp_seq ?_
    refine wp_seq ?_
    refine X_reg ?_
    refine X_rd K (want_no rfl) rfl rfl (rd_move rfl K rfl) M ?_; clear K; intro a K
    refine X_rd K (want_no rfl) rfl rfl (rd_lss rfl K rfl rfl) M ?_; clear K; intro a K
    refine X_rd K (want_no rfl) rfl rfl (rd_move rfl K rfl) M ?_; clear K; intro a K
    rcases Bool.eq_false_or_eq_true (decide (o < 1)) with hb | hb
    · have h := ctrue hb h
      have K := K.reb (s := 32) rfl hb
      refine X_no K (K.no rfl rfl rfl rfl) rfl rfl ?_; clear K; intro a K
      refine X_no K (K.no rfl rfl rfl rfl) rfl rfl ?_; clear K; intro a K
      refine X_rd K (want_no rfl) rfl rfl (rd_pickT rfl K rfl rfl) M ?_; clear K; intro a K
      refine X_rd K (want_no rfl) rfl rfl (rd_move rfl K rfl) M ?_; clear K; intro a K
      refine X_no K (K.no rfl rfl rfl rfl) rfl rfl ?_; clear K; intro a K
      refine X_no K (K.no rfl rfl rfl rfl) rfl rfl ?_; clear K; intro a K
      refine X_rd K (want_no rfl) rfl rfl (rd_pickT rfl K rfl rfl) M ?_; clear K; intro a K
      refine X_rd K (want_no rfl) rfl rfl (rd_move rfl K rfl) M ?_; clear K; intro a K
      refine X_no K (K.no rfl rfl rfl rfl) rfl rfl ?_; clear K; intro a K
      refine X_no K (K.no rfl rfl rfl rfl) rfl rfl ?_; clear K; intro a K
      refine X_rd K (want_no rfl) rfl rfl (rd_pickT rfl K rfl rfl) M ?_; clear K; intro a K
      refine wpList_nil ?_
      refine then_n ?_
      refine X_condT K rfl ?_
      refine wp_seq ?_
      refine X_reg ?_
      obtain ⟨r11, h_r11, h⟩ := obind h
      refine X_ac K (want_no rfl) rfl rfl (ac_call (vs := []) (cap := []) rfl fok13 K rfl rfl (W_darkslidelaw_toneBegun N  _  r11 h_r11)) ?_
      have M0 := M; clear K M; rintro _ a w ⟨rfl, M⟩ K
      have M := M0.call M
      clear M0
      refine X_rd K (want_no rfl) rfl rfl (rd_assign rfl K rfl) M ?_; clear K; intro a K
      refine wpList_nil ?_
      refine then_n ?_
      refine wp_ret ?_
      refine then_r ?_
      cases h
      exact ret1 K rfl (res_tmp K rfl) ⟨_, rfl, rfl, ((M).pick [] (by decide))⟩
    · have h := cfalse hb h
      have K := K.reb (s := 32) rfl hb
      refine X_rd K (K.yes rfl rfl rfl) rfl rfl (rd_move rfl K rfl) M ?_; clear K; intro a K
      refine X_rd K (K.yes rfl rfl rfl) rfl rfl (rd_gtr rfl K rfl rfl) M ?_; clear K; intro a K
      refine X_rd K (want_no rfl) rfl rfl (rd_pickF rfl K rfl rfl) M ?_; clear K; intro a K
      refine X_rd K (want_no rfl) rfl rfl (rd_move rfl K rfl) M ?_; clear K; intro a K
      rcases Bool.eq_false_or_eq_true (decide (64 < o)) with hb | hb
      · have h := ctrue hb h
        have K := K.reb (s := 36) rfl hb
        refine X_no K (K.no rfl rfl rfl rfl) rfl rfl ?_; clear K; intro a K
        refine X_no K (K.no rfl rfl rfl rfl) rfl rfl ?_; clear K; intro a K
        refine X_rd K (want_no rfl) rfl rfl (rd_pickT rfl K rfl rfl) M ?_; clear K; intro a K
        refine X_rd K (want_no rfl) rfl rfl (rd_move rfl K rfl) M ?_; clear K; intro a K
        refine X_no K (K.no rfl rfl rfl rfl) rfl rfl ?_; clear K; intro a K
        refine X_no K (K.no rfl rfl rfl rfl) rfl rfl ?_; clear K; intro a K
        refine X_rd K (want_no rfl) rfl rfl (rd_pickT rfl K rfl rfl) M ?_; clear K; intro a K
        refine wpList_nil ?_
        refine then_n ?_
        refine X_condT K rfl ?_
        refine wp_seq ?_
        refine X_reg ?_
        obtain ⟨r12, h_r12, h⟩ := obind h
        refine X_ac K (want_no rfl) rfl rfl (ac_call (vs := []) (cap := []) rfl fok13 K rfl rfl (W_darkslidelaw_toneBegun N  _  r12 h_r12)) ?_
        have M0 := M; clear K M; rintro _ a w ⟨rfl, M⟩ K
        have M := M0.call M
        clear M0
        refine X_rd K (want_no rfl) rfl rfl (rd_assign rfl K rfl) M ?_; clear K; intro a K
        refine wpList_nil ?_
        refine then_n ?_
        refine wp_ret ?_
        refine then_r ?_
        cases h
        exact ret1 K rfl (res_tmp K rfl) ⟨_, rfl, rfl, ((M).pick [] (by decide))⟩
      · have h := cfalse hb h
        have K := K.reb (s := 36) rfl hb
        refine X_rd K (K.yes rfl rfl rfl) rfl rfl (rd_move rfl K rfl) M ?_; clear K; intro a K
        refine X_rd K (K.yes rfl rfl rfl) rfl rfl (rd_lss rfl K rfl rfl) M ?_; clear K; intro a K
        refine X_rd K (want_no rfl) rfl rfl (rd_pickF rfl K rfl rfl) M ?_; clear K; intro a K
        refine X_rd K (want_no rfl) rfl rfl (rd_move rfl K rfl) M ?_; clear K; intro a K
        rcases Bool.eq_false_or_eq_true (decide (p2 < 1)) with hb | hb
        · have h := ctrue hb h
          have K := K.reb (s := 40) rfl hb
          refine X_no K (K.no rfl rfl rfl rfl) rfl rfl ?_; clear K; intro a K
          refine X_no K (K.no rfl rfl rfl rfl) rfl rfl ?_; clear K; intro a K
          refine X_rd K (want_no rfl) rfl rfl (rd_pickT rfl K rfl rfl) M ?_; clear K; intro a K
          refine wpList_nil ?_
          refine then_n ?_
          refine X_condT K rfl ?_
          refine wp_seq ?_
          refine X_reg ?_
          obtain ⟨r13, h_r13, h⟩ := obind h
          refine X_ac K (want_no rfl) rfl rfl (ac_call (vs := []) (cap := []) rfl fok13 K rfl rfl (W_darkslidelaw_toneBegun N  _  r13 h_r13)) ?_
          have M0 := M; clear K M; rintro _ a w ⟨rfl, M⟩ K
          have M := M0.call M
          clear M0
          refine X_rd K (want_no rfl) rfl rfl (rd_assign rfl K rfl) M ?_; clear K; intro a K
          refine wpList_nil ?_
          refine then_n ?_
          refine wp_ret ?_
          refine then_r ?_
          cases h
          exact ret1 K rfl (res_tmp K rfl) ⟨_, rfl, rfl, ((M).pick [] (by decide))⟩
        · have h := cfalse hb h
          have K := K.reb (s := 40) rfl hb
          refine X_rd K (K.yes rfl rfl rfl) rfl rfl (rd_move rfl K rfl) M ?_; clear K; intro a K
          refine X_rd K (K.yes rfl rfl rfl) rfl rfl (rd_gtr rfl K rfl rfl) M ?_; clear K; intro a K
          refine X_rd K (want_no rfl) rfl rfl (rd_pickF rfl K rfl rfl) M ?_; clear K; intro a K
          refine wpList_nil ?_
          refine then_n ?_
          refine X_cond K rfl (fun hb => ?_) (fun hb => ?_)
          · have h := ctrue hb h
            refine wp_seq ?_
            refine X_reg ?_
            obtain ⟨r14, h_r14, h⟩ := obind h
            refine X_ac K (want_no rfl) rfl rfl (ac_call (vs := []) (cap := []) rfl fok13 K rfl rfl (W_darkslidelaw_toneBegun N  _  r14 h_r14)) ?_
            have M0 := M; clear K M; rintro _ a w ⟨rfl, M⟩ K
            have M := M0.call M
            clear M0
            refine X_rd K (want_no rfl) rfl rfl (rd_assign rfl K rfl) M ?_; clear K; intro a K
            refine wpList_nil ?_
            refine then_n ?_
            refine wp_ret ?_
            refine then_r ?_
            cases h
            exact ret1 K rfl (res_tmp K rfl) ⟨_, rfl, rfl, ((M).pick [] (by decide))⟩
          · have h := cfalse hb h
            refine wp_skip ?_
            refine then_n ?_
            refine wp_seq ?_
            refine X_reg ?_
            refine X_rd K (want_no rfl) rfl rfl (rd_move rfl K rfl) M ?_; clear K; intro a K
            refine X_rd K (want_no rfl) rfl rfl (rd_move rfl K rfl) M ?_; clear K; intro a K
            refine X_rd K (want_no rfl) rfl rfl (rd_build rfl K (vs := [(0, .int .i64 o), (1, .int .i64 p2)]) (cs := [.int .i64 o, .int .i64 p2, .slice none (([] : List (Int × Int × Int))).length 0]) rfl (by kernel_rfl)) M ?_; clear K; intro a K
            refine X_ac K (want_no rfl) rfl rfl (ac_alloc rfl z24 M) ?_
            have M0 := M; clear K M; rintro _ a w ⟨g_x6, rfl, M⟩ K
            clear M0
            refine X_a0 K (want_no rfl) rfl (ac_storeA rfl ty24 K rfl (ds := [.int .i64 o, .int .i64 p2, .slice none (([] : List (Int × Int × Int))).length 0]) rfl rfl 0 M rfl rfl rfl) ?_
            have M0 := M; clear K M; rintro _ a w M K
            clear M0
            refine wpList_nil ?_
            refine then_n ?_
            refine wp_seq ?_
            refine wp_seq ?_
            refine X_reg ?_
            refine X_rd K (want_no rfl) rfl rfl (rd_assign rfl K rfl) M ?_; clear K; intro a K
            refine wpList_nil ?_
            refine then_n ?_
            refine wp_block ?_
            replace M := Mem.nilrow 34 3 cIII M
            refine X_lp (id := 0) (Rel := fun (⟨x_P5, i3⟩ : List (Int × Int × Int) × Int) a w => ∃ (A7 : Option Addr) (c7 : Nat), Kn a 77 [(1, .int .i64 o), (2, .int .i64 p2), (3, .int .i64 p3), (5, .pointer (some ⟨g_x, 0, none⟩)), (13, .pointer (some ⟨g_x6, 0, none⟩)), (14, .int .i64 i3)] ∧ Mem w0.heap.size w0 w [.row 34 3 A7 x_P5.length c7 (cIII.all x_P5), .blk g_x6 24 [.int .i64 o, .int .i64 p2, .slice A7 x_P5.length c7], .blk g_x 34 [.int .i64 d_R, .int .i64 d_G, .int .i64 d_B]]) h (fun _ _ => rfl) ⟨none, 0, K.pick [1,2,3,5,13,14], M.pick [0,1,5] (by decide)⟩ ?_ ?_
            · clear K M h
              rintro ⟨x_P8, i4⟩ a w ⟨A10, c10, K, M⟩ h
              try dsimp only at h
              refine inb_e ?_
              refine then_n ?_
              refine wp_seq ?_
              refine X_reg ?_
              refine X_rd K (want_no rfl) rfl rfl (rd_ldA rfl ty24 K rfl (inM 1 rfl) rfl rfl) M ?_; clear K; intro a K
              refine X_rd K (want_no rfl) rfl rfl (rd_move rfl K rfl) M ?_; clear K; intro a K
              obtain ⟨r15, h_r15, h⟩ := obind h
              refine X_ac K (want_no rfl) rfl rfl (ac_call (vs := [.agg #[.int .i64 o, .int .i64 p2, .slice A10 x_P8.length c10], .int .i64 p3]) (cap := []) rfl fok10 K rfl rfl (W_tone_Sharpen N o p2 x_P8 A10 c10 p3 _ ((inR (C := cIII) 0 rfl rfl) _ M) (M.cap 0 rfl) r15 h_r15)) ?_
              have M0 := M; clear K M; rintro _ a w ⟨A11, c11, rfl, M⟩ K
              have M := M0.call M
              clear M0
              refine X_rd K (want_no rfl) rfl rfl (rd_move rfl K rfl) M ?_; clear K; intro a K
              refine X_rd K (want_no rfl) rfl rfl (rd_extract rfl K rfl rfl) M ?_; clear K; intro a K
              refine X_rd K (want_no rfl) rfl rfl (rd_extract rfl K rfl rfl) M ?_; clear K; intro a K
              refine X_ac K (want_no rfl) rfl rfl (ac_alloc rfl z24 M) ?_
              have M0 := M; clear K M; rintro _ a w ⟨g_x7, rfl, M⟩ K
              clear M0
              refine X_a0 K (want_no rfl) rfl (ac_storeA rfl ty24 K rfl (ds := [.int .i64 r15.1, .int .i64 r15.2.1, .slice A11 r15.2.2.1.length c11]) rfl rfl 0 M rfl rfl rfl) ?_
              have M0 := M; clear K M; rintro _ a w M K
              clear M0
              refine X_rd K (want_no rfl) rfl rfl (rd_assign rfl K rfl) M ?_; clear K; intro a K
              refine wpList_nil ?_
              refine then_n ?_
              refine wp_seq ?_
              refine X_reg ?_
              obtain ⟨r16, h_r16, h⟩ := obind h
              refine X_ac K (want_no rfl) rfl rfl (ac_call (vs := []) (cap := []) rfl fok13 K rfl rfl (W_darkslidelaw_toneBegun N  _  r16 h_r16)) ?_
              have M0 := M; clear K M; rintro _ a w ⟨rfl, M⟩ K
              have M := M0.call M
              clear M0
              refine X_rd K (want_no rfl) rfl rfl (rd_move rfl K rfl) M ?_; clear K; intro a K
              rcases Bool.eq_false_or_eq_true (r16) with hb | hb
              · have h := ctrue hb h
                have K := K.reb (s := 68) rfl hb
                refine X_rd K (K.yes rfl rfl rfl) rfl rfl (rd_move rfl K rfl) M ?_; clear K; intro a K
                refine X_rd K (K.yes rfl rfl rfl) rfl rfl (rd_neq rfl K rfl rfl) M ?_; clear K; intro a K
                refine X_rd K (K.yes rfl rfl rfl) rfl rfl (rd_move rfl K rfl) M ?_; clear K; intro a K
                rcases Bool.eq_false_or_eq_true (!decide (r15.2.2.2 = 0)) with hb | hb
                · have h := ctrue hb h
                  have K := K.reb (s := 71) rfl hb
                  refine X_no K (K.no rfl rfl rfl rfl) rfl rfl ?_; clear K; intro a K
                  refine X_no K (K.no rfl rfl rfl rfl) rfl rfl ?_; clear K; intro a K
                  refine X_no K (K.no rfl rfl rfl rfl) rfl rfl ?_; clear K; intro a K
                  refine X_rd K (K.yes rfl rfl rfl) rfl rfl (rd_pickT rfl K rfl rfl) M ?_; clear K; intro a K
                  refine X_rd K (want_no rfl) rfl rfl (rd_pickT rfl K rfl rfl) M ?_; clear K; intro a K
                  refine X_rd K (want_no rfl) rfl rfl (rd_assign rfl K rfl) M ?_; clear K; intro a K
                  refine wpList_nil ?_
                  refine then_n ?_
                  refine wp_ret ?_
                  cases h
                  exact ret1 K rfl (res_tmp K rfl) ⟨_, rfl, rfl, ((M).pick [] (by decide))⟩
                · have h := cfalse hb h
                  have K := K.reb (s := 71) rfl hb
                  refine X_rd K (K.yes rfl rfl rfl) rfl rfl (rd_ldA rfl ty24 K rfl (inM 0 rfl) rfl rfl) M ?_; clear K; intro a K
                  refine X_rd K (K.yes rfl rfl rfl) rfl rfl (rd_ldA rfl ty24 K rfl (inM 3 rfl) rfl rfl) M ?_; clear K; intro a K
                  obtain ⟨r17, h_r17, h⟩ := obind h
                  refine X_ac K (K.yes rfl rfl rfl) rfl rfl (ac_call (vs := [.agg #[.int .i64 r15.1, .int .i64 r15.2.1, .slice A11 r15.2.2.1.length c11], .agg #[.int .i64 o, .int .i64 p2, .slice A10 x_P8.length c10]]) (cap := []) rfl fok14 K rfl rfl (W_darkslideref_SamePictures N r15.1 r15.2.1 r15.2.2.1 A11 c11 o p2 x_P8 A10 c10 _ ((inR (C := cIII) 1 rfl rfl) _ M) (M.cap 1 rfl) ((inR (C := cIII) 2 rfl rfl) _ M) (M.cap 2 rfl) r17 h_r17)) ?_
                  have M0 := M; clear K M; rintro _ a w ⟨rfl, M⟩ K
                  have M := M0.call M
                  clear M0
                  refine X_rd K (K.yes rfl rfl rfl) rfl rfl (rd_pickF rfl K rfl rfl) M ?_; clear K; intro a K
                  refine X_rd K (want_no rfl) rfl rfl (rd_pickT rfl K rfl rfl) M ?_; clear K; intro a K
                  refine X_rd K (want_no rfl) rfl rfl (rd_assign rfl K rfl) M ?_; clear K; intro a K
                  refine wpList_nil ?_
                  refine then_n ?_
                  refine wp_ret ?_
                  cases h
                  exact ret1 K rfl (res_tmp K rfl) ⟨_, rfl, rfl, ((M).pick [] (by decide))⟩
              · have h := cfalse hb h
                have K := K.reb (s := 68) rfl hb
                refine X_no K (K.no rfl rfl rfl rfl) rfl rfl ?_; clear K; intro a K
                refine X_no K (K.no rfl rfl rfl rfl) rfl rfl ?_; clear K; intro a K
                refine X_no K (K.no rfl rfl rfl rfl) rfl rfl ?_; clear K; intro a K
                refine X_no K (K.nou rfl rfl rfl) rfl rfl ?_; clear K; intro a K
                refine X_no K (K.nou rfl rfl rfl) rfl rfl ?_; clear K; intro a K
                refine X_no K (K.nou rfl rfl rfl) rfl rfl ?_; clear K; intro a K
                refine X_no K (K.no rfl rfl rfl rfl) rfl rfl ?_; clear K; intro a K
                refine X_rd K (want_no rfl) rfl rfl (rd_pickF rfl K rfl rfl) M ?_; clear K; intro a K
                refine X_rd K (want_no rfl) rfl rfl (rd_assign rfl K rfl) M ?_; clear K; intro a K
                refine wpList_nil ?_
                refine then_n ?_
                refine wp_ret ?_
                cases h
                exact ret1 K rfl (res_tmp K rfl) ⟨_, rfl, rfl, ((M).pick [] (by decide))⟩
            · clear K M h
              rintro kk fuel ⟨x_P5, i3⟩ a w hk2 ⟨A7, c7, K, M⟩ h
              unfold D_darkslidelaw_ToneFlat_l2 at h
              refine wp_seq ?_
              refine wp_seq ?_
              refine X_reg ?_
              refine X_rd K (want_no rfl) rfl rfl (rd_move rfl K rfl) M ?_; clear K; intro a K
              refine X_rd K (want_no rfl) rfl rfl (rd_move rfl K rfl) M ?_; clear K; intro a K
              refine X_rd K (want_no rfl) rfl rfl (rd_move rfl K rfl) M ?_; clear K; intro a K
              refine X_rd K (want_no rfl) rfl rfl (rd_mul rfl K rfl rfl) M ?_; clear K; intro a K
              refine X_rd K (want_no rfl) rfl rfl (rd_lss rfl K rfl rfl) M ?_; clear K; intro a K
              refine wpList_nil ?_
              refine then_n ?_
              refine X_cond K rfl (fun hb => ?_) (fun hb => ?_)
              · have h := ctrue hb h
                refine wp_skip ?_
                refine then_n ?_
                refine wp_seq ?_
                refine wp_block ?_
                refine X_reg ?_
                refine X_rd K (want_no rfl) rfl rfl (rd_field rfl fld24_2 K rfl) M ?_; clear K; intro a K
                refine X_rd K (want_no rfl) rfl rfl (rd_ldC rfl sc22 K rfl (inM 1 rfl) rfl) M ?_; clear K; intro a K
                refine X_rd K (want_no rfl) rfl rfl (rd_ldA rfl ty34 K rfl (inM 2 rfl) rfl rfl) M ?_; clear K; intro a K
                refine X_ac K (want_no rfl) rfl rfl (ac_bslice rfl sl22 z34 K (vs := [(0, .agg #[.int .i64 d_R, .int .i64 d_G, .int .i64 d_B])]) (cs := [.int .i64 d_R, .int .i64 d_G, .int .i64 d_B]) rfl (by kernel_rfl) rfl rfl M) ?_
                have M0 := M; clear K M; rintro _ a w ⟨gs4, rfl, M⟩ K
                replace M := M.asRow 0 rfl cIII ([(d_R, d_G, d_B)] : List (Int × Int × Int)) (n := 1) rfl rfl rfl
                clear M0
                obtain ⟨x_P7, h_x_P7, h⟩ := obind h
                refine X_ac K (want_no rfl) rfl rfl (ac_app (C := cIII) (xs := x_P5) (ys := ([(d_R, d_G, d_B)] : List (Int × Int × Int))) rfl sl22 rfl z34 rfl rfl K rfl rfl 1 M rfl ((inR (C := cIII) 0 rfl rfl) _ M) h_x_P7) ?_
                have M0 := M; clear K M; rintro _ a w ⟨A9, c9, rfl, M⟩ K
                clear M0
                refine X_rd K (want_no rfl) rfl rfl (rd_field rfl fld24_2 K rfl) M ?_; clear K; intro a K
                refine X_a0 K (want_no rfl) rfl (ac_storeC rfl sc22 K rfl rfl rfl 2 M rfl rfl) ?_
                have M0 := M; clear K M; rintro _ a w M K
                clear M0
                refine wpList_nil ?_
                refine inb_n ?_
                refine then_n ?_
                refine X_reg ?_
                refine X_rd K (want_no rfl) rfl rfl (rd_move rfl K rfl) M ?_; clear K; intro a K
                refine X_rd K (want_no rfl) rfl rfl (rd_add rfl K rfl rfl) M ?_; clear K; intro a K
                obtain ⟨x5, hx, h⟩ := olet h
                refine X_rd K (want_no rfl) rfl rfl (rdi hx (rd_assign rfl K rfl)) M ?_; clear K; intro a K
                refine wpList_nil ?_
                exact then_n ⟨(x_P7, x5), ⟨A9, c9, K.pick [1,2,3,5,13,14], M.pick [1,2,3] (by decide)⟩, h⟩
              · have h := cfalse hb h
                refine wp_exit ?_
                refine then_e ?_
                exact then_e (hk2 (x_P5, i3) _ _ ⟨A7, c7, K.pick [1,2,3,5,13,14], M.pick [0,1,2] (by decide)⟩ h)

end Go.Proofs.Ytpmnfhifmmfglab
