/- Printed by a program (walk.py): the walks of darkslidelaw_TurnBack: each function computes what its plain program tells. -/
import Derived.Test.YtpmnfhifmmfglaaFacts
import Derived.Test.YtpmnfhifmmfglaaDD
import Derived.Test.YtpmnfhifmmfglaaWLawTurnbegun
import Derived.Test.YtpmnfhifmmfglaaWRefSamepictures
import Derived.Test.YtpmnfhifmmfglaaWTurn
set_option linter.unusedVariables false
set_option linter.unusedSimpArgs false
set_option linter.unusedSectionVars false
namespace Go.Proofs.Ytpmnfhifmmfglaa
open Go.RowKit

set_option maxRecDepth 100000 in
set_option maxHeartbeats 4000000 in
theorem W_darkslidelaw_TurnBack (N : Nat) (d_W : Int) (d_H : Int) (d_P : List (Int × Int × Int)) (A_d_P : Option Addr) (c_d_P : Nat) (o : Int) (p2 : Int) (p3_X : Int) (p3_Y : Int) (p3_W : Int) (p3_H : Int) (w0 : World) (R_d_P : SL w0 cIII A_d_P d_P) (C_d_P : d_P.length ≤ c_d_P) (r : Bool) (h : D_darkslidelaw_TurnBack N d_W d_H d_P o p2 p3_X p3_Y p3_W p3_H = some r) :
    Calls Try.prog 8 #[.agg #[.int .i64 d_W, .int .i64 d_H, .slice A_d_P d_P.length c_d_P], .int .i64 o, .int .i64 p2, .agg #[.int .i64 p3_X, .int .i64 p3_Y, .int .i64 p3_W, .int .i64 p3_H]] w0 fun e w' => ∃ v, e = .returned v ∧ v = .bool r ∧ Mem w0.heap.size w0 w' [] := by
  refine X_enter Try.func8 rfl Try.ntmps8 rfl ?_
  intro a K
  have M := Mem.start w0
  have K : Kn a 154 [(0, .agg #[.int .i64 d_W, .int .i64 d_H, .slice A_d_P d_P.length c_d_P]), (1, .int .i64 o), (2, .int .i64 p2), (3, .agg #[.int .i64 p3_X, .int .i64 p3_Y, .int .i64 p3_W, .int .i64 p3_H])] := K
  unfold D_darkslidelaw_TurnBack at h
  refine wp_seq ?_
  refine X_reg ?_
  refine X_ac K (want_no rfl) rfl rfl (ac_box rfl K rfl (cs := [.int .i64 d_W, .int .i64 d_H, .slice A_d_P d_P.length c_d_P]) rfl M) ?_
  have M0 := M; clear K M; rintro _ a w ⟨g_x, rfl, M⟩ K
  clear M0
  refine X_ac K (want_no rfl) rfl rfl (ac_box rfl K rfl (cs := [.int .i64 p3_X, .int .i64 p3_Y, .int .i64 p3_W, .int .i64 p3_H]) rfl M) ?_
  have M0 := M; clear K M; rintro _ a w ⟨g_x2, rfl, M⟩ K
  clear M0
  refine X_rd K (want_no rfl) rfl rfl (rd_assign rfl K rfl) M ?_; clear K; intro a K
  refine wpList_nil ?_
  refine then_n ?_
  refine wp_seq ?_
  refine X_reg ?_
  refine X_rd K (want_no rfl) rfl rfl (rd_ldA rfl ty49 K rfl (inM 1 rfl) rfl rfl) M ?_; clear K; intro a K
  refine X_rd K (want_no rfl) rfl rfl (rd_move rfl K rfl) M ?_; clear K; intro a K
  obtain ⟨r2, h_r2, h⟩ := obind h
  refine X_ac K (want_no rfl) rfl rfl (ac_call (vs := [.agg #[.int .i64 d_W, .int .i64 d_H, .slice A_d_P d_P.length c_d_P], .int .i64 o]) (cap := []) rfl fok32 K rfl rfl (W_turn_Turn N d_W d_H d_P A_d_P c_d_P o _ ((inA R_d_P) _ M) C_d_P r2 h_r2)) ?_
  have M0 := M; clear K M; rintro _ a w ⟨A, c, rfl, M⟩ K
  have M := M0.call M
  clear M0
  refine X_rd K (want_no rfl) rfl rfl (rd_move rfl K rfl) M ?_; clear K; intro a K
  refine X_rd K (want_no rfl) rfl rfl (rd_extract rfl K rfl rfl) M ?_; clear K; intro a K
  refine X_rd K (want_no rfl) rfl rfl (rd_extract rfl K rfl rfl) M ?_; clear K; intro a K
  refine X_ac K (want_no rfl) rfl rfl (ac_alloc rfl z49 M) ?_
  have M0 := M; clear K M; rintro _ a w ⟨g_x3, rfl, M⟩ K
  clear M0
  refine X_a0 K (want_no rfl) rfl (ac_storeA rfl ty49 K rfl (ds := [.int .i64 r2.1, .int .i64 r2.2.1, .slice A r2.2.2.1.length c]) rfl rfl 0 M rfl rfl rfl) ?_
  have M0 := M; clear K M; rintro _ a w M K
  clear M0
  refine X_rd K (want_no rfl) rfl rfl (rd_assign rfl K rfl) M ?_; clear K; intro a K
  refine wpList_nil ?_
  refine then_n ?_
  refine wp_seq ?_
  refine X_reg ?_
  refine X_rd K (want_no rfl) rfl rfl (rd_ldA rfl ty49 K rfl (inM 0 rfl) rfl rfl) M ?_; clear K; intro a K
  refine X_rd K (want_no rfl) rfl rfl (rd_move rfl K rfl) M ?_; clear K; intro a K
  obtain ⟨r3, h_r3, h⟩ := obind h
  refine X_ac K (want_no rfl) rfl rfl (ac_call (vs := [.agg #[.int .i64 r2.1, .int .i64 r2.2.1, .slice A r2.2.2.1.length c], .int .i64 p2]) (cap := []) rfl fok32 K rfl rfl (W_turn_Turn N r2.1 r2.2.1 r2.2.2.1 A c p2 _ ((inR (C := cIII) 1 rfl rfl) _ M) (M.cap 1 rfl) r3 h_r3)) ?_
  have M0 := M; clear K M; rintro _ a w ⟨A2, c2, rfl, M⟩ K
  have M := M0.call M
  clear M0
  refine X_rd K (want_no rfl) rfl rfl (rd_move rfl K rfl) M ?_; clear K; intro a K
  refine X_rd K (want_no rfl) rfl rfl (rd_extract rfl K rfl rfl) M ?_; clear K; intro a K
  refine X_rd K (want_no rfl) rfl rfl (rd_extract rfl K rfl rfl) M ?_; clear K; intro a K
  refine X_ac K (want_no rfl) rfl rfl (ac_alloc rfl z49 M) ?_
  have M0 := M; clear K M; rintro _ a w ⟨g_x4, rfl, M⟩ K
  clear M0
  refine X_a0 K (want_no rfl) rfl (ac_storeA rfl ty49 K rfl (ds := [.int .i64 r3.1, .int .i64 r3.2.1, .slice A2 r3.2.2.1.length c2]) rfl rfl 0 M rfl rfl rfl) ?_
  have M0 := M; clear K M; rintro _ a w M K
  clear M0
  refine X_rd K (want_no rfl) rfl rfl (rd_assign rfl K rfl) M ?_; clear K; intro a K
  refine wpList_nil ?_
  refine then_n ?_
  refine wp_seq ?_
  refine wp_seq ?_
  refine X_reg ?_
  refine X_rd K (want_no rfl) rfl rfl (rd_move rfl K rfl) M ?_; clear K; intro a K
  refine X_rd K (want_no rfl) rfl rfl (rd_neq rfl K rfl rfl) M ?_; clear K; intro a K
  refine X_rd K (want_no rfl) rfl rfl (rd_move rfl K rfl) M ?_; clear K; intro a K
  rcases Bool.eq_false_or_eq_true (!decide (r2.2.2.2 = 0)) with hb | hb
  · have h := ctrue hb h
    have K := K.reb (s := 43) rfl hb
    refine X_no K (K.no rfl rfl rfl rfl) rfl rfl ?_; clear K; intro a K
    refine X_no K (K.no rfl rfl rfl rfl) rfl rfl ?_; clear K; intro a K
    refine X_rd K (want_no rfl) rfl rfl (rd_pickT rfl K rfl rfl) M ?_; clear K; intro a K
    refine wpList_nil ?_
    refine then_n ?_
    refine X_condT K rfl ?_
    refine wp_seq ?_
    refine X_reg ?_
    obtain ⟨r4, h_r4, h⟩ := obind h
    refine X_ac K (want_no rfl) rfl rfl (ac_call (vs := []) (cap := []) rfl fok30 K rfl rfl (W_darkslidelaw_turnBegun N  _  r4 h_r4)) ?_
    have M0 := M; clear K M; rintro _ a w ⟨rfl, M⟩ K
    have M := M0.call M
    clear M0
    refine X_rd K (want_no rfl) rfl rfl (rd_assign rfl K rfl) M ?_; clear K; intro a K
    refine wpList_nil ?_
    refine then_n ?_
    refine wp_ret ?_
    refine then_r ?_
    cases h
    exact ret1 K rfl (res_tmp K rfl) ⟨_, rfl, rfl, ((M).pick [] (by decide))⟩
  · have h := cfalse hb h
    have K := K.reb (s := 43) rfl hb
    refine X_rd K (K.yes rfl rfl rfl) rfl rfl (rd_move rfl K rfl) M ?_; clear K; intro a K
    refine X_rd K (K.yes rfl rfl rfl) rfl rfl (rd_neq rfl K rfl rfl) M ?_; clear K; intro a K
    refine X_rd K (want_no rfl) rfl rfl (rd_pickF rfl K rfl rfl) M ?_; clear K; intro a K
    refine wpList_nil ?_
    refine then_n ?_
    refine X_cond K rfl (fun hb => ?_) (fun hb => ?_)
    · have h := ctrue hb h
      refine wp_seq ?_
      refine X_reg ?_
      obtain ⟨r5, h_r5, h⟩ := obind h
      refine X_ac K (want_no rfl) rfl rfl (ac_call (vs := []) (cap := []) rfl fok30 K rfl rfl (W_darkslidelaw_turnBegun N  _  r5 h_r5)) ?_
      have M0 := M; clear K M; rintro _ a w ⟨rfl, M⟩ K
      have M := M0.call M
      clear M0
      refine X_rd K (want_no rfl) rfl rfl (rd_assign rfl K rfl) M ?_; clear K; intro a K
      refine wpList_nil ?_
      refine then_n ?_
      refine wp_ret ?_
      refine then_r ?_
      cases h
      exact ret1 K rfl (res_tmp K rfl) ⟨_, rfl, rfl, ((M).pick [] (by decide))⟩
    · have h := cfalse hb h
      refine wp_skip ?_
      refine then_n ?_
      refine wp_seq ?_
      refine X_reg ?_
      refine X_rd K (want_no rfl) rfl rfl (rd_move rfl K rfl) M ?_; clear K; intro a K
      obtain ⟨r6, h_r6, h⟩ := obind h
      refine X_ac K (want_no rfl) rfl rfl (ac_call (vs := [.int .i64 o]) (cap := []) rfl fok33 K rfl rfl (W_turn_Back N o _  r6 h_r6)) ?_
      have M0 := M; clear K M; rintro _ a w ⟨rfl, M⟩ K
      have M := M0.call M
      clear M0
      refine X_rd K (want_no rfl) rfl rfl (rd_move rfl K rfl) M ?_; clear K; intro a K
      refine X_rd K (want_no rfl) rfl rfl (rd_extract rfl K rfl rfl) M ?_; clear K; intro a K
      refine X_rd K (want_no rfl) rfl rfl (rd_extract rfl K rfl rfl) M ?_; clear K; intro a K
      refine X_rd K (want_no rfl) rfl rfl (rd_assign rfl K rfl) M ?_; clear K; intro a K
      refine X_rd K (want_no rfl) rfl rfl (rd_assign rfl K rfl) M ?_; clear K; intro a K
      refine wpList_nil ?_
      refine then_n ?_
      refine wp_seq ?_
      refine X_reg ?_
      refine X_rd K (want_no rfl) rfl rfl (rd_move rfl K rfl) M ?_; clear K; intro a K
      refine X_rd K (want_no rfl) rfl rfl (rd_move rfl K rfl) M ?_; clear K; intro a K
      obtain ⟨r7, h_r7, h⟩ := obind h
      refine X_ac K (want_no rfl) rfl rfl (ac_call (vs := [.int .i64 o, .int .i64 p2]) (cap := []) rfl fok34 K rfl rfl (W_turn_Both N o p2 _  r7 h_r7)) ?_
      have M0 := M; clear K M; rintro _ a w ⟨rfl, M⟩ K
      have M := M0.call M
      clear M0
      refine X_rd K (want_no rfl) rfl rfl (rd_move rfl K rfl) M ?_; clear K; intro a K
      refine X_rd K (want_no rfl) rfl rfl (rd_extract rfl K rfl rfl) M ?_; clear K; intro a K
      refine X_rd K (want_no rfl) rfl rfl (rd_extract rfl K rfl rfl) M ?_; clear K; intro a K
      refine X_rd K (want_no rfl) rfl rfl (rd_assign rfl K rfl) M ?_; clear K; intro a K
      refine X_rd K (want_no rfl) rfl rfl (rd_assign rfl K rfl) M ?_; clear K; intro a K
      refine wpList_nil ?_
      refine then_n ?_
      refine wp_seq ?_
      refine X_reg ?_
      refine X_rd K (want_no rfl) rfl rfl (rd_ldA rfl ty49 K rfl (inM 2 rfl) rfl rfl) M ?_; clear K; intro a K
      refine X_rd K (want_no rfl) rfl rfl (rd_move rfl K rfl) M ?_; clear K; intro a K
      obtain ⟨r8, h_r8, h⟩ := obind h
      refine X_ac K (want_no rfl) rfl rfl (ac_call (vs := [.agg #[.int .i64 r2.1, .int .i64 r2.2.1, .slice A r2.2.2.1.length c], .int .i64 r6.1]) (cap := []) rfl fok32 K rfl rfl (W_turn_Turn N r2.1 r2.2.1 r2.2.2.1 A c r6.1 _ ((inR (C := cIII) 3 rfl rfl) _ M) (M.cap 3 rfl) r8 h_r8)) ?_
      have M0 := M; clear K M; rintro _ a w ⟨A3, c3, rfl, M⟩ K
      have M := M0.call M
      clear M0
      refine X_rd K (want_no rfl) rfl rfl (rd_move rfl K rfl) M ?_; clear K; intro a K
      refine X_rd K (want_no rfl) rfl rfl (rd_extract rfl K rfl rfl) M ?_; clear K; intro a K
      refine X_rd K (want_no rfl) rfl rfl (rd_extract rfl K rfl rfl) M ?_; clear K; intro a K
      refine X_ac K (want_no rfl) rfl rfl (ac_alloc rfl z49 M) ?_
      have M0 := M; clear K M; rintro _ a w ⟨g_x5, rfl, M⟩ K
      clear M0
      refine X_a0 K (want_no rfl) rfl (ac_storeA rfl ty49 K rfl (ds := [.int .i64 r8.1, .int .i64 r8.2.1, .slice A3 r8.2.2.1.length c3]) rfl rfl 0 M rfl rfl rfl) ?_
      have M0 := M; clear K M; rintro _ a w M K
      clear M0
      refine X_rd K (want_no rfl) rfl rfl (rd_assign rfl K rfl) M ?_; clear K; intro a K
      refine wpList_nil ?_
      refine then_n ?_
      refine wp_seq ?_
      refine X_reg ?_
      refine X_rd K (want_no rfl) rfl rfl (rd_ldA rfl ty49 K rfl (inM 7 rfl) rfl rfl) M ?_; clear K; intro a K
      refine X_rd K (want_no rfl) rfl rfl (rd_move rfl K rfl) M ?_; clear K; intro a K
      obtain ⟨r9, h_r9, h⟩ := obind h
      refine X_ac K (want_no rfl) rfl rfl (ac_call (vs := [.agg #[.int .i64 d_W, .int .i64 d_H, .slice A_d_P d_P.length c_d_P], .int .i64 r7.1]) (cap := []) rfl fok32 K rfl rfl (W_turn_Turn N d_W d_H d_P A_d_P c_d_P r7.1 _ ((inA R_d_P) _ M) C_d_P r9 h_r9)) ?_
      have M0 := M; clear K M; rintro _ a w ⟨A4, c4, rfl, M⟩ K
      have M := M0.call M
      clear M0
      refine X_rd K (want_no rfl) rfl rfl (rd_move rfl K rfl) M ?_; clear K; intro a K
      refine X_rd K (want_no rfl) rfl rfl (rd_extract rfl K rfl rfl) M ?_; clear K; intro a K
      refine X_rd K (want_no rfl) rfl rfl (rd_extract rfl K rfl rfl) M ?_; clear K; intro a K
      refine X_ac K (want_no rfl) rfl rfl (ac_alloc rfl z49 M) ?_
      have M0 := M; clear K M; rintro _ a w ⟨g_x6, rfl, M⟩ K
      clear M0
      refine X_a0 K (want_no rfl) rfl (ac_storeA rfl ty49 K rfl (ds := [.int .i64 r9.1, .int .i64 r9.2.1, .slice A4 r9.2.2.1.length c4]) rfl rfl 0 M rfl rfl rfl) ?_
      have M0 := M; clear K M; rintro _ a w M K
      clear M0
      refine X_rd K (want_no rfl) rfl rfl (rd_assign rfl K rfl) M ?_; clear K; intro a K
      refine wpList_nil ?_
      refine then_n ?_
      refine wp_seq ?_
      refine wp_seq ?_
      refine X_reg ?_
      refine X_rd K (want_no rfl) rfl rfl (rd_move rfl K rfl) M ?_; clear K; intro a K
      refine X_rd K (want_no rfl) rfl rfl (rd_neq rfl K rfl rfl) M ?_; clear K; intro a K
      refine X_rd K (want_no rfl) rfl rfl (rd_move rfl K rfl) M ?_; clear K; intro a K
      rcases Bool.eq_false_or_eq_true (!decide (r6.2 = 0)) with hb | hb
      · have h := ctrue hb h
        have K := K.reb (s := 73) rfl hb
        refine X_no K (K.no rfl rfl rfl rfl) rfl rfl ?_; clear K; intro a K
        refine X_no K (K.no rfl rfl rfl rfl) rfl rfl ?_; clear K; intro a K
        refine X_rd K (want_no rfl) rfl rfl (rd_pickT rfl K rfl rfl) M ?_; clear K; intro a K
        refine X_rd K (want_no rfl) rfl rfl (rd_move rfl K rfl) M ?_; clear K; intro a K
        refine X_no K (K.no rfl rfl rfl rfl) rfl rfl ?_; clear K; intro a K
        refine X_no K (K.no rfl rfl rfl rfl) rfl rfl ?_; clear K; intro a K
        refine X_rd K (want_no rfl) rfl rfl (rd_pickT rfl K rfl rfl) M ?_; clear K; intro a K
        refine X_rd K (want_no rfl) rfl rfl (rd_move rfl K rfl) M ?_; clear K; intro a K
        refine X_no K (K.no rfl rfl rfl rfl) rfl rfl ?_; clear K; intro a K
        refine X_no K (K.no rfl rfl rfl rfl) rfl rfl ?_; clear K; intro a K
        refine X_rd K (want_no rfl) rfl rfl (rd_pickT rfl K rfl rfl) M ?_; clear K; intro a K
        refine X_rd K (want_no rfl) rfl rfl (rd_move rfl K rfl) M ?_; clear K; intro a K
        refine X_no K (K.no rfl rfl rfl rfl) rfl rfl ?_; clear K; intro a K
        refine X_no K (K.no rfl rfl rfl rfl) rfl rfl ?_; clear K; intro a K
        refine X_no K (K.no rfl rfl rfl rfl) rfl rfl ?_; clear K; intro a K
        refine X_no K (K.no rfl rfl rfl rfl) rfl rfl ?_; clear K; intro a K
        refine X_rd K (want_no rfl) rfl rfl (rd_pickT rfl K rfl rfl) M ?_; clear K; intro a K
        refine X_rd K (want_no rfl) rfl rfl (rd_move rfl K rfl) M ?_; clear K; intro a K
        refine X_no K (K.no rfl rfl rfl rfl) rfl rfl ?_; clear K; intro a K
        refine X_no K (K.no rfl rfl rfl rfl) rfl rfl ?_; clear K; intro a K
        refine X_no K (K.no rfl rfl rfl rfl) rfl rfl ?_; clear K; intro a K
        refine X_no K (K.no rfl rfl rfl rfl) rfl rfl ?_; clear K; intro a K
        refine X_rd K (want_no rfl) rfl rfl (rd_pickT rfl K rfl rfl) M ?_; clear K; intro a K
        refine wpList_nil ?_
        refine then_n ?_
        refine X_condT K rfl ?_
        refine wp_seq ?_
        refine X_reg ?_
        refine X_rd K (want_no rfl) rfl rfl (rd_assign rfl K rfl) M ?_; clear K; intro a K
        refine wpList_nil ?_
        refine then_n ?_
        refine wp_ret ?_
        refine then_r ?_
        cases h
        exact ret1 K rfl (res_tmp K rfl) ⟨_, rfl, rfl, ((M).pick [] (by decide))⟩
      · have h := cfalse hb h
        have K := K.reb (s := 73) rfl hb
        refine X_rd K (K.yes rfl rfl rfl) rfl rfl (rd_move rfl K rfl) M ?_; clear K; intro a K
        refine X_rd K (K.yes rfl rfl rfl) rfl rfl (rd_neq rfl K rfl rfl) M ?_; clear K; intro a K
        refine X_rd K (want_no rfl) rfl rfl (rd_pickF rfl K rfl rfl) M ?_; clear K; intro a K
        refine X_rd K (want_no rfl) rfl rfl (rd_move rfl K rfl) M ?_; clear K; intro a K
        rcases Bool.eq_false_or_eq_true (!decide (r7.2 = 0)) with hb | hb
        · have h := ctrue hb h
          have K := K.reb (s := 77) rfl hb
          refine X_no K (K.no rfl rfl rfl rfl) rfl rfl ?_; clear K; intro a K
          refine X_no K (K.no rfl rfl rfl rfl) rfl rfl ?_; clear K; intro a K
          refine X_rd K (want_no rfl) rfl rfl (rd_pickT rfl K rfl rfl) M ?_; clear K; intro a K
          refine X_rd K (want_no rfl) rfl rfl (rd_move rfl K rfl) M ?_; clear K; intro a K
          refine X_no K (K.no rfl rfl rfl rfl) rfl rfl ?_; clear K; intro a K
          refine X_no K (K.no rfl rfl rfl rfl) rfl rfl ?_; clear K; intro a K
          refine X_rd K (want_no rfl) rfl rfl (rd_pickT rfl K rfl rfl) M ?_; clear K; intro a K
          refine X_rd K (want_no rfl) rfl rfl (rd_move rfl K rfl) M ?_; clear K; intro a K
          refine X_no K (K.no rfl rfl rfl rfl) rfl rfl ?_; clear K; intro a K
          refine X_no K (K.no rfl rfl rfl rfl) rfl rfl ?_; clear K; intro a K
          refine X_no K (K.no rfl rfl rfl rfl) rfl rfl ?_; clear K; intro a K
          refine X_no K (K.no rfl rfl rfl rfl) rfl rfl ?_; clear K; intro a K
          refine X_rd K (want_no rfl) rfl rfl (rd_pickT rfl K rfl rfl) M ?_; clear K; intro a K
          refine X_rd K (want_no rfl) rfl rfl (rd_move rfl K rfl) M ?_; clear K; intro a K
          refine X_no K (K.no rfl rfl rfl rfl) rfl rfl ?_; clear K; intro a K
          refine X_no K (K.no rfl rfl rfl rfl) rfl rfl ?_; clear K; intro a K
          refine X_no K (K.no rfl rfl rfl rfl) rfl rfl ?_; clear K; intro a K
          refine X_no K (K.no rfl rfl rfl rfl) rfl rfl ?_; clear K; intro a K
          refine X_rd K (want_no rfl) rfl rfl (rd_pickT rfl K rfl rfl) M ?_; clear K; intro a K
          refine wpList_nil ?_
          refine then_n ?_
          refine X_condT K rfl ?_
          refine wp_seq ?_
          refine X_reg ?_
          refine X_rd K (want_no rfl) rfl rfl (rd_assign rfl K rfl) M ?_; clear K; intro a K
          refine wpList_nil ?_
          refine then_n ?_
          refine wp_ret ?_
          refine then_r ?_
          cases h
          exact ret1 K rfl (res_tmp K rfl) ⟨_, rfl, rfl, ((M).pick [] (by decide))⟩
        · have h := cfalse hb h
          have K := K.reb (s := 77) rfl hb
          refine X_rd K (K.yes rfl rfl rfl) rfl rfl (rd_move rfl K rfl) M ?_; clear K; intro a K
          refine X_rd K (K.yes rfl rfl rfl) rfl rfl (rd_neq rfl K rfl rfl) M ?_; clear K; intro a K
          refine X_rd K (want_no rfl) rfl rfl (rd_pickF rfl K rfl rfl) M ?_; clear K; intro a K
          refine X_rd K (want_no rfl) rfl rfl (rd_move rfl K rfl) M ?_; clear K; intro a K
          rcases Bool.eq_false_or_eq_true (!decide (r8.2.2.2 = 0)) with hb | hb
          · have h := ctrue hb h
            have K := K.reb (s := 81) rfl hb
            refine X_no K (K.no rfl rfl rfl rfl) rfl rfl ?_; clear K; intro a K
            refine X_no K (K.no rfl rfl rfl rfl) rfl rfl ?_; clear K; intro a K
            refine X_rd K (want_no rfl) rfl rfl (rd_pickT rfl K rfl rfl) M ?_; clear K; intro a K
            refine X_rd K (want_no rfl) rfl rfl (rd_move rfl K rfl) M ?_; clear K; intro a K
            refine X_no K (K.no rfl rfl rfl rfl) rfl rfl ?_; clear K; intro a K
            refine X_no K (K.no rfl rfl rfl rfl) rfl rfl ?_; clear K; intro a K
            refine X_no K (K.no rfl rfl rfl rfl) rfl rfl ?_; clear K; intro a K
            refine X_no K (K.no rfl rfl rfl rfl) rfl rfl ?_; clear K; intro a K
            refine X_rd K (want_no rfl) rfl rfl (rd_pickT rfl K rfl rfl) M ?_; clear K; intro a K
            refine X_rd K (want_no rfl) rfl rfl (rd_move rfl K rfl) M ?_; clear K; intro a K
            refine X_no K (K.no rfl rfl rfl rfl) rfl rfl ?_; clear K; intro a K
            refine X_no K (K.no rfl rfl rfl rfl) rfl rfl ?_; clear K; intro a K
            refine X_no K (K.no rfl rfl rfl rfl) rfl rfl ?_; clear K; intro a K
            refine X_no K (K.no rfl rfl rfl rfl) rfl rfl ?_; clear K; intro a K
            refine X_rd K (want_no rfl) rfl rfl (rd_pickT rfl K rfl rfl) M ?_; clear K; intro a K
            refine wpList_nil ?_
            refine then_n ?_
            refine X_condT K rfl ?_
            refine wp_seq ?_
            refine X_reg ?_
            refine X_rd K (want_no rfl) rfl rfl (rd_assign rfl K rfl) M ?_; clear K; intro a K
            refine wpList_nil ?_
            refine then_n ?_
            refine wp_ret ?_
            refine then_r ?_
            cases h
            exact ret1 K rfl (res_tmp K rfl) ⟨_, rfl, rfl, ((M).pick [] (by decide))⟩
          · have h := cfalse hb h
            have K := K.reb (s := 81) rfl hb
            refine X_rd K (K.yes rfl rfl rfl) rfl rfl (rd_move rfl K rfl) M ?_; clear K; intro a K
            refine X_rd K (K.yes rfl rfl rfl) rfl rfl (rd_neq rfl K rfl rfl) M ?_; clear K; intro a K
            refine X_rd K (want_no rfl) rfl rfl (rd_pickF rfl K rfl rfl) M ?_; clear K; intro a K
            refine X_rd K (want_no rfl) rfl rfl (rd_move rfl K rfl) M ?_; clear K; intro a K
            rcases Bool.eq_false_or_eq_true (!decide (r9.2.2.2 = 0)) with hb | hb
            · have h := ctrue hb h
              have K := K.reb (s := 85) rfl hb
              refine X_no K (K.no rfl rfl rfl rfl) rfl rfl ?_; clear K; intro a K
              refine X_no K (K.no rfl rfl rfl rfl) rfl rfl ?_; clear K; intro a K
              refine X_no K (K.no rfl rfl rfl rfl) rfl rfl ?_; clear K; intro a K
              refine X_no K (K.no rfl rfl rfl rfl) rfl rfl ?_; clear K; intro a K
              refine X_rd K (want_no rfl) rfl rfl (rd_pickT rfl K rfl rfl) M ?_; clear K; intro a K
              refine X_rd K (want_no rfl) rfl rfl (rd_move rfl K rfl) M ?_; clear K; intro a K
              refine X_no K (K.no rfl rfl rfl rfl) rfl rfl ?_; clear K; intro a K
              refine X_no K (K.no rfl rfl rfl rfl) rfl rfl ?_; clear K; intro a K
              refine X_no K (K.no rfl rfl rfl rfl) rfl rfl ?_; clear K; intro a K
              refine X_no K (K.no rfl rfl rfl rfl) rfl rfl ?_; clear K; intro a K
              refine X_rd K (want_no rfl) rfl rfl (rd_pickT rfl K rfl rfl) M ?_; clear K; intro a K
              refine wpList_nil ?_
              refine then_n ?_
              refine X_condT K rfl ?_
              refine wp_seq ?_
              refine X_reg ?_
              refine X_rd K (want_no rfl) rfl rfl (rd_assign rfl K rfl) M ?_; clear K; intro a K
              refine wpList_nil ?_
              refine then_n ?_
              refine wp_ret ?_
              refine then_r ?_
              cases h
              exact ret1 K rfl (res_tmp K rfl) ⟨_, rfl, rfl, ((M).pick [] (by decide))⟩
            · have h := cfalse hb h
              have K := K.reb (s := 85) rfl hb
              refine X_rd K (K.yes rfl rfl rfl) rfl rfl (rd_ldA rfl ty49 K rfl (inM 2 rfl) rfl rfl) M ?_; clear K; intro a K
              refine X_rd K (K.yes rfl rfl rfl) rfl rfl (rd_ldA rfl ty49 K rfl (inM 9 rfl) rfl rfl) M ?_; clear K; intro a K
              obtain ⟨r10, h_r10, h⟩ := obind h
              refine X_ac K (K.yes rfl rfl rfl) rfl rfl (ac_call (vs := [.agg #[.int .i64 r8.1, .int .i64 r8.2.1, .slice A3 r8.2.2.1.length c3], .agg #[.int .i64 d_W, .int .i64 d_H, .slice A_d_P d_P.length c_d_P]]) (cap := []) rfl fok31 K rfl rfl (W_darkslideref_SamePictures N r8.1 r8.2.1 r8.2.2.1 A3 c3 d_W d_H d_P A_d_P c_d_P _ ((inR (C := cIII) 3 rfl rfl) _ M) (M.cap 3 rfl) ((inA R_d_P) _ M) C_d_P r10 h_r10)) ?_
              have M0 := M; clear K M; rintro _ a w ⟨rfl, M⟩ K
              have M := M0.call M
              clear M0
              refine X_rd K (K.yes rfl rfl rfl) rfl rfl (rd_not rfl K rfl) M ?_; clear K; intro a K
              refine X_rd K (want_no rfl) rfl rfl (rd_pickF rfl K rfl rfl) M ?_; clear K; intro a K
              refine X_rd K (want_no rfl) rfl rfl (rd_move rfl K rfl) M ?_; clear K; intro a K
              rcases Bool.eq_false_or_eq_true (!(r10)) with hb | hb
              · have h := ctrue hb h
                have K := K.reb (s := 91) rfl hb
                refine X_no K (K.no rfl rfl rfl rfl) rfl rfl ?_; clear K; intro a K
                refine X_no K (K.no rfl rfl rfl rfl) rfl rfl ?_; clear K; intro a K
                refine X_no K (K.no rfl rfl rfl rfl) rfl rfl ?_; clear K; intro a K
                refine X_no K (K.no rfl rfl rfl rfl) rfl rfl ?_; clear K; intro a K
                refine X_rd K (want_no rfl) rfl rfl (rd_pickT rfl K rfl rfl) M ?_; clear K; intro a K
                refine wpList_nil ?_
                refine then_n ?_
                refine X_condT K rfl ?_
                refine wp_seq ?_
                refine X_reg ?_
                refine X_rd K (want_no rfl) rfl rfl (rd_assign rfl K rfl) M ?_; clear K; intro a K
                refine wpList_nil ?_
                refine then_n ?_
                refine wp_ret ?_
                refine then_r ?_
                cases h
                exact ret1 K rfl (res_tmp K rfl) ⟨_, rfl, rfl, ((M).pick [] (by decide))⟩
              · have h := cfalse hb h
                have K := K.reb (s := 91) rfl hb
                refine X_rd K (K.yes rfl rfl rfl) rfl rfl (rd_ldA rfl ty49 K rfl (inM 0 rfl) rfl rfl) M ?_; clear K; intro a K
                refine X_rd K (K.yes rfl rfl rfl) rfl rfl (rd_ldA rfl ty49 K rfl (inM 4 rfl) rfl rfl) M ?_; clear K; intro a K
                obtain ⟨r11, h_r11, h⟩ := obind h
                refine X_ac K (K.yes rfl rfl rfl) rfl rfl (ac_call (vs := [.agg #[.int .i64 r9.1, .int .i64 r9.2.1, .slice A4 r9.2.2.1.length c4], .agg #[.int .i64 r3.1, .int .i64 r3.2.1, .slice A2 r3.2.2.1.length c2]]) (cap := []) rfl fok31 K rfl rfl (W_darkslideref_SamePictures N r9.1 r9.2.1 r9.2.2.1 A4 c4 r3.1 r3.2.1 r3.2.2.1 A2 c2 _ ((inR (C := cIII) 1 rfl rfl) _ M) (M.cap 1 rfl) ((inR (C := cIII) 5 rfl rfl) _ M) (M.cap 5 rfl) r11 h_r11)) ?_
                have M0 := M; clear K M; rintro _ a w ⟨rfl, M⟩ K
                have M := M0.call M
                clear M0
                refine X_rd K (K.yes rfl rfl rfl) rfl rfl (rd_not rfl K rfl) M ?_; clear K; intro a K
                refine X_rd K (want_no rfl) rfl rfl (rd_pickF rfl K rfl rfl) M ?_; clear K; intro a K
                refine wpList_nil ?_
                refine then_n ?_
                refine X_cond K rfl (fun hb => ?_) (fun hb => ?_)
                · have h := ctrue hb h
                  refine wp_seq ?_
                  refine X_reg ?_
                  refine X_rd K (want_no rfl) rfl rfl (rd_assign rfl K rfl) M ?_; clear K; intro a K
                  refine wpList_nil ?_
                  refine then_n ?_
                  refine wp_ret ?_
                  refine then_r ?_
                  cases h
                  exact ret1 K rfl (res_tmp K rfl) ⟨_, rfl, rfl, ((M).pick [] (by decide))⟩
                · have h := cfalse hb h
                  refine wp_skip ?_
                  refine then_n ?_
                  refine wp_seq ?_
                  refine X_reg ?_
                  refine X_rd K (want_no rfl) rfl rfl (rd_ldA rfl ty49 K rfl (inM 9 rfl) rfl rfl) M ?_; clear K; intro a K
                  refine X_rd K (want_no rfl) rfl rfl (rd_ldA rfl ty51 K rfl (inM 8 rfl) rfl rfl) M ?_; clear K; intro a K
                  obtain ⟨r12, h_r12, h⟩ := obind h
                  refine X_ac K (want_no rfl) rfl rfl (ac_call (vs := [.agg #[.int .i64 d_W, .int .i64 d_H, .slice A_d_P d_P.length c_d_P], .agg #[.int .i64 p3_X, .int .i64 p3_Y, .int .i64 p3_W, .int .i64 p3_H]]) (cap := []) rfl fok27 K rfl rfl (W_turn_Cut N d_W d_H d_P A_d_P c_d_P p3_X p3_Y p3_W p3_H _ ((inA R_d_P) _ M) C_d_P r12 h_r12)) ?_
                  have M0 := M; clear K M; rintro _ a w ⟨A5, c5, rfl, M⟩ K
                  have M := M0.call M
                  clear M0
                  refine X_rd K (want_no rfl) rfl rfl (rd_move rfl K rfl) M ?_; clear K; intro a K
                  refine X_rd K (want_no rfl) rfl rfl (rd_extract rfl K rfl rfl) M ?_; clear K; intro a K
                  refine X_rd K (want_no rfl) rfl rfl (rd_extract rfl K rfl rfl) M ?_; clear K; intro a K
                  refine X_ac K (want_no rfl) rfl rfl (ac_alloc rfl z49 M) ?_
                  have M0 := M; clear K M; rintro _ a w ⟨g_x7, rfl, M⟩ K
                  clear M0
                  refine X_a0 K (want_no rfl) rfl (ac_storeA rfl ty49 K rfl (ds := [.int .i64 r12.1, .int .i64 r12.2.1, .slice A5 r12.2.2.1.length c5]) rfl rfl 0 M rfl rfl rfl) ?_
                  have M0 := M; clear K M; rintro _ a w M K
                  clear M0
                  refine X_rd K (want_no rfl) rfl rfl (rd_assign rfl K rfl) M ?_; clear K; intro a K
                  refine wpList_nil ?_
                  refine then_n ?_
                  refine wp_seq ?_
                  refine wp_seq ?_
                  refine X_reg ?_
                  refine X_rd K (want_no rfl) rfl rfl (rd_move rfl K rfl) M ?_; clear K; intro a K
                  refine X_rd K (want_no rfl) rfl rfl (rd_neq rfl K rfl rfl) M ?_; clear K; intro a K
                  refine wpList_nil ?_
                  refine then_n ?_
                  refine X_cond K rfl (fun hb => ?_) (fun hb => ?_)
                  · have h := ctrue hb h
                    refine wp_seq ?_
                    refine X_reg ?_
                    obtain ⟨r13, h_r13, h⟩ := obind h
                    refine X_ac K (want_no rfl) rfl rfl (ac_call (vs := []) (cap := []) rfl fok30 K rfl rfl (W_darkslidelaw_turnBegun N  _  r13 h_r13)) ?_
                    have M0 := M; clear K M; rintro _ a w ⟨rfl, M⟩ K
                    have M := M0.call M
                    clear M0
                    refine X_rd K (want_no rfl) rfl rfl (rd_assign rfl K rfl) M ?_; clear K; intro a K
                    refine wpList_nil ?_
                    refine then_n ?_
                    refine wp_ret ?_
                    refine then_r ?_
                    cases h
                    exact ret1 K rfl (res_tmp K rfl) ⟨_, rfl, rfl, ((M).pick [] (by decide))⟩
                  · have h := cfalse hb h
                    refine wp_skip ?_
                    refine then_n ?_
                    refine wp_seq ?_
                    refine X_reg ?_
                    refine X_rd K (want_no rfl) rfl rfl (rd_ldA rfl ty49 K rfl (inM 0 rfl) rfl rfl) M ?_; clear K; intro a K
                    refine X_rd K (want_no rfl) rfl rfl (rd_move rfl K rfl) M ?_; clear K; intro a K
                    obtain ⟨r14, h_r14, h⟩ := obind h
                    refine X_ac K (want_no rfl) rfl rfl (ac_call (vs := [.agg #[.int .i64 r12.1, .int .i64 r12.2.1, .slice A5 r12.2.2.1.length c5], .int .i64 o]) (cap := []) rfl fok32 K rfl rfl (W_turn_Turn N r12.1 r12.2.1 r12.2.2.1 A5 c5 o _ ((inR (C := cIII) 1 rfl rfl) _ M) (M.cap 1 rfl) r14 h_r14)) ?_
                    have M0 := M; clear K M; rintro _ a w ⟨A6, c6, rfl, M⟩ K
                    have M := M0.call M
                    clear M0
                    refine X_rd K (want_no rfl) rfl rfl (rd_move rfl K rfl) M ?_; clear K; intro a K
                    refine X_rd K (want_no rfl) rfl rfl (rd_extract rfl K rfl rfl) M ?_; clear K; intro a K
                    refine X_rd K (want_no rfl) rfl rfl (rd_extract rfl K rfl rfl) M ?_; clear K; intro a K
                    refine X_ac K (want_no rfl) rfl rfl (ac_alloc rfl z49 M) ?_
                    have M0 := M; clear K M; rintro _ a w ⟨g_x8, rfl, M⟩ K
                    clear M0
                    refine X_a0 K (want_no rfl) rfl (ac_storeA rfl ty49 K rfl (ds := [.int .i64 r14.1, .int .i64 r14.2.1, .slice A6 r14.2.2.1.length c6]) rfl rfl 0 M rfl rfl rfl) ?_
                    have M0 := M; clear K M; rintro _ a w M K
                    clear M0
                    refine X_rd K (want_no rfl) rfl rfl (rd_assign rfl K rfl) M ?_; clear K; intro a K
                    refine wpList_nil ?_
                    refine then_n ?_
                    refine wp_seq ?_
                    refine wp_seq ?_
                    refine X_reg ?_
                    refine X_rd K (want_no rfl) rfl rfl (rd_assign rfl K rfl) M ?_; clear K; intro a K
                    refine wpList_nil ?_
                    refine then_n ?_
                    refine wp_block ?_
                    refine X_lp (id := 0) (Rel := fun (i : Int) a w => Kn a 154 [(9, .pointer (some ⟨g_x3, 0, none⟩)), (23, .pointer (some ⟨g_x8, 0, none⟩)), (24, .int .i64 r14.2.2.2), (25, .int .i64 i)] ∧ Mem w0.heap.size w0 w [.blk g_x8 49 [.int .i64 r14.1, .int .i64 r14.2.1, .slice A6 r14.2.2.1.length c6], .row 73 3 A6 r14.2.2.1.length c6 (cIII.all r14.2.2.1), .blk g_x3 49 [.int .i64 r2.1, .int .i64 r2.2.1, .slice A r2.2.2.1.length c], .row 73 3 A r2.2.2.1.length c (cIII.all r2.2.2.1)]) h (fun _ _ => rfl) ⟨K.pick [9,23,24,25], M.pick [0,1,10,11] (by decide)⟩ ?_ ?_
                    · clear K M h
                      rintro i5 a w ⟨K, M⟩ h
                      try dsimp only at h
                      refine inb_e ?_
                      refine then_n ?_
                      refine wp_seq ?_
                      refine X_reg ?_
                      refine X_rd K (want_no rfl) rfl rfl (rd_assign rfl K rfl) M ?_; clear K; intro a K
                      refine wpList_nil ?_
                      refine then_n ?_
                      refine wp_ret ?_
                      cases h
                      exact ret1 K rfl (res_tmp K rfl) ⟨_, rfl, rfl, ((M).pick [] (by decide))⟩
                    · clear K M h
                      rintro kk fuel i a w hk1 ⟨K, M⟩ h
                      unfold D_darkslidelaw_TurnBack_l1 at h
                      refine wp_seq ?_
                      refine wp_seq ?_
                      refine X_reg ?_
                      refine X_rd K (want_no rfl) rfl rfl (rd_move rfl K rfl) M ?_; clear K; intro a K
                      refine X_rd K (want_no rfl) rfl rfl (rd_field rfl fld49_1 K rfl) M ?_; clear K; intro a K
                      refine X_rd K (want_no rfl) rfl rfl (rd_ldC rfl sc3 K rfl (inM 0 rfl) rfl) M ?_; clear K; intro a K
                      refine X_rd K (want_no rfl) rfl rfl (rd_add rfl K rfl rfl) M ?_; clear K; intro a K
                      refine X_rd K (want_no rfl) rfl rfl (rd_field rfl fld49_1 K rfl) M ?_; clear K; intro a K
                      refine X_rd K (want_no rfl) rfl rfl (rd_ldC rfl sc3 K rfl (inM 2 rfl) rfl) M ?_; clear K; intro a K
                      refine X_rd K (want_no rfl) rfl rfl (rd_leq rfl K rfl rfl) M ?_; clear K; intro a K
                      refine wpList_nil ?_
                      refine then_n ?_
                      refine X_cond K rfl (fun hb => ?_) (fun hb => ?_)
                      · have h := ctrue hb h
                        refine wp_skip ?_
                        refine then_n ?_
                        refine wp_seq ?_
                        refine wp_block ?_
                        refine wp_seq ?_
                        refine X_reg ?_
                        refine X_rd K (want_no rfl) rfl rfl (rd_assign rfl K rfl) M ?_; clear K; intro a K
                        refine wpList_nil ?_
                        refine then_n ?_
                        refine wp_block ?_
                        refine X_lp (id := 2) (Rel := fun (i3 : Int) a w => Kn a 154 [(9, .pointer (some ⟨g_x3, 0, none⟩)), (23, .pointer (some ⟨g_x8, 0, none⟩)), (24, .int .i64 r14.2.2.2), (25, .int .i64 i), (26, .int .i64 i3)] ∧ Mem w0.heap.size w0 w [.blk g_x8 49 [.int .i64 r14.1, .int .i64 r14.2.1, .slice A6 r14.2.2.1.length c6], .row 73 3 A6 r14.2.2.1.length c6 (cIII.all r14.2.2.1), .blk g_x3 49 [.int .i64 r2.1, .int .i64 r2.2.1, .slice A r2.2.2.1.length c], .row 73 3 A r2.2.2.1.length c (cIII.all r2.2.2.1)]) h (fun _ _ => rfl) ⟨K.pick [9,23,24,25,26], M.pick [0,1,2,3] (by decide)⟩ ?_ ?_
                        · clear K M h
                          rintro i4 a w ⟨K, M⟩ h
                          try dsimp only at h
                          refine inb_e ?_
                          refine inb_n ?_
                          refine then_n ?_
                          refine X_reg ?_
                          refine X_rd K (want_no rfl) rfl rfl (rd_move rfl K rfl) M ?_; clear K; intro a K
                          refine X_rd K (want_no rfl) rfl rfl (rd_add rfl K rfl rfl) M ?_; clear K; intro a K
                          obtain ⟨x9, hx, h⟩ := olet h
                          refine X_rd K (want_no rfl) rfl rfl (rdi hx (rd_assign rfl K rfl)) M ?_; clear K; intro a K
                          refine wpList_nil ?_
                          exact then_n ⟨x9, ⟨K.pick [9,23,24,25], M.pick [0,1,2,3] (by decide)⟩, h⟩
                        · clear K M h
                          rintro kk fuel i3 a w hk2 ⟨K, M⟩ h
                          unfold D_darkslidelaw_TurnBack_l2 at h
                          refine wp_seq ?_
                          refine wp_seq ?_
                          refine X_reg ?_
                          refine X_rd K (want_no rfl) rfl rfl (rd_move rfl K rfl) M ?_; clear K; intro a K
                          refine X_rd K (want_no rfl) rfl rfl (rd_field rfl fld49_0 K rfl) M ?_; clear K; intro a K
                          refine X_rd K (want_no rfl) rfl rfl (rd_ldC rfl sc3 K rfl (inM 0 rfl) rfl) M ?_; clear K; intro a K
                          refine X_rd K (want_no rfl) rfl rfl (rd_add rfl K rfl rfl) M ?_; clear K; intro a K
                          refine X_rd K (want_no rfl) rfl rfl (rd_field rfl fld49_0 K rfl) M ?_; clear K; intro a K
                          refine X_rd K (want_no rfl) rfl rfl (rd_ldC rfl sc3 K rfl (inM 2 rfl) rfl) M ?_; clear K; intro a K
                          refine X_rd K (want_no rfl) rfl rfl (rd_leq rfl K rfl rfl) M ?_; clear K; intro a K
                          refine wpList_nil ?_
                          refine then_n ?_
                          refine X_cond K rfl (fun hb => ?_) (fun hb => ?_)
                          · have h := ctrue hb h
                            refine wp_skip ?_
                            refine then_n ?_
                            refine wp_seq ?_
                            refine wp_block ?_
                            refine wp_seq ?_
                            refine X_reg ?_
                            refine X_rd K (want_no rfl) rfl rfl (rd_ldA rfl ty49 K rfl (inM 2 rfl) rfl rfl) M ?_; clear K; intro a K
                            refine X_rd K (want_no rfl) rfl rfl (rd_move rfl K rfl) M ?_; clear K; intro a K
                            refine X_rd K (want_no rfl) rfl rfl (rd_move rfl K rfl) M ?_; clear K; intro a K
                            refine X_rd K (want_no rfl) rfl rfl (rd_field rfl fld49_0 K rfl) M ?_; clear K; intro a K
                            refine X_rd K (want_no rfl) rfl rfl (rd_ldC rfl sc3 K rfl (inM 0 rfl) rfl) M ?_; clear K; intro a K
                            refine X_rd K (want_no rfl) rfl rfl (rd_field rfl fld49_1 K rfl) M ?_; clear K; intro a K
                            refine X_rd K (want_no rfl) rfl rfl (rd_ldC rfl sc3 K rfl (inM 0 rfl) rfl) M ?_; clear K; intro a K
                            refine X_rd K (want_no rfl) rfl rfl (rd_build rfl K (vs := [(0, .int .i64 i3), (1, .int .i64 i), (2, .int .i64 r14.1), (3, .int .i64 r14.2.1)]) (cs := [.int .i64 i3, .int .i64 i, .int .i64 r14.1, .int .i64 r14.2.1]) rfl (by kernel_rfl)) M ?_; clear K; intro a K
                            obtain ⟨r21, h_r21, h⟩ := obind h
                            refine X_ac K (want_no rfl) rfl rfl (ac_call (vs := [.agg #[.int .i64 r2.1, .int .i64 r2.2.1, .slice A r2.2.2.1.length c], .agg #[.int .i64 i3, .int .i64 i, .int .i64 r14.1, .int .i64 r14.2.1]]) (cap := []) rfl fok27 K rfl rfl (W_turn_Cut N r2.1 r2.2.1 r2.2.2.1 A c i3 i r14.1 r14.2.1 _ ((inR (C := cIII) 3 rfl rfl) _ M) (M.cap 3 rfl) r21 h_r21)) ?_
                            have M0 := M; clear K M; rintro _ a w ⟨A9, c9, rfl, M⟩ K
                            have M := M0.call M
                            clear M0
                            refine X_rd K (want_no rfl) rfl rfl (rd_move rfl K rfl) M ?_; clear K; intro a K
                            refine X_rd K (want_no rfl) rfl rfl (rd_extract rfl K rfl rfl) M ?_; clear K; intro a K
                            refine X_rd K (want_no rfl) rfl rfl (rd_extract rfl K rfl rfl) M ?_; clear K; intro a K
                            refine X_ac K (want_no rfl) rfl rfl (ac_alloc rfl z49 M) ?_
                            have M0 := M; clear K M; rintro _ a w ⟨g_x11, rfl, M⟩ K
                            clear M0
                            refine X_a0 K (want_no rfl) rfl (ac_storeA rfl ty49 K rfl (ds := [.int .i64 r21.1, .int .i64 r21.2.1, .slice A9 r21.2.2.1.length c9]) rfl rfl 0 M rfl rfl rfl) ?_
                            have M0 := M; clear K M; rintro _ a w M K
                            clear M0
                            refine X_rd K (want_no rfl) rfl rfl (rd_assign rfl K rfl) M ?_; clear K; intro a K
                            refine wpList_nil ?_
                            refine then_n ?_
                            refine wp_seq ?_
                            refine X_reg ?_
                            refine X_rd K (want_no rfl) rfl rfl (rd_move rfl K rfl) M ?_; clear K; intro a K
                            refine X_rd K (want_no rfl) rfl rfl (rd_eql rfl K rfl rfl) M ?_; clear K; intro a K
                            refine X_rd K (want_no rfl) rfl rfl (rd_move rfl K rfl) M ?_; clear K; intro a K
                            rcases Bool.eq_false_or_eq_true (decide (r21.2.2.2 = 0)) with hb | hb
                            · have h := ctrue hb h
                              have K := K.reb (s := 144) rfl hb
                              refine X_rd K (K.yes rfl rfl rfl) rfl rfl (rd_ldA rfl ty49 K rfl (inM 0 rfl) rfl rfl) M ?_; clear K; intro a K
                              refine X_rd K (K.yes rfl rfl rfl) rfl rfl (rd_ldA rfl ty49 K rfl (inM 2 rfl) rfl rfl) M ?_; clear K; intro a K
                              obtain ⟨r22, h_r22, h⟩ := obind h
                              refine X_ac K (K.yes rfl rfl rfl) rfl rfl (ac_call (vs := [.agg #[.int .i64 r21.1, .int .i64 r21.2.1, .slice A9 r21.2.2.1.length c9], .agg #[.int .i64 r14.1, .int .i64 r14.2.1, .slice A6 r14.2.2.1.length c6]]) (cap := []) rfl fok31 K rfl rfl (W_darkslideref_SamePictures N r21.1 r21.2.1 r21.2.2.1 A9 c9 r14.1 r14.2.1 r14.2.2.1 A6 c6 _ ((inR (C := cIII) 1 rfl rfl) _ M) (M.cap 1 rfl) ((inR (C := cIII) 3 rfl rfl) _ M) (M.cap 3 rfl) r22 h_r22)) ?_
                              have M0 := M; clear K M; rintro _ a w ⟨rfl, M⟩ K
                              have M := M0.call M
                              clear M0
                              refine X_rd K (want_no rfl) rfl rfl (rd_pickT rfl K rfl rfl) M ?_; clear K; intro a K
                              refine wpList_nil ?_
                              refine then_n ?_
                              refine X_cond K rfl (fun hb => ?_) (fun hb => ?_)
                              · have h := ctrue hb h
                                refine wp_seq ?_
                                refine X_reg ?_
                                obtain ⟨r23, h_r23, h⟩ := obind h
                                refine X_ac K (want_no rfl) rfl rfl (ac_call (vs := []) (cap := []) rfl fok30 K rfl rfl (W_darkslidelaw_turnBegun N  _  r23 h_r23)) ?_
                                have M0 := M; clear K M; rintro _ a w ⟨rfl, M⟩ K
                                have M := M0.call M
                                clear M0
                                refine X_rd K (want_no rfl) rfl rfl (rd_move rfl K rfl) M ?_; clear K; intro a K
                                rcases Bool.eq_false_or_eq_true (r23) with hb | hb
                                · have h := ctrue hb h
                                  have K := K.reb (s := 150) rfl hb
                                  refine X_rd K (K.yes rfl rfl rfl) rfl rfl (rd_move rfl K rfl) M ?_; clear K; intro a K
                                  refine X_rd K (K.yes rfl rfl rfl) rfl rfl (rd_eql rfl K rfl rfl) M ?_; clear K; intro a K
                                  refine X_rd K (want_no rfl) rfl rfl (rd_pickT rfl K rfl rfl) M ?_; clear K; intro a K
                                  refine X_rd K (want_no rfl) rfl rfl (rd_assign rfl K rfl) M ?_; clear K; intro a K
                                  refine wpList_nil ?_
                                  refine then_n ?_
                                  refine wp_ret ?_
                                  refine inb_r ?_
                                  refine then_r ?_
                                  refine then_r ?_
                                  refine inb_r ?_
                                  refine inb_r ?_
                                  refine then_r ?_
                                  refine then_r ?_
                                  refine inb_r ?_
                                  refine then_r ?_
                                  cases h
                                  exact ret1 K rfl (res_tmp K rfl) ⟨_, rfl, rfl, ((M).pick [] (by decide))⟩
                                · have h := cfalse hb h
                                  have K := K.reb (s := 150) rfl hb
                                  refine X_no K (K.no rfl rfl rfl rfl) rfl rfl ?_; clear K; intro a K
                                  refine X_no K (K.no rfl rfl rfl rfl) rfl rfl ?_; clear K; intro a K
                                  refine X_rd K (want_no rfl) rfl rfl (rd_pickF rfl K rfl rfl) M ?_; clear K; intro a K
                                  refine X_rd K (want_no rfl) rfl rfl (rd_assign rfl K rfl) M ?_; clear K; intro a K
                                  refine wpList_nil ?_
                                  refine then_n ?_
                                  refine wp_ret ?_
                                  refine inb_r ?_
                                  refine then_r ?_
                                  refine then_r ?_
                                  refine inb_r ?_
                                  refine inb_r ?_
                                  refine then_r ?_
                                  refine then_r ?_
                                  refine inb_r ?_
                                  refine then_r ?_
                                  cases h
                                  exact ret1 K rfl (res_tmp K rfl) ⟨_, rfl, rfl, ((M).pick [] (by decide))⟩
                              · have h := cfalse hb h
                                refine wp_skip ?_
                                refine inb_n ?_
                                refine then_n ?_
                                refine X_reg ?_
                                refine X_rd K (want_no rfl) rfl rfl (rd_move rfl K rfl) M ?_; clear K; intro a K
                                refine X_rd K (want_no rfl) rfl rfl (rd_add rfl K rfl rfl) M ?_; clear K; intro a K
                                obtain ⟨x7, hx, h⟩ := olet h
                                refine X_rd K (want_no rfl) rfl rfl (rdi hx (rd_assign rfl K rfl)) M ?_; clear K; intro a K
                                refine wpList_nil ?_
                                exact then_n ⟨x7, ⟨K.pick [9,23,24,25,26], M.pick [2,3,4,5] (by decide)⟩, h⟩
                            · have h := cfalse hb h
                              have K := K.reb (s := 144) rfl hb
                              refine X_no K (K.no rfl rfl rfl rfl) rfl rfl ?_; clear K; intro a K
                              refine X_no K (K.no rfl rfl rfl rfl) rfl rfl ?_; clear K; intro a K
                              refine X_no K (K.no rfl rfl rfl rfl) rfl rfl ?_; clear K; intro a K
                              refine X_rd K (want_no rfl) rfl rfl (rd_pickF rfl K rfl rfl) M ?_; clear K; intro a K
                              refine wpList_nil ?_
                              refine then_n ?_
                              refine X_condF K rfl ?_
                              refine wp_skip ?_
                              refine inb_n ?_
                              refine then_n ?_
                              refine X_reg ?_
                              refine X_rd K (want_no rfl) rfl rfl (rd_move rfl K rfl) M ?_; clear K; intro a K
                              refine X_rd K (want_no rfl) rfl rfl (rd_add rfl K rfl rfl) M ?_; clear K; intro a K
                              obtain ⟨x8, hx, h⟩ := olet h
                              refine X_rd K (want_no rfl) rfl rfl (rdi hx (rd_assign rfl K rfl)) M ?_; clear K; intro a K
                              refine wpList_nil ?_
                              exact then_n ⟨x8, ⟨K.pick [9,23,24,25,26], M.pick [2,3,4,5] (by decide)⟩, h⟩
                          · have h := cfalse hb h
                            refine wp_exit ?_
                            refine then_e ?_
                            exact then_e (hk2 i3 _ _ ⟨K.pick [9,23,24,25,26], M.pick [0,1,2,3] (by decide)⟩ h)
                      · have h := cfalse hb h
                        refine wp_exit ?_
                        refine then_e ?_
                        exact then_e (hk1 i _ _ ⟨K.pick [9,23,24,25], M.pick [0,1,2,3] (by decide)⟩ h)

end Go.Proofs.Ytpmnfhifmmfglaa
