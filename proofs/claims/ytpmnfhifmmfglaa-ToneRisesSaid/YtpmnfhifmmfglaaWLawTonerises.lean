/- Printed by a program (walk.py): the walks of darkslidelaw_ToneRises: each function computes what its plain program tells. -/
import Derived.Test.YtpmnfhifmmfglaaFacts
import Derived.Test.YtpmnfhifmmfglaaDD
import Derived.Test.YtpmnfhifmmfglaaWLawChoose
import Derived.Test.YtpmnfhifmmfglaaWLawTonebegun
import Derived.Test.YtpmnfhifmmfglaaWTone
set_option linter.unusedVariables false
set_option linter.unusedSimpArgs false
set_option linter.unusedSectionVars false
namespace Go.Proofs.Ytpmnfhifmmfglaa
open Go.RowKit

set_option maxRecDepth 100000 in
set_option maxHeartbeats 4000000 in
theorem W_darkslidelaw_ToneRises (N : Nat) (d : List (Int × Int)) (A_d : Option Addr) (c_d : Nat) (o : Int) (p2 : Int) (p3 : Int) (w0 : World) (R_d : SL w0 cII A_d d) (C_d : d.length ≤ c_d) (r : Bool) (h : D_darkslidelaw_ToneRises N d o p2 p3 = some r) :
    Calls Try.prog 13 #[.slice A_d d.length c_d, .int .i64 o, .int .i64 p2, .int .i64 p3] w0 fun e w' => ∃ v, e = .returned v ∧ v = .bool r ∧ Mem w0.heap.size w0 w' [] := by
  refine X_enter Try.func13 rfl Try.ntmps13 rfl ?_
  intro a K
  have M := Mem.start w0
  have K : Kn a 77 [(0, .slice A_d d.length c_d), (1, .int .i64 o), (2, .int .i64 p2), (3, .int .i64 p3)] := K
  unfold D_darkslidelaw_ToneRises at h
  refine wp_seq ?_
  refine X_reg ?_
  refine X_rd K (want_no rfl) rfl rfl (rd_assign rfl K rfl) M ?_; clear K; intro a K
  refine wpList_nil ?_
  refine then_n ?_
  refine wp_seq ?_
  refine X_reg ?_
  refine X_rd K (want_no rfl) rfl rfl (rd_move rfl K rfl) M ?_; clear K; intro a K
  refine X_rd K (want_no rfl) rfl rfl (rd_move rfl K rfl) M ?_; clear K; intro a K
  obtain ⟨r2, h_r2, h⟩ := obind h
  refine X_ac K (want_no rfl) rfl rfl (ac_call (vs := [.slice A_d d.length c_d, .int .i64 o]) (cap := []) rfl fok50 K rfl rfl (W_tone_Curve N d A_d c_d o _ ((inA R_d) _ M) C_d r2 h_r2)) ?_
  have M0 := M; clear K M; rintro _ a w ⟨rfl, M⟩ K
  have M := M0.call M
  clear M0
  refine X_rd K (want_no rfl) rfl rfl (rd_move rfl K rfl) M ?_; clear K; intro a K
  refine X_rd K (want_no rfl) rfl rfl (rd_extract rfl K rfl rfl) M ?_; clear K; intro a K
  refine X_rd K (want_no rfl) rfl rfl (rd_extract rfl K rfl rfl) M ?_; clear K; intro a K
  refine X_rd K (want_no rfl) rfl rfl (rd_assign rfl K rfl) M ?_; clear K; intro a K
  refine X_rd K (want_no rfl) rfl rfl (rd_assign rfl K rfl) M ?_; clear K; intro a K
  refine wpList_nil ?_
  refine then_n ?_
  refine wp_seq ?_
  refine X_reg ?_
  refine X_rd K (want_no rfl) rfl rfl (rd_move rfl K rfl) M ?_; clear K; intro a K
  refine X_rd K (want_no rfl) rfl rfl (rd_move rfl K rfl) M ?_; clear K; intro a K
  obtain ⟨r3, h_r3, h⟩ := obind h
  refine X_ac K (want_no rfl) rfl rfl (ac_call (vs := [.slice A_d d.length c_d, .int .i64 p2]) (cap := []) rfl fok50 K rfl rfl (W_tone_Curve N d A_d c_d p2 _ ((inA R_d) _ M) C_d r3 h_r3)) ?_
  have M0 := M; clear K M; rintro _ a w ⟨rfl, M⟩ K
  have M := M0.call M
  clear M0
  refine X_rd K (want_no rfl) rfl rfl (rd_move rfl K rfl) M ?_; clear K; intro a K
  refine X_rd K (want_no rfl) rfl rfl (rd_extract rfl K rfl rfl) M ?_; clear K; intro a K
  refine X_rd K (want_no rfl) rfl rfl (rd_extract rfl K rfl rfl) M ?_; clear K; intro a K
  refine X_rd K (want_no rfl) rfl rfl (rd_assign rfl K rfl) M ?_; clear K; intro a K
  refine X_rd K (want_no rfl) rfl rfl (rd_assign rfl K rfl) M ?_; clear K; intro a K
  refine wpList_nil ?_
  refine then_n ?_
  refine wp_seq ?_
  refine wp_seq ?_
  refine X_reg ?_
  refine X_rd K (want_no rfl) rfl rfl (rd_move rfl K rfl) M ?_; clear K; intro a K
  refine X_rd K (want_no rfl) rfl rfl (rd_eql rfl K rfl rfl) M ?_; clear K; intro a K
  refine X_rd K (want_no rfl) rfl rfl (rd_move rfl K rfl) M ?_; clear K; intro a K
  rcases Bool.eq_false_or_eq_true (decide (r2.2 = 0)) with hb | hb
  · have h := ctrue hb h
    have K := K.reb (s := 30) rfl hb
    refine X_rd K (K.yes rfl rfl rfl) rfl rfl (rd_move rfl K rfl) M ?_; clear K; intro a K
    refine X_rd K (K.yes rfl rfl rfl) rfl rfl (rd_eql rfl K rfl rfl) M ?_; clear K; intro a K
    refine X_rd K (want_no rfl) rfl rfl (rd_pickT rfl K rfl rfl) M ?_; clear K; intro a K
    refine X_rd K (want_no rfl) rfl rfl (rd_move rfl K rfl) M ?_; clear K; intro a K
    rcases Bool.eq_false_or_eq_true (decide (r3.2 = 0)) with hb | hb
    · have h := ctrue hb h
      have K := K.reb (s := 34) rfl hb
      refine X_rd K (K.yes rfl rfl rfl) rfl rfl (rd_move rfl K rfl) M ?_; clear K; intro a K
      refine X_rd K (K.yes rfl rfl rfl) rfl rfl (rd_move rfl K rfl) M ?_; clear K; intro a K
      refine X_rd K (K.yes rfl rfl rfl) rfl rfl (rd_leq rfl K rfl rfl) M ?_; clear K; intro a K
      refine X_rd K (want_no rfl) rfl rfl (rd_pickT rfl K rfl rfl) M ?_; clear K; intro a K
      refine X_rd K (want_no rfl) rfl rfl (rd_move rfl K rfl) M ?_; clear K; intro a K
      rcases Bool.eq_false_or_eq_true (decide (o ≤ p2)) with hb | hb
      · have h := ctrue hb h
        have K := K.reb (s := 39) rfl hb
        refine X_rd K (K.yes rfl rfl rfl) rfl rfl (rd_move rfl K rfl) M ?_; clear K; intro a K
        refine X_rd K (K.yes rfl rfl rfl) rfl rfl (rd_move rfl K rfl) M ?_; clear K; intro a K
        refine X_rd K (K.yes rfl rfl rfl) rfl rfl (rd_gtr rfl K rfl rfl) M ?_; clear K; intro a K
        refine X_rd K (want_no rfl) rfl rfl (rd_pickT rfl K rfl rfl) M ?_; clear K; intro a K
        refine wpList_nil ?_
        refine then_n ?_
        refine X_cond K rfl (fun hb => ?_) (fun hb => ?_)
        · have h := ctrue hb h
          refine wp_seq ?_
          refine X_reg ?_
          refine X_rd K (want_no rfl) rfl rfl (rd_assign rfl K rfl) M ?_; clear K; intro a K
          refine wpList_nil ?_
          refine then_n ?_
          refine wp_ret ?_
          refine then_r ?_
          cases h
          exact ret1 K rfl (res_tmp K rfl) ⟨_, rfl, rfl, ((M).pick [] (by decide))⟩
        · have h := cfalse hb h
          refine wp_skip ?_
          refine then_n ?_
          refine wp_seq ?_
          refine wp_seq ?_
          refine X_reg ?_
          refine X_rd K (want_no rfl) rfl rfl (rd_move rfl K rfl) M ?_; clear K; intro a K
          refine X_rd K (want_no rfl) rfl rfl (rd_len rfl un80 K rfl) M ?_; clear K; intro a K
          refine X_rd K (want_no rfl) rfl rfl (rd_eql rfl K rfl rfl) M ?_; clear K; intro a K
          refine wpList_nil ?_
          refine then_n ?_
          refine X_cond K rfl (fun hb => ?_) (fun hb => ?_)
          · have h := ctrue hb h
            refine wp_seq ?_
            refine X_reg ?_
            obtain ⟨r4, h_r4, h⟩ := obind h
            refine X_ac K (want_no rfl) rfl rfl (ac_call (vs := []) (cap := []) rfl fok48 K rfl rfl (W_darkslidelaw_toneBegun N  _  r4 h_r4)) ?_
            have M0 := M; clear K M; rintro _ a w ⟨rfl, M⟩ K
            have M := M0.call M
            clear M0
            refine X_rd K (want_no rfl) rfl rfl (rd_move rfl K rfl) M ?_; clear K; intro a K
            rcases Bool.eq_false_or_eq_true (r4) with hb | hb
            · have h := ctrue hb h
              have K := K.reb (s := 48) rfl hb
              refine X_rd K (K.yes rfl rfl rfl) rfl rfl (rd_move rfl K rfl) M ?_; clear K; intro a K
              refine X_rd K (K.yes rfl rfl rfl) rfl rfl (rd_eql rfl K rfl rfl) M ?_; clear K; intro a K
              refine X_rd K (want_no rfl) rfl rfl (rd_pickT rfl K rfl rfl) M ?_; clear K; intro a K
              refine X_rd K (want_no rfl) rfl rfl (rd_assign rfl K rfl) M ?_; clear K; intro a K
              refine wpList_nil ?_
              refine then_n ?_
              refine wp_ret ?_
              refine then_r ?_
              cases h
              exact ret1 K rfl (res_tmp K rfl) ⟨_, rfl, rfl, ((M).pick [] (by decide))⟩
            · have h := cfalse hb h
              have K := K.reb (s := 48) rfl hb
              refine X_no K (K.no rfl rfl rfl rfl) rfl rfl ?_; clear K; intro a K
              refine X_no K (K.no rfl rfl rfl rfl) rfl rfl ?_; clear K; intro a K
              refine X_rd K (want_no rfl) rfl rfl (rd_pickF rfl K rfl rfl) M ?_; clear K; intro a K
              refine X_rd K (want_no rfl) rfl rfl (rd_assign rfl K rfl) M ?_; clear K; intro a K
              refine wpList_nil ?_
              refine then_n ?_
              refine wp_ret ?_
              refine then_r ?_
              cases h
              exact ret1 K rfl (res_tmp K rfl) ⟨_, rfl, rfl, ((M).pick [] (by decide))⟩
          · have h := cfalse hb h
            refine wp_skip ?_
            refine then_n ?_
            refine wp_seq ?_
            refine X_reg ?_
            refine X_rd K (want_no rfl) rfl rfl (rd_move rfl K rfl) M ?_; clear K; intro a K
            refine X_rd K (want_no rfl) rfl rfl (rd_move rfl K rfl) M ?_; clear K; intro a K
            refine X_rd K (want_no rfl) rfl rfl (rd_move rfl K rfl) M ?_; clear K; intro a K
            refine X_rd K (want_no rfl) rfl rfl (rd_len rfl un80 K rfl) M ?_; clear K; intro a K
            obtain ⟨r5, h_r5, h⟩ := obind h
            refine X_ac K (want_no rfl) rfl rfl (ac_call (vs := [.int .i64 p3, .int .i64 (d.length : Int)]) (cap := []) rfl fok44 K rfl rfl (W_darkslidelaw_choose N p3 (d.length : Int) _  r5 h_r5)) ?_
            have M0 := M; clear K M; rintro _ a w ⟨rfl, M⟩ K
            have M := M0.call M
            clear M0
            obtain ⟨e, h_e, h⟩ := obind h
            refine X_rd K (want_no rfl) rfl rfl (rd_ix rfl sl80 K rfl rfl (inA R_d) h_e) M ?_; clear K; intro a K
            refine X_rd K (want_no rfl) rfl rfl (rd_elA rfl ty88 K rfl rfl rfl (inA R_d) h_e) M ?_; clear K; intro a K
            refine X_ac K (want_no rfl) rfl rfl (ac_alloc rfl z88 M) ?_
            have M0 := M; clear K M; rintro _ a w ⟨g_x, rfl, M⟩ K
            clear M0
            refine X_a0 K (want_no rfl) rfl (ac_storeA rfl ty88 K rfl (ds := [.int .i64 e.1, .int .i64 e.2]) rfl rfl 0 M rfl rfl rfl) ?_
            have M0 := M; clear K M; rintro _ a w M K
            clear M0
            refine wpList_nil ?_
            refine then_n ?_
            refine wp_seq ?_
            refine X_reg ?_
            refine X_rd K (want_no rfl) rfl rfl (rd_move rfl K rfl) M ?_; clear K; intro a K
            refine X_rd K (want_no rfl) rfl rfl (rd_field rfl fld88_0 K rfl) M ?_; clear K; intro a K
            refine X_rd K (want_no rfl) rfl rfl (rd_ldC rfl sc3 K rfl (inM 0 rfl) rfl) M ?_; clear K; intro a K
            obtain ⟨r6, h_r6, h⟩ := obind h
            refine X_ac K (want_no rfl) rfl rfl (ac_call (vs := [.slice A_d d.length c_d, .int .i64 e.1]) (cap := []) rfl fok50 K rfl rfl (W_tone_Curve N d A_d c_d e.1 _ ((inA R_d) _ M) C_d r6 h_r6)) ?_
            have M0 := M; clear K M; rintro _ a w ⟨rfl, M⟩ K
            have M := M0.call M
            clear M0
            refine X_rd K (want_no rfl) rfl rfl (rd_move rfl K rfl) M ?_; clear K; intro a K
            refine X_rd K (want_no rfl) rfl rfl (rd_extract rfl K rfl rfl) M ?_; clear K; intro a K
            refine X_rd K (want_no rfl) rfl rfl (rd_extract rfl K rfl rfl) M ?_; clear K; intro a K
            refine X_rd K (want_no rfl) rfl rfl (rd_assign rfl K rfl) M ?_; clear K; intro a K
            refine X_rd K (want_no rfl) rfl rfl (rd_assign rfl K rfl) M ?_; clear K; intro a K
            refine wpList_nil ?_
            refine then_n ?_
            refine wp_seq ?_
            refine X_reg ?_
            obtain ⟨r7, h_r7, h⟩ := obind h
            refine X_ac K (want_no rfl) rfl rfl (ac_call (vs := []) (cap := []) rfl fok48 K rfl rfl (W_darkslidelaw_toneBegun N  _  r7 h_r7)) ?_
            have M0 := M; clear K M; rintro _ a w ⟨rfl, M⟩ K
            have M := M0.call M
            clear M0
            refine X_rd K (want_no rfl) rfl rfl (rd_move rfl K rfl) M ?_; clear K; intro a K
            rcases Bool.eq_false_or_eq_true (r7) with hb | hb
            · have h := ctrue hb h
              have K := K.reb (s := 67) rfl hb
              refine X_rd K (K.yes rfl rfl rfl) rfl rfl (rd_move rfl K rfl) M ?_; clear K; intro a K
              refine X_rd K (K.yes rfl rfl rfl) rfl rfl (rd_neq rfl K rfl rfl) M ?_; clear K; intro a K
              refine X_rd K (K.yes rfl rfl rfl) rfl rfl (rd_move rfl K rfl) M ?_; clear K; intro a K
              rcases Bool.eq_false_or_eq_true (!decide (r6.2 = 0)) with hb | hb
              · have h := ctrue hb h
                have K := K.reb (s := 70) rfl hb
                refine X_no K (K.no rfl rfl rfl rfl) rfl rfl ?_; clear K; intro a K
                refine X_no K (K.no rfl rfl rfl rfl) rfl rfl ?_; clear K; intro a K
                refine X_no K (K.no rfl rfl rfl rfl) rfl rfl ?_; clear K; intro a K
                refine X_no K (K.no rfl rfl rfl rfl) rfl rfl ?_; clear K; intro a K
                refine X_rd K (K.yes rfl rfl rfl) rfl rfl (rd_pickT rfl K rfl rfl) M ?_; clear K; intro a K
                refine X_rd K (want_no rfl) rfl rfl (rd_pickT rfl K rfl rfl) M ?_; clear K; intro a K
                refine X_rd K (want_no rfl) rfl rfl (rd_assign rfl K rfl) M ?_; clear K; intro a K
                refine wpList_nil ?_
                refine then_n ?_
                refine wp_ret ?_
                cases h
                exact ret1 K rfl (res_tmp K rfl) ⟨_, rfl, rfl, ((M).pick [] (by decide))⟩
              · have h := cfalse hb h
                have K := K.reb (s := 70) rfl hb
                refine X_rd K (K.yes rfl rfl rfl) rfl rfl (rd_move rfl K rfl) M ?_; clear K; intro a K
                refine X_rd K (K.yes rfl rfl rfl) rfl rfl (rd_field rfl fld88_1 K rfl) M ?_; clear K; intro a K
                refine X_rd K (K.yes rfl rfl rfl) rfl rfl (rd_ldC rfl sc3 K rfl (inM 0 rfl) rfl) M ?_; clear K; intro a K
                refine X_rd K (K.yes rfl rfl rfl) rfl rfl (rd_eql rfl K rfl rfl) M ?_; clear K; intro a K
                refine X_rd K (K.yes rfl rfl rfl) rfl rfl (rd_pickF rfl K rfl rfl) M ?_; clear K; intro a K
                refine X_rd K (want_no rfl) rfl rfl (rd_pickT rfl K rfl rfl) M ?_; clear K; intro a K
                refine X_rd K (want_no rfl) rfl rfl (rd_assign rfl K rfl) M ?_; clear K; intro a K
                refine wpList_nil ?_
                refine then_n ?_
                refine wp_ret ?_
                cases h
                exact ret1 K rfl (res_tmp K rfl) ⟨_, rfl, rfl, ((M).pick [] (by decide))⟩
            · have h := cfalse hb h
              have K := K.reb (s := 67) rfl hb
              refine X_no K (K.no rfl rfl rfl rfl) rfl rfl ?_; clear K; intro a K
              refine X_no K (K.no rfl rfl rfl rfl) rfl rfl ?_; clear K; intro a K
              refine X_no K (K.no rfl rfl rfl rfl) rfl rfl ?_; clear K; intro a K
              refine X_no K (K.nou rfl rfl rfl) rfl rfl ?_; clear K; intro a K
              refine X_no K (K.nou rfl rfl rfl) rfl rfl ?_; clear K; intro a K
              refine X_no K (K.nou rfl rfl rfl) rfl rfl ?_; clear K; intro a K
              refine X_no K (K.nou rfl rfl rfl) rfl rfl ?_; clear K; intro a K
              refine X_no K (K.no rfl rfl rfl rfl) rfl rfl ?_; clear K; intro a K
              refine X_rd K (want_no rfl) rfl rfl (rd_pickF rfl K rfl rfl) M ?_; clear K; intro a K
              refine X_rd K (want_no rfl) rfl rfl (rd_assign rfl K rfl) M ?_; clear K; intro a K
              refine wpList_nil ?_
              refine then_n ?_
              refine wp_ret ?_
              cases h
              exact ret1 K rfl (res_tmp K rfl) ⟨_, rfl, rfl, ((M).pick [] (by decide))⟩
      · have h := cfalse hb h
        have K := K.reb (s := 39) rfl hb
        refine X_no K (K.no rfl rfl rfl rfl) rfl rfl ?_; clear K; intro a K
        refine X_no K (K.no rfl rfl rfl rfl) rfl rfl ?_; clear K; intro a K
        refine X_no K (K.no rfl rfl rfl rfl) rfl rfl ?_; clear K; intro a K
        refine X_rd K (want_no rfl) rfl rfl (rd_pickF rfl K rfl rfl) M ?_; clear K; intro a K
        refine wpList_nil ?_
        refine then_n ?_
        refine X_condF K rfl ?_
        refine wp_skip ?_
        refine then_n ?_
        refine wp_seq ?_
        refine wp_seq ?_
        refine X_reg ?_
        refine X_rd K (want_no rfl) rfl rfl (rd_move rfl K rfl) M ?_; clear K; intro a K
        refine X_rd K (want_no rfl) rfl rfl (rd_len rfl un80 K rfl) M ?_; clear K; intro a K
        refine X_rd K (want_no rfl) rfl rfl (rd_eql rfl K rfl rfl) M ?_; clear K; intro a K
        refine wpList_nil ?_
        refine then_n ?_
        refine X_cond K rfl (fun hb => ?_) (fun hb => ?_)
        · have h := ctrue hb h
          refine wp_seq ?_
          refine X_reg ?_
          obtain ⟨r8, h_r8, h⟩ := obind h
          refine X_ac K (want_no rfl) rfl rfl (ac_call (vs := []) (cap := []) rfl fok48 K rfl rfl (W_darkslidelaw_toneBegun N  _  r8 h_r8)) ?_
          have M0 := M; clear K M; rintro _ a w ⟨rfl, M⟩ K
          have M := M0.call M
          clear M0
          refine X_rd K (want_no rfl) rfl rfl (rd_move rfl K rfl) M ?_; clear K; intro a K
          rcases Bool.eq_false_or_eq_true (r8) with hb | hb
          · have h := ctrue hb h
            have K := K.reb (s := 48) rfl hb
            refine X_rd K (K.yes rfl rfl rfl) rfl rfl (rd_move rfl K rfl) M ?_; clear K; intro a K
            refine X_rd K (K.yes rfl rfl rfl) rfl rfl (rd_eql rfl K rfl rfl) M ?_; clear K; intro a K
            refine X_rd K (want_no rfl) rfl rfl (rd_pickT rfl K rfl rfl) M ?_; clear K; intro a K
            refine X_rd K (want_no rfl) rfl rfl (rd_assign rfl K rfl) M ?_; clear K; intro a K
            refine wpList_nil ?_
            refine then_n ?_
            refine wp_ret ?_
            refine then_r ?_
            cases h
            exact ret1 K rfl (res_tmp K rfl) ⟨_, rfl, rfl, ((M).pick [] (by decide))⟩
          · have h := cfalse hb h
            have K := K.reb (s := 48) rfl hb
            refine X_no K (K.no rfl rfl rfl rfl) rfl rfl ?_; clear K; intro a K
            refine X_no K (K.no rfl rfl rfl rfl) rfl rfl ?_; clear K; intro a K
            refine X_rd K (want_no rfl) rfl rfl (rd_pickF rfl K rfl rfl) M ?_; clear K; intro a K
            refine X_rd K (want_no rfl) rfl rfl (rd_assign rfl K rfl) M ?_; clear K; intro a K
            refine wpList_nil ?_
            refine then_n ?_
            refine wp_ret ?_
            refine then_r ?_
            cases h
            exact ret1 K rfl (res_tmp K rfl) ⟨_, rfl, rfl, ((M).pick [] (by decide))⟩
        · have h := cfalse hb h
          refine wp_skip ?_
          refine then_n ?_
          refine wp_seq ?_
          refine X_reg ?_
          refine X_rd K (want_no rfl) rfl rfl (rd_move rfl K rfl) M ?_; clear K; intro a K
          refine X_rd K (want_no rfl) rfl rfl (rd_move rfl K rfl) M ?_; clear K; intro a K
          refine X_rd K (want_no rfl) rfl rfl (rd_move rfl K rfl) M ?_; clear K; intro a K
          refine X_rd K (want_no rfl) rfl rfl (rd_len rfl un80 K rfl) M ?_; clear K; intro a K
          obtain ⟨r9, h_r9, h⟩ := obind h
          refine X_ac K (want_no rfl) rfl rfl (ac_call (vs := [.int .i64 p3, .int .i64 (d.length : Int)]) (cap := []) rfl fok44 K rfl rfl (W_darkslidelaw_choose N p3 (d.length : Int) _  r9 h_r9)) ?_
          have M0 := M; clear K M; rintro _ a w ⟨rfl, M⟩ K
          have M := M0.call M
          clear M0
          obtain ⟨e2, h_e2, h⟩ := obind h
          refine X_rd K (want_no rfl) rfl rfl (rd_ix rfl sl80 K rfl rfl (inA R_d) h_e2) M ?_; clear K; intro a K
          refine X_rd K (want_no rfl) rfl rfl (rd_elA rfl ty88 K rfl rfl rfl (inA R_d) h_e2) M ?_; clear K; intro a K
          refine X_ac K (want_no rfl) rfl rfl (ac_alloc rfl z88 M) ?_
          have M0 := M; clear K M; rintro _ a w ⟨g_x2, rfl, M⟩ K
          clear M0
          refine X_a0 K (want_no rfl) rfl (ac_storeA rfl ty88 K rfl (ds := [.int .i64 e2.1, .int .i64 e2.2]) rfl rfl 0 M rfl rfl rfl) ?_
          have M0 := M; clear K M; rintro _ a w M K
          clear M0
          refine wpList_nil ?_
          refine then_n ?_
          refine wp_seq ?_
          refine X_reg ?_
          refine X_rd K (want_no rfl) rfl rfl (rd_move rfl K rfl) M ?_; clear K; intro a K
          refine X_rd K (want_no rfl) rfl rfl (rd_field rfl fld88_0 K rfl) M ?_; clear K; intro a K
          refine X_rd K (want_no rfl) rfl rfl (rd_ldC rfl sc3 K rfl (inM 0 rfl) rfl) M ?_; clear K; intro a K
          obtain ⟨r10, h_r10, h⟩ := obind h
          refine X_ac K (want_no rfl) rfl rfl (ac_call (vs := [.slice A_d d.length c_d, .int .i64 e2.1]) (cap := []) rfl fok50 K rfl rfl (W_tone_Curve N d A_d c_d e2.1 _ ((inA R_d) _ M) C_d r10 h_r10)) ?_
          have M0 := M; clear K M; rintro _ a w ⟨rfl, M⟩ K
          have M := M0.call M
          clear M0
          refine X_rd K (want_no rfl) rfl rfl (rd_move rfl K rfl) M ?_; clear K; intro a K
          refine X_rd K (want_no rfl) rfl rfl (rd_extract rfl K rfl rfl) M ?_; clear K; intro a K
          refine X_rd K (want_no rfl) rfl rfl (rd_extract rfl K rfl rfl) M ?_; clear K; intro a K
          refine X_rd K (want_no rfl) rfl rfl (rd_assign rfl K rfl) M ?_; clear K; intro a K
          refine X_rd K (want_no rfl) rfl rfl (rd_assign rfl K rfl) M ?_; clear K; intro a K
          refine wpList_nil ?_
          refine then_n ?_
          refine wp_seq ?_
          refine X_reg ?_
          obtain ⟨r11, h_r11, h⟩ := obind h
          refine X_ac K (want_no rfl) rfl rfl (ac_call (vs := []) (cap := []) rfl fok48 K rfl rfl (W_darkslidelaw_toneBegun N  _  r11 h_r11)) ?_
          have M0 := M; clear K M; rintro _ a w ⟨rfl, M⟩ K
          have M := M0.call M
          clear M0
          refine X_rd K (want_no rfl) rfl rfl (rd_move rfl K rfl) M ?_; clear K; intro a K
          rcases Bool.eq_false_or_eq_true (r11) with hb | hb
          · have h := ctrue hb h
            have K := K.reb (s := 67) rfl hb
            refine X_rd K (K.yes rfl rfl rfl) rfl rfl (rd_move rfl K rfl) M ?_; clear K; intro a K
            refine X_rd K (K.yes rfl rfl rfl) rfl rfl (rd_neq rfl K rfl rfl) M ?_; clear K; intro a K
            refine X_rd K (K.yes rfl rfl rfl) rfl rfl (rd_move rfl K rfl) M ?_; clear K; intro a K
            rcases Bool.eq_false_or_eq_true (!decide (r10.2 = 0)) with hb | hb
            · have h := ctrue hb h
              have K := K.reb (s := 70) rfl hb
              refine X_no K (K.no rfl rfl rfl rfl) rfl rfl ?_; clear K; intro a K
              refine X_no K (K.no rfl rfl rfl rfl) rfl rfl ?_; clear K; intro a K
              refine X_no K (K.no rfl rfl rfl rfl) rfl rfl ?_; clear K; intro a K
              refine X_no K (K.no rfl rfl rfl rfl) rfl rfl ?_; clear K; intro a K
              refine X_rd K (K.yes rfl rfl rfl) rfl rfl (rd_pickT rfl K rfl rfl) M ?_; clear K; intro a K
              refine X_rd K (want_no rfl) rfl rfl (rd_pickT rfl K rfl rfl) M ?_; clear K; intro a K
              refine X_rd K (want_no rfl) rfl rfl (rd_assign rfl K rfl) M ?_; clear K; intro a K
              refine wpList_nil ?_
              refine then_n ?_
              refine wp_ret ?_
              cases h
              exact ret1 K rfl (res_tmp K rfl) ⟨_, rfl, rfl, ((M).pick [] (by decide))⟩
            · have h := cfalse hb h
              have K := K.reb (s := 70) rfl hb
              refine X_rd K (K.yes rfl rfl rfl) rfl rfl (rd_move rfl K rfl) M ?_; clear K; intro a K
              refine X_rd K (K.yes rfl rfl rfl) rfl rfl (rd_field rfl fld88_1 K rfl) M ?_; clear K; intro a K
              refine X_rd K (K.yes rfl rfl rfl) rfl rfl (rd_ldC rfl sc3 K rfl (inM 0 rfl) rfl) M ?_; clear K; intro a K
              refine X_rd K (K.yes rfl rfl rfl) rfl rfl (rd_eql rfl K rfl rfl) M ?_; clear K; intro a K
              refine X_rd K (K.yes rfl rfl rfl) rfl rfl (rd_pickF rfl K rfl rfl) M ?_; clear K; intro a K
              refine X_rd K (want_no rfl) rfl rfl (rd_pickT rfl K rfl rfl) M ?_; clear K; intro a K
              refine X_rd K (want_no rfl) rfl rfl (rd_assign rfl K rfl) M ?_; clear K; intro a K
              refine wpList_nil ?_
              refine then_n ?_
              refine wp_ret ?_
              cases h
              exact ret1 K rfl (res_tmp K rfl) ⟨_, rfl, rfl, ((M).pick [] (by decide))⟩
          · have h := cfalse hb h
            have K := K.reb (s := 67) rfl hb
            refine X_no K (K.no rfl rfl rfl rfl) rfl rfl ?_; clear K; intro a K
            refine X_no K (K.no rfl rfl rfl rfl) rfl rfl ?_; clear K; intro a K
            refine X_no K (K.no rfl rfl rfl rfl) rfl rfl ?_; clear K; intro a K
            refine X_no K (K.nou rfl rfl rfl) rfl rfl ?_; clear K; intro a K
            refine X_no K (K.nou rfl rfl rfl) rfl rfl ?_; clear K; intro a K
            refine X_no K (K.nou rfl rfl rfl) rfl rfl ?_; clear K; intro a K
            refine X_no K (K.nou rfl rfl rfl) rfl rfl ?_; clear K; intro a K
            refine X_no K (K.no rfl rfl rfl rfl) rfl rfl ?_; clear K; intro a K
            refine X_rd K (want_no rfl) rfl rfl (rd_pickF rfl K rfl rfl) M ?_; clear K; intro a K
            refine X_rd K (want_no rfl) rfl rfl (rd_assign rfl K rfl) M ?_; clear K; intro a K
            refine wpList_nil ?_
            refine then_n ?_
            refine wp_ret ?_
            cases h
            exact ret1 K rfl (res_tmp K rfl) ⟨_, rfl, rfl, ((M).pick [] (by decide))⟩
    · have h := cfalse hb h
      have K := K.reb (s := 34) rfl hb
      refine X_no K (K.no rfl rfl rfl rfl) rfl rfl ?_; clear K; intro a K
      refine X_no K (K.no rfl rfl rfl rfl) rfl rfl ?_; clear K; intro a K
      refine X_no K (K.no rfl rfl rfl rfl) rfl rfl ?_; clear K; intro a K
      refine X_rd K (want_no rfl) rfl rfl (rd_pickF rfl K rfl rfl) M ?_; clear K; intro a K
      refine X_rd K (want_no rfl) rfl rfl (rd_move rfl K rfl) M ?_; clear K; intro a K
      refine X_no K (K.no rfl rfl rfl rfl) rfl rfl ?_; clear K; intro a K
      refine X_no K (K.no rfl rfl rfl rfl) rfl rfl ?_; clear K; intro a K
      refine X_no K (K.no rfl rfl rfl rfl) rfl rfl ?_; clear K; intro a K
      refine X_rd K (want_no rfl) rfl rfl (rd_pickF rfl K rfl rfl) M ?_; clear K; intro a K
      refine wpList_nil ?_
      refine then_n ?_
      refine X_condF K rfl ?_
      refine wp_skip ?_
      refine then_n ?_
      refine wp_seq ?_
      refine wp_seq ?_
      refine X_reg ?_
      refine X_rd K (want_no rfl) rfl rfl (rd_move rfl K rfl) M ?_; clear K; intro a K
      refine X_rd K (want_no rfl) rfl rfl (rd_len rfl un80 K rfl) M ?_; clear K; intro a K
      refine X_rd K (want_no rfl) rfl rfl (rd_eql rfl K rfl rfl) M ?_; clear K; intro a K
      refine wpList_nil ?_
      refine then_n ?_
      refine X_cond K rfl (fun hb => ?_) (fun hb => ?_)
      · have h := ctrue hb h
        refine wp_seq ?_
        refine X_reg ?_
        obtain ⟨r12, h_r12, h⟩ := obind h
        refine X_ac K (want_no rfl) rfl rfl (ac_call (vs := []) (cap := []) rfl fok48 K rfl rfl (W_darkslidelaw_toneBegun N  _  r12 h_r12)) ?_
        have M0 := M; clear K M; rintro _ a w ⟨rfl, M⟩ K
        have M := M0.call M
        clear M0
        refine X_rd K (want_no rfl) rfl rfl (rd_move rfl K rfl) M ?_; clear K; intro a K
        rcases Bool.eq_false_or_eq_true (r12) with hb | hb
        · have h := ctrue hb h
          have K := K.reb (s := 48) rfl hb
          refine X_rd K (K.yes rfl rfl rfl) rfl rfl (rd_move rfl K rfl) M ?_; clear K; intro a K
          refine X_rd K (K.yes rfl rfl rfl) rfl rfl (rd_eql rfl K rfl rfl) M ?_; clear K; intro a K
          refine X_rd K (want_no rfl) rfl rfl (rd_pickT rfl K rfl rfl) M ?_; clear K; intro a K
          refine X_rd K (want_no rfl) rfl rfl (rd_assign rfl K rfl) M ?_; clear K; intro a K
          refine wpList_nil ?_
          refine then_n ?_
          refine wp_ret ?_
          refine then_r ?_
          cases h
          exact ret1 K rfl (res_tmp K rfl) ⟨_, rfl, rfl, ((M).pick [] (by decide))⟩
        · have h := cfalse hb h
          have K := K.reb (s := 48) rfl hb
          refine X_no K (K.no rfl rfl rfl rfl) rfl rfl ?_; clear K; intro a K
          refine X_no K (K.no rfl rfl rfl rfl) rfl rfl ?_; clear K; intro a K
          refine X_rd K (want_no rfl) rfl rfl (rd_pickF rfl K rfl rfl) M ?_; clear K; intro a K
          refine X_rd K (want_no rfl) rfl rfl (rd_assign rfl K rfl) M ?_; clear K; intro a K
          refine wpList_nil ?_
          refine then_n ?_
          refine wp_ret ?_
          refine then_r ?_
          cases h
          exact ret1 K rfl (res_tmp K rfl) ⟨_, rfl, rfl, ((M).pick [] (by decide))⟩
      · have h := cfalse hb h
        refine wp_skip ?_
        refine then_n ?_
        refine wp_seq ?_
        refine X_reg ?_
        refine X_rd K (want_no rfl) rfl rfl (rd_move rfl K rfl) M ?_; clear K; intro a K
        refine X_rd K (want_no rfl) rfl rfl (rd_move rfl K rfl) M ?_; clear K; intro a K
        refine X_rd K (want_no rfl) rfl rfl (rd_move rfl K rfl) M ?_; clear K; intro a K
        refine X_rd K (want_no rfl) rfl rfl (rd_len rfl un80 K rfl) M ?_; clear K; intro a K
        obtain ⟨r13, h_r13, h⟩ := obind h
        refine X_ac K (want_no rfl) rfl rfl (ac_call (vs := [.int .i64 p3, .int .i64 (d.length : Int)]) (cap := []) rfl fok44 K rfl rfl (W_darkslidelaw_choose N p3 (d.length : Int) _  r13 h_r13)) ?_
        have M0 := M; clear K M; rintro _ a w ⟨rfl, M⟩ K
        have M := M0.call M
        clear M0
        obtain ⟨e3, h_e3, h⟩ := obind h
        refine X_rd K (want_no rfl) rfl rfl (rd_ix rfl sl80 K rfl rfl (inA R_d) h_e3) M ?_; clear K; intro a K
        refine X_rd K (want_no rfl) rfl rfl (rd_elA rfl ty88 K rfl rfl rfl (inA R_d) h_e3) M ?_; clear K; intro a K
        refine X_ac K (want_no rfl) rfl rfl (ac_alloc rfl z88 M) ?_
        have M0 := M; clear K M; rintro _ a w ⟨g_x3, rfl, M⟩ K
        clear M0
        refine X_a0 K (want_no rfl) rfl (ac_storeA rfl ty88 K rfl (ds := [.int .i64 e3.1, .int .i64 e3.2]) rfl rfl 0 M rfl rfl rfl) ?_
        have M0 := M; clear K M; rintro _ a w M K
        clear M0
        refine wpList_nil ?_
        refine then_n ?_
        refine wp_seq ?_
        refine X_reg ?_
        refine X_rd K (want_no rfl) rfl rfl (rd_move rfl K rfl) M ?_; clear K; intro a K
        refine X_rd K (want_no rfl) rfl rfl (rd_field rfl fld88_0 K rfl) M ?_; clear K; intro a K
        refine X_rd K (want_no rfl) rfl rfl (rd_ldC rfl sc3 K rfl (inM 0 rfl) rfl) M ?_; clear K; intro a K
        obtain ⟨r14, h_r14, h⟩ := obind h
        refine X_ac K (want_no rfl) rfl rfl (ac_call (vs := [.slice A_d d.length c_d, .int .i64 e3.1]) (cap := []) rfl fok50 K rfl rfl (W_tone_Curve N d A_d c_d e3.1 _ ((inA R_d) _ M) C_d r14 h_r14)) ?_
        have M0 := M; clear K M; rintro _ a w ⟨rfl, M⟩ K
        have M := M0.call M
        clear M0
        refine X_rd K (want_no rfl) rfl rfl (rd_move rfl K rfl) M ?_; clear K; intro a K
        refine X_rd K (want_no rfl) rfl rfl (rd_extract rfl K rfl rfl) M ?_; clear K; intro a K
        refine X_rd K (want_no rfl) rfl rfl (rd_extract rfl K rfl rfl) M ?_; clear K; intro a K
        refine X_rd K (want_no rfl) rfl rfl (rd_assign rfl K rfl) M ?_; clear K; intro a K
        refine X_rd K (want_no rfl) rfl rfl (rd_assign rfl K rfl) M ?_; clear K; intro a K
        refine wpList_nil ?_
        refine then_n ?_
        refine wp_seq ?_
        refine X_reg ?_
        obtain ⟨r15, h_r15, h⟩ := obind h
        refine X_ac K (want_no rfl) rfl rfl (ac_call (vs := []) (cap := []) rfl fok48 K rfl rfl (W_darkslidelaw_toneBegun N  _  r15 h_r15)) ?_
        have M0 := M; clear K M; rintro _ a w ⟨rfl, M⟩ K
        have M := M0.call M
        clear M0
        refine X_rd K (want_no rfl) rfl rfl (rd_move rfl K rfl) M ?_; clear K; intro a K
        rcases Bool.eq_false_or_eq_true (r15) with hb | hb
        · have h := ctrue hb h
          have K := K.reb (s := 67) rfl hb
          refine X_rd K (K.yes rfl rfl rfl) rfl rfl (rd_move rfl K rfl) M ?_; clear K; intro a K
          refine X_rd K (K.yes rfl rfl rfl) rfl rfl (rd_neq rfl K rfl rfl) M ?_; clear K; intro a K
          refine X_rd K (K.yes rfl rfl rfl) rfl rfl (rd_move rfl K rfl) M ?_; clear K; intro a K
          rcases Bool.eq_false_or_eq_true (!decide (r14.2 = 0)) with hb | hb
          · have h := ctrue hb h
            have K := K.reb (s := 70) rfl hb
            refine X_no K (K.no rfl rfl rfl rfl) rfl rfl ?_; clear K; intro a K
            refine X_no K (K.no rfl rfl rfl rfl) rfl rfl ?_; clear K; intro a K
            refine X_no K (K.no rfl rfl rfl rfl) rfl rfl ?_; clear K; intro a K
            refine X_no K (K.no rfl rfl rfl rfl) rfl rfl ?_; clear K; intro a K
            refine X_rd K (K.yes rfl rfl rfl) rfl rfl (rd_pickT rfl K rfl rfl) M ?_; clear K; intro a K
            refine X_rd K (want_no rfl) rfl rfl (rd_pickT rfl K rfl rfl) M ?_; clear K; intro a K
            refine X_rd K (want_no rfl) rfl rfl (rd_assign rfl K rfl) M ?_; clear K; intro a K
            refine wpList_nil ?_
            refine then_n ?_
            refine wp_ret ?_
            cases h
            exact ret1 K rfl (res_tmp K rfl) ⟨_, rfl, rfl, ((M).pick [] (by decide))⟩
          · have h := cfalse hb h
            have K := K.reb (s := 70) rfl hb
            refine X_rd K (K.yes rfl rfl rfl) rfl rfl (rd_move rfl K rfl) M ?_; clear K; intro a K
            refine X_rd K (K.yes rfl rfl rfl) rfl rfl (rd_field rfl fld88_1 K rfl) M ?_; clear K; intro a K
            refine X_rd K (K.yes rfl rfl rfl) rfl rfl (rd_ldC rfl sc3 K rfl (inM 0 rfl) rfl) M ?_; clear K; intro a K
            refine X_rd K (K.yes rfl rfl rfl) rfl rfl (rd_eql rfl K rfl rfl) M ?_; clear K; intro a K
            refine X_rd K (K.yes rfl rfl rfl) rfl rfl (rd_pickF rfl K rfl rfl) M ?_; clear K; intro a K
            refine X_rd K (want_no rfl) rfl rfl (rd_pickT rfl K rfl rfl) M ?_; clear K; intro a K
            refine X_rd K (want_no rfl) rfl rfl (rd_assign rfl K rfl) M ?_; clear K; intro a K
            refine wpList_nil ?_
            refine then_n ?_
            refine wp_ret ?_
            cases h
            exact ret1 K rfl (res_tmp K rfl) ⟨_, rfl, rfl, ((M).pick [] (by decide))⟩
        · have h := cfalse hb h
          have K := K.reb (s := 67) rfl hb
          refine X_no K (K.no rfl rfl rfl rfl) rfl rfl ?_; clear K; intro a K
          refine X_no K (K.no rfl rfl rfl rfl) rfl rfl ?_; clear K; intro a K
          refine X_no K (K.no rfl rfl rfl rfl) rfl rfl ?_; clear K; intro a K
          refine X_no K (K.nou rfl rfl rfl) rfl rfl ?_; clear K; intro a K
          refine X_no K (K.nou rfl rfl rfl) rfl rfl ?_; clear K; intro a K
          refine X_no K (K.nou rfl rfl rfl) rfl rfl ?_; clear K; intro a K
          refine X_no K (K.nou rfl rfl rfl) rfl rfl ?_; clear K; intro a K
          refine X_no K (K.no rfl rfl rfl rfl) rfl rfl ?_; clear K; intro a K
          refine X_rd K (want_no rfl) rfl rfl (rd_pickF rfl K rfl rfl) M ?_; clear K; intro a K
          refine X_rd K (want_no rfl) rfl rfl (rd_assign rfl K rfl) M ?_; clear K; intro a K
          refine wpList_nil ?_
          refine then_n ?_
          refine wp_ret ?_
          cases h
          exact ret1 K rfl (res_tmp K rfl) ⟨_, rfl, rfl, ((M).pick [] (by decide))⟩
  · have h := cfalse hb h
    have K := K.reb (s := 30) rfl hb
    refine X_no K (K.no rfl rfl rfl rfl) rfl rfl ?_; clear K; intro a K
    refine X_no K (K.no rfl rfl rfl rfl) rfl rfl ?_; clear K; intro a K
    refine X_rd K (want_no rfl) rfl rfl (rd_pickF rfl K rfl rfl) M ?_; clear K; intro a K
    refine X_rd K (want_no rfl) rfl rfl (rd_move rfl K rfl) M ?_; clear K; intro a K
    refine X_no K (K.no rfl rfl rfl rfl) rfl rfl ?_; clear K; intro a K
    refine X_no K (K.no rfl rfl rfl rfl) rfl rfl ?_; clear K; intro a K
    refine X_no K (K.no rfl rfl rfl rfl) rfl rfl ?_; clear K; intro a K
    refine X_rd K (want_no rfl) rfl rfl (rd_pickF rfl K rfl rfl) M ?_; clear K; intro a K
    refine X_rd K (want_no rfl) rfl rfl (rd_move rfl K rfl) M ?_; clear K; intro a K
    refine X_no K (K.no rfl rfl rfl rfl) rfl rfl ?_; clear K; intro a K
    refine X_no K (K.no rfl rfl rfl rfl) rfl rfl ?_; clear K; intro a K
    refine X_no K (K.no rfl rfl rfl rfl) rfl rfl ?_; clear K; intro a K
    refine X_rd K (want_no rfl) rfl rfl (rd_pickF rfl K rfl rfl) M ?_; clear K; intro a K
    refine wpList_nil ?_
    refine then_n ?_
    refine X_condF K rfl ?_
    refine wp_skip ?_
    refine then_n ?_
    refine wp_seq ?_
    refine wp_seq ?_
    refine X_reg ?_
    refine X_rd K (want_no rfl) rfl rfl (rd_move rfl K rfl) M ?_; clear K; intro a K
    refine X_rd K (want_no rfl) rfl rfl (rd_len rfl un80 K rfl) M ?_; clear K; intro a K
    refine X_rd K (want_no rfl) rfl rfl (rd_eql rfl K rfl rfl) M ?_; clear K; intro a K
    refine wpList_nil ?_
    refine then_n ?_
    refine X_cond K rfl (fun hb => ?_) (fun hb => ?_)
    · have h := ctrue hb h
      refine wp_seq ?_
      refine X_reg ?_
      obtain ⟨r16, h_r16, h⟩ := obind h
      refine X_ac K (want_no rfl) rfl rfl (ac_call (vs := []) (cap := []) rfl fok48 K rfl rfl (W_darkslidelaw_toneBegun N  _  r16 h_r16)) ?_
      have M0 := M; clear K M; rintro _ a w ⟨rfl, M⟩ K
      have M := M0.call M
      clear M0
      refine X_rd K (want_no rfl) rfl rfl (rd_move rfl K rfl) M ?_; clear K; intro a K
      rcases Bool.eq_false_or_eq_true (r16) with hb | hb
      · have h := ctrue hb h
        have K := K.reb (s := 48) rfl hb
        refine X_rd K (K.yes rfl rfl rfl) rfl rfl (rd_move rfl K rfl) M ?_; clear K; intro a K
        refine X_rd K (K.yes rfl rfl rfl) rfl rfl (rd_eql rfl K rfl rfl) M ?_; clear K; intro a K
        refine X_rd K (want_no rfl) rfl rfl (rd_pickT rfl K rfl rfl) M ?_; clear K; intro a K
        refine X_rd K (want_no rfl) rfl rfl (rd_assign rfl K rfl) M ?_; clear K; intro a K
        refine wpList_nil ?_
        refine then_n ?_
        refine wp_ret ?_
        refine then_r ?_
        cases h
        exact ret1 K rfl (res_tmp K rfl) ⟨_, rfl, rfl, ((M).pick [] (by decide))⟩
      · have h := cfalse hb h
        have K := K.reb (s := 48) rfl hb
        refine X_no K (K.no rfl rfl rfl rfl) rfl rfl ?_; clear K; intro a K
        refine X_no K (K.no rfl rfl rfl rfl) rfl rfl ?_; clear K; intro a K
        refine X_rd K (want_no rfl) rfl rfl (rd_pickF rfl K rfl rfl) M ?_; clear K; intro a K
        refine X_rd K (want_no rfl) rfl rfl (rd_assign rfl K rfl) M ?_; clear K; intro a K
        refine wpList_nil ?_
        refine then_n ?_
        refine wp_ret ?_
        refine then_r ?_
        cases h
        exact ret1 K rfl (res_tmp K rfl) ⟨_, rfl, rfl, ((M).pick [] (by decide))⟩
    · have h := cfalse hb h
      refine wp_skip ?_
      refine then_n ?_
      refine wp_seq ?_
      refine X_reg ?_
      refine X_rd K (want_no rfl) rfl rfl (rd_move rfl K rfl) M ?_; clear K; intro a K
      refine X_rd K (want_no rfl) rfl rfl (rd_move rfl K rfl) M ?_; clear K; intro a K
      refine X_rd K (want_no rfl) rfl rfl (rd_move rfl K rfl) M ?_; clear K; intro a K
      refine X_rd K (want_no rfl) rfl rfl (rd_len rfl un80 K rfl) M ?_; clear K; intro a K
      obtain ⟨r17, h_r17, h⟩ := obind h
      refine X_ac K (want_no rfl) rfl rfl (ac_call (vs := [.int .i64 p3, .int .i64 (d.length : Int)]) (cap := []) rfl fok44 K rfl rfl (W_darkslidelaw_choose N p3 (d.length : Int) _  r17 h_r17)) ?_
      have M0 := M; clear K M; rintro _ a w ⟨rfl, M⟩ K
      have M := M0.call M
      clear M0
      obtain ⟨e4, h_e4, h⟩ := obind h
      refine X_rd K (want_no rfl) rfl rfl (rd_ix rfl sl80 K rfl rfl (inA R_d) h_e4) M ?_; clear K; intro a K
      refine X_rd K (want_no rfl) rfl rfl (rd_elA rfl ty88 K rfl rfl rfl (inA R_d) h_e4) M ?_; clear K; intro a K
      refine X_ac K (want_no rfl) rfl rfl (ac_alloc rfl z88 M) ?_
      have M0 := M; clear K M; rintro _ a w ⟨g_x4, rfl, M⟩ K
      clear M0
      refine X_a0 K (want_no rfl) rfl (ac_storeA rfl ty88 K rfl (ds := [.int .i64 e4.1, .int .i64 e4.2]) rfl rfl 0 M rfl rfl rfl) ?_
      have M0 := M; clear K M; rintro _ a w M K
      clear M0
      refine wpList_nil ?_
      refine then_n ?_
      refine wp_seq ?_
      refine X_reg ?_
      refine X_rd K (want_no rfl) rfl rfl (rd_move rfl K rfl) M ?_; clear K; intro a K
      refine X_rd K (want_no rfl) rfl rfl (rd_field rfl fld88_0 K rfl) M ?_; clear K; intro a K
      refine X_rd K (want_no rfl) rfl rfl (rd_ldC rfl sc3 K rfl (inM 0 rfl) rfl) M ?_; clear K; intro a K
      obtain ⟨r18, h_r18, h⟩ := obind h
      refine X_ac K (want_no rfl) rfl rfl (ac_call (vs := [.slice A_d d.length c_d, .int .i64 e4.1]) (cap := []) rfl fok50 K rfl rfl (W_tone_Curve N d A_d c_d e4.1 _ ((inA R_d) _ M) C_d r18 h_r18)) ?_
      have M0 := M; clear K M; rintro _ a w ⟨rfl, M⟩ K
      have M := M0.call M
      clear M0
      refine X_rd K (want_no rfl) rfl rfl (rd_move rfl K rfl) M ?_; clear K; intro a K
      refine X_rd K (want_no rfl) rfl rfl (rd_extract rfl K rfl rfl) M ?_; clear K; intro a K
      refine X_rd K (want_no rfl) rfl rfl (rd_extract rfl K rfl rfl) M ?_; clear K; intro a K
      refine X_rd K (want_no rfl) rfl rfl (rd_assign rfl K rfl) M ?_; clear K; intro a K
      refine X_rd K (want_no rfl) rfl rfl (rd_assign rfl K rfl) M ?_; clear K; intro a K
      refine wpList_nil ?_
      refine then_n ?_
      refine wp_seq ?_
      refine X_reg ?_
      obtain ⟨r19, h_r19, h⟩ := obind h
      refine X_ac K (want_no rfl) rfl rfl (ac_call (vs := []) (cap := []) rfl fok48 K rfl rfl (W_darkslidelaw_toneBegun N  _  r19 h_r19)) ?_
      have M0 := M; clear K M; rintro _ a w ⟨rfl, M⟩ K
      have M := M0.call M
      clear M0
      refine X_rd K (want_no rfl) rfl rfl (rd_move rfl K rfl) M ?_; clear K; intro a K
      rcases Bool.eq_false_or_eq_true (r19) with hb | hb
      · have h := ctrue hb h
        have K := K.reb (s := 67) rfl hb
        refine X_rd K (K.yes rfl rfl rfl) rfl rfl (rd_move rfl K rfl) M ?_; clear K; intro a K
        refine X_rd K (K.yes rfl rfl rfl) rfl rfl (rd_neq rfl K rfl rfl) M ?_; clear K; intro a K
        refine X_rd K (K.yes rfl rfl rfl) rfl rfl (rd_move rfl K rfl) M ?_; clear K; intro a K
        rcases Bool.eq_false_or_eq_true (!decide (r18.2 = 0)) with hb | hb
        · have h := ctrue hb h
          have K := K.reb (s := 70) rfl hb
          refine X_no K (K.no rfl rfl rfl rfl) rfl rfl ?_; clear K; intro a K
          refine X_no K (K.no rfl rfl rfl rfl) rfl rfl ?_; clear K; intro a K
          refine X_no K (K.no rfl rfl rfl rfl) rfl rfl ?_; clear K; intro a K
          refine X_no K (K.no rfl rfl rfl rfl) rfl rfl ?_; clear K; intro a K
          refine X_rd K (K.yes rfl rfl rfl) rfl rfl (rd_pickT rfl K rfl rfl) M ?_; clear K; intro a K
          refine X_rd K (want_no rfl) rfl rfl (rd_pickT rfl K rfl rfl) M ?_; clear K; intro a K
          refine X_rd K (want_no rfl) rfl rfl (rd_assign rfl K rfl) M ?_; clear K; intro a K
          refine wpList_nil ?_
          refine then_n ?_
          refine wp_ret ?_
          cases h
          exact ret1 K rfl (res_tmp K rfl) ⟨_, rfl, rfl, ((M).pick [] (by decide))⟩
        · have h := cfalse hb h
          have K := K.reb (s := 70) rfl hb
          refine X_rd K (K.yes rfl rfl rfl) rfl rfl (rd_move rfl K rfl) M ?_; clear K; intro a K
          refine X_rd K (K.yes rfl rfl rfl) rfl rfl (rd_field rfl fld88_1 K rfl) M ?_; clear K; intro a K
          refine X_rd K (K.yes rfl rfl rfl) rfl rfl (rd_ldC rfl sc3 K rfl (inM 0 rfl) rfl) M ?_; clear K; intro a K
          refine X_rd K (K.yes rfl rfl rfl) rfl rfl (rd_eql rfl K rfl rfl) M ?_; clear K; intro a K
          refine X_rd K (K.yes rfl rfl rfl) rfl rfl (rd_pickF rfl K rfl rfl) M ?_; clear K; intro a K
          refine X_rd K (want_no rfl) rfl rfl (rd_pickT rfl K rfl rfl) M ?_; clear K; intro a K
          refine X_rd K (want_no rfl) rfl rfl (rd_assign rfl K rfl) M ?_; clear K; intro a K
          refine wpList_nil ?_
          refine then_n ?_
          refine wp_ret ?_
          cases h
          exact ret1 K rfl (res_tmp K rfl) ⟨_, rfl, rfl, ((M).pick [] (by decide))⟩
      · have h := cfalse hb h
        have K := K.reb (s := 67) rfl hb
        refine X_no K (K.no rfl rfl rfl rfl) rfl rfl ?_; clear K; intro a K
        refine X_no K (K.no rfl rfl rfl rfl) rfl rfl ?_; clear K; intro a K
        refine X_no K (K.no rfl rfl rfl rfl) rfl rfl ?_; clear K; intro a K
        refine X_no K (K.nou rfl rfl rfl) rfl rfl ?_; clear K; intro a K
        refine X_no K (K.nou rfl rfl rfl) rfl rfl ?_; clear K; intro a K
        refine X_no K (K.nou rfl rfl rfl) rfl rfl ?_; clear K; intro a K
        refine X_no K (K.nou rfl rfl rfl) rfl rfl ?_; clear K; intro a K
        refine X_no K (K.no rfl rfl rfl rfl) rfl rfl ?_; clear K; intro a K
        refine X_rd K (want_no rfl) rfl rfl (rd_pickF rfl K rfl rfl) M ?_; clear K; intro a K
        refine X_rd K (want_no rfl) rfl rfl (rd_assign rfl K rfl) M ?_; clear K; intro a K
        refine wpList_nil ?_
        refine then_n ?_
        refine wp_ret ?_
        cases h
        exact ret1 K rfl (res_tmp K rfl) ⟨_, rfl, rfl, ((M).pick [] (by decide))⟩

end Go.Proofs.Ytpmnfhifmmfglaa
