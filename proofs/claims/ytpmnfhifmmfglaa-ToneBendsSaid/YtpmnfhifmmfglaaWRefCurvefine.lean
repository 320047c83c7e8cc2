/- Printed by a program (walk.py): the walks of darkslideref_CurveFine: each function computes what its plain program tells. -/
import Derived.Test.YtpmnfhifmmfglaaFacts
import Derived.Test.YtpmnfhifmmfglaaDD
import Derived.Test.YtpmnfhifmmfglaaWRefWithin
set_option linter.unusedVariables false
set_option linter.unusedSimpArgs false
set_option linter.unusedSectionVars false
namespace Go.Proofs.Ytpmnfhifmmfglaa
open Go.RowKit

set_option maxRecDepth 100000 in
set_option maxHeartbeats 4000000 in
theorem W_darkslideref_CurveFine (N : Nat) (d : List (Int × Int)) (A_d : Option Addr) (c_d : Nat) (w0 : World) (R_d : SL w0 cII A_d d) (C_d : d.length ≤ c_d) (r : Bool) (h : D_darkslideref_CurveFine N d = some r) :
    Calls Try.prog 51 #[.slice A_d d.length c_d] w0 fun e w' => ∃ v, e = .returned v ∧ v = .bool r ∧ Mem w0.heap.size w0 w' [] := by
  refine X_enter Try.func51 rfl Try.ntmps51 rfl ?_
  intro a K
  have M := Mem.start w0
  have K : Kn a 70 [(0, .slice A_d d.length c_d)] := K
  unfold D_darkslideref_CurveFine at h
  refine wp_seq ?_
  refine X_reg ?_
  refine X_rd K (want_no rfl) rfl rfl (rd_assign rfl K rfl) M ?_; clear K; intro a K
  refine wpList_nil ?_
  refine then_n ?_
  refine wp_seq ?_
  refine wp_seq ?_
  refine X_reg ?_
  refine X_rd K (want_no rfl) rfl rfl (rd_move rfl K rfl) M ?_; clear K; intro a K
  refine X_rd K (want_no rfl) rfl rfl (rd_len rfl un80 K rfl) M ?_; clear K; intro a K
  obtain ⟨r2, h_r2, h⟩ := obind h
  refine X_ac K (want_no rfl) rfl rfl (ac_call (vs := [.int .i64 (d.length : Int), .int .i64 2, .int .i64 16]) (cap := []) rfl fok57 K rfl rfl (W_darkslideref_within N (d.length : Int) 2 16 _  r2 h_r2)) ?_
  have M0 := M; clear K M; rintro _ a w ⟨rfl, M⟩ K
  have M := M0.call M
  clear M0
  refine X_rd K (want_no rfl) rfl rfl (rd_not rfl K rfl) M ?_; clear K; intro a K
  refine X_rd K (want_no rfl) rfl rfl (rd_move rfl K rfl) M ?_; clear K; intro a K
  rcases Bool.eq_false_or_eq_true (!(r2)) with hb | hb
  · have h := ctrue hb h
    have K := K.reb (s := 8) rfl hb
    refine X_no K (K.no rfl rfl rfl rfl) rfl rfl ?_; clear K; intro a K
    refine X_no K (K.no rfl rfl rfl rfl) rfl rfl ?_; clear K; intro a K
    refine X_no K (K.no rfl rfl rfl rfl) rfl rfl ?_; clear K; intro a K
    refine X_no K (K.no rfl rfl rfl rfl) rfl rfl ?_; clear K; intro a K
    refine X_no K (K.no rfl rfl rfl rfl) rfl rfl ?_; clear K; intro a K
    refine X_rd K (want_no rfl) rfl rfl (rd_pickT rfl K rfl rfl) M ?_; clear K; intro a K
    refine X_rd K (want_no rfl) rfl rfl (rd_move rfl K rfl) M ?_; clear K; intro a K
    refine X_no K (K.no rfl rfl rfl rfl) rfl rfl ?_; clear K; intro a K
    refine X_no K (K.no rfl rfl rfl rfl) rfl rfl ?_; clear K; intro a K
    refine X_no K (K.no rfl rfl rfl rfl) rfl rfl ?_; clear K; intro a K
    refine X_no K (K.no rfl rfl rfl rfl) rfl rfl ?_; clear K; intro a K
    refine X_no K (K.no rfl rfl rfl rfl) rfl rfl ?_; clear K; intro a K
    refine X_no K (K.no rfl rfl rfl rfl) rfl rfl ?_; clear K; intro a K
    refine X_no K (K.no rfl rfl rfl rfl) rfl rfl ?_; clear K; intro a K
    refine X_no K (K.no rfl rfl rfl rfl) rfl rfl ?_; clear K; intro a K
    refine X_rd K (want_no rfl) rfl rfl (rd_pickT rfl K rfl rfl) M ?_; clear K; intro a K
    refine wpList_nil ?_
    refine then_n ?_
    refine X_condT K rfl ?_
    refine wp_seq ?_
    refine X_reg ?_
    refine X_rd K (want_no rfl) rfl rfl (rd_assign rfl K rfl) M ?_; clear K; intro a K
    refine wpList_nil ?_
    refine then_n ?_
    refine wp_ret ?_
    refine then_r ?_
    cases h
    exact ret1 K rfl (res_tmp K rfl) ⟨_, rfl, rfl, ((M).pick [] (by decide))⟩
  · have h := cfalse hb h
    have K := K.reb (s := 8) rfl hb
    refine X_rd K (K.yes rfl rfl rfl) rfl rfl (rd_move rfl K rfl) M ?_; clear K; intro a K
    obtain ⟨e, h_e, h⟩ := obind h
    refine X_rd K (K.yes rfl rfl rfl) rfl rfl (rd_ix rfl sl80 K rfl rfl (inA R_d) h_e) M ?_; clear K; intro a K
    refine X_rd K (K.yes rfl rfl rfl) rfl rfl (rd_field rfl fld88_0 K rfl) M ?_; clear K; intro a K
    refine X_rd K (K.yes rfl rfl rfl) rfl rfl (rd_elF rfl sc3 K rfl rfl (inA R_d) h_e rfl) M ?_; clear K; intro a K
    refine X_rd K (K.yes rfl rfl rfl) rfl rfl (rd_neq rfl K rfl rfl) M ?_; clear K; intro a K
    refine X_rd K (want_no rfl) rfl rfl (rd_pickF rfl K rfl rfl) M ?_; clear K; intro a K
    refine X_rd K (want_no rfl) rfl rfl (rd_move rfl K rfl) M ?_; clear K; intro a K
    rcases Bool.eq_false_or_eq_true (!decide (e.1 = 0)) with hb | hb
    · have h := ctrue hb h
      have K := K.reb (s := 15) rfl hb
      refine X_no K (K.no rfl rfl rfl rfl) rfl rfl ?_; clear K; intro a K
      refine X_no K (K.no rfl rfl rfl rfl) rfl rfl ?_; clear K; intro a K
      refine X_no K (K.no rfl rfl rfl rfl) rfl rfl ?_; clear K; intro a K
      refine X_no K (K.no rfl rfl rfl rfl) rfl rfl ?_; clear K; intro a K
      refine X_no K (K.no rfl rfl rfl rfl) rfl rfl ?_; clear K; intro a K
      refine X_no K (K.no rfl rfl rfl rfl) rfl rfl ?_; clear K; intro a K
      refine X_no K (K.no rfl rfl rfl rfl) rfl rfl ?_; clear K; intro a K
      refine X_no K (K.no rfl rfl rfl rfl) rfl rfl ?_; clear K; intro a K
      refine X_rd K (want_no rfl) rfl rfl (rd_pickT rfl K rfl rfl) M ?_; clear K; intro a K
      refine wpList_nil ?_
      refine then_n ?_
      refine X_condT K rfl ?_
      refine wp_seq ?_
      refine X_reg ?_
      refine X_rd K (want_no rfl) rfl rfl (rd_assign rfl K rfl) M ?_; clear K; intro a K
      refine wpList_nil ?_
      refine then_n ?_
      refine wp_ret ?_
      refine then_r ?_
      cases h
      exact ret1 K rfl (res_tmp K rfl) ⟨_, rfl, rfl, ((M).pick [] (by decide))⟩
    · have h := cfalse hb h
      have K := K.reb (s := 15) rfl hb
      refine X_rd K (K.yes rfl rfl rfl) rfl rfl (rd_move rfl K rfl) M ?_; clear K; intro a K
      refine X_rd K (K.yes rfl rfl rfl) rfl rfl (rd_move rfl K rfl) M ?_; clear K; intro a K
      refine X_rd K (K.yes rfl rfl rfl) rfl rfl (rd_len rfl un80 K rfl) M ?_; clear K; intro a K
      refine X_rd K (K.yes rfl rfl rfl) rfl rfl (rd_sub rfl K rfl rfl) M ?_; clear K; intro a K
      obtain ⟨e2, h_e2, h⟩ := obind h
      refine X_rd K (K.yes rfl rfl rfl) rfl rfl (rd_ix rfl sl80 K rfl rfl (inA R_d) h_e2) M ?_; clear K; intro a K
      refine X_rd K (K.yes rfl rfl rfl) rfl rfl (rd_field rfl fld88_0 K rfl) M ?_; clear K; intro a K
      refine X_rd K (K.yes rfl rfl rfl) rfl rfl (rd_elF rfl sc3 K rfl rfl (inA R_d) h_e2 rfl) M ?_; clear K; intro a K
      refine X_rd K (K.yes rfl rfl rfl) rfl rfl (rd_neq rfl K rfl rfl) M ?_; clear K; intro a K
      refine X_rd K (want_no rfl) rfl rfl (rd_pickF rfl K rfl rfl) M ?_; clear K; intro a K
      refine wpList_nil ?_
      refine then_n ?_
      refine X_cond K rfl (fun hb => ?_) (fun hb => ?_)
      · have h := ctrue hb h
        refine wp_seq ?_
        refine X_reg ?_
        refine X_rd K (want_no rfl) rfl rfl (rd_assign rfl K rfl) M ?_; clear K; intro a K
        refine wpList_nil ?_
        refine then_n ?_
        refine wp_ret ?_
        refine then_r ?_
        cases h
        exact ret1 K rfl (res_tmp K rfl) ⟨_, rfl, rfl, ((M).pick [] (by decide))⟩
      · have h := cfalse hb h
        refine wp_skip ?_
        refine then_n ?_
        refine wp_seq ?_
        refine wp_seq ?_
        refine X_reg ?_
        refine X_rd K (want_no rfl) rfl rfl (rd_assign rfl K rfl) M ?_; clear K; intro a K
        refine wpList_nil ?_
        refine then_n ?_
        refine wp_block ?_
        refine X_lp (id := 0) (Rel := fun (i : Int) a w => Kn a 70 [(0, .slice A_d d.length c_d), (3, .int .i64 i)] ∧ Mem w0.heap.size w0 w []) h (fun _ _ => rfl) ⟨K.pick [0,3], M.pick [] (by decide)⟩ ?_ ?_
        · clear K M h
          rintro i2 a w ⟨K, M⟩ h
          try dsimp only at h
          refine inb_e ?_
          refine then_n ?_
          refine wp_seq ?_
          refine X_reg ?_
          refine X_rd K (want_no rfl) rfl rfl (rd_assign rfl K rfl) M ?_; clear K; intro a K
          refine wpList_nil ?_
          refine then_n ?_
          refine wp_ret ?_
          cases h
          exact ret1 K rfl (res_tmp K rfl) ⟨_, rfl, rfl, ((M).pick [] (by decide))⟩
        · clear K M h
          rintro kk fuel i a w hk1 ⟨K, M⟩ h
          unfold D_darkslideref_CurveFine_l1 at h
          refine wp_seq ?_
          refine wp_seq ?_
          refine X_reg ?_
          refine X_rd K (want_no rfl) rfl rfl (rd_move rfl K rfl) M ?_; clear K; intro a K
          refine X_rd K (want_no rfl) rfl rfl (rd_move rfl K rfl) M ?_; clear K; intro a K
          refine X_rd K (want_no rfl) rfl rfl (rd_len rfl un80 K rfl) M ?_; clear K; intro a K
          refine X_rd K (want_no rfl) rfl rfl (rd_lss rfl K rfl rfl) M ?_; clear K; intro a K
          refine wpList_nil ?_
          refine then_n ?_
          refine X_cond K rfl (fun hb => ?_) (fun hb => ?_)
          · have h := ctrue hb h
            refine wp_skip ?_
            refine then_n ?_
            refine wp_seq ?_
            refine wp_block ?_
            refine wp_seq ?_
            refine wp_region_tl (fun w => Mem _ _ w _) [0,0,0,0,0,1,0,0,0,0,0,0,0,0,0,0,0,0,0,0,0,0,0,0,0,0,0,0,0,0,0,0,0,0,0,0,0,0,0] (by kernel_rfl) (by kernel_rfl) M.drew ?_
            replace M := M.drew
            refine T_rd K (want_no rfl) rfl rfl (rd_move rfl K rfl) ?_; clear K; intro a K
            refine T_rd K (want_no rfl) rfl rfl (rd_move rfl K rfl) ?_; clear K; intro a K
            obtain ⟨e8, h_e8, h⟩ := obind h
            refine T_rd K (want_no rfl) rfl rfl (rd_ix rfl sl80 K rfl rfl (inA R_d) h_e8) ?_; clear K; intro a K
            refine T_rd K (want_no rfl) rfl rfl (rd_field rfl fld88_1 K rfl) ?_; clear K; intro a K
            refine T_rd K (want_no rfl) rfl rfl (rd_elF rfl sc3 K rfl rfl (inA R_d) h_e8 rfl) ?_; clear K; intro a K
            obtain ⟨r4, h_r4, h⟩ := obind h
            refine T_ac K (want_no rfl) rfl rfl (ac_call (vs := [.int .i64 e8.2, .int .i64 0, .int .i64 65535]) (cap := []) rfl fok57 K rfl rfl (W_darkslideref_within N e8.2 0 65535 _  r4 h_r4)) ?_
            have M0 := M; clear K M; rintro _ a w ⟨rfl, M⟩ K
            have M := M0.call M
            clear M0
            refine ⟨M.pick [] (by decide), ?_⟩
            refine T_rd K (want_no rfl) rfl rfl (rd_not rfl K rfl) ?_; clear K; intro a K
            refine T_rd K (want_no rfl) rfl rfl (rd_move rfl K rfl) ?_; clear K; intro a K
            rcases Bool.eq_false_or_eq_true (!(r4)) with hb | hb
            · have h := ctrue hb h
              have K := K.reb (s := 38) rfl hb
              refine T_no K (K.no rfl rfl rfl rfl) rfl rfl ?_; clear K; intro a K
              refine T_no K (K.no rfl rfl rfl rfl) rfl rfl ?_; clear K; intro a K
              refine T_no K (K.no rfl rfl rfl rfl) rfl rfl ?_; clear K; intro a K
              refine T_no K (K.nou rfl rfl rfl) rfl rfl ?_; clear K; intro a K
              refine T_no K (K.nou rfl rfl rfl) rfl rfl ?_; clear K; intro a K
              refine T_no K (K.nou rfl rfl rfl) rfl rfl ?_; clear K; intro a K
              refine T_no K (K.nou rfl rfl rfl) rfl rfl ?_; clear K; intro a K
              refine T_no K (K.nou rfl rfl rfl) rfl rfl ?_; clear K; intro a K
              refine T_no K (K.nou rfl rfl rfl) rfl rfl ?_; clear K; intro a K
              refine T_no K (K.nou rfl rfl rfl) rfl rfl ?_; clear K; intro a K
              refine T_no K (K.nou rfl rfl rfl) rfl rfl ?_; clear K; intro a K
              refine T_no K (K.nou rfl rfl rfl) rfl rfl ?_; clear K; intro a K
              refine T_no K (K.nou rfl rfl rfl) rfl rfl ?_; clear K; intro a K
              refine T_no K (K.nou rfl rfl rfl) rfl rfl ?_; clear K; intro a K
              refine T_no K (K.nou rfl rfl rfl) rfl rfl ?_; clear K; intro a K
              refine T_no K (K.nou rfl rfl rfl) rfl rfl ?_; clear K; intro a K
              refine T_no K (K.nou rfl rfl rfl) rfl rfl ?_; clear K; intro a K
              refine T_no K (K.nou rfl rfl rfl) rfl rfl ?_; clear K; intro a K
              refine T_no K (K.nou rfl rfl rfl) rfl rfl ?_; clear K; intro a K
              refine T_no K (K.nou rfl rfl rfl) rfl rfl ?_; clear K; intro a K
              refine T_no K (K.nou rfl rfl rfl) rfl rfl ?_; clear K; intro a K
              refine T_no K (K.nou rfl rfl rfl) rfl rfl ?_; clear K; intro a K
              refine T_no K (K.nou rfl rfl rfl) rfl rfl ?_; clear K; intro a K
              refine T_no K (K.nou rfl rfl rfl) rfl rfl ?_; clear K; intro a K
              refine T_no K (K.nou rfl rfl rfl) rfl rfl ?_; clear K; intro a K
              refine T_no K (K.nou rfl rfl rfl) rfl rfl ?_; clear K; intro a K
              refine T_no K (K.nou rfl rfl rfl) rfl rfl ?_; clear K; intro a K
              refine T_no K (K.nou rfl rfl rfl) rfl rfl ?_; clear K; intro a K
              refine T_no K (K.nou rfl rfl rfl) rfl rfl ?_; clear K; intro a K
              refine T_no K (K.no rfl rfl rfl rfl) rfl rfl ?_; clear K; intro a K
              refine T_rd K (want_no rfl) rfl rfl (rd_pickT rfl K rfl rfl) ?_; clear K; intro a K
              refine T_end ?_
              refine then_n ?_
              refine X_condT K rfl ?_
              refine wp_seq ?_
              refine X_reg ?_
              refine X_rd K (want_no rfl) rfl rfl (rd_assign rfl K rfl) M ?_; clear K; intro a K
              refine wpList_nil ?_
              refine then_n ?_
              refine wp_ret ?_
              refine inb_r ?_
              refine then_r ?_
              refine then_r ?_
              refine inb_r ?_
              refine then_r ?_
              cases h
              exact ret1 K rfl (res_tmp K rfl) ⟨_, rfl, rfl, ((M).pick [] (by decide))⟩
            · have h := cfalse hb h
              have K := K.reb (s := 38) rfl hb
              refine T_rd K (K.yes rfl rfl rfl) rfl rfl (rd_move rfl K rfl) ?_; clear K; intro a K
              refine T_rd K (K.yes rfl rfl rfl) rfl rfl (rd_gtr rfl K rfl rfl) ?_; clear K; intro a K
              refine T_rd K (K.yes rfl rfl rfl) rfl rfl (rd_move rfl K rfl) ?_; clear K; intro a K
              rcases Bool.eq_false_or_eq_true (decide (0 < i)) with hb | hb
              · have h := ctrue hb h
                have K := K.reb (s := 41) rfl hb
                refine T_rd K (K.yes rfl rfl rfl) rfl rfl (rd_move rfl K rfl) ?_; clear K; intro a K
                refine T_rd K (K.yes rfl rfl rfl) rfl rfl (rd_move rfl K rfl) ?_; clear K; intro a K
                obtain ⟨e9, h_e9, h⟩ := obind h
                refine T_rd K (K.yes rfl rfl rfl) rfl rfl (rd_ix rfl sl80 K rfl rfl (inA R_d) h_e9) ?_; clear K; intro a K
                refine T_rd K (K.yes rfl rfl rfl) rfl rfl (rd_field rfl fld88_0 K rfl) ?_; clear K; intro a K
                refine T_rd K (K.yes rfl rfl rfl) rfl rfl (rd_elF rfl sc3 K rfl rfl (inA R_d) h_e9 rfl) ?_; clear K; intro a K
                refine T_rd K (K.yes rfl rfl rfl) rfl rfl (rd_move rfl K rfl) ?_; clear K; intro a K
                refine T_rd K (K.yes rfl rfl rfl) rfl rfl (rd_move rfl K rfl) ?_; clear K; intro a K
                refine T_rd K (K.yes rfl rfl rfl) rfl rfl (rd_sub rfl K rfl rfl) ?_; clear K; intro a K
                obtain ⟨e10, h_e10, h⟩ := obind h
                refine T_rd K (K.yes rfl rfl rfl) rfl rfl (rd_ix rfl sl80 K rfl rfl (inA R_d) h_e10) ?_; clear K; intro a K
                refine T_rd K (K.yes rfl rfl rfl) rfl rfl (rd_field rfl fld88_0 K rfl) ?_; clear K; intro a K
                refine T_rd K (K.yes rfl rfl rfl) rfl rfl (rd_elF rfl sc3 K rfl rfl (inA R_d) h_e10 rfl) ?_; clear K; intro a K
                refine T_rd K (K.yes rfl rfl rfl) rfl rfl (rd_leq rfl K rfl rfl) ?_; clear K; intro a K
                refine T_rd K (K.yes rfl rfl rfl) rfl rfl (rd_move rfl K rfl) ?_; clear K; intro a K
                rcases Bool.eq_false_or_eq_true (decide (e9.1 ≤ e10.1)) with hb | hb
                · have h := ctrue hb h
                  have K := K.reb (s := 54) rfl hb
                  refine T_no K (K.no rfl rfl rfl rfl) rfl rfl ?_; clear K; intro a K
                  refine T_no K (K.no rfl rfl rfl rfl) rfl rfl ?_; clear K; intro a K
                  refine T_no K (K.no rfl rfl rfl rfl) rfl rfl ?_; clear K; intro a K
                  refine T_no K (K.no rfl rfl rfl rfl) rfl rfl ?_; clear K; intro a K
                  refine T_no K (K.no rfl rfl rfl rfl) rfl rfl ?_; clear K; intro a K
                  refine T_no K (K.no rfl rfl rfl rfl) rfl rfl ?_; clear K; intro a K
                  refine T_no K (K.no rfl rfl rfl rfl) rfl rfl ?_; clear K; intro a K
                  refine T_no K (K.no rfl rfl rfl rfl) rfl rfl ?_; clear K; intro a K
                  refine T_no K (K.no rfl rfl rfl rfl) rfl rfl ?_; clear K; intro a K
                  refine T_no K (K.no rfl rfl rfl rfl) rfl rfl ?_; clear K; intro a K
                  refine T_no K (K.no rfl rfl rfl rfl) rfl rfl ?_; clear K; intro a K
                  refine T_no K (K.no rfl rfl rfl rfl) rfl rfl ?_; clear K; intro a K
                  refine T_rd K (K.yes rfl rfl rfl) rfl rfl (rd_pickT rfl K rfl rfl) ?_; clear K; intro a K
                  refine T_rd K (K.yes rfl rfl rfl) rfl rfl (rd_pickT rfl K rfl rfl) ?_; clear K; intro a K
                  refine T_rd K (want_no rfl) rfl rfl (rd_pickF rfl K rfl rfl) ?_; clear K; intro a K
                  refine T_end ?_
                  refine then_n ?_
                  refine X_condT K rfl ?_
                  refine wp_seq ?_
                  refine X_reg ?_
                  refine X_rd K (want_no rfl) rfl rfl (rd_assign rfl K rfl) M ?_; clear K; intro a K
                  refine wpList_nil ?_
                  refine then_n ?_
                  refine wp_ret ?_
                  refine inb_r ?_
                  refine then_r ?_
                  refine then_r ?_
                  refine inb_r ?_
                  refine then_r ?_
                  cases h
                  exact ret1 K rfl (res_tmp K rfl) ⟨_, rfl, rfl, ((M).pick [] (by decide))⟩
                · have h := cfalse hb h
                  have K := K.reb (s := 54) rfl hb
                  refine T_rd K (K.yes rfl rfl rfl) rfl rfl (rd_move rfl K rfl) ?_; clear K; intro a K
                  refine T_rd K (K.yes rfl rfl rfl) rfl rfl (rd_move rfl K rfl) ?_; clear K; intro a K
                  obtain ⟨e11, h_e11, h⟩ := obind h
                  refine T_rd K (K.yes rfl rfl rfl) rfl rfl (rd_ix rfl sl80 K rfl rfl (inA R_d) h_e11) ?_; clear K; intro a K
                  refine T_rd K (K.yes rfl rfl rfl) rfl rfl (rd_field rfl fld88_1 K rfl) ?_; clear K; intro a K
                  refine T_rd K (K.yes rfl rfl rfl) rfl rfl (rd_elF rfl sc3 K rfl rfl (inA R_d) h_e11 rfl) ?_; clear K; intro a K
                  refine T_rd K (K.yes rfl rfl rfl) rfl rfl (rd_move rfl K rfl) ?_; clear K; intro a K
                  refine T_rd K (K.yes rfl rfl rfl) rfl rfl (rd_move rfl K rfl) ?_; clear K; intro a K
                  refine T_rd K (K.yes rfl rfl rfl) rfl rfl (rd_sub rfl K rfl rfl) ?_; clear K; intro a K
                  obtain ⟨e12, h_e12, h⟩ := obind h
                  refine T_rd K (K.yes rfl rfl rfl) rfl rfl (rd_ix rfl sl80 K rfl rfl (inA R_d) h_e12) ?_; clear K; intro a K
                  refine T_rd K (K.yes rfl rfl rfl) rfl rfl (rd_field rfl fld88_1 K rfl) ?_; clear K; intro a K
                  refine T_rd K (K.yes rfl rfl rfl) rfl rfl (rd_elF rfl sc3 K rfl rfl (inA R_d) h_e12 rfl) ?_; clear K; intro a K
                  refine T_rd K (K.yes rfl rfl rfl) rfl rfl (rd_lss rfl K rfl rfl) ?_; clear K; intro a K
                  refine T_rd K (K.yes rfl rfl rfl) rfl rfl (rd_pickF rfl K rfl rfl) ?_; clear K; intro a K
                  refine T_rd K (K.yes rfl rfl rfl) rfl rfl (rd_pickT rfl K rfl rfl) ?_; clear K; intro a K
                  refine T_rd K (want_no rfl) rfl rfl (rd_pickF rfl K rfl rfl) ?_; clear K; intro a K
                  refine T_end ?_
                  refine then_n ?_
                  refine X_cond K rfl (fun hb => ?_) (fun hb => ?_)
                  · have h := ctrue hb h
                    refine wp_seq ?_
                    refine X_reg ?_
                    refine X_rd K (want_no rfl) rfl rfl (rd_assign rfl K rfl) M ?_; clear K; intro a K
                    refine wpList_nil ?_
                    refine then_n ?_
                    refine wp_ret ?_
                    refine inb_r ?_
                    refine then_r ?_
                    refine then_r ?_
                    refine inb_r ?_
                    refine then_r ?_
                    cases h
                    exact ret1 K rfl (res_tmp K rfl) ⟨_, rfl, rfl, ((M).pick [] (by decide))⟩
                  · have h := cfalse hb h
                    refine wp_skip ?_
                    refine inb_n ?_
                    refine then_n ?_
                    refine X_reg ?_
                    refine X_rd K (want_no rfl) rfl rfl (rd_move rfl K rfl) M ?_; clear K; intro a K
                    refine X_rd K (want_no rfl) rfl rfl (rd_add rfl K rfl rfl) M ?_; clear K; intro a K
                    obtain ⟨x4, hx, h⟩ := olet h
                    refine X_rd K (want_no rfl) rfl rfl (rdi hx (rd_assign rfl K rfl)) M ?_; clear K; intro a K
                    refine wpList_nil ?_
                    exact then_n ⟨x4, ⟨K.pick [0,3], M.pick [] (by decide)⟩, h⟩
              · have h := cfalse hb h
                have K := K.reb (s := 41) rfl hb
                refine T_no K (K.no rfl rfl rfl rfl) rfl rfl ?_; clear K; intro a K
                refine T_no K (K.no rfl rfl rfl rfl) rfl rfl ?_; clear K; intro a K
                refine T_no K (K.no rfl rfl rfl rfl) rfl rfl ?_; clear K; intro a K
                refine T_no K (K.no rfl rfl rfl rfl) rfl rfl ?_; clear K; intro a K
                refine T_no K (K.no rfl rfl rfl rfl) rfl rfl ?_; clear K; intro a K
                refine T_no K (K.no rfl rfl rfl rfl) rfl rfl ?_; clear K; intro a K
                refine T_no K (K.no rfl rfl rfl rfl) rfl rfl ?_; clear K; intro a K
                refine T_no K (K.no rfl rfl rfl rfl) rfl rfl ?_; clear K; intro a K
                refine T_no K (K.no rfl rfl rfl rfl) rfl rfl ?_; clear K; intro a K
                refine T_no K (K.no rfl rfl rfl rfl) rfl rfl ?_; clear K; intro a K
                refine T_no K (K.no rfl rfl rfl rfl) rfl rfl ?_; clear K; intro a K
                refine T_no K (K.no rfl rfl rfl rfl) rfl rfl ?_; clear K; intro a K
                refine T_no K (K.no rfl rfl rfl rfl) rfl rfl ?_; clear K; intro a K
                refine T_no K (K.nou rfl rfl rfl) rfl rfl ?_; clear K; intro a K
                refine T_no K (K.nou rfl rfl rfl) rfl rfl ?_; clear K; intro a K
                refine T_no K (K.nou rfl rfl rfl) rfl rfl ?_; clear K; intro a K
                refine T_no K (K.nou rfl rfl rfl) rfl rfl ?_; clear K; intro a K
                refine T_no K (K.nou rfl rfl rfl) rfl rfl ?_; clear K; intro a K
                refine T_no K (K.nou rfl rfl rfl) rfl rfl ?_; clear K; intro a K
                refine T_no K (K.nou rfl rfl rfl) rfl rfl ?_; clear K; intro a K
                refine T_no K (K.nou rfl rfl rfl) rfl rfl ?_; clear K; intro a K
                refine T_no K (K.nou rfl rfl rfl) rfl rfl ?_; clear K; intro a K
                refine T_no K (K.nou rfl rfl rfl) rfl rfl ?_; clear K; intro a K
                refine T_no K (K.nou rfl rfl rfl) rfl rfl ?_; clear K; intro a K
                refine T_no K (K.nou rfl rfl rfl) rfl rfl ?_; clear K; intro a K
                refine T_no K (K.no rfl rfl rfl rfl) rfl rfl ?_; clear K; intro a K
                refine T_rd K (K.yes rfl rfl rfl) rfl rfl (rd_pickF rfl K rfl rfl) ?_; clear K; intro a K
                refine T_rd K (want_no rfl) rfl rfl (rd_pickF rfl K rfl rfl) ?_; clear K; intro a K
                refine T_end ?_
                refine then_n ?_
                refine X_condF K rfl ?_
                refine wp_skip ?_
                refine inb_n ?_
                refine then_n ?_
                refine X_reg ?_
                refine X_rd K (want_no rfl) rfl rfl (rd_move rfl K rfl) M ?_; clear K; intro a K
                refine X_rd K (want_no rfl) rfl rfl (rd_add rfl K rfl rfl) M ?_; clear K; intro a K
                obtain ⟨x5, hx, h⟩ := olet h
                refine X_rd K (want_no rfl) rfl rfl (rdi hx (rd_assign rfl K rfl)) M ?_; clear K; intro a K
                refine wpList_nil ?_
                exact then_n ⟨x5, ⟨K.pick [0,3], M.pick [] (by decide)⟩, h⟩
          · have h := cfalse hb h
            refine wp_exit ?_
            refine then_e ?_
            exact then_e (hk1 i _ _ ⟨K.pick [0,3], M.pick [] (by decide)⟩ h)

end Go.Proofs.Ytpmnfhifmmfglaa
