/- Printed by a program (walk.py): the walks of darkslideref_Bent: each function computes what its plain program tells. -/
import Derived.Test.YtpmnfhifmmfglaaFacts
import Derived.Test.YtpmnfhifmmfglaaDD
import Derived.Test.YtpmnfhifmmfglaaWRefOncurve
set_option linter.unusedVariables false
set_option linter.unusedSimpArgs false
set_option linter.unusedSectionVars false
namespace Go.Proofs.Ytpmnfhifmmfglaa
open Go.RowKit

set_option maxRecDepth 100000 in
set_option maxHeartbeats 4000000 in
theorem W_darkslideref_Bent (N : Nat) (q_W : Int) (q_H : Int) (q_P : List (Int × Int × Int)) (A_q_P : Option Addr) (c_q_P : Nat) (l2 : List (Int × Int)) (A_l2 : Option Addr) (c_l2 : Nat) (w0 : World) (R_q_P : SL w0 cIII A_q_P q_P) (C_q_P : q_P.length ≤ c_q_P) (R_l2 : SL w0 cII A_l2 l2) (C_l2 : l2.length ≤ c_l2) (r : Int × Int × List (Int × Int × Int)) (h : D_darkslideref_Bent N q_W q_H q_P l2 = some r) :
    Calls Try.prog 53 #[.agg #[.int .i64 q_W, .int .i64 q_H, .slice A_q_P q_P.length c_q_P], .slice A_l2 l2.length c_l2] w0 fun e w' => ∃ v, e = .returned v ∧ ∃ A2 c2, v = .agg #[.int .i64 r.1, .int .i64 r.2.1, .slice A2 r.2.2.length c2] ∧ Mem w0.heap.size w0 w' [.row 73 3 A2 r.2.2.length c2 (cIII.all r.2.2)] := by
  refine X_enter Try.func53 rfl Try.ntmps53 rfl ?_
  intro a K
  have M := Mem.start w0
  have K : Kn a 44 [(0, .agg #[.int .i64 q_W, .int .i64 q_H, .slice A_q_P q_P.length c_q_P]), (1, .slice A_l2 l2.length c_l2)] := K
  unfold D_darkslideref_Bent at h
  refine wp_seq ?_
  refine X_reg ?_
  refine X_ac K (want_no rfl) rfl rfl (ac_box rfl K rfl (cs := [.int .i64 q_W, .int .i64 q_H, .slice A_q_P q_P.length c_q_P]) rfl M) ?_
  have M0 := M; clear K M; rintro _ a w ⟨g_q, rfl, M⟩ K
  clear M0
  refine X_ac K (want_no rfl) rfl rfl (ac_alloc rfl z49 M) ?_
  have M0 := M; clear K M; rintro _ a w ⟨g_x, rfl, M⟩ K
  clear M0
  refine wpList_nil ?_
  refine then_n ?_
  refine wp_seq ?_
  refine X_reg ?_
  refine X_rd K (want_no rfl) rfl rfl (rd_field rfl fld49_0 K rfl) M ?_; clear K; intro a K
  refine X_rd K (want_no rfl) rfl rfl (rd_ldC rfl sc3 K rfl (inM 1 rfl) rfl) M ?_; clear K; intro a K
  refine X_rd K (want_no rfl) rfl rfl (rd_field rfl fld49_1 K rfl) M ?_; clear K; intro a K
  refine X_rd K (want_no rfl) rfl rfl (rd_ldC rfl sc3 K rfl (inM 1 rfl) rfl) M ?_; clear K; intro a K
  refine X_rd K (want_no rfl) rfl rfl (rd_build rfl K (vs := [(0, .int .i64 q_W), (1, .int .i64 q_H)]) (cs := [.int .i64 q_W, .int .i64 q_H, .slice none (([] : List (Int × Int × Int))).length 0]) rfl (by kernel_rfl)) M ?_; clear K; intro a K
  refine X_ac K (want_no rfl) rfl rfl (ac_alloc rfl z49 M) ?_
  have M0 := M; clear K M; rintro _ a w ⟨g_out, rfl, M⟩ K
  clear M0
  refine X_a0 K (want_no rfl) rfl (ac_storeA rfl ty49 K rfl (ds := [.int .i64 q_W, .int .i64 q_H, .slice none (([] : List (Int × Int × Int))).length 0]) rfl rfl 0 M rfl rfl rfl) ?_
  have M0 := M; clear K M; rintro _ a w M K
  clear M0
  refine wpList_nil ?_
  refine then_n ?_
  refine wp_seq ?_
  refine wp_seq ?_
  refine X_reg ?_
  refine X_rd K (want_no rfl) rfl rfl (rd_assign rfl K rfl) M ?_; clear K; intro a K
  refine wpList_nil ?_
  refine then_n ?_
  refine wp_block ?_
  replace M := Mem.nilrow 73 3 cIII M
  refine X_lp (id := 0) (Rel := fun (⟨out_P, i⟩ : List (Int × Int × Int) × Int) a w => ∃ (A : Option Addr) (c : Nat), Kn a 44 [(1, .slice A_l2 l2.length c_l2), (2, .pointer (some ⟨g_q, 0, none⟩)), (4, .pointer (some ⟨g_x, 0, none⟩)), (5, .pointer (some ⟨g_out, 0, none⟩)), (6, .int .i64 i)] ∧ Mem w0.heap.size w0 w [.row 73 3 A out_P.length c (cIII.all out_P), .blk g_out 49 [.int .i64 q_W, .int .i64 q_H, .slice A out_P.length c], .blk g_x 49 [.int .i64 0, .int .i64 0, .slice none (([] : List (Int × Int × Int))).length 0], .blk g_q 49 [.int .i64 q_W, .int .i64 q_H, .slice A_q_P q_P.length c_q_P]]) h (fun _ _ => rfl) ⟨none, 0, K.pick [1,2,4,5,6], M.pick [0,1,2,3] (by decide)⟩ ?_ ?_
  · clear K M h
    rintro ⟨out_P4, i4⟩ a w ⟨A4, c4, K, M⟩ h
    try dsimp only at h
    refine inb_e ?_
    refine then_n ?_
    refine wp_seq ?_
    refine X_reg ?_
    refine X_rd K (want_no rfl) rfl rfl (rd_ldA rfl ty49 K rfl (inM 1 rfl) rfl rfl) M ?_; clear K; intro a K
    refine X_a0 K (want_no rfl) rfl (ac_storeA rfl ty49 K rfl (ds := [.int .i64 q_W, .int .i64 q_H, .slice A4 out_P4.length c4]) rfl rfl 2 M rfl rfl rfl) ?_
    have M0 := M; clear K M; rintro _ a w M K
    clear M0
    refine wpList_nil ?_
    refine then_n ?_
    refine wp_ret ?_
    cases h
    exact ret1 K rfl (res_cellA K rfl ty49 (M.blkAt (i := 2) rfl) rfl) ⟨_, rfl, _, _, rfl, ((M).pick [0] (by decide))⟩
  · clear K M h
    rintro kk fuel ⟨out_P, i⟩ a w hk1 ⟨A, c, K, M⟩ h
    unfold D_darkslideref_Bent_l1 at h
    refine wp_seq ?_
    refine wp_seq ?_
    refine X_reg ?_
    refine X_rd K (want_no rfl) rfl rfl (rd_move rfl K rfl) M ?_; clear K; intro a K
    refine X_rd K (want_no rfl) rfl rfl (rd_field rfl fld49_2 K rfl) M ?_; clear K; intro a K
    refine X_rd K (want_no rfl) rfl rfl (rd_ldC rfl sc47 K rfl (inM 3 rfl) rfl) M ?_; clear K; intro a K
    refine X_rd K (want_no rfl) rfl rfl (rd_len rfl un47 K rfl) M ?_; clear K; intro a K
    refine X_rd K (want_no rfl) rfl rfl (rd_lss rfl K rfl rfl) M ?_; clear K; intro a K
    refine wpList_nil ?_
    refine then_n ?_
    refine X_cond K rfl (fun hb => ?_) (fun hb => ?_)
    · have h := ctrue hb h
      refine wp_skip ?_
      refine then_n ?_
      refine wp_seq ?_
      refine wp_block ?_
      refine wp_seq ?_
      refine X_reg ?_
      refine X_rd K (want_no rfl) rfl rfl (rd_field rfl fld49_2 K rfl) M ?_; clear K; intro a K
      refine X_rd K (want_no rfl) rfl rfl (rd_ldC rfl sc47 K rfl (inM 3 rfl) rfl) M ?_; clear K; intro a K
      refine X_rd K (want_no rfl) rfl rfl (rd_move rfl K rfl) M ?_; clear K; intro a K
      obtain ⟨e2, h_e2, h⟩ := obind h
      refine X_rd K (want_no rfl) rfl rfl (rd_ix rfl sl47 K rfl rfl (inA R_q_P) h_e2) M ?_; clear K; intro a K
      refine X_rd K (want_no rfl) rfl rfl (rd_elA rfl ty73 K rfl rfl rfl (inA R_q_P) h_e2) M ?_; clear K; intro a K
      refine X_ac K (want_no rfl) rfl rfl (ac_alloc rfl z73 M) ?_
      have M0 := M; clear K M; rintro _ a w ⟨g_c2, rfl, M⟩ K
      clear M0
      refine X_a0 K (want_no rfl) rfl (ac_storeA rfl ty73 K rfl (ds := [.int .i64 e2.1, .int .i64 e2.2.1, .int .i64 e2.2.2]) rfl rfl 0 M rfl rfl rfl) ?_
      have M0 := M; clear K M; rintro _ a w M K
      clear M0
      refine wpList_nil ?_
      refine then_n ?_
      refine wp_region_tl (fun w => Mem _ _ w _) [0,0,0,0,0,1,0,0,0,1,0,0,0,1,1,1,1,0,2] (by kernel_rfl) (by kernel_rfl) (M.pick [0,2,3,4] (by decide)).drew ?_
      replace M := M.drew
      refine T_rd K (want_no rfl) rfl rfl (rd_field rfl fld49_2 K rfl) ?_; clear K; intro a K
      refine T_rd K (want_no rfl) rfl rfl (rd_ldC rfl sc47 K rfl (inM 1 rfl) rfl) ?_; clear K; intro a K
      refine T_rd K (want_no rfl) rfl rfl (rd_move rfl K rfl) ?_; clear K; intro a K
      refine T_rd K (want_no rfl) rfl rfl (rd_field rfl fld73_0 K rfl) ?_; clear K; intro a K
      refine T_rd K (want_no rfl) rfl rfl (rd_ldC rfl sc3 K rfl (inM 0 rfl) rfl) ?_; clear K; intro a K
      obtain ⟨r5, h_r5, h⟩ := obind h
      refine T_ac K (want_no rfl) rfl rfl (ac_call (vs := [.slice A_l2 l2.length c_l2, .int .i64 e2.1]) (cap := []) rfl fok52 K rfl rfl (W_darkslideref_OnCurve N l2 A_l2 c_l2 e2.1 _ ((inA R_l2) _ M) C_l2 r5 h_r5)) ?_
      have M0 := M; clear K M; rintro _ a w ⟨rfl, M⟩ K
      have M := M0.call M
      clear M0
      refine ⟨M.pick [0,2,3,4] (by decide), ?_⟩
      refine T_rd K (want_no rfl) rfl rfl (rd_move rfl K rfl) ?_; clear K; intro a K
      refine T_rd K (want_no rfl) rfl rfl (rd_field rfl fld73_1 K rfl) ?_; clear K; intro a K
      refine T_rd K (want_no rfl) rfl rfl (rd_ldC rfl sc3 K rfl (inM 0 rfl) rfl) ?_; clear K; intro a K
      obtain ⟨r6, h_r6, h⟩ := obind h
      refine T_ac K (want_no rfl) rfl rfl (ac_call (vs := [.slice A_l2 l2.length c_l2, .int .i64 e2.2.1]) (cap := []) rfl fok52 K rfl rfl (W_darkslideref_OnCurve N l2 A_l2 c_l2 e2.2.1 _ ((inA R_l2) _ M) C_l2 r6 h_r6)) ?_
      have M0 := M; clear K M; rintro _ a w ⟨rfl, M⟩ K
      have M := M0.call M
      clear M0
      refine ⟨M.pick [0,2,3,4] (by decide), ?_⟩
      refine T_rd K (want_no rfl) rfl rfl (rd_move rfl K rfl) ?_; clear K; intro a K
      refine T_rd K (want_no rfl) rfl rfl (rd_field rfl fld73_2 K rfl) ?_; clear K; intro a K
      refine T_rd K (want_no rfl) rfl rfl (rd_ldC rfl sc3 K rfl (inM 0 rfl) rfl) ?_; clear K; intro a K
      obtain ⟨r7, h_r7, h⟩ := obind h
      refine T_ac K (want_no rfl) rfl rfl (ac_call (vs := [.slice A_l2 l2.length c_l2, .int .i64 e2.2.2]) (cap := []) rfl fok52 K rfl rfl (W_darkslideref_OnCurve N l2 A_l2 c_l2 e2.2.2 _ ((inA R_l2) _ M) C_l2 r7 h_r7)) ?_
      have M0 := M; clear K M; rintro _ a w ⟨rfl, M⟩ K
      have M := M0.call M
      clear M0
      refine ⟨M.pick [0,2,3,4] (by decide), ?_⟩
      refine T_rd1 K (want_no rfl) rfl rfl (rd_build rfl K (vs := [(0, .int .i64 r5), (1, .int .i64 r6), (2, .int .i64 r7)]) (cs := [.int .i64 r5, .int .i64 r6, .int .i64 r7]) rfl (by kernel_rfl)) M (M.pick [0,2,3,4] (by decide)) ?_; clear K; intro a K
      refine T_ac K (want_no rfl) rfl rfl (ac_bslice rfl sl47 z73 K (vs := [(0, .agg #[.int .i64 r5, .int .i64 r6, .int .i64 r7])]) (cs := [.int .i64 r5, .int .i64 r6, .int .i64 r7]) rfl (by kernel_rfl) rfl rfl M) ?_
      have M0 := M; clear K M; rintro _ a w ⟨gs2, rfl, M⟩ K
      replace M := M.asRow 0 rfl cIII ([(r5, r6, r7)] : List (Int × Int × Int)) (n := 1) rfl rfl rfl
      clear M0
      refine ⟨M.pick [1,3,4,5] (by decide), ?_⟩
      obtain ⟨out_P3, h_out_P3, h⟩ := obind h
      refine T_ac K (want_no rfl) rfl rfl (ac_app (C := cIII) (xs := out_P) (ys := ([(r5, r6, r7)] : List (Int × Int × Int))) rfl sl47 rfl z73 rfl rfl K rfl rfl 2 M rfl ((inR (C := cIII) 0 rfl rfl) _ M) h_out_P3) ?_
      have M0 := M; clear K M; rintro _ a w ⟨A3, c3, rfl, M⟩ K
      clear M0
      refine ⟨M.pick [1,3,4,5] (by decide), ?_⟩
      refine T_rd K (want_no rfl) rfl rfl (rd_field rfl fld49_2 K rfl) ?_; clear K; intro a K
      refine T_a0z K (want_no rfl) rfl (ac_storeC rfl sc47 K rfl rfl rfl 3 M rfl rfl) ?_
      have M0 := M; clear K M; rintro _ a w M K
      clear M0
      refine T_end ?_
      refine inb_n ?_
      refine then_n ?_
      refine X_reg ?_
      refine X_rd K (want_no rfl) rfl rfl (rd_move rfl K rfl) M ?_; clear K; intro a K
      refine X_rd K (want_no rfl) rfl rfl (rd_add rfl K rfl rfl) M ?_; clear K; intro a K
      obtain ⟨i3, hx, h⟩ := olet h
      refine X_rd K (want_no rfl) rfl rfl (rdi hx (rd_assign rfl K rfl)) M ?_; clear K; intro a K
      refine wpList_nil ?_
      exact then_n ⟨(out_P3, i3), ⟨A3, c3, K.pick [1,2,4,5,6], M.pick [2,3,4,5] (by decide)⟩, h⟩
    · have h := cfalse hb h
      refine wp_exit ?_
      refine then_e ?_
      exact then_e (hk1 (out_P, i) _ _ ⟨A, c, K.pick [1,2,4,5,6], M.pick [0,1,2,3] (by decide)⟩ h)

end Go.Proofs.Ytpmnfhifmmfglaa
