/- Printed by a program (walk.py): the walks of darkslideref_Mixed: each function computes what its plain program tells. -/
import Derived.Test.YtpmnfhifmmfglaaFacts
import Derived.Test.YtpmnfhifmmfglaaDD
import Derived.Test.YtpmnfhifmmfglaaWRefClamp
import Derived.Test.YtpmnfhifmmfglaaWRefDown
import Derived.Test.YtpmnfhifmmfglaaWRefParts
import Derived.Test.YtpmnfhifmmfglaaWRefPixel
set_option linter.unusedVariables false
set_option linter.unusedSimpArgs false
set_option linter.unusedSectionVars false
namespace Go.Proofs.Ytpmnfhifmmfglaa
open Go.RowKit

set_option maxRecDepth 100000 in
set_option maxHeartbeats 4000000 in
theorem W_darkslideref_Mixed (N : Nat) (d_W : Int) (d_H : Int) (d_P : List (Int × Int × Int)) (A_d_P : Option Addr) (c_d_P : Nat) (o0 : Int) (o1 : Int) (o2 : Int) (o3 : Int) (o4 : Int) (o5 : Int) (o6 : Int) (o7 : Int) (o8 : Int) (w0 : World) (R_d_P : SL w0 cIII A_d_P d_P) (C_d_P : d_P.length ≤ c_d_P) (r : Int × Int × List (Int × Int × Int)) (h : D_darkslideref_Mixed N d_W d_H d_P o0 o1 o2 o3 o4 o5 o6 o7 o8 = some r) :
    Calls Try.prog 47 #[.agg #[.int .i64 d_W, .int .i64 d_H, .slice A_d_P d_P.length c_d_P], .agg #[.int .i64 o0, .int .i64 o1, .int .i64 o2, .int .i64 o3, .int .i64 o4, .int .i64 o5, .int .i64 o6, .int .i64 o7, .int .i64 o8]] w0 fun e w' => ∃ v, e = .returned v ∧ ∃ A2 c2, v = .agg #[.int .i64 r.1, .int .i64 r.2.1, .slice A2 r.2.2.length c2] ∧ Mem w0.heap.size w0 w' [.row 73 3 A2 r.2.2.length c2 (cIII.all r.2.2)] := by
  refine X_enter Try.func47 rfl Try.ntmps47 rfl ?_
  intro a K
  have M := Mem.start w0
  have K : Kn a 69 [(0, .agg #[.int .i64 d_W, .int .i64 d_H, .slice A_d_P d_P.length c_d_P]), (1, .agg #[.int .i64 o0, .int .i64 o1, .int .i64 o2, .int .i64 o3, .int .i64 o4, .int .i64 o5, .int .i64 o6, .int .i64 o7, .int .i64 o8])] := K
  unfold D_darkslideref_Mixed at h
  refine wp_seq ?_
  refine X_reg ?_
  refine X_ac K (want_no rfl) rfl rfl (ac_box rfl K rfl (cs := [.int .i64 d_W, .int .i64 d_H, .slice A_d_P d_P.length c_d_P]) rfl M) ?_
  have M0 := M; clear K M; rintro _ a w ⟨g_x, rfl, M⟩ K
  clear M0
  refine X_ac K (want_no rfl) rfl rfl (ac_box rfl K rfl (cs := [.int .i64 o0, .int .i64 o1, .int .i64 o2, .int .i64 o3, .int .i64 o4, .int .i64 o5, .int .i64 o6, .int .i64 o7, .int .i64 o8]) rfl M) ?_
  have M0 := M; clear K M; rintro _ a w ⟨g_x2, rfl, M⟩ K
  clear M0
  refine X_ac K (want_no rfl) rfl rfl (ac_alloc rfl z49 M) ?_
  have M0 := M; clear K M; rintro _ a w ⟨g_x3, rfl, M⟩ K
  clear M0
  refine wpList_nil ?_
  refine then_n ?_
  refine wp_seq ?_
  refine X_reg ?_
  refine X_rd K (want_no rfl) rfl rfl (rd_field rfl fld49_0 K rfl) M ?_; clear K; intro a K
  refine X_rd K (want_no rfl) rfl rfl (rd_ldC rfl sc3 K rfl (inM 2 rfl) rfl) M ?_; clear K; intro a K
  refine X_rd K (want_no rfl) rfl rfl (rd_field rfl fld49_1 K rfl) M ?_; clear K; intro a K
  refine X_rd K (want_no rfl) rfl rfl (rd_ldC rfl sc3 K rfl (inM 2 rfl) rfl) M ?_; clear K; intro a K
  refine X_rd K (want_no rfl) rfl rfl (rd_build rfl K (vs := [(0, .int .i64 d_W), (1, .int .i64 d_H)]) (cs := [.int .i64 d_W, .int .i64 d_H, .slice none (([] : List (Int × Int × Int))).length 0]) rfl (by kernel_rfl)) M ?_; clear K; intro a K
  refine X_ac K (want_no rfl) rfl rfl (ac_alloc rfl z49 M) ?_
  have M0 := M; clear K M; rintro _ a w ⟨g_x4, rfl, M⟩ K
  clear M0
  refine X_a0 K (want_no rfl) rfl (ac_storeA rfl ty49 K rfl (ds := [.int .i64 d_W, .int .i64 d_H, .slice none (([] : List (Int × Int × Int))).length 0]) rfl rfl 0 M rfl rfl rfl) ?_
  have M0 := M; clear K M; rintro _ a w M K
  clear M0
  refine wpList_nil ?_
  refine then_n ?_
  refine wp_seq ?_
  refine wp_seq ?_
  refine X_reg ?_
  refine X_rd K (want_no rfl) rfl rfl (rd_assign rfl K rfl) M ?_; clear K; intro a K
  refine wpList_nil ?_
  refine then_n ?_
  refine wp_block ?_
  replace M := Mem.nilrow 73 3 cIII M
  refine X_lp (id := 0) (Rel := fun (⟨x_P, i⟩ : List (Int × Int × Int) × Int) a w => ∃ (A : Option Addr) (c : Nat), Kn a 69 [(2, .pointer (some ⟨g_x, 0, none⟩)), (3, .pointer (some ⟨g_x2, 0, none⟩)), (4, .pointer (some ⟨g_x3, 0, none⟩)), (5, .pointer (some ⟨g_x4, 0, none⟩)), (6, .int .i64 i)] ∧ Mem w0.heap.size w0 w [.row 73 3 A x_P.length c (cIII.all x_P), .blk g_x4 49 [.int .i64 d_W, .int .i64 d_H, .slice A x_P.length c], .blk g_x3 49 [.int .i64 0, .int .i64 0, .slice none (([] : List (Int × Int × Int))).length 0], .blk g_x2 75 [.int .i64 o0, .int .i64 o1, .int .i64 o2, .int .i64 o3, .int .i64 o4, .int .i64 o5, .int .i64 o6, .int .i64 o7, .int .i64 o8], .blk g_x 49 [.int .i64 d_W, .int .i64 d_H, .slice A_d_P d_P.length c_d_P]]) h (fun _ _ => rfl) ⟨none, 0, K.pick [2,3,4,5,6], M.pick [0,1,2,3,4] (by decide)⟩ ?_ ?_
  · clear K M h
    rintro ⟨x_P4, i5⟩ a w ⟨A4, c4, K, M⟩ h
    try dsimp only at h
    refine inb_e ?_
    refine then_n ?_
    refine wp_seq ?_
    refine X_reg ?_
    refine X_rd K (want_no rfl) rfl rfl (rd_ldA rfl ty49 K rfl (inM 1 rfl) rfl rfl) M ?_; clear K; intro a K
    refine X_a0 K (want_no rfl) rfl (ac_storeA rfl ty49 K rfl (ds := [.int .i64 d_W, .int .i64 d_H, .slice A4 x_P4.length c4]) rfl rfl 2 M rfl rfl rfl) ?_
    have M0 := M; clear K M; rintro _ a w M K
    clear M0
    refine wpList_nil ?_
    refine then_n ?_
    refine wp_ret ?_
    cases h
    exact ret1 K rfl (res_cellA K rfl ty49 (M.blkAt (i := 2) rfl) rfl) ⟨_, rfl, _, _, rfl, ((M).pick [0] (by decide))⟩
  · clear K M h
    rintro kk fuel ⟨x_P, i⟩ a w hk1 ⟨A, c, K, M⟩ h
    unfold D_darkslideref_Mixed_l1 at h
    refine wp_seq ?_
    refine wp_seq ?_
    refine X_reg ?_
    refine X_rd K (want_no rfl) rfl rfl (rd_move rfl K rfl) M ?_; clear K; intro a K
    refine X_rd K (want_no rfl) rfl rfl (rd_field rfl fld49_2 K rfl) M ?_; clear K; intro a K
    refine X_rd K (want_no rfl) rfl rfl (rd_ldC rfl sc47 K rfl (inM 4 rfl) rfl) M ?_; clear K; intro a K
    refine X_rd K (want_no rfl) rfl rfl (rd_len rfl un47 K rfl) M ?_; clear K; intro a K
    refine X_rd K (want_no rfl) rfl rfl (rd_lss rfl K rfl rfl) M ?_; clear K; intro a K
    refine wpList_nil ?_
    refine then_n ?_
    refine X_cond K rfl (fun hb => ?_) (fun hb => ?_)
    · have h := ctrue hb h
      refine wp_skip ?_
      refine then_n ?_
      refine wp_seq ?_
      refine wp_block ?_
      refine wp_seq ?_
      refine X_reg ?_
      refine X_rd K (want_no rfl) rfl rfl (rd_field rfl fld49_2 K rfl) M ?_; clear K; intro a K
      refine X_rd K (want_no rfl) rfl rfl (rd_ldC rfl sc47 K rfl (inM 4 rfl) rfl) M ?_; clear K; intro a K
      refine X_rd K (want_no rfl) rfl rfl (rd_move rfl K rfl) M ?_; clear K; intro a K
      obtain ⟨e5, h_e5, h⟩ := obind h
      refine X_rd K (want_no rfl) rfl rfl (rd_ix rfl sl47 K rfl rfl (inA R_d_P) h_e5) M ?_; clear K; intro a K
      refine X_rd K (want_no rfl) rfl rfl (rd_elA rfl ty73 K rfl rfl rfl (inA R_d_P) h_e5) M ?_; clear K; intro a K
      obtain ⟨r6, h_r6, h⟩ := obind h
      refine X_ac K (want_no rfl) rfl rfl (ac_call (vs := [.agg #[.int .i64 e5.1, .int .i64 e5.2.1, .int .i64 e5.2.2]]) (cap := []) rfl fok81 K rfl rfl (W_darkslideref_parts N e5.1 e5.2.1 e5.2.2 _  r6 h_r6)) ?_
      have M0 := M; clear K M; rintro _ a w ⟨rfl, M⟩ K
      have M := M0.call M
      clear M0
      refine X_ac K (want_no rfl) rfl rfl (ac_alloc rfl z39 M) ?_
      have M0 := M; clear K M; rintro _ a w ⟨g_x7, rfl, M⟩ K
      clear M0
      refine X_a0 K (want_no rfl) rfl (ac_storeA rfl ty39 K rfl (ds := [.int .i64 r6.1, .int .i64 r6.2.1, .int .i64 r6.2.2]) rfl rfl 0 M rfl rfl rfl) ?_
      have M0 := M; clear K M; rintro _ a w M K
      clear M0
      refine wpList_nil ?_
      refine then_n ?_
      refine wp_seq ?_
      refine X_reg ?_
      refine X_ac K (want_no rfl) rfl rfl (ac_alloc rfl z39 M) ?_
      have M0 := M; clear K M; rintro _ a w ⟨g_x8, rfl, M⟩ K
      clear M0
      refine wpList_nil ?_
      refine then_n ?_
      refine wp_seq ?_
      refine wp_seq ?_
      refine X_reg ?_
      refine X_rd K (want_no rfl) rfl rfl (rd_assign rfl K rfl) M ?_; clear K; intro a K
      refine wpList_nil ?_
      refine then_n ?_
      refine wp_block ?_
      refine X_lp (id := 2) (Rel := fun (⟨x02, x12, x22, i3⟩ : Int × Int × Int × Int) a w => Kn a 69 [(2, .pointer (some ⟨g_x, 0, none⟩)), (3, .pointer (some ⟨g_x2, 0, none⟩)), (4, .pointer (some ⟨g_x3, 0, none⟩)), (5, .pointer (some ⟨g_x4, 0, none⟩)), (6, .int .i64 i), (7, .pointer (some ⟨g_x7, 0, none⟩)), (8, .pointer (some ⟨g_x8, 0, none⟩)), (9, .int .i64 i3)] ∧ Mem w0.heap.size w0 w [.blk g_x8 39 [.int .i64 x02, .int .i64 x12, .int .i64 x22], .blk g_x7 39 [.int .i64 r6.1, .int .i64 r6.2.1, .int .i64 r6.2.2], .row 73 3 A x_P.length c (cIII.all x_P), .blk g_x4 49 [.int .i64 d_W, .int .i64 d_H, .slice A x_P.length c], .blk g_x3 49 [.int .i64 0, .int .i64 0, .slice none (([] : List (Int × Int × Int))).length 0], .blk g_x2 75 [.int .i64 o0, .int .i64 o1, .int .i64 o2, .int .i64 o3, .int .i64 o4, .int .i64 o5, .int .i64 o6, .int .i64 o7, .int .i64 o8], .blk g_x 49 [.int .i64 d_W, .int .i64 d_H, .slice A_d_P d_P.length c_d_P]]) h (fun _ _ => rfl) ⟨K.pick [2,3,4,5,6,7,8,9], M.pick [0,1,2,3,4,5,6] (by decide)⟩ ?_ ?_
      · clear K M h
        rintro ⟨x03, x14, x23, i4⟩ a w ⟨K, M⟩ h
        try dsimp only at h
        refine inb_e ?_
        refine then_n ?_
        refine wp_region_tl (fun w => Mem _ _ w _) [0,0,0,1,1,1,0,2] (by kernel_rfl) (by kernel_rfl) (M.pick [0,1,3,4,5,6] (by decide)).drew ?_
        replace M := M.drew
        refine T_rd K (want_no rfl) rfl rfl (rd_field rfl fld49_2 K rfl) ?_; clear K; intro a K
        refine T_rd K (want_no rfl) rfl rfl (rd_ldC rfl sc47 K rfl (inM 2 rfl) rfl) ?_; clear K; intro a K
        refine T_rd K (want_no rfl) rfl rfl (rd_ldA rfl ty39 K rfl (inM 0 rfl) rfl rfl) ?_; clear K; intro a K
        obtain ⟨r11, h_r11, h⟩ := obind h
        refine T_ac K (want_no rfl) rfl rfl (ac_call (vs := [.agg #[.int .i64 x03, .int .i64 x14, .int .i64 x23]]) (cap := []) rfl fok80 K rfl rfl (W_darkslideref_pixel N x03 x14 x23 _  r11 h_r11)) ?_
        have M0 := M; clear K M; rintro _ a w ⟨rfl, M⟩ K
        have M := M0.call M
        clear M0
        refine ⟨M.pick [0,1,3,4,5,6] (by decide), ?_⟩
        refine T_ac K (want_no rfl) rfl rfl (ac_bslice rfl sl47 z73 K (vs := [(0, .agg #[.int .i64 r11.1, .int .i64 r11.2.1, .int .i64 r11.2.2])]) (cs := [.int .i64 r11.1, .int .i64 r11.2.1, .int .i64 r11.2.2]) rfl (by kernel_rfl) rfl rfl M) ?_
        have M0 := M; clear K M; rintro _ a w ⟨gs2, rfl, M⟩ K
        replace M := M.asRow 0 rfl cIII ([(r11.1, r11.2.1, r11.2.2)] : List (Int × Int × Int)) (n := 1) rfl rfl rfl
        clear M0
        refine ⟨M.pick [1,2,4,5,6,7] (by decide), ?_⟩
        obtain ⟨x_P3, h_x_P3, h⟩ := obind h
        refine T_ac K (want_no rfl) rfl rfl (ac_app (C := cIII) (xs := x_P) (ys := ([(r11.1, r11.2.1, r11.2.2)] : List (Int × Int × Int))) rfl sl47 rfl z73 rfl rfl K rfl rfl 3 M rfl ((inR (C := cIII) 0 rfl rfl) _ M) h_x_P3) ?_
        have M0 := M; clear K M; rintro _ a w ⟨A3, c3, rfl, M⟩ K
        clear M0
        refine ⟨M.pick [1,2,4,5,6,7] (by decide), ?_⟩
        refine T_rd K (want_no rfl) rfl rfl (rd_field rfl fld49_2 K rfl) ?_; clear K; intro a K
        refine T_a0z K (want_no rfl) rfl (ac_storeC rfl sc47 K rfl rfl rfl 4 M rfl rfl) ?_
        have M0 := M; clear K M; rintro _ a w M K
        clear M0
        refine T_end ?_
        refine inb_n ?_
        refine then_n ?_
        refine X_reg ?_
        refine X_rd K (want_no rfl) rfl rfl (rd_move rfl K rfl) M ?_; clear K; intro a K
        refine X_rd K (want_no rfl) rfl rfl (rd_add rfl K rfl rfl) M ?_; clear K; intro a K
        obtain ⟨x15, hx, h⟩ := olet h
        refine X_rd K (want_no rfl) rfl rfl (rdi hx (rd_assign rfl K rfl)) M ?_; clear K; intro a K
        refine wpList_nil ?_
        exact then_n ⟨(x_P3, x15), ⟨A3, c3, K.pick [2,3,4,5,6], M.pick [3,4,5,6,7] (by decide)⟩, h⟩
      · clear K M h
        rintro kk fuel ⟨x02, x12, x22, i3⟩ a w hk2 ⟨K, M⟩ h
        unfold D_darkslideref_Mixed_l2 at h
        refine wp_seq ?_
        refine wp_seq ?_
        refine X_reg ?_
        refine X_rd K (want_no rfl) rfl rfl (rd_move rfl K rfl) M ?_; clear K; intro a K
        refine X_rd K (want_no rfl) rfl rfl (rd_lss rfl K rfl rfl) M ?_; clear K; intro a K
        refine wpList_nil ?_
        refine then_n ?_
        refine X_cond K rfl (fun hb => ?_) (fun hb => ?_)
        · have h := ctrue hb h
          refine wp_skip ?_
          refine then_n ?_
          refine wp_seq ?_
          refine wp_block ?_
          refine wp_region_tl (fun w => Mem _ _ w _) [0,0,0,0,0,0,0,0,0,0,0,0,0,0,0,0,0,0,0,0,0,0,0,0,0,0,1,1,0,2] (by kernel_rfl) (by kernel_rfl) M.drew ?_
          replace M := M.drew
          refine T_rd K (want_no rfl) rfl rfl (rd_move rfl K rfl) ?_; clear K; intro a K
          refine T_rd K (want_no rfl) rfl rfl (rd_move rfl K rfl) ?_; clear K; intro a K
          refine T_rd K (want_no rfl) rfl rfl (rd_mul rfl K rfl rfl) ?_; clear K; intro a K
          obtain ⟨_, h0, h⟩ := obind h
          have h0 := inr_spec h0
          refine T_rd K (want_no rfl) rfl rfl (rd_ixA rfl ar75 sz3 K rfl rfl h0.1 h0.2) ?_; clear K; intro a K
          obtain ⟨e9, h_e9, h⟩ := obind h
          refine T_rd K (want_no rfl) rfl rfl (rd_ldIa rfl sc3 K rfl (inM 5 rfl) rfl rfl h_e9) ?_; clear K; intro a K
          refine T_rd K (want_no rfl) rfl rfl (rd_ixA rfl ar39 sz3 K rfl rfl (by decide) (by decide)) ?_; clear K; intro a K
          refine T_rd K (want_no rfl) rfl rfl (rd_ldC rfl sc3 K rfl (inM 1 rfl) rfl) ?_; clear K; intro a K
          refine T_rd K (want_no rfl) rfl rfl (rd_mul rfl K rfl rfl) ?_; clear K; intro a K
          refine T_rd K (want_no rfl) rfl rfl (rd_move rfl K rfl) ?_; clear K; intro a K
          refine T_rd K (want_no rfl) rfl rfl (rd_mul rfl K rfl rfl) ?_; clear K; intro a K
          refine T_rd K (want_no rfl) rfl rfl (rd_add rfl K rfl rfl) ?_; clear K; intro a K
          obtain ⟨_, h0, h⟩ := obind h
          have h0 := inr_spec h0
          refine T_rd K (want_no rfl) rfl rfl (rd_ixA rfl ar75 sz3 K rfl rfl h0.1 h0.2) ?_; clear K; intro a K
          obtain ⟨e10, h_e10, h⟩ := obind h
          refine T_rd K (want_no rfl) rfl rfl (rd_ldIa rfl sc3 K rfl (inM 5 rfl) rfl rfl h_e10) ?_; clear K; intro a K
          refine T_rd K (want_no rfl) rfl rfl (rd_ixA rfl ar39 sz3 K rfl rfl (by decide) (by decide)) ?_; clear K; intro a K
          refine T_rd K (want_no rfl) rfl rfl (rd_ldC rfl sc3 K rfl (inM 1 rfl) rfl) ?_; clear K; intro a K
          refine T_rd K (want_no rfl) rfl rfl (rd_mul rfl K rfl rfl) ?_; clear K; intro a K
          refine T_rd K (want_no rfl) rfl rfl (rd_add rfl K rfl rfl) ?_; clear K; intro a K
          refine T_rd K (want_no rfl) rfl rfl (rd_move rfl K rfl) ?_; clear K; intro a K
          refine T_rd K (want_no rfl) rfl rfl (rd_mul rfl K rfl rfl) ?_; clear K; intro a K
          refine T_rd K (want_no rfl) rfl rfl (rd_add rfl K rfl rfl) ?_; clear K; intro a K
          obtain ⟨_, h0, h⟩ := obind h
          have h0 := inr_spec h0
          refine T_rd K (want_no rfl) rfl rfl (rd_ixA rfl ar75 sz3 K rfl rfl h0.1 h0.2) ?_; clear K; intro a K
          obtain ⟨e11, h_e11, h⟩ := obind h
          refine T_rd K (want_no rfl) rfl rfl (rd_ldIa rfl sc3 K rfl (inM 5 rfl) rfl rfl h_e11) ?_; clear K; intro a K
          refine T_rd K (want_no rfl) rfl rfl (rd_ixA rfl ar39 sz3 K rfl rfl (by decide) (by decide)) ?_; clear K; intro a K
          refine T_rd K (want_no rfl) rfl rfl (rd_ldC rfl sc3 K rfl (inM 1 rfl) rfl) ?_; clear K; intro a K
          refine T_rd K (want_no rfl) rfl rfl (rd_mul rfl K rfl rfl) ?_; clear K; intro a K
          refine T_rd K (want_no rfl) rfl rfl (rd_add rfl K rfl rfl) ?_; clear K; intro a K
          obtain ⟨r9, h_r9, h⟩ := obind h
          refine T_ac K (want_no rfl) rfl rfl (ac_call (vs := [.int .i64 (IntKind.i64.wrap ((IntKind.i64.wrap ((IntKind.i64.wrap (e9 * r6.1)) + (IntKind.i64.wrap (e10 * r6.2.1)))) + (IntKind.i64.wrap (e11 * r6.2.2)))), .int .i64 4096]) (cap := []) rfl fok59 K rfl rfl (W_darkslideref_down N (IntKind.i64.wrap ((IntKind.i64.wrap ((IntKind.i64.wrap (e9 * r6.1)) + (IntKind.i64.wrap (e10 * r6.2.1)))) + (IntKind.i64.wrap (e11 * r6.2.2)))) 4096 _  r9 h_r9)) ?_
          have M0 := M; clear K M; rintro _ a w ⟨rfl, M⟩ K
          have M := M0.call M
          clear M0
          refine ⟨M.pick [0,1,2,3,4,5,6] (by decide), ?_⟩
          obtain ⟨r10, h_r10, h⟩ := obind h
          refine T_ac K (want_no rfl) rfl rfl (ac_call (vs := [.int .i64 r9]) (cap := []) rfl fok58 K rfl rfl (W_darkslideref_clamp N r9 _  r10 h_r10)) ?_
          have M0 := M; clear K M; rintro _ a w ⟨rfl, M⟩ K
          have M := M0.call M
          clear M0
          refine ⟨M.pick [0,1,2,3,4,5,6] (by decide), ?_⟩
          rcases Bool.eq_false_or_eq_true (decide (i3 = 0)) with hb | hb
          · have h := ctrue hb h
            have hj3 : i3 = 0 := of_decide_eq_true hb
            refine T_rd K (want_no rfl) rfl rfl (rdv (v := .pointer (some ⟨g_x8, 0, none⟩)) (by rw [hj3]; rfl) (rd_ixA rfl ar39 sz3 K rfl rfl (by rw [hj3]; decide) (by rw [hj3]; decide))) ?_; clear K; intro a K
            refine T_a0z K (want_no rfl) rfl (ac_storeC rfl sc3 K rfl rfl rfl 0 M rfl rfl) ?_
            have M0 := M; clear K M; rintro _ a w M K
            clear M0
            refine T_end ?_
            refine inb_n ?_
            refine then_n ?_
            refine X_reg ?_
            refine X_rd K (want_no rfl) rfl rfl (rd_move rfl K rfl) M ?_; clear K; intro a K
            refine X_rd K (want_no rfl) rfl rfl (rd_add rfl K rfl rfl) M ?_; clear K; intro a K
            obtain ⟨x10, hx, h⟩ := olet h
            refine X_rd K (want_no rfl) rfl rfl (rdi hx (rd_assign rfl K rfl)) M ?_; clear K; intro a K
            refine wpList_nil ?_
            exact then_n ⟨(r10, x12, x22, x10), ⟨K.pick [2,3,4,5,6,7,8,9], M.pick [0,1,2,3,4,5,6] (by decide)⟩, h⟩
          · have h := cfalse hb h
            rcases Bool.eq_false_or_eq_true (decide (i3 = 1)) with hb | hb
            · have h := ctrue hb h
              have hj3 : i3 = 1 := of_decide_eq_true hb
              refine T_rd K (want_no rfl) rfl rfl (rdv (v := .pointer (some ⟨g_x8, 1, none⟩)) (by rw [hj3]; rfl) (rd_ixA rfl ar39 sz3 K rfl rfl (by rw [hj3]; decide) (by rw [hj3]; decide))) ?_; clear K; intro a K
              refine T_a0z K (want_no rfl) rfl (ac_storeC rfl sc3 K rfl rfl rfl 0 M rfl rfl) ?_
              have M0 := M; clear K M; rintro _ a w M K
              clear M0
              refine T_end ?_
              refine inb_n ?_
              refine then_n ?_
              refine X_reg ?_
              refine X_rd K (want_no rfl) rfl rfl (rd_move rfl K rfl) M ?_; clear K; intro a K
              refine X_rd K (want_no rfl) rfl rfl (rd_add rfl K rfl rfl) M ?_; clear K; intro a K
              obtain ⟨x11, hx, h⟩ := olet h
              refine X_rd K (want_no rfl) rfl rfl (rdi hx (rd_assign rfl K rfl)) M ?_; clear K; intro a K
              refine wpList_nil ?_
              exact then_n ⟨(x02, r10, x22, x11), ⟨K.pick [2,3,4,5,6,7,8,9], M.pick [0,1,2,3,4,5,6] (by decide)⟩, h⟩
            · have h := cfalse hb h
              rcases Bool.eq_false_or_eq_true (decide (i3 = 2)) with hb | hb
              · have h := ctrue hb h
                have hj3 : i3 = 2 := of_decide_eq_true hb
                refine T_rd K (want_no rfl) rfl rfl (rdv (v := .pointer (some ⟨g_x8, 2, none⟩)) (by rw [hj3]; rfl) (rd_ixA rfl ar39 sz3 K rfl rfl (by rw [hj3]; decide) (by rw [hj3]; decide))) ?_; clear K; intro a K
                refine T_a0z K (want_no rfl) rfl (ac_storeC rfl sc3 K rfl rfl rfl 0 M rfl rfl) ?_
                have M0 := M; clear K M; rintro _ a w M K
                clear M0
                refine T_end ?_
                refine inb_n ?_
                refine then_n ?_
                refine X_reg ?_
                refine X_rd K (want_no rfl) rfl rfl (rd_move rfl K rfl) M ?_; clear K; intro a K
                refine X_rd K (want_no rfl) rfl rfl (rd_add rfl K rfl rfl) M ?_; clear K; intro a K
                obtain ⟨x13, hx, h⟩ := olet h
                refine X_rd K (want_no rfl) rfl rfl (rdi hx (rd_assign rfl K rfl)) M ?_; clear K; intro a K
                refine wpList_nil ?_
                exact then_n ⟨(x02, x12, r10, x13), ⟨K.pick [2,3,4,5,6,7,8,9], M.pick [0,1,2,3,4,5,6] (by decide)⟩, h⟩
              · have h := cfalse hb h
                cases h
        · have h := cfalse hb h
          refine wp_exit ?_
          refine then_e ?_
          exact then_e (hk2 (x02, x12, x22, i3) _ _ ⟨K.pick [2,3,4,5,6,7,8,9], M.pick [0,1,2,3,4,5,6] (by decide)⟩ h)
    · have h := cfalse hb h
      refine wp_exit ?_
      refine then_e ?_
      exact then_e (hk1 (x_P, i) _ _ ⟨A, c, K.pick [2,3,4,5,6], M.pick [0,1,2,3,4] (by decide)⟩ h)

end Go.Proofs.Ytpmnfhifmmfglaa
