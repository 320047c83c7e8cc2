/- Printed by a program (walk.py): the walks of darkslideref_Filled: each function computes what its plain program tells. -/
import Derived.Test.YtpmnfhifmmfglaaFacts
import Derived.Test.YtpmnfhifmmfglaaDD
import Derived.Test.YtpmnfhifmmfglaaWRefAt
import Derived.Test.YtpmnfhifmmfglaaWRefColourat
import Derived.Test.YtpmnfhifmmfglaaWRefPixel
set_option linter.unusedVariables false
set_option linter.unusedSimpArgs false
set_option linter.unusedSectionVars false
namespace Go.Proofs.Ytpmnfhifmmfglaa
open Go.RowKit

set_option maxRecDepth 100000 in
set_option maxHeartbeats 4000000 in
theorem W_darkslideref_Filled (N : Nat) (d_W : Int) (d_H : Int) (d_P : List Int) (A_d_P : Option Addr) (c_d_P : Nat) (o : Int) (w0 : World) (R_d_P : SL w0 (cI .i64) A_d_P d_P) (C_d_P : d_P.length ≤ c_d_P) (r : Int × Int × List (Int × Int × Int)) (h : D_darkslideref_Filled N d_W d_H d_P o = some r) :
    Calls Try.prog 41 #[.agg #[.int .i64 d_W, .int .i64 d_H, .slice A_d_P d_P.length c_d_P], .int .i64 o] w0 fun e w' => ∃ v, e = .returned v ∧ ∃ A2 c2, v = .agg #[.int .i64 r.1, .int .i64 r.2.1, .slice A2 r.2.2.length c2] ∧ Mem w0.heap.size w0 w' [.row 73 3 A2 r.2.2.length c2 (cIII.all r.2.2)] := by
  refine X_enter Try.func41 rfl Try.ntmps41 rfl ?_
  intro a K
  have M := Mem.start w0
  have K : Kn a 108 [(0, .agg #[.int .i64 d_W, .int .i64 d_H, .slice A_d_P d_P.length c_d_P]), (1, .int .i64 o)] := K
  unfold D_darkslideref_Filled at h
  refine wp_seq ?_
  refine X_reg ?_
  refine X_ac K (want_no rfl) rfl rfl (ac_box rfl K rfl (cs := [.int .i64 d_W, .int .i64 d_H, .slice A_d_P d_P.length c_d_P]) rfl M) ?_
  have M0 := M; clear K M; rintro _ a w ⟨g_x, rfl, M⟩ K
  clear M0
  refine X_ac K (want_no rfl) rfl rfl (ac_alloc rfl z49 M) ?_
  have M0 := M; clear K M; rintro _ a w ⟨g_x2, rfl, M⟩ K
  clear M0
  refine wpList_nil ?_
  refine then_n ?_
  refine wp_seq ?_
  refine X_reg ?_
  refine X_rd K (want_no rfl) rfl rfl (rd_field rfl fld24_0 K rfl) M ?_; clear K; intro a K
  refine X_rd K (want_no rfl) rfl rfl (rd_ldC rfl sc3 K rfl (inM 1 rfl) rfl) M ?_; clear K; intro a K
  refine X_rd K (want_no rfl) rfl rfl (rd_field rfl fld24_1 K rfl) M ?_; clear K; intro a K
  refine X_rd K (want_no rfl) rfl rfl (rd_ldC rfl sc3 K rfl (inM 1 rfl) rfl) M ?_; clear K; intro a K
  refine X_rd K (want_no rfl) rfl rfl (rd_build rfl K (vs := [(0, .int .i64 d_W), (1, .int .i64 d_H)]) (cs := [.int .i64 d_W, .int .i64 d_H, .slice none (([] : List (Int × Int × Int))).length 0]) rfl (by kernel_rfl)) M ?_; clear K; intro a K
  refine X_ac K (want_no rfl) rfl rfl (ac_alloc rfl z49 M) ?_
  have M0 := M; clear K M; rintro _ a w ⟨g_x3, rfl, M⟩ K
  clear M0
  refine X_a0 K (want_no rfl) rfl (ac_storeA rfl ty49 K rfl (ds := [.int .i64 d_W, .int .i64 d_H, .slice none (([] : List (Int × Int × Int))).length 0]) rfl rfl 0 M rfl rfl rfl) ?_
  have M0 := M; clear K M; rintro _ a w M K
  clear M0
  refine wpList_nil ?_
  refine then_n ?_
  refine wp_seq ?_
  refine wp_seq ?_
  refine X_reg ?_
  refine X_rd K (want_no rfl) rfl rfl (rd_assign rfl K rfl) M ?_; clear K; intro a K
  refine wpList_nil ?_
  refine then_n ?_
  refine wp_block ?_
  replace M := Mem.nilrow 73 3 cIII M
  refine X_lp (id := 0) (Rel := fun (⟨x_P, i⟩ : List (Int × Int × Int) × Int) a w => ∃ (A : Option Addr) (c : Nat), Kn a 108 [(1, .int .i64 o), (2, .pointer (some ⟨g_x, 0, none⟩)), (4, .pointer (some ⟨g_x2, 0, none⟩)), (5, .pointer (some ⟨g_x3, 0, none⟩)), (6, .int .i64 i)] ∧ Mem w0.heap.size w0 w [.row 73 3 A x_P.length c (cIII.all x_P), .blk g_x3 49 [.int .i64 d_W, .int .i64 d_H, .slice A x_P.length c], .blk g_x2 49 [.int .i64 0, .int .i64 0, .slice none (([] : List (Int × Int × Int))).length 0], .blk g_x 24 [.int .i64 d_W, .int .i64 d_H, .slice A_d_P d_P.length c_d_P]]) h (fun _ _ => rfl) ⟨none, 0, K.pick [1,2,4,5,6], M.pick [0,1,2,3] (by decide)⟩ ?_ ?_
  · clear K M h
    rintro ⟨x_P14, i18⟩ a w ⟨A14, c14, K, M⟩ h
    try dsimp only at h
    refine inb_e ?_
    refine then_n ?_
    refine wp_seq ?_
    refine X_reg ?_
    refine X_rd K (want_no rfl) rfl rfl (rd_ldA rfl ty49 K rfl (inM 1 rfl) rfl rfl) M ?_; clear K; intro a K
    refine X_a0 K (want_no rfl) rfl (ac_storeA rfl ty49 K rfl (ds := [.int .i64 d_W, .int .i64 d_H, .slice A14 x_P14.length c14]) rfl rfl 2 M rfl rfl rfl) ?_
    have M0 := M; clear K M; rintro _ a w M K
    clear M0
    refine wpList_nil ?_
    refine then_n ?_
    refine wp_ret ?_
    cases h
    exact ret1 K rfl (res_cellA K rfl ty49 (M.blkAt (i := 2) rfl) rfl) ⟨_, rfl, _, _, rfl, ((M).pick [0] (by decide))⟩
  · clear K M h
    rintro kk fuel ⟨x_P, i⟩ a w hk1 ⟨A, c, K, M⟩ h
    unfold D_darkslideref_Filled_l1 at h
    refine wp_seq ?_
    refine wp_seq ?_
    refine X_reg ?_
    refine X_rd K (want_no rfl) rfl rfl (rd_move rfl K rfl) M ?_; clear K; intro a K
    refine X_rd K (want_no rfl) rfl rfl (rd_field rfl fld24_1 K rfl) M ?_; clear K; intro a K
    refine X_rd K (want_no rfl) rfl rfl (rd_ldC rfl sc3 K rfl (inM 3 rfl) rfl) M ?_; clear K; intro a K
    refine X_rd K (want_no rfl) rfl rfl (rd_lss rfl K rfl rfl) M ?_; clear K; intro a K
    refine wpList_nil ?_
    refine then_n ?_
    refine X_cond K rfl (fun hb => ?_) (fun hb => ?_)
    · have h := ctrue hb h
      refine wp_skip ?_
      refine then_n ?_
      refine wp_seq ?_
      refine wp_block ?_
      refine wp_seq ?_
      refine X_reg ?_
      refine X_rd K (want_no rfl) rfl rfl (rd_assign rfl K rfl) M ?_; clear K; intro a K
      refine wpList_nil ?_
      refine then_n ?_
      refine wp_block ?_
      refine X_lp (id := 2) (Rel := fun (⟨x_P6, i6⟩ : List (Int × Int × Int) × Int) a w => ∃ (A6 : Option Addr) (c6 : Nat), Kn a 108 [(1, .int .i64 o), (2, .pointer (some ⟨g_x, 0, none⟩)), (4, .pointer (some ⟨g_x2, 0, none⟩)), (5, .pointer (some ⟨g_x3, 0, none⟩)), (6, .int .i64 i), (7, .int .i64 i6)] ∧ Mem w0.heap.size w0 w [.row 73 3 A6 x_P6.length c6 (cIII.all x_P6), .blk g_x3 49 [.int .i64 d_W, .int .i64 d_H, .slice A6 x_P6.length c6], .blk g_x2 49 [.int .i64 0, .int .i64 0, .slice none (([] : List (Int × Int × Int))).length 0], .blk g_x 24 [.int .i64 d_W, .int .i64 d_H, .slice A_d_P d_P.length c_d_P]]) h (fun _ _ => rfl) ⟨A, c, K.pick [1,2,4,5,6,7], M.pick [0,1,2,3] (by decide)⟩ ?_ ?_
      · clear K M h
        rintro ⟨x_P13, i17⟩ a w ⟨A13, c13, K, M⟩ h
        try dsimp only at h
        refine inb_e ?_
        refine inb_n ?_
        refine then_n ?_
        refine X_reg ?_
        refine X_rd K (want_no rfl) rfl rfl (rd_move rfl K rfl) M ?_; clear K; intro a K
        refine X_rd K (want_no rfl) rfl rfl (rd_add rfl K rfl rfl) M ?_; clear K; intro a K
        obtain ⟨x62, hx, h⟩ := olet h
        refine X_rd K (want_no rfl) rfl rfl (rdi hx (rd_assign rfl K rfl)) M ?_; clear K; intro a K
        refine wpList_nil ?_
        exact then_n ⟨(x_P13, x62), ⟨A13, c13, K.pick [1,2,4,5,6], M.pick [0,1,2,3] (by decide)⟩, h⟩
      · clear K M h
        rintro kk fuel ⟨x_P6, i6⟩ a w hk2 ⟨A6, c6, K, M⟩ h
        unfold D_darkslideref_Filled_l2 at h
        refine wp_seq ?_
        refine wp_seq ?_
        refine X_reg ?_
        refine X_rd K (want_no rfl) rfl rfl (rd_move rfl K rfl) M ?_; clear K; intro a K
        refine X_rd K (want_no rfl) rfl rfl (rd_field rfl fld24_0 K rfl) M ?_; clear K; intro a K
        refine X_rd K (want_no rfl) rfl rfl (rd_ldC rfl sc3 K rfl (inM 3 rfl) rfl) M ?_; clear K; intro a K
        refine X_rd K (want_no rfl) rfl rfl (rd_lss rfl K rfl rfl) M ?_; clear K; intro a K
        refine wpList_nil ?_
        refine then_n ?_
        refine X_cond K rfl (fun hb => ?_) (fun hb => ?_)
        · have h := ctrue hb h
          refine wp_skip ?_
          refine then_n ?_
          refine wp_seq ?_
          refine wp_block ?_
          refine wp_seq ?_
          refine X_reg ?_
          refine X_ac K (want_no rfl) rfl rfl (ac_alloc rfl z39 M) ?_
          have M0 := M; clear K M; rintro _ a w ⟨g_x10, rfl, M⟩ K
          clear M0
          refine X_ac K (want_no rfl) rfl rfl (ac_alloc rfl z39 M) ?_
          have M0 := M; clear K M; rintro _ a w ⟨g_x11, rfl, M⟩ K
          clear M0
          refine wpList_nil ?_
          refine then_n ?_
          refine wp_seq ?_
          refine wp_seq ?_
          refine X_reg ?_
          refine X_rd K (want_no rfl) rfl rfl (rd_move rfl K rfl) M ?_; clear K; intro a K
          refine X_rd K (want_no rfl) rfl rfl (rd_sub rfl K rfl rfl) M ?_; clear K; intro a K
          refine X_rd K (want_no rfl) rfl rfl (rd_max rfl K rfl rfl) M ?_; clear K; intro a K
          obtain ⟨x39, hx, h⟩ := olet h
          refine X_rd K (want_no rfl) rfl rfl (rdi hx (rd_assign rfl K rfl)) M ?_; clear K; intro a K
          refine wpList_nil ?_
          refine then_n ?_
          refine wp_block ?_
          refine X_lp (id := 4) (Rel := fun (⟨x011, x115, x212, x012, x116, x213, i10⟩ : Int × Int × Int × Int × Int × Int × Int) a w => Kn a 108 [(1, .int .i64 o), (2, .pointer (some ⟨g_x, 0, none⟩)), (4, .pointer (some ⟨g_x2, 0, none⟩)), (5, .pointer (some ⟨g_x3, 0, none⟩)), (6, .int .i64 i), (7, .int .i64 i6), (8, .pointer (some ⟨g_x10, 0, none⟩)), (9, .pointer (some ⟨g_x11, 0, none⟩)), (10, .int .i64 i10)] ∧ Mem w0.heap.size w0 w [.blk g_x11 39 [.int .i64 x011, .int .i64 x115, .int .i64 x212], .blk g_x10 39 [.int .i64 x012, .int .i64 x116, .int .i64 x213], .row 73 3 A6 x_P6.length c6 (cIII.all x_P6), .blk g_x3 49 [.int .i64 d_W, .int .i64 d_H, .slice A6 x_P6.length c6], .blk g_x2 49 [.int .i64 0, .int .i64 0, .slice none (([] : List (Int × Int × Int))).length 0], .blk g_x 24 [.int .i64 d_W, .int .i64 d_H, .slice A_d_P d_P.length c_d_P]]) h (fun _ _ => rfl) ⟨K.pick [1,2,4,5,6,7,8,9,10], M.pick [0,1,2,3,4,5] (by decide)⟩ ?_ ?_
          · clear K M h
            rintro ⟨x019, x123, x220, x020, x124, x221, i14⟩ a w ⟨K, M⟩ h
            try dsimp only at h
            refine inb_e ?_
            refine then_n ?_
            refine wp_seq ?_
            refine X_reg ?_
            refine X_ac K (want_no rfl) rfl rfl (ac_alloc rfl z39 M) ?_
            have M0 := M; clear K M; rintro _ a w ⟨g_x12, rfl, M⟩ K
            clear M0
            refine wpList_nil ?_
            refine then_n ?_
            refine wp_seq ?_
            refine wp_seq ?_
            refine X_reg ?_
            refine X_rd K (want_no rfl) rfl rfl (rd_assign rfl K rfl) M ?_; clear K; intro a K
            refine wpList_nil ?_
            refine then_n ?_
            refine wp_block ?_
            refine X_lp (id := 8) (Rel := fun (⟨x021, x125, x222, i15⟩ : Int × Int × Int × Int) a w => Kn a 108 [(1, .int .i64 o), (2, .pointer (some ⟨g_x, 0, none⟩)), (4, .pointer (some ⟨g_x2, 0, none⟩)), (5, .pointer (some ⟨g_x3, 0, none⟩)), (6, .int .i64 i), (7, .int .i64 i6), (8, .pointer (some ⟨g_x10, 0, none⟩)), (9, .pointer (some ⟨g_x11, 0, none⟩)), (13, .pointer (some ⟨g_x12, 0, none⟩)), (14, .int .i64 i15)] ∧ Mem w0.heap.size w0 w [.blk g_x12 39 [.int .i64 x021, .int .i64 x125, .int .i64 x222], .blk g_x11 39 [.int .i64 x019, .int .i64 x123, .int .i64 x220], .blk g_x10 39 [.int .i64 x020, .int .i64 x124, .int .i64 x221], .row 73 3 A6 x_P6.length c6 (cIII.all x_P6), .blk g_x3 49 [.int .i64 d_W, .int .i64 d_H, .slice A6 x_P6.length c6], .blk g_x2 49 [.int .i64 0, .int .i64 0, .slice none (([] : List (Int × Int × Int))).length 0], .blk g_x 24 [.int .i64 d_W, .int .i64 d_H, .slice A_d_P d_P.length c_d_P]]) h (fun _ _ => rfl) ⟨K.pick [1,2,4,5,6,7,8,9,13,14], M.pick [0,1,2,3,4,5,6] (by decide)⟩ ?_ ?_
            · clear K M h
              rintro ⟨x022, x126, x223, i16⟩ a w ⟨K, M⟩ h
              try dsimp only at h
              refine inb_e ?_
              refine then_n ?_
              refine wp_seq ?_
              refine wp_region_tl (fun w => Mem _ _ w _) [0,0,0,1,0,0,0,1,0,2] (by kernel_rfl) (by kernel_rfl) M.drew ?_
              replace M := M.drew
              refine T_rd K (want_no rfl) rfl rfl (rd_move rfl K rfl) ?_; clear K; intro a K
              refine T_rd K (want_no rfl) rfl rfl (rd_move rfl K rfl) ?_; clear K; intro a K
              refine T_rd K (want_no rfl) rfl rfl (rd_move rfl K rfl) ?_; clear K; intro a K
              obtain ⟨r32, h_r32, h⟩ := obind h
              refine T_ac K (want_no rfl) rfl rfl (ac_call (vs := [.int .i64 o, .int .i64 i6, .int .i64 i]) (cap := []) rfl fok26 K rfl rfl (W_darkslideref_ColourAt N o i6 i _  r32 h_r32)) ?_
              have M0 := M; clear K M; rintro _ a w ⟨rfl, M⟩ K
              have M := M0.call M
              clear M0
              refine ⟨M.pick [0,1,2,3,4,5,6] (by decide), ?_⟩
              refine T_rd K (want_no rfl) rfl rfl (rd_ldA rfl ty24 K rfl (inM 6 rfl) rfl rfl) ?_; clear K; intro a K
              refine T_rd K (want_no rfl) rfl rfl (rd_move rfl K rfl) ?_; clear K; intro a K
              refine T_rd K (want_no rfl) rfl rfl (rd_move rfl K rfl) ?_; clear K; intro a K
              obtain ⟨r33, h_r33, h⟩ := obind h
              refine T_ac K (want_no rfl) rfl rfl (ac_call (vs := [.agg #[.int .i64 d_W, .int .i64 d_H, .slice A_d_P d_P.length c_d_P], .int .i64 i6, .int .i64 i]) (cap := []) rfl fok60 K rfl rfl (W_darkslideref_At N d_W d_H d_P A_d_P c_d_P i6 i _ ((inA R_d_P) _ M) C_d_P r33 h_r33)) ?_
              have M0 := M; clear K M; rintro _ a w ⟨rfl, M⟩ K
              have M := M0.call M
              clear M0
              refine ⟨M.pick [0,1,2,3,4,5,6] (by decide), ?_⟩
              rcases Bool.eq_false_or_eq_true (decide (r32 = 0)) with hb | hb
              · have h := ctrue hb h
                have hj12 : r32 = 0 := of_decide_eq_true hb
                refine T_rd K (want_no rfl) rfl rfl (rdv (v := .pointer (some ⟨g_x12, 0, none⟩)) (by rw [hj12]; rfl) (rd_ixA rfl ar39 sz3 K rfl rfl (by rw [hj12]; decide) (by rw [hj12]; decide))) ?_; clear K; intro a K
                refine T_a0z K (want_no rfl) rfl (ac_storeC rfl sc3 K rfl rfl rfl 0 M rfl rfl) ?_
                have M0 := M; clear K M; rintro _ a w M K
                clear M0
                refine T_end ?_
                refine then_n ?_
                refine wp_region_tl (fun w => Mem _ _ w _) [0,0,0,1,1,1,0,2] (by kernel_rfl) (by kernel_rfl) (M.pick [0,1,2,4,5,6] (by decide)).drew ?_
                replace M := M.drew
                refine T_rd K (want_no rfl) rfl rfl (rd_field rfl fld49_2 K rfl) ?_; clear K; intro a K
                refine T_rd K (want_no rfl) rfl rfl (rd_ldC rfl sc47 K rfl (inM 3 rfl) rfl) ?_; clear K; intro a K
                refine T_rd K (want_no rfl) rfl rfl (rd_ldA rfl ty39 K rfl (inM 0 rfl) rfl rfl) ?_; clear K; intro a K
                obtain ⟨r34, h_r34, h⟩ := obind h
                refine T_ac K (want_no rfl) rfl rfl (ac_call (vs := [.agg #[.int .i64 r33, .int .i64 x126, .int .i64 x223]]) (cap := []) rfl fok80 K rfl rfl (W_darkslideref_pixel N r33 x126 x223 _  r34 h_r34)) ?_
                have M0 := M; clear K M; rintro _ a w ⟨rfl, M⟩ K
                have M := M0.call M
                clear M0
                refine ⟨M.pick [0,1,2,4,5,6] (by decide), ?_⟩
                refine T_ac K (want_no rfl) rfl rfl (ac_bslice rfl sl47 z73 K (vs := [(0, .agg #[.int .i64 r34.1, .int .i64 r34.2.1, .int .i64 r34.2.2])]) (cs := [.int .i64 r34.1, .int .i64 r34.2.1, .int .i64 r34.2.2]) rfl (by kernel_rfl) rfl rfl M) ?_
                have M0 := M; clear K M; rintro _ a w ⟨gs7, rfl, M⟩ K
                replace M := M.asRow 0 rfl cIII ([(r34.1, r34.2.1, r34.2.2)] : List (Int × Int × Int)) (n := 1) rfl rfl rfl
                clear M0
                refine ⟨M.pick [1,2,3,5,6,7] (by decide), ?_⟩
                obtain ⟨x_P10, h_x_P10, h⟩ := obind h
                refine T_ac K (want_no rfl) rfl rfl (ac_app (C := cIII) (xs := x_P6) (ys := ([(r34.1, r34.2.1, r34.2.2)] : List (Int × Int × Int))) rfl sl47 rfl z73 rfl rfl K rfl rfl 4 M rfl ((inR (C := cIII) 0 rfl rfl) _ M) h_x_P10) ?_
                have M0 := M; clear K M; rintro _ a w ⟨A10, c10, rfl, M⟩ K
                clear M0
                refine ⟨M.pick [1,2,3,5,6,7] (by decide), ?_⟩
                refine T_rd K (want_no rfl) rfl rfl (rd_field rfl fld49_2 K rfl) ?_; clear K; intro a K
                refine T_a0z K (want_no rfl) rfl (ac_storeC rfl sc47 K rfl rfl rfl 5 M rfl rfl) ?_
                have M0 := M; clear K M; rintro _ a w M K
                clear M0
                refine T_end ?_
                refine inb_n ?_
                refine then_n ?_
                refine X_reg ?_
                refine X_rd K (want_no rfl) rfl rfl (rd_move rfl K rfl) M ?_; clear K; intro a K
                refine X_rd K (want_no rfl) rfl rfl (rd_add rfl K rfl rfl) M ?_; clear K; intro a K
                obtain ⟨x59, hx, h⟩ := olet h
                refine X_rd K (want_no rfl) rfl rfl (rdi hx (rd_assign rfl K rfl)) M ?_; clear K; intro a K
                refine wpList_nil ?_
                exact then_n ⟨(x_P10, x59), ⟨A10, c10, K.pick [1,2,4,5,6,7], M.pick [4,5,6,7] (by decide)⟩, h⟩
              · have h := cfalse hb h
                rcases Bool.eq_false_or_eq_true (decide (r32 = 1)) with hb | hb
                · have h := ctrue hb h
                  have hj12 : r32 = 1 := of_decide_eq_true hb
                  refine T_rd K (want_no rfl) rfl rfl (rdv (v := .pointer (some ⟨g_x12, 1, none⟩)) (by rw [hj12]; rfl) (rd_ixA rfl ar39 sz3 K rfl rfl (by rw [hj12]; decide) (by rw [hj12]; decide))) ?_; clear K; intro a K
                  refine T_a0z K (want_no rfl) rfl (ac_storeC rfl sc3 K rfl rfl rfl 0 M rfl rfl) ?_
                  have M0 := M; clear K M; rintro _ a w M K
                  clear M0
                  refine T_end ?_
                  refine then_n ?_
                  refine wp_region_tl (fun w => Mem _ _ w _) [0,0,0,1,1,1,0,2] (by kernel_rfl) (by kernel_rfl) (M.pick [0,1,2,4,5,6] (by decide)).drew ?_
                  replace M := M.drew
                  refine T_rd K (want_no rfl) rfl rfl (rd_field rfl fld49_2 K rfl) ?_; clear K; intro a K
                  refine T_rd K (want_no rfl) rfl rfl (rd_ldC rfl sc47 K rfl (inM 3 rfl) rfl) ?_; clear K; intro a K
                  refine T_rd K (want_no rfl) rfl rfl (rd_ldA rfl ty39 K rfl (inM 0 rfl) rfl rfl) ?_; clear K; intro a K
                  obtain ⟨r35, h_r35, h⟩ := obind h
                  refine T_ac K (want_no rfl) rfl rfl (ac_call (vs := [.agg #[.int .i64 x022, .int .i64 r33, .int .i64 x223]]) (cap := []) rfl fok80 K rfl rfl (W_darkslideref_pixel N x022 r33 x223 _  r35 h_r35)) ?_
                  have M0 := M; clear K M; rintro _ a w ⟨rfl, M⟩ K
                  have M := M0.call M
                  clear M0
                  refine ⟨M.pick [0,1,2,4,5,6] (by decide), ?_⟩
                  refine T_ac K (want_no rfl) rfl rfl (ac_bslice rfl sl47 z73 K (vs := [(0, .agg #[.int .i64 r35.1, .int .i64 r35.2.1, .int .i64 r35.2.2])]) (cs := [.int .i64 r35.1, .int .i64 r35.2.1, .int .i64 r35.2.2]) rfl (by kernel_rfl) rfl rfl M) ?_
                  have M0 := M; clear K M; rintro _ a w ⟨gs8, rfl, M⟩ K
                  replace M := M.asRow 0 rfl cIII ([(r35.1, r35.2.1, r35.2.2)] : List (Int × Int × Int)) (n := 1) rfl rfl rfl
                  clear M0
                  refine ⟨M.pick [1,2,3,5,6,7] (by decide), ?_⟩
                  obtain ⟨x_P11, h_x_P11, h⟩ := obind h
                  refine T_ac K (want_no rfl) rfl rfl (ac_app (C := cIII) (xs := x_P6) (ys := ([(r35.1, r35.2.1, r35.2.2)] : List (Int × Int × Int))) rfl sl47 rfl z73 rfl rfl K rfl rfl 4 M rfl ((inR (C := cIII) 0 rfl rfl) _ M) h_x_P11) ?_
                  have M0 := M; clear K M; rintro _ a w ⟨A11, c11, rfl, M⟩ K
                  clear M0
                  refine ⟨M.pick [1,2,3,5,6,7] (by decide), ?_⟩
                  refine T_rd K (want_no rfl) rfl rfl (rd_field rfl fld49_2 K rfl) ?_; clear K; intro a K
                  refine T_a0z K (want_no rfl) rfl (ac_storeC rfl sc47 K rfl rfl rfl 5 M rfl rfl) ?_
                  have M0 := M; clear K M; rintro _ a w M K
                  clear M0
                  refine T_end ?_
                  refine inb_n ?_
                  refine then_n ?_
                  refine X_reg ?_
                  refine X_rd K (want_no rfl) rfl rfl (rd_move rfl K rfl) M ?_; clear K; intro a K
                  refine X_rd K (want_no rfl) rfl rfl (rd_add rfl K rfl rfl) M ?_; clear K; intro a K
                  obtain ⟨x60, hx, h⟩ := olet h
                  refine X_rd K (want_no rfl) rfl rfl (rdi hx (rd_assign rfl K rfl)) M ?_; clear K; intro a K
                  refine wpList_nil ?_
                  exact then_n ⟨(x_P11, x60), ⟨A11, c11, K.pick [1,2,4,5,6,7], M.pick [4,5,6,7] (by decide)⟩, h⟩
                · have h := cfalse hb h
                  rcases Bool.eq_false_or_eq_true (decide (r32 = 2)) with hb | hb
                  · have h := ctrue hb h
                    have hj12 : r32 = 2 := of_decide_eq_true hb
                    refine T_rd K (want_no rfl) rfl rfl (rdv (v := .pointer (some ⟨g_x12, 2, none⟩)) (by rw [hj12]; rfl) (rd_ixA rfl ar39 sz3 K rfl rfl (by rw [hj12]; decide) (by rw [hj12]; decide))) ?_; clear K; intro a K
                    refine T_a0z K (want_no rfl) rfl (ac_storeC rfl sc3 K rfl rfl rfl 0 M rfl rfl) ?_
                    have M0 := M; clear K M; rintro _ a w M K
                    clear M0
                    refine T_end ?_
                    refine then_n ?_
                    refine wp_region_tl (fun w => Mem _ _ w _) [0,0,0,1,1,1,0,2] (by kernel_rfl) (by kernel_rfl) (M.pick [0,1,2,4,5,6] (by decide)).drew ?_
                    replace M := M.drew
                    refine T_rd K (want_no rfl) rfl rfl (rd_field rfl fld49_2 K rfl) ?_; clear K; intro a K
                    refine T_rd K (want_no rfl) rfl rfl (rd_ldC rfl sc47 K rfl (inM 3 rfl) rfl) ?_; clear K; intro a K
                    refine T_rd K (want_no rfl) rfl rfl (rd_ldA rfl ty39 K rfl (inM 0 rfl) rfl rfl) ?_; clear K; intro a K
                    obtain ⟨r36, h_r36, h⟩ := obind h
                    refine T_ac K (want_no rfl) rfl rfl (ac_call (vs := [.agg #[.int .i64 x022, .int .i64 x126, .int .i64 r33]]) (cap := []) rfl fok80 K rfl rfl (W_darkslideref_pixel N x022 x126 r33 _  r36 h_r36)) ?_
                    have M0 := M; clear K M; rintro _ a w ⟨rfl, M⟩ K
                    have M := M0.call M
                    clear M0
                    refine ⟨M.pick [0,1,2,4,5,6] (by decide), ?_⟩
                    refine T_ac K (want_no rfl) rfl rfl (ac_bslice rfl sl47 z73 K (vs := [(0, .agg #[.int .i64 r36.1, .int .i64 r36.2.1, .int .i64 r36.2.2])]) (cs := [.int .i64 r36.1, .int .i64 r36.2.1, .int .i64 r36.2.2]) rfl (by kernel_rfl) rfl rfl M) ?_
                    have M0 := M; clear K M; rintro _ a w ⟨gs9, rfl, M⟩ K
                    replace M := M.asRow 0 rfl cIII ([(r36.1, r36.2.1, r36.2.2)] : List (Int × Int × Int)) (n := 1) rfl rfl rfl
                    clear M0
                    refine ⟨M.pick [1,2,3,5,6,7] (by decide), ?_⟩
                    obtain ⟨x_P12, h_x_P12, h⟩ := obind h
                    refine T_ac K (want_no rfl) rfl rfl (ac_app (C := cIII) (xs := x_P6) (ys := ([(r36.1, r36.2.1, r36.2.2)] : List (Int × Int × Int))) rfl sl47 rfl z73 rfl rfl K rfl rfl 4 M rfl ((inR (C := cIII) 0 rfl rfl) _ M) h_x_P12) ?_
                    have M0 := M; clear K M; rintro _ a w ⟨A12, c12, rfl, M⟩ K
                    clear M0
                    refine ⟨M.pick [1,2,3,5,6,7] (by decide), ?_⟩
                    refine T_rd K (want_no rfl) rfl rfl (rd_field rfl fld49_2 K rfl) ?_; clear K; intro a K
                    refine T_a0z K (want_no rfl) rfl (ac_storeC rfl sc47 K rfl rfl rfl 5 M rfl rfl) ?_
                    have M0 := M; clear K M; rintro _ a w M K
                    clear M0
                    refine T_end ?_
                    refine inb_n ?_
                    refine then_n ?_
                    refine X_reg ?_
                    refine X_rd K (want_no rfl) rfl rfl (rd_move rfl K rfl) M ?_; clear K; intro a K
                    refine X_rd K (want_no rfl) rfl rfl (rd_add rfl K rfl rfl) M ?_; clear K; intro a K
                    obtain ⟨x61, hx, h⟩ := olet h
                    refine X_rd K (want_no rfl) rfl rfl (rdi hx (rd_assign rfl K rfl)) M ?_; clear K; intro a K
                    refine wpList_nil ?_
                    exact then_n ⟨(x_P12, x61), ⟨A12, c12, K.pick [1,2,4,5,6,7], M.pick [4,5,6,7] (by decide)⟩, h⟩
                  · have h := cfalse hb h
                    cases h
            · clear K M h
              rintro kk fuel ⟨x021, x125, x222, i15⟩ a w hk5 ⟨K, M⟩ h
              unfold D_darkslideref_Filled_l5 at h
              refine wp_seq ?_
              refine wp_seq ?_
              refine X_reg ?_
              refine X_rd K (want_no rfl) rfl rfl (rd_move rfl K rfl) M ?_; clear K; intro a K
              refine X_rd K (want_no rfl) rfl rfl (rd_lss rfl K rfl rfl) M ?_; clear K; intro a K
              refine wpList_nil ?_
              refine then_n ?_
              refine X_cond K rfl (fun hb => ?_) (fun hb => ?_)
              · have h := ctrue hb h
                refine wp_skip ?_
                refine then_n ?_
                refine wp_seq ?_
                refine wp_block ?_
                refine wp_region_tl (fun w => Mem _ _ w _) [0,0,0,0,0,0,0,0,0,0,2] (by kernel_rfl) (by kernel_rfl) M.drew ?_
                replace M := M.drew
                refine T_rd K (want_no rfl) rfl rfl (rd_move rfl K rfl) ?_; clear K; intro a K
                refine T_rd K (want_no rfl) rfl rfl (rd_move rfl K rfl) ?_; clear K; intro a K
                rcases Bool.eq_false_or_eq_true (decide (i15 = 0)) with hb | hb
                · have h := ctrue hb h
                  have hj11 : i15 = 0 := of_decide_eq_true hb
                  refine T_rd K (want_no rfl) rfl rfl (rdv (v := .pointer (some ⟨g_x10, 0, none⟩)) (by rw [hj11]; rfl) (rd_ixA rfl ar39 sz3 K rfl rfl (by rw [hj11]; decide) (by rw [hj11]; decide))) ?_; clear K; intro a K
                  refine T_rd K (want_no rfl) rfl rfl (rd_ldC rfl sc3 K rfl (inM 2 rfl) rfl) ?_; clear K; intro a K
                  refine T_rd K (want_no rfl) rfl rfl (rd_move rfl K rfl) ?_; clear K; intro a K
                  refine T_rd K (want_no rfl) rfl rfl (rdv (v := .pointer (some ⟨g_x11, 0, none⟩)) (by rw [hj11]; rfl) (rd_ixA rfl ar39 sz3 K rfl rfl (by rw [hj11]; decide) (by rw [hj11]; decide))) ?_; clear K; intro a K
                  refine T_rd K (want_no rfl) rfl rfl (rd_ldC rfl sc3 K rfl (inM 1 rfl) rfl) ?_; clear K; intro a K
                  refine T_rd K (want_no rfl) rfl rfl (rd_max rfl K rfl rfl) ?_; clear K; intro a K
                  obtain ⟨_, h0, h⟩ := obind h
                  have h0 := nz_spec h0
                  refine T_rd K (want_no rfl) rfl rfl (rd_quo rfl K rfl rfl h0) ?_; clear K; intro a K
                  refine T_rd K (want_no rfl) rfl rfl (rdv (v := .pointer (some ⟨g_x12, 0, none⟩)) (by rw [hj11]; rfl) (rd_ixA rfl ar39 sz3 K rfl rfl (by rw [hj11]; decide) (by rw [hj11]; decide))) ?_; clear K; intro a K
                  refine T_a0z K (want_no rfl) rfl (ac_storeC rfl sc3 K rfl rfl rfl 0 M rfl rfl) ?_
                  have M0 := M; clear K M; rintro _ a w M K
                  clear M0
                  refine T_end ?_
                  refine inb_n ?_
                  refine then_n ?_
                  refine X_reg ?_
                  refine X_rd K (want_no rfl) rfl rfl (rd_move rfl K rfl) M ?_; clear K; intro a K
                  refine X_rd K (want_no rfl) rfl rfl (rd_add rfl K rfl rfl) M ?_; clear K; intro a K
                  obtain ⟨x56, hx, h⟩ := olet h
                  refine X_rd K (want_no rfl) rfl rfl (rdi hx (rd_assign rfl K rfl)) M ?_; clear K; intro a K
                  refine wpList_nil ?_
                  exact then_n ⟨(IntKind.i64.wrap (Int.tdiv x020 (max x019 1)), x125, x222, x56), ⟨K.pick [1,2,4,5,6,7,8,9,13,14], M.pick [0,1,2,3,4,5,6] (by decide)⟩, h⟩
                · have h := cfalse hb h
                  rcases Bool.eq_false_or_eq_true (decide (i15 = 1)) with hb | hb
                  · have h := ctrue hb h
                    have hj11 : i15 = 1 := of_decide_eq_true hb
                    refine T_rd K (want_no rfl) rfl rfl (rdv (v := .pointer (some ⟨g_x10, 1, none⟩)) (by rw [hj11]; rfl) (rd_ixA rfl ar39 sz3 K rfl rfl (by rw [hj11]; decide) (by rw [hj11]; decide))) ?_; clear K; intro a K
                    refine T_rd K (want_no rfl) rfl rfl (rd_ldC rfl sc3 K rfl (inM 2 rfl) rfl) ?_; clear K; intro a K
                    refine T_rd K (want_no rfl) rfl rfl (rd_move rfl K rfl) ?_; clear K; intro a K
                    refine T_rd K (want_no rfl) rfl rfl (rdv (v := .pointer (some ⟨g_x11, 1, none⟩)) (by rw [hj11]; rfl) (rd_ixA rfl ar39 sz3 K rfl rfl (by rw [hj11]; decide) (by rw [hj11]; decide))) ?_; clear K; intro a K
                    refine T_rd K (want_no rfl) rfl rfl (rd_ldC rfl sc3 K rfl (inM 1 rfl) rfl) ?_; clear K; intro a K
                    refine T_rd K (want_no rfl) rfl rfl (rd_max rfl K rfl rfl) ?_; clear K; intro a K
                    obtain ⟨_, h0, h⟩ := obind h
                    have h0 := nz_spec h0
                    refine T_rd K (want_no rfl) rfl rfl (rd_quo rfl K rfl rfl h0) ?_; clear K; intro a K
                    refine T_rd K (want_no rfl) rfl rfl (rdv (v := .pointer (some ⟨g_x12, 1, none⟩)) (by rw [hj11]; rfl) (rd_ixA rfl ar39 sz3 K rfl rfl (by rw [hj11]; decide) (by rw [hj11]; decide))) ?_; clear K; intro a K
                    refine T_a0z K (want_no rfl) rfl (ac_storeC rfl sc3 K rfl rfl rfl 0 M rfl rfl) ?_
                    have M0 := M; clear K M; rintro _ a w M K
                    clear M0
                    refine T_end ?_
                    refine inb_n ?_
                    refine then_n ?_
                    refine X_reg ?_
                    refine X_rd K (want_no rfl) rfl rfl (rd_move rfl K rfl) M ?_; clear K; intro a K
                    refine X_rd K (want_no rfl) rfl rfl (rd_add rfl K rfl rfl) M ?_; clear K; intro a K
                    obtain ⟨x57, hx, h⟩ := olet h
                    refine X_rd K (want_no rfl) rfl rfl (rdi hx (rd_assign rfl K rfl)) M ?_; clear K; intro a K
                    refine wpList_nil ?_
                    exact then_n ⟨(x021, IntKind.i64.wrap (Int.tdiv x124 (max x123 1)), x222, x57), ⟨K.pick [1,2,4,5,6,7,8,9,13,14], M.pick [0,1,2,3,4,5,6] (by decide)⟩, h⟩
                  · have h := cfalse hb h
                    rcases Bool.eq_false_or_eq_true (decide (i15 = 2)) with hb | hb
                    · have h := ctrue hb h
                      have hj11 : i15 = 2 := of_decide_eq_true hb
                      refine T_rd K (want_no rfl) rfl rfl (rdv (v := .pointer (some ⟨g_x10, 2, none⟩)) (by rw [hj11]; rfl) (rd_ixA rfl ar39 sz3 K rfl rfl (by rw [hj11]; decide) (by rw [hj11]; decide))) ?_; clear K; intro a K
                      refine T_rd K (want_no rfl) rfl rfl (rd_ldC rfl sc3 K rfl (inM 2 rfl) rfl) ?_; clear K; intro a K
                      refine T_rd K (want_no rfl) rfl rfl (rd_move rfl K rfl) ?_; clear K; intro a K
                      refine T_rd K (want_no rfl) rfl rfl (rdv (v := .pointer (some ⟨g_x11, 2, none⟩)) (by rw [hj11]; rfl) (rd_ixA rfl ar39 sz3 K rfl rfl (by rw [hj11]; decide) (by rw [hj11]; decide))) ?_; clear K; intro a K
                      refine T_rd K (want_no rfl) rfl rfl (rd_ldC rfl sc3 K rfl (inM 1 rfl) rfl) ?_; clear K; intro a K
                      refine T_rd K (want_no rfl) rfl rfl (rd_max rfl K rfl rfl) ?_; clear K; intro a K
                      obtain ⟨_, h0, h⟩ := obind h
                      have h0 := nz_spec h0
                      refine T_rd K (want_no rfl) rfl rfl (rd_quo rfl K rfl rfl h0) ?_; clear K; intro a K
                      refine T_rd K (want_no rfl) rfl rfl (rdv (v := .pointer (some ⟨g_x12, 2, none⟩)) (by rw [hj11]; rfl) (rd_ixA rfl ar39 sz3 K rfl rfl (by rw [hj11]; decide) (by rw [hj11]; decide))) ?_; clear K; intro a K
                      refine T_a0z K (want_no rfl) rfl (ac_storeC rfl sc3 K rfl rfl rfl 0 M rfl rfl) ?_
                      have M0 := M; clear K M; rintro _ a w M K
                      clear M0
                      refine T_end ?_
                      refine inb_n ?_
                      refine then_n ?_
                      refine X_reg ?_
                      refine X_rd K (want_no rfl) rfl rfl (rd_move rfl K rfl) M ?_; clear K; intro a K
                      refine X_rd K (want_no rfl) rfl rfl (rd_add rfl K rfl rfl) M ?_; clear K; intro a K
                      obtain ⟨x58, hx, h⟩ := olet h
                      refine X_rd K (want_no rfl) rfl rfl (rdi hx (rd_assign rfl K rfl)) M ?_; clear K; intro a K
                      refine wpList_nil ?_
                      exact then_n ⟨(x021, x125, IntKind.i64.wrap (Int.tdiv x221 (max x220 1)), x58), ⟨K.pick [1,2,4,5,6,7,8,9,13,14], M.pick [0,1,2,3,4,5,6] (by decide)⟩, h⟩
                    · have h := cfalse hb h
                      cases h
              · have h := cfalse hb h
                refine wp_exit ?_
                refine then_e ?_
                exact then_e (hk5 (x021, x125, x222, i15) _ _ ⟨K.pick [1,2,4,5,6,7,8,9,13,14], M.pick [0,1,2,3,4,5,6] (by decide)⟩ h)
          · clear K M h
            rintro kk fuel ⟨x011, x115, x212, x012, x116, x213, i10⟩ a w hk3 ⟨K, M⟩ h
            unfold D_darkslideref_Filled_l3 at h
            refine wp_seq ?_
            refine wp_seq ?_
            refine X_reg ?_
            refine X_rd K (want_no rfl) rfl rfl (rd_move rfl K rfl) M ?_; clear K; intro a K
            refine X_rd K (want_no rfl) rfl rfl (rd_field rfl fld24_1 K rfl) M ?_; clear K; intro a K
            refine X_rd K (want_no rfl) rfl rfl (rd_ldC rfl sc3 K rfl (inM 5 rfl) rfl) M ?_; clear K; intro a K
            refine X_rd K (want_no rfl) rfl rfl (rd_sub rfl K rfl rfl) M ?_; clear K; intro a K
            refine X_rd K (want_no rfl) rfl rfl (rd_move rfl K rfl) M ?_; clear K; intro a K
            refine X_rd K (want_no rfl) rfl rfl (rd_add rfl K rfl rfl) M ?_; clear K; intro a K
            refine X_rd K (want_no rfl) rfl rfl (rd_min rfl K rfl rfl) M ?_; clear K; intro a K
            refine X_rd K (want_no rfl) rfl rfl (rd_leq rfl K rfl rfl) M ?_; clear K; intro a K
            refine wpList_nil ?_
            refine then_n ?_
            refine X_cond K rfl (fun hb => ?_) (fun hb => ?_)
            · have h := ctrue hb h
              refine wp_skip ?_
              refine then_n ?_
              refine wp_seq ?_
              refine wp_block ?_
              refine wp_seq ?_
              refine X_reg ?_
              refine X_rd K (want_no rfl) rfl rfl (rd_move rfl K rfl) M ?_; clear K; intro a K
              refine X_rd K (want_no rfl) rfl rfl (rd_sub rfl K rfl rfl) M ?_; clear K; intro a K
              refine X_rd K (want_no rfl) rfl rfl (rd_max rfl K rfl rfl) M ?_; clear K; intro a K
              obtain ⟨x45, hx, h⟩ := olet h
              refine X_rd K (want_no rfl) rfl rfl (rdi hx (rd_assign rfl K rfl)) M ?_; clear K; intro a K
              refine wpList_nil ?_
              refine then_n ?_
              refine wp_block ?_
              refine X_lp (id := 6) (Rel := fun (⟨x015, x119, x216, x016, x120, x217, i12⟩ : Int × Int × Int × Int × Int × Int × Int) a w => Kn a 108 [(1, .int .i64 o), (2, .pointer (some ⟨g_x, 0, none⟩)), (4, .pointer (some ⟨g_x2, 0, none⟩)), (5, .pointer (some ⟨g_x3, 0, none⟩)), (6, .int .i64 i), (7, .int .i64 i6), (8, .pointer (some ⟨g_x10, 0, none⟩)), (9, .pointer (some ⟨g_x11, 0, none⟩)), (10, .int .i64 i10), (11, .int .i64 i12)] ∧ Mem w0.heap.size w0 w [.blk g_x11 39 [.int .i64 x015, .int .i64 x119, .int .i64 x216], .blk g_x10 39 [.int .i64 x016, .int .i64 x120, .int .i64 x217], .row 73 3 A6 x_P6.length c6 (cIII.all x_P6), .blk g_x3 49 [.int .i64 d_W, .int .i64 d_H, .slice A6 x_P6.length c6], .blk g_x2 49 [.int .i64 0, .int .i64 0, .slice none (([] : List (Int × Int × Int))).length 0], .blk g_x 24 [.int .i64 d_W, .int .i64 d_H, .slice A_d_P d_P.length c_d_P]]) h (fun _ _ => rfl) ⟨K.pick [1,2,4,5,6,7,8,9,10,11], M.pick [0,1,2,3,4,5] (by decide)⟩ ?_ ?_
              · clear K M h
                rintro ⟨x017, x121, x218, x018, x122, x219, i13⟩ a w ⟨K, M⟩ h
                try dsimp only at h
                refine inb_e ?_
                refine inb_n ?_
                refine then_n ?_
                refine X_reg ?_
                refine X_rd K (want_no rfl) rfl rfl (rd_move rfl K rfl) M ?_; clear K; intro a K
                refine X_rd K (want_no rfl) rfl rfl (rd_add rfl K rfl rfl) M ?_; clear K; intro a K
                obtain ⟨x52, hx, h⟩ := olet h
                refine X_rd K (want_no rfl) rfl rfl (rdi hx (rd_assign rfl K rfl)) M ?_; clear K; intro a K
                refine wpList_nil ?_
                exact then_n ⟨(x017, x121, x218, x018, x122, x219, x52), ⟨K.pick [1,2,4,5,6,7,8,9,10], M.pick [0,1,2,3,4,5] (by decide)⟩, h⟩
              · clear K M h
                rintro kk fuel ⟨x015, x119, x216, x016, x120, x217, i12⟩ a w hk4 ⟨K, M⟩ h
                unfold D_darkslideref_Filled_l4 at h
                refine wp_seq ?_
                refine wp_seq ?_
                refine X_reg ?_
                refine X_rd K (want_no rfl) rfl rfl (rd_move rfl K rfl) M ?_; clear K; intro a K
                refine X_rd K (want_no rfl) rfl rfl (rd_field rfl fld24_0 K rfl) M ?_; clear K; intro a K
                refine X_rd K (want_no rfl) rfl rfl (rd_ldC rfl sc3 K rfl (inM 5 rfl) rfl) M ?_; clear K; intro a K
                refine X_rd K (want_no rfl) rfl rfl (rd_sub rfl K rfl rfl) M ?_; clear K; intro a K
                refine X_rd K (want_no rfl) rfl rfl (rd_move rfl K rfl) M ?_; clear K; intro a K
                refine X_rd K (want_no rfl) rfl rfl (rd_add rfl K rfl rfl) M ?_; clear K; intro a K
                refine X_rd K (want_no rfl) rfl rfl (rd_min rfl K rfl rfl) M ?_; clear K; intro a K
                refine X_rd K (want_no rfl) rfl rfl (rd_leq rfl K rfl rfl) M ?_; clear K; intro a K
                refine wpList_nil ?_
                refine then_n ?_
                refine X_cond K rfl (fun hb => ?_) (fun hb => ?_)
                · have h := ctrue hb h
                  refine wp_skip ?_
                  refine then_n ?_
                  refine wp_seq ?_
                  refine wp_block ?_
                  refine wp_seq ?_
                  refine X_reg ?_
                  refine X_rd K (want_no rfl) rfl rfl (rd_move rfl K rfl) M ?_; clear K; intro a K
                  refine X_rd K (want_no rfl) rfl rfl (rd_move rfl K rfl) M ?_; clear K; intro a K
                  refine X_rd K (want_no rfl) rfl rfl (rd_move rfl K rfl) M ?_; clear K; intro a K
                  obtain ⟨r28, h_r28, h⟩ := obind h
                  refine X_ac K (want_no rfl) rfl rfl (ac_call (vs := [.int .i64 o, .int .i64 i12, .int .i64 i10]) (cap := []) rfl fok26 K rfl rfl (W_darkslideref_ColourAt N o i12 i10 _  r28 h_r28)) ?_
                  have M0 := M; clear K M; rintro _ a w ⟨rfl, M⟩ K
                  have M := M0.call M
                  clear M0
                  refine X_rd K (want_no rfl) rfl rfl (rd_assign rfl K rfl) M ?_; clear K; intro a K
                  refine wpList_nil ?_
                  refine then_n ?_
                  refine wp_seq ?_
                  refine wp_region_tl (fun w => Mem _ _ w _) [0,0,0,0,0,0,0,1,0,0,2] (by kernel_rfl) (by kernel_rfl) M.drew ?_
                  replace M := M.drew
                  refine T_rd K (want_no rfl) rfl rfl (rd_move rfl K rfl) ?_; clear K; intro a K
                  refine T_rd K (want_no rfl) rfl rfl (rd_move rfl K rfl) ?_; clear K; intro a K
                  rcases Bool.eq_false_or_eq_true (decide (r28 = 0)) with hb | hb
                  · have h := ctrue hb h
                    have hj9 : r28 = 0 := of_decide_eq_true hb
                    refine T_rd K (want_no rfl) rfl rfl (rdv (v := .pointer (some ⟨g_x10, 0, none⟩)) (by rw [hj9]; rfl) (rd_ixA rfl ar39 sz3 K rfl rfl (by rw [hj9]; decide) (by rw [hj9]; decide))) ?_; clear K; intro a K
                    refine T_rd K (want_no rfl) rfl rfl (rd_ldC rfl sc3 K rfl (inM 1 rfl) rfl) ?_; clear K; intro a K
                    refine T_rd K (want_no rfl) rfl rfl (rd_ldA rfl ty24 K rfl (inM 5 rfl) rfl rfl) ?_; clear K; intro a K
                    refine T_rd K (want_no rfl) rfl rfl (rd_move rfl K rfl) ?_; clear K; intro a K
                    refine T_rd K (want_no rfl) rfl rfl (rd_move rfl K rfl) ?_; clear K; intro a K
                    obtain ⟨r29, h_r29, h⟩ := obind h
                    refine T_ac K (want_no rfl) rfl rfl (ac_call (vs := [.agg #[.int .i64 d_W, .int .i64 d_H, .slice A_d_P d_P.length c_d_P], .int .i64 i12, .int .i64 i10]) (cap := []) rfl fok60 K rfl rfl (W_darkslideref_At N d_W d_H d_P A_d_P c_d_P i12 i10 _ ((inA R_d_P) _ M) C_d_P r29 h_r29)) ?_
                    have M0 := M; clear K M; rintro _ a w ⟨rfl, M⟩ K
                    have M := M0.call M
                    clear M0
                    refine ⟨M.pick [0,1,2,3,4,5] (by decide), ?_⟩
                    refine T_rd K (want_no rfl) rfl rfl (rd_add rfl K rfl rfl) ?_; clear K; intro a K
                    refine T_rd K (want_no rfl) rfl rfl (rdv (v := .pointer (some ⟨g_x10, 0, none⟩)) (by rw [hj9]; rfl) (rd_ixA rfl ar39 sz3 K rfl rfl (by rw [hj9]; decide) (by rw [hj9]; decide))) ?_; clear K; intro a K
                    refine T_a0z K (want_no rfl) rfl (ac_storeC rfl sc3 K rfl rfl rfl 1 M rfl rfl) ?_
                    have M0 := M; clear K M; rintro _ a w M K
                    clear M0
                    refine T_end ?_
                    refine then_n ?_
                    refine X_reg ?_
                    refine X_rd K (want_no rfl) rfl rfl (rd_move rfl K rfl) M ?_; clear K; intro a K
                    refine X_rd K (want_no rfl) rfl rfl (rdv (v := .pointer (some ⟨g_x11, 0, none⟩)) (by rw [hj9]; rfl) (rd_ixA rfl ar39 sz3 K rfl rfl (by rw [hj9]; decide) (by rw [hj9]; decide))) M ?_; clear K; intro a K
                    refine X_rd K (want_no rfl) rfl rfl (rd_ldC rfl sc3 K rfl (inM 0 rfl) rfl) M ?_; clear K; intro a K
                    refine X_rd K (want_no rfl) rfl rfl (rd_add rfl K rfl rfl) M ?_; clear K; intro a K
                    refine X_rd K (want_no rfl) rfl rfl (rdv (v := .pointer (some ⟨g_x11, 0, none⟩)) (by rw [hj9]; rfl) (rd_ixA rfl ar39 sz3 K rfl rfl (by rw [hj9]; decide) (by rw [hj9]; decide))) M ?_; clear K; intro a K
                    refine X_a0 K (want_no rfl) rfl (ac_storeC rfl sc3 K rfl rfl rfl 0 M rfl rfl) ?_
                    have M0 := M; clear K M; rintro _ a w M K
                    clear M0
                    refine wpList_nil ?_
                    refine inb_n ?_
                    refine then_n ?_
                    refine X_reg ?_
                    refine X_rd K (want_no rfl) rfl rfl (rd_move rfl K rfl) M ?_; clear K; intro a K
                    refine X_rd K (want_no rfl) rfl rfl (rd_add rfl K rfl rfl) M ?_; clear K; intro a K
                    obtain ⟨x49, hx, h⟩ := olet h
                    refine X_rd K (want_no rfl) rfl rfl (rdi hx (rd_assign rfl K rfl)) M ?_; clear K; intro a K
                    refine wpList_nil ?_
                    exact then_n ⟨(IntKind.i64.wrap (x015 + 1), x119, x216, IntKind.i64.wrap (x016 + r29), x120, x217, x49), ⟨K.pick [1,2,4,5,6,7,8,9,10,11], M.pick [0,1,2,3,4,5] (by decide)⟩, h⟩
                  · have h := cfalse hb h
                    rcases Bool.eq_false_or_eq_true (decide (r28 = 1)) with hb | hb
                    · have h := ctrue hb h
                      have hj9 : r28 = 1 := of_decide_eq_true hb
                      refine T_rd K (want_no rfl) rfl rfl (rdv (v := .pointer (some ⟨g_x10, 1, none⟩)) (by rw [hj9]; rfl) (rd_ixA rfl ar39 sz3 K rfl rfl (by rw [hj9]; decide) (by rw [hj9]; decide))) ?_; clear K; intro a K
                      refine T_rd K (want_no rfl) rfl rfl (rd_ldC rfl sc3 K rfl (inM 1 rfl) rfl) ?_; clear K; intro a K
                      refine T_rd K (want_no rfl) rfl rfl (rd_ldA rfl ty24 K rfl (inM 5 rfl) rfl rfl) ?_; clear K; intro a K
                      refine T_rd K (want_no rfl) rfl rfl (rd_move rfl K rfl) ?_; clear K; intro a K
                      refine T_rd K (want_no rfl) rfl rfl (rd_move rfl K rfl) ?_; clear K; intro a K
                      obtain ⟨r30, h_r30, h⟩ := obind h
                      refine T_ac K (want_no rfl) rfl rfl (ac_call (vs := [.agg #[.int .i64 d_W, .int .i64 d_H, .slice A_d_P d_P.length c_d_P], .int .i64 i12, .int .i64 i10]) (cap := []) rfl fok60 K rfl rfl (W_darkslideref_At N d_W d_H d_P A_d_P c_d_P i12 i10 _ ((inA R_d_P) _ M) C_d_P r30 h_r30)) ?_
                      have M0 := M; clear K M; rintro _ a w ⟨rfl, M⟩ K
                      have M := M0.call M
                      clear M0
                      refine ⟨M.pick [0,1,2,3,4,5] (by decide), ?_⟩
                      refine T_rd K (want_no rfl) rfl rfl (rd_add rfl K rfl rfl) ?_; clear K; intro a K
                      refine T_rd K (want_no rfl) rfl rfl (rdv (v := .pointer (some ⟨g_x10, 1, none⟩)) (by rw [hj9]; rfl) (rd_ixA rfl ar39 sz3 K rfl rfl (by rw [hj9]; decide) (by rw [hj9]; decide))) ?_; clear K; intro a K
                      refine T_a0z K (want_no rfl) rfl (ac_storeC rfl sc3 K rfl rfl rfl 1 M rfl rfl) ?_
                      have M0 := M; clear K M; rintro _ a w M K
                      clear M0
                      refine T_end ?_
                      refine then_n ?_
                      refine X_reg ?_
                      refine X_rd K (want_no rfl) rfl rfl (rd_move rfl K rfl) M ?_; clear K; intro a K
                      refine X_rd K (want_no rfl) rfl rfl (rdv (v := .pointer (some ⟨g_x11, 1, none⟩)) (by rw [hj9]; rfl) (rd_ixA rfl ar39 sz3 K rfl rfl (by rw [hj9]; decide) (by rw [hj9]; decide))) M ?_; clear K; intro a K
                      refine X_rd K (want_no rfl) rfl rfl (rd_ldC rfl sc3 K rfl (inM 0 rfl) rfl) M ?_; clear K; intro a K
                      refine X_rd K (want_no rfl) rfl rfl (rd_add rfl K rfl rfl) M ?_; clear K; intro a K
                      refine X_rd K (want_no rfl) rfl rfl (rdv (v := .pointer (some ⟨g_x11, 1, none⟩)) (by rw [hj9]; rfl) (rd_ixA rfl ar39 sz3 K rfl rfl (by rw [hj9]; decide) (by rw [hj9]; decide))) M ?_; clear K; intro a K
                      refine X_a0 K (want_no rfl) rfl (ac_storeC rfl sc3 K rfl rfl rfl 0 M rfl rfl) ?_
                      have M0 := M; clear K M; rintro _ a w M K
                      clear M0
                      refine wpList_nil ?_
                      refine inb_n ?_
                      refine then_n ?_
                      refine X_reg ?_
                      refine X_rd K (want_no rfl) rfl rfl (rd_move rfl K rfl) M ?_; clear K; intro a K
                      refine X_rd K (want_no rfl) rfl rfl (rd_add rfl K rfl rfl) M ?_; clear K; intro a K
                      obtain ⟨x50, hx, h⟩ := olet h
                      refine X_rd K (want_no rfl) rfl rfl (rdi hx (rd_assign rfl K rfl)) M ?_; clear K; intro a K
                      refine wpList_nil ?_
                      exact then_n ⟨(x015, IntKind.i64.wrap (x119 + 1), x216, x016, IntKind.i64.wrap (x120 + r30), x217, x50), ⟨K.pick [1,2,4,5,6,7,8,9,10,11], M.pick [0,1,2,3,4,5] (by decide)⟩, h⟩
                    · have h := cfalse hb h
                      rcases Bool.eq_false_or_eq_true (decide (r28 = 2)) with hb | hb
                      · have h := ctrue hb h
                        have hj9 : r28 = 2 := of_decide_eq_true hb
                        refine T_rd K (want_no rfl) rfl rfl (rdv (v := .pointer (some ⟨g_x10, 2, none⟩)) (by rw [hj9]; rfl) (rd_ixA rfl ar39 sz3 K rfl rfl (by rw [hj9]; decide) (by rw [hj9]; decide))) ?_; clear K; intro a K
                        refine T_rd K (want_no rfl) rfl rfl (rd_ldC rfl sc3 K rfl (inM 1 rfl) rfl) ?_; clear K; intro a K
                        refine T_rd K (want_no rfl) rfl rfl (rd_ldA rfl ty24 K rfl (inM 5 rfl) rfl rfl) ?_; clear K; intro a K
                        refine T_rd K (want_no rfl) rfl rfl (rd_move rfl K rfl) ?_; clear K; intro a K
                        refine T_rd K (want_no rfl) rfl rfl (rd_move rfl K rfl) ?_; clear K; intro a K
                        obtain ⟨r31, h_r31, h⟩ := obind h
                        refine T_ac K (want_no rfl) rfl rfl (ac_call (vs := [.agg #[.int .i64 d_W, .int .i64 d_H, .slice A_d_P d_P.length c_d_P], .int .i64 i12, .int .i64 i10]) (cap := []) rfl fok60 K rfl rfl (W_darkslideref_At N d_W d_H d_P A_d_P c_d_P i12 i10 _ ((inA R_d_P) _ M) C_d_P r31 h_r31)) ?_
                        have M0 := M; clear K M; rintro _ a w ⟨rfl, M⟩ K
                        have M := M0.call M
                        clear M0
                        refine ⟨M.pick [0,1,2,3,4,5] (by decide), ?_⟩
                        refine T_rd K (want_no rfl) rfl rfl (rd_add rfl K rfl rfl) ?_; clear K; intro a K
                        refine T_rd K (want_no rfl) rfl rfl (rdv (v := .pointer (some ⟨g_x10, 2, none⟩)) (by rw [hj9]; rfl) (rd_ixA rfl ar39 sz3 K rfl rfl (by rw [hj9]; decide) (by rw [hj9]; decide))) ?_; clear K; intro a K
                        refine T_a0z K (want_no rfl) rfl (ac_storeC rfl sc3 K rfl rfl rfl 1 M rfl rfl) ?_
                        have M0 := M; clear K M; rintro _ a w M K
                        clear M0
                        refine T_end ?_
                        refine then_n ?_
                        refine X_reg ?_
                        refine X_rd K (want_no rfl) rfl rfl (rd_move rfl K rfl) M ?_; clear K; intro a K
                        refine X_rd K (want_no rfl) rfl rfl (rdv (v := .pointer (some ⟨g_x11, 2, none⟩)) (by rw [hj9]; rfl) (rd_ixA rfl ar39 sz3 K rfl rfl (by rw [hj9]; decide) (by rw [hj9]; decide))) M ?_; clear K; intro a K
                        refine X_rd K (want_no rfl) rfl rfl (rd_ldC rfl sc3 K rfl (inM 0 rfl) rfl) M ?_; clear K; intro a K
                        refine X_rd K (want_no rfl) rfl rfl (rd_add rfl K rfl rfl) M ?_; clear K; intro a K
                        refine X_rd K (want_no rfl) rfl rfl (rdv (v := .pointer (some ⟨g_x11, 2, none⟩)) (by rw [hj9]; rfl) (rd_ixA rfl ar39 sz3 K rfl rfl (by rw [hj9]; decide) (by rw [hj9]; decide))) M ?_; clear K; intro a K
                        refine X_a0 K (want_no rfl) rfl (ac_storeC rfl sc3 K rfl rfl rfl 0 M rfl rfl) ?_
                        have M0 := M; clear K M; rintro _ a w M K
                        clear M0
                        refine wpList_nil ?_
                        refine inb_n ?_
                        refine then_n ?_
                        refine X_reg ?_
                        refine X_rd K (want_no rfl) rfl rfl (rd_move rfl K rfl) M ?_; clear K; intro a K
                        refine X_rd K (want_no rfl) rfl rfl (rd_add rfl K rfl rfl) M ?_; clear K; intro a K
                        obtain ⟨x51, hx, h⟩ := olet h
                        refine X_rd K (want_no rfl) rfl rfl (rdi hx (rd_assign rfl K rfl)) M ?_; clear K; intro a K
                        refine wpList_nil ?_
                        exact then_n ⟨(x015, x119, IntKind.i64.wrap (x216 + 1), x016, x120, IntKind.i64.wrap (x217 + r31), x51), ⟨K.pick [1,2,4,5,6,7,8,9,10,11], M.pick [0,1,2,3,4,5] (by decide)⟩, h⟩
                      · have h := cfalse hb h
                        cases h
                · have h := cfalse hb h
                  refine wp_exit ?_
                  refine then_e ?_
                  exact then_e (hk4 (x015, x119, x216, x016, x120, x217, i12) _ _ ⟨K.pick [1,2,4,5,6,7,8,9,10,11], M.pick [0,1,2,3,4,5] (by decide)⟩ h)
            · have h := cfalse hb h
              refine wp_exit ?_
              refine then_e ?_
              exact then_e (hk3 (x011, x115, x212, x012, x116, x213, i10) _ _ ⟨K.pick [1,2,4,5,6,7,8,9,10], M.pick [0,1,2,3,4,5] (by decide)⟩ h)
        · have h := cfalse hb h
          refine wp_exit ?_
          refine then_e ?_
          exact then_e (hk2 (x_P6, i6) _ _ ⟨A6, c6, K.pick [1,2,4,5,6,7], M.pick [0,1,2,3] (by decide)⟩ h)
    · have h := cfalse hb h
      refine wp_exit ?_
      refine then_e ?_
      exact then_e (hk1 (x_P, i) _ _ ⟨A, c, K.pick [1,2,4,5,6], M.pick [0,1,2,3] (by decide)⟩ h)

end Go.Proofs.Ytpmnfhifmmfglaa
