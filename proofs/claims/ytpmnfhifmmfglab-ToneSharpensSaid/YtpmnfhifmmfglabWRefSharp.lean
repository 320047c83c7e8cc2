/- Printed by a program (walk.py): the walks of darkslideref_Sharp: each function computes what its plain program tells. -/
import Derived.Test.YtpmnfhifmmfglabFacts
import Derived.Test.YtpmnfhifmmfglabDD
import Derived.Test.YtpmnfhifmmfglabWRefClamp
import Derived.Test.YtpmnfhifmmfglabWRefDown
import Derived.Test.YtpmnfhifmmfglabWRefParts
import Derived.Test.YtpmnfhifmmfglabWRefPixel
set_option linter.unusedVariables false
set_option linter.unusedSimpArgs false
set_option linter.unusedSectionVars false
namespace Go.Proofs.Ytpmnfhifmmfglab
open Go.RowKit

set_option maxRecDepth 100000 in
set_option maxHeartbeats 4000000 in
theorem W_darkslideref_Sharp (N : Nat) (d_W : Int) (d_H : Int) (d_P : List (Int × Int × Int)) (A_d_P : Option Addr) (c_d_P : Nat) (o : Int) (w0 : World) (R_d_P : SL w0 cIII A_d_P d_P) (C_d_P : d_P.length ≤ c_d_P) (r : Int × Int × List (Int × Int × Int)) (h : D_darkslideref_Sharp N d_W d_H d_P o = some r) :
    Calls Try.prog 12 #[.agg #[.int .i64 d_W, .int .i64 d_H, .slice A_d_P d_P.length c_d_P], .int .i64 o] w0 fun e w' => ∃ v, e = .returned v ∧ ∃ A2 c2, v = .agg #[.int .i64 r.1, .int .i64 r.2.1, .slice A2 r.2.2.length c2] ∧ Mem w0.heap.size w0 w' [.row 34 3 A2 r.2.2.length c2 (cIII.all r.2.2)] := by
  refine X_enter Try.func12 rfl Try.ntmps12 rfl ?_
  intro a K
  have M := Mem.start w0
  have K : Kn a 132 [(0, .agg #[.int .i64 d_W, .int .i64 d_H, .slice A_d_P d_P.length c_d_P]), (1, .int .i64 o)] := K
  unfold D_darkslideref_Sharp at h
  refine wp_seq ?_
  refine X_reg ?_
  refine X_ac K (want_no rfl) rfl rfl (ac_box rfl K rfl (cs := [.int .i64 d_W, .int .i64 d_H, .slice A_d_P d_P.length c_d_P]) rfl M) ?_
  have M0 := M; clear K M; rintro _ a w ⟨g_x, rfl, M⟩ K
  clear M0
  refine X_ac K (want_no rfl) rfl rfl (ac_alloc rfl z24 M) ?_
  have M0 := M; clear K M; rintro _ a w ⟨g_x2, rfl, M⟩ K
  clear M0
  refine wpList_nil ?_
  refine then_n ?_
  refine wp_seq ?_
  refine X_reg ?_
  refine X_rd K (want_no rfl) rfl rfl (rd_field rfl fld24_0 K rfl) M ?_; clear K; intro a K
  refine X_rd K (want_no rfl) rfl rfl (rd_ldC rfl sc3 K rfl (inM 1 rfl) rfl) M ?_; clear K; intro a K
  refine X_rd K (want_no rfl) rfl rfl (rd_field rfl fld24_1 K rfl) M ?_; clear K; intro a K
  refine X_rd K (want_no rfl) rfl rfl (rd_ldC rfl sc3 K rfl (inM 1 rfl) rfl) M ?_; clear K; intro a K
  refine X_rd K (want_no rfl) rfl rfl (rd_build rfl K (vs := [(0, .int .i64 d_W), (1, .int .i64 d_H)]) (cs := [.int .i64 d_W, .int .i64 d_H, .slice none (([] : List (Int × Int × Int))).length 0]) rfl (by kernel_rfl)) M ?_; clear K; intro a K
  refine X_ac K (want_no rfl) rfl rfl (ac_alloc rfl z24 M) ?_
  have M0 := M; clear K M; rintro _ a w ⟨g_x3, rfl, M⟩ K
  clear M0
  refine X_a0 K (want_no rfl) rfl (ac_storeA rfl ty24 K rfl (ds := [.int .i64 d_W, .int .i64 d_H, .slice none (([] : List (Int × Int × Int))).length 0]) rfl rfl 0 M rfl rfl rfl) ?_
  have M0 := M; clear K M; rintro _ a w M K
  clear M0
  refine wpList_nil ?_
  refine then_n ?_
  refine wp_seq ?_
  refine X_reg ?_
  refine X_rd K (want_no rfl) rfl rfl (rd_build rfl K (vs := [(0, .int .i64 1), (1, .int .i64 2), (2, .int .i64 1)]) (cs := [.int .i64 1, .int .i64 2, .int .i64 1]) rfl (by kernel_rfl)) M ?_; clear K; intro a K
  refine X_ac K (want_no rfl) rfl rfl (ac_alloc rfl z38 M) ?_
  have M0 := M; clear K M; rintro _ a w ⟨g_x4, rfl, M⟩ K
  clear M0
  refine X_a0 K (want_no rfl) rfl (ac_storeA rfl ty38 K rfl (ds := [.int .i64 1, .int .i64 2, .int .i64 1]) rfl rfl 0 M rfl rfl rfl) ?_
  have M0 := M; clear K M; rintro _ a w M K
  clear M0
  refine wpList_nil ?_
  refine then_n ?_
  refine wp_seq ?_
  refine wp_seq ?_
  refine X_reg ?_
  refine X_rd K (want_no rfl) rfl rfl (rd_assign rfl K rfl) M ?_; clear K; intro a K
  refine wpList_nil ?_
  refine then_n ?_
  refine wp_block ?_
  replace M := Mem.nilrow 34 3 cIII M
  refine X_lp (id := 0) (Rel := fun (⟨x_P, i⟩ : List (Int × Int × Int) × Int) a w => ∃ (A : Option Addr) (c : Nat), Kn a 132 [(1, .int .i64 o), (2, .pointer (some ⟨g_x, 0, none⟩)), (4, .pointer (some ⟨g_x2, 0, none⟩)), (5, .pointer (some ⟨g_x3, 0, none⟩)), (6, .pointer (some ⟨g_x4, 0, none⟩)), (7, .int .i64 i)] ∧ Mem w0.heap.size w0 w [.row 34 3 A x_P.length c (cIII.all x_P), .blk g_x4 38 [.int .i64 1, .int .i64 2, .int .i64 1], .blk g_x3 24 [.int .i64 d_W, .int .i64 d_H, .slice A x_P.length c], .blk g_x2 24 [.int .i64 0, .int .i64 0, .slice none (([] : List (Int × Int × Int))).length 0], .blk g_x 24 [.int .i64 d_W, .int .i64 d_H, .slice A_d_P d_P.length c_d_P]]) h (fun _ _ => rfl) ⟨none, 0, K.pick [1,2,4,5,6,7], M.pick [0,1,2,3,4] (by decide)⟩ ?_ ?_
  · clear K M h
    rintro ⟨x_P8, i24⟩ a w ⟨A8, c8, K, M⟩ h
    try dsimp only at h
    refine inb_e ?_
    refine then_n ?_
    refine wp_seq ?_
    refine X_reg ?_
    refine X_rd K (want_no rfl) rfl rfl (rd_ldA rfl ty24 K rfl (inM 2 rfl) rfl rfl) M ?_; clear K; intro a K
    refine X_a0 K (want_no rfl) rfl (ac_storeA rfl ty24 K rfl (ds := [.int .i64 d_W, .int .i64 d_H, .slice A8 x_P8.length c8]) rfl rfl 3 M rfl rfl rfl) ?_
    have M0 := M; clear K M; rintro _ a w M K
    clear M0
    refine wpList_nil ?_
    refine then_n ?_
    refine wp_ret ?_
    cases h
    exact ret1 K rfl (res_cellA K rfl ty24 (M.blkAt (i := 3) rfl) rfl) ⟨_, rfl, _, _, rfl, ((M).pick [0] (by decide))⟩
  · clear K M h
    rintro kk fuel ⟨x_P, i⟩ a w hk1 ⟨A, c, K, M⟩ h
    unfold D_darkslideref_Sharp_l1 at h
    refine wp_seq ?_
    refine wp_seq ?_
    refine X_reg ?_
    refine X_rd K (want_no rfl) rfl rfl (rd_move rfl K rfl) M ?_; clear K; intro a K
    refine X_rd K (want_no rfl) rfl rfl (rd_field rfl fld24_1 K rfl) M ?_; clear K; intro a K
    refine X_rd K (want_no rfl) rfl rfl (rd_ldC rfl sc3 K rfl (inM 4 rfl) rfl) M ?_; clear K; intro a K
    refine X_rd K (want_no rfl) rfl rfl (rd_lss rfl K rfl rfl) M ?_; clear K; intro a K
    refine wpList_nil ?_
    refine then_n ?_
    refine X_cond K rfl (fun hb => ?_) (fun hb => ?_)
    · have h := ctrue hb h
      refine wp_skip ?_
      refine then_n ?_
      refine wp_seq ?_
      refine wp_block ?_
      refine wp_seq ?_
      refine X_reg ?_
      refine X_rd K (want_no rfl) rfl rfl (rd_assign rfl K rfl) M ?_; clear K; intro a K
      refine wpList_nil ?_
      refine then_n ?_
      refine wp_block ?_
      refine X_lp (id := 2) (Rel := fun (⟨x_P4, i7⟩ : List (Int × Int × Int) × Int) a w => ∃ (A4 : Option Addr) (c4 : Nat), Kn a 132 [(1, .int .i64 o), (2, .pointer (some ⟨g_x, 0, none⟩)), (4, .pointer (some ⟨g_x2, 0, none⟩)), (5, .pointer (some ⟨g_x3, 0, none⟩)), (6, .pointer (some ⟨g_x4, 0, none⟩)), (7, .int .i64 i), (8, .int .i64 i7)] ∧ Mem w0.heap.size w0 w [.row 34 3 A4 x_P4.length c4 (cIII.all x_P4), .blk g_x4 38 [.int .i64 1, .int .i64 2, .int .i64 1], .blk g_x3 24 [.int .i64 d_W, .int .i64 d_H, .slice A4 x_P4.length c4], .blk g_x2 24 [.int .i64 0, .int .i64 0, .slice none (([] : List (Int × Int × Int))).length 0], .blk g_x 24 [.int .i64 d_W, .int .i64 d_H, .slice A_d_P d_P.length c_d_P]]) h (fun _ _ => rfl) ⟨A, c, K.pick [1,2,4,5,6,7,8], M.pick [0,1,2,3,4] (by decide)⟩ ?_ ?_
      · clear K M h
        rintro ⟨x_P7, i23⟩ a w ⟨A7, c7, K, M⟩ h
        try dsimp only at h
        refine inb_e ?_
        refine inb_n ?_
        refine then_n ?_
        refine X_reg ?_
        refine X_rd K (want_no rfl) rfl rfl (rd_move rfl K rfl) M ?_; clear K; intro a K
        refine X_rd K (want_no rfl) rfl rfl (rd_add rfl K rfl rfl) M ?_; clear K; intro a K
        obtain ⟨x62, hx, h⟩ := olet h
        refine X_rd K (want_no rfl) rfl rfl (rdi hx (rd_assign rfl K rfl)) M ?_; clear K; intro a K
        refine wpList_nil ?_
        exact then_n ⟨(x_P7, x62), ⟨A7, c7, K.pick [1,2,4,5,6,7], M.pick [0,1,2,3,4] (by decide)⟩, h⟩
      · clear K M h
        rintro kk fuel ⟨x_P4, i7⟩ a w hk2 ⟨A4, c4, K, M⟩ h
        unfold D_darkslideref_Sharp_l2 at h
        refine wp_seq ?_
        refine wp_seq ?_
        refine X_reg ?_
        refine X_rd K (want_no rfl) rfl rfl (rd_move rfl K rfl) M ?_; clear K; intro a K
        refine X_rd K (want_no rfl) rfl rfl (rd_field rfl fld24_0 K rfl) M ?_; clear K; intro a K
        refine X_rd K (want_no rfl) rfl rfl (rd_ldC rfl sc3 K rfl (inM 4 rfl) rfl) M ?_; clear K; intro a K
        refine X_rd K (want_no rfl) rfl rfl (rd_lss rfl K rfl rfl) M ?_; clear K; intro a K
        refine wpList_nil ?_
        refine then_n ?_
        refine X_cond K rfl (fun hb => ?_) (fun hb => ?_)
        · have h := ctrue hb h
          refine wp_skip ?_
          refine then_n ?_
          refine wp_seq ?_
          refine wp_block ?_
          refine wp_seq ?_
          refine X_reg ?_
          refine X_rd K (want_no rfl) rfl rfl (rd_field rfl fld24_2 K rfl) M ?_; clear K; intro a K
          refine X_rd K (want_no rfl) rfl rfl (rd_ldC rfl sc22 K rfl (inM 4 rfl) rfl) M ?_; clear K; intro a K
          refine X_rd K (want_no rfl) rfl rfl (rd_move rfl K rfl) M ?_; clear K; intro a K
          refine X_rd K (want_no rfl) rfl rfl (rd_field rfl fld24_0 K rfl) M ?_; clear K; intro a K
          refine X_rd K (want_no rfl) rfl rfl (rd_ldC rfl sc3 K rfl (inM 4 rfl) rfl) M ?_; clear K; intro a K
          refine X_rd K (want_no rfl) rfl rfl (rd_mul rfl K rfl rfl) M ?_; clear K; intro a K
          refine X_rd K (want_no rfl) rfl rfl (rd_move rfl K rfl) M ?_; clear K; intro a K
          refine X_rd K (want_no rfl) rfl rfl (rd_add rfl K rfl rfl) M ?_; clear K; intro a K
          obtain ⟨e27, h_e27, h⟩ := obind h
          refine X_rd K (want_no rfl) rfl rfl (rd_ix rfl sl22 K rfl rfl (inA R_d_P) h_e27) M ?_; clear K; intro a K
          refine X_rd K (want_no rfl) rfl rfl (rd_elA rfl ty34 K rfl rfl rfl (inA R_d_P) h_e27) M ?_; clear K; intro a K
          obtain ⟨r20, h_r20, h⟩ := obind h
          refine X_ac K (want_no rfl) rfl rfl (ac_call (vs := [.agg #[.int .i64 e27.1, .int .i64 e27.2.1, .int .i64 e27.2.2]]) (cap := []) rfl fok31 K rfl rfl (W_darkslideref_parts N e27.1 e27.2.1 e27.2.2 _  r20 h_r20)) ?_
          have M0 := M; clear K M; rintro _ a w ⟨rfl, M⟩ K
          have M := M0.call M
          clear M0
          refine X_ac K (want_no rfl) rfl rfl (ac_alloc rfl z38 M) ?_
          have M0 := M; clear K M; rintro _ a w ⟨g_x13, rfl, M⟩ K
          clear M0
          refine X_a0 K (want_no rfl) rfl (ac_storeA rfl ty38 K rfl (ds := [.int .i64 r20.1, .int .i64 r20.2.1, .int .i64 r20.2.2]) rfl rfl 0 M rfl rfl rfl) ?_
          have M0 := M; clear K M; rintro _ a w M K
          clear M0
          refine wpList_nil ?_
          refine then_n ?_
          refine wp_seq ?_
          refine X_reg ?_
          refine X_ac K (want_no rfl) rfl rfl (ac_alloc rfl z38 M) ?_
          have M0 := M; clear K M; rintro _ a w ⟨g_x14, rfl, M⟩ K
          clear M0
          refine X_ac K (want_no rfl) rfl rfl (ac_alloc rfl z38 M) ?_
          have M0 := M; clear K M; rintro _ a w ⟨g_x15, rfl, M⟩ K
          clear M0
          refine wpList_nil ?_
          refine then_n ?_
          refine wp_seq ?_
          refine wp_seq ?_
          refine X_reg ?_
          refine X_rd K (want_no rfl) rfl rfl (rd_assign rfl K rfl) M ?_; clear K; intro a K
          refine wpList_nil ?_
          refine then_n ?_
          refine wp_block ?_
          refine X_lp (id := 4) (Rel := fun (⟨x09, x112, x211, i12⟩ : Int × Int × Int × Int) a w => Kn a 132 [(1, .int .i64 o), (2, .pointer (some ⟨g_x, 0, none⟩)), (4, .pointer (some ⟨g_x2, 0, none⟩)), (5, .pointer (some ⟨g_x3, 0, none⟩)), (6, .pointer (some ⟨g_x4, 0, none⟩)), (7, .int .i64 i), (8, .int .i64 i7), (9, .pointer (some ⟨g_x13, 0, none⟩)), (10, .pointer (some ⟨g_x14, 0, none⟩)), (11, .pointer (some ⟨g_x15, 0, none⟩)), (12, .int .i64 i12)] ∧ Mem w0.heap.size w0 w [.blk g_x15 38 [.int .i64 0, .int .i64 0, .int .i64 0], .blk g_x14 38 [.int .i64 x09, .int .i64 x112, .int .i64 x211], .blk g_x13 38 [.int .i64 r20.1, .int .i64 r20.2.1, .int .i64 r20.2.2], .row 34 3 A4 x_P4.length c4 (cIII.all x_P4), .blk g_x4 38 [.int .i64 1, .int .i64 2, .int .i64 1], .blk g_x3 24 [.int .i64 d_W, .int .i64 d_H, .slice A4 x_P4.length c4], .blk g_x2 24 [.int .i64 0, .int .i64 0, .slice none (([] : List (Int × Int × Int))).length 0], .blk g_x 24 [.int .i64 d_W, .int .i64 d_H, .slice A_d_P d_P.length c_d_P]]) h (fun _ _ => rfl) ⟨K.pick [1,2,4,5,6,7,8,9,10,11,12], M.pick [0,1,2,3,4,5,6,7] (by decide)⟩ ?_ ?_
          · clear K M h
            rintro ⟨x017, x120, x219, i20⟩ a w ⟨K, M⟩ h
            try dsimp only at h
            refine inb_e ?_
            refine then_n ?_
            refine wp_seq ?_
            refine wp_seq ?_
            refine X_reg ?_
            refine X_rd K (want_no rfl) rfl rfl (rd_assign rfl K rfl) M ?_; clear K; intro a K
            refine wpList_nil ?_
            refine then_n ?_
            refine wp_block ?_
            refine X_lp (id := 10) (Rel := fun (⟨x018, x121, x220, i21⟩ : Int × Int × Int × Int) a w => Kn a 132 [(1, .int .i64 o), (2, .pointer (some ⟨g_x, 0, none⟩)), (4, .pointer (some ⟨g_x2, 0, none⟩)), (5, .pointer (some ⟨g_x3, 0, none⟩)), (6, .pointer (some ⟨g_x4, 0, none⟩)), (7, .int .i64 i), (8, .int .i64 i7), (9, .pointer (some ⟨g_x13, 0, none⟩)), (10, .pointer (some ⟨g_x14, 0, none⟩)), (11, .pointer (some ⟨g_x15, 0, none⟩)), (16, .int .i64 i21)] ∧ Mem w0.heap.size w0 w [.blk g_x15 38 [.int .i64 x018, .int .i64 x121, .int .i64 x220], .blk g_x14 38 [.int .i64 x017, .int .i64 x120, .int .i64 x219], .blk g_x13 38 [.int .i64 r20.1, .int .i64 r20.2.1, .int .i64 r20.2.2], .row 34 3 A4 x_P4.length c4 (cIII.all x_P4), .blk g_x4 38 [.int .i64 1, .int .i64 2, .int .i64 1], .blk g_x3 24 [.int .i64 d_W, .int .i64 d_H, .slice A4 x_P4.length c4], .blk g_x2 24 [.int .i64 0, .int .i64 0, .slice none (([] : List (Int × Int × Int))).length 0], .blk g_x 24 [.int .i64 d_W, .int .i64 d_H, .slice A_d_P d_P.length c_d_P]]) h (fun _ _ => rfl) ⟨K.pick [1,2,4,5,6,7,8,9,10,11,16], M.pick [0,1,2,3,4,5,6,7] (by decide)⟩ ?_ ?_
            · clear K M h
              rintro ⟨x019, x122, x221, i22⟩ a w ⟨K, M⟩ h
              try dsimp only at h
              refine inb_e ?_
              refine then_n ?_
              refine wp_region_tl (fun w => Mem _ _ w _) [0,0,0,1,1,1,0,2] (by kernel_rfl) (by kernel_rfl) (M.pick [0,1,2,4,5,6,7] (by decide)).drew ?_
              replace M := M.drew
              refine T_rd K (want_no rfl) rfl rfl (rd_field rfl fld24_2 K rfl) ?_; clear K; intro a K
              refine T_rd K (want_no rfl) rfl rfl (rd_ldC rfl sc22 K rfl (inM 4 rfl) rfl) ?_; clear K; intro a K
              refine T_rd K (want_no rfl) rfl rfl (rd_ldA rfl ty38 K rfl (inM 0 rfl) rfl rfl) ?_; clear K; intro a K
              obtain ⟨r36, h_r36, h⟩ := obind h
              refine T_ac K (want_no rfl) rfl rfl (ac_call (vs := [.agg #[.int .i64 x019, .int .i64 x122, .int .i64 x221]]) (cap := []) rfl fok34 K rfl rfl (W_darkslideref_pixel N x019 x122 x221 _  r36 h_r36)) ?_
              have M0 := M; clear K M; rintro _ a w ⟨rfl, M⟩ K
              have M := M0.call M
              clear M0
              refine ⟨M.pick [0,1,2,4,5,6,7] (by decide), ?_⟩
              refine T_ac K (want_no rfl) rfl rfl (ac_bslice rfl sl22 z34 K (vs := [(0, .agg #[.int .i64 r36.1, .int .i64 r36.2.1, .int .i64 r36.2.2])]) (cs := [.int .i64 r36.1, .int .i64 r36.2.1, .int .i64 r36.2.2]) rfl (by kernel_rfl) rfl rfl M) ?_
              have M0 := M; clear K M; rintro _ a w ⟨gs3, rfl, M⟩ K
              replace M := M.asRow 0 rfl cIII ([(r36.1, r36.2.1, r36.2.2)] : List (Int × Int × Int)) (n := 1) rfl rfl rfl
              clear M0
              refine ⟨M.pick [1,2,3,5,6,7,8] (by decide), ?_⟩
              obtain ⟨x_P6, h_x_P6, h⟩ := obind h
              refine T_ac K (want_no rfl) rfl rfl (ac_app (C := cIII) (xs := x_P4) (ys := ([(r36.1, r36.2.1, r36.2.2)] : List (Int × Int × Int))) rfl sl22 rfl z34 rfl rfl K rfl rfl 4 M rfl ((inR (C := cIII) 0 rfl rfl) _ M) h_x_P6) ?_
              have M0 := M; clear K M; rintro _ a w ⟨A6, c6, rfl, M⟩ K
              clear M0
              refine ⟨M.pick [1,2,3,5,6,7,8] (by decide), ?_⟩
              refine T_rd K (want_no rfl) rfl rfl (rd_field rfl fld24_2 K rfl) ?_; clear K; intro a K
              refine T_a0z K (want_no rfl) rfl (ac_storeC rfl sc22 K rfl rfl rfl 6 M rfl rfl) ?_
              have M0 := M; clear K M; rintro _ a w M K
              clear M0
              refine T_end ?_
              refine inb_n ?_
              refine then_n ?_
              refine X_reg ?_
              refine X_rd K (want_no rfl) rfl rfl (rd_move rfl K rfl) M ?_; clear K; intro a K
              refine X_rd K (want_no rfl) rfl rfl (rd_add rfl K rfl rfl) M ?_; clear K; intro a K
              obtain ⟨x61, hx, h⟩ := olet h
              refine X_rd K (want_no rfl) rfl rfl (rdi hx (rd_assign rfl K rfl)) M ?_; clear K; intro a K
              refine wpList_nil ?_
              exact then_n ⟨(x_P6, x61), ⟨A6, c6, K.pick [1,2,4,5,6,7,8], M.pick [4,5,6,7,8] (by decide)⟩, h⟩
            · clear K M h
              rintro kk fuel ⟨x018, x121, x220, i21⟩ a w hk6 ⟨K, M⟩ h
              unfold D_darkslideref_Sharp_l6 at h
              refine wp_seq ?_
              refine wp_seq ?_
              refine X_reg ?_
              refine X_rd K (want_no rfl) rfl rfl (rd_move rfl K rfl) M ?_; clear K; intro a K
              refine X_rd K (want_no rfl) rfl rfl (rd_lss rfl K rfl rfl) M ?_; clear K; intro a K
              refine wpList_nil ?_
              refine then_n ?_
              refine X_cond K rfl (fun hb => ?_) (fun hb => ?_)
              · have h := ctrue hb h
                refine wp_skip ?_
                refine then_n ?_
                refine wp_seq ?_
                refine wp_block ?_
                refine wp_region_tl (fun w => Mem _ _ w _) [0,0,0,0,0,0,0,0,0,0,0,0,0,0,1,0,1,0,2] (by kernel_rfl) (by kernel_rfl) M.drew ?_
                replace M := M.drew
                refine T_rd K (want_no rfl) rfl rfl (rd_move rfl K rfl) ?_; clear K; intro a K
                refine T_rd K (want_no rfl) rfl rfl (rd_move rfl K rfl) ?_; clear K; intro a K
                obtain ⟨_, h0, h⟩ := obind h
                have h0 := inr_spec h0
                refine T_rd K (want_no rfl) rfl rfl (rd_ixA rfl ar38 sz3 K rfl rfl h0.1 h0.2) ?_; clear K; intro a K
                obtain ⟨e69, h_e69, h⟩ := obind h
                refine T_rd K (want_no rfl) rfl rfl (rd_ldIa rfl sc3 K rfl (inM 2 rfl) rfl rfl h_e69) ?_; clear K; intro a K
                refine T_rd K (want_no rfl) rfl rfl (rd_move rfl K rfl) ?_; clear K; intro a K
                obtain ⟨_, h0, h⟩ := obind h
                have h0 := inr_spec h0
                refine T_rd K (want_no rfl) rfl rfl (rd_ixA rfl ar38 sz3 K rfl rfl h0.1 h0.2) ?_; clear K; intro a K
                obtain ⟨e70, h_e70, h⟩ := obind h
                refine T_rd K (want_no rfl) rfl rfl (rd_ldIa rfl sc3 K rfl (inM 2 rfl) rfl rfl h_e70) ?_; clear K; intro a K
                refine T_rd K (want_no rfl) rfl rfl (rd_move rfl K rfl) ?_; clear K; intro a K
                rcases Bool.eq_false_or_eq_true (decide (i21 = 0)) with hb | hb
                · have h := ctrue hb h
                  have hj10 : i21 = 0 := of_decide_eq_true hb
                  refine T_rd K (want_no rfl) rfl rfl (rdv (v := .pointer (some ⟨g_x14, 0, none⟩)) (by rw [hj10]; rfl) (rd_ixA rfl ar38 sz3 K rfl rfl (by rw [hj10]; decide) (by rw [hj10]; decide))) ?_; clear K; intro a K
                  refine T_rd K (want_no rfl) rfl rfl (rd_ldC rfl sc3 K rfl (inM 1 rfl) rfl) ?_; clear K; intro a K
                  refine T_rd K (want_no rfl) rfl rfl (rd_quo rfl K rfl rfl (by decide)) ?_; clear K; intro a K
                  refine T_rd K (want_no rfl) rfl rfl (rd_sub rfl K rfl rfl) ?_; clear K; intro a K
                  refine T_rd K (want_no rfl) rfl rfl (rd_move rfl K rfl) ?_; clear K; intro a K
                  refine T_rd K (want_no rfl) rfl rfl (rd_mul rfl K rfl rfl) ?_; clear K; intro a K
                  obtain ⟨r30, h_r30, h⟩ := obind h
                  refine T_ac K (want_no rfl) rfl rfl (ac_call (vs := [.int .i64 (IntKind.i64.wrap ((IntKind.i64.wrap (e70 - (IntKind.i64.wrap (Int.tdiv x017 16)))) * o)), .int .i64 256]) (cap := []) rfl fok33 K rfl rfl (W_darkslideref_down N (IntKind.i64.wrap ((IntKind.i64.wrap (e70 - (IntKind.i64.wrap (Int.tdiv x017 16)))) * o)) 256 _  r30 h_r30)) ?_
                  have M0 := M; clear K M; rintro _ a w ⟨rfl, M⟩ K
                  have M := M0.call M
                  clear M0
                  refine ⟨M.pick [0,1,2,3,4,5,6,7] (by decide), ?_⟩
                  refine T_rd K (want_no rfl) rfl rfl (rd_add rfl K rfl rfl) ?_; clear K; intro a K
                  obtain ⟨r31, h_r31, h⟩ := obind h
                  refine T_ac K (want_no rfl) rfl rfl (ac_call (vs := [.int .i64 (IntKind.i64.wrap (e69 + r30))]) (cap := []) rfl fok32 K rfl rfl (W_darkslideref_clamp N (IntKind.i64.wrap (e69 + r30)) _  r31 h_r31)) ?_
                  have M0 := M; clear K M; rintro _ a w ⟨rfl, M⟩ K
                  have M := M0.call M
                  clear M0
                  refine ⟨M.pick [0,1,2,3,4,5,6,7] (by decide), ?_⟩
                  refine T_rd K (want_no rfl) rfl rfl (rdv (v := .pointer (some ⟨g_x15, 0, none⟩)) (by rw [hj10]; rfl) (rd_ixA rfl ar38 sz3 K rfl rfl (by rw [hj10]; decide) (by rw [hj10]; decide))) ?_; clear K; intro a K
                  refine T_a0z K (want_no rfl) rfl (ac_storeC rfl sc3 K rfl rfl rfl 0 M rfl rfl) ?_
                  have M0 := M; clear K M; rintro _ a w M K
                  clear M0
                  refine T_end ?_
                  refine inb_n ?_
                  refine then_n ?_
                  refine X_reg ?_
                  refine X_rd K (want_no rfl) rfl rfl (rd_move rfl K rfl) M ?_; clear K; intro a K
                  refine X_rd K (want_no rfl) rfl rfl (rd_add rfl K rfl rfl) M ?_; clear K; intro a K
                  obtain ⟨x58, hx, h⟩ := olet h
                  refine X_rd K (want_no rfl) rfl rfl (rdi hx (rd_assign rfl K rfl)) M ?_; clear K; intro a K
                  refine wpList_nil ?_
                  exact then_n ⟨(r31, x121, x220, x58), ⟨K.pick [1,2,4,5,6,7,8,9,10,11,16], M.pick [0,1,2,3,4,5,6,7] (by decide)⟩, h⟩
                · have h := cfalse hb h
                  rcases Bool.eq_false_or_eq_true (decide (i21 = 1)) with hb | hb
                  · have h := ctrue hb h
                    have hj10 : i21 = 1 := of_decide_eq_true hb
                    refine T_rd K (want_no rfl) rfl rfl (rdv (v := .pointer (some ⟨g_x14, 1, none⟩)) (by rw [hj10]; rfl) (rd_ixA rfl ar38 sz3 K rfl rfl (by rw [hj10]; decide) (by rw [hj10]; decide))) ?_; clear K; intro a K
                    refine T_rd K (want_no rfl) rfl rfl (rd_ldC rfl sc3 K rfl (inM 1 rfl) rfl) ?_; clear K; intro a K
                    refine T_rd K (want_no rfl) rfl rfl (rd_quo rfl K rfl rfl (by decide)) ?_; clear K; intro a K
                    refine T_rd K (want_no rfl) rfl rfl (rd_sub rfl K rfl rfl) ?_; clear K; intro a K
                    refine T_rd K (want_no rfl) rfl rfl (rd_move rfl K rfl) ?_; clear K; intro a K
                    refine T_rd K (want_no rfl) rfl rfl (rd_mul rfl K rfl rfl) ?_; clear K; intro a K
                    obtain ⟨r32, h_r32, h⟩ := obind h
                    refine T_ac K (want_no rfl) rfl rfl (ac_call (vs := [.int .i64 (IntKind.i64.wrap ((IntKind.i64.wrap (e70 - (IntKind.i64.wrap (Int.tdiv x120 16)))) * o)), .int .i64 256]) (cap := []) rfl fok33 K rfl rfl (W_darkslideref_down N (IntKind.i64.wrap ((IntKind.i64.wrap (e70 - (IntKind.i64.wrap (Int.tdiv x120 16)))) * o)) 256 _  r32 h_r32)) ?_
                    have M0 := M; clear K M; rintro _ a w ⟨rfl, M⟩ K
                    have M := M0.call M
                    clear M0
                    refine ⟨M.pick [0,1,2,3,4,5,6,7] (by decide), ?_⟩
                    refine T_rd K (want_no rfl) rfl rfl (rd_add rfl K rfl rfl) ?_; clear K; intro a K
                    obtain ⟨r33, h_r33, h⟩ := obind h
                    refine T_ac K (want_no rfl) rfl rfl (ac_call (vs := [.int .i64 (IntKind.i64.wrap (e69 + r32))]) (cap := []) rfl fok32 K rfl rfl (W_darkslideref_clamp N (IntKind.i64.wrap (e69 + r32)) _  r33 h_r33)) ?_
                    have M0 := M; clear K M; rintro _ a w ⟨rfl, M⟩ K
                    have M := M0.call M
                    clear M0
                    refine ⟨M.pick [0,1,2,3,4,5,6,7] (by decide), ?_⟩
                    refine T_rd K (want_no rfl) rfl rfl (rdv (v := .pointer (some ⟨g_x15, 1, none⟩)) (by rw [hj10]; rfl) (rd_ixA rfl ar38 sz3 K rfl rfl (by rw [hj10]; decide) (by rw [hj10]; decide))) ?_; clear K; intro a K
                    refine T_a0z K (want_no rfl) rfl (ac_storeC rfl sc3 K rfl rfl rfl 0 M rfl rfl) ?_
                    have M0 := M; clear K M; rintro _ a w M K
                    clear M0
                    refine T_end ?_
                    refine inb_n ?_
                    refine then_n ?_
                    refine X_reg ?_
                    refine X_rd K (want_no rfl) rfl rfl (rd_move rfl K rfl) M ?_; clear K; intro a K
                    refine X_rd K (want_no rfl) rfl rfl (rd_add rfl K rfl rfl) M ?_; clear K; intro a K
                    obtain ⟨x59, hx, h⟩ := olet h
                    refine X_rd K (want_no rfl) rfl rfl (rdi hx (rd_assign rfl K rfl)) M ?_; clear K; intro a K
                    refine wpList_nil ?_
                    exact then_n ⟨(x018, r33, x220, x59), ⟨K.pick [1,2,4,5,6,7,8,9,10,11,16], M.pick [0,1,2,3,4,5,6,7] (by decide)⟩, h⟩
                  · have h := cfalse hb h
                    rcases Bool.eq_false_or_eq_true (decide (i21 = 2)) with hb | hb
                    · have h := ctrue hb h
                      have hj10 : i21 = 2 := of_decide_eq_true hb
                      refine T_rd K (want_no rfl) rfl rfl (rdv (v := .pointer (some ⟨g_x14, 2, none⟩)) (by rw [hj10]; rfl) (rd_ixA rfl ar38 sz3 K rfl rfl (by rw [hj10]; decide) (by rw [hj10]; decide))) ?_; clear K; intro a K
                      refine T_rd K (want_no rfl) rfl rfl (rd_ldC rfl sc3 K rfl (inM 1 rfl) rfl) ?_; clear K; intro a K
                      refine T_rd K (want_no rfl) rfl rfl (rd_quo rfl K rfl rfl (by decide)) ?_; clear K; intro a K
                      refine T_rd K (want_no rfl) rfl rfl (rd_sub rfl K rfl rfl) ?_; clear K; intro a K
                      refine T_rd K (want_no rfl) rfl rfl (rd_move rfl K rfl) ?_; clear K; intro a K
                      refine T_rd K (want_no rfl) rfl rfl (rd_mul rfl K rfl rfl) ?_; clear K; intro a K
                      obtain ⟨r34, h_r34, h⟩ := obind h
                      refine T_ac K (want_no rfl) rfl rfl (ac_call (vs := [.int .i64 (IntKind.i64.wrap ((IntKind.i64.wrap (e70 - (IntKind.i64.wrap (Int.tdiv x219 16)))) * o)), .int .i64 256]) (cap := []) rfl fok33 K rfl rfl (W_darkslideref_down N (IntKind.i64.wrap ((IntKind.i64.wrap (e70 - (IntKind.i64.wrap (Int.tdiv x219 16)))) * o)) 256 _  r34 h_r34)) ?_
                      have M0 := M; clear K M; rintro _ a w ⟨rfl, M⟩ K
                      have M := M0.call M
                      clear M0
                      refine ⟨M.pick [0,1,2,3,4,5,6,7] (by decide), ?_⟩
                      refine T_rd K (want_no rfl) rfl rfl (rd_add rfl K rfl rfl) ?_; clear K; intro a K
                      obtain ⟨r35, h_r35, h⟩ := obind h
                      refine T_ac K (want_no rfl) rfl rfl (ac_call (vs := [.int .i64 (IntKind.i64.wrap (e69 + r34))]) (cap := []) rfl fok32 K rfl rfl (W_darkslideref_clamp N (IntKind.i64.wrap (e69 + r34)) _  r35 h_r35)) ?_
                      have M0 := M; clear K M; rintro _ a w ⟨rfl, M⟩ K
                      have M := M0.call M
                      clear M0
                      refine ⟨M.pick [0,1,2,3,4,5,6,7] (by decide), ?_⟩
                      refine T_rd K (want_no rfl) rfl rfl (rdv (v := .pointer (some ⟨g_x15, 2, none⟩)) (by rw [hj10]; rfl) (rd_ixA rfl ar38 sz3 K rfl rfl (by rw [hj10]; decide) (by rw [hj10]; decide))) ?_; clear K; intro a K
                      refine T_a0z K (want_no rfl) rfl (ac_storeC rfl sc3 K rfl rfl rfl 0 M rfl rfl) ?_
                      have M0 := M; clear K M; rintro _ a w M K
                      clear M0
                      refine T_end ?_
                      refine inb_n ?_
                      refine then_n ?_
                      refine X_reg ?_
                      refine X_rd K (want_no rfl) rfl rfl (rd_move rfl K rfl) M ?_; clear K; intro a K
                      refine X_rd K (want_no rfl) rfl rfl (rd_add rfl K rfl rfl) M ?_; clear K; intro a K
                      obtain ⟨x60, hx, h⟩ := olet h
                      refine X_rd K (want_no rfl) rfl rfl (rdi hx (rd_assign rfl K rfl)) M ?_; clear K; intro a K
                      refine wpList_nil ?_
                      exact then_n ⟨(x018, x121, r35, x60), ⟨K.pick [1,2,4,5,6,7,8,9,10,11,16], M.pick [0,1,2,3,4,5,6,7] (by decide)⟩, h⟩
                    · have h := cfalse hb h
                      cases h
              · have h := cfalse hb h
                refine wp_exit ?_
                refine then_e ?_
                exact then_e (hk6 (x018, x121, x220, i21) _ _ ⟨K.pick [1,2,4,5,6,7,8,9,10,11,16], M.pick [0,1,2,3,4,5,6,7] (by decide)⟩ h)
          · clear K M h
            rintro kk fuel ⟨x09, x112, x211, i12⟩ a w hk3 ⟨K, M⟩ h
            unfold D_darkslideref_Sharp_l3 at h
            refine wp_seq ?_
            refine wp_seq ?_
            refine X_reg ?_
            refine X_rd K (want_no rfl) rfl rfl (rd_move rfl K rfl) M ?_; clear K; intro a K
            refine X_rd K (want_no rfl) rfl rfl (rd_leq rfl K rfl rfl) M ?_; clear K; intro a K
            refine wpList_nil ?_
            refine then_n ?_
            refine X_cond K rfl (fun hb => ?_) (fun hb => ?_)
            · have h := ctrue hb h
              refine wp_skip ?_
              refine then_n ?_
              refine wp_seq ?_
              refine wp_block ?_
              refine wp_seq ?_
              refine X_reg ?_
              refine X_rd K (want_no rfl) rfl rfl (rd_assign rfl K rfl) M ?_; clear K; intro a K
              refine wpList_nil ?_
              refine then_n ?_
              refine wp_block ?_
              refine X_lp (id := 6) (Rel := fun (⟨x012, x115, x214, i15⟩ : Int × Int × Int × Int) a w => Kn a 132 [(1, .int .i64 o), (2, .pointer (some ⟨g_x, 0, none⟩)), (4, .pointer (some ⟨g_x2, 0, none⟩)), (5, .pointer (some ⟨g_x3, 0, none⟩)), (6, .pointer (some ⟨g_x4, 0, none⟩)), (7, .int .i64 i), (8, .int .i64 i7), (9, .pointer (some ⟨g_x13, 0, none⟩)), (10, .pointer (some ⟨g_x14, 0, none⟩)), (11, .pointer (some ⟨g_x15, 0, none⟩)), (12, .int .i64 i12), (13, .int .i64 i15)] ∧ Mem w0.heap.size w0 w [.blk g_x15 38 [.int .i64 0, .int .i64 0, .int .i64 0], .blk g_x14 38 [.int .i64 x012, .int .i64 x115, .int .i64 x214], .blk g_x13 38 [.int .i64 r20.1, .int .i64 r20.2.1, .int .i64 r20.2.2], .row 34 3 A4 x_P4.length c4 (cIII.all x_P4), .blk g_x4 38 [.int .i64 1, .int .i64 2, .int .i64 1], .blk g_x3 24 [.int .i64 d_W, .int .i64 d_H, .slice A4 x_P4.length c4], .blk g_x2 24 [.int .i64 0, .int .i64 0, .slice none (([] : List (Int × Int × Int))).length 0], .blk g_x 24 [.int .i64 d_W, .int .i64 d_H, .slice A_d_P d_P.length c_d_P]]) h (fun _ _ => rfl) ⟨K.pick [1,2,4,5,6,7,8,9,10,11,12,13], M.pick [0,1,2,3,4,5,6,7] (by decide)⟩ ?_ ?_
              · clear K M h
                rintro ⟨x016, x119, x218, i19⟩ a w ⟨K, M⟩ h
                try dsimp only at h
                refine inb_e ?_
                refine inb_n ?_
                refine then_n ?_
                refine X_reg ?_
                refine X_rd K (want_no rfl) rfl rfl (rd_move rfl K rfl) M ?_; clear K; intro a K
                refine X_rd K (want_no rfl) rfl rfl (rd_add rfl K rfl rfl) M ?_; clear K; intro a K
                obtain ⟨x54, hx, h⟩ := olet h
                refine X_rd K (want_no rfl) rfl rfl (rdi hx (rd_assign rfl K rfl)) M ?_; clear K; intro a K
                refine wpList_nil ?_
                exact then_n ⟨(x016, x119, x218, x54), ⟨K.pick [1,2,4,5,6,7,8,9,10,11,12], M.pick [0,1,2,3,4,5,6,7] (by decide)⟩, h⟩
              · clear K M h
                rintro kk fuel ⟨x012, x115, x214, i15⟩ a w hk4 ⟨K, M⟩ h
                unfold D_darkslideref_Sharp_l4 at h
                refine wp_seq ?_
                refine wp_seq ?_
                refine X_reg ?_
                refine X_rd K (want_no rfl) rfl rfl (rd_move rfl K rfl) M ?_; clear K; intro a K
                refine X_rd K (want_no rfl) rfl rfl (rd_leq rfl K rfl rfl) M ?_; clear K; intro a K
                refine wpList_nil ?_
                refine then_n ?_
                refine X_cond K rfl (fun hb => ?_) (fun hb => ?_)
                · have h := ctrue hb h
                  refine wp_skip ?_
                  refine then_n ?_
                  refine wp_seq ?_
                  refine wp_block ?_
                  refine wp_seq ?_
                  refine X_reg ?_
                  refine X_rd K (want_no rfl) rfl rfl (rd_field rfl fld24_2 K rfl) M ?_; clear K; intro a K
                  refine X_rd K (want_no rfl) rfl rfl (rd_ldC rfl sc22 K rfl (inM 7 rfl) rfl) M ?_; clear K; intro a K
                  refine X_rd K (want_no rfl) rfl rfl (rd_field rfl fld24_1 K rfl) M ?_; clear K; intro a K
                  refine X_rd K (want_no rfl) rfl rfl (rd_ldC rfl sc3 K rfl (inM 7 rfl) rfl) M ?_; clear K; intro a K
                  refine X_rd K (want_no rfl) rfl rfl (rd_sub rfl K rfl rfl) M ?_; clear K; intro a K
                  refine X_rd K (want_no rfl) rfl rfl (rd_move rfl K rfl) M ?_; clear K; intro a K
                  refine X_rd K (want_no rfl) rfl rfl (rd_move rfl K rfl) M ?_; clear K; intro a K
                  refine X_rd K (want_no rfl) rfl rfl (rd_add rfl K rfl rfl) M ?_; clear K; intro a K
                  refine X_rd K (want_no rfl) rfl rfl (rd_min rfl K rfl rfl) M ?_; clear K; intro a K
                  refine X_rd K (want_no rfl) rfl rfl (rd_max rfl K rfl rfl) M ?_; clear K; intro a K
                  refine X_rd K (want_no rfl) rfl rfl (rd_field rfl fld24_0 K rfl) M ?_; clear K; intro a K
                  refine X_rd K (want_no rfl) rfl rfl (rd_ldC rfl sc3 K rfl (inM 7 rfl) rfl) M ?_; clear K; intro a K
                  refine X_rd K (want_no rfl) rfl rfl (rd_mul rfl K rfl rfl) M ?_; clear K; intro a K
                  refine X_rd K (want_no rfl) rfl rfl (rd_field rfl fld24_0 K rfl) M ?_; clear K; intro a K
                  refine X_rd K (want_no rfl) rfl rfl (rd_ldC rfl sc3 K rfl (inM 7 rfl) rfl) M ?_; clear K; intro a K
                  refine X_rd K (want_no rfl) rfl rfl (rd_sub rfl K rfl rfl) M ?_; clear K; intro a K
                  refine X_rd K (want_no rfl) rfl rfl (rd_move rfl K rfl) M ?_; clear K; intro a K
                  refine X_rd K (want_no rfl) rfl rfl (rd_move rfl K rfl) M ?_; clear K; intro a K
                  refine X_rd K (want_no rfl) rfl rfl (rd_add rfl K rfl rfl) M ?_; clear K; intro a K
                  refine X_rd K (want_no rfl) rfl rfl (rd_min rfl K rfl rfl) M ?_; clear K; intro a K
                  refine X_rd K (want_no rfl) rfl rfl (rd_max rfl K rfl rfl) M ?_; clear K; intro a K
                  obtain ⟨x46, hx, h⟩ := olet h
                  refine X_rd K (want_no rfl) rfl rfl (rdi hx (rd_add rfl K rfl rfl)) M ?_; clear K; intro a K
                  obtain ⟨e48, h_e48, h⟩ := obind h
                  refine X_rd K (want_no rfl) rfl rfl (rd_ix rfl sl22 K rfl rfl (inA R_d_P) h_e48) M ?_; clear K; intro a K
                  refine X_rd K (want_no rfl) rfl rfl (rd_elA rfl ty34 K rfl rfl rfl (inA R_d_P) h_e48) M ?_; clear K; intro a K
                  obtain ⟨r23, h_r23, h⟩ := obind h
                  refine X_ac K (want_no rfl) rfl rfl (ac_call (vs := [.agg #[.int .i64 e48.1, .int .i64 e48.2.1, .int .i64 e48.2.2]]) (cap := []) rfl fok31 K rfl rfl (W_darkslideref_parts N e48.1 e48.2.1 e48.2.2 _  r23 h_r23)) ?_
                  have M0 := M; clear K M; rintro _ a w ⟨rfl, M⟩ K
                  have M := M0.call M
                  clear M0
                  refine X_ac K (want_no rfl) rfl rfl (ac_alloc rfl z38 M) ?_
                  have M0 := M; clear K M; rintro _ a w ⟨g_x18, rfl, M⟩ K
                  clear M0
                  refine X_a0 K (want_no rfl) rfl (ac_storeA rfl ty38 K rfl (ds := [.int .i64 r23.1, .int .i64 r23.2.1, .int .i64 r23.2.2]) rfl rfl 0 M rfl rfl rfl) ?_
                  have M0 := M; clear K M; rintro _ a w M K
                  clear M0
                  refine wpList_nil ?_
                  refine then_n ?_
                  refine wp_seq ?_
                  refine X_reg ?_
                  refine X_rd K (want_no rfl) rfl rfl (rd_assign rfl K rfl) M ?_; clear K; intro a K
                  refine wpList_nil ?_
                  refine then_n ?_
                  refine wp_block ?_
                  refine X_lp (id := 8) (Rel := fun (⟨x014, x117, x216, i17⟩ : Int × Int × Int × Int) a w => Kn a 132 [(1, .int .i64 o), (2, .pointer (some ⟨g_x, 0, none⟩)), (4, .pointer (some ⟨g_x2, 0, none⟩)), (5, .pointer (some ⟨g_x3, 0, none⟩)), (6, .pointer (some ⟨g_x4, 0, none⟩)), (7, .int .i64 i), (8, .int .i64 i7), (9, .pointer (some ⟨g_x13, 0, none⟩)), (10, .pointer (some ⟨g_x14, 0, none⟩)), (11, .pointer (some ⟨g_x15, 0, none⟩)), (12, .int .i64 i12), (13, .int .i64 i15), (14, .pointer (some ⟨g_x18, 0, none⟩)), (15, .int .i64 i17)] ∧ Mem w0.heap.size w0 w [.blk g_x18 38 [.int .i64 r23.1, .int .i64 r23.2.1, .int .i64 r23.2.2], .blk g_x15 38 [.int .i64 0, .int .i64 0, .int .i64 0], .blk g_x14 38 [.int .i64 x014, .int .i64 x117, .int .i64 x216], .blk g_x13 38 [.int .i64 r20.1, .int .i64 r20.2.1, .int .i64 r20.2.2], .row 34 3 A4 x_P4.length c4 (cIII.all x_P4), .blk g_x4 38 [.int .i64 1, .int .i64 2, .int .i64 1], .blk g_x3 24 [.int .i64 d_W, .int .i64 d_H, .slice A4 x_P4.length c4], .blk g_x2 24 [.int .i64 0, .int .i64 0, .slice none (([] : List (Int × Int × Int))).length 0], .blk g_x 24 [.int .i64 d_W, .int .i64 d_H, .slice A_d_P d_P.length c_d_P]]) h (fun _ _ => rfl) ⟨K.pick [1,2,4,5,6,7,8,9,10,11,12,13,14,15], M.pick [0,1,2,3,4,5,6,7,8] (by decide)⟩ ?_ ?_
                  · clear K M h
                    rintro ⟨x015, x118, x217, i18⟩ a w ⟨K, M⟩ h
                    try dsimp only at h
                    refine inb_e ?_
                    refine inb_n ?_
                    refine then_n ?_
                    refine X_reg ?_
                    refine X_rd K (want_no rfl) rfl rfl (rd_move rfl K rfl) M ?_; clear K; intro a K
                    refine X_rd K (want_no rfl) rfl rfl (rd_add rfl K rfl rfl) M ?_; clear K; intro a K
                    obtain ⟨x53, hx, h⟩ := olet h
                    refine X_rd K (want_no rfl) rfl rfl (rdi hx (rd_assign rfl K rfl)) M ?_; clear K; intro a K
                    refine wpList_nil ?_
                    exact then_n ⟨(x015, x118, x217, x53), ⟨K.pick [1,2,4,5,6,7,8,9,10,11,12,13], M.pick [1,2,3,4,5,6,7,8] (by decide)⟩, h⟩
                  · clear K M h
                    rintro kk fuel ⟨x014, x117, x216, i17⟩ a w hk5 ⟨K, M⟩ h
                    unfold D_darkslideref_Sharp_l5 at h
                    refine wp_seq ?_
                    refine wp_seq ?_
                    refine X_reg ?_
                    refine X_rd K (want_no rfl) rfl rfl (rd_move rfl K rfl) M ?_; clear K; intro a K
                    refine X_rd K (want_no rfl) rfl rfl (rd_lss rfl K rfl rfl) M ?_; clear K; intro a K
                    refine wpList_nil ?_
                    refine then_n ?_
                    refine X_cond K rfl (fun hb => ?_) (fun hb => ?_)
                    · have h := ctrue hb h
                      refine wp_skip ?_
                      refine then_n ?_
                      refine wp_seq ?_
                      refine wp_block ?_
                      refine wp_region_tl (fun w => Mem _ _ w _) [0,0,0,0,0,0,0,0,0,0,0,0,0,0,0,0,0,0,0,2] (by kernel_rfl) (by kernel_rfl) M.drew ?_
                      replace M := M.drew
                      refine T_rd K (want_no rfl) rfl rfl (rd_move rfl K rfl) ?_; clear K; intro a K
                      refine T_rd K (want_no rfl) rfl rfl (rd_move rfl K rfl) ?_; clear K; intro a K
                      rcases Bool.eq_false_or_eq_true (decide (i17 = 0)) with hb | hb
                      · have h := ctrue hb h
                        have hj8 : i17 = 0 := of_decide_eq_true hb
                        refine T_rd K (want_no rfl) rfl rfl (rdv (v := .pointer (some ⟨g_x14, 0, none⟩)) (by rw [hj8]; rfl) (rd_ixA rfl ar38 sz3 K rfl rfl (by rw [hj8]; decide) (by rw [hj8]; decide))) ?_; clear K; intro a K
                        refine T_rd K (want_no rfl) rfl rfl (rd_ldC rfl sc3 K rfl (inM 2 rfl) rfl) ?_; clear K; intro a K
                        refine T_rd K (want_no rfl) rfl rfl (rd_move rfl K rfl) ?_; clear K; intro a K
                        obtain ⟨_, h0, h⟩ := obind h
                        have h0 := inr_spec h0
                        refine T_rd K (want_no rfl) rfl rfl (rd_ixA rfl ar38 sz3 K rfl rfl h0.1 h0.2) ?_; clear K; intro a K
                        obtain ⟨e58, h_e58, h⟩ := obind h
                        refine T_rd K (want_no rfl) rfl rfl (rd_ldIa rfl sc3 K rfl (inM 0 rfl) rfl rfl h_e58) ?_; clear K; intro a K
                        refine T_rd K (want_no rfl) rfl rfl (rd_move rfl K rfl) ?_; clear K; intro a K
                        refine T_rd K (want_no rfl) rfl rfl (rd_add rfl K rfl rfl) ?_; clear K; intro a K
                        obtain ⟨_, h0, h⟩ := obind h
                        have h0 := inr_spec h0
                        refine T_rd K (want_no rfl) rfl rfl (rd_ixA rfl ar38 sz3 K rfl rfl h0.1 h0.2) ?_; clear K; intro a K
                        obtain ⟨e59, h_e59, h⟩ := obind h
                        refine T_rd K (want_no rfl) rfl rfl (rd_ldIa rfl sc3 K rfl (inM 5 rfl) rfl rfl h_e59) ?_; clear K; intro a K
                        refine T_rd K (want_no rfl) rfl rfl (rd_mul rfl K rfl rfl) ?_; clear K; intro a K
                        refine T_rd K (want_no rfl) rfl rfl (rd_move rfl K rfl) ?_; clear K; intro a K
                        refine T_rd K (want_no rfl) rfl rfl (rd_add rfl K rfl rfl) ?_; clear K; intro a K
                        obtain ⟨_, h0, h⟩ := obind h
                        have h0 := inr_spec h0
                        refine T_rd K (want_no rfl) rfl rfl (rd_ixA rfl ar38 sz3 K rfl rfl h0.1 h0.2) ?_; clear K; intro a K
                        obtain ⟨e60, h_e60, h⟩ := obind h
                        refine T_rd K (want_no rfl) rfl rfl (rd_ldIa rfl sc3 K rfl (inM 5 rfl) rfl rfl h_e60) ?_; clear K; intro a K
                        refine T_rd K (want_no rfl) rfl rfl (rd_mul rfl K rfl rfl) ?_; clear K; intro a K
                        refine T_rd K (want_no rfl) rfl rfl (rd_add rfl K rfl rfl) ?_; clear K; intro a K
                        refine T_rd K (want_no rfl) rfl rfl (rdv (v := .pointer (some ⟨g_x14, 0, none⟩)) (by rw [hj8]; rfl) (rd_ixA rfl ar38 sz3 K rfl rfl (by rw [hj8]; decide) (by rw [hj8]; decide))) ?_; clear K; intro a K
                        refine T_a0z K (want_no rfl) rfl (ac_storeC rfl sc3 K rfl rfl rfl 2 M rfl rfl) ?_
                        have M0 := M; clear K M; rintro _ a w M K
                        clear M0
                        refine T_end ?_
                        refine inb_n ?_
                        refine then_n ?_
                        refine X_reg ?_
                        refine X_rd K (want_no rfl) rfl rfl (rd_move rfl K rfl) M ?_; clear K; intro a K
                        refine X_rd K (want_no rfl) rfl rfl (rd_add rfl K rfl rfl) M ?_; clear K; intro a K
                        obtain ⟨x50, hx, h⟩ := olet h
                        refine X_rd K (want_no rfl) rfl rfl (rdi hx (rd_assign rfl K rfl)) M ?_; clear K; intro a K
                        refine wpList_nil ?_
                        exact then_n ⟨(IntKind.i64.wrap (x014 + (IntKind.i64.wrap ((IntKind.i64.wrap (e58 * e59)) * e60))), x117, x216, x50), ⟨K.pick [1,2,4,5,6,7,8,9,10,11,12,13,14,15], M.pick [0,1,2,3,4,5,6,7,8] (by decide)⟩, h⟩
                      · have h := cfalse hb h
                        rcases Bool.eq_false_or_eq_true (decide (i17 = 1)) with hb | hb
                        · have h := ctrue hb h
                          have hj8 : i17 = 1 := of_decide_eq_true hb
                          refine T_rd K (want_no rfl) rfl rfl (rdv (v := .pointer (some ⟨g_x14, 1, none⟩)) (by rw [hj8]; rfl) (rd_ixA rfl ar38 sz3 K rfl rfl (by rw [hj8]; decide) (by rw [hj8]; decide))) ?_; clear K; intro a K
                          refine T_rd K (want_no rfl) rfl rfl (rd_ldC rfl sc3 K rfl (inM 2 rfl) rfl) ?_; clear K; intro a K
                          refine T_rd K (want_no rfl) rfl rfl (rd_move rfl K rfl) ?_; clear K; intro a K
                          obtain ⟨_, h0, h⟩ := obind h
                          have h0 := inr_spec h0
                          refine T_rd K (want_no rfl) rfl rfl (rd_ixA rfl ar38 sz3 K rfl rfl h0.1 h0.2) ?_; clear K; intro a K
                          obtain ⟨e61, h_e61, h⟩ := obind h
                          refine T_rd K (want_no rfl) rfl rfl (rd_ldIa rfl sc3 K rfl (inM 0 rfl) rfl rfl h_e61) ?_; clear K; intro a K
                          refine T_rd K (want_no rfl) rfl rfl (rd_move rfl K rfl) ?_; clear K; intro a K
                          refine T_rd K (want_no rfl) rfl rfl (rd_add rfl K rfl rfl) ?_; clear K; intro a K
                          obtain ⟨_, h0, h⟩ := obind h
                          have h0 := inr_spec h0
                          refine T_rd K (want_no rfl) rfl rfl (rd_ixA rfl ar38 sz3 K rfl rfl h0.1 h0.2) ?_; clear K; intro a K
                          obtain ⟨e62, h_e62, h⟩ := obind h
                          refine T_rd K (want_no rfl) rfl rfl (rd_ldIa rfl sc3 K rfl (inM 5 rfl) rfl rfl h_e62) ?_; clear K; intro a K
                          refine T_rd K (want_no rfl) rfl rfl (rd_mul rfl K rfl rfl) ?_; clear K; intro a K
                          refine T_rd K (want_no rfl) rfl rfl (rd_move rfl K rfl) ?_; clear K; intro a K
                          refine T_rd K (want_no rfl) rfl rfl (rd_add rfl K rfl rfl) ?_; clear K; intro a K
                          obtain ⟨_, h0, h⟩ := obind h
                          have h0 := inr_spec h0
                          refine T_rd K (want_no rfl) rfl rfl (rd_ixA rfl ar38 sz3 K rfl rfl h0.1 h0.2) ?_; clear K; intro a K
                          obtain ⟨e63, h_e63, h⟩ := obind h
                          refine T_rd K (want_no rfl) rfl rfl (rd_ldIa rfl sc3 K rfl (inM 5 rfl) rfl rfl h_e63) ?_; clear K; intro a K
                          refine T_rd K (want_no rfl) rfl rfl (rd_mul rfl K rfl rfl) ?_; clear K; intro a K
                          refine T_rd K (want_no rfl) rfl rfl (rd_add rfl K rfl rfl) ?_; clear K; intro a K
                          refine T_rd K (want_no rfl) rfl rfl (rdv (v := .pointer (some ⟨g_x14, 1, none⟩)) (by rw [hj8]; rfl) (rd_ixA rfl ar38 sz3 K rfl rfl (by rw [hj8]; decide) (by rw [hj8]; decide))) ?_; clear K; intro a K
                          refine T_a0z K (want_no rfl) rfl (ac_storeC rfl sc3 K rfl rfl rfl 2 M rfl rfl) ?_
                          have M0 := M; clear K M; rintro _ a w M K
                          clear M0
                          refine T_end ?_
                          refine inb_n ?_
                          refine then_n ?_
                          refine X_reg ?_
                          refine X_rd K (want_no rfl) rfl rfl (rd_move rfl K rfl) M ?_; clear K; intro a K
                          refine X_rd K (want_no rfl) rfl rfl (rd_add rfl K rfl rfl) M ?_; clear K; intro a K
                          obtain ⟨x51, hx, h⟩ := olet h
                          refine X_rd K (want_no rfl) rfl rfl (rdi hx (rd_assign rfl K rfl)) M ?_; clear K; intro a K
                          refine wpList_nil ?_
                          exact then_n ⟨(x014, IntKind.i64.wrap (x117 + (IntKind.i64.wrap ((IntKind.i64.wrap (e61 * e62)) * e63))), x216, x51), ⟨K.pick [1,2,4,5,6,7,8,9,10,11,12,13,14,15], M.pick [0,1,2,3,4,5,6,7,8] (by decide)⟩, h⟩
                        · have h := cfalse hb h
                          rcases Bool.eq_false_or_eq_true (decide (i17 = 2)) with hb | hb
                          · have h := ctrue hb h
                            have hj8 : i17 = 2 := of_decide_eq_true hb
                            refine T_rd K (want_no rfl) rfl rfl (rdv (v := .pointer (some ⟨g_x14, 2, none⟩)) (by rw [hj8]; rfl) (rd_ixA rfl ar38 sz3 K rfl rfl (by rw [hj8]; decide) (by rw [hj8]; decide))) ?_; clear K; intro a K
                            refine T_rd K (want_no rfl) rfl rfl (rd_ldC rfl sc3 K rfl (inM 2 rfl) rfl) ?_; clear K; intro a K
                            refine T_rd K (want_no rfl) rfl rfl (rd_move rfl K rfl) ?_; clear K; intro a K
                            obtain ⟨_, h0, h⟩ := obind h
                            have h0 := inr_spec h0
                            refine T_rd K (want_no rfl) rfl rfl (rd_ixA rfl ar38 sz3 K rfl rfl h0.1 h0.2) ?_; clear K; intro a K
                            obtain ⟨e64, h_e64, h⟩ := obind h
                            refine T_rd K (want_no rfl) rfl rfl (rd_ldIa rfl sc3 K rfl (inM 0 rfl) rfl rfl h_e64) ?_; clear K; intro a K
                            refine T_rd K (want_no rfl) rfl rfl (rd_move rfl K rfl) ?_; clear K; intro a K
                            refine T_rd K (want_no rfl) rfl rfl (rd_add rfl K rfl rfl) ?_; clear K; intro a K
                            obtain ⟨_, h0, h⟩ := obind h
                            have h0 := inr_spec h0
                            refine T_rd K (want_no rfl) rfl rfl (rd_ixA rfl ar38 sz3 K rfl rfl h0.1 h0.2) ?_; clear K; intro a K
                            obtain ⟨e65, h_e65, h⟩ := obind h
                            refine T_rd K (want_no rfl) rfl rfl (rd_ldIa rfl sc3 K rfl (inM 5 rfl) rfl rfl h_e65) ?_; clear K; intro a K
                            refine T_rd K (want_no rfl) rfl rfl (rd_mul rfl K rfl rfl) ?_; clear K; intro a K
                            refine T_rd K (want_no rfl) rfl rfl (rd_move rfl K rfl) ?_; clear K; intro a K
                            refine T_rd K (want_no rfl) rfl rfl (rd_add rfl K rfl rfl) ?_; clear K; intro a K
                            obtain ⟨_, h0, h⟩ := obind h
                            have h0 := inr_spec h0
                            refine T_rd K (want_no rfl) rfl rfl (rd_ixA rfl ar38 sz3 K rfl rfl h0.1 h0.2) ?_; clear K; intro a K
                            obtain ⟨e66, h_e66, h⟩ := obind h
                            refine T_rd K (want_no rfl) rfl rfl (rd_ldIa rfl sc3 K rfl (inM 5 rfl) rfl rfl h_e66) ?_; clear K; intro a K
                            refine T_rd K (want_no rfl) rfl rfl (rd_mul rfl K rfl rfl) ?_; clear K; intro a K
                            refine T_rd K (want_no rfl) rfl rfl (rd_add rfl K rfl rfl) ?_; clear K; intro a K
                            refine T_rd K (want_no rfl) rfl rfl (rdv (v := .pointer (some ⟨g_x14, 2, none⟩)) (by rw [hj8]; rfl) (rd_ixA rfl ar38 sz3 K rfl rfl (by rw [hj8]; decide) (by rw [hj8]; decide))) ?_; clear K; intro a K
                            refine T_a0z K (want_no rfl) rfl (ac_storeC rfl sc3 K rfl rfl rfl 2 M rfl rfl) ?_
                            have M0 := M; clear K M; rintro _ a w M K
                            clear M0
                            refine T_end ?_
                            refine inb_n ?_
                            refine then_n ?_
                            refine X_reg ?_
                            refine X_rd K (want_no rfl) rfl rfl (rd_move rfl K rfl) M ?_; clear K; intro a K
                            refine X_rd K (want_no rfl) rfl rfl (rd_add rfl K rfl rfl) M ?_; clear K; intro a K
                            obtain ⟨x52, hx, h⟩ := olet h
                            refine X_rd K (want_no rfl) rfl rfl (rdi hx (rd_assign rfl K rfl)) M ?_; clear K; intro a K
                            refine wpList_nil ?_
                            exact then_n ⟨(x014, x117, IntKind.i64.wrap (x216 + (IntKind.i64.wrap ((IntKind.i64.wrap (e64 * e65)) * e66))), x52), ⟨K.pick [1,2,4,5,6,7,8,9,10,11,12,13,14,15], M.pick [0,1,2,3,4,5,6,7,8] (by decide)⟩, h⟩
                          · have h := cfalse hb h
                            cases h
                    · have h := cfalse hb h
                      refine wp_exit ?_
                      refine then_e ?_
                      exact then_e (hk5 (x014, x117, x216, i17) _ _ ⟨K.pick [1,2,4,5,6,7,8,9,10,11,12,13,14,15], M.pick [0,1,2,3,4,5,6,7,8] (by decide)⟩ h)
                · have h := cfalse hb h
                  refine wp_exit ?_
                  refine then_e ?_
                  exact then_e (hk4 (x012, x115, x214, i15) _ _ ⟨K.pick [1,2,4,5,6,7,8,9,10,11,12,13], M.pick [0,1,2,3,4,5,6,7] (by decide)⟩ h)
            · have h := cfalse hb h
              refine wp_exit ?_
              refine then_e ?_
              exact then_e (hk3 (x09, x112, x211, i12) _ _ ⟨K.pick [1,2,4,5,6,7,8,9,10,11,12], M.pick [0,1,2,3,4,5,6,7] (by decide)⟩ h)
        · have h := cfalse hb h
          refine wp_exit ?_
          refine then_e ?_
          exact then_e (hk2 (x_P4, i7) _ _ ⟨A4, c4, K.pick [1,2,4,5,6,7,8], M.pick [0,1,2,3,4] (by decide)⟩ h)
    · have h := cfalse hb h
      refine wp_exit ?_
      refine then_e ?_
      exact then_e (hk1 (x_P, i) _ _ ⟨A, c, K.pick [1,2,4,5,6,7], M.pick [0,1,2,3,4] (by decide)⟩ h)

end Go.Proofs.Ytpmnfhifmmfglab
