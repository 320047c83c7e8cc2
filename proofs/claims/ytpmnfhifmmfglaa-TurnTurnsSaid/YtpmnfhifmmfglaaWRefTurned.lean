/- Printed by a program (walk.py): the walks of darkslideref_Turned: each function computes what its plain program tells. -/
import Derived.Test.YtpmnfhifmmfglaaFacts
import Derived.Test.YtpmnfhifmmfglaaDD
set_option linter.unusedVariables false
set_option linter.unusedSimpArgs false
set_option linter.unusedSectionVars false
namespace Go.Proofs.Ytpmnfhifmmfglaa
open Go.RowKit

set_option maxRecDepth 100000 in
set_option maxHeartbeats 4000000 in
theorem W_darkslideref_Turned (N : Nat) (d_W : Int) (d_H : Int) (d_P : List (Int × Int × Int)) (A_d_P : Option Addr) (c_d_P : Nat) (o : Int) (w0 : World) (R_d_P : SL w0 cIII A_d_P d_P) (C_d_P : d_P.length ≤ c_d_P) (r : Int × Int × List (Int × Int × Int)) (h : D_darkslideref_Turned N d_W d_H d_P o = some r) :
    Calls Try.prog 36 #[.agg #[.int .i64 d_W, .int .i64 d_H, .slice A_d_P d_P.length c_d_P], .int .i64 o] w0 fun e w' => ∃ v, e = .returned v ∧ ∃ A2 c2, v = .agg #[.int .i64 r.1, .int .i64 r.2.1, .slice A2 r.2.2.length c2] ∧ Mem w0.heap.size w0 w' [.row 73 3 A2 r.2.2.length c2 (cIII.all r.2.2)] := by
  refine X_enter Try.func36 rfl Try.ntmps36 rfl ?_
  intro a K
  have M := Mem.start w0
  have K : Kn a 95 [(0, .agg #[.int .i64 d_W, .int .i64 d_H, .slice A_d_P d_P.length c_d_P]), (1, .int .i64 o)] := K
  unfold D_darkslideref_Turned at h
  refine wp_seq ?_
  refine X_reg ?_
  refine X_ac K (want_no rfl) rfl rfl (ac_box rfl K rfl (cs := [.int .i64 d_W, .int .i64 d_H, .slice A_d_P d_P.length c_d_P]) rfl M) ?_
  have M0 := M; clear K M; rintro _ a w ⟨g_x, rfl, M⟩ K
  clear M0
  refine X_ac K (want_no rfl) rfl rfl (ac_alloc rfl z49 M) ?_
  have M0 := M; clear K M; rintro _ a w ⟨g_x2, rfl, M⟩ K
  clear M0
  refine wpList_nil ?_
  refine then_n ?_
  refine wp_seq ?_
  refine X_reg ?_
  refine X_rd K (want_no rfl) rfl rfl (rd_field rfl fld49_0 K rfl) M ?_; clear K; intro a K
  refine X_rd K (want_no rfl) rfl rfl (rd_ldC rfl sc3 K rfl (inM 1 rfl) rfl) M ?_; clear K; intro a K
  refine X_rd K (want_no rfl) rfl rfl (rd_field rfl fld49_1 K rfl) M ?_; clear K; intro a K
  refine X_rd K (want_no rfl) rfl rfl (rd_ldC rfl sc3 K rfl (inM 1 rfl) rfl) M ?_; clear K; intro a K
  refine X_rd K (want_no rfl) rfl rfl (rd_build rfl K (vs := [(0, .int .i64 d_W), (1, .int .i64 d_H)]) (cs := [.int .i64 d_W, .int .i64 d_H, .slice none (([] : List (Int × Int × Int))).length 0]) rfl (by kernel_rfl)) M ?_; clear K; intro a K
  refine X_ac K (want_no rfl) rfl rfl (ac_alloc rfl z49 M) ?_
  have M0 := M; clear K M; rintro _ a w ⟨g_x3, rfl, M⟩ K
  clear M0
  refine X_a0 K (want_no rfl) rfl (ac_storeA rfl ty49 K rfl (ds := [.int .i64 d_W, .int .i64 d_H, .slice none (([] : List (Int × Int × Int))).length 0]) rfl rfl 0 M rfl rfl rfl) ?_
  have M0 := M; clear K M; rintro _ a w M K
  clear M0
  refine wpList_nil ?_
  refine then_n ?_
  refine wp_seq ?_
  refine wp_seq ?_
  refine X_reg ?_
  refine X_rd K (want_no rfl) rfl rfl (rd_move rfl K rfl) M ?_; clear K; intro a K
  refine X_rd K (want_no rfl) rfl rfl (rd_geq rfl K rfl rfl) M ?_; clear K; intro a K
  refine wpList_nil ?_
  refine then_n ?_
  refine X_join (Rel := fun (⟨x_W, x_H⟩ : Int × Int) a w => Kn a 95 [(1, .int .i64 o), (2, .pointer (some ⟨g_x, 0, none⟩)), (4, .pointer (some ⟨g_x2, 0, none⟩)), (5, .pointer (some ⟨g_x3, 0, none⟩))] ∧ Mem w0.heap.size w0 w [.blk g_x3 49 [.int .i64 x_W, .int .i64 x_H, .slice none (([] : List (Int × Int × Int))).length 0], .blk g_x2 49 [.int .i64 0, .int .i64 0, .slice none (([] : List (Int × Int × Int))).length 0], .blk g_x 49 [.int .i64 d_W, .int .i64 d_H, .slice A_d_P d_P.length c_d_P]]) h ?_ ?_
  · clear K M h
    rintro ⟨x_W2, x_H2⟩ a w ⟨K, M⟩ h
    try dsimp only at h
    refine then_n ?_
    refine wp_seq ?_
    refine wp_seq ?_
    refine X_reg ?_
    refine X_rd K (want_no rfl) rfl rfl (rd_assign rfl K rfl) M ?_; clear K; intro a K
    refine wpList_nil ?_
    refine then_n ?_
    refine wp_block ?_
    replace M := Mem.nilrow 73 3 cIII M
    refine X_lp (id := 0) (Rel := fun (⟨x_P, i⟩ : List (Int × Int × Int) × Int) a w => ∃ (A : Option Addr) (c : Nat), Kn a 95 [(1, .int .i64 o), (2, .pointer (some ⟨g_x, 0, none⟩)), (4, .pointer (some ⟨g_x2, 0, none⟩)), (5, .pointer (some ⟨g_x3, 0, none⟩)), (6, .int .i64 i)] ∧ Mem w0.heap.size w0 w [.row 73 3 A x_P.length c (cIII.all x_P), .blk g_x3 49 [.int .i64 x_W2, .int .i64 x_H2, .slice A x_P.length c], .blk g_x2 49 [.int .i64 0, .int .i64 0, .slice none (([] : List (Int × Int × Int))).length 0], .blk g_x 49 [.int .i64 d_W, .int .i64 d_H, .slice A_d_P d_P.length c_d_P]]) h (fun _ _ => rfl) ⟨none, 0, K.pick [1,2,4,5,6], M.pick [0,1,2,3] (by decide)⟩ ?_ ?_
    · clear K M h
      rintro ⟨x_P8, i41⟩ a w ⟨A8, c8, K, M⟩ h
      try dsimp only at h
      refine inb_e ?_
      refine then_n ?_
      refine wp_seq ?_
      refine X_reg ?_
      refine X_rd K (want_no rfl) rfl rfl (rd_ldA rfl ty49 K rfl (inM 1 rfl) rfl rfl) M ?_; clear K; intro a K
      refine X_a0 K (want_no rfl) rfl (ac_storeA rfl ty49 K rfl (ds := [.int .i64 x_W2, .int .i64 x_H2, .slice A8 x_P8.length c8]) rfl rfl 2 M rfl rfl rfl) ?_
      have M0 := M; clear K M; rintro _ a w M K
      clear M0
      refine wpList_nil ?_
      refine then_n ?_
      refine wp_ret ?_
      cases h
      exact ret1 K rfl (res_cellA K rfl ty49 (M.blkAt (i := 2) rfl) rfl) ⟨_, rfl, _, _, rfl, ((M).pick [0] (by decide))⟩
    · clear K M h
      rintro kk fuel ⟨x_P, i⟩ a w hk1 ⟨A, c, K, M⟩ h
      unfold D_darkslideref_Turned_l1 at h
      refine wp_seq ?_
      refine wp_seq ?_
      refine X_reg ?_
      refine X_rd K (want_no rfl) rfl rfl (rd_move rfl K rfl) M ?_; clear K; intro a K
      refine X_rd K (want_no rfl) rfl rfl (rd_field rfl fld49_1 K rfl) M ?_; clear K; intro a K
      refine X_rd K (want_no rfl) rfl rfl (rd_ldC rfl sc3 K rfl (inM 1 rfl) rfl) M ?_; clear K; intro a K
      refine X_rd K (want_no rfl) rfl rfl (rd_lss rfl K rfl rfl) M ?_; clear K; intro a K
      refine wpList_nil ?_
      refine then_n ?_
      refine X_cond K rfl (fun hb => ?_) (fun hb => ?_)
      · have h := ctrue hb h
        refine wp_skip ?_
        refine then_n ?_
        refine wp_seq ?_
        refine wp_block ?_
        refine wp_seq ?_
        refine X_reg ?_
        refine X_rd K (want_no rfl) rfl rfl (rd_assign rfl K rfl) M ?_; clear K; intro a K
        refine wpList_nil ?_
        refine then_n ?_
        refine wp_block ?_
        refine X_lp (id := 2) (Rel := fun (⟨x_P4, i15⟩ : List (Int × Int × Int) × Int) a w => ∃ (A4 : Option Addr) (c4 : Nat), Kn a 95 [(1, .int .i64 o), (2, .pointer (some ⟨g_x, 0, none⟩)), (4, .pointer (some ⟨g_x2, 0, none⟩)), (5, .pointer (some ⟨g_x3, 0, none⟩)), (6, .int .i64 i), (7, .int .i64 i15)] ∧ Mem w0.heap.size w0 w [.row 73 3 A4 x_P4.length c4 (cIII.all x_P4), .blk g_x3 49 [.int .i64 x_W2, .int .i64 x_H2, .slice A4 x_P4.length c4], .blk g_x2 49 [.int .i64 0, .int .i64 0, .slice none (([] : List (Int × Int × Int))).length 0], .blk g_x 49 [.int .i64 d_W, .int .i64 d_H, .slice A_d_P d_P.length c_d_P]]) h (fun _ _ => rfl) ⟨A, c, K.pick [1,2,4,5,6,7], M.pick [0,1,2,3] (by decide)⟩ ?_ ?_
        · clear K M h
          rintro ⟨x_P7, i40⟩ a w ⟨A7, c7, K, M⟩ h
          try dsimp only at h
          refine inb_e ?_
          refine inb_n ?_
          refine then_n ?_
          refine X_reg ?_
          refine X_rd K (want_no rfl) rfl rfl (rd_move rfl K rfl) M ?_; clear K; intro a K
          refine X_rd K (want_no rfl) rfl rfl (rd_add rfl K rfl rfl) M ?_; clear K; intro a K
          obtain ⟨x8, hx, h⟩ := olet h
          refine X_rd K (want_no rfl) rfl rfl (rdi hx (rd_assign rfl K rfl)) M ?_; clear K; intro a K
          refine wpList_nil ?_
          exact then_n ⟨(x_P7, x8), ⟨A7, c7, K.pick [1,2,4,5,6], M.pick [0,1,2,3] (by decide)⟩, h⟩
        · clear K M h
          rintro kk fuel ⟨x_P4, i15⟩ a w hk2 ⟨A4, c4, K, M⟩ h
          unfold D_darkslideref_Turned_l2 at h
          refine wp_seq ?_
          refine wp_seq ?_
          refine X_reg ?_
          refine X_rd K (want_no rfl) rfl rfl (rd_move rfl K rfl) M ?_; clear K; intro a K
          refine X_rd K (want_no rfl) rfl rfl (rd_field rfl fld49_0 K rfl) M ?_; clear K; intro a K
          refine X_rd K (want_no rfl) rfl rfl (rd_ldC rfl sc3 K rfl (inM 1 rfl) rfl) M ?_; clear K; intro a K
          refine X_rd K (want_no rfl) rfl rfl (rd_lss rfl K rfl rfl) M ?_; clear K; intro a K
          refine wpList_nil ?_
          refine then_n ?_
          refine X_cond K rfl (fun hb => ?_) (fun hb => ?_)
          · have h := ctrue hb h
            refine wp_skip ?_
            refine then_n ?_
            refine wp_seq ?_
            refine wp_block ?_
            refine wp_seq ?_
            refine X_reg ?_
            refine X_rd K (want_no rfl) rfl rfl (rd_move rfl K rfl) M ?_; clear K; intro a K
            refine X_rd K (want_no rfl) rfl rfl (rd_move rfl K rfl) M ?_; clear K; intro a K
            refine X_rd K (want_no rfl) rfl rfl (rd_assign rfl K rfl) M ?_; clear K; intro a K
            refine X_rd K (want_no rfl) rfl rfl (rd_assign rfl K rfl) M ?_; clear K; intro a K
            refine wpList_nil ?_
            refine then_n ?_
            refine wp_seq ?_
            refine wp_seq ?_
            refine X_reg ?_
            refine X_rd K (want_no rfl) rfl rfl (rd_move rfl K rfl) M ?_; clear K; intro a K
            refine X_rd K (want_no rfl) rfl rfl (rd_geq rfl K rfl rfl) M ?_; clear K; intro a K
            refine wpList_nil ?_
            refine then_n ?_
            refine X_join (Rel := fun (⟨i28, i29⟩ : Int × Int) a w => Kn a 95 [(1, .int .i64 o), (2, .pointer (some ⟨g_x, 0, none⟩)), (4, .pointer (some ⟨g_x2, 0, none⟩)), (5, .pointer (some ⟨g_x3, 0, none⟩)), (6, .int .i64 i), (7, .int .i64 i15), (8, .int .i64 i28), (9, .int .i64 i29)] ∧ Mem w0.heap.size w0 w [.row 73 3 A4 x_P4.length c4 (cIII.all x_P4), .blk g_x3 49 [.int .i64 x_W2, .int .i64 x_H2, .slice A4 x_P4.length c4], .blk g_x2 49 [.int .i64 0, .int .i64 0, .slice none (([] : List (Int × Int × Int))).length 0], .blk g_x 49 [.int .i64 d_W, .int .i64 d_H, .slice A_d_P d_P.length c_d_P]]) h ?_ ?_
            · clear K M h
              rintro ⟨i30, i31⟩ a w ⟨K, M⟩ h
              try dsimp only at h
              refine then_n ?_
              refine wp_seq ?_
              refine wp_seq ?_
              refine X_join (Rel := fun (i32 : Bool) a w => Kn a 95 [(1, .int .i64 o), (2, .pointer (some ⟨g_x, 0, none⟩)), (4, .pointer (some ⟨g_x2, 0, none⟩)), (5, .pointer (some ⟨g_x3, 0, none⟩)), (6, .int .i64 i), (7, .int .i64 i15), (8, .int .i64 i30), (9, .int .i64 i31), (54, .bool i32)] ∧ Mem w0.heap.size w0 w [.row 73 3 A4 x_P4.length c4 (cIII.all x_P4), .blk g_x3 49 [.int .i64 x_W2, .int .i64 x_H2, .slice A4 x_P4.length c4], .blk g_x2 49 [.int .i64 0, .int .i64 0, .slice none (([] : List (Int × Int × Int))).length 0], .blk g_x 49 [.int .i64 d_W, .int .i64 d_H, .slice A_d_P d_P.length c_d_P]]) h ?_ ?_
              · clear K M h
                rintro i33 a w ⟨K, M⟩ h
                try dsimp only at h
                refine then_n ?_
                refine X_join (Rel := fun (i34 : Int) a w => Kn a 95 [(1, .int .i64 o), (2, .pointer (some ⟨g_x, 0, none⟩)), (4, .pointer (some ⟨g_x2, 0, none⟩)), (5, .pointer (some ⟨g_x3, 0, none⟩)), (6, .int .i64 i), (7, .int .i64 i15), (8, .int .i64 i34), (9, .int .i64 i31)] ∧ Mem w0.heap.size w0 w [.row 73 3 A4 x_P4.length c4 (cIII.all x_P4), .blk g_x3 49 [.int .i64 x_W2, .int .i64 x_H2, .slice A4 x_P4.length c4], .blk g_x2 49 [.int .i64 0, .int .i64 0, .slice none (([] : List (Int × Int × Int))).length 0], .blk g_x 49 [.int .i64 d_W, .int .i64 d_H, .slice A_d_P d_P.length c_d_P]]) h ?_ ?_
                · clear K M h
                  rintro i35 a w ⟨K, M⟩ h
                  try dsimp only at h
                  refine then_n ?_
                  refine wp_seq ?_
                  refine wp_seq ?_
                  refine X_join (Rel := fun (i36 : Bool) a w => Kn a 95 [(1, .int .i64 o), (2, .pointer (some ⟨g_x, 0, none⟩)), (4, .pointer (some ⟨g_x2, 0, none⟩)), (5, .pointer (some ⟨g_x3, 0, none⟩)), (6, .int .i64 i), (7, .int .i64 i15), (8, .int .i64 i35), (9, .int .i64 i31), (73, .bool i36)] ∧ Mem w0.heap.size w0 w [.row 73 3 A4 x_P4.length c4 (cIII.all x_P4), .blk g_x3 49 [.int .i64 x_W2, .int .i64 x_H2, .slice A4 x_P4.length c4], .blk g_x2 49 [.int .i64 0, .int .i64 0, .slice none (([] : List (Int × Int × Int))).length 0], .blk g_x 49 [.int .i64 d_W, .int .i64 d_H, .slice A_d_P d_P.length c_d_P]]) h ?_ ?_
                  · clear K M h
                    rintro i37 a w ⟨K, M⟩ h
                    try dsimp only at h
                    refine then_n ?_
                    refine X_join (Rel := fun (i38 : Int) a w => Kn a 95 [(1, .int .i64 o), (2, .pointer (some ⟨g_x, 0, none⟩)), (4, .pointer (some ⟨g_x2, 0, none⟩)), (5, .pointer (some ⟨g_x3, 0, none⟩)), (6, .int .i64 i), (7, .int .i64 i15), (8, .int .i64 i35), (9, .int .i64 i38)] ∧ Mem w0.heap.size w0 w [.row 73 3 A4 x_P4.length c4 (cIII.all x_P4), .blk g_x3 49 [.int .i64 x_W2, .int .i64 x_H2, .slice A4 x_P4.length c4], .blk g_x2 49 [.int .i64 0, .int .i64 0, .slice none (([] : List (Int × Int × Int))).length 0], .blk g_x 49 [.int .i64 d_W, .int .i64 d_H, .slice A_d_P d_P.length c_d_P]]) h ?_ ?_
                    · clear K M h
                      rintro i39 a w ⟨K, M⟩ h
                      try dsimp only at h
                      refine then_n ?_
                      refine wp_region_tl (fun w => Mem _ _ w _) [0,0,0,0,0,0,0,0,0,0,0,0,1,1,0,2] (by kernel_rfl) (by kernel_rfl) (M.pick [1,2,3] (by decide)).drew ?_
                      replace M := M.drew
                      refine T_rd K (want_no rfl) rfl rfl (rd_field rfl fld49_2 K rfl) ?_; clear K; intro a K
                      refine T_rd K (want_no rfl) rfl rfl (rd_ldC rfl sc47 K rfl (inM 0 rfl) rfl) ?_; clear K; intro a K
                      refine T_rd K (want_no rfl) rfl rfl (rd_field rfl fld49_2 K rfl) ?_; clear K; intro a K
                      refine T_rd K (want_no rfl) rfl rfl (rd_ldC rfl sc47 K rfl (inM 2 rfl) rfl) ?_; clear K; intro a K
                      refine T_rd K (want_no rfl) rfl rfl (rd_move rfl K rfl) ?_; clear K; intro a K
                      refine T_rd K (want_no rfl) rfl rfl (rd_field rfl fld49_0 K rfl) ?_; clear K; intro a K
                      refine T_rd K (want_no rfl) rfl rfl (rd_ldC rfl sc3 K rfl (inM 2 rfl) rfl) ?_; clear K; intro a K
                      refine T_rd K (want_no rfl) rfl rfl (rd_mul rfl K rfl rfl) ?_; clear K; intro a K
                      refine T_rd K (want_no rfl) rfl rfl (rd_move rfl K rfl) ?_; clear K; intro a K
                      refine T_rd K (want_no rfl) rfl rfl (rd_add rfl K rfl rfl) ?_; clear K; intro a K
                      obtain ⟨e3, h_e3, h⟩ := obind h
                      refine T_rd K (want_no rfl) rfl rfl (rd_ix rfl sl47 K rfl rfl (inA R_d_P) h_e3) ?_; clear K; intro a K
                      refine T_rd K (want_no rfl) rfl rfl (rd_elA rfl ty73 K rfl rfl rfl (inA R_d_P) h_e3) ?_; clear K; intro a K
                      refine T_ac K (want_no rfl) rfl rfl (ac_bslice rfl sl47 z73 K (vs := [(0, .agg #[.int .i64 e3.1, .int .i64 e3.2.1, .int .i64 e3.2.2])]) (cs := [.int .i64 e3.1, .int .i64 e3.2.1, .int .i64 e3.2.2]) rfl (by kernel_rfl) rfl rfl M) ?_
                      have M0 := M; clear K M; rintro _ a w ⟨gs3, rfl, M⟩ K
                      replace M := M.asRow 0 rfl cIII ([(e3.1, e3.2.1, e3.2.2)] : List (Int × Int × Int)) (n := 1) rfl rfl rfl
                      clear M0
                      refine ⟨M.pick [2,3,4] (by decide), ?_⟩
                      obtain ⟨x_P6, h_x_P6, h⟩ := obind h
                      refine T_ac K (want_no rfl) rfl rfl (ac_app (C := cIII) (xs := x_P4) (ys := ([(e3.1, e3.2.1, e3.2.2)] : List (Int × Int × Int))) rfl sl47 rfl z73 rfl rfl K rfl rfl 1 M rfl ((inR (C := cIII) 0 rfl rfl) _ M) h_x_P6) ?_
                      have M0 := M; clear K M; rintro _ a w ⟨A6, c6, rfl, M⟩ K
                      clear M0
                      refine ⟨M.pick [2,3,4] (by decide), ?_⟩
                      refine T_rd K (want_no rfl) rfl rfl (rd_field rfl fld49_2 K rfl) ?_; clear K; intro a K
                      refine T_a0z K (want_no rfl) rfl (ac_storeC rfl sc47 K rfl rfl rfl 2 M rfl rfl) ?_
                      have M0 := M; clear K M; rintro _ a w M K
                      clear M0
                      refine T_end ?_
                      refine inb_n ?_
                      refine then_n ?_
                      refine X_reg ?_
                      refine X_rd K (want_no rfl) rfl rfl (rd_move rfl K rfl) M ?_; clear K; intro a K
                      refine X_rd K (want_no rfl) rfl rfl (rd_add rfl K rfl rfl) M ?_; clear K; intro a K
                      obtain ⟨x7, hx, h⟩ := olet h
                      refine X_rd K (want_no rfl) rfl rfl (rdi hx (rd_assign rfl K rfl)) M ?_; clear K; intro a K
                      refine wpList_nil ?_
                      exact then_n ⟨(x_P6, x7), ⟨A6, c6, K.pick [1,2,4,5,6,7], M.pick [1,2,3,4] (by decide)⟩, h⟩
                    · clear h; rintro kk_darkslideref_Turned_j6 hj6 h
                      unfold D_darkslideref_Turned_j6 at h
                      refine X_cond K rfl (fun hb => ?_) (fun hb => ?_)
                      · have h := ctrue hb h
                        refine X_reg ?_
                        refine X_rd K (want_no rfl) rfl rfl (rd_field rfl fld49_1 K rfl) M ?_; clear K; intro a K
                        refine X_rd K (want_no rfl) rfl rfl (rd_ldC rfl sc3 K rfl (inM 3 rfl) rfl) M ?_; clear K; intro a K
                        refine X_rd K (want_no rfl) rfl rfl (rd_sub rfl K rfl rfl) M ?_; clear K; intro a K
                        refine X_rd K (want_no rfl) rfl rfl (rd_move rfl K rfl) M ?_; clear K; intro a K
                        refine X_rd K (want_no rfl) rfl rfl (rd_sub rfl K rfl rfl) M ?_; clear K; intro a K
                        obtain ⟨x6, hx, h⟩ := olet h
                        refine X_rd K (want_no rfl) rfl rfl (rdi hx (rd_assign rfl K rfl)) M ?_; clear K; intro a K
                        refine wpList_nil ?_
                        exact hj6 x6 _ _ ⟨K.pick [1,2,4,5,6,7,8,9], M.pick [0,1,2,3] (by decide)⟩ h
                      · have h := cfalse hb h
                        refine wp_skip ?_
                        exact hj6 i31 _ _ ⟨K.pick [1,2,4,5,6,7,8,9], M.pick [0,1,2,3] (by decide)⟩ h
                  · clear h; rintro kk_darkslideref_Turned_j5 hj5 h
                    unfold D_darkslideref_Turned_j5 at h
                    refine X_reg ?_
                    refine X_rd K (want_no rfl) rfl rfl (rd_move rfl K rfl) M ?_; clear K; intro a K
                    refine X_rd K (want_no rfl) rfl rfl (rd_eql rfl K rfl rfl) M ?_; clear K; intro a K
                    refine X_rd K (want_no rfl) rfl rfl (rd_move rfl K rfl) M ?_; clear K; intro a K
                    rcases Bool.eq_false_or_eq_true (decide (o = 3)) with hb | hb
                    · have h := ctrue hb h
                      have K := K.reb (s := 62) rfl hb
                      refine X_no K (K.no rfl rfl rfl rfl) rfl rfl ?_; clear K; intro a K
                      refine X_no K (K.no rfl rfl rfl rfl) rfl rfl ?_; clear K; intro a K
                      refine X_rd K (want_no rfl) rfl rfl (rd_pickT rfl K rfl rfl) M ?_; clear K; intro a K
                      refine X_rd K (want_no rfl) rfl rfl (rd_move rfl K rfl) M ?_; clear K; intro a K
                      refine X_no K (K.no rfl rfl rfl rfl) rfl rfl ?_; clear K; intro a K
                      refine X_no K (K.no rfl rfl rfl rfl) rfl rfl ?_; clear K; intro a K
                      refine X_rd K (want_no rfl) rfl rfl (rd_pickT rfl K rfl rfl) M ?_; clear K; intro a K
                      refine X_rd K (want_no rfl) rfl rfl (rd_move rfl K rfl) M ?_; clear K; intro a K
                      refine X_no K (K.no rfl rfl rfl rfl) rfl rfl ?_; clear K; intro a K
                      refine X_no K (K.no rfl rfl rfl rfl) rfl rfl ?_; clear K; intro a K
                      refine X_rd K (want_no rfl) rfl rfl (rd_pickT rfl K rfl rfl) M ?_; clear K; intro a K
                      refine wpList_nil ?_
                      exact hj5 true _ _ ⟨K.pick [1,2,4,5,6,7,8,9,73], M.pick [0,1,2,3] (by decide)⟩ h
                    · have h := cfalse hb h
                      have K := K.reb (s := 62) rfl hb
                      refine X_rd K (K.yes rfl rfl rfl) rfl rfl (rd_move rfl K rfl) M ?_; clear K; intro a K
                      refine X_rd K (K.yes rfl rfl rfl) rfl rfl (rd_eql rfl K rfl rfl) M ?_; clear K; intro a K
                      refine X_rd K (want_no rfl) rfl rfl (rd_pickF rfl K rfl rfl) M ?_; clear K; intro a K
                      refine X_rd K (want_no rfl) rfl rfl (rd_move rfl K rfl) M ?_; clear K; intro a K
                      rcases Bool.eq_false_or_eq_true (decide (o = 4)) with hb | hb
                      · have h := ctrue hb h
                        have K := K.reb (s := 66) rfl hb
                        refine X_no K (K.no rfl rfl rfl rfl) rfl rfl ?_; clear K; intro a K
                        refine X_no K (K.no rfl rfl rfl rfl) rfl rfl ?_; clear K; intro a K
                        refine X_rd K (want_no rfl) rfl rfl (rd_pickT rfl K rfl rfl) M ?_; clear K; intro a K
                        refine X_rd K (want_no rfl) rfl rfl (rd_move rfl K rfl) M ?_; clear K; intro a K
                        refine X_no K (K.no rfl rfl rfl rfl) rfl rfl ?_; clear K; intro a K
                        refine X_no K (K.no rfl rfl rfl rfl) rfl rfl ?_; clear K; intro a K
                        refine X_rd K (want_no rfl) rfl rfl (rd_pickT rfl K rfl rfl) M ?_; clear K; intro a K
                        refine wpList_nil ?_
                        exact hj5 true _ _ ⟨K.pick [1,2,4,5,6,7,8,9,73], M.pick [0,1,2,3] (by decide)⟩ h
                      · have h := cfalse hb h
                        have K := K.reb (s := 66) rfl hb
                        refine X_rd K (K.yes rfl rfl rfl) rfl rfl (rd_move rfl K rfl) M ?_; clear K; intro a K
                        refine X_rd K (K.yes rfl rfl rfl) rfl rfl (rd_eql rfl K rfl rfl) M ?_; clear K; intro a K
                        refine X_rd K (want_no rfl) rfl rfl (rd_pickF rfl K rfl rfl) M ?_; clear K; intro a K
                        refine X_rd K (want_no rfl) rfl rfl (rd_move rfl K rfl) M ?_; clear K; intro a K
                        rcases Bool.eq_false_or_eq_true (decide (o = 6)) with hb | hb
                        · have h := ctrue hb h
                          have K := K.reb (s := 70) rfl hb
                          refine X_no K (K.no rfl rfl rfl rfl) rfl rfl ?_; clear K; intro a K
                          refine X_no K (K.no rfl rfl rfl rfl) rfl rfl ?_; clear K; intro a K
                          refine X_rd K (want_no rfl) rfl rfl (rd_pickT rfl K rfl rfl) M ?_; clear K; intro a K
                          refine wpList_nil ?_
                          exact hj5 true _ _ ⟨K.pick [1,2,4,5,6,7,8,9,73], M.pick [0,1,2,3] (by decide)⟩ h
                        · have h := cfalse hb h
                          have K := K.reb (s := 70) rfl hb
                          refine X_rd K (K.yes rfl rfl rfl) rfl rfl (rd_move rfl K rfl) M ?_; clear K; intro a K
                          refine X_rd K (K.yes rfl rfl rfl) rfl rfl (rd_eql rfl K rfl rfl) M ?_; clear K; intro a K
                          refine X_rd K (want_no rfl) rfl rfl (rd_pickF rfl K rfl rfl) M ?_; clear K; intro a K
                          refine wpList_nil ?_
                          exact hj5 (decide (o = 7)) _ _ ⟨K.pick [1,2,4,5,6,7,8,9,73], M.pick [0,1,2,3] (by decide)⟩ h
                · clear h; rintro kk_darkslideref_Turned_j4 hj4 h
                  unfold D_darkslideref_Turned_j4 at h
                  refine X_cond K rfl (fun hb => ?_) (fun hb => ?_)
                  · have h := ctrue hb h
                    refine X_reg ?_
                    refine X_rd K (want_no rfl) rfl rfl (rd_field rfl fld49_0 K rfl) M ?_; clear K; intro a K
                    refine X_rd K (want_no rfl) rfl rfl (rd_ldC rfl sc3 K rfl (inM 3 rfl) rfl) M ?_; clear K; intro a K
                    refine X_rd K (want_no rfl) rfl rfl (rd_sub rfl K rfl rfl) M ?_; clear K; intro a K
                    refine X_rd K (want_no rfl) rfl rfl (rd_move rfl K rfl) M ?_; clear K; intro a K
                    refine X_rd K (want_no rfl) rfl rfl (rd_sub rfl K rfl rfl) M ?_; clear K; intro a K
                    obtain ⟨x5, hx, h⟩ := olet h
                    refine X_rd K (want_no rfl) rfl rfl (rdi hx (rd_assign rfl K rfl)) M ?_; clear K; intro a K
                    refine wpList_nil ?_
                    exact hj4 x5 _ _ ⟨K.pick [1,2,4,5,6,7,8,9], M.pick [0,1,2,3] (by decide)⟩ h
                  · have h := cfalse hb h
                    refine wp_skip ?_
                    exact hj4 i30 _ _ ⟨K.pick [1,2,4,5,6,7,8,9], M.pick [0,1,2,3] (by decide)⟩ h
              · clear h; rintro kk_darkslideref_Turned_j3 hj3 h
                unfold D_darkslideref_Turned_j3 at h
                refine X_reg ?_
                refine X_rd K (want_no rfl) rfl rfl (rd_move rfl K rfl) M ?_; clear K; intro a K
                refine X_rd K (want_no rfl) rfl rfl (rd_eql rfl K rfl rfl) M ?_; clear K; intro a K
                refine X_rd K (want_no rfl) rfl rfl (rd_move rfl K rfl) M ?_; clear K; intro a K
                rcases Bool.eq_false_or_eq_true (decide (o = 2)) with hb | hb
                · have h := ctrue hb h
                  have K := K.reb (s := 43) rfl hb
                  refine X_no K (K.no rfl rfl rfl rfl) rfl rfl ?_; clear K; intro a K
                  refine X_no K (K.no rfl rfl rfl rfl) rfl rfl ?_; clear K; intro a K
                  refine X_rd K (want_no rfl) rfl rfl (rd_pickT rfl K rfl rfl) M ?_; clear K; intro a K
                  refine X_rd K (want_no rfl) rfl rfl (rd_move rfl K rfl) M ?_; clear K; intro a K
                  refine X_no K (K.no rfl rfl rfl rfl) rfl rfl ?_; clear K; intro a K
                  refine X_no K (K.no rfl rfl rfl rfl) rfl rfl ?_; clear K; intro a K
                  refine X_rd K (want_no rfl) rfl rfl (rd_pickT rfl K rfl rfl) M ?_; clear K; intro a K
                  refine X_rd K (want_no rfl) rfl rfl (rd_move rfl K rfl) M ?_; clear K; intro a K
                  refine X_no K (K.no rfl rfl rfl rfl) rfl rfl ?_; clear K; intro a K
                  refine X_no K (K.no rfl rfl rfl rfl) rfl rfl ?_; clear K; intro a K
                  refine X_rd K (want_no rfl) rfl rfl (rd_pickT rfl K rfl rfl) M ?_; clear K; intro a K
                  refine wpList_nil ?_
                  exact hj3 true _ _ ⟨K.pick [1,2,4,5,6,7,8,9,54], M.pick [0,1,2,3] (by decide)⟩ h
                · have h := cfalse hb h
                  have K := K.reb (s := 43) rfl hb
                  refine X_rd K (K.yes rfl rfl rfl) rfl rfl (rd_move rfl K rfl) M ?_; clear K; intro a K
                  refine X_rd K (K.yes rfl rfl rfl) rfl rfl (rd_eql rfl K rfl rfl) M ?_; clear K; intro a K
                  refine X_rd K (want_no rfl) rfl rfl (rd_pickF rfl K rfl rfl) M ?_; clear K; intro a K
                  refine X_rd K (want_no rfl) rfl rfl (rd_move rfl K rfl) M ?_; clear K; intro a K
                  rcases Bool.eq_false_or_eq_true (decide (o = 3)) with hb | hb
                  · have h := ctrue hb h
                    have K := K.reb (s := 47) rfl hb
                    refine X_no K (K.no rfl rfl rfl rfl) rfl rfl ?_; clear K; intro a K
                    refine X_no K (K.no rfl rfl rfl rfl) rfl rfl ?_; clear K; intro a K
                    refine X_rd K (want_no rfl) rfl rfl (rd_pickT rfl K rfl rfl) M ?_; clear K; intro a K
                    refine X_rd K (want_no rfl) rfl rfl (rd_move rfl K rfl) M ?_; clear K; intro a K
                    refine X_no K (K.no rfl rfl rfl rfl) rfl rfl ?_; clear K; intro a K
                    refine X_no K (K.no rfl rfl rfl rfl) rfl rfl ?_; clear K; intro a K
                    refine X_rd K (want_no rfl) rfl rfl (rd_pickT rfl K rfl rfl) M ?_; clear K; intro a K
                    refine wpList_nil ?_
                    exact hj3 true _ _ ⟨K.pick [1,2,4,5,6,7,8,9,54], M.pick [0,1,2,3] (by decide)⟩ h
                  · have h := cfalse hb h
                    have K := K.reb (s := 47) rfl hb
                    refine X_rd K (K.yes rfl rfl rfl) rfl rfl (rd_move rfl K rfl) M ?_; clear K; intro a K
                    refine X_rd K (K.yes rfl rfl rfl) rfl rfl (rd_eql rfl K rfl rfl) M ?_; clear K; intro a K
                    refine X_rd K (want_no rfl) rfl rfl (rd_pickF rfl K rfl rfl) M ?_; clear K; intro a K
                    refine X_rd K (want_no rfl) rfl rfl (rd_move rfl K rfl) M ?_; clear K; intro a K
                    rcases Bool.eq_false_or_eq_true (decide (o = 7)) with hb | hb
                    · have h := ctrue hb h
                      have K := K.reb (s := 51) rfl hb
                      refine X_no K (K.no rfl rfl rfl rfl) rfl rfl ?_; clear K; intro a K
                      refine X_no K (K.no rfl rfl rfl rfl) rfl rfl ?_; clear K; intro a K
                      refine X_rd K (want_no rfl) rfl rfl (rd_pickT rfl K rfl rfl) M ?_; clear K; intro a K
                      refine wpList_nil ?_
                      exact hj3 true _ _ ⟨K.pick [1,2,4,5,6,7,8,9,54], M.pick [0,1,2,3] (by decide)⟩ h
                    · have h := cfalse hb h
                      have K := K.reb (s := 51) rfl hb
                      refine X_rd K (K.yes rfl rfl rfl) rfl rfl (rd_move rfl K rfl) M ?_; clear K; intro a K
                      refine X_rd K (K.yes rfl rfl rfl) rfl rfl (rd_eql rfl K rfl rfl) M ?_; clear K; intro a K
                      refine X_rd K (want_no rfl) rfl rfl (rd_pickF rfl K rfl rfl) M ?_; clear K; intro a K
                      refine wpList_nil ?_
                      exact hj3 (decide (o = 8)) _ _ ⟨K.pick [1,2,4,5,6,7,8,9,54], M.pick [0,1,2,3] (by decide)⟩ h
            · clear h; rintro kk_darkslideref_Turned_j2 hj2 h
              unfold D_darkslideref_Turned_j2 at h
              refine X_cond K rfl (fun hb => ?_) (fun hb => ?_)
              · have h := ctrue hb h
                refine X_reg ?_
                refine X_rd K (want_no rfl) rfl rfl (rd_move rfl K rfl) M ?_; clear K; intro a K
                refine X_rd K (want_no rfl) rfl rfl (rd_move rfl K rfl) M ?_; clear K; intro a K
                refine X_rd K (want_no rfl) rfl rfl (rd_assign rfl K rfl) M ?_; clear K; intro a K
                refine X_rd K (want_no rfl) rfl rfl (rd_assign rfl K rfl) M ?_; clear K; intro a K
                refine wpList_nil ?_
                exact hj2 (i, i15) _ _ ⟨K.pick [1,2,4,5,6,7,8,9], M.pick [0,1,2,3] (by decide)⟩ h
              · have h := cfalse hb h
                refine wp_skip ?_
                exact hj2 (i15, i) _ _ ⟨K.pick [1,2,4,5,6,7,8,9], M.pick [0,1,2,3] (by decide)⟩ h
          · have h := cfalse hb h
            refine wp_exit ?_
            refine then_e ?_
            exact then_e (hk2 (x_P4, i15) _ _ ⟨A4, c4, K.pick [1,2,4,5,6,7], M.pick [0,1,2,3] (by decide)⟩ h)
      · have h := cfalse hb h
        refine wp_exit ?_
        refine then_e ?_
        exact then_e (hk1 (x_P, i) _ _ ⟨A, c, K.pick [1,2,4,5,6], M.pick [0,1,2,3] (by decide)⟩ h)
  · clear h; rintro kk_darkslideref_Turned_j1 hj1 h
    unfold D_darkslideref_Turned_j1 at h
    refine X_cond K rfl (fun hb => ?_) (fun hb => ?_)
    · have h := ctrue hb h
      refine wp_region_tl (fun w => Mem _ _ w _) [0,0,0,0,0,1,0,2] (by kernel_rfl) (by kernel_rfl) (M.pick [1,2] (by decide)).drew ?_
      replace M := M.drew
      refine T_rd K (want_no rfl) rfl rfl (rd_field rfl fld49_1 K rfl) ?_; clear K; intro a K
      refine T_rd K (want_no rfl) rfl rfl (rd_ldC rfl sc3 K rfl (inM 1 rfl) rfl) ?_; clear K; intro a K
      refine T_rd K (want_no rfl) rfl rfl (rd_field rfl fld49_0 K rfl) ?_; clear K; intro a K
      refine T_rd K (want_no rfl) rfl rfl (rd_ldC rfl sc3 K rfl (inM 1 rfl) rfl) ?_; clear K; intro a K
      refine T_rd K (want_no rfl) rfl rfl (rd_field rfl fld49_0 K rfl) ?_; clear K; intro a K
      refine T_a0 K (want_no rfl) rfl (ac_storeC rfl sc3 K rfl rfl rfl 0 M rfl rfl) ?_
      have M0 := M; clear K M; rintro _ a w M K
      clear M0
      refine ⟨M.pick [1,2] (by decide), ?_⟩
      refine T_rd K (want_no rfl) rfl rfl (rd_field rfl fld49_1 K rfl) ?_; clear K; intro a K
      refine T_a0z K (want_no rfl) rfl (ac_storeC rfl sc3 K rfl rfl rfl 0 M rfl rfl) ?_
      have M0 := M; clear K M; rintro _ a w M K
      clear M0
      refine T_end ?_
      exact hj1 (d_H, d_W) _ _ ⟨K.pick [1,2,4,5], M.pick [0,1,2] (by decide)⟩ h
    · have h := cfalse hb h
      refine wp_skip ?_
      exact hj1 (d_W, d_H) _ _ ⟨K.pick [1,2,4,5], M.pick [0,1,2] (by decide)⟩ h

end Go.Proofs.Ytpmnfhifmmfglaa
