/- Printed by a program (walk.py): the walks of darkslideref_Taken: each function computes what its plain program tells. -/
import Derived.Test.YtpmnfhifmmfglaaFacts
import Derived.Test.YtpmnfhifmmfglaaDD
import Derived.Test.YtpmnfhifmmfglaaWRefColourat
import Derived.Test.YtpmnfhifmmfglaaWRefParts
set_option linter.unusedVariables false
set_option linter.unusedSimpArgs false
set_option linter.unusedSectionVars false
namespace Go.Proofs.Ytpmnfhifmmfglaa
open Go.RowKit

set_option maxRecDepth 100000 in
set_option maxHeartbeats 4000000 in
theorem W_darkslideref_Taken (N : Nat) (q_W : Int) (q_H : Int) (q_P : List (Int × Int × Int)) (A_q_P : Option Addr) (c_q_P : Nat) (phase : Int) (w0 : World) (R_q_P : SL w0 cIII A_q_P q_P) (C_q_P : q_P.length ≤ c_q_P) (r : Int × Int × List Int) (h : D_darkslideref_Taken N q_W q_H q_P phase = some r) :
    Calls Try.prog 42 #[.agg #[.int .i64 q_W, .int .i64 q_H, .slice A_q_P q_P.length c_q_P], .int .i64 phase] w0 fun e w' => ∃ v, e = .returned v ∧ ∃ A2 c2, v = .agg #[.int .i64 r.1, .int .i64 r.2.1, .slice A2 r.2.2.length c2] ∧ Mem w0.heap.size w0 w' [.row 3 1 A2 r.2.2.length c2 ((cI .i64).all r.2.2)] := by
  refine X_enter Try.func42 rfl Try.ntmps42 rfl ?_
  intro a K
  have M := Mem.start w0
  have K : Kn a 42 [(0, .agg #[.int .i64 q_W, .int .i64 q_H, .slice A_q_P q_P.length c_q_P]), (1, .int .i64 phase)] := K
  unfold D_darkslideref_Taken at h
  refine wp_seq ?_
  refine X_reg ?_
  refine X_ac K (want_no rfl) rfl rfl (ac_box rfl K rfl (cs := [.int .i64 q_W, .int .i64 q_H, .slice A_q_P q_P.length c_q_P]) rfl M) ?_
  have M0 := M; clear K M; rintro _ a w ⟨g_q, rfl, M⟩ K
  clear M0
  refine X_ac K (want_no rfl) rfl rfl (ac_alloc rfl z24 M) ?_
  have M0 := M; clear K M; rintro _ a w ⟨g_x, rfl, M⟩ K
  clear M0
  refine wpList_nil ?_
  refine then_n ?_
  refine wp_seq ?_
  refine X_reg ?_
  refine X_rd K (want_no rfl) rfl rfl (rd_field rfl fld49_0 K rfl) M ?_; clear K; intro a K
  refine X_rd K (want_no rfl) rfl rfl (rd_ldC rfl sc3 K rfl (inM 1 rfl) rfl) M ?_; clear K; intro a K
  refine X_rd K (want_no rfl) rfl rfl (rd_field rfl fld49_1 K rfl) M ?_; clear K; intro a K
  refine X_rd K (want_no rfl) rfl rfl (rd_ldC rfl sc3 K rfl (inM 1 rfl) rfl) M ?_; clear K; intro a K
  refine X_rd K (want_no rfl) rfl rfl (rd_build rfl K (vs := [(0, .int .i64 q_W), (1, .int .i64 q_H)]) (cs := [.int .i64 q_W, .int .i64 q_H, .slice none ([] : List Int).length 0]) rfl (by kernel_rfl)) M ?_; clear K; intro a K
  refine X_ac K (want_no rfl) rfl rfl (ac_alloc rfl z24 M) ?_
  have M0 := M; clear K M; rintro _ a w ⟨g_out, rfl, M⟩ K
  clear M0
  refine X_a0 K (want_no rfl) rfl (ac_storeA rfl ty24 K rfl (ds := [.int .i64 q_W, .int .i64 q_H, .slice none ([] : List Int).length 0]) rfl rfl 0 M rfl rfl rfl) ?_
  have M0 := M; clear K M; rintro _ a w M K
  clear M0
  refine wpList_nil ?_
  refine then_n ?_
  refine wp_seq ?_
  refine wp_seq ?_
  refine X_reg ?_
  refine X_rd K (want_no rfl) rfl rfl (rd_assign rfl K rfl) M ?_; clear K; intro a K
  refine wpList_nil ?_
  refine then_n ?_
  refine wp_block ?_
  replace M := Mem.nilrow 3 1 (cI .i64) M
  refine X_lp (id := 0) (Rel := fun (⟨out_P, i⟩ : List Int × Int) a w => ∃ (A : Option Addr) (c : Nat), Kn a 42 [(1, .int .i64 phase), (2, .pointer (some ⟨g_q, 0, none⟩)), (4, .pointer (some ⟨g_x, 0, none⟩)), (5, .pointer (some ⟨g_out, 0, none⟩)), (6, .int .i64 i)] ∧ Mem w0.heap.size w0 w [.row 3 1 A out_P.length c ((cI .i64).all out_P), .blk g_out 24 [.int .i64 q_W, .int .i64 q_H, .slice A out_P.length c], .blk g_x 24 [.int .i64 0, .int .i64 0, .slice none ([] : List Int).length 0], .blk g_q 49 [.int .i64 q_W, .int .i64 q_H, .slice A_q_P q_P.length c_q_P]]) h (fun _ _ => rfl) ⟨none, 0, K.pick [1,2,4,5,6], M.pick [0,1,2,3] (by decide)⟩ ?_ ?_
  · clear K M h
    rintro ⟨out_P4, i4⟩ a w ⟨A4, c4, K, M⟩ h
    try dsimp only at h
    refine inb_e ?_
    refine then_n ?_
    refine wp_seq ?_
    refine X_reg ?_
    refine X_rd K (want_no rfl) rfl rfl (rd_ldA rfl ty24 K rfl (inM 1 rfl) rfl rfl) M ?_; clear K; intro a K
    refine X_a0 K (want_no rfl) rfl (ac_storeA rfl ty24 K rfl (ds := [.int .i64 q_W, .int .i64 q_H, .slice A4 out_P4.length c4]) rfl rfl 2 M rfl rfl rfl) ?_
    have M0 := M; clear K M; rintro _ a w M K
    clear M0
    refine wpList_nil ?_
    refine then_n ?_
    refine wp_ret ?_
    cases h
    exact ret1 K rfl (res_cellA K rfl ty24 (M.blkAt (i := 2) rfl) rfl) ⟨_, rfl, _, _, rfl, ((M).pick [0] (by decide))⟩
  · clear K M h
    rintro kk fuel ⟨out_P, i⟩ a w hk1 ⟨A, c, K, M⟩ h
    unfold D_darkslideref_Taken_l1 at h
    refine wp_seq ?_
    refine wp_seq ?_
    refine X_reg ?_
    refine X_rd K (want_no rfl) rfl rfl (rd_move rfl K rfl) M ?_; clear K; intro a K
    refine X_rd K (want_no rfl) rfl rfl (rd_field rfl fld49_2 K rfl) M ?_; clear K; intro a K
    refine X_rd K (want_no rfl) rfl rfl (rd_ldC rfl sc47 K rfl (inM 3 rfl) rfl) M ?_; clear K; intro a K
    refine X_rd K (want_no rfl) rfl rfl (rd_len rfl un47 K rfl) M ?_; clear K; intro a K
    refine X_rd K (want_no rfl) rfl rfl (rd_lss rfl K rfl rfl) M ?_; clear K; intro a K
    refine wpList_nil ?_
    refine then_n ?_
    refine X_cond K rfl (fun hb => ?_) (fun hb => ?_)
    · have h := ctrue hb h
      refine wp_skip ?_
      refine then_n ?_
      refine wp_seq ?_
      refine wp_block ?_
      refine wp_region_tl (fun w => Mem _ _ w _) [0,0,0,0,0,0,0,1,0,0,0,0,0,0,0,0,0,1,1,1,1,0,2] (by kernel_rfl) (by kernel_rfl) (M.pick [1,2,3] (by decide)).drew ?_
      replace M := M.drew
      refine T_rd K (want_no rfl) rfl rfl (rd_field rfl fld24_2 K rfl) ?_; clear K; intro a K
      refine T_rd K (want_no rfl) rfl rfl (rd_ldC rfl sc22 K rfl (inM 0 rfl) rfl) ?_; clear K; intro a K
      refine T_rd K (want_no rfl) rfl rfl (rd_field rfl fld49_2 K rfl) ?_; clear K; intro a K
      refine T_rd K (want_no rfl) rfl rfl (rd_ldC rfl sc47 K rfl (inM 2 rfl) rfl) ?_; clear K; intro a K
      refine T_rd K (want_no rfl) rfl rfl (rd_move rfl K rfl) ?_; clear K; intro a K
      obtain ⟨e3, h_e3, h⟩ := obind h
      refine T_rd K (want_no rfl) rfl rfl (rd_ix rfl sl47 K rfl rfl (inA R_q_P) h_e3) ?_; clear K; intro a K
      refine T_rd K (want_no rfl) rfl rfl (rd_elA rfl ty73 K rfl rfl rfl (inA R_q_P) h_e3) ?_; clear K; intro a K
      obtain ⟨r4, h_r4, h⟩ := obind h
      refine T_ac K (want_no rfl) rfl rfl (ac_call (vs := [.agg #[.int .i64 e3.1, .int .i64 e3.2.1, .int .i64 e3.2.2]]) (cap := []) rfl fok81 K rfl rfl (W_darkslideref_parts N e3.1 e3.2.1 e3.2.2 _  r4 h_r4)) ?_
      have M0 := M; clear K M; rintro _ a w ⟨rfl, M⟩ K
      have M := M0.call M
      clear M0
      refine ⟨M.pick [1,2,3] (by decide), ?_⟩
      refine T_rd K (want_no rfl) rfl rfl (rd_move rfl K rfl) ?_; clear K; intro a K
      refine T_rd K (want_no rfl) rfl rfl (rd_move rfl K rfl) ?_; clear K; intro a K
      refine T_rd K (want_no rfl) rfl rfl (rd_field rfl fld49_0 K rfl) ?_; clear K; intro a K
      refine T_rd K (want_no rfl) rfl rfl (rd_ldC rfl sc3 K rfl (inM 2 rfl) rfl) ?_; clear K; intro a K
      obtain ⟨_, h0, h⟩ := obind h
      have h0 := nz_spec h0
      refine T_rd K (want_no rfl) rfl rfl (rd_rem rfl K rfl rfl h0) ?_; clear K; intro a K
      refine T_rd K (want_no rfl) rfl rfl (rd_move rfl K rfl) ?_; clear K; intro a K
      refine T_rd K (want_no rfl) rfl rfl (rd_field rfl fld49_0 K rfl) ?_; clear K; intro a K
      refine T_rd K (want_no rfl) rfl rfl (rd_ldC rfl sc3 K rfl (inM 2 rfl) rfl) ?_; clear K; intro a K
      obtain ⟨_, h0, h⟩ := obind h
      have h0 := nz_spec h0
      refine T_rd K (want_no rfl) rfl rfl (rd_quo rfl K rfl rfl h0) ?_; clear K; intro a K
      obtain ⟨r5, h_r5, h⟩ := obind h
      refine T_ac K (want_no rfl) rfl rfl (ac_call (vs := [.int .i64 phase, .int .i64 (Int.tmod i q_W), .int .i64 (IntKind.i64.wrap (Int.tdiv i q_W))]) (cap := []) rfl fok26 K rfl rfl (W_darkslideref_ColourAt N phase (Int.tmod i q_W) (IntKind.i64.wrap (Int.tdiv i q_W)) _  r5 h_r5)) ?_
      have M0 := M; clear K M; rintro _ a w ⟨rfl, M⟩ K
      have M := M0.call M
      clear M0
      refine ⟨M.pick [1,2,3] (by decide), ?_⟩
      obtain ⟨e4, h_e4, h⟩ := obind h
      refine T_rd1 K (want_no rfl) rfl rfl (rd_ixV (C := (cI .i64)) (es := [r4.1, r4.2.1, r4.2.2]) rfl ar39 sc3 K rfl rfl rfl h_e4 rfl) M (M.pick [1,2,3] (by decide)) ?_; clear K; intro a K
      refine T_ac K (want_no rfl) rfl rfl (ac_bslice rfl sl22 z3 K (vs := [(0, .int .i64 e4)]) (cs := [.int .i64 e4]) rfl (by kernel_rfl) rfl rfl M) ?_
      have M0 := M; clear K M; rintro _ a w ⟨gs2, rfl, M⟩ K
      replace M := M.asRow 0 rfl (cI .i64) ([e4] : List Int) (n := 1) rfl rfl rfl
      clear M0
      refine ⟨M.pick [2,3,4] (by decide), ?_⟩
      obtain ⟨out_P3, h_out_P3, h⟩ := obind h
      refine T_ac K (want_no rfl) rfl rfl (ac_app (C := (cI .i64)) (xs := out_P) (ys := ([e4] : List Int)) rfl sl22 rfl z3 rfl rfl K rfl rfl 1 M rfl ((inR (C := (cI .i64)) 0 rfl rfl) _ M) h_out_P3) ?_
      have M0 := M; clear K M; rintro _ a w ⟨A3, c3, rfl, M⟩ K
      clear M0
      refine ⟨M.pick [2,3,4] (by decide), ?_⟩
      refine T_rd K (want_no rfl) rfl rfl (rd_field rfl fld24_2 K rfl) ?_; clear K; intro a K
      refine T_a0z K (want_no rfl) rfl (ac_storeC rfl sc22 K rfl rfl rfl 2 M rfl rfl) ?_
      have M0 := M; clear K M; rintro _ a w M K
      clear M0
      refine T_end ?_
      refine inb_n ?_
      refine then_n ?_
      refine X_reg ?_
      refine X_rd K (want_no rfl) rfl rfl (rd_move rfl K rfl) M ?_; clear K; intro a K
      refine X_rd K (want_no rfl) rfl rfl (rd_add rfl K rfl rfl) M ?_; clear K; intro a K
      obtain ⟨i3, hx, h⟩ := olet h
      refine X_rd K (want_no rfl) rfl rfl (rdi hx (rd_assign rfl K rfl)) M ?_; clear K; intro a K
      refine wpList_nil ?_
      exact then_n ⟨(out_P3, i3), ⟨A3, c3, K.pick [1,2,4,5,6], M.pick [1,2,3,4] (by decide)⟩, h⟩
    · have h := cfalse hb h
      refine wp_exit ?_
      refine then_e ?_
      exact then_e (hk1 (out_P, i) _ _ ⟨A, c, K.pick [1,2,4,5,6], M.pick [0,1,2,3] (by decide)⟩ h)

end Go.Proofs.Ytpmnfhifmmfglaa
