/- Printed by a program (walk.py): the walks of darkslideref_OnCurve: each function computes what its plain program tells. -/
import Derived.Test.YtpmnfhifmmfglaaFacts
import Derived.Test.YtpmnfhifmmfglaaDD
set_option linter.unusedVariables false
set_option linter.unusedSimpArgs false
set_option linter.unusedSectionVars false
namespace Go.Proofs.Ytpmnfhifmmfglaa
open Go.RowKit

set_option maxRecDepth 100000 in
set_option maxHeartbeats 4000000 in
theorem W_darkslideref_OnCurve (N : Nat) (l2 : List (Int × Int)) (A_l2 : Option Addr) (c_l2 : Nat) (x2 : Int) (w0 : World) (R_l2 : SL w0 cII A_l2 l2) (C_l2 : l2.length ≤ c_l2) (r : Int) (h : D_darkslideref_OnCurve N l2 x2 = some r) :
    Calls Try.prog 52 #[.slice A_l2 l2.length c_l2, .int .i64 x2] w0 fun e w' => ∃ v, e = .returned v ∧ v = .int .i64 r ∧ Mem w0.heap.size w0 w' [] := by
  refine X_enter Try.func52 rfl Try.ntmps52 rfl ?_
  intro a K
  have M := Mem.start w0
  have K : Kn a 45 [(0, .slice A_l2 l2.length c_l2), (1, .int .i64 x2)] := K
  unfold D_darkslideref_OnCurve at h
  refine wp_seq ?_
  refine X_reg ?_
  refine X_rd K (want_no rfl) rfl rfl (rd_assign rfl K rfl) M ?_; clear K; intro a K
  refine wpList_nil ?_
  refine then_n ?_
  refine wp_seq ?_
  refine X_reg ?_
  refine X_rd K (want_no rfl) rfl rfl (rd_assign rfl K rfl) M ?_; clear K; intro a K
  refine wpList_nil ?_
  refine then_n ?_
  refine wp_seq ?_
  refine wp_block ?_
  refine X_lp (id := 0) (Rel := fun (i : Int) a w => Kn a 45 [(0, .slice A_l2 l2.length c_l2), (1, .int .i64 x2), (5, .int .i64 i)] ∧ Mem w0.heap.size w0 w []) h (fun _ _ => rfl) ⟨K.pick [0,1,5], M.pick [] (by decide)⟩ ?_ ?_
  · clear K M h
    rintro i4 a w ⟨K, M⟩ h
    try dsimp only at h
    refine inb_e ?_
    refine then_n ?_
    refine wp_seq ?_
    refine wp_region_tr (fun w => Mem _ _ w _) [0,0,0,0,0,0,0,0,0,1,1,1,2] 13 [0,1,2,3,4,5,6,7,8,9,10,11,12] (by kernel_rfl) (by kernel_rfl) (by kernel_rfl) rfl M.drew ?_
    replace M := M.drew
    refine R_rd 0 [1,2,3,4,5,6,7,8,9,10,11,12] (by kernel_rfl) rfl K (want_no rfl) rfl rfl (rd_move rfl K rfl) ?_; clear K; intro a K
    refine R_rd 1 [2,3,4,5,6,7,8,9,10,11,12] (by kernel_rfl) rfl K (want_no rfl) rfl rfl (rd_move rfl K rfl) ?_; clear K; intro a K
    refine R_rd 2 [3,4,5,6,7,8,9,10,11,12] (by kernel_rfl) rfl K (want_no rfl) rfl rfl (rd_sub rfl K rfl rfl) ?_; clear K; intro a K
    obtain ⟨e3, h_e3, h⟩ := obind h
    refine R_rd 3 [4,5,6,7,8,9,10,11,12] (by kernel_rfl) rfl K (want_no rfl) rfl rfl (rd_ix rfl sl80 K rfl rfl (inA R_l2) h_e3) ?_; clear K; intro a K
    refine R_rd 4 [5,6,7,8,9,10,11,12] (by kernel_rfl) rfl K (want_no rfl) rfl rfl (rd_elA rfl ty88 K rfl rfl rfl (inA R_l2) h_e3) ?_; clear K; intro a K
    refine R_rd 5 [6,7,8,9,10,11,12] (by kernel_rfl) rfl K (want_no rfl) rfl rfl (rd_move rfl K rfl) ?_; clear K; intro a K
    refine R_rd 6 [7,8,9,10,11,12] (by kernel_rfl) rfl K (want_no rfl) rfl rfl (rd_move rfl K rfl) ?_; clear K; intro a K
    obtain ⟨e4, h_e4, h⟩ := obind h
    refine R_rd 7 [8,9,10,11,12] (by kernel_rfl) rfl K (want_no rfl) rfl rfl (rd_ix rfl sl80 K rfl rfl (inA R_l2) h_e4) ?_; clear K; intro a K
    refine R_rd 8 [9,10,11,12] (by kernel_rfl) rfl K (want_no rfl) rfl rfl (rd_elA rfl ty88 K rfl rfl rfl (inA R_l2) h_e4) ?_; clear K; intro a K
    refine R_br [9,10] (by kernel_rfl) ⟨?_, ?_, trivial⟩
    ·
      refine R_ac [10,11,12] (by kernel_rfl) rfl K (want_no rfl) rfl rfl (ac_alloc rfl z88 M) ?_
      have M0 := M; clear K M; rintro _ a w ⟨g_a, rfl, M⟩ K
      clear M0
      refine ⟨fun _ => M.pick [] (by decide), ?_⟩
      refine R_br [10] (by kernel_rfl) ⟨?_, trivial⟩
      refine R_ac [11,12] (by kernel_rfl) rfl K (want_no rfl) rfl rfl (ac_alloc rfl z88 M) ?_
      have M0 := M; clear K M; rintro _ a w ⟨g_b, rfl, M⟩ K
      clear M0
      refine ⟨fun _ => M.pick [] (by decide), ?_⟩
      refine R_br [11] (by kernel_rfl) ⟨?_, trivial⟩
      refine R_a0 [12] (by kernel_rfl) rfl K (want_no rfl) rfl (ac_storeA rfl ty88 K rfl (ds := [.int .i64 e3.1, .int .i64 e3.2]) rfl rfl 1 M rfl rfl rfl) ?_
      have M0 := M; clear K M; rintro _ a w M K
      clear M0
      refine ⟨fun _ => M.pick [] (by decide), ?_⟩
      refine R_br [12] (by kernel_rfl) ⟨?_, trivial⟩
      refine R_a0 [] (by kernel_rfl) rfl K (want_no rfl) rfl (ac_storeA rfl ty88 K rfl (ds := [.int .i64 e4.1, .int .i64 e4.2]) rfl rfl 0 M rfl rfl rfl) ?_
      have M0 := M; clear K M; rintro _ a w M K
      clear M0
      refine ⟨fun h => absurd h (by decide), ?_⟩
      refine R_end ?_
      refine then_n ?_
      refine wp_seq ?_
      refine wp_region_tl (fun w => Mem _ _ w _) [0,0,0,0,0,0,0,0,0,0,0,0,0,0,0,0,0,0,0,0] (by kernel_rfl) (by kernel_rfl) M.drew ?_
      replace M := M.drew
      refine T_rd K (want_no rfl) rfl rfl (rd_field rfl fld88_1 K rfl) ?_; clear K; intro a K
      refine T_rd K (want_no rfl) rfl rfl (rd_ldC rfl sc3 K rfl (inM 1 rfl) rfl) ?_; clear K; intro a K
      refine T_rd K (want_no rfl) rfl rfl (rd_field rfl fld88_1 K rfl) ?_; clear K; intro a K
      refine T_rd K (want_no rfl) rfl rfl (rd_ldC rfl sc3 K rfl (inM 0 rfl) rfl) ?_; clear K; intro a K
      refine T_rd K (want_no rfl) rfl rfl (rd_field rfl fld88_1 K rfl) ?_; clear K; intro a K
      refine T_rd K (want_no rfl) rfl rfl (rd_ldC rfl sc3 K rfl (inM 1 rfl) rfl) ?_; clear K; intro a K
      refine T_rd K (want_no rfl) rfl rfl (rd_sub rfl K rfl rfl) ?_; clear K; intro a K
      refine T_rd K (want_no rfl) rfl rfl (rd_move rfl K rfl) ?_; clear K; intro a K
      refine T_rd K (want_no rfl) rfl rfl (rd_field rfl fld88_0 K rfl) ?_; clear K; intro a K
      refine T_rd K (want_no rfl) rfl rfl (rd_ldC rfl sc3 K rfl (inM 1 rfl) rfl) ?_; clear K; intro a K
      refine T_rd K (want_no rfl) rfl rfl (rd_sub rfl K rfl rfl) ?_; clear K; intro a K
      refine T_rd K (want_no rfl) rfl rfl (rd_mul rfl K rfl rfl) ?_; clear K; intro a K
      refine T_rd K (want_no rfl) rfl rfl (rd_field rfl fld88_0 K rfl) ?_; clear K; intro a K
      refine T_rd K (want_no rfl) rfl rfl (rd_ldC rfl sc3 K rfl (inM 0 rfl) rfl) ?_; clear K; intro a K
      refine T_rd K (want_no rfl) rfl rfl (rd_field rfl fld88_0 K rfl) ?_; clear K; intro a K
      refine T_rd K (want_no rfl) rfl rfl (rd_ldC rfl sc3 K rfl (inM 1 rfl) rfl) ?_; clear K; intro a K
      refine T_rd K (want_no rfl) rfl rfl (rd_sub rfl K rfl rfl) ?_; clear K; intro a K
      obtain ⟨_, h0, h⟩ := obind h
      have h0 := nz_spec h0
      refine T_rd K (want_no rfl) rfl rfl (rd_quo rfl K rfl rfl h0) ?_; clear K; intro a K
      obtain ⟨x3, hx, h⟩ := olet h
      refine T_rd K (want_no rfl) rfl rfl (rdi hx (rd_add rfl K rfl rfl)) ?_; clear K; intro a K
      refine T_rd K (want_no rfl) rfl rfl (rd_assign rfl K rfl) ?_; clear K; intro a K
      refine T_end ?_
      refine then_n ?_
      refine wp_ret ?_
      cases h
      exact ret1 K rfl (res_tmp K rfl) ⟨_, rfl, rfl, ((M).pick [] (by decide))⟩
    ·
      refine R_ac [9,11,12] (by kernel_rfl) rfl K (want_no rfl) rfl rfl (ac_alloc rfl z88 M) ?_
      have M0 := M; clear K M; rintro _ a w ⟨g_b2, rfl, M⟩ K
      clear M0
      refine ⟨fun _ => M.pick [] (by decide), ?_⟩
      refine R_br [9] (by kernel_rfl) ⟨?_, trivial⟩
      refine R_ac [11,12] (by kernel_rfl) rfl K (want_no rfl) rfl rfl (ac_alloc rfl z88 M) ?_
      have M0 := M; clear K M; rintro _ a w ⟨g_a2, rfl, M⟩ K
      clear M0
      refine ⟨fun _ => M.pick [] (by decide), ?_⟩
      refine R_br [11] (by kernel_rfl) ⟨?_, trivial⟩
      refine R_a0 [12] (by kernel_rfl) rfl K (want_no rfl) rfl (ac_storeA rfl ty88 K rfl (ds := [.int .i64 e3.1, .int .i64 e3.2]) rfl rfl 0 M rfl rfl rfl) ?_
      have M0 := M; clear K M; rintro _ a w M K
      clear M0
      refine ⟨fun _ => M.pick [] (by decide), ?_⟩
      refine R_br [12] (by kernel_rfl) ⟨?_, trivial⟩
      refine R_a0 [] (by kernel_rfl) rfl K (want_no rfl) rfl (ac_storeA rfl ty88 K rfl (ds := [.int .i64 e4.1, .int .i64 e4.2]) rfl rfl 1 M rfl rfl rfl) ?_
      have M0 := M; clear K M; rintro _ a w M K
      clear M0
      refine ⟨fun h => absurd h (by decide), ?_⟩
      refine R_end ?_
      refine then_n ?_
      refine wp_seq ?_
      refine wp_region_tl (fun w => Mem _ _ w _) [0,0,0,0,0,0,0,0,0,0,0,0,0,0,0,0,0,0,0,0] (by kernel_rfl) (by kernel_rfl) M.drew ?_
      replace M := M.drew
      refine T_rd K (want_no rfl) rfl rfl (rd_field rfl fld88_1 K rfl) ?_; clear K; intro a K
      refine T_rd K (want_no rfl) rfl rfl (rd_ldC rfl sc3 K rfl (inM 0 rfl) rfl) ?_; clear K; intro a K
      refine T_rd K (want_no rfl) rfl rfl (rd_field rfl fld88_1 K rfl) ?_; clear K; intro a K
      refine T_rd K (want_no rfl) rfl rfl (rd_ldC rfl sc3 K rfl (inM 1 rfl) rfl) ?_; clear K; intro a K
      refine T_rd K (want_no rfl) rfl rfl (rd_field rfl fld88_1 K rfl) ?_; clear K; intro a K
      refine T_rd K (want_no rfl) rfl rfl (rd_ldC rfl sc3 K rfl (inM 0 rfl) rfl) ?_; clear K; intro a K
      refine T_rd K (want_no rfl) rfl rfl (rd_sub rfl K rfl rfl) ?_; clear K; intro a K
      refine T_rd K (want_no rfl) rfl rfl (rd_move rfl K rfl) ?_; clear K; intro a K
      refine T_rd K (want_no rfl) rfl rfl (rd_field rfl fld88_0 K rfl) ?_; clear K; intro a K
      refine T_rd K (want_no rfl) rfl rfl (rd_ldC rfl sc3 K rfl (inM 0 rfl) rfl) ?_; clear K; intro a K
      refine T_rd K (want_no rfl) rfl rfl (rd_sub rfl K rfl rfl) ?_; clear K; intro a K
      refine T_rd K (want_no rfl) rfl rfl (rd_mul rfl K rfl rfl) ?_; clear K; intro a K
      refine T_rd K (want_no rfl) rfl rfl (rd_field rfl fld88_0 K rfl) ?_; clear K; intro a K
      refine T_rd K (want_no rfl) rfl rfl (rd_ldC rfl sc3 K rfl (inM 1 rfl) rfl) ?_; clear K; intro a K
      refine T_rd K (want_no rfl) rfl rfl (rd_field rfl fld88_0 K rfl) ?_; clear K; intro a K
      refine T_rd K (want_no rfl) rfl rfl (rd_ldC rfl sc3 K rfl (inM 0 rfl) rfl) ?_; clear K; intro a K
      refine T_rd K (want_no rfl) rfl rfl (rd_sub rfl K rfl rfl) ?_; clear K; intro a K
      obtain ⟨_, h0, h⟩ := obind h
      have h0 := nz_spec h0
      refine T_rd K (want_no rfl) rfl rfl (rd_quo rfl K rfl rfl h0) ?_; clear K; intro a K
      obtain ⟨x4, hx, h⟩ := olet h
      refine T_rd K (want_no rfl) rfl rfl (rdi hx (rd_add rfl K rfl rfl)) ?_; clear K; intro a K
      refine T_rd K (want_no rfl) rfl rfl (rd_assign rfl K rfl) ?_; clear K; intro a K
      refine T_end ?_
      refine then_n ?_
      refine wp_ret ?_
      cases h
      exact ret1 K rfl (res_tmp K rfl) ⟨_, rfl, rfl, ((M).pick [] (by decide))⟩
  · clear K M h
    rintro kk fuel i a w hk1 ⟨K, M⟩ h
    unfold D_darkslideref_OnCurve_l1 at h
    refine wp_seq ?_
    refine wp_seq ?_
    refine X_reg ?_
    refine X_rd K (want_no rfl) rfl rfl (rd_move rfl K rfl) M ?_; clear K; intro a K
    refine X_rd K (want_no rfl) rfl rfl (rd_move rfl K rfl) M ?_; clear K; intro a K
    obtain ⟨e2, h_e2, h⟩ := obind h
    refine X_rd K (want_no rfl) rfl rfl (rd_ix rfl sl80 K rfl rfl (inA R_l2) h_e2) M ?_; clear K; intro a K
    refine X_rd K (want_no rfl) rfl rfl (rd_field rfl fld88_0 K rfl) M ?_; clear K; intro a K
    refine X_rd K (want_no rfl) rfl rfl (rd_elF rfl sc3 K rfl rfl (inA R_l2) h_e2 rfl) M ?_; clear K; intro a K
    refine X_rd K (want_no rfl) rfl rfl (rd_move rfl K rfl) M ?_; clear K; intro a K
    refine X_rd K (want_no rfl) rfl rfl (rd_lss rfl K rfl rfl) M ?_; clear K; intro a K
    refine wpList_nil ?_
    refine then_n ?_
    refine X_cond K rfl (fun hb => ?_) (fun hb => ?_)
    · have h := ctrue hb h
      refine wp_skip ?_
      refine then_n ?_
      refine wp_block ?_
      refine X_reg ?_
      refine X_rd K (want_no rfl) rfl rfl (rd_move rfl K rfl) M ?_; clear K; intro a K
      refine X_rd K (want_no rfl) rfl rfl (rd_add rfl K rfl rfl) M ?_; clear K; intro a K
      obtain ⟨i3, hx, h⟩ := olet h
      refine X_rd K (want_no rfl) rfl rfl (rdi hx (rd_assign rfl K rfl)) M ?_; clear K; intro a K
      refine wpList_nil ?_
      refine inb_n ?_
      exact then_n ⟨i3, ⟨K.pick [0,1,5], M.pick [] (by decide)⟩, h⟩
    · have h := cfalse hb h
      refine wp_exit ?_
      refine then_e ?_
      exact then_e (hk1 i _ _ ⟨K.pick [0,1,5], M.pick [] (by decide)⟩ h)

end Go.Proofs.Ytpmnfhifmmfglaa
