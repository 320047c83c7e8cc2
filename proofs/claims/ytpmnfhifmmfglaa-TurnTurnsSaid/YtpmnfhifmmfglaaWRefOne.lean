/- Printed by a program (walk.py): the walks of darkslideref_One: each function computes what its plain program tells. -/
import Derived.Test.YtpmnfhifmmfglaaFacts
import Derived.Test.YtpmnfhifmmfglaaDD
import Derived.Test.YtpmnfhifmmfglaaWRefSamepictures
import Derived.Test.YtpmnfhifmmfglaaWRefSample
import Derived.Test.YtpmnfhifmmfglaaWRefTurned
set_option linter.unusedVariables false
set_option linter.unusedSimpArgs false
set_option linter.unusedSectionVars false
namespace Go.Proofs.Ytpmnfhifmmfglaa
open Go.RowKit

set_option maxRecDepth 100000 in
set_option maxHeartbeats 4000000 in
theorem W_darkslideref_One (N : Nat) (one : Int) (two : Int) (w0 : World)  (r : Int) (h : D_darkslideref_One N one two = some r) :
    Calls Try.prog 37 #[.int .i64 one, .int .i64 two] w0 fun e w' => ∃ v, e = .returned v ∧ v = .int .i64 r ∧ Mem w0.heap.size w0 w' [] := by
  refine X_enter Try.func37 rfl Try.ntmps37 rfl ?_
  intro a K
  have M := Mem.start w0
  have K : Kn a 22 [(0, .int .i64 one), (1, .int .i64 two)] := K
  unfold D_darkslideref_One at h
  refine wp_seq ?_
  refine X_reg ?_
  refine X_rd K (want_no rfl) rfl rfl (rd_assign rfl K rfl) M ?_; clear K; intro a K
  refine wpList_nil ?_
  refine then_n ?_
  refine wp_seq ?_
  refine X_reg ?_
  obtain ⟨r2, h_r2, h⟩ := obind h
  refine X_ac K (want_no rfl) rfl rfl (ac_call (vs := []) (cap := []) rfl fok76 K rfl rfl (W_darkslideref_sample N  _  r2 h_r2)) ?_
  have M0 := M; clear K M; rintro _ a w ⟨A, c, rfl, M⟩ K
  have M := M0.call M
  clear M0
  refine X_rd K (want_no rfl) rfl rfl (rd_move rfl K rfl) M ?_; clear K; intro a K
  obtain ⟨r3, h_r3, h⟩ := obind h
  refine X_ac K (want_no rfl) rfl rfl (ac_call (vs := [.agg #[.int .i64 r2.1, .int .i64 r2.2.1, .slice A r2.2.2.length c], .int .i64 one]) (cap := []) rfl fok36 K rfl rfl (W_darkslideref_Turned N r2.1 r2.2.1 r2.2.2 A c one _ ((inR (C := cIII) 0 rfl rfl) _ M) (M.cap 0 rfl) r3 h_r3)) ?_
  have M0 := M; clear K M; rintro _ a w ⟨A2, c2, rfl, M⟩ K
  have M := M0.call M
  clear M0
  refine X_rd K (want_no rfl) rfl rfl (rd_move rfl K rfl) M ?_; clear K; intro a K
  obtain ⟨r4, h_r4, h⟩ := obind h
  refine X_ac K (want_no rfl) rfl rfl (ac_call (vs := [.agg #[.int .i64 r3.1, .int .i64 r3.2.1, .slice A2 r3.2.2.length c2], .int .i64 two]) (cap := []) rfl fok36 K rfl rfl (W_darkslideref_Turned N r3.1 r3.2.1 r3.2.2 A2 c2 two _ ((inR (C := cIII) 0 rfl rfl) _ M) (M.cap 0 rfl) r4 h_r4)) ?_
  have M0 := M; clear K M; rintro _ a w ⟨A3, c3, rfl, M⟩ K
  have M := M0.call M
  clear M0
  refine X_ac K (want_no rfl) rfl rfl (ac_alloc rfl z49 M) ?_
  have M0 := M; clear K M; rintro _ a w ⟨g_want, rfl, M⟩ K
  clear M0
  refine X_a0 K (want_no rfl) rfl (ac_storeA rfl ty49 K rfl (ds := [.int .i64 r4.1, .int .i64 r4.2.1, .slice A3 r4.2.2.length c3]) rfl rfl 0 M rfl rfl rfl) ?_
  have M0 := M; clear K M; rintro _ a w M K
  clear M0
  refine wpList_nil ?_
  refine then_n ?_
  refine wp_seq ?_
  refine wp_seq ?_
  refine X_reg ?_
  refine X_rd K (want_no rfl) rfl rfl (rd_assign rfl K rfl) M ?_; clear K; intro a K
  refine wpList_nil ?_
  refine then_n ?_
  refine wp_block ?_
  refine X_lp (id := 0) (Rel := fun (how : Int) a w => Kn a 22 [(5, .pointer (some ⟨g_want, 0, none⟩)), (6, .int .i64 how)] ∧ Mem w0.heap.size w0 w [.blk g_want 49 [.int .i64 r4.1, .int .i64 r4.2.1, .slice A3 r4.2.2.length c3], .row 73 3 A3 r4.2.2.length c3 (cIII.all r4.2.2)]) h (fun _ _ => rfl) ⟨K.pick [5,6], M.pick [0,1] (by decide)⟩ ?_ ?_
  · clear K M h
    rintro how4 a w ⟨K, M⟩ h
    try dsimp only at h
    refine inb_e ?_
    refine then_n ?_
    refine wp_seq ?_
    refine X_reg ?_
    refine X_rd K (want_no rfl) rfl rfl (rd_assign rfl K rfl) M ?_; clear K; intro a K
    refine wpList_nil ?_
    refine then_n ?_
    refine wp_ret ?_
    cases h
    exact ret1 K rfl (res_tmp K rfl) ⟨_, rfl, rfl, ((M).pick [] (by decide))⟩
  · clear K M h
    rintro kk fuel how a w hk1 ⟨K, M⟩ h
    unfold D_darkslideref_One_l1 at h
    refine wp_seq ?_
    refine wp_seq ?_
    refine X_reg ?_
    refine X_rd K (want_no rfl) rfl rfl (rd_move rfl K rfl) M ?_; clear K; intro a K
    refine X_rd K (want_no rfl) rfl rfl (rd_leq rfl K rfl rfl) M ?_; clear K; intro a K
    refine wpList_nil ?_
    refine then_n ?_
    refine X_cond K rfl (fun hb => ?_) (fun hb => ?_)
    · have h := ctrue hb h
      refine wp_skip ?_
      refine then_n ?_
      refine wp_seq ?_
      refine wp_block ?_
      refine wp_seq ?_
      refine wp_region_tl (fun w => Mem _ _ w _) [1,0,1,0,1] (by kernel_rfl) (by kernel_rfl) M.drew ?_
      replace M := M.drew
      obtain ⟨r8, h_r8, h⟩ := obind h
      refine T_ac K (want_no rfl) rfl rfl (ac_call (vs := []) (cap := []) rfl fok76 K rfl rfl (W_darkslideref_sample N  _  r8 h_r8)) ?_
      have M0 := M; clear K M; rintro _ a w ⟨A6, c6, rfl, M⟩ K
      have M := M0.call M
      clear M0
      refine ⟨M.pick [1,2] (by decide), ?_⟩
      refine T_rd K (want_no rfl) rfl rfl (rd_move rfl K rfl) ?_; clear K; intro a K
      obtain ⟨r9, h_r9, h⟩ := obind h
      refine T_ac K (want_no rfl) rfl rfl (ac_call (vs := [.agg #[.int .i64 r8.1, .int .i64 r8.2.1, .slice A6 r8.2.2.length c6], .int .i64 how]) (cap := []) rfl fok36 K rfl rfl (W_darkslideref_Turned N r8.1 r8.2.1 r8.2.2 A6 c6 how _ ((inR (C := cIII) 0 rfl rfl) _ M) (M.cap 0 rfl) r9 h_r9)) ?_
      have M0 := M; clear K M; rintro _ a w ⟨A7, c7, rfl, M⟩ K
      have M := M0.call M
      clear M0
      refine ⟨M.pick [2,3] (by decide), ?_⟩
      refine T_rd K (want_no rfl) rfl rfl (rd_ldA rfl ty49 K rfl (inM 0 rfl) rfl rfl) ?_; clear K; intro a K
      obtain ⟨r10, h_r10, h⟩ := obind h
      refine T_ac K (want_no rfl) rfl rfl (ac_call (vs := [.agg #[.int .i64 r9.1, .int .i64 r9.2.1, .slice A7 r9.2.2.length c7], .agg #[.int .i64 r4.1, .int .i64 r4.2.1, .slice A3 r4.2.2.length c3]]) (cap := []) rfl fok31 K rfl rfl (W_darkslideref_SamePictures N r9.1 r9.2.1 r9.2.2 A7 c7 r4.1 r4.2.1 r4.2.2 A3 c3 _ ((inR (C := cIII) 0 rfl rfl) _ M) (M.cap 0 rfl) ((inR (C := cIII) 3 rfl rfl) _ M) (M.cap 3 rfl) r10 h_r10)) ?_
      have M0 := M; clear K M; rintro _ a w ⟨rfl, M⟩ K
      have M := M0.call M
      clear M0
      refine ⟨M.pick [2,3] (by decide), ?_⟩
      refine T_end ?_
      refine then_n ?_
      refine X_cond K rfl (fun hb => ?_) (fun hb => ?_)
      · have h := ctrue hb h
        refine wp_seq ?_
        refine X_reg ?_
        refine X_rd K (want_no rfl) rfl rfl (rd_move rfl K rfl) M ?_; clear K; intro a K
        refine X_rd K (want_no rfl) rfl rfl (rd_assign rfl K rfl) M ?_; clear K; intro a K
        refine wpList_nil ?_
        refine then_n ?_
        refine wp_ret ?_
        refine inb_r ?_
        refine then_r ?_
        refine then_r ?_
        refine inb_r ?_
        refine then_r ?_
        cases h
        exact ret1 K rfl (res_tmp K rfl) ⟨_, rfl, rfl, ((M).pick [] (by decide))⟩
      · have h := cfalse hb h
        refine wp_skip ?_
        refine inb_n ?_
        refine then_n ?_
        refine X_reg ?_
        refine X_rd K (want_no rfl) rfl rfl (rd_move rfl K rfl) M ?_; clear K; intro a K
        refine X_rd K (want_no rfl) rfl rfl (rd_add rfl K rfl rfl) M ?_; clear K; intro a K
        obtain ⟨how3, hx, h⟩ := olet h
        refine X_rd K (want_no rfl) rfl rfl (rdi hx (rd_assign rfl K rfl)) M ?_; clear K; intro a K
        refine wpList_nil ?_
        exact then_n ⟨how3, ⟨K.pick [5,6], M.pick [2,3] (by decide)⟩, h⟩
    · have h := cfalse hb h
      refine wp_exit ?_
      refine then_e ?_
      exact then_e (hk1 how _ _ ⟨K.pick [5,6], M.pick [0,1] (by decide)⟩ h)

end Go.Proofs.Ytpmnfhifmmfglaa
