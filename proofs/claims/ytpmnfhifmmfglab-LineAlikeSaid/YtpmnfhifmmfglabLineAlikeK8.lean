/- Texts of the claim LineAlike, joined: WRefSamepictures, WLawLinebegun, WLawLinealike. -/
import Derived.Test.YtpmnfhifmmfglabLineAlikeK2
import Derived.Test.YtpmnfhifmmfglabLineAlikeK4
import Derived.Test.YtpmnfhifmmfglabLineAlikeK7
set_option linter.unusedVariables false
set_option linter.unusedSimpArgs false
set_option linter.unusedSectionVars false
namespace Go.Proofs.Ytpmnfhifmmfglab
open Go.RowKit
set_option maxRecDepth 100000 in
set_option maxHeartbeats 4000000 in
theorem W_darkslideref_SamePictures (N : Nat) (a_W : Int) (a_H : Int) (a_P : List (Int × Int × Int)) (A_a_P : Option Addr) (c_a_P : Nat) (b_W : Int) (b_H : Int) (b_P : List (Int × Int × Int)) (A_b_P : Option Addr) (c_b_P : Nat) (w0 : World) (R_a_P : SL w0 cIII A_a_P a_P) (C_a_P : a_P.length ≤ c_a_P) (R_b_P : SL w0 cIII A_b_P b_P) (C_b_P : b_P.length ≤ c_b_P) (r : Bool) (h : D_darkslideref_SamePictures N a_W a_H a_P b_W b_H b_P = some r) :
    Calls Try.prog 14 #[.agg #[I a_W, I a_H, .slice A_a_P a_P.length c_a_P], .agg #[I b_W, I b_H, .slice A_b_P b_P.length c_b_P]] w0 fun e w' => ∃ v, e = .returned v ∧ v = .bool r ∧ Mem w0.heap.size w0 w' [] := by
  refine X_enter Try.func14 rfl Try.ntmps14 rfl ?_
  intro a K
  have M := Mem.start w0
  have K : Kn a 45 [(0, .agg #[I a_W, I a_H, .slice A_a_P a_P.length c_a_P]), (1, .agg #[I b_W, I b_H, .slice A_b_P b_P.length c_b_P])] := K
  unfold D_darkslideref_SamePictures at h
  refine wp_seq (X_reg ?_)
  refine X_a K (ac_box rfl K rfl (cs := [I a_W, I a_H, .slice A_a_P a_P.length c_a_P]) rfl M) ?_
  clear K M; rintro _ a w ⟨g_a, rfl, M⟩ K
  refine X_a K (ac_box rfl K rfl (cs := [I b_W, I b_H, .slice A_b_P b_P.length c_b_P]) rfl M) ?_
  clear K M; rintro _ a w ⟨g_b, rfl, M⟩ K
  refine X_o K M ?_; clear K; intro a K
  refine wpList_nil (then_n (wp_seq (wp_seq (X_reg ?_))))
  refine X_r K (rd_field rfl fld24_0 K rfl) M ?_; clear K
  refine Y_r (fun _ K => rd_ldC rfl sc3 K rfl (inM 1 rfl) rfl) M ?_
  refine Y_r (fun _ K => rd_field rfl fld24_0 K rfl) M ?_
  refine Y_r (fun _ K => rd_ldC rfl sc3 K rfl (inM 0 rfl) rfl) M ?_
  iterate 2 (refine Y_o M ?_)
  intro a K
  rcases Bool.eq_false_or_eq_true (!decide (a_W = b_W)) with hb | hb
  · have h := ctrue hb h
    have K := K.reb (s := 11) rfl hb
    refine X_o K M ?_; clear K
    iterate 14 (refine Y_o M ?_)
    intro a K
    refine wpList_nil (then_n ?_)
    refine X_condT K rfl ?_
    refine wp_seq (X_reg ?_)
    refine X_o K M ?_; clear K; intro a K
    refine wpList_nil (then_n (wp_ret (then_r ?_)))
    cases h
    exact ret1 K rfl (res_tmp K rfl) ⟨_, rfl, rfl, ((M).pick [] (by decide))⟩
  have h := cfalse hb h
  have K := K.reb (s := 11) rfl hb
  refine X_r K (rd_field rfl fld24_1 K rfl) M ?_; clear K
  refine Y_r (fun _ K => rd_ldC rfl sc3 K rfl (inM 1 rfl) rfl) M ?_
  refine Y_r (fun _ K => rd_field rfl fld24_1 K rfl) M ?_
  refine Y_r (fun _ K => rd_ldC rfl sc3 K rfl (inM 0 rfl) rfl) M ?_
  iterate 3 (refine Y_o M ?_)
  intro a K
  rcases Bool.eq_false_or_eq_true (!decide (a_H = b_H)) with hb | hb
  · have h := ctrue hb h
    have K := K.reb (s := 18) rfl hb
    refine X_o K M ?_; clear K
    iterate 7 (refine Y_o M ?_)
    intro a K
    refine wpList_nil (then_n ?_)
    refine X_condT K rfl ?_
    refine wp_seq (X_reg ?_)
    refine X_o K M ?_; clear K; intro a K
    refine wpList_nil (then_n (wp_ret (then_r ?_)))
    cases h
    exact ret1 K rfl (res_tmp K rfl) ⟨_, rfl, rfl, ((M).pick [] (by decide))⟩
  have h := cfalse hb h
  have K := K.reb (s := 18) rfl hb
  refine X_r K (rd_field rfl fld24_2 K rfl) M ?_; clear K
  refine Y_r (fun _ K => rd_ldC rfl sc22 K rfl (inM 1 rfl) rfl) M ?_
  refine Y_r (fun _ K => rd_len rfl un22 K rfl) M ?_
  refine Y_r (fun _ K => rd_field rfl fld24_2 K rfl) M ?_
  refine Y_r (fun _ K => rd_ldC rfl sc22 K rfl (inM 0 rfl) rfl) M ?_
  refine Y_r (fun _ K => rd_len rfl un22 K rfl) M ?_
  iterate 2 (refine Y_o M ?_)
  intro a K
  refine wpList_nil (then_n ?_)
  refine X_cond K rfl (fun hb => ?_) (fun hb => ?_)
  · have h := ctrue hb h
    refine wp_seq (X_reg ?_)
    refine X_o K M ?_; clear K; intro a K
    refine wpList_nil (then_n (wp_ret (then_r ?_)))
    cases h
    exact ret1 K rfl (res_tmp K rfl) ⟨_, rfl, rfl, ((M).pick [] (by decide))⟩
  have h := cfalse hb h
  refine wp_skip (then_n (wp_seq (wp_seq (X_reg ?_))))
  refine X_o K M ?_; clear K; intro a K
  refine wpList_nil (then_n (wp_block ?_))
  refine X_lp (id := 0) (Rel := fun (i : Int) a w => Kn a 45 [(2, .pointer (some ⟨g_a, 0, none⟩)), (3, .pointer (some ⟨g_b, 0, none⟩)), (5, I i)] ∧ Mem w0.heap.size w0 w [.blk g_b 24 [I b_W, I b_H, .slice A_b_P b_P.length c_b_P], .blk g_a 24 [I a_W, I a_H, .slice A_a_P a_P.length c_a_P]]) h (fun _ _ => rfl) ⟨K.pick [2,3,5], M.pick [0,1] (by decide)⟩ ?_ ?_
  · clear K M h
    rintro i4 a w ⟨K, M⟩ h
    try dsimp only at h
    refine inb_e ?_
    refine then_n (wp_seq (X_reg ?_))
    refine X_o K M ?_; clear K; intro a K
    refine wpList_nil (then_n (wp_ret ?_))
    cases h
    exact ret1 K rfl (res_tmp K rfl) ⟨_, rfl, rfl, ((M).pick [] (by decide))⟩
  clear K M h
  rintro kk fuel i a w hk1 ⟨K, M⟩ h
  unfold D_darkslideref_SamePictures_l1 at h
  refine wp_seq (wp_seq (X_reg ?_))
  refine X_o K M ?_; clear K
  refine Y_r (fun _ K => rd_field rfl fld24_2 K rfl) M ?_
  refine Y_r (fun _ K => rd_ldC rfl sc22 K rfl (inM 1 rfl) rfl) M ?_
  refine Y_r (fun _ K => rd_len rfl un22 K rfl) M ?_
  refine Y_o M ?_; intro a K
  refine wpList_nil (then_n ?_)
  refine X_cond K rfl (fun hb => ?_) (fun hb => ?_)
  · have h := ctrue hb h
    refine wp_skip (then_n (wp_seq (wp_block (wp_seq ?_))))
    refine wp_region_tl (fun w => Mem _ _ w _) [0,0,0,0,0,0,0,0,0,0,0] (by kernel_rfl) (by kernel_rfl) M.drew ?_
    replace M := M.drew
    refine T_r K (rd_field rfl fld24_2 K rfl) ?_; clear K
    refine U_r (fun _ K => rd_ldC rfl sc22 K rfl (inM 1 rfl) rfl) ?_
    refine U_o ?_
    obtain ⟨e3, h_e3, h⟩ := obind h
    refine U_r (fun _ K => rd_ix rfl sl22 K rfl rfl (inA R_a_P) h_e3) ?_
    refine U_r (fun _ K => rd_elA rfl ty34 K rfl rfl rfl (inA R_a_P) h_e3) ?_
    refine U_r (fun _ K => rd_field rfl fld24_2 K rfl) ?_
    refine U_r (fun _ K => rd_ldC rfl sc22 K rfl (inM 0 rfl) rfl) ?_
    refine U_o ?_
    obtain ⟨e4, h_e4, h⟩ := obind h
    refine U_r (fun _ K => rd_ix rfl sl22 K rfl rfl (inA R_b_P) h_e4) ?_
    refine U_r (fun _ K => rd_elA rfl ty34 K rfl rfl rfl (inA R_b_P) h_e4) ?_
    refine U_r (fun _ K => rd_aggN eg34 rfl K rfl rfl (eqr34 _ _ _ _ _ _)) ?_; intro a K
    refine T_end ?_
    refine then_n ?_
    refine X_cond K rfl (fun hb => ?_) (fun hb => ?_)
    · have h := ctrue hb h
      refine wp_seq (X_reg ?_)
      refine X_o K M ?_; clear K; intro a K
      refine wpList_nil (then_n (wp_ret (inb_r (then_r (then_r (inb_r (then_r ?_)))))))
      cases h
      exact ret1 K rfl (res_tmp K rfl) ⟨_, rfl, rfl, ((M).pick [] (by decide))⟩
    have h := cfalse hb h
    refine wp_skip (inb_n (then_n (X_reg ?_)))
    refine X_o K M ?_; clear K
    refine Y_o M ?_
    obtain ⟨i3, hx, h⟩ := olet h
    refine Y_r (fun _ K => rdi hx (rd_assign rfl K rfl)) M ?_; intro a K
    refine wpList_nil ?_
    exact then_n ⟨i3, ⟨K.pick [2,3,5], M.pick [0,1] (by decide)⟩, h⟩
  have h := cfalse hb h
  refine wp_exit ?_
  refine then_e ?_
  exact then_e (hk1 i _ _ ⟨K.pick [2,3,5], M.pick [0,1] (by decide)⟩ h)
end Go.Proofs.Ytpmnfhifmmfglab

namespace Go.Proofs.Ytpmnfhifmmfglab
open Go.RowKit
set_option maxRecDepth 100000 in
set_option maxHeartbeats 4000000 in
theorem W_darkslidelaw_lineBegun (N : Nat)  (w0 : World)  (r : Bool) (h : D_darkslidelaw_lineBegun N  = some r) :
    Calls Try.prog 18 #[] w0 fun e w' => ∃ v, e = .returned v ∧ v = .bool r ∧ Mem w0.heap.size w0 w' [] := by
  refine X_enter Try.func18 rfl Try.ntmps18 rfl ?_
  intro a K
  have M := Mem.start w0
  have K : Kn a 81 [] := K
  unfold D_darkslidelaw_lineBegun at h
  refine wp_seq (X_reg ?_)
  refine X_o K M ?_; clear K; intro a K
  refine wpList_nil (then_n (wp_seq (X_reg ?_)))
  obtain ⟨r2, h_r2, h⟩ := obind h
  refine X_a K (ac_call (vs := []) (cap := []) rfl fok47 K rfl rfl (W_darkslidelaw_plain N  _  r2 h_r2)) ?_
  have M0 := M; clear K M; rintro _ a w ⟨A, c, A2, c2, rfl, M⟩ K
  replace M := M0.call M; clear M0
  obtain ⟨r3, h_r3, h⟩ := obind h
  refine X_a K (ac_call (vs := []) (cap := []) rfl fok48 K rfl rfl (W_darkslidelaw_tall N  _  r3 h_r3)) ?_
  have M0 := M; clear K M; rintro _ a w ⟨A3, c3, rfl, M⟩ K
  replace M := M0.call M; clear M0
  obtain ⟨r4, h_r4, h⟩ := obind h
  refine X_a K (ac_call (vs := [.agg #[I r2.1, I r2.2.1, I r2.2.2.1, I r2.2.2.2.1, I r2.2.2.2.2.1, I r2.2.2.2.2.2.1, .slice A r2.2.2.2.2.2.2.1.length c, I r2.2.2.2.2.2.2.2.1, I r2.2.2.2.2.2.2.2.2.1, I r2.2.2.2.2.2.2.2.2.2.1, I r2.2.2.2.2.2.2.2.2.2.2.1, I r2.2.2.2.2.2.2.2.2.2.2.2.1, I r2.2.2.2.2.2.2.2.2.2.2.2.2.1, I r2.2.2.2.2.2.2.2.2.2.2.2.2.2.1, I r2.2.2.2.2.2.2.2.2.2.2.2.2.2.2.1, I r2.2.2.2.2.2.2.2.2.2.2.2.2.2.2.2.1, I r2.2.2.2.2.2.2.2.2.2.2.2.2.2.2.2.2.1, I r2.2.2.2.2.2.2.2.2.2.2.2.2.2.2.2.2.2.1, I r2.2.2.2.2.2.2.2.2.2.2.2.2.2.2.2.2.2.2.1, .slice A2 r2.2.2.2.2.2.2.2.2.2.2.2.2.2.2.2.2.2.2.2.1.length c2, I r2.2.2.2.2.2.2.2.2.2.2.2.2.2.2.2.2.2.2.2.2], .agg #[I r3.1, I r3.2.1, .slice A3 r3.2.2.length c3]]) (cap := []) rfl fok15 K rfl rfl (W_line_Whole N r2.1 r2.2.1 r2.2.2.1 r2.2.2.2.1 r2.2.2.2.2.1 r2.2.2.2.2.2.1 r2.2.2.2.2.2.2.1 A c r2.2.2.2.2.2.2.2.1 r2.2.2.2.2.2.2.2.2.1 r2.2.2.2.2.2.2.2.2.2.1 r2.2.2.2.2.2.2.2.2.2.2.1 r2.2.2.2.2.2.2.2.2.2.2.2.1 r2.2.2.2.2.2.2.2.2.2.2.2.2.1 r2.2.2.2.2.2.2.2.2.2.2.2.2.2.1 r2.2.2.2.2.2.2.2.2.2.2.2.2.2.2.1 r2.2.2.2.2.2.2.2.2.2.2.2.2.2.2.2.1 r2.2.2.2.2.2.2.2.2.2.2.2.2.2.2.2.2.1 r2.2.2.2.2.2.2.2.2.2.2.2.2.2.2.2.2.2.1 r2.2.2.2.2.2.2.2.2.2.2.2.2.2.2.2.2.2.2.1 r2.2.2.2.2.2.2.2.2.2.2.2.2.2.2.2.2.2.2.2.1 A2 c2 r2.2.2.2.2.2.2.2.2.2.2.2.2.2.2.2.2.2.2.2.2 r3.1 r3.2.1 r3.2.2 A3 c3 _ ((inR (C := cII) 1 rfl rfl) _ M) (M.cap 1 rfl) ((inR (C := cII) 2 rfl rfl) _ M) (M.cap 2 rfl) ((inR (C := (cI .i64)) 0 rfl rfl) _ M) (M.cap 0 rfl) r4 h_r4)) ?_
  have M0 := M; clear K M; rintro _ a w ⟨A4, c4, rfl, M⟩ K
  replace M := M0.call M; clear M0
  refine X_o K M ?_; clear K
  iterate 2 (refine Y_o M ?_)
  intro a K
  refine X_a K (ac_alloc rfl z24 M) ?_
  clear K M; rintro _ a w ⟨g_o, rfl, M⟩ K
  refine X_b K (ac_storeA rfl ty24 K rfl (ds := [I r4.1, I r4.2.1, .slice A4 r4.2.2.1.length c4]) rfl rfl 0 M rfl rfl rfl) ?_
  clear K M; rintro _ a w M K
  refine X_o K M ?_; clear K; intro a K
  refine wpList_nil (then_n (wp_seq (X_reg ?_)))
  obtain ⟨r5, h_r5, h⟩ := obind h
  refine X_a K (ac_call (vs := []) (cap := []) rfl fok47 K rfl rfl (W_darkslidelaw_plain N  _  r5 h_r5)) ?_
  have M0 := M; clear K M; rintro _ a w ⟨A5, c5, A6, c6, rfl, M⟩ K
  replace M := M0.call M; clear M0
  obtain ⟨r6, h_r6, h⟩ := obind h
  refine X_a K (ac_call (vs := []) (cap := []) rfl fok48 K rfl rfl (W_darkslidelaw_tall N  _  r6 h_r6)) ?_
  have M0 := M; clear K M; rintro _ a w ⟨A7, c7, rfl, M⟩ K
  replace M := M0.call M; clear M0
  obtain ⟨r7, h_r7, h⟩ := obind h
  refine X_a K (ac_call (vs := [.agg #[I r5.1, I r5.2.1, I r5.2.2.1, I r5.2.2.2.1, I r5.2.2.2.2.1, I r5.2.2.2.2.2.1, .slice A5 r5.2.2.2.2.2.2.1.length c5, I r5.2.2.2.2.2.2.2.1, I r5.2.2.2.2.2.2.2.2.1, I r5.2.2.2.2.2.2.2.2.2.1, I r5.2.2.2.2.2.2.2.2.2.2.1, I r5.2.2.2.2.2.2.2.2.2.2.2.1, I r5.2.2.2.2.2.2.2.2.2.2.2.2.1, I r5.2.2.2.2.2.2.2.2.2.2.2.2.2.1, I r5.2.2.2.2.2.2.2.2.2.2.2.2.2.2.1, I r5.2.2.2.2.2.2.2.2.2.2.2.2.2.2.2.1, I r5.2.2.2.2.2.2.2.2.2.2.2.2.2.2.2.2.1, I r5.2.2.2.2.2.2.2.2.2.2.2.2.2.2.2.2.2.1, I r5.2.2.2.2.2.2.2.2.2.2.2.2.2.2.2.2.2.2.1, .slice A6 r5.2.2.2.2.2.2.2.2.2.2.2.2.2.2.2.2.2.2.2.1.length c6, I r5.2.2.2.2.2.2.2.2.2.2.2.2.2.2.2.2.2.2.2.2], .agg #[I r6.1, I r6.2.1, .slice A7 r6.2.2.length c7], I 5]) (cap := []) rfl fok24 K rfl rfl (W_line_Strips N r5.1 r5.2.1 r5.2.2.1 r5.2.2.2.1 r5.2.2.2.2.1 r5.2.2.2.2.2.1 r5.2.2.2.2.2.2.1 A5 c5 r5.2.2.2.2.2.2.2.1 r5.2.2.2.2.2.2.2.2.1 r5.2.2.2.2.2.2.2.2.2.1 r5.2.2.2.2.2.2.2.2.2.2.1 r5.2.2.2.2.2.2.2.2.2.2.2.1 r5.2.2.2.2.2.2.2.2.2.2.2.2.1 r5.2.2.2.2.2.2.2.2.2.2.2.2.2.1 r5.2.2.2.2.2.2.2.2.2.2.2.2.2.2.1 r5.2.2.2.2.2.2.2.2.2.2.2.2.2.2.2.1 r5.2.2.2.2.2.2.2.2.2.2.2.2.2.2.2.2.1 r5.2.2.2.2.2.2.2.2.2.2.2.2.2.2.2.2.2.1 r5.2.2.2.2.2.2.2.2.2.2.2.2.2.2.2.2.2.2.1 r5.2.2.2.2.2.2.2.2.2.2.2.2.2.2.2.2.2.2.2.1 A6 c6 r5.2.2.2.2.2.2.2.2.2.2.2.2.2.2.2.2.2.2.2.2 r6.1 r6.2.1 r6.2.2 A7 c7 5 _ ((inR (C := cII) 1 rfl rfl) _ M) (M.cap 1 rfl) ((inR (C := cII) 2 rfl rfl) _ M) (M.cap 2 rfl) ((inR (C := (cI .i64)) 0 rfl rfl) _ M) (M.cap 0 rfl) r7 h_r7)) ?_
  have M0 := M; clear K M; rintro _ a w ⟨A8, c8, rfl, M⟩ K
  replace M := M0.call M; clear M0
  refine X_o K M ?_; clear K
  iterate 2 (refine Y_o M ?_)
  intro a K
  refine X_a K (ac_alloc rfl z24 M) ?_
  clear K M; rintro _ a w ⟨g_x, rfl, M⟩ K
  refine X_b K (ac_storeA rfl ty24 K rfl (ds := [I r7.1, I r7.2.1, .slice A8 r7.2.2.1.length c8]) rfl rfl 0 M rfl rfl rfl) ?_
  clear K M; rintro _ a w M K
  refine X_o K M ?_; clear K; intro a K
  refine wpList_nil (then_n (wp_seq (X_reg ?_)))
  obtain ⟨r8, h_r8, h⟩ := obind h
  refine X_a K (ac_call (vs := []) (cap := []) rfl fok47 K rfl rfl (W_darkslidelaw_plain N  _  r8 h_r8)) ?_
  have M0 := M; clear K M; rintro _ a w ⟨A9, c9, A10, c10, rfl, M⟩ K
  replace M := M0.call M; clear M0
  obtain ⟨r9, h_r9, h⟩ := obind h
  refine X_a K (ac_call (vs := []) (cap := []) rfl fok48 K rfl rfl (W_darkslidelaw_tall N  _  r9 h_r9)) ?_
  have M0 := M; clear K M; rintro _ a w ⟨A11, c11, rfl, M⟩ K
  replace M := M0.call M; clear M0
  refine X_r K (rd_fieldC rfl fd45_2 sc43 K rfl rfl) M ?_; clear K
  obtain ⟨l2, h_l2, h⟩ := obind h
  refine Y_r (fun _ K => rd_slice (C := (cI .i64)) (k := .i64) (k' := .i64) rfl sl43 rfl K rfl (M.cap 0 rfl) rfl rfl h_l2) M ?_
  refine Y_r (fun _ K => rd_build rfl K (vs := [(0, I 2), (1, I 9), (2, .slice (slA A11 c11 6 1) l2.length (c11 - Int.toNat 6))]) (cs := [I 2, I 9, .slice (slA A11 c11 6 1) l2.length (c11 - Int.toNat 6)]) rfl (by kernel_rfl)) M ?_; intro a K
  obtain ⟨r10, h_r10, h⟩ := obind h
  refine X_a K (ac_call (vs := [.agg #[I r8.1, I r8.2.1, I r8.2.2.1, I r8.2.2.2.1, I r8.2.2.2.2.1, I r8.2.2.2.2.2.1, .slice A9 r8.2.2.2.2.2.2.1.length c9, I r8.2.2.2.2.2.2.2.1, I r8.2.2.2.2.2.2.2.2.1, I r8.2.2.2.2.2.2.2.2.2.1, I r8.2.2.2.2.2.2.2.2.2.2.1, I r8.2.2.2.2.2.2.2.2.2.2.2.1, I r8.2.2.2.2.2.2.2.2.2.2.2.2.1, I r8.2.2.2.2.2.2.2.2.2.2.2.2.2.1, I r8.2.2.2.2.2.2.2.2.2.2.2.2.2.2.1, I r8.2.2.2.2.2.2.2.2.2.2.2.2.2.2.2.1, I r8.2.2.2.2.2.2.2.2.2.2.2.2.2.2.2.2.1, I r8.2.2.2.2.2.2.2.2.2.2.2.2.2.2.2.2.2.1, I r8.2.2.2.2.2.2.2.2.2.2.2.2.2.2.2.2.2.2.1, .slice A10 r8.2.2.2.2.2.2.2.2.2.2.2.2.2.2.2.2.2.2.2.1.length c10, I r8.2.2.2.2.2.2.2.2.2.2.2.2.2.2.2.2.2.2.2.2], .agg #[I 2, I 9, .slice (slA A11 c11 6 1) l2.length (c11 - Int.toNat 6)], I 3, I 12, I 7, I 9]) (cap := []) rfl fok21 K rfl rfl (W_line_Part N r8.1 r8.2.1 r8.2.2.1 r8.2.2.2.1 r8.2.2.2.2.1 r8.2.2.2.2.2.1 r8.2.2.2.2.2.2.1 A9 c9 r8.2.2.2.2.2.2.2.1 r8.2.2.2.2.2.2.2.2.1 r8.2.2.2.2.2.2.2.2.2.1 r8.2.2.2.2.2.2.2.2.2.2.1 r8.2.2.2.2.2.2.2.2.2.2.2.1 r8.2.2.2.2.2.2.2.2.2.2.2.2.1 r8.2.2.2.2.2.2.2.2.2.2.2.2.2.1 r8.2.2.2.2.2.2.2.2.2.2.2.2.2.2.1 r8.2.2.2.2.2.2.2.2.2.2.2.2.2.2.2.1 r8.2.2.2.2.2.2.2.2.2.2.2.2.2.2.2.2.1 r8.2.2.2.2.2.2.2.2.2.2.2.2.2.2.2.2.2.1 r8.2.2.2.2.2.2.2.2.2.2.2.2.2.2.2.2.2.2.1 r8.2.2.2.2.2.2.2.2.2.2.2.2.2.2.2.2.2.2.2.1 A10 c10 r8.2.2.2.2.2.2.2.2.2.2.2.2.2.2.2.2.2.2.2.2 2 9 l2 (slA A11 c11 6 1) (c11 - Int.toNat 6) 3 12 7 9 _ ((inR (C := cII) 1 rfl rfl) _ M) (M.cap 1 rfl) ((inR (C := cII) 2 rfl rfl) _ M) (M.cap 2 rfl) ((fun w M => (slA_SL h_l2 (M.cap 0 rfl)) w ((inR (C := (cI .i64)) 0 rfl rfl) w M)) _ M) (sli_cap h_l2 (M.cap 0 rfl)) r10 h_r10)) ?_
  have M0 := M; clear K M; rintro _ a w ⟨A12, c12, rfl, M⟩ K
  replace M := M0.call M; clear M0
  refine X_o K M ?_; clear K
  iterate 2 (refine Y_o M ?_)
  intro a K
  refine X_a K (ac_alloc rfl z24 M) ?_
  clear K M; rintro _ a w ⟨g_x2, rfl, M⟩ K
  refine X_b K (ac_storeA rfl ty24 K rfl (ds := [I r10.1, I r10.2.1, .slice A12 r10.2.2.1.length c12]) rfl rfl 0 M rfl rfl rfl) ?_
  clear K M; rintro _ a w M K
  refine X_o K M ?_; clear K; intro a K
  refine wpList_nil (then_n (wp_seq ?_))
  refine wp_region_tl (fun w => Mem _ _ w _) [1,1,1,1,1,1,1,1,1,1,1,1,1,1,1,1,1,1,1,1,1,1,1,1,1,1,1,0,1,1,0,0,0,0,0,0,0,0,0,0,0,0,0,0,0,0,0,0,0,0,0,0,0,0] (by kernel_rfl) (by kernel_rfl) M.drew ?_
  replace M := M.drew
  obtain ⟨r11, h_r11, h⟩ := obind h
  refine T_a K (ac_call (vs := []) (cap := []) rfl fok47 K rfl rfl (W_darkslidelaw_plain N  _  r11 h_r11)) ?_
  have M0 := M; clear K M; rintro _ a w ⟨A13, c13, A14, c14, rfl, M⟩ K
  replace M := M0.call M; clear M0
  refine ⟨M.pick [2,3,4,5,6,7,8,9,10,11,12,13,14,15,16] (by decide), ?_⟩
  obtain ⟨r12, h_r12, h⟩ := obind h
  refine T_a K (ac_call (vs := [.agg #[I r11.1, I r11.2.1, I r11.2.2.1, I r11.2.2.2.1, I r11.2.2.2.2.1, I r11.2.2.2.2.2.1, .slice A13 r11.2.2.2.2.2.2.1.length c13, I r11.2.2.2.2.2.2.2.1, I r11.2.2.2.2.2.2.2.2.1, I r11.2.2.2.2.2.2.2.2.2.1, I r11.2.2.2.2.2.2.2.2.2.2.1, I r11.2.2.2.2.2.2.2.2.2.2.2.1, I r11.2.2.2.2.2.2.2.2.2.2.2.2.1, I r11.2.2.2.2.2.2.2.2.2.2.2.2.2.1, I r11.2.2.2.2.2.2.2.2.2.2.2.2.2.2.1, I r11.2.2.2.2.2.2.2.2.2.2.2.2.2.2.2.1, I r11.2.2.2.2.2.2.2.2.2.2.2.2.2.2.2.2.1, I r11.2.2.2.2.2.2.2.2.2.2.2.2.2.2.2.2.2.1, I r11.2.2.2.2.2.2.2.2.2.2.2.2.2.2.2.2.2.2.1, .slice A14 r11.2.2.2.2.2.2.2.2.2.2.2.2.2.2.2.2.2.2.2.1.length c14, I r11.2.2.2.2.2.2.2.2.2.2.2.2.2.2.2.2.2.2.2.2]]) (cap := []) rfl fok19 K rfl rfl (W_line_Check N r11.1 r11.2.1 r11.2.2.1 r11.2.2.2.1 r11.2.2.2.2.1 r11.2.2.2.2.2.1 r11.2.2.2.2.2.2.1 A13 c13 r11.2.2.2.2.2.2.2.1 r11.2.2.2.2.2.2.2.2.1 r11.2.2.2.2.2.2.2.2.2.1 r11.2.2.2.2.2.2.2.2.2.2.1 r11.2.2.2.2.2.2.2.2.2.2.2.1 r11.2.2.2.2.2.2.2.2.2.2.2.2.1 r11.2.2.2.2.2.2.2.2.2.2.2.2.2.1 r11.2.2.2.2.2.2.2.2.2.2.2.2.2.2.1 r11.2.2.2.2.2.2.2.2.2.2.2.2.2.2.2.1 r11.2.2.2.2.2.2.2.2.2.2.2.2.2.2.2.2.1 r11.2.2.2.2.2.2.2.2.2.2.2.2.2.2.2.2.2.1 r11.2.2.2.2.2.2.2.2.2.2.2.2.2.2.2.2.2.2.1 r11.2.2.2.2.2.2.2.2.2.2.2.2.2.2.2.2.2.2.2.1 A14 c14 r11.2.2.2.2.2.2.2.2.2.2.2.2.2.2.2.2.2.2.2.2 _ ((inR (C := cII) 0 rfl rfl) _ M) (M.cap 0 rfl) ((inR (C := cII) 1 rfl rfl) _ M) (M.cap 1 rfl) r12 h_r12)) ?_
  have M0 := M; clear K M; rintro _ a w ⟨rfl, M⟩ K
  replace M := M0.call M; clear M0
  refine ⟨M.pick [2,3,4,5,6,7,8,9,10,11,12,13,14,15,16] (by decide), ?_⟩
  refine T_rd1 K (want_no rfl) rfl rfl (rd_eql rfl K rfl rfl) M (M.pick [2,3,4,5,6,7,8,9,10,11,12,13,14,15,16] (by decide)) ?_; clear K; intro a K
  refine T_rd1 K (want_no rfl) rfl rfl (rd_move rfl K rfl) M (M.pick [2,3,4,5,6,7,8,9,10,11,12,13,14,15,16] (by decide)) ?_; clear K; intro a K
  rcases Bool.eq_false_or_eq_true (decide (r12 = 0)) with hb | hb
  · have h := ctrue hb h
    have K := K.reb (s := 31) rfl hb
    refine T_rd1 K (K.yes rfl rfl rfl) rfl rfl (rd_build rfl K (vs := []) (cs := [I 0, I 0, I 0, I 0, I 0, I 0, .slice none (([] : List (Int × Int))).length 0, I 0, I 0, I 0, I 0, I 0, I 0, I 0, I 0, I 0, I 0, I 0, I 0, .slice none (([] : List (Int × Int))).length 0, I 0]) rfl (by kernel_rfl)) M (M.pick [2,3,4,5,6,7,8,9,10,11,12,13,14,15,16] (by decide)) ?_; clear K; intro a K
    obtain ⟨r13, h_r13, h⟩ := obind h
    refine T_a K (ac_call (vs := [.agg #[I 0, I 0, I 0, I 0, I 0, I 0, .slice none (([] : List (Int × Int))).length 0, I 0, I 0, I 0, I 0, I 0, I 0, I 0, I 0, I 0, I 0, I 0, I 0, .slice none (([] : List (Int × Int))).length 0, I 0]]) (cap := []) rfl fok19 K rfl rfl (W_line_Check N 0 0 0 0 0 0 (([] : List (Int × Int))) none 0 0 0 0 0 0 0 0 0 0 0 0 0 (([] : List (Int × Int))) none 0 0 _ ((fun _ _ => SL.nil) _ M) (Nat.le_refl _) ((fun _ _ => SL.nil) _ M) (Nat.le_refl _) r13 h_r13)) ?_
    have M0 := M; clear K M; rintro _ a w ⟨rfl, M⟩ K
    replace M := M0.call M; clear M0
    refine ⟨M.pick [2,3,4,5,6,7,8,9,10,11,12,13,14,15,16] (by decide), ?_⟩
    refine T_rd1 K (K.yes rfl rfl rfl) rfl rfl (rd_eql rfl K rfl rfl) M (M.pick [2,3,4,5,6,7,8,9,10,11,12,13,14,15,16] (by decide)) ?_; clear K; intro a K
    refine T_rd1 K (want_no rfl) rfl rfl (rd_pickT rfl K rfl rfl) M (M.pick [2,3,4,5,6,7,8,9,10,11,12,13,14,15,16] (by decide)) ?_; clear K; intro a K
    refine T_rd1 K (want_no rfl) rfl rfl (rd_move rfl K rfl) M (M.pick [2,3,4,5,6,7,8,9,10,11,12,13,14,15,16] (by decide)) ?_; clear K; intro a K
    rcases Bool.eq_false_or_eq_true (decide (r13 = 3)) with hb | hb
    · have h := ctrue hb h
      have K := K.reb (s := 36) rfl hb
      refine T_rd1 K (K.yes rfl rfl rfl) rfl rfl (rd_move rfl K rfl) M (M.pick [2,3,4,5,6,7,8,9,10,11,12,13,14,15,16] (by decide)) ?_; clear K; intro a K
      refine T_rd1 K (K.yes rfl rfl rfl) rfl rfl (rd_eql rfl K rfl rfl) M (M.pick [2,3,4,5,6,7,8,9,10,11,12,13,14,15,16] (by decide)) ?_; clear K; intro a K
      refine T_rd1 K (want_no rfl) rfl rfl (rd_pickT rfl K rfl rfl) M (M.pick [2,3,4,5,6,7,8,9,10,11,12,13,14,15,16] (by decide)) ?_; clear K; intro a K
      refine T_rd1 K (want_no rfl) rfl rfl (rd_move rfl K rfl) M (M.pick [2,3,4,5,6,7,8,9,10,11,12,13,14,15,16] (by decide)) ?_; clear K; intro a K
      rcases Bool.eq_false_or_eq_true (decide (r4.2.2.2 = 0)) with hb | hb
      · have h := ctrue hb h
        have K := K.reb (s := 40) rfl hb
        refine T_rd1 K (K.yes rfl rfl rfl) rfl rfl (rd_move rfl K rfl) M (M.pick [2,3,4,5,6,7,8,9,10,11,12,13,14,15,16] (by decide)) ?_; clear K; intro a K
        refine T_rd1 K (K.yes rfl rfl rfl) rfl rfl (rd_eql rfl K rfl rfl) M (M.pick [2,3,4,5,6,7,8,9,10,11,12,13,14,15,16] (by decide)) ?_; clear K; intro a K
        refine T_rd1 K (want_no rfl) rfl rfl (rd_pickT rfl K rfl rfl) M (M.pick [2,3,4,5,6,7,8,9,10,11,12,13,14,15,16] (by decide)) ?_; clear K; intro a K
        refine T_rd1 K (want_no rfl) rfl rfl (rd_move rfl K rfl) M (M.pick [2,3,4,5,6,7,8,9,10,11,12,13,14,15,16] (by decide)) ?_; clear K; intro a K
        rcases Bool.eq_false_or_eq_true (decide (r7.2.2.2 = 0)) with hb | hb
        · have h := ctrue hb h
          have K := K.reb (s := 44) rfl hb
          refine T_rd1 K (K.yes rfl rfl rfl) rfl rfl (rd_move rfl K rfl) M (M.pick [2,3,4,5,6,7,8,9,10,11,12,13,14,15,16] (by decide)) ?_; clear K; intro a K
          refine T_rd1 K (K.yes rfl rfl rfl) rfl rfl (rd_eql rfl K rfl rfl) M (M.pick [2,3,4,5,6,7,8,9,10,11,12,13,14,15,16] (by decide)) ?_; clear K; intro a K
          refine T_rd1 K (want_no rfl) rfl rfl (rd_pickT rfl K rfl rfl) M (M.pick [2,3,4,5,6,7,8,9,10,11,12,13,14,15,16] (by decide)) ?_; clear K; intro a K
          refine T_rd1 K (want_no rfl) rfl rfl (rd_move rfl K rfl) M (M.pick [2,3,4,5,6,7,8,9,10,11,12,13,14,15,16] (by decide)) ?_; clear K; intro a K
          rcases Bool.eq_false_or_eq_true (decide (r10.2.2.2 = 0)) with hb | hb
          · have h := ctrue hb h
            have K := K.reb (s := 48) rfl hb
            refine T_rd1 K (K.yes rfl rfl rfl) rfl rfl (rd_field rfl fld24_2 K rfl) M (M.pick [2,3,4,5,6,7,8,9,10,11,12,13,14,15,16] (by decide)) ?_; clear K; intro a K
            refine T_rd1 K (K.yes rfl rfl rfl) rfl rfl (rd_ldC rfl sc22 K rfl (inM 12 rfl) rfl) M (M.pick [2,3,4,5,6,7,8,9,10,11,12,13,14,15,16] (by decide)) ?_; clear K; intro a K
            refine T_rd1 K (K.yes rfl rfl rfl) rfl rfl (rd_len rfl un22 K rfl) M (M.pick [2,3,4,5,6,7,8,9,10,11,12,13,14,15,16] (by decide)) ?_; clear K; intro a K
            refine T_rd1 K (K.yes rfl rfl rfl) rfl rfl (rd_eql rfl K rfl rfl) M (M.pick [2,3,4,5,6,7,8,9,10,11,12,13,14,15,16] (by decide)) ?_; clear K; intro a K
            refine T_rd1 K (want_no rfl) rfl rfl (rd_pickT rfl K rfl rfl) M (M.pick [2,3,4,5,6,7,8,9,10,11,12,13,14,15,16] (by decide)) ?_; clear K; intro a K
            refine T_rd1 K (want_no rfl) rfl rfl (rd_move rfl K rfl) M (M.pick [2,3,4,5,6,7,8,9,10,11,12,13,14,15,16] (by decide)) ?_; clear K; intro a K
            rcases Bool.eq_false_or_eq_true (decide ((r4.2.2.1.length : Int) = 24)) with hb | hb
            · have h := ctrue hb h
              have K := K.reb (s := 54) rfl hb
              refine T_r K (rd_ldA rfl ty24 K rfl (inM 5 rfl) rfl rfl) ?_; clear K; intro a K
              refine T_rd1 K (K.yes rfl rfl rfl) rfl rfl (rd_ldA rfl ty24 K rfl (inM 12 rfl) rfl rfl) M (M.pick [2,3,4,5,6,7,8,9,10,11,12,13,14,15,16] (by decide)) ?_; clear K; intro a K
              obtain ⟨r14, h_r14, h⟩ := obind h
              refine T_a K (ac_call (vs := [.agg #[I r7.1, I r7.2.1, .slice A8 r7.2.2.1.length c8], .agg #[I r4.1, I r4.2.1, .slice A4 r4.2.2.1.length c4]]) (cap := []) rfl fok14 K rfl rfl (W_darkslideref_SamePictures N r7.1 r7.2.1 r7.2.2.1 A8 c8 r4.1 r4.2.1 r4.2.2.1 A4 c4 _ ((inR (C := cIII) 8 rfl rfl) _ M) (M.cap 8 rfl) ((inR (C := cIII) 13 rfl rfl) _ M) (M.cap 13 rfl) r14 h_r14)) ?_
              have M0 := M; clear K M; rintro _ a w ⟨rfl, M⟩ K
              replace M := M0.call M; clear M0
              refine ⟨M.pick [2,3,4,5,6,7,8,9,10,11,12,13,14,15,16] (by decide), ?_⟩
              refine T_o K ?_; clear K
              refine U_o ?_; intro a K
              rcases Bool.eq_false_or_eq_true (r14) with hb | hb
              · have h := ctrue hb h
                have K := K.reb (s := 59) rfl hb
                refine T_r K (rd_field rfl fld24_1 K rfl) ?_; clear K
                refine U_r (fun _ K => rd_ldC rfl sc3 K rfl (inM 0 rfl) rfl) ?_
                iterate 3 (refine U_o ?_)
                intro a K
                rcases Bool.eq_false_or_eq_true (decide (r10.2.1 = 2)) with hb | hb
                · have h := ctrue hb h
                  have K := K.reb (s := 64) rfl hb
                  refine T_r K (rd_field rfl fld24_2 K rfl) ?_; clear K
                  refine U_r (fun _ K => rd_ldC rfl sc22 K rfl (inM 0 rfl) rfl) ?_
                  refine U_r (fun _ K => rd_len rfl un22 K rfl) ?_
                  iterate 3 (refine U_o ?_)
                  intro a K
                  rcases Bool.eq_false_or_eq_true (decide ((r10.2.2.1.length : Int) = 4)) with hb | hb
                  · have h := ctrue hb h
                    have K := K.reb (s := 70) rfl hb
                    refine T_r K (rd_field rfl fld24_2 K rfl) ?_; clear K
                    refine U_r (fun _ K => rd_ldC rfl sc22 K rfl (inM 0 rfl) rfl) ?_
                    obtain ⟨e, h_e, h⟩ := obind h
                    refine U_r (fun _ K => rd_ix rfl sl22 K rfl rfl (inR (C := cIII) 1 rfl rfl) h_e) ?_
                    refine U_r (fun _ K => rd_elA rfl ty34 K rfl rfl rfl (inR (C := cIII) 1 rfl rfl) h_e) ?_
                    refine U_r (fun _ K => rd_field rfl fld24_2 K rfl) ?_
                    refine U_r (fun _ K => rd_ldC rfl sc22 K rfl (inM 10 rfl) rfl) ?_
                    obtain ⟨e2, h_e2, h⟩ := obind h
                    refine U_r (fun _ K => rd_ix rfl sl22 K rfl rfl (inR (C := cIII) 11 rfl rfl) h_e2) ?_
                    refine U_r (fun _ K => rd_elA rfl ty34 K rfl rfl rfl (inR (C := cIII) 11 rfl rfl) h_e2) ?_
                    refine U_r (fun _ K => rd_aggE eg34 rfl K rfl rfl (eqr34 _ _ _ _ _ _)) ?_
                    iterate 2 (refine U_o ?_)
                    intro a K
                    refine T_end ?_
                    refine then_n (wp_ret ?_)
                    cases h
                    exact ret1 K rfl (res_tmp K rfl) ⟨_, rfl, rfl, ((M).pick [] (by decide))⟩
                  have h := cfalse hb h
                  have K := K.reb (s := 70) rfl hb
                  refine T_o K ?_; clear K
                  iterate 10 (refine U_o ?_)
                  intro a K
                  refine T_end ?_
                  refine then_n (wp_ret ?_)
                  cases h
                  exact ret1 K rfl (res_tmp K rfl) ⟨_, rfl, rfl, ((M).pick [] (by decide))⟩
                have h := cfalse hb h
                have K := K.reb (s := 64) rfl hb
                refine T_o K ?_; clear K
                iterate 16 (refine U_o ?_)
                intro a K
                refine T_end ?_
                refine then_n (wp_ret ?_)
                cases h
                exact ret1 K rfl (res_tmp K rfl) ⟨_, rfl, rfl, ((M).pick [] (by decide))⟩
              have h := cfalse hb h
              have K := K.reb (s := 59) rfl hb
              refine T_o K ?_; clear K
              iterate 21 (refine U_o ?_)
              intro a K
              refine T_end ?_
              refine then_n (wp_ret ?_)
              cases h
              exact ret1 K rfl (res_tmp K rfl) ⟨_, rfl, rfl, ((M).pick [] (by decide))⟩
            have h := cfalse hb h
            have K := K.reb (s := 54) rfl hb
            refine T_o K ?_; clear K; intro a K
            iterate 2 (refine T_no1 K (K.no rfl rfl rfl rfl) rfl rfl (M.pick [2,3,4,5,6,7,8,9,10,11,12,13,14,15,16] (by decide)) ?_; clear K; intro a K)
            refine T_o K ?_; clear K
            iterate 23 (refine U_o ?_)
            intro a K
            refine T_end ?_
            refine then_n (wp_ret ?_)
            cases h
            exact ret1 K rfl (res_tmp K rfl) ⟨_, rfl, rfl, ((M).pick [] (by decide))⟩
          have h := cfalse hb h
          have K := K.reb (s := 48) rfl hb
          iterate 4 (refine T_no1 K (K.no rfl rfl rfl rfl) rfl rfl (M.pick [2,3,4,5,6,7,8,9,10,11,12,13,14,15,16] (by decide)) ?_; clear K; intro a K)
          refine T_rd1 K (want_no rfl) rfl rfl (rd_pickF rfl K rfl rfl) M (M.pick [2,3,4,5,6,7,8,9,10,11,12,13,14,15,16] (by decide)) ?_; clear K; intro a K
          refine T_rd1 K (want_no rfl) rfl rfl (rd_move rfl K rfl) M (M.pick [2,3,4,5,6,7,8,9,10,11,12,13,14,15,16] (by decide)) ?_; clear K; intro a K
          refine T_o K ?_; clear K; intro a K
          iterate 2 (refine T_no1 K (K.no rfl rfl rfl rfl) rfl rfl (M.pick [2,3,4,5,6,7,8,9,10,11,12,13,14,15,16] (by decide)) ?_; clear K; intro a K)
          refine T_o K ?_; clear K
          iterate 23 (refine U_o ?_)
          intro a K
          refine T_end ?_
          refine then_n (wp_ret ?_)
          cases h
          exact ret1 K rfl (res_tmp K rfl) ⟨_, rfl, rfl, ((M).pick [] (by decide))⟩
        have h := cfalse hb h
        have K := K.reb (s := 44) rfl hb
        iterate 2 (refine T_no1 K (K.no rfl rfl rfl rfl) rfl rfl (M.pick [2,3,4,5,6,7,8,9,10,11,12,13,14,15,16] (by decide)) ?_; clear K; intro a K)
        refine T_rd1 K (want_no rfl) rfl rfl (rd_pickF rfl K rfl rfl) M (M.pick [2,3,4,5,6,7,8,9,10,11,12,13,14,15,16] (by decide)) ?_; clear K; intro a K
        refine T_rd1 K (want_no rfl) rfl rfl (rd_move rfl K rfl) M (M.pick [2,3,4,5,6,7,8,9,10,11,12,13,14,15,16] (by decide)) ?_; clear K; intro a K
        iterate 4 (refine T_no1 K (K.no rfl rfl rfl rfl) rfl rfl (M.pick [2,3,4,5,6,7,8,9,10,11,12,13,14,15,16] (by decide)) ?_; clear K; intro a K)
        refine T_rd1 K (want_no rfl) rfl rfl (rd_pickF rfl K rfl rfl) M (M.pick [2,3,4,5,6,7,8,9,10,11,12,13,14,15,16] (by decide)) ?_; clear K; intro a K
        refine T_rd1 K (want_no rfl) rfl rfl (rd_move rfl K rfl) M (M.pick [2,3,4,5,6,7,8,9,10,11,12,13,14,15,16] (by decide)) ?_; clear K; intro a K
        refine T_o K ?_; clear K; intro a K
        iterate 2 (refine T_no1 K (K.no rfl rfl rfl rfl) rfl rfl (M.pick [2,3,4,5,6,7,8,9,10,11,12,13,14,15,16] (by decide)) ?_; clear K; intro a K)
        refine T_o K ?_; clear K
        iterate 23 (refine U_o ?_)
        intro a K
        refine T_end ?_
        refine then_n (wp_ret ?_)
        cases h
        exact ret1 K rfl (res_tmp K rfl) ⟨_, rfl, rfl, ((M).pick [] (by decide))⟩
      have h := cfalse hb h
      have K := K.reb (s := 40) rfl hb
      iterate 2 (refine T_no1 K (K.no rfl rfl rfl rfl) rfl rfl (M.pick [2,3,4,5,6,7,8,9,10,11,12,13,14,15,16] (by decide)) ?_; clear K; intro a K)
      refine T_rd1 K (want_no rfl) rfl rfl (rd_pickF rfl K rfl rfl) M (M.pick [2,3,4,5,6,7,8,9,10,11,12,13,14,15,16] (by decide)) ?_; clear K; intro a K
      refine T_rd1 K (want_no rfl) rfl rfl (rd_move rfl K rfl) M (M.pick [2,3,4,5,6,7,8,9,10,11,12,13,14,15,16] (by decide)) ?_; clear K; intro a K
      iterate 2 (refine T_no1 K (K.no rfl rfl rfl rfl) rfl rfl (M.pick [2,3,4,5,6,7,8,9,10,11,12,13,14,15,16] (by decide)) ?_; clear K; intro a K)
      refine T_rd1 K (want_no rfl) rfl rfl (rd_pickF rfl K rfl rfl) M (M.pick [2,3,4,5,6,7,8,9,10,11,12,13,14,15,16] (by decide)) ?_; clear K; intro a K
      refine T_rd1 K (want_no rfl) rfl rfl (rd_move rfl K rfl) M (M.pick [2,3,4,5,6,7,8,9,10,11,12,13,14,15,16] (by decide)) ?_; clear K; intro a K
      iterate 4 (refine T_no1 K (K.no rfl rfl rfl rfl) rfl rfl (M.pick [2,3,4,5,6,7,8,9,10,11,12,13,14,15,16] (by decide)) ?_; clear K; intro a K)
      refine T_rd1 K (want_no rfl) rfl rfl (rd_pickF rfl K rfl rfl) M (M.pick [2,3,4,5,6,7,8,9,10,11,12,13,14,15,16] (by decide)) ?_; clear K; intro a K
      refine T_rd1 K (want_no rfl) rfl rfl (rd_move rfl K rfl) M (M.pick [2,3,4,5,6,7,8,9,10,11,12,13,14,15,16] (by decide)) ?_; clear K; intro a K
      refine T_o K ?_; clear K; intro a K
      iterate 2 (refine T_no1 K (K.no rfl rfl rfl rfl) rfl rfl (M.pick [2,3,4,5,6,7,8,9,10,11,12,13,14,15,16] (by decide)) ?_; clear K; intro a K)
      refine T_o K ?_; clear K
      iterate 23 (refine U_o ?_)
      intro a K
      refine T_end ?_
      refine then_n (wp_ret ?_)
      cases h
      exact ret1 K rfl (res_tmp K rfl) ⟨_, rfl, rfl, ((M).pick [] (by decide))⟩
    have h := cfalse hb h
    have K := K.reb (s := 36) rfl hb
    iterate 2 (refine T_no1 K (K.no rfl rfl rfl rfl) rfl rfl (M.pick [2,3,4,5,6,7,8,9,10,11,12,13,14,15,16] (by decide)) ?_; clear K; intro a K)
    refine T_rd1 K (want_no rfl) rfl rfl (rd_pickF rfl K rfl rfl) M (M.pick [2,3,4,5,6,7,8,9,10,11,12,13,14,15,16] (by decide)) ?_; clear K; intro a K
    refine T_rd1 K (want_no rfl) rfl rfl (rd_move rfl K rfl) M (M.pick [2,3,4,5,6,7,8,9,10,11,12,13,14,15,16] (by decide)) ?_; clear K; intro a K
    iterate 2 (refine T_no1 K (K.no rfl rfl rfl rfl) rfl rfl (M.pick [2,3,4,5,6,7,8,9,10,11,12,13,14,15,16] (by decide)) ?_; clear K; intro a K)
    refine T_rd1 K (want_no rfl) rfl rfl (rd_pickF rfl K rfl rfl) M (M.pick [2,3,4,5,6,7,8,9,10,11,12,13,14,15,16] (by decide)) ?_; clear K; intro a K
    refine T_rd1 K (want_no rfl) rfl rfl (rd_move rfl K rfl) M (M.pick [2,3,4,5,6,7,8,9,10,11,12,13,14,15,16] (by decide)) ?_; clear K; intro a K
    iterate 2 (refine T_no1 K (K.no rfl rfl rfl rfl) rfl rfl (M.pick [2,3,4,5,6,7,8,9,10,11,12,13,14,15,16] (by decide)) ?_; clear K; intro a K)
    refine T_rd1 K (want_no rfl) rfl rfl (rd_pickF rfl K rfl rfl) M (M.pick [2,3,4,5,6,7,8,9,10,11,12,13,14,15,16] (by decide)) ?_; clear K; intro a K
    refine T_rd1 K (want_no rfl) rfl rfl (rd_move rfl K rfl) M (M.pick [2,3,4,5,6,7,8,9,10,11,12,13,14,15,16] (by decide)) ?_; clear K; intro a K
    iterate 4 (refine T_no1 K (K.no rfl rfl rfl rfl) rfl rfl (M.pick [2,3,4,5,6,7,8,9,10,11,12,13,14,15,16] (by decide)) ?_; clear K; intro a K)
    refine T_rd1 K (want_no rfl) rfl rfl (rd_pickF rfl K rfl rfl) M (M.pick [2,3,4,5,6,7,8,9,10,11,12,13,14,15,16] (by decide)) ?_; clear K; intro a K
    refine T_rd1 K (want_no rfl) rfl rfl (rd_move rfl K rfl) M (M.pick [2,3,4,5,6,7,8,9,10,11,12,13,14,15,16] (by decide)) ?_; clear K; intro a K
    refine T_o K ?_; clear K; intro a K
    iterate 2 (refine T_no1 K (K.no rfl rfl rfl rfl) rfl rfl (M.pick [2,3,4,5,6,7,8,9,10,11,12,13,14,15,16] (by decide)) ?_; clear K; intro a K)
    refine T_o K ?_; clear K
    iterate 23 (refine U_o ?_)
    intro a K
    refine T_end ?_
    refine then_n (wp_ret ?_)
    cases h
    exact ret1 K rfl (res_tmp K rfl) ⟨_, rfl, rfl, ((M).pick [] (by decide))⟩
  have h := cfalse hb h
  have K := K.reb (s := 31) rfl hb
  iterate 3 (refine T_no1 K (K.no rfl rfl rfl rfl) rfl rfl (M.pick [2,3,4,5,6,7,8,9,10,11,12,13,14,15,16] (by decide)) ?_; clear K; intro a K)
  refine T_rd1 K (want_no rfl) rfl rfl (rd_pickF rfl K rfl rfl) M (M.pick [2,3,4,5,6,7,8,9,10,11,12,13,14,15,16] (by decide)) ?_; clear K; intro a K
  refine T_rd1 K (want_no rfl) rfl rfl (rd_move rfl K rfl) M (M.pick [2,3,4,5,6,7,8,9,10,11,12,13,14,15,16] (by decide)) ?_; clear K; intro a K
  iterate 2 (refine T_no1 K (K.no rfl rfl rfl rfl) rfl rfl (M.pick [2,3,4,5,6,7,8,9,10,11,12,13,14,15,16] (by decide)) ?_; clear K; intro a K)
  refine T_rd1 K (want_no rfl) rfl rfl (rd_pickF rfl K rfl rfl) M (M.pick [2,3,4,5,6,7,8,9,10,11,12,13,14,15,16] (by decide)) ?_; clear K; intro a K
  refine T_rd1 K (want_no rfl) rfl rfl (rd_move rfl K rfl) M (M.pick [2,3,4,5,6,7,8,9,10,11,12,13,14,15,16] (by decide)) ?_; clear K; intro a K
  iterate 2 (refine T_no1 K (K.no rfl rfl rfl rfl) rfl rfl (M.pick [2,3,4,5,6,7,8,9,10,11,12,13,14,15,16] (by decide)) ?_; clear K; intro a K)
  refine T_rd1 K (want_no rfl) rfl rfl (rd_pickF rfl K rfl rfl) M (M.pick [2,3,4,5,6,7,8,9,10,11,12,13,14,15,16] (by decide)) ?_; clear K; intro a K
  refine T_rd1 K (want_no rfl) rfl rfl (rd_move rfl K rfl) M (M.pick [2,3,4,5,6,7,8,9,10,11,12,13,14,15,16] (by decide)) ?_; clear K; intro a K
  iterate 2 (refine T_no1 K (K.no rfl rfl rfl rfl) rfl rfl (M.pick [2,3,4,5,6,7,8,9,10,11,12,13,14,15,16] (by decide)) ?_; clear K; intro a K)
  refine T_rd1 K (want_no rfl) rfl rfl (rd_pickF rfl K rfl rfl) M (M.pick [2,3,4,5,6,7,8,9,10,11,12,13,14,15,16] (by decide)) ?_; clear K; intro a K
  refine T_rd1 K (want_no rfl) rfl rfl (rd_move rfl K rfl) M (M.pick [2,3,4,5,6,7,8,9,10,11,12,13,14,15,16] (by decide)) ?_; clear K; intro a K
  iterate 4 (refine T_no1 K (K.no rfl rfl rfl rfl) rfl rfl (M.pick [2,3,4,5,6,7,8,9,10,11,12,13,14,15,16] (by decide)) ?_; clear K; intro a K)
  refine T_rd1 K (want_no rfl) rfl rfl (rd_pickF rfl K rfl rfl) M (M.pick [2,3,4,5,6,7,8,9,10,11,12,13,14,15,16] (by decide)) ?_; clear K; intro a K
  refine T_rd1 K (want_no rfl) rfl rfl (rd_move rfl K rfl) M (M.pick [2,3,4,5,6,7,8,9,10,11,12,13,14,15,16] (by decide)) ?_; clear K; intro a K
  refine T_o K ?_; clear K; intro a K
  iterate 2 (refine T_no1 K (K.no rfl rfl rfl rfl) rfl rfl (M.pick [2,3,4,5,6,7,8,9,10,11,12,13,14,15,16] (by decide)) ?_; clear K; intro a K)
  refine T_o K ?_; clear K
  iterate 23 (refine U_o ?_)
  intro a K
  refine T_end ?_
  refine then_n (wp_ret ?_)
  cases h
  exact ret1 K rfl (res_tmp K rfl) ⟨_, rfl, rfl, ((M).pick [] (by decide))⟩
end Go.Proofs.Ytpmnfhifmmfglab

namespace Go.Proofs.Ytpmnfhifmmfglab
open Go.RowKit
set_option maxRecDepth 100000 in
set_option maxHeartbeats 4000000 in
theorem W_darkslidelaw_LineAlike (N : Nat) (da : Int) (db0 : Int) (db1 : Int) (db2 : Int) (db3 : Int) (dc : Int) (dd : List (Int × Int)) (Add : Option Addr) (cdd : Nat) (de0 : Int) (de1 : Int) (de2 : Int) (df0 : Int) (df1 : Int) (df2 : Int) (df3 : Int) (df4 : Int) (df5 : Int) (df6 : Int) (df7 : Int) (df8 : Int) (dg : List (Int × Int)) (Adg : Option Addr) (cdg : Nat) (dh : Int) (o_W : Int) (o_H : Int) (o_P : List Int) (A_o_P : Option Addr) (c_o_P : Nat) (p2 : Int) (p3 : Int) (w0 : World) (Rdd : SL w0 cII Add dd) (Cdd : dd.length ≤ cdd) (Rdg : SL w0 cII Adg dg) (Cdg : dg.length ≤ cdg) (R_o_P : SL w0 (cI .i64) A_o_P o_P) (C_o_P : o_P.length ≤ c_o_P) (r : Bool) (h : D_darkslidelaw_LineAlike N da db0 db1 db2 db3 dc dd de0 de1 de2 df0 df1 df2 df3 df4 df5 df6 df7 df8 dg dh o_W o_H o_P p2 p3 = some r) :
    Calls Try.prog 8 #[.agg #[I da, I db0, I db1, I db2, I db3, I dc, .slice Add dd.length cdd, I de0, I de1, I de2, I df0, I df1, I df2, I df3, I df4, I df5, I df6, I df7, I df8, .slice Adg dg.length cdg, I dh], .agg #[I o_W, I o_H, .slice A_o_P o_P.length c_o_P], I p2, I p3] w0 fun e w' => ∃ v, e = .returned v ∧ v = .bool r ∧ Mem w0.heap.size w0 w' [] := by
  refine X_enter Try.func8 rfl Try.ntmps8 rfl ?_
  intro a K
  have M := Mem.start w0
  have K : Kn a 83 [(0, .agg #[I da, I db0, I db1, I db2, I db3, I dc, .slice Add dd.length cdd, I de0, I de1, I de2, I df0, I df1, I df2, I df3, I df4, I df5, I df6, I df7, I df8, .slice Adg dg.length cdg, I dh]), (1, .agg #[I o_W, I o_H, .slice A_o_P o_P.length c_o_P]), (2, I p2), (3, I p3)] := K
  unfold D_darkslidelaw_LineAlike at h
  refine wp_seq (X_reg ?_)
  refine X_a K (ac_box rfl K rfl (cs := [I da, I db0, I db1, I db2, I db3, I dc, .slice Add dd.length cdd, I de0, I de1, I de2, I df0, I df1, I df2, I df3, I df4, I df5, I df6, I df7, I df8, .slice Adg dg.length cdg, I dh]) rfl M) ?_
  clear K M; rintro _ a w ⟨g_x, rfl, M⟩ K
  refine X_a K (ac_box rfl K rfl (cs := [I o_W, I o_H, .slice A_o_P o_P.length c_o_P]) rfl M) ?_
  clear K M; rintro _ a w ⟨g_x2, rfl, M⟩ K
  refine X_o K M ?_; clear K; intro a K
  refine wpList_nil (then_n (wp_seq (X_reg ?_)))
  refine X_r K (rd_ldA rfl ty42 K rfl (inM 1 rfl) rfl rfl) M ?_; clear K
  refine Y_r (fun _ K => rd_ldA rfl ty45 K rfl (inM 0 rfl) rfl rfl) M ?_; intro a K
  obtain ⟨r2, h_r2, h⟩ := obind h
  refine X_a K (ac_call (vs := [.agg #[I da, I db0, I db1, I db2, I db3, I dc, .slice Add dd.length cdd, I de0, I de1, I de2, I df0, I df1, I df2, I df3, I df4, I df5, I df6, I df7, I df8, .slice Adg dg.length cdg, I dh], .agg #[I o_W, I o_H, .slice A_o_P o_P.length c_o_P]]) (cap := []) rfl fok15 K rfl rfl (W_line_Whole N da db0 db1 db2 db3 dc dd Add cdd de0 de1 de2 df0 df1 df2 df3 df4 df5 df6 df7 df8 dg Adg cdg dh o_W o_H o_P A_o_P c_o_P _ ((inA Rdd) _ M) Cdd ((inA Rdg) _ M) Cdg ((inA R_o_P) _ M) C_o_P r2 h_r2)) ?_
  have M0 := M; clear K M; rintro _ a w ⟨A, c, rfl, M⟩ K
  replace M := M0.call M; clear M0
  refine X_o K M ?_; clear K
  iterate 2 (refine Y_o M ?_)
  intro a K
  refine X_a K (ac_alloc rfl z24 M) ?_
  clear K M; rintro _ a w ⟨g_x3, rfl, M⟩ K
  refine X_b K (ac_storeA rfl ty24 K rfl (ds := [I r2.1, I r2.2.1, .slice A r2.2.2.1.length c]) rfl rfl 0 M rfl rfl rfl) ?_
  clear K M; rintro _ a w M K
  refine X_o K M ?_; clear K; intro a K
  refine wpList_nil (then_n (wp_seq (X_reg ?_)))
  refine X_r K (rd_ldA rfl ty42 K rfl (inM 3 rfl) rfl rfl) M ?_; clear K
  refine Y_r (fun _ K => rd_ldA rfl ty45 K rfl (inM 2 rfl) rfl rfl) M ?_
  refine Y_o M ?_; intro a K
  obtain ⟨r3, h_r3, h⟩ := obind h
  refine X_a K (ac_call (vs := [.agg #[I da, I db0, I db1, I db2, I db3, I dc, .slice Add dd.length cdd, I de0, I de1, I de2, I df0, I df1, I df2, I df3, I df4, I df5, I df6, I df7, I df8, .slice Adg dg.length cdg, I dh], .agg #[I o_W, I o_H, .slice A_o_P o_P.length c_o_P], I p2]) (cap := []) rfl fok24 K rfl rfl (W_line_Strips N da db0 db1 db2 db3 dc dd Add cdd de0 de1 de2 df0 df1 df2 df3 df4 df5 df6 df7 df8 dg Adg cdg dh o_W o_H o_P A_o_P c_o_P p2 _ ((inA Rdd) _ M) Cdd ((inA Rdg) _ M) Cdg ((inA R_o_P) _ M) C_o_P r3 h_r3)) ?_
  have M0 := M; clear K M; rintro _ a w ⟨A2, c2, rfl, M⟩ K
  replace M := M0.call M; clear M0
  refine X_o K M ?_; clear K
  iterate 2 (refine Y_o M ?_)
  intro a K
  refine X_a K (ac_alloc rfl z24 M) ?_
  clear K M; rintro _ a w ⟨g_x4, rfl, M⟩ K
  refine X_b K (ac_storeA rfl ty24 K rfl (ds := [I r3.1, I r3.2.1, .slice A2 r3.2.2.1.length c2]) rfl rfl 0 M rfl rfl rfl) ?_
  clear K M; rintro _ a w M K
  refine X_o K M ?_; clear K; intro a K
  refine wpList_nil (then_n (wp_seq (X_reg ?_)))
  refine X_r K (rd_ldA rfl ty42 K rfl (inM 5 rfl) rfl rfl) M ?_; clear K
  refine Y_r (fun _ K => rd_ldA rfl ty45 K rfl (inM 4 rfl) rfl rfl) M ?_
  refine Y_o M ?_; intro a K
  obtain ⟨r4, h_r4, h⟩ := obind h
  refine X_a K (ac_call (vs := [.agg #[I da, I db0, I db1, I db2, I db3, I dc, .slice Add dd.length cdd, I de0, I de1, I de2, I df0, I df1, I df2, I df3, I df4, I df5, I df6, I df7, I df8, .slice Adg dg.length cdg, I dh], .agg #[I o_W, I o_H, .slice A_o_P o_P.length c_o_P], I p3]) (cap := []) rfl fok24 K rfl rfl (W_line_Strips N da db0 db1 db2 db3 dc dd Add cdd de0 de1 de2 df0 df1 df2 df3 df4 df5 df6 df7 df8 dg Adg cdg dh o_W o_H o_P A_o_P c_o_P p3 _ ((inA Rdd) _ M) Cdd ((inA Rdg) _ M) Cdg ((inA R_o_P) _ M) C_o_P r4 h_r4)) ?_
  have M0 := M; clear K M; rintro _ a w ⟨A3, c3, rfl, M⟩ K
  replace M := M0.call M; clear M0
  refine X_o K M ?_; clear K
  iterate 2 (refine Y_o M ?_)
  intro a K
  refine X_a K (ac_alloc rfl z24 M) ?_
  clear K M; rintro _ a w ⟨g_x5, rfl, M⟩ K
  refine X_b K (ac_storeA rfl ty24 K rfl (ds := [I r4.1, I r4.2.1, .slice A3 r4.2.2.1.length c3]) rfl rfl 0 M rfl rfl rfl) ?_
  clear K M; rintro _ a w M K
  refine X_o K M ?_; clear K; intro a K
  refine wpList_nil (then_n (wp_seq (wp_seq (X_reg ?_))))
  refine X_o K M ?_; clear K
  refine Y_o M ?_; intro a K
  refine wpList_nil (then_n ?_)
  refine X_cond K rfl (fun hb => ?_) (fun hb => ?_)
  · have h := ctrue hb h
    refine wp_seq (X_reg ?_)
    obtain ⟨r5, h_r5, h⟩ := obind h
    refine X_a K (ac_call (vs := []) (cap := []) rfl fok18 K rfl rfl (W_darkslidelaw_lineBegun N  _  r5 h_r5)) ?_
    have M0 := M; clear K M; rintro _ a w ⟨rfl, M⟩ K
    replace M := M0.call M; clear M0
    refine X_o K M ?_; clear K; intro a K
    rcases Bool.eq_false_or_eq_true (r5) with hb | hb
    · have h := ctrue hb h
      have K := K.reb (s := 38) rfl hb
      refine X_o K M ?_; clear K
      iterate 4 (refine Y_o M ?_)
      intro a K
      rcases Bool.eq_false_or_eq_true (decide (r3.2.2.2 = r2.2.2.2)) with hb | hb
      · have h := ctrue hb h
        have K := K.reb (s := 43) rfl hb
        refine X_o K M ?_; clear K
        iterate 4 (refine Y_o M ?_)
        intro a K
        refine wpList_nil (then_n (wp_ret (then_r ?_)))
        cases h
        exact ret1 K rfl (res_tmp K rfl) ⟨_, rfl, rfl, ((M).pick [] (by decide))⟩
      have h := cfalse hb h
      have K := K.reb (s := 43) rfl hb
      refine X_o K M ?_; clear K
      iterate 4 (refine Y_o M ?_)
      intro a K
      refine wpList_nil (then_n (wp_ret (then_r ?_)))
      cases h
      exact ret1 K rfl (res_tmp K rfl) ⟨_, rfl, rfl, ((M).pick [] (by decide))⟩
    have h := cfalse hb h
    have K := K.reb (s := 38) rfl hb
    refine X_o K M ?_; clear K
    iterate 9 (refine Y_o M ?_)
    intro a K
    refine wpList_nil (then_n (wp_ret (then_r ?_)))
    cases h
    exact ret1 K rfl (res_tmp K rfl) ⟨_, rfl, rfl, ((M).pick [] (by decide))⟩
  have h := cfalse hb h
  refine wp_skip (then_n (wp_seq (X_reg ?_)))
  obtain ⟨r6, h_r6, h⟩ := obind h
  refine X_a K (ac_call (vs := []) (cap := []) rfl fok18 K rfl rfl (W_darkslidelaw_lineBegun N  _  r6 h_r6)) ?_
  have M0 := M; clear K M; rintro _ a w ⟨rfl, M⟩ K
  replace M := M0.call M; clear M0
  refine X_o K M ?_; clear K; intro a K
  rcases Bool.eq_false_or_eq_true (r6) with hb | hb
  · have h := ctrue hb h
    have K := K.reb (s := 49) rfl hb
    refine X_o K M ?_; clear K
    iterate 2 (refine Y_o M ?_)
    intro a K
    rcases Bool.eq_false_or_eq_true (decide (p2 < 1)) with hb | hb
    · have h := ctrue hb h
      have K := K.reb (s := 52) rfl hb
      refine X_o K M ?_; clear K
      iterate 3 (refine Y_o M ?_)
      intro a K
      rcases Bool.eq_false_or_eq_true (decide (r3.2.2.2 = 3)) with hb | hb
      · have h := ctrue hb h
        have K := K.reb (s := 56) rfl hb
        refine X_o K M ?_; clear K
        iterate 12 (refine Y_o M ?_)
        intro a K
        rcases Bool.eq_false_or_eq_true (decide (p3 < 1)) with hb | hb
        · have h := ctrue hb h
          have K := K.reb (s := 69) rfl hb
          refine X_o K M ?_; clear K
          iterate 3 (refine Y_o M ?_)
          intro a K
          rcases Bool.eq_false_or_eq_true (decide (r4.2.2.2 = 3)) with hb | hb
          · have h := ctrue hb h
            have K := K.reb (s := 73) rfl hb
            refine X_o K M ?_; clear K
            iterate 9 (refine Y_o M ?_)
            intro a K
            refine wpList_nil (then_n (wp_ret ?_))
            cases h
            exact ret1 K rfl (res_tmp K rfl) ⟨_, rfl, rfl, ((M).pick [] (by decide))⟩
          have h := cfalse hb h
          have K := K.reb (s := 73) rfl hb
          refine X_o K M ?_; clear K
          iterate 2 (refine Y_o M ?_)
          intro a K
          rcases Bool.eq_false_or_eq_true (decide (r4.2.2.2 = 0)) with hb | hb
          · have h := ctrue hb h
            have K := K.reb (s := 76) rfl hb
            refine X_r K (rd_ldA rfl ty24 K rfl (inM 0 rfl) rfl rfl) M ?_; clear K
            refine Y_r (fun _ K => rd_ldA rfl ty24 K rfl (inM 4 rfl) rfl rfl) M ?_; intro a K
            obtain ⟨r7, h_r7, h⟩ := obind h
            refine X_a K (ac_call (vs := [.agg #[I r4.1, I r4.2.1, .slice A3 r4.2.2.1.length c3], .agg #[I r2.1, I r2.2.1, .slice A r2.2.2.1.length c]]) (cap := []) rfl fok14 K rfl rfl (W_darkslideref_SamePictures N r4.1 r4.2.1 r4.2.2.1 A3 c3 r2.1 r2.2.1 r2.2.2.1 A c _ ((inR (C := cIII) 1 rfl rfl) _ M) (M.cap 1 rfl) ((inR (C := cIII) 5 rfl rfl) _ M) (M.cap 5 rfl) r7 h_r7)) ?_
            have M0 := M; clear K M; rintro _ a w ⟨rfl, M⟩ K
            replace M := M0.call M; clear M0
            refine X_o K M ?_; clear K
            iterate 3 (refine Y_o M ?_)
            intro a K
            refine wpList_nil (then_n (wp_ret ?_))
            cases h
            exact ret1 K rfl (res_tmp K rfl) ⟨_, rfl, rfl, ((M).pick [] (by decide))⟩
          have h := cfalse hb h
          have K := K.reb (s := 76) rfl hb
          refine X_o K M ?_; clear K
          iterate 6 (refine Y_o M ?_)
          intro a K
          refine wpList_nil (then_n (wp_ret ?_))
          cases h
          exact ret1 K rfl (res_tmp K rfl) ⟨_, rfl, rfl, ((M).pick [] (by decide))⟩
        have h := cfalse hb h
        have K := K.reb (s := 69) rfl hb
        refine X_o K M ?_; clear K
        iterate 6 (refine Y_o M ?_)
        intro a K
        rcases Bool.eq_false_or_eq_true (decide (r4.2.2.2 = 0)) with hb | hb
        · have h := ctrue hb h
          have K := K.reb (s := 76) rfl hb
          refine X_r K (rd_ldA rfl ty24 K rfl (inM 0 rfl) rfl rfl) M ?_; clear K
          refine Y_r (fun _ K => rd_ldA rfl ty24 K rfl (inM 4 rfl) rfl rfl) M ?_; intro a K
          obtain ⟨r8, h_r8, h⟩ := obind h
          refine X_a K (ac_call (vs := [.agg #[I r4.1, I r4.2.1, .slice A3 r4.2.2.1.length c3], .agg #[I r2.1, I r2.2.1, .slice A r2.2.2.1.length c]]) (cap := []) rfl fok14 K rfl rfl (W_darkslideref_SamePictures N r4.1 r4.2.1 r4.2.2.1 A3 c3 r2.1 r2.2.1 r2.2.2.1 A c _ ((inR (C := cIII) 1 rfl rfl) _ M) (M.cap 1 rfl) ((inR (C := cIII) 5 rfl rfl) _ M) (M.cap 5 rfl) r8 h_r8)) ?_
          have M0 := M; clear K M; rintro _ a w ⟨rfl, M⟩ K
          replace M := M0.call M; clear M0
          refine X_o K M ?_; clear K
          iterate 3 (refine Y_o M ?_)
          intro a K
          refine wpList_nil (then_n (wp_ret ?_))
          cases h
          exact ret1 K rfl (res_tmp K rfl) ⟨_, rfl, rfl, ((M).pick [] (by decide))⟩
        have h := cfalse hb h
        have K := K.reb (s := 76) rfl hb
        refine X_o K M ?_; clear K
        iterate 6 (refine Y_o M ?_)
        intro a K
        refine wpList_nil (then_n (wp_ret ?_))
        cases h
        exact ret1 K rfl (res_tmp K rfl) ⟨_, rfl, rfl, ((M).pick [] (by decide))⟩
      have h := cfalse hb h
      have K := K.reb (s := 56) rfl hb
      refine X_o K M ?_; clear K
      iterate 2 (refine Y_o M ?_)
      intro a K
      rcases Bool.eq_false_or_eq_true (decide (r3.2.2.2 = 0)) with hb | hb
      · have h := ctrue hb h
        have K := K.reb (s := 59) rfl hb
        refine X_r K (rd_ldA rfl ty24 K rfl (inM 2 rfl) rfl rfl) M ?_; clear K
        refine Y_r (fun _ K => rd_ldA rfl ty24 K rfl (inM 4 rfl) rfl rfl) M ?_; intro a K
        obtain ⟨r9, h_r9, h⟩ := obind h
        refine X_a K (ac_call (vs := [.agg #[I r3.1, I r3.2.1, .slice A2 r3.2.2.1.length c2], .agg #[I r2.1, I r2.2.1, .slice A r2.2.2.1.length c]]) (cap := []) rfl fok14 K rfl rfl (W_darkslideref_SamePictures N r3.1 r3.2.1 r3.2.2.1 A2 c2 r2.1 r2.2.1 r2.2.2.1 A c _ ((inR (C := cIII) 3 rfl rfl) _ M) (M.cap 3 rfl) ((inR (C := cIII) 5 rfl rfl) _ M) (M.cap 5 rfl) r9 h_r9)) ?_
        have M0 := M; clear K M; rintro _ a w ⟨rfl, M⟩ K
        replace M := M0.call M; clear M0
        refine X_o K M ?_; clear K
        iterate 3 (refine Y_o M ?_)
        intro a K
        rcases Bool.eq_false_or_eq_true (r9) with hb | hb
        · have h := ctrue hb h
          have K := K.reb (s := 66) rfl hb
          refine X_o K M ?_; clear K
          iterate 2 (refine Y_o M ?_)
          intro a K
          rcases Bool.eq_false_or_eq_true (decide (p3 < 1)) with hb | hb
          · have h := ctrue hb h
            have K := K.reb (s := 69) rfl hb
            refine X_o K M ?_; clear K
            iterate 3 (refine Y_o M ?_)
            intro a K
            rcases Bool.eq_false_or_eq_true (decide (r4.2.2.2 = 3)) with hb | hb
            · have h := ctrue hb h
              have K := K.reb (s := 73) rfl hb
              refine X_o K M ?_; clear K
              iterate 9 (refine Y_o M ?_)
              intro a K
              refine wpList_nil (then_n (wp_ret ?_))
              cases h
              exact ret1 K rfl (res_tmp K rfl) ⟨_, rfl, rfl, ((M).pick [] (by decide))⟩
            have h := cfalse hb h
            have K := K.reb (s := 73) rfl hb
            refine X_o K M ?_; clear K
            iterate 2 (refine Y_o M ?_)
            intro a K
            rcases Bool.eq_false_or_eq_true (decide (r4.2.2.2 = 0)) with hb | hb
            · have h := ctrue hb h
              have K := K.reb (s := 76) rfl hb
              refine X_r K (rd_ldA rfl ty24 K rfl (inM 0 rfl) rfl rfl) M ?_; clear K
              refine Y_r (fun _ K => rd_ldA rfl ty24 K rfl (inM 4 rfl) rfl rfl) M ?_; intro a K
              obtain ⟨r10, h_r10, h⟩ := obind h
              refine X_a K (ac_call (vs := [.agg #[I r4.1, I r4.2.1, .slice A3 r4.2.2.1.length c3], .agg #[I r2.1, I r2.2.1, .slice A r2.2.2.1.length c]]) (cap := []) rfl fok14 K rfl rfl (W_darkslideref_SamePictures N r4.1 r4.2.1 r4.2.2.1 A3 c3 r2.1 r2.2.1 r2.2.2.1 A c _ ((inR (C := cIII) 1 rfl rfl) _ M) (M.cap 1 rfl) ((inR (C := cIII) 5 rfl rfl) _ M) (M.cap 5 rfl) r10 h_r10)) ?_
              have M0 := M; clear K M; rintro _ a w ⟨rfl, M⟩ K
              replace M := M0.call M; clear M0
              refine X_o K M ?_; clear K
              iterate 3 (refine Y_o M ?_)
              intro a K
              refine wpList_nil (then_n (wp_ret ?_))
              cases h
              exact ret1 K rfl (res_tmp K rfl) ⟨_, rfl, rfl, ((M).pick [] (by decide))⟩
            have h := cfalse hb h
            have K := K.reb (s := 76) rfl hb
            refine X_o K M ?_; clear K
            iterate 6 (refine Y_o M ?_)
            intro a K
            refine wpList_nil (then_n (wp_ret ?_))
            cases h
            exact ret1 K rfl (res_tmp K rfl) ⟨_, rfl, rfl, ((M).pick [] (by decide))⟩
          have h := cfalse hb h
          have K := K.reb (s := 69) rfl hb
          refine X_o K M ?_; clear K
          iterate 6 (refine Y_o M ?_)
          intro a K
          rcases Bool.eq_false_or_eq_true (decide (r4.2.2.2 = 0)) with hb | hb
          · have h := ctrue hb h
            have K := K.reb (s := 76) rfl hb
            refine X_r K (rd_ldA rfl ty24 K rfl (inM 0 rfl) rfl rfl) M ?_; clear K
            refine Y_r (fun _ K => rd_ldA rfl ty24 K rfl (inM 4 rfl) rfl rfl) M ?_; intro a K
            obtain ⟨r11, h_r11, h⟩ := obind h
            refine X_a K (ac_call (vs := [.agg #[I r4.1, I r4.2.1, .slice A3 r4.2.2.1.length c3], .agg #[I r2.1, I r2.2.1, .slice A r2.2.2.1.length c]]) (cap := []) rfl fok14 K rfl rfl (W_darkslideref_SamePictures N r4.1 r4.2.1 r4.2.2.1 A3 c3 r2.1 r2.2.1 r2.2.2.1 A c _ ((inR (C := cIII) 1 rfl rfl) _ M) (M.cap 1 rfl) ((inR (C := cIII) 5 rfl rfl) _ M) (M.cap 5 rfl) r11 h_r11)) ?_
            have M0 := M; clear K M; rintro _ a w ⟨rfl, M⟩ K
            replace M := M0.call M; clear M0
            refine X_o K M ?_; clear K
            iterate 3 (refine Y_o M ?_)
            intro a K
            refine wpList_nil (then_n (wp_ret ?_))
            cases h
            exact ret1 K rfl (res_tmp K rfl) ⟨_, rfl, rfl, ((M).pick [] (by decide))⟩
          have h := cfalse hb h
          have K := K.reb (s := 76) rfl hb
          refine X_o K M ?_; clear K
          iterate 6 (refine Y_o M ?_)
          intro a K
          refine wpList_nil (then_n (wp_ret ?_))
          cases h
          exact ret1 K rfl (res_tmp K rfl) ⟨_, rfl, rfl, ((M).pick [] (by decide))⟩
        have h := cfalse hb h
        have K := K.reb (s := 66) rfl hb
        refine X_o K M ?_; clear K
        iterate 16 (refine Y_o M ?_)
        intro a K
        refine wpList_nil (then_n (wp_ret ?_))
        cases h
        exact ret1 K rfl (res_tmp K rfl) ⟨_, rfl, rfl, ((M).pick [] (by decide))⟩
      have h := cfalse hb h
      have K := K.reb (s := 59) rfl hb
      refine X_o K M ?_; clear K
      iterate 23 (refine Y_o M ?_)
      intro a K
      refine wpList_nil (then_n (wp_ret ?_))
      cases h
      exact ret1 K rfl (res_tmp K rfl) ⟨_, rfl, rfl, ((M).pick [] (by decide))⟩
    have h := cfalse hb h
    have K := K.reb (s := 52) rfl hb
    refine X_o K M ?_; clear K
    iterate 6 (refine Y_o M ?_)
    intro a K
    rcases Bool.eq_false_or_eq_true (decide (r3.2.2.2 = 0)) with hb | hb
    · have h := ctrue hb h
      have K := K.reb (s := 59) rfl hb
      refine X_r K (rd_ldA rfl ty24 K rfl (inM 2 rfl) rfl rfl) M ?_; clear K
      refine Y_r (fun _ K => rd_ldA rfl ty24 K rfl (inM 4 rfl) rfl rfl) M ?_; intro a K
      obtain ⟨r12, h_r12, h⟩ := obind h
      refine X_a K (ac_call (vs := [.agg #[I r3.1, I r3.2.1, .slice A2 r3.2.2.1.length c2], .agg #[I r2.1, I r2.2.1, .slice A r2.2.2.1.length c]]) (cap := []) rfl fok14 K rfl rfl (W_darkslideref_SamePictures N r3.1 r3.2.1 r3.2.2.1 A2 c2 r2.1 r2.2.1 r2.2.2.1 A c _ ((inR (C := cIII) 3 rfl rfl) _ M) (M.cap 3 rfl) ((inR (C := cIII) 5 rfl rfl) _ M) (M.cap 5 rfl) r12 h_r12)) ?_
      have M0 := M; clear K M; rintro _ a w ⟨rfl, M⟩ K
      replace M := M0.call M; clear M0
      refine X_o K M ?_; clear K
      iterate 3 (refine Y_o M ?_)
      intro a K
      rcases Bool.eq_false_or_eq_true (r12) with hb | hb
      · have h := ctrue hb h
        have K := K.reb (s := 66) rfl hb
        refine X_o K M ?_; clear K
        iterate 2 (refine Y_o M ?_)
        intro a K
        rcases Bool.eq_false_or_eq_true (decide (p3 < 1)) with hb | hb
        · have h := ctrue hb h
          have K := K.reb (s := 69) rfl hb
          refine X_o K M ?_; clear K
          iterate 3 (refine Y_o M ?_)
          intro a K
          rcases Bool.eq_false_or_eq_true (decide (r4.2.2.2 = 3)) with hb | hb
          · have h := ctrue hb h
            have K := K.reb (s := 73) rfl hb
            refine X_o K M ?_; clear K
            iterate 9 (refine Y_o M ?_)
            intro a K
            refine wpList_nil (then_n (wp_ret ?_))
            cases h
            exact ret1 K rfl (res_tmp K rfl) ⟨_, rfl, rfl, ((M).pick [] (by decide))⟩
          have h := cfalse hb h
          have K := K.reb (s := 73) rfl hb
          refine X_o K M ?_; clear K
          iterate 2 (refine Y_o M ?_)
          intro a K
          rcases Bool.eq_false_or_eq_true (decide (r4.2.2.2 = 0)) with hb | hb
          · have h := ctrue hb h
            have K := K.reb (s := 76) rfl hb
            refine X_r K (rd_ldA rfl ty24 K rfl (inM 0 rfl) rfl rfl) M ?_; clear K
            refine Y_r (fun _ K => rd_ldA rfl ty24 K rfl (inM 4 rfl) rfl rfl) M ?_; intro a K
            obtain ⟨r13, h_r13, h⟩ := obind h
            refine X_a K (ac_call (vs := [.agg #[I r4.1, I r4.2.1, .slice A3 r4.2.2.1.length c3], .agg #[I r2.1, I r2.2.1, .slice A r2.2.2.1.length c]]) (cap := []) rfl fok14 K rfl rfl (W_darkslideref_SamePictures N r4.1 r4.2.1 r4.2.2.1 A3 c3 r2.1 r2.2.1 r2.2.2.1 A c _ ((inR (C := cIII) 1 rfl rfl) _ M) (M.cap 1 rfl) ((inR (C := cIII) 5 rfl rfl) _ M) (M.cap 5 rfl) r13 h_r13)) ?_
            have M0 := M; clear K M; rintro _ a w ⟨rfl, M⟩ K
            replace M := M0.call M; clear M0
            refine X_o K M ?_; clear K
            iterate 3 (refine Y_o M ?_)
            intro a K
            refine wpList_nil (then_n (wp_ret ?_))
            cases h
            exact ret1 K rfl (res_tmp K rfl) ⟨_, rfl, rfl, ((M).pick [] (by decide))⟩
          have h := cfalse hb h
          have K := K.reb (s := 76) rfl hb
          refine X_o K M ?_; clear K
          iterate 6 (refine Y_o M ?_)
          intro a K
          refine wpList_nil (then_n (wp_ret ?_))
          cases h
          exact ret1 K rfl (res_tmp K rfl) ⟨_, rfl, rfl, ((M).pick [] (by decide))⟩
        have h := cfalse hb h
        have K := K.reb (s := 69) rfl hb
        refine X_o K M ?_; clear K
        iterate 6 (refine Y_o M ?_)
        intro a K
        rcases Bool.eq_false_or_eq_true (decide (r4.2.2.2 = 0)) with hb | hb
        · have h := ctrue hb h
          have K := K.reb (s := 76) rfl hb
          refine X_r K (rd_ldA rfl ty24 K rfl (inM 0 rfl) rfl rfl) M ?_; clear K
          refine Y_r (fun _ K => rd_ldA rfl ty24 K rfl (inM 4 rfl) rfl rfl) M ?_; intro a K
          obtain ⟨r14, h_r14, h⟩ := obind h
          refine X_a K (ac_call (vs := [.agg #[I r4.1, I r4.2.1, .slice A3 r4.2.2.1.length c3], .agg #[I r2.1, I r2.2.1, .slice A r2.2.2.1.length c]]) (cap := []) rfl fok14 K rfl rfl (W_darkslideref_SamePictures N r4.1 r4.2.1 r4.2.2.1 A3 c3 r2.1 r2.2.1 r2.2.2.1 A c _ ((inR (C := cIII) 1 rfl rfl) _ M) (M.cap 1 rfl) ((inR (C := cIII) 5 rfl rfl) _ M) (M.cap 5 rfl) r14 h_r14)) ?_
          have M0 := M; clear K M; rintro _ a w ⟨rfl, M⟩ K
          replace M := M0.call M; clear M0
          refine X_o K M ?_; clear K
          iterate 3 (refine Y_o M ?_)
          intro a K
          refine wpList_nil (then_n (wp_ret ?_))
          cases h
          exact ret1 K rfl (res_tmp K rfl) ⟨_, rfl, rfl, ((M).pick [] (by decide))⟩
        have h := cfalse hb h
        have K := K.reb (s := 76) rfl hb
        refine X_o K M ?_; clear K
        iterate 6 (refine Y_o M ?_)
        intro a K
        refine wpList_nil (then_n (wp_ret ?_))
        cases h
        exact ret1 K rfl (res_tmp K rfl) ⟨_, rfl, rfl, ((M).pick [] (by decide))⟩
      have h := cfalse hb h
      have K := K.reb (s := 66) rfl hb
      refine X_o K M ?_; clear K
      iterate 16 (refine Y_o M ?_)
      intro a K
      refine wpList_nil (then_n (wp_ret ?_))
      cases h
      exact ret1 K rfl (res_tmp K rfl) ⟨_, rfl, rfl, ((M).pick [] (by decide))⟩
    have h := cfalse hb h
    have K := K.reb (s := 59) rfl hb
    refine X_o K M ?_; clear K
    iterate 23 (refine Y_o M ?_)
    intro a K
    refine wpList_nil (then_n (wp_ret ?_))
    cases h
    exact ret1 K rfl (res_tmp K rfl) ⟨_, rfl, rfl, ((M).pick [] (by decide))⟩
  have h := cfalse hb h
  have K := K.reb (s := 49) rfl hb
  refine X_o K M ?_; clear K
  iterate 33 (refine Y_o M ?_)
  intro a K
  refine wpList_nil (then_n (wp_ret ?_))
  cases h
  exact ret1 K rfl (res_tmp K rfl) ⟨_, rfl, rfl, ((M).pick [] (by decide))⟩
end Go.Proofs.Ytpmnfhifmmfglab
