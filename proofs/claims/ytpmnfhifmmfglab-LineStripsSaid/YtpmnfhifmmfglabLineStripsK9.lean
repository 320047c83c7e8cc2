/- Texts of the claim LineStrips, joined: WRefSamepictures, WLawLinebegun, WRefWithin, WRefCurvefine, WRefMixfine, WRefSpotsin, WRefCheckplan, WRefPlanefine, WRefWholeerror, WRefOncurve, WRefBent, WRefAt, WRefColourat, WRefPixel, WRefFilled, WRefClamp. -/
import Derived.Test.YtpmnfhifmmfglabLineStripsK2
import Derived.Test.YtpmnfhifmmfglabLineStripsK4
import Derived.Test.YtpmnfhifmmfglabLineStripsK8
set_option linter.unusedVariables false
set_option linter.unusedSimpArgs false
set_option linter.unusedSectionVars false
namespace Go.Proofs.Ytpmnfhifmmfglab
open Go.RowKit
set_option maxRecDepth 100000 in
set_option maxHeartbeats 4000000 in
theorem W_darkslideref_SamePictures (N : Nat) (a_W : Int) (a_H : Int) (a_P : List (Int × Int × Int)) (A_a_P : Option Addr) (c_a_P : Nat) (b_W : Int) (b_H : Int) (b_P : List (Int × Int × Int)) (A_b_P : Option Addr) (c_b_P : Nat) (w0 : World) (R_a_P : SL w0 cIII A_a_P a_P) (C_a_P : a_P.length ≤ c_a_P) (R_b_P : SL w0 cIII A_b_P b_P) (C_b_P : b_P.length ≤ c_b_P) (r : Bool) (h : D_darkslideref_SamePictures N a_W a_H a_P b_W b_H b_P = some r) :
    Calls Try.prog 14 #[.agg #[I a_W, I a_H, .slice A_a_P a_P.length c_a_P], .agg #[I b_W, I b_H, .slice A_b_P b_P.length c_b_P]] w0 fun e w' => ∃ v, e = .returned v ∧ v = .bool r ∧ Mem w0.heap.size w0 w' [] := by
  refine X_enter Try.func14 rfl Try.ntmps14 rfl ?_
  intro a K
  have M := Mem.start w0
  have K : Kn a 45 [(0, .agg #[I a_W, I a_H, .slice A_a_P a_P.length c_a_P]), (1, .agg #[I b_W, I b_H, .slice A_b_P b_P.length c_b_P])] := K
  unfold D_darkslideref_SamePictures at h
  refine wp_seq (X_reg ?_)
  refine X_a K (ac_box rfl K rfl (cs := [I a_W, I a_H, .slice A_a_P a_P.length c_a_P]) rfl M) ?_
  clear K M; rintro _ a w ⟨g_a, rfl, M⟩ K
  refine X_a K (ac_box rfl K rfl (cs := [I b_W, I b_H, .slice A_b_P b_P.length c_b_P]) rfl M) ?_
  clear K M; rintro _ a w ⟨g_b, rfl, M⟩ K
  refine X_o K M ?_; clear K; intro a K
  refine wpList_nil (then_n (wp_seq (wp_seq (X_reg ?_))))
  refine X_r K (rd_field rfl fld24_0 K rfl) M ?_; clear K
  refine Y_r (fun _ K => rd_ldC rfl sc3 K rfl (inM 1 rfl) rfl) M ?_
  refine Y_r (fun _ K => rd_field rfl fld24_0 K rfl) M ?_
  refine Y_r (fun _ K => rd_ldC rfl sc3 K rfl (inM 0 rfl) rfl) M ?_
  iterate 2 (refine Y_o M ?_)
  intro a K
  rcases Bool.eq_false_or_eq_true (!decide (a_W = b_W)) with hb | hb
  · have h := ctrue hb h
    have K := K.reb (s := 11) rfl hb
    refine X_o K M ?_; clear K
    iterate 14 (refine Y_o M ?_)
    intro a K
    refine wpList_nil (then_n ?_)
    refine X_condT K rfl ?_
    refine wp_seq (X_reg ?_)
    refine X_o K M ?_; clear K; intro a K
    refine wpList_nil (then_n (wp_ret (then_r ?_)))
    cases h
    exact ret1 K rfl (res_tmp K rfl) ⟨_, rfl, rfl, ((M).pick [] (by decide))⟩
  have h := cfalse hb h
  have K := K.reb (s := 11) rfl hb
  refine X_r K (rd_field rfl fld24_1 K rfl) M ?_; clear K
  refine Y_r (fun _ K => rd_ldC rfl sc3 K rfl (inM 1 rfl) rfl) M ?_
  refine Y_r (fun _ K => rd_field rfl fld24_1 K rfl) M ?_
  refine Y_r (fun _ K => rd_ldC rfl sc3 K rfl (inM 0 rfl) rfl) M ?_
  iterate 3 (refine Y_o M ?_)
  intro a K
  rcases Bool.eq_false_or_eq_true (!decide (a_H = b_H)) with hb | hb
  · have h := ctrue hb h
    have K := K.reb (s := 18) rfl hb
    refine X_o K M ?_; clear K
    iterate 7 (refine Y_o M ?_)
    intro a K
    refine wpList_nil (then_n ?_)
    refine X_condT K rfl ?_
    refine wp_seq (X_reg ?_)
    refine X_o K M ?_; clear K; intro a K
    refine wpList_nil (then_n (wp_ret (then_r ?_)))
    cases h
    exact ret1 K rfl (res_tmp K rfl) ⟨_, rfl, rfl, ((M).pick [] (by decide))⟩
  have h := cfalse hb h
  have K := K.reb (s := 18) rfl hb
  refine X_r K (rd_field rfl fld24_2 K rfl) M ?_; clear K
  refine Y_r (fun _ K => rd_ldC rfl sc22 K rfl (inM 1 rfl) rfl) M ?_
  refine Y_r (fun _ K => rd_len rfl un22 K rfl) M ?_
  refine Y_r (fun _ K => rd_field rfl fld24_2 K rfl) M ?_
  refine Y_r (fun _ K => rd_ldC rfl sc22 K rfl (inM 0 rfl) rfl) M ?_
  refine Y_r (fun _ K => rd_len rfl un22 K rfl) M ?_
  iterate 2 (refine Y_o M ?_)
  intro a K
  refine wpList_nil (then_n ?_)
  refine X_cond K rfl (fun hb => ?_) (fun hb => ?_)
  · have h := ctrue hb h
    refine wp_seq (X_reg ?_)
    refine X_o K M ?_; clear K; intro a K
    refine wpList_nil (then_n (wp_ret (then_r ?_)))
    cases h
    exact ret1 K rfl (res_tmp K rfl) ⟨_, rfl, rfl, ((M).pick [] (by decide))⟩
  have h := cfalse hb h
  refine wp_skip (then_n (wp_seq (wp_seq (X_reg ?_))))
  refine X_o K M ?_; clear K; intro a K
  refine wpList_nil (then_n (wp_block ?_))
  refine X_lp (id := 0) (Rel := fun (i : Int) a w => Kn a 45 [(2, .pointer (some ⟨g_a, 0, none⟩)), (3, .pointer (some ⟨g_b, 0, none⟩)), (5, I i)] ∧ Mem w0.heap.size w0 w [.blk g_b 24 [I b_W, I b_H, .slice A_b_P b_P.length c_b_P], .blk g_a 24 [I a_W, I a_H, .slice A_a_P a_P.length c_a_P]]) h (fun _ _ => rfl) ⟨K.pick [2,3,5], M.pick [0,1] (by decide)⟩ ?_ ?_
  · clear K M h
    rintro i4 a w ⟨K, M⟩ h
    try dsimp only at h
    refine inb_e ?_
    refine then_n (wp_seq (X_reg ?_))
    refine X_o K M ?_; clear K; intro a K
    refine wpList_nil (then_n (wp_ret ?_))
    cases h
    exact ret1 K rfl (res_tmp K rfl) ⟨_, rfl, rfl, ((M).pick [] (by decide))⟩
  clear K M h
  rintro kk fuel i a w hk1 ⟨K, M⟩ h
  unfold D_darkslideref_SamePictures_l1 at h
  refine wp_seq (wp_seq (X_reg ?_))
  refine X_o K M ?_; clear K
  refine Y_r (fun _ K => rd_field rfl fld24_2 K rfl) M ?_
  refine Y_r (fun _ K => rd_ldC rfl sc22 K rfl (inM 1 rfl) rfl) M ?_
  refine Y_r (fun _ K => rd_len rfl un22 K rfl) M ?_
  refine Y_o M ?_; intro a K
  refine wpList_nil (then_n ?_)
  refine X_cond K rfl (fun hb => ?_) (fun hb => ?_)
  · have h := ctrue hb h
    refine wp_skip (then_n (wp_seq (wp_block (wp_seq ?_))))
    refine wp_region_tl (fun w => Mem _ _ w _) [0,0,0,0,0,0,0,0,0,0,0] (by kernel_rfl) (by kernel_rfl) M.drew ?_
    replace M := M.drew
    refine T_r K (rd_field rfl fld24_2 K rfl) ?_; clear K
    refine U_r (fun _ K => rd_ldC rfl sc22 K rfl (inM 1 rfl) rfl) ?_
    refine U_o ?_
    obtain ⟨e3, h_e3, h⟩ := obind h
    refine U_r (fun _ K => rd_ix rfl sl22 K rfl rfl (inA R_a_P) h_e3) ?_
    refine U_r (fun _ K => rd_elA rfl ty34 K rfl rfl rfl (inA R_a_P) h_e3) ?_
    refine U_r (fun _ K => rd_field rfl fld24_2 K rfl) ?_
    refine U_r (fun _ K => rd_ldC rfl sc22 K rfl (inM 0 rfl) rfl) ?_
    refine U_o ?_
    obtain ⟨e4, h_e4, h⟩ := obind h
    refine U_r (fun _ K => rd_ix rfl sl22 K rfl rfl (inA R_b_P) h_e4) ?_
    refine U_r (fun _ K => rd_elA rfl ty34 K rfl rfl rfl (inA R_b_P) h_e4) ?_
    refine U_r (fun _ K => rd_aggN eg34 rfl K rfl rfl (eqr34 _ _ _ _ _ _)) ?_; intro a K
    refine T_end ?_
    refine then_n ?_
    refine X_cond K rfl (fun hb => ?_) (fun hb => ?_)
    · have h := ctrue hb h
      refine wp_seq (X_reg ?_)
      refine X_o K M ?_; clear K; intro a K
      refine wpList_nil (then_n (wp_ret (inb_r (then_r (then_r (inb_r (then_r ?_)))))))
      cases h
      exact ret1 K rfl (res_tmp K rfl) ⟨_, rfl, rfl, ((M).pick [] (by decide))⟩
    have h := cfalse hb h
    refine wp_skip (inb_n (then_n (X_reg ?_)))
    refine X_o K M ?_; clear K
    refine Y_o M ?_
    obtain ⟨i3, hx, h⟩ := olet h
    refine Y_r (fun _ K => rdi hx (rd_assign rfl K rfl)) M ?_; intro a K
    refine wpList_nil ?_
    exact then_n ⟨i3, ⟨K.pick [2,3,5], M.pick [0,1] (by decide)⟩, h⟩
  have h := cfalse hb h
  refine wp_exit ?_
  refine then_e ?_
  exact then_e (hk1 i _ _ ⟨K.pick [2,3,5], M.pick [0,1] (by decide)⟩ h)
end Go.Proofs.Ytpmnfhifmmfglab

namespace Go.Proofs.Ytpmnfhifmmfglab
open Go.RowKit
set_option maxRecDepth 100000 in
set_option maxHeartbeats 4000000 in
theorem W_darkslidelaw_lineBegun (N : Nat)  (w0 : World)  (r : Bool) (h : D_darkslidelaw_lineBegun N  = some r) :
    Calls Try.prog 18 #[] w0 fun e w' => ∃ v, e = .returned v ∧ v = .bool r ∧ Mem w0.heap.size w0 w' [] := by
  refine X_enter Try.func18 rfl Try.ntmps18 rfl ?_
  intro a K
  have M := Mem.start w0
  have K : Kn a 81 [] := K
  unfold D_darkslidelaw_lineBegun at h
  refine wp_seq (X_reg ?_)
  refine X_o K M ?_; clear K; intro a K
  refine wpList_nil (then_n (wp_seq (X_reg ?_)))
  obtain ⟨r2, h_r2, h⟩ := obind h
  refine X_a K (ac_call (vs := []) (cap := []) rfl fok47 K rfl rfl (W_darkslidelaw_plain N  _  r2 h_r2)) ?_
  have M0 := M; clear K M; rintro _ a w ⟨A, c, A2, c2, rfl, M⟩ K
  replace M := M0.call M; clear M0
  obtain ⟨r3, h_r3, h⟩ := obind h
  refine X_a K (ac_call (vs := []) (cap := []) rfl fok48 K rfl rfl (W_darkslidelaw_tall N  _  r3 h_r3)) ?_
  have M0 := M; clear K M; rintro _ a w ⟨A3, c3, rfl, M⟩ K
  replace M := M0.call M; clear M0
  obtain ⟨r4, h_r4, h⟩ := obind h
  refine X_a K (ac_call (vs := [.agg #[I r2.1, I r2.2.1, I r2.2.2.1, I r2.2.2.2.1, I r2.2.2.2.2.1, I r2.2.2.2.2.2.1, .slice A r2.2.2.2.2.2.2.1.length c, I r2.2.2.2.2.2.2.2.1, I r2.2.2.2.2.2.2.2.2.1, I r2.2.2.2.2.2.2.2.2.2.1, I r2.2.2.2.2.2.2.2.2.2.2.1, I r2.2.2.2.2.2.2.2.2.2.2.2.1, I r2.2.2.2.2.2.2.2.2.2.2.2.2.1, I r2.2.2.2.2.2.2.2.2.2.2.2.2.2.1, I r2.2.2.2.2.2.2.2.2.2.2.2.2.2.2.1, I r2.2.2.2.2.2.2.2.2.2.2.2.2.2.2.2.1, I r2.2.2.2.2.2.2.2.2.2.2.2.2.2.2.2.2.1, I r2.2.2.2.2.2.2.2.2.2.2.2.2.2.2.2.2.2.1, I r2.2.2.2.2.2.2.2.2.2.2.2.2.2.2.2.2.2.2.1, .slice A2 r2.2.2.2.2.2.2.2.2.2.2.2.2.2.2.2.2.2.2.2.1.length c2, I r2.2.2.2.2.2.2.2.2.2.2.2.2.2.2.2.2.2.2.2.2], .agg #[I r3.1, I r3.2.1, .slice A3 r3.2.2.length c3]]) (cap := []) rfl fok15 K rfl rfl (W_line_Whole N r2.1 r2.2.1 r2.2.2.1 r2.2.2.2.1 r2.2.2.2.2.1 r2.2.2.2.2.2.1 r2.2.2.2.2.2.2.1 A c r2.2.2.2.2.2.2.2.1 r2.2.2.2.2.2.2.2.2.1 r2.2.2.2.2.2.2.2.2.2.1 r2.2.2.2.2.2.2.2.2.2.2.1 r2.2.2.2.2.2.2.2.2.2.2.2.1 r2.2.2.2.2.2.2.2.2.2.2.2.2.1 r2.2.2.2.2.2.2.2.2.2.2.2.2.2.1 r2.2.2.2.2.2.2.2.2.2.2.2.2.2.2.1 r2.2.2.2.2.2.2.2.2.2.2.2.2.2.2.2.1 r2.2.2.2.2.2.2.2.2.2.2.2.2.2.2.2.2.1 r2.2.2.2.2.2.2.2.2.2.2.2.2.2.2.2.2.2.1 r2.2.2.2.2.2.2.2.2.2.2.2.2.2.2.2.2.2.2.1 r2.2.2.2.2.2.2.2.2.2.2.2.2.2.2.2.2.2.2.2.1 A2 c2 r2.2.2.2.2.2.2.2.2.2.2.2.2.2.2.2.2.2.2.2.2 r3.1 r3.2.1 r3.2.2 A3 c3 _ ((inR (C := cII) 1 rfl rfl) _ M) (M.cap 1 rfl) ((inR (C := cII) 2 rfl rfl) _ M) (M.cap 2 rfl) ((inR (C := (cI .i64)) 0 rfl rfl) _ M) (M.cap 0 rfl) r4 h_r4)) ?_
  have M0 := M; clear K M; rintro _ a w ⟨A4, c4, rfl, M⟩ K
  replace M := M0.call M; clear M0
  refine X_o K M ?_; clear K
  iterate 2 (refine Y_o M ?_)
  intro a K
  refine X_a K (ac_alloc rfl z24 M) ?_
  clear K M; rintro _ a w ⟨g_o, rfl, M⟩ K
  refine X_b K (ac_storeA rfl ty24 K rfl (ds := [I r4.1, I r4.2.1, .slice A4 r4.2.2.1.length c4]) rfl rfl 0 M rfl rfl rfl) ?_
  clear K M; rintro _ a w M K
  refine X_o K M ?_; clear K; intro a K
  refine wpList_nil (then_n (wp_seq (X_reg ?_)))
  obtain ⟨r5, h_r5, h⟩ := obind h
  refine X_a K (ac_call (vs := []) (cap := []) rfl fok47 K rfl rfl (W_darkslidelaw_plain N  _  r5 h_r5)) ?_
  have M0 := M; clear K M; rintro _ a w ⟨A5, c5, A6, c6, rfl, M⟩ K
  replace M := M0.call M; clear M0
  obtain ⟨r6, h_r6, h⟩ := obind h
  refine X_a K (ac_call (vs := []) (cap := []) rfl fok48 K rfl rfl (W_darkslidelaw_tall N  _  r6 h_r6)) ?_
  have M0 := M; clear K M; rintro _ a w ⟨A7, c7, rfl, M⟩ K
  replace M := M0.call M; clear M0
  obtain ⟨r7, h_r7, h⟩ := obind h
  refine X_a K (ac_call (vs := [.agg #[I r5.1, I r5.2.1, I r5.2.2.1, I r5.2.2.2.1, I r5.2.2.2.2.1, I r5.2.2.2.2.2.1, .slice A5 r5.2.2.2.2.2.2.1.length c5, I r5.2.2.2.2.2.2.2.1, I r5.2.2.2.2.2.2.2.2.1, I r5.2.2.2.2.2.2.2.2.2.1, I r5.2.2.2.2.2.2.2.2.2.2.1, I r5.2.2.2.2.2.2.2.2.2.2.2.1, I r5.2.2.2.2.2.2.2.2.2.2.2.2.1, I r5.2.2.2.2.2.2.2.2.2.2.2.2.2.1, I r5.2.2.2.2.2.2.2.2.2.2.2.2.2.2.1, I r5.2.2.2.2.2.2.2.2.2.2.2.2.2.2.2.1, I r5.2.2.2.2.2.2.2.2.2.2.2.2.2.2.2.2.1, I r5.2.2.2.2.2.2.2.2.2.2.2.2.2.2.2.2.2.1, I r5.2.2.2.2.2.2.2.2.2.2.2.2.2.2.2.2.2.2.1, .slice A6 r5.2.2.2.2.2.2.2.2.2.2.2.2.2.2.2.2.2.2.2.1.length c6, I r5.2.2.2.2.2.2.2.2.2.2.2.2.2.2.2.2.2.2.2.2], .agg #[I r6.1, I r6.2.1, .slice A7 r6.2.2.length c7], I 5]) (cap := []) rfl fok24 K rfl rfl (W_line_Strips N r5.1 r5.2.1 r5.2.2.1 r5.2.2.2.1 r5.2.2.2.2.1 r5.2.2.2.2.2.1 r5.2.2.2.2.2.2.1 A5 c5 r5.2.2.2.2.2.2.2.1 r5.2.2.2.2.2.2.2.2.1 r5.2.2.2.2.2.2.2.2.2.1 r5.2.2.2.2.2.2.2.2.2.2.1 r5.2.2.2.2.2.2.2.2.2.2.2.1 r5.2.2.2.2.2.2.2.2.2.2.2.2.1 r5.2.2.2.2.2.2.2.2.2.2.2.2.2.1 r5.2.2.2.2.2.2.2.2.2.2.2.2.2.2.1 r5.2.2.2.2.2.2.2.2.2.2.2.2.2.2.2.1 r5.2.2.2.2.2.2.2.2.2.2.2.2.2.2.2.2.1 r5.2.2.2.2.2.2.2.2.2.2.2.2.2.2.2.2.2.1 r5.2.2.2.2.2.2.2.2.2.2.2.2.2.2.2.2.2.2.1 r5.2.2.2.2.2.2.2.2.2.2.2.2.2.2.2.2.2.2.2.1 A6 c6 r5.2.2.2.2.2.2.2.2.2.2.2.2.2.2.2.2.2.2.2.2 r6.1 r6.2.1 r6.2.2 A7 c7 5 _ ((inR (C := cII) 1 rfl rfl) _ M) (M.cap 1 rfl) ((inR (C := cII) 2 rfl rfl) _ M) (M.cap 2 rfl) ((inR (C := (cI .i64)) 0 rfl rfl) _ M) (M.cap 0 rfl) r7 h_r7)) ?_
  have M0 := M; clear K M; rintro _ a w ⟨A8, c8, rfl, M⟩ K
  replace M := M0.call M; clear M0
  refine X_o K M ?_; clear K
  iterate 2 (refine Y_o M ?_)
  intro a K
  refine X_a K (ac_alloc rfl z24 M) ?_
  clear K M; rintro _ a w ⟨g_x, rfl, M⟩ K
  refine X_b K (ac_storeA rfl ty24 K rfl (ds := [I r7.1, I r7.2.1, .slice A8 r7.2.2.1.length c8]) rfl rfl 0 M rfl rfl rfl) ?_
  clear K M; rintro _ a w M K
  refine X_o K M ?_; clear K; intro a K
  refine wpList_nil (then_n (wp_seq (X_reg ?_)))
  obtain ⟨r8, h_r8, h⟩ := obind h
  refine X_a K (ac_call (vs := []) (cap := []) rfl fok47 K rfl rfl (W_darkslidelaw_plain N  _  r8 h_r8)) ?_
  have M0 := M; clear K M; rintro _ a w ⟨A9, c9, A10, c10, rfl, M⟩ K
  replace M := M0.call M; clear M0
  obtain ⟨r9, h_r9, h⟩ := obind h
  refine X_a K (ac_call (vs := []) (cap := []) rfl fok48 K rfl rfl (W_darkslidelaw_tall N  _  r9 h_r9)) ?_
  have M0 := M; clear K M; rintro _ a w ⟨A11, c11, rfl, M⟩ K
  replace M := M0.call M; clear M0
  refine X_r K (rd_fieldC rfl fd45_2 sc43 K rfl rfl) M ?_; clear K
  obtain ⟨l2, h_l2, h⟩ := obind h
  refine Y_r (fun _ K => rd_slice (C := (cI .i64)) (k := .i64) (k' := .i64) rfl sl43 rfl K rfl (M.cap 0 rfl) rfl rfl h_l2) M ?_
  refine Y_r (fun _ K => rd_build rfl K (vs := [(0, I 2), (1, I 9), (2, .slice (slA A11 c11 6 1) l2.length (c11 - Int.toNat 6))]) (cs := [I 2, I 9, .slice (slA A11 c11 6 1) l2.length (c11 - Int.toNat 6)]) rfl (by kernel_rfl)) M ?_; intro a K
  obtain ⟨r10, h_r10, h⟩ := obind h
  refine X_a K (ac_call (vs := [.agg #[I r8.1, I r8.2.1, I r8.2.2.1, I r8.2.2.2.1, I r8.2.2.2.2.1, I r8.2.2.2.2.2.1, .slice A9 r8.2.2.2.2.2.2.1.length c9, I r8.2.2.2.2.2.2.2.1, I r8.2.2.2.2.2.2.2.2.1, I r8.2.2.2.2.2.2.2.2.2.1, I r8.2.2.2.2.2.2.2.2.2.2.1, I r8.2.2.2.2.2.2.2.2.2.2.2.1, I r8.2.2.2.2.2.2.2.2.2.2.2.2.1, I r8.2.2.2.2.2.2.2.2.2.2.2.2.2.1, I r8.2.2.2.2.2.2.2.2.2.2.2.2.2.2.1, I r8.2.2.2.2.2.2.2.2.2.2.2.2.2.2.2.1, I r8.2.2.2.2.2.2.2.2.2.2.2.2.2.2.2.2.1, I r8.2.2.2.2.2.2.2.2.2.2.2.2.2.2.2.2.2.1, I r8.2.2.2.2.2.2.2.2.2.2.2.2.2.2.2.2.2.2.1, .slice A10 r8.2.2.2.2.2.2.2.2.2.2.2.2.2.2.2.2.2.2.2.1.length c10, I r8.2.2.2.2.2.2.2.2.2.2.2.2.2.2.2.2.2.2.2.2], .agg #[I 2, I 9, .slice (slA A11 c11 6 1) l2.length (c11 - Int.toNat 6)], I 3, I 12, I 7, I 9]) (cap := []) rfl fok21 K rfl rfl (W_line_Part N r8.1 r8.2.1 r8.2.2.1 r8.2.2.2.1 r8.2.2.2.2.1 r8.2.2.2.2.2.1 r8.2.2.2.2.2.2.1 A9 c9 r8.2.2.2.2.2.2.2.1 r8.2.2.2.2.2.2.2.2.1 r8.2.2.2.2.2.2.2.2.2.1 r8.2.2.2.2.2.2.2.2.2.2.1 r8.2.2.2.2.2.2.2.2.2.2.2.1 r8.2.2.2.2.2.2.2.2.2.2.2.2.1 r8.2.2.2.2.2.2.2.2.2.2.2.2.2.1 r8.2.2.2.2.2.2.2.2.2.2.2.2.2.2.1 r8.2.2.2.2.2.2.2.2.2.2.2.2.2.2.2.1 r8.2.2.2.2.2.2.2.2.2.2.2.2.2.2.2.2.1 r8.2.2.2.2.2.2.2.2.2.2.2.2.2.2.2.2.2.1 r8.2.2.2.2.2.2.2.2.2.2.2.2.2.2.2.2.2.2.1 r8.2.2.2.2.2.2.2.2.2.2.2.2.2.2.2.2.2.2.2.1 A10 c10 r8.2.2.2.2.2.2.2.2.2.2.2.2.2.2.2.2.2.2.2.2 2 9 l2 (slA A11 c11 6 1) (c11 - Int.toNat 6) 3 12 7 9 _ ((inR (C := cII) 1 rfl rfl) _ M) (M.cap 1 rfl) ((inR (C := cII) 2 rfl rfl) _ M) (M.cap 2 rfl) ((fun w M => (slA_SL h_l2 (M.cap 0 rfl)) w ((inR (C := (cI .i64)) 0 rfl rfl) w M)) _ M) (sli_cap h_l2 (M.cap 0 rfl)) r10 h_r10)) ?_
  have M0 := M; clear K M; rintro _ a w ⟨A12, c12, rfl, M⟩ K
  replace M := M0.call M; clear M0
  refine X_o K M ?_; clear K
  iterate 2 (refine Y_o M ?_)
  intro a K
  refine X_a K (ac_alloc rfl z24 M) ?_
  clear K M; rintro _ a w ⟨g_x2, rfl, M⟩ K
  refine X_b K (ac_storeA rfl ty24 K rfl (ds := [I r10.1, I r10.2.1, .slice A12 r10.2.2.1.length c12]) rfl rfl 0 M rfl rfl rfl) ?_
  clear K M; rintro _ a w M K
  refine X_o K M ?_; clear K; intro a K
  refine wpList_nil (then_n (wp_seq ?_))
  refine wp_region_tl (fun w => Mem _ _ w _) [1,1,1,1,1,1,1,1,1,1,1,1,1,1,1,1,1,1,1,1,1,1,1,1,1,1,1,0,1,1,0,0,0,0,0,0,0,0,0,0,0,0,0,0,0,0,0,0,0,0,0,0,0,0] (by kernel_rfl) (by kernel_rfl) M.drew ?_
  replace M := M.drew
  obtain ⟨r11, h_r11, h⟩ := obind h
  refine T_a K (ac_call (vs := []) (cap := []) rfl fok47 K rfl rfl (W_darkslidelaw_plain N  _  r11 h_r11)) ?_
  have M0 := M; clear K M; rintro _ a w ⟨A13, c13, A14, c14, rfl, M⟩ K
  replace M := M0.call M; clear M0
  refine ⟨M.pick [2,3,4,5,6,7,8,9,10,11,12,13,14,15,16] (by decide), ?_⟩
  obtain ⟨r12, h_r12, h⟩ := obind h
  refine T_a K (ac_call (vs := [.agg #[I r11.1, I r11.2.1, I r11.2.2.1, I r11.2.2.2.1, I r11.2.2.2.2.1, I r11.2.2.2.2.2.1, .slice A13 r11.2.2.2.2.2.2.1.length c13, I r11.2.2.2.2.2.2.2.1, I r11.2.2.2.2.2.2.2.2.1, I r11.2.2.2.2.2.2.2.2.2.1, I r11.2.2.2.2.2.2.2.2.2.2.1, I r11.2.2.2.2.2.2.2.2.2.2.2.1, I r11.2.2.2.2.2.2.2.2.2.2.2.2.1, I r11.2.2.2.2.2.2.2.2.2.2.2.2.2.1, I r11.2.2.2.2.2.2.2.2.2.2.2.2.2.2.1, I r11.2.2.2.2.2.2.2.2.2.2.2.2.2.2.2.1, I r11.2.2.2.2.2.2.2.2.2.2.2.2.2.2.2.2.1, I r11.2.2.2.2.2.2.2.2.2.2.2.2.2.2.2.2.2.1, I r11.2.2.2.2.2.2.2.2.2.2.2.2.2.2.2.2.2.2.1, .slice A14 r11.2.2.2.2.2.2.2.2.2.2.2.2.2.2.2.2.2.2.2.1.length c14, I r11.2.2.2.2.2.2.2.2.2.2.2.2.2.2.2.2.2.2.2.2]]) (cap := []) rfl fok19 K rfl rfl (W_line_Check N r11.1 r11.2.1 r11.2.2.1 r11.2.2.2.1 r11.2.2.2.2.1 r11.2.2.2.2.2.1 r11.2.2.2.2.2.2.1 A13 c13 r11.2.2.2.2.2.2.2.1 r11.2.2.2.2.2.2.2.2.1 r11.2.2.2.2.2.2.2.2.2.1 r11.2.2.2.2.2.2.2.2.2.2.1 r11.2.2.2.2.2.2.2.2.2.2.2.1 r11.2.2.2.2.2.2.2.2.2.2.2.2.1 r11.2.2.2.2.2.2.2.2.2.2.2.2.2.1 r11.2.2.2.2.2.2.2.2.2.2.2.2.2.2.1 r11.2.2.2.2.2.2.2.2.2.2.2.2.2.2.2.1 r11.2.2.2.2.2.2.2.2.2.2.2.2.2.2.2.2.1 r11.2.2.2.2.2.2.2.2.2.2.2.2.2.2.2.2.2.1 r11.2.2.2.2.2.2.2.2.2.2.2.2.2.2.2.2.2.2.1 r11.2.2.2.2.2.2.2.2.2.2.2.2.2.2.2.2.2.2.2.1 A14 c14 r11.2.2.2.2.2.2.2.2.2.2.2.2.2.2.2.2.2.2.2.2 _ ((inR (C := cII) 0 rfl rfl) _ M) (M.cap 0 rfl) ((inR (C := cII) 1 rfl rfl) _ M) (M.cap 1 rfl) r12 h_r12)) ?_
  have M0 := M; clear K M; rintro _ a w ⟨rfl, M⟩ K
  replace M := M0.call M; clear M0
  refine ⟨M.pick [2,3,4,5,6,7,8,9,10,11,12,13,14,15,16] (by decide), ?_⟩
  refine T_rd1 K (want_no rfl) rfl rfl (rd_eql rfl K rfl rfl) M (M.pick [2,3,4,5,6,7,8,9,10,11,12,13,14,15,16] (by decide)) ?_; clear K; intro a K
  refine T_rd1 K (want_no rfl) rfl rfl (rd_move rfl K rfl) M (M.pick [2,3,4,5,6,7,8,9,10,11,12,13,14,15,16] (by decide)) ?_; clear K; intro a K
  rcases Bool.eq_false_or_eq_true (decide (r12 = 0)) with hb | hb
  · have h := ctrue hb h
    have K := K.reb (s := 31) rfl hb
    refine T_rd1 K (K.yes rfl rfl rfl) rfl rfl (rd_build rfl K (vs := []) (cs := [I 0, I 0, I 0, I 0, I 0, I 0, .slice none (([] : List (Int × Int))).length 0, I 0, I 0, I 0, I 0, I 0, I 0, I 0, I 0, I 0, I 0, I 0, I 0, .slice none (([] : List (Int × Int))).length 0, I 0]) rfl (by kernel_rfl)) M (M.pick [2,3,4,5,6,7,8,9,10,11,12,13,14,15,16] (by decide)) ?_; clear K; intro a K
    obtain ⟨r13, h_r13, h⟩ := obind h
    refine T_a K (ac_call (vs := [.agg #[I 0, I 0, I 0, I 0, I 0, I 0, .slice none (([] : List (Int × Int))).length 0, I 0, I 0, I 0, I 0, I 0, I 0, I 0, I 0, I 0, I 0, I 0, I 0, .slice none (([] : List (Int × Int))).length 0, I 0]]) (cap := []) rfl fok19 K rfl rfl (W_line_Check N 0 0 0 0 0 0 (([] : List (Int × Int))) none 0 0 0 0 0 0 0 0 0 0 0 0 0 (([] : List (Int × Int))) none 0 0 _ ((fun _ _ => SL.nil) _ M) (Nat.le_refl _) ((fun _ _ => SL.nil) _ M) (Nat.le_refl _) r13 h_r13)) ?_
    have M0 := M; clear K M; rintro _ a w ⟨rfl, M⟩ K
    replace M := M0.call M; clear M0
    refine ⟨M.pick [2,3,4,5,6,7,8,9,10,11,12,13,14,15,16] (by decide), ?_⟩
    refine T_rd1 K (K.yes rfl rfl rfl) rfl rfl (rd_eql rfl K rfl rfl) M (M.pick [2,3,4,5,6,7,8,9,10,11,12,13,14,15,16] (by decide)) ?_; clear K; intro a K
    refine T_rd1 K (want_no rfl) rfl rfl (rd_pickT rfl K rfl rfl) M (M.pick [2,3,4,5,6,7,8,9,10,11,12,13,14,15,16] (by decide)) ?_; clear K; intro a K
    refine T_rd1 K (want_no rfl) rfl rfl (rd_move rfl K rfl) M (M.pick [2,3,4,5,6,7,8,9,10,11,12,13,14,15,16] (by decide)) ?_; clear K; intro a K
    rcases Bool.eq_false_or_eq_true (decide (r13 = 3)) with hb | hb
    · have h := ctrue hb h
      have K := K.reb (s := 36) rfl hb
      refine T_rd1 K (K.yes rfl rfl rfl) rfl rfl (rd_move rfl K rfl) M (M.pick [2,3,4,5,6,7,8,9,10,11,12,13,14,15,16] (by decide)) ?_; clear K; intro a K
      refine T_rd1 K (K.yes rfl rfl rfl) rfl rfl (rd_eql rfl K rfl rfl) M (M.pick [2,3,4,5,6,7,8,9,10,11,12,13,14,15,16] (by decide)) ?_; clear K; intro a K
      refine T_rd1 K (want_no rfl) rfl rfl (rd_pickT rfl K rfl rfl) M (M.pick [2,3,4,5,6,7,8,9,10,11,12,13,14,15,16] (by decide)) ?_; clear K; intro a K
      refine T_rd1 K (want_no rfl) rfl rfl (rd_move rfl K rfl) M (M.pick [2,3,4,5,6,7,8,9,10,11,12,13,14,15,16] (by decide)) ?_; clear K; intro a K
      rcases Bool.eq_false_or_eq_true (decide (r4.2.2.2 = 0)) with hb | hb
      · have h := ctrue hb h
        have K := K.reb (s := 40) rfl hb
        refine T_rd1 K (K.yes rfl rfl rfl) rfl rfl (rd_move rfl K rfl) M (M.pick [2,3,4,5,6,7,8,9,10,11,12,13,14,15,16] (by decide)) ?_; clear K; intro a K
        refine T_rd1 K (K.yes rfl rfl rfl) rfl rfl (rd_eql rfl K rfl rfl) M (M.pick [2,3,4,5,6,7,8,9,10,11,12,13,14,15,16] (by decide)) ?_; clear K; intro a K
        refine T_rd1 K (want_no rfl) rfl rfl (rd_pickT rfl K rfl rfl) M (M.pick [2,3,4,5,6,7,8,9,10,11,12,13,14,15,16] (by decide)) ?_; clear K; intro a K
        refine T_rd1 K (want_no rfl) rfl rfl (rd_move rfl K rfl) M (M.pick [2,3,4,5,6,7,8,9,10,11,12,13,14,15,16] (by decide)) ?_; clear K; intro a K
        rcases Bool.eq_false_or_eq_true (decide (r7.2.2.2 = 0)) with hb | hb
        · have h := ctrue hb h
          have K := K.reb (s := 44) rfl hb
          refine T_rd1 K (K.yes rfl rfl rfl) rfl rfl (rd_move rfl K rfl) M (M.pick [2,3,4,5,6,7,8,9,10,11,12,13,14,15,16] (by decide)) ?_; clear K; intro a K
          refine T_rd1 K (K.yes rfl rfl rfl) rfl rfl (rd_eql rfl K rfl rfl) M (M.pick [2,3,4,5,6,7,8,9,10,11,12,13,14,15,16] (by decide)) ?_; clear K; intro a K
          refine T_rd1 K (want_no rfl) rfl rfl (rd_pickT rfl K rfl rfl) M (M.pick [2,3,4,5,6,7,8,9,10,11,12,13,14,15,16] (by decide)) ?_; clear K; intro a K
          refine T_rd1 K (want_no rfl) rfl rfl (rd_move rfl K rfl) M (M.pick [2,3,4,5,6,7,8,9,10,11,12,13,14,15,16] (by decide)) ?_; clear K; intro a K
          rcases Bool.eq_false_or_eq_true (decide (r10.2.2.2 = 0)) with hb | hb
          · have h := ctrue hb h
            have K := K.reb (s := 48) rfl hb
            refine T_rd1 K (K.yes rfl rfl rfl) rfl rfl (rd_field rfl fld24_2 K rfl) M (M.pick [2,3,4,5,6,7,8,9,10,11,12,13,14,15,16] (by decide)) ?_; clear K; intro a K
            refine T_rd1 K (K.yes rfl rfl rfl) rfl rfl (rd_ldC rfl sc22 K rfl (inM 12 rfl) rfl) M (M.pick [2,3,4,5,6,7,8,9,10,11,12,13,14,15,16] (by decide)) ?_; clear K; intro a K
            refine T_rd1 K (K.yes rfl rfl rfl) rfl rfl (rd_len rfl un22 K rfl) M (M.pick [2,3,4,5,6,7,8,9,10,11,12,13,14,15,16] (by decide)) ?_; clear K; intro a K
            refine T_rd1 K (K.yes rfl rfl rfl) rfl rfl (rd_eql rfl K rfl rfl) M (M.pick [2,3,4,5,6,7,8,9,10,11,12,13,14,15,16] (by decide)) ?_; clear K; intro a K
            refine T_rd1 K (want_no rfl) rfl rfl (rd_pickT rfl K rfl rfl) M (M.pick [2,3,4,5,6,7,8,9,10,11,12,13,14,15,16] (by decide)) ?_; clear K; intro a K
            refine T_rd1 K (want_no rfl) rfl rfl (rd_move rfl K rfl) M (M.pick [2,3,4,5,6,7,8,9,10,11,12,13,14,15,16] (by decide)) ?_; clear K; intro a K
            rcases Bool.eq_false_or_eq_true (decide ((r4.2.2.1.length : Int) = 24)) with hb | hb
            · have h := ctrue hb h
              have K := K.reb (s := 54) rfl hb
              refine T_r K (rd_ldA rfl ty24 K rfl (inM 5 rfl) rfl rfl) ?_; clear K; intro a K
              refine T_rd1 K (K.yes rfl rfl rfl) rfl rfl (rd_ldA rfl ty24 K rfl (inM 12 rfl) rfl rfl) M (M.pick [2,3,4,5,6,7,8,9,10,11,12,13,14,15,16] (by decide)) ?_; clear K; intro a K
              obtain ⟨r14, h_r14, h⟩ := obind h
              refine T_a K (ac_call (vs := [.agg #[I r7.1, I r7.2.1, .slice A8 r7.2.2.1.length c8], .agg #[I r4.1, I r4.2.1, .slice A4 r4.2.2.1.length c4]]) (cap := []) rfl fok14 K rfl rfl (W_darkslideref_SamePictures N r7.1 r7.2.1 r7.2.2.1 A8 c8 r4.1 r4.2.1 r4.2.2.1 A4 c4 _ ((inR (C := cIII) 8 rfl rfl) _ M) (M.cap 8 rfl) ((inR (C := cIII) 13 rfl rfl) _ M) (M.cap 13 rfl) r14 h_r14)) ?_
              have M0 := M; clear K M; rintro _ a w ⟨rfl, M⟩ K
              replace M := M0.call M; clear M0
              refine ⟨M.pick [2,3,4,5,6,7,8,9,10,11,12,13,14,15,16] (by decide), ?_⟩
              refine T_o K ?_; clear K
              refine U_o ?_; intro a K
              rcases Bool.eq_false_or_eq_true (r14) with hb | hb
              · have h := ctrue hb h
                have K := K.reb (s := 59) rfl hb
                refine T_r K (rd_field rfl fld24_1 K rfl) ?_; clear K
                refine U_r (fun _ K => rd_ldC rfl sc3 K rfl (inM 0 rfl) rfl) ?_
                iterate 3 (refine U_o ?_)
                intro a K
                rcases Bool.eq_false_or_eq_true (decide (r10.2.1 = 2)) with hb | hb
                · have h := ctrue hb h
                  have K := K.reb (s := 64) rfl hb
                  refine T_r K (rd_field rfl fld24_2 K rfl) ?_; clear K
                  refine U_r (fun _ K => rd_ldC rfl sc22 K rfl (inM 0 rfl) rfl) ?_
                  refine U_r (fun _ K => rd_len rfl un22 K rfl) ?_
                  iterate 3 (refine U_o ?_)
                  intro a K
                  rcases Bool.eq_false_or_eq_true (decide ((r10.2.2.1.length : Int) = 4)) with hb | hb
                  · have h := ctrue hb h
                    have K := K.reb (s := 70) rfl hb
                    refine T_r K (rd_field rfl fld24_2 K rfl) ?_; clear K
                    refine U_r (fun _ K => rd_ldC rfl sc22 K rfl (inM 0 rfl) rfl) ?_
                    obtain ⟨e, h_e, h⟩ := obind h
                    refine U_r (fun _ K => rd_ix rfl sl22 K rfl rfl (inR (C := cIII) 1 rfl rfl) h_e) ?_
                    refine U_r (fun _ K => rd_elA rfl ty34 K rfl rfl rfl (inR (C := cIII) 1 rfl rfl) h_e) ?_
                    refine U_r (fun _ K => rd_field rfl fld24_2 K rfl) ?_
                    refine U_r (fun _ K => rd_ldC rfl sc22 K rfl (inM 10 rfl) rfl) ?_
                    obtain ⟨e2, h_e2, h⟩ := obind h
                    refine U_r (fun _ K => rd_ix rfl sl22 K rfl rfl (inR (C := cIII) 11 rfl rfl) h_e2) ?_
                    refine U_r (fun _ K => rd_elA rfl ty34 K rfl rfl rfl (inR (C := cIII) 11 rfl rfl) h_e2) ?_
                    refine U_r (fun _ K => rd_aggE eg34 rfl K rfl rfl (eqr34 _ _ _ _ _ _)) ?_
                    iterate 2 (refine U_o ?_)
                    intro a K
                    refine T_end ?_
                    refine then_n (wp_ret ?_)
                    cases h
                    exact ret1 K rfl (res_tmp K rfl) ⟨_, rfl, rfl, ((M).pick [] (by decide))⟩
                  have h := cfalse hb h
                  have K := K.reb (s := 70) rfl hb
                  refine T_o K ?_; clear K
                  iterate 10 (refine U_o ?_)
                  intro a K
                  refine T_end ?_
                  refine then_n (wp_ret ?_)
                  cases h
                  exact ret1 K rfl (res_tmp K rfl) ⟨_, rfl, rfl, ((M).pick [] (by decide))⟩
                have h := cfalse hb h
                have K := K.reb (s := 64) rfl hb
                refine T_o K ?_; clear K
                iterate 16 (refine U_o ?_)
                intro a K
                refine T_end ?_
                refine then_n (wp_ret ?_)
                cases h
                exact ret1 K rfl (res_tmp K rfl) ⟨_, rfl, rfl, ((M).pick [] (by decide))⟩
              have h := cfalse hb h
              have K := K.reb (s := 59) rfl hb
              refine T_o K ?_; clear K
              iterate 21 (refine U_o ?_)
              intro a K
              refine T_end ?_
              refine then_n (wp_ret ?_)
              cases h
              exact ret1 K rfl (res_tmp K rfl) ⟨_, rfl, rfl, ((M).pick [] (by decide))⟩
            have h := cfalse hb h
            have K := K.reb (s := 54) rfl hb
            refine T_o K ?_; clear K; intro a K
            iterate 2 (refine T_no1 K (K.no rfl rfl rfl rfl) rfl rfl (M.pick [2,3,4,5,6,7,8,9,10,11,12,13,14,15,16] (by decide)) ?_; clear K; intro a K)
            refine T_o K ?_; clear K
            iterate 23 (refine U_o ?_)
            intro a K
            refine T_end ?_
            refine then_n (wp_ret ?_)
            cases h
            exact ret1 K rfl (res_tmp K rfl) ⟨_, rfl, rfl, ((M).pick [] (by decide))⟩
          have h := cfalse hb h
          have K := K.reb (s := 48) rfl hb
          iterate 4 (refine T_no1 K (K.no rfl rfl rfl rfl) rfl rfl (M.pick [2,3,4,5,6,7,8,9,10,11,12,13,14,15,16] (by decide)) ?_; clear K; intro a K)
          refine T_rd1 K (want_no rfl) rfl rfl (rd_pickF rfl K rfl rfl) M (M.pick [2,3,4,5,6,7,8,9,10,11,12,13,14,15,16] (by decide)) ?_; clear K; intro a K
          refine T_rd1 K (want_no rfl) rfl rfl (rd_move rfl K rfl) M (M.pick [2,3,4,5,6,7,8,9,10,11,12,13,14,15,16] (by decide)) ?_; clear K; intro a K
          refine T_o K ?_; clear K; intro a K
          iterate 2 (refine T_no1 K (K.no rfl rfl rfl rfl) rfl rfl (M.pick [2,3,4,5,6,7,8,9,10,11,12,13,14,15,16] (by decide)) ?_; clear K; intro a K)
          refine T_o K ?_; clear K
          iterate 23 (refine U_o ?_)
          intro a K
          refine T_end ?_
          refine then_n (wp_ret ?_)
          cases h
          exact ret1 K rfl (res_tmp K rfl) ⟨_, rfl, rfl, ((M).pick [] (by decide))⟩
        have h := cfalse hb h
        have K := K.reb (s := 44) rfl hb
        iterate 2 (refine T_no1 K (K.no rfl rfl rfl rfl) rfl rfl (M.pick [2,3,4,5,6,7,8,9,10,11,12,13,14,15,16] (by decide)) ?_; clear K; intro a K)
        refine T_rd1 K (want_no rfl) rfl rfl (rd_pickF rfl K rfl rfl) M (M.pick [2,3,4,5,6,7,8,9,10,11,12,13,14,15,16] (by decide)) ?_; clear K; intro a K
        refine T_rd1 K (want_no rfl) rfl rfl (rd_move rfl K rfl) M (M.pick [2,3,4,5,6,7,8,9,10,11,12,13,14,15,16] (by decide)) ?_; clear K; intro a K
        iterate 4 (refine T_no1 K (K.no rfl rfl rfl rfl) rfl rfl (M.pick [2,3,4,5,6,7,8,9,10,11,12,13,14,15,16] (by decide)) ?_; clear K; intro a K)
        refine T_rd1 K (want_no rfl) rfl rfl (rd_pickF rfl K rfl rfl) M (M.pick [2,3,4,5,6,7,8,9,10,11,12,13,14,15,16] (by decide)) ?_; clear K; intro a K
        refine T_rd1 K (want_no rfl) rfl rfl (rd_move rfl K rfl) M (M.pick [2,3,4,5,6,7,8,9,10,11,12,13,14,15,16] (by decide)) ?_; clear K; intro a K
        refine T_o K ?_; clear K; intro a K
        iterate 2 (refine T_no1 K (K.no rfl rfl rfl rfl) rfl rfl (M.pick [2,3,4,5,6,7,8,9,10,11,12,13,14,15,16] (by decide)) ?_; clear K; intro a K)
        refine T_o K ?_; clear K
        iterate 23 (refine U_o ?_)
        intro a K
        refine T_end ?_
        refine then_n (wp_ret ?_)
        cases h
        exact ret1 K rfl (res_tmp K rfl) ⟨_, rfl, rfl, ((M).pick [] (by decide))⟩
      have h := cfalse hb h
      have K := K.reb (s := 40) rfl hb
      iterate 2 (refine T_no1 K (K.no rfl rfl rfl rfl) rfl rfl (M.pick [2,3,4,5,6,7,8,9,10,11,12,13,14,15,16] (by decide)) ?_; clear K; intro a K)
      refine T_rd1 K (want_no rfl) rfl rfl (rd_pickF rfl K rfl rfl) M (M.pick [2,3,4,5,6,7,8,9,10,11,12,13,14,15,16] (by decide)) ?_; clear K; intro a K
      refine T_rd1 K (want_no rfl) rfl rfl (rd_move rfl K rfl) M (M.pick [2,3,4,5,6,7,8,9,10,11,12,13,14,15,16] (by decide)) ?_; clear K; intro a K
      iterate 2 (refine T_no1 K (K.no rfl rfl rfl rfl) rfl rfl (M.pick [2,3,4,5,6,7,8,9,10,11,12,13,14,15,16] (by decide)) ?_; clear K; intro a K)
      refine T_rd1 K (want_no rfl) rfl rfl (rd_pickF rfl K rfl rfl) M (M.pick [2,3,4,5,6,7,8,9,10,11,12,13,14,15,16] (by decide)) ?_; clear K; intro a K
      refine T_rd1 K (want_no rfl) rfl rfl (rd_move rfl K rfl) M (M.pick [2,3,4,5,6,7,8,9,10,11,12,13,14,15,16] (by decide)) ?_; clear K; intro a K
      iterate 4 (refine T_no1 K (K.no rfl rfl rfl rfl) rfl rfl (M.pick [2,3,4,5,6,7,8,9,10,11,12,13,14,15,16] (by decide)) ?_; clear K; intro a K)
      refine T_rd1 K (want_no rfl) rfl rfl (rd_pickF rfl K rfl rfl) M (M.pick [2,3,4,5,6,7,8,9,10,11,12,13,14,15,16] (by decide)) ?_; clear K; intro a K
      refine T_rd1 K (want_no rfl) rfl rfl (rd_move rfl K rfl) M (M.pick [2,3,4,5,6,7,8,9,10,11,12,13,14,15,16] (by decide)) ?_; clear K; intro a K
      refine T_o K ?_; clear K; intro a K
      iterate 2 (refine T_no1 K (K.no rfl rfl rfl rfl) rfl rfl (M.pick [2,3,4,5,6,7,8,9,10,11,12,13,14,15,16] (by decide)) ?_; clear K; intro a K)
      refine T_o K ?_; clear K
      iterate 23 (refine U_o ?_)
      intro a K
      refine T_end ?_
      refine then_n (wp_ret ?_)
      cases h
      exact ret1 K rfl (res_tmp K rfl) ⟨_, rfl, rfl, ((M).pick [] (by decide))⟩
    have h := cfalse hb h
    have K := K.reb (s := 36) rfl hb
    iterate 2 (refine T_no1 K (K.no rfl rfl rfl rfl) rfl rfl (M.pick [2,3,4,5,6,7,8,9,10,11,12,13,14,15,16] (by decide)) ?_; clear K; intro a K)
    refine T_rd1 K (want_no rfl) rfl rfl (rd_pickF rfl K rfl rfl) M (M.pick [2,3,4,5,6,7,8,9,10,11,12,13,14,15,16] (by decide)) ?_; clear K; intro a K
    refine T_rd1 K (want_no rfl) rfl rfl (rd_move rfl K rfl) M (M.pick [2,3,4,5,6,7,8,9,10,11,12,13,14,15,16] (by decide)) ?_; clear K; intro a K
    iterate 2 (refine T_no1 K (K.no rfl rfl rfl rfl) rfl rfl (M.pick [2,3,4,5,6,7,8,9,10,11,12,13,14,15,16] (by decide)) ?_; clear K; intro a K)
    refine T_rd1 K (want_no rfl) rfl rfl (rd_pickF rfl K rfl rfl) M (M.pick [2,3,4,5,6,7,8,9,10,11,12,13,14,15,16] (by decide)) ?_; clear K; intro a K
    refine T_rd1 K (want_no rfl) rfl rfl (rd_move rfl K rfl) M (M.pick [2,3,4,5,6,7,8,9,10,11,12,13,14,15,16] (by decide)) ?_; clear K; intro a K
    iterate 2 (refine T_no1 K (K.no rfl rfl rfl rfl) rfl rfl (M.pick [2,3,4,5,6,7,8,9,10,11,12,13,14,15,16] (by decide)) ?_; clear K; intro a K)
    refine T_rd1 K (want_no rfl) rfl rfl (rd_pickF rfl K rfl rfl) M (M.pick [2,3,4,5,6,7,8,9,10,11,12,13,14,15,16] (by decide)) ?_; clear K; intro a K
    refine T_rd1 K (want_no rfl) rfl rfl (rd_move rfl K rfl) M (M.pick [2,3,4,5,6,7,8,9,10,11,12,13,14,15,16] (by decide)) ?_; clear K; intro a K
    iterate 4 (refine T_no1 K (K.no rfl rfl rfl rfl) rfl rfl (M.pick [2,3,4,5,6,7,8,9,10,11,12,13,14,15,16] (by decide)) ?_; clear K; intro a K)
    refine T_rd1 K (want_no rfl) rfl rfl (rd_pickF rfl K rfl rfl) M (M.pick [2,3,4,5,6,7,8,9,10,11,12,13,14,15,16] (by decide)) ?_; clear K; intro a K
    refine T_rd1 K (want_no rfl) rfl rfl (rd_move rfl K rfl) M (M.pick [2,3,4,5,6,7,8,9,10,11,12,13,14,15,16] (by decide)) ?_; clear K; intro a K
    refine T_o K ?_; clear K; intro a K
    iterate 2 (refine T_no1 K (K.no rfl rfl rfl rfl) rfl rfl (M.pick [2,3,4,5,6,7,8,9,10,11,12,13,14,15,16] (by decide)) ?_; clear K; intro a K)
    refine T_o K ?_; clear K
    iterate 23 (refine U_o ?_)
    intro a K
    refine T_end ?_
    refine then_n (wp_ret ?_)
    cases h
    exact ret1 K rfl (res_tmp K rfl) ⟨_, rfl, rfl, ((M).pick [] (by decide))⟩
  have h := cfalse hb h
  have K := K.reb (s := 31) rfl hb
  iterate 3 (refine T_no1 K (K.no rfl rfl rfl rfl) rfl rfl (M.pick [2,3,4,5,6,7,8,9,10,11,12,13,14,15,16] (by decide)) ?_; clear K; intro a K)
  refine T_rd1 K (want_no rfl) rfl rfl (rd_pickF rfl K rfl rfl) M (M.pick [2,3,4,5,6,7,8,9,10,11,12,13,14,15,16] (by decide)) ?_; clear K; intro a K
  refine T_rd1 K (want_no rfl) rfl rfl (rd_move rfl K rfl) M (M.pick [2,3,4,5,6,7,8,9,10,11,12,13,14,15,16] (by decide)) ?_; clear K; intro a K
  iterate 2 (refine T_no1 K (K.no rfl rfl rfl rfl) rfl rfl (M.pick [2,3,4,5,6,7,8,9,10,11,12,13,14,15,16] (by decide)) ?_; clear K; intro a K)
  refine T_rd1 K (want_no rfl) rfl rfl (rd_pickF rfl K rfl rfl) M (M.pick [2,3,4,5,6,7,8,9,10,11,12,13,14,15,16] (by decide)) ?_; clear K; intro a K
  refine T_rd1 K (want_no rfl) rfl rfl (rd_move rfl K rfl) M (M.pick [2,3,4,5,6,7,8,9,10,11,12,13,14,15,16] (by decide)) ?_; clear K; intro a K
  iterate 2 (refine T_no1 K (K.no rfl rfl rfl rfl) rfl rfl (M.pick [2,3,4,5,6,7,8,9,10,11,12,13,14,15,16] (by decide)) ?_; clear K; intro a K)
  refine T_rd1 K (want_no rfl) rfl rfl (rd_pickF rfl K rfl rfl) M (M.pick [2,3,4,5,6,7,8,9,10,11,12,13,14,15,16] (by decide)) ?_; clear K; intro a K
  refine T_rd1 K (want_no rfl) rfl rfl (rd_move rfl K rfl) M (M.pick [2,3,4,5,6,7,8,9,10,11,12,13,14,15,16] (by decide)) ?_; clear K; intro a K
  iterate 2 (refine T_no1 K (K.no rfl rfl rfl rfl) rfl rfl (M.pick [2,3,4,5,6,7,8,9,10,11,12,13,14,15,16] (by decide)) ?_; clear K; intro a K)
  refine T_rd1 K (want_no rfl) rfl rfl (rd_pickF rfl K rfl rfl) M (M.pick [2,3,4,5,6,7,8,9,10,11,12,13,14,15,16] (by decide)) ?_; clear K; intro a K
  refine T_rd1 K (want_no rfl) rfl rfl (rd_move rfl K rfl) M (M.pick [2,3,4,5,6,7,8,9,10,11,12,13,14,15,16] (by decide)) ?_; clear K; intro a K
  iterate 4 (refine T_no1 K (K.no rfl rfl rfl rfl) rfl rfl (M.pick [2,3,4,5,6,7,8,9,10,11,12,13,14,15,16] (by decide)) ?_; clear K; intro a K)
  refine T_rd1 K (want_no rfl) rfl rfl (rd_pickF rfl K rfl rfl) M (M.pick [2,3,4,5,6,7,8,9,10,11,12,13,14,15,16] (by decide)) ?_; clear K; intro a K
  refine T_rd1 K (want_no rfl) rfl rfl (rd_move rfl K rfl) M (M.pick [2,3,4,5,6,7,8,9,10,11,12,13,14,15,16] (by decide)) ?_; clear K; intro a K
  refine T_o K ?_; clear K; intro a K
  iterate 2 (refine T_no1 K (K.no rfl rfl rfl rfl) rfl rfl (M.pick [2,3,4,5,6,7,8,9,10,11,12,13,14,15,16] (by decide)) ?_; clear K; intro a K)
  refine T_o K ?_; clear K
  iterate 23 (refine U_o ?_)
  intro a K
  refine T_end ?_
  refine then_n (wp_ret ?_)
  cases h
  exact ret1 K rfl (res_tmp K rfl) ⟨_, rfl, rfl, ((M).pick [] (by decide))⟩
end Go.Proofs.Ytpmnfhifmmfglab

namespace Go.Proofs.Ytpmnfhifmmfglab
open Go.RowKit
set_option maxRecDepth 100000 in
set_option maxHeartbeats 4000000 in
theorem W_darkslideref_within (N : Nat) (n : Int) (low : Int) (high : Int) (w0 : World)  (r : Bool) (h : D_darkslideref_within N n low high = some r) :
    Calls Try.prog 30 #[I n, I low, I high] w0 fun e w' => ∃ v, e = .returned v ∧ v = .bool r ∧ Mem w0.heap.size w0 w' [] := by
  refine X_enter Try.func30 rfl Try.ntmps30 rfl ?_
  intro a K
  have M := Mem.start w0
  have K : Kn a 15 [(0, I n), (1, I low), (2, I high)] := K
  unfold D_darkslideref_within at h
  refine wp_seq (X_reg ?_)
  refine X_o K M ?_; clear K; intro a K
  refine wpList_nil (then_n (wp_seq (X_reg ?_)))
  refine X_o K M ?_; clear K
  iterate 3 (refine Y_o M ?_)
  intro a K
  rcases Bool.eq_false_or_eq_true (decide (low ≤ n)) with hb | hb
  · have h := ctrue hb h
    have K := K.reb (s := 10) rfl hb
    refine X_o K M ?_; clear K
    iterate 4 (refine Y_o M ?_)
    intro a K
    refine wpList_nil (then_n (wp_ret ?_))
    cases h
    exact ret1 K rfl (res_tmp K rfl) ⟨_, rfl, rfl, ((M).pick [] (by decide))⟩
  have h := cfalse hb h
  have K := K.reb (s := 10) rfl hb
  refine X_o K M ?_; clear K
  iterate 4 (refine Y_o M ?_)
  intro a K
  refine wpList_nil (then_n (wp_ret ?_))
  cases h
  exact ret1 K rfl (res_tmp K rfl) ⟨_, rfl, rfl, ((M).pick [] (by decide))⟩
end Go.Proofs.Ytpmnfhifmmfglab

namespace Go.Proofs.Ytpmnfhifmmfglab
open Go.RowKit
set_option maxRecDepth 100000 in
set_option maxHeartbeats 4000000 in
theorem W_darkslideref_CurveFine (N : Nat) (d : List (Int × Int)) (A_d : Option Addr) (c_d : Nat) (w0 : World) (R_d : SL w0 cII A_d d) (C_d : d.length ≤ c_d) (r : Bool) (h : D_darkslideref_CurveFine N d = some r) :
    Calls Try.prog 52 #[.slice A_d d.length c_d] w0 fun e w' => ∃ v, e = .returned v ∧ v = .bool r ∧ Mem w0.heap.size w0 w' [] := by
  refine X_enter Try.func52 rfl Try.ntmps52 rfl ?_
  intro a K
  have M := Mem.start w0
  have K : Kn a 70 [(0, .slice A_d d.length c_d)] := K
  unfold D_darkslideref_CurveFine at h
  refine wp_seq (X_reg ?_)
  refine X_o K M ?_; clear K; intro a K
  refine wpList_nil (then_n (wp_seq (wp_seq (X_reg ?_))))
  refine X_o K M ?_; clear K
  refine Y_r (fun _ K => rd_len rfl un40 K rfl) M ?_; intro a K
  obtain ⟨r2, h_r2, h⟩ := obind h
  refine X_a K (ac_call (vs := [I (d.length : Int), I 2, I 16]) (cap := []) rfl fok30 K rfl rfl (W_darkslideref_within N (d.length : Int) 2 16 _  r2 h_r2)) ?_
  have M0 := M; clear K M; rintro _ a w ⟨rfl, M⟩ K
  replace M := M0.call M; clear M0
  refine X_o K M ?_; clear K
  refine Y_o M ?_; intro a K
  rcases Bool.eq_false_or_eq_true (!(r2)) with hb | hb
  · have h := ctrue hb h
    have K := K.reb (s := 8) rfl hb
    refine X_o K M ?_; clear K
    iterate 15 (refine Y_o M ?_)
    intro a K
    refine wpList_nil (then_n ?_)
    refine X_condT K rfl ?_
    refine wp_seq (X_reg ?_)
    refine X_o K M ?_; clear K; intro a K
    refine wpList_nil (then_n (wp_ret (then_r ?_)))
    cases h
    exact ret1 K rfl (res_tmp K rfl) ⟨_, rfl, rfl, ((M).pick [] (by decide))⟩
  have h := cfalse hb h
  have K := K.reb (s := 8) rfl hb
  refine X_o K M ?_; clear K
  obtain ⟨e, h_e, h⟩ := obind h
  refine Y_r (fun _ K => rd_ix rfl sl40 K rfl rfl (inA R_d) h_e) M ?_
  refine Y_r (fun _ K => rd_field rfl fld70_0 K rfl) M ?_
  refine Y_r (fun _ K => rd_elF rfl sc3 K rfl rfl (inA R_d) h_e rfl) M ?_
  iterate 3 (refine Y_o M ?_)
  intro a K
  rcases Bool.eq_false_or_eq_true (!decide (e.1 = 0)) with hb | hb
  · have h := ctrue hb h
    have K := K.reb (s := 15) rfl hb
    refine X_o K M ?_; clear K
    iterate 8 (refine Y_o M ?_)
    intro a K
    refine wpList_nil (then_n ?_)
    refine X_condT K rfl ?_
    refine wp_seq (X_reg ?_)
    refine X_o K M ?_; clear K; intro a K
    refine wpList_nil (then_n (wp_ret (then_r ?_)))
    cases h
    exact ret1 K rfl (res_tmp K rfl) ⟨_, rfl, rfl, ((M).pick [] (by decide))⟩
  have h := cfalse hb h
  have K := K.reb (s := 15) rfl hb
  refine X_o K M ?_; clear K
  refine Y_o M ?_
  refine Y_r (fun _ K => rd_len rfl un40 K rfl) M ?_
  refine Y_o M ?_
  obtain ⟨e2, h_e2, h⟩ := obind h
  refine Y_r (fun _ K => rd_ix rfl sl40 K rfl rfl (inA R_d) h_e2) M ?_
  refine Y_r (fun _ K => rd_field rfl fld70_0 K rfl) M ?_
  refine Y_r (fun _ K => rd_elF rfl sc3 K rfl rfl (inA R_d) h_e2 rfl) M ?_
  iterate 2 (refine Y_o M ?_)
  intro a K
  refine wpList_nil (then_n ?_)
  refine X_cond K rfl (fun hb => ?_) (fun hb => ?_)
  · have h := ctrue hb h
    refine wp_seq (X_reg ?_)
    refine X_o K M ?_; clear K; intro a K
    refine wpList_nil (then_n (wp_ret (then_r ?_)))
    cases h
    exact ret1 K rfl (res_tmp K rfl) ⟨_, rfl, rfl, ((M).pick [] (by decide))⟩
  have h := cfalse hb h
  refine wp_skip (then_n (wp_seq (wp_seq (X_reg ?_))))
  refine X_o K M ?_; clear K; intro a K
  refine wpList_nil (then_n (wp_block ?_))
  refine X_lp (id := 0) (Rel := fun (i : Int) a w => Kn a 70 [(0, .slice A_d d.length c_d), (3, I i)] ∧ Mem w0.heap.size w0 w []) h (fun _ _ => rfl) ⟨K.pick [0,3], M.pick [] (by decide)⟩ ?_ ?_
  · clear K M h
    rintro i2 a w ⟨K, M⟩ h
    try dsimp only at h
    refine inb_e ?_
    refine then_n (wp_seq (X_reg ?_))
    refine X_o K M ?_; clear K; intro a K
    refine wpList_nil (then_n (wp_ret ?_))
    cases h
    exact ret1 K rfl (res_tmp K rfl) ⟨_, rfl, rfl, ((M).pick [] (by decide))⟩
  clear K M h
  rintro kk fuel i a w hk1 ⟨K, M⟩ h
  unfold D_darkslideref_CurveFine_l1 at h
  refine wp_seq (wp_seq (X_reg ?_))
  refine X_o K M ?_; clear K
  refine Y_o M ?_
  refine Y_r (fun _ K => rd_len rfl un40 K rfl) M ?_
  refine Y_o M ?_; intro a K
  refine wpList_nil (then_n ?_)
  refine X_cond K rfl (fun hb => ?_) (fun hb => ?_)
  · have h := ctrue hb h
    refine wp_skip (then_n (wp_seq (wp_block (wp_seq ?_))))
    refine wp_region_tl (fun w => Mem _ _ w _) [0,0,0,0,0,1,0,0,0,0,0,0,0,0,0,0,0,0,0,0,0,0,0,0,0,0,0,0,0,0,0,0,0,0,0,0,0,0,0] (by kernel_rfl) (by kernel_rfl) M.drew ?_
    replace M := M.drew
    refine T_o K ?_; clear K
    refine U_o ?_
    obtain ⟨e8, h_e8, h⟩ := obind h
    refine U_r (fun _ K => rd_ix rfl sl40 K rfl rfl (inA R_d) h_e8) ?_
    refine U_r (fun _ K => rd_field rfl fld70_1 K rfl) ?_
    refine U_r (fun _ K => rd_elF rfl sc3 K rfl rfl (inA R_d) h_e8 rfl) ?_; intro a K
    obtain ⟨r4, h_r4, h⟩ := obind h
    refine T_a K (ac_call (vs := [I e8.2, I 0, I 65535]) (cap := []) rfl fok30 K rfl rfl (W_darkslideref_within N e8.2 0 65535 _  r4 h_r4)) ?_
    have M0 := M; clear K M; rintro _ a w ⟨rfl, M⟩ K
    replace M := M0.call M; clear M0
    refine ⟨M.pick [] (by decide), ?_⟩
    refine T_o K ?_; clear K
    refine U_o ?_; intro a K
    rcases Bool.eq_false_or_eq_true (!(r4)) with hb | hb
    · have h := ctrue hb h
      have K := K.reb (s := 38) rfl hb
      refine T_o K ?_; clear K
      iterate 30 (refine U_o ?_)
      intro a K
      refine T_end ?_
      refine then_n ?_
      refine X_condT K rfl ?_
      refine wp_seq (X_reg ?_)
      refine X_o K M ?_; clear K; intro a K
      refine wpList_nil (then_n (wp_ret (inb_r (then_r (then_r (inb_r (then_r ?_)))))))
      cases h
      exact ret1 K rfl (res_tmp K rfl) ⟨_, rfl, rfl, ((M).pick [] (by decide))⟩
    have h := cfalse hb h
    have K := K.reb (s := 38) rfl hb
    refine T_o K ?_; clear K
    iterate 2 (refine U_o ?_)
    intro a K
    rcases Bool.eq_false_or_eq_true (decide (0 < i)) with hb | hb
    · have h := ctrue hb h
      have K := K.reb (s := 41) rfl hb
      refine T_o K ?_; clear K
      refine U_o ?_
      obtain ⟨e9, h_e9, h⟩ := obind h
      refine U_r (fun _ K => rd_ix rfl sl40 K rfl rfl (inA R_d) h_e9) ?_
      refine U_r (fun _ K => rd_field rfl fld70_0 K rfl) ?_
      refine U_r (fun _ K => rd_elF rfl sc3 K rfl rfl (inA R_d) h_e9 rfl) ?_
      iterate 3 (refine U_o ?_)
      obtain ⟨e10, h_e10, h⟩ := obind h
      refine U_r (fun _ K => rd_ix rfl sl40 K rfl rfl (inA R_d) h_e10) ?_
      refine U_r (fun _ K => rd_field rfl fld70_0 K rfl) ?_
      refine U_r (fun _ K => rd_elF rfl sc3 K rfl rfl (inA R_d) h_e10 rfl) ?_
      iterate 2 (refine U_o ?_)
      intro a K
      rcases Bool.eq_false_or_eq_true (decide (e9.1 ≤ e10.1)) with hb | hb
      · have h := ctrue hb h
        have K := K.reb (s := 54) rfl hb
        refine T_o K ?_; clear K
        iterate 14 (refine U_o ?_)
        intro a K
        refine T_end ?_
        refine then_n ?_
        refine X_condT K rfl ?_
        refine wp_seq (X_reg ?_)
        refine X_o K M ?_; clear K; intro a K
        refine wpList_nil (then_n (wp_ret (inb_r (then_r (then_r (inb_r (then_r ?_)))))))
        cases h
        exact ret1 K rfl (res_tmp K rfl) ⟨_, rfl, rfl, ((M).pick [] (by decide))⟩
      have h := cfalse hb h
      have K := K.reb (s := 54) rfl hb
      refine T_o K ?_; clear K
      refine U_o ?_
      obtain ⟨e11, h_e11, h⟩ := obind h
      refine U_r (fun _ K => rd_ix rfl sl40 K rfl rfl (inA R_d) h_e11) ?_
      refine U_r (fun _ K => rd_field rfl fld70_1 K rfl) ?_
      refine U_r (fun _ K => rd_elF rfl sc3 K rfl rfl (inA R_d) h_e11 rfl) ?_
      iterate 3 (refine U_o ?_)
      obtain ⟨e12, h_e12, h⟩ := obind h
      refine U_r (fun _ K => rd_ix rfl sl40 K rfl rfl (inA R_d) h_e12) ?_
      refine U_r (fun _ K => rd_field rfl fld70_1 K rfl) ?_
      refine U_r (fun _ K => rd_elF rfl sc3 K rfl rfl (inA R_d) h_e12 rfl) ?_
      iterate 4 (refine U_o ?_)
      intro a K
      refine T_end ?_
      refine then_n ?_
      refine X_cond K rfl (fun hb => ?_) (fun hb => ?_)
      · have h := ctrue hb h
        refine wp_seq (X_reg ?_)
        refine X_o K M ?_; clear K; intro a K
        refine wpList_nil (then_n (wp_ret (inb_r (then_r (then_r (inb_r (then_r ?_)))))))
        cases h
        exact ret1 K rfl (res_tmp K rfl) ⟨_, rfl, rfl, ((M).pick [] (by decide))⟩
      have h := cfalse hb h
      refine wp_skip (inb_n (then_n (X_reg ?_)))
      refine X_o K M ?_; clear K
      refine Y_o M ?_
      obtain ⟨x4, hx, h⟩ := olet h
      refine Y_r (fun _ K => rdi hx (rd_assign rfl K rfl)) M ?_; intro a K
      refine wpList_nil ?_
      exact then_n ⟨x4, ⟨K.pick [0,3], M.pick [] (by decide)⟩, h⟩
    have h := cfalse hb h
    have K := K.reb (s := 41) rfl hb
    refine T_o K ?_; clear K
    iterate 27 (refine U_o ?_)
    intro a K
    refine T_end ?_
    refine then_n ?_
    refine X_condF K rfl ?_
    refine wp_skip (inb_n (then_n (X_reg ?_)))
    refine X_o K M ?_; clear K
    refine Y_o M ?_
    obtain ⟨x5, hx, h⟩ := olet h
    refine Y_r (fun _ K => rdi hx (rd_assign rfl K rfl)) M ?_; intro a K
    refine wpList_nil ?_
    exact then_n ⟨x5, ⟨K.pick [0,3], M.pick [] (by decide)⟩, h⟩
  have h := cfalse hb h
  refine wp_exit ?_
  refine then_e ?_
  exact then_e (hk1 i _ _ ⟨K.pick [0,3], M.pick [] (by decide)⟩ h)
end Go.Proofs.Ytpmnfhifmmfglab

namespace Go.Proofs.Ytpmnfhifmmfglab
open Go.RowKit
set_option maxRecDepth 100000 in
set_option maxHeartbeats 4000000 in
theorem W_darkslideref_MixFine (N : Nat) (m0 : Int) (m1 : Int) (m2 : Int) (m3 : Int) (m4 : Int) (m5 : Int) (m6 : Int) (m7 : Int) (m8 : Int) (w0 : World)  (r : Bool) (h : D_darkslideref_MixFine N m0 m1 m2 m3 m4 m5 m6 m7 m8 = some r) :
    Calls Try.prog 51 #[.agg #[I m0, I m1, I m2, I m3, I m4, I m5, I m6, I m7, I m8]] w0 fun e w' => ∃ v, e = .returned v ∧ v = .bool r ∧ Mem w0.heap.size w0 w' [] := by
  refine X_enter Try.func51 rfl Try.ntmps51 rfl ?_
  intro a K
  have M := Mem.start w0
  have K : Kn a 13 [(0, .agg #[I m0, I m1, I m2, I m3, I m4, I m5, I m6, I m7, I m8])] := K
  unfold D_darkslideref_MixFine at h
  refine wp_seq (X_reg ?_)
  refine X_a K (ac_box rfl K rfl (cs := [I m0, I m1, I m2, I m3, I m4, I m5, I m6, I m7, I m8]) rfl M) ?_
  clear K M; rintro _ a w ⟨g_m, rfl, M⟩ K
  refine X_o K M ?_; clear K; intro a K
  refine wpList_nil (then_n (wp_seq (wp_seq (X_reg ?_))))
  refine X_o K M ?_; clear K; intro a K
  refine wpList_nil (then_n (wp_block ?_))
  refine X_lp (id := 0) (Rel := fun (i : Int) a w => Kn a 13 [(1, .pointer (some ⟨g_m, 0, none⟩)), (3, I i)] ∧ Mem w0.heap.size w0 w [.blk g_m 39 [I m0, I m1, I m2, I m3, I m4, I m5, I m6, I m7, I m8]]) h (fun _ _ => rfl) ⟨K.pick [1,3], M.pick [0] (by decide)⟩ ?_ ?_
  · clear K M h
    rintro i4 a w ⟨K, M⟩ h
    try dsimp only at h
    refine inb_e ?_
    refine then_n (wp_seq (X_reg ?_))
    refine X_o K M ?_; clear K; intro a K
    refine wpList_nil (then_n (wp_ret ?_))
    cases h
    exact ret1 K rfl (res_tmp K rfl) ⟨_, rfl, rfl, ((M).pick [] (by decide))⟩
  clear K M h
  rintro kk fuel i a w hk1 ⟨K, M⟩ h
  unfold D_darkslideref_MixFine_l1 at h
  refine wp_seq (wp_seq (X_reg ?_))
  refine X_o K M ?_; clear K
  refine Y_o M ?_; intro a K
  refine wpList_nil (then_n ?_)
  refine X_cond K rfl (fun hb => ?_) (fun hb => ?_)
  · have h := ctrue hb h
    refine wp_skip (then_n (wp_seq (wp_block (wp_seq (X_reg ?_)))))
    refine X_o K M ?_; clear K; intro a K
    obtain ⟨_, h0, h⟩ := obind h
    have h0 := inr_spec h0
    refine X_r K (rd_ixA rfl ar39 sz3 K rfl rfl h0.1 h0.2) M ?_; clear K
    obtain ⟨e2, h_e2, h⟩ := obind h
    refine Y_r (fun _ K => rd_ldIa rfl sc3 K rfl (inM 0 rfl) rfl rfl h_e2) M ?_; intro a K
    obtain ⟨r3, h_r3, h⟩ := obind h
    refine X_a K (ac_call (vs := [I e2, I (-32768), I 32768]) (cap := []) rfl fok30 K rfl rfl (W_darkslideref_within N e2 (-32768) 32768 _  r3 h_r3)) ?_
    have M0 := M; clear K M; rintro _ a w ⟨rfl, M⟩ K
    replace M := M0.call M; clear M0
    refine X_o K M ?_; clear K; intro a K
    refine wpList_nil (then_n ?_)
    refine X_cond K rfl (fun hb => ?_) (fun hb => ?_)
    · have h := ctrue hb h
      refine wp_seq (X_reg ?_)
      refine X_o K M ?_; clear K; intro a K
      refine wpList_nil (then_n (wp_ret (inb_r (then_r (then_r (inb_r (then_r ?_)))))))
      cases h
      exact ret1 K rfl (res_tmp K rfl) ⟨_, rfl, rfl, ((M).pick [] (by decide))⟩
    have h := cfalse hb h
    refine wp_skip (inb_n (then_n (X_reg ?_)))
    refine X_o K M ?_; clear K
    refine Y_o M ?_
    obtain ⟨i3, hx, h⟩ := olet h
    refine Y_r (fun _ K => rdi hx (rd_assign rfl K rfl)) M ?_; intro a K
    refine wpList_nil ?_
    exact then_n ⟨i3, ⟨K.pick [1,3], M.pick [0] (by decide)⟩, h⟩
  have h := cfalse hb h
  refine wp_exit ?_
  refine then_e ?_
  exact then_e (hk1 i _ _ ⟨K.pick [1,3], M.pick [0] (by decide)⟩ h)
end Go.Proofs.Ytpmnfhifmmfglab

namespace Go.Proofs.Ytpmnfhifmmfglab
open Go.RowKit
set_option maxRecDepth 100000 in
set_option maxHeartbeats 4000000 in
theorem W_darkslideref_spotsIn (N : Nat) (l2 : List (Int × Int)) (A_l2 : Option Addr) (c_l2 : Nat) (w2 : Int) (h2 : Int) (w0 : World) (R_l2 : SL w0 cII A_l2 l2) (C_l2 : l2.length ≤ c_l2) (r : Bool) (h : D_darkslideref_spotsIn N l2 w2 h2 = some r) :
    Calls Try.prog 40 #[.slice A_l2 l2.length c_l2, I w2, I h2] w0 fun e w' => ∃ v, e = .returned v ∧ v = .bool r ∧ Mem w0.heap.size w0 w' [] := by
  refine X_enter Try.func40 rfl Try.ntmps40 rfl ?_
  intro a K
  have M := Mem.start w0
  have K : Kn a 34 [(0, .slice A_l2 l2.length c_l2), (1, I w2), (2, I h2)] := K
  unfold D_darkslideref_spotsIn at h
  refine wp_seq (X_reg ?_)
  refine X_o K M ?_; clear K; intro a K
  refine wpList_nil (then_n (wp_seq (wp_seq (X_reg ?_))))
  refine X_o K M ?_; clear K; intro a K
  refine wpList_nil (then_n (wp_block ?_))
  refine X_lp (id := 0) (Rel := fun (i : Int) a w => Kn a 34 [(0, .slice A_l2 l2.length c_l2), (1, I w2), (2, I h2), (7, I i)] ∧ Mem w0.heap.size w0 w []) h (fun _ _ => rfl) ⟨K.pick [0,1,2,7], M.pick [] (by decide)⟩ ?_ ?_
  · clear K M h
    rintro i4 a w ⟨K, M⟩ h
    try dsimp only at h
    refine inb_e ?_
    refine then_n (wp_seq (X_reg ?_))
    refine X_o K M ?_; clear K; intro a K
    refine wpList_nil (then_n (wp_ret ?_))
    cases h
    exact ret1 K rfl (res_tmp K rfl) ⟨_, rfl, rfl, ((M).pick [] (by decide))⟩
  clear K M h
  rintro kk fuel i a w hk1 ⟨K, M⟩ h
  unfold D_darkslideref_spotsIn_l1 at h
  refine wp_seq (wp_seq (X_reg ?_))
  refine X_o K M ?_; clear K
  refine Y_o M ?_
  refine Y_r (fun _ K => rd_len rfl un37 K rfl) M ?_
  refine Y_o M ?_; intro a K
  refine wpList_nil (then_n ?_)
  refine X_cond K rfl (fun hb => ?_) (fun hb => ?_)
  · have h := ctrue hb h
    refine wp_skip (then_n (wp_seq (wp_block (wp_seq (X_reg ?_)))))
    refine X_o K M ?_; clear K
    refine Y_o M ?_
    obtain ⟨e3, h_e3, h⟩ := obind h
    refine Y_r (fun _ K => rd_ix rfl sl37 K rfl rfl (inA R_l2) h_e3) M ?_
    refine Y_r (fun _ K => rd_field rfl fld106_0 K rfl) M ?_
    refine Y_r (fun _ K => rd_elF rfl sc3 K rfl rfl (inA R_l2) h_e3 rfl) M ?_
    iterate 2 (refine Y_o M ?_)
    intro a K
    obtain ⟨r4, h_r4, h⟩ := obind h
    refine X_a K (ac_call (vs := [I e3.1, I 0, I (IntKind.i64.wrap (w2 - 1))]) (cap := []) rfl fok30 K rfl rfl (W_darkslideref_within N e3.1 0 (IntKind.i64.wrap (w2 - 1)) _  r4 h_r4)) ?_
    have M0 := M; clear K M; rintro _ a w ⟨rfl, M⟩ K
    replace M := M0.call M; clear M0
    refine X_o K M ?_; clear K
    refine Y_o M ?_; intro a K
    rcases Bool.eq_false_or_eq_true (!(r4)) with hb | hb
    · have h := ctrue hb h
      have K := K.reb (s := 23) rfl hb
      refine X_o K M ?_; clear K
      iterate 9 (refine Y_o M ?_)
      intro a K
      refine wpList_nil (then_n ?_)
      refine X_condT K rfl ?_
      refine wp_seq (X_reg ?_)
      refine X_o K M ?_; clear K; intro a K
      refine wpList_nil (then_n (wp_ret (inb_r (then_r (then_r (inb_r (then_r ?_)))))))
      cases h
      exact ret1 K rfl (res_tmp K rfl) ⟨_, rfl, rfl, ((M).pick [] (by decide))⟩
    have h := cfalse hb h
    have K := K.reb (s := 23) rfl hb
    refine X_o K M ?_; clear K
    refine Y_o M ?_
    obtain ⟨e4, h_e4, h⟩ := obind h
    refine Y_r (fun _ K => rd_ix rfl sl37 K rfl rfl (inA R_l2) h_e4) M ?_
    refine Y_r (fun _ K => rd_field rfl fld106_1 K rfl) M ?_
    refine Y_r (fun _ K => rd_elF rfl sc3 K rfl rfl (inA R_l2) h_e4 rfl) M ?_
    iterate 2 (refine Y_o M ?_)
    intro a K
    obtain ⟨r5, h_r5, h⟩ := obind h
    refine X_a K (ac_call (vs := [I e4.2, I 0, I (IntKind.i64.wrap (h2 - 1))]) (cap := []) rfl fok30 K rfl rfl (W_darkslideref_within N e4.2 0 (IntKind.i64.wrap (h2 - 1)) _  r5 h_r5)) ?_
    have M0 := M; clear K M; rintro _ a w ⟨rfl, M⟩ K
    replace M := M0.call M; clear M0
    refine X_o K M ?_; clear K
    refine Y_o M ?_; intro a K
    refine wpList_nil (then_n ?_)
    refine X_cond K rfl (fun hb => ?_) (fun hb => ?_)
    · have h := ctrue hb h
      refine wp_seq (X_reg ?_)
      refine X_o K M ?_; clear K; intro a K
      refine wpList_nil (then_n (wp_ret (inb_r (then_r (then_r (inb_r (then_r ?_)))))))
      cases h
      exact ret1 K rfl (res_tmp K rfl) ⟨_, rfl, rfl, ((M).pick [] (by decide))⟩
    have h := cfalse hb h
    refine wp_skip (inb_n (then_n (X_reg ?_)))
    refine X_o K M ?_; clear K
    refine Y_o M ?_
    obtain ⟨i3, hx, h⟩ := olet h
    refine Y_r (fun _ K => rdi hx (rd_assign rfl K rfl)) M ?_; intro a K
    refine wpList_nil ?_
    exact then_n ⟨i3, ⟨K.pick [0,1,2,7], M.pick [] (by decide)⟩, h⟩
  have h := cfalse hb h
  refine wp_exit ?_
  refine then_e ?_
  exact then_e (hk1 i _ _ ⟨K.pick [0,1,2,7], M.pick [] (by decide)⟩ h)
end Go.Proofs.Ytpmnfhifmmfglab

namespace Go.Proofs.Ytpmnfhifmmfglab
open Go.RowKit
set_option maxRecDepth 100000 in
set_option maxHeartbeats 4000000 in
theorem W_darkslideref_CheckPlan (N : Nat) (da : Int) (db0 : Int) (db1 : Int) (db2 : Int) (db3 : Int) (dc : Int) (dd : List (Int × Int)) (Add : Option Addr) (cdd : Nat) (de0 : Int) (de1 : Int) (de2 : Int) (df0 : Int) (df1 : Int) (df2 : Int) (df3 : Int) (df4 : Int) (df5 : Int) (df6 : Int) (df7 : Int) (df8 : Int) (dg : List (Int × Int)) (Adg : Option Addr) (cdg : Nat) (dh : Int) (w0 : World) (Rdd : SL w0 cII Add dd) (Cdd : dd.length ≤ cdd) (Rdg : SL w0 cII Adg dg) (Cdg : dg.length ≤ cdg) (r : Int) (h : D_darkslideref_CheckPlan N da db0 db1 db2 db3 dc dd de0 de1 de2 df0 df1 df2 df3 df4 df5 df6 df7 df8 dg dh = some r) :
    Calls Try.prog 20 #[.agg #[I da, I db0, I db1, I db2, I db3, I dc, .slice Add dd.length cdd, I de0, I de1, I de2, I df0, I df1, I df2, I df3, I df4, I df5, I df6, I df7, I df8, .slice Adg dg.length cdg, I dh]] w0 fun e w' => ∃ v, e = .returned v ∧ v = I r ∧ Mem w0.heap.size w0 w' [] := by
  refine X_enter Try.func20 rfl Try.ntmps20 rfl ?_
  intro a K
  have M := Mem.start w0
  have K : Kn a 66 [(0, .agg #[I da, I db0, I db1, I db2, I db3, I dc, .slice Add dd.length cdd, I de0, I de1, I de2, I df0, I df1, I df2, I df3, I df4, I df5, I df6, I df7, I df8, .slice Adg dg.length cdg, I dh])] := K
  unfold D_darkslideref_CheckPlan at h
  refine wp_seq (X_reg ?_)
  refine X_a K (ac_box rfl K rfl (cs := [I da, I db0, I db1, I db2, I db3, I dc, .slice Add dd.length cdd, I de0, I de1, I de2, I df0, I df1, I df2, I df3, I df4, I df5, I df6, I df7, I df8, .slice Adg dg.length cdg, I dh]) rfl M) ?_
  clear K M; rintro _ a w ⟨g_o, rfl, M⟩ K
  refine X_o K M ?_; clear K; intro a K
  refine wpList_nil (then_n (wp_seq (wp_seq (X_reg ?_))))
  refine X_r K (rd_field rfl fld42_0 K rfl) M ?_; clear K
  refine Y_r (fun _ K => rd_ldC rfl sc3 K rfl (inM 0 rfl) rfl) M ?_; intro a K
  obtain ⟨r2, h_r2, h⟩ := obind h
  refine X_a K (ac_call (vs := [I da, I 0, I 3]) (cap := []) rfl fok30 K rfl rfl (W_darkslideref_within N da 0 3 _  r2 h_r2)) ?_
  have M0 := M; clear K M; rintro _ a w ⟨rfl, M⟩ K
  replace M := M0.call M; clear M0
  refine X_o K M ?_; clear K
  refine Y_o M ?_; intro a K
  rcases Bool.eq_false_or_eq_true (!(r2)) with hb | hb
  · have h := ctrue hb h
    have K := K.reb (s := 9) rfl hb
    refine X_o K M ?_; clear K
    iterate 28 (refine Y_o M ?_)
    intro a K
    refine wpList_nil (then_n ?_)
    refine X_condT K rfl ?_
    refine wp_seq (X_reg ?_)
    refine X_o K M ?_; clear K; intro a K
    refine wpList_nil (then_n (wp_ret (then_r ?_)))
    cases h
    exact ret1 K rfl (res_tmp K rfl) ⟨_, rfl, rfl, ((M).pick [] (by decide))⟩
  have h := cfalse hb h
  have K := K.reb (s := 9) rfl hb
  refine X_r K (rd_field rfl fld42_2 K rfl) M ?_; clear K
  refine Y_r (fun _ K => rd_ldC rfl sc3 K rfl (inM 0 rfl) rfl) M ?_; intro a K
  obtain ⟨r3, h_r3, h⟩ := obind h
  refine X_a K (ac_call (vs := [I dc, I 1, I 65535]) (cap := []) rfl fok30 K rfl rfl (W_darkslideref_within N dc 1 65535 _  r3 h_r3)) ?_
  have M0 := M; clear K M; rintro _ a w ⟨rfl, M⟩ K
  replace M := M0.call M; clear M0
  refine X_o K M ?_; clear K
  iterate 2 (refine Y_o M ?_)
  intro a K
  rcases Bool.eq_false_or_eq_true (!(r3)) with hb | hb
  · have h := ctrue hb h
    have K := K.reb (s := 15) rfl hb
    refine X_o K M ?_; clear K
    iterate 22 (refine Y_o M ?_)
    intro a K
    refine wpList_nil (then_n ?_)
    refine X_condT K rfl ?_
    refine wp_seq (X_reg ?_)
    refine X_o K M ?_; clear K; intro a K
    refine wpList_nil (then_n (wp_ret (then_r ?_)))
    cases h
    exact ret1 K rfl (res_tmp K rfl) ⟨_, rfl, rfl, ((M).pick [] (by decide))⟩
  have h := cfalse hb h
  have K := K.reb (s := 15) rfl hb
  refine X_r K (rd_field rfl fld42_3 K rfl) M ?_; clear K
  refine Y_r (fun _ K => rd_ldC rfl sc37 K rfl (inM 0 rfl) rfl) M ?_
  refine Y_r (fun _ K => rd_len rfl un37 K rfl) M ?_
  iterate 3 (refine Y_o M ?_)
  intro a K
  rcases Bool.eq_false_or_eq_true (decide (64 < (dd.length : Int))) with hb | hb
  · have h := ctrue hb h
    have K := K.reb (s := 21) rfl hb
    refine X_o K M ?_; clear K
    iterate 16 (refine Y_o M ?_)
    intro a K
    refine wpList_nil (then_n ?_)
    refine X_condT K rfl ?_
    refine wp_seq (X_reg ?_)
    refine X_o K M ?_; clear K; intro a K
    refine wpList_nil (then_n (wp_ret (then_r ?_)))
    cases h
    exact ret1 K rfl (res_tmp K rfl) ⟨_, rfl, rfl, ((M).pick [] (by decide))⟩
  have h := cfalse hb h
  have K := K.reb (s := 21) rfl hb
  refine X_r K (rd_field rfl fld42_3 K rfl) M ?_; clear K
  refine Y_r (fun _ K => rd_ldC rfl sc37 K rfl (inM 0 rfl) rfl) M ?_; intro a K
  obtain ⟨r4, h_r4, h⟩ := obind h
  refine X_a K (ac_call (vs := [.slice Add dd.length cdd, I 64, I 64]) (cap := []) rfl fok40 K rfl rfl (W_darkslideref_spotsIn N dd Add cdd 64 64 _ ((inA Rdd) _ M) Cdd r4 h_r4)) ?_
  have M0 := M; clear K M; rintro _ a w ⟨rfl, M⟩ K
  replace M := M0.call M; clear M0
  refine X_o K M ?_; clear K
  iterate 2 (refine Y_o M ?_)
  intro a K
  rcases Bool.eq_false_or_eq_true (!(r4)) with hb | hb
  · have h := ctrue hb h
    have K := K.reb (s := 27) rfl hb
    refine X_o K M ?_; clear K
    iterate 10 (refine Y_o M ?_)
    intro a K
    refine wpList_nil (then_n ?_)
    refine X_condT K rfl ?_
    refine wp_seq (X_reg ?_)
    refine X_o K M ?_; clear K; intro a K
    refine wpList_nil (then_n (wp_ret (then_r ?_)))
    cases h
    exact ret1 K rfl (res_tmp K rfl) ⟨_, rfl, rfl, ((M).pick [] (by decide))⟩
  have h := cfalse hb h
  have K := K.reb (s := 27) rfl hb
  refine X_r K (rd_field rfl fld42_5 K rfl) M ?_; clear K
  refine Y_r (fun _ K => rd_ldA rfl ty39 K rfl (inM 0 rfl) rfl rfl) M ?_; intro a K
  obtain ⟨r5, h_r5, h⟩ := obind h
  refine X_a K (ac_call (vs := [.agg #[I df0, I df1, I df2, I df3, I df4, I df5, I df6, I df7, I df8]]) (cap := []) rfl fok51 K rfl rfl (W_darkslideref_MixFine N df0 df1 df2 df3 df4 df5 df6 df7 df8 _  r5 h_r5)) ?_
  have M0 := M; clear K M; rintro _ a w ⟨rfl, M⟩ K
  replace M := M0.call M; clear M0
  refine X_o K M ?_; clear K
  iterate 2 (refine Y_o M ?_)
  intro a K
  rcases Bool.eq_false_or_eq_true (!(r5)) with hb | hb
  · have h := ctrue hb h
    have K := K.reb (s := 33) rfl hb
    refine X_o K M ?_; clear K
    iterate 4 (refine Y_o M ?_)
    intro a K
    refine wpList_nil (then_n ?_)
    refine X_condT K rfl ?_
    refine wp_seq (X_reg ?_)
    refine X_o K M ?_; clear K; intro a K
    refine wpList_nil (then_n (wp_ret (then_r ?_)))
    cases h
    exact ret1 K rfl (res_tmp K rfl) ⟨_, rfl, rfl, ((M).pick [] (by decide))⟩
  have h := cfalse hb h
  have K := K.reb (s := 33) rfl hb
  refine X_r K (rd_field rfl fld42_7 K rfl) M ?_; clear K
  refine Y_r (fun _ K => rd_ldC rfl sc3 K rfl (inM 0 rfl) rfl) M ?_; intro a K
  obtain ⟨r6, h_r6, h⟩ := obind h
  refine X_a K (ac_call (vs := [I dh, I 0, I 1024]) (cap := []) rfl fok30 K rfl rfl (W_darkslideref_within N dh 0 1024 _  r6 h_r6)) ?_
  have M0 := M; clear K M; rintro _ a w ⟨rfl, M⟩ K
  replace M := M0.call M; clear M0
  refine X_o K M ?_; clear K
  refine Y_o M ?_; intro a K
  refine wpList_nil (then_n ?_)
  refine X_cond K rfl (fun hb => ?_) (fun hb => ?_)
  · have h := ctrue hb h
    refine wp_seq (X_reg ?_)
    refine X_o K M ?_; clear K; intro a K
    refine wpList_nil (then_n (wp_ret (then_r ?_)))
    cases h
    exact ret1 K rfl (res_tmp K rfl) ⟨_, rfl, rfl, ((M).pick [] (by decide))⟩
  have h := cfalse hb h
  refine wp_skip (then_n (wp_seq (wp_seq (X_reg ?_))))
  refine X_o K M ?_; clear K; intro a K
  refine wpList_nil (then_n (wp_block ?_))
  refine X_lp (id := 0) (Rel := fun (i : Int) a w => Kn a 66 [(1, .pointer (some ⟨g_o, 0, none⟩)), (3, I i)] ∧ Mem w0.heap.size w0 w [.blk g_o 42 [I da, I db0, I db1, I db2, I db3, I dc, .slice Add dd.length cdd, I de0, I de1, I de2, I df0, I df1, I df2, I df3, I df4, I df5, I df6, I df7, I df8, .slice Adg dg.length cdg, I dh]]) h (fun _ _ => rfl) ⟨K.pick [1,3], M.pick [0] (by decide)⟩ ?_ ?_
  · clear K M h
    rintro i2 a w ⟨K, M⟩ h
    try dsimp only at h
    refine inb_e ?_
    refine then_n (wp_seq (wp_seq (X_reg ?_)))
    refine X_o K M ?_; clear K; intro a K
    refine wpList_nil (then_n (wp_block ?_))
    refine X_lp (id := 2) (Rel := fun (i3 : Int) a w => Kn a 66 [(1, .pointer (some ⟨g_o, 0, none⟩)), (4, I i3)] ∧ Mem w0.heap.size w0 w [.blk g_o 42 [I da, I db0, I db1, I db2, I db3, I dc, .slice Add dd.length cdd, I de0, I de1, I de2, I df0, I df1, I df2, I df3, I df4, I df5, I df6, I df7, I df8, .slice Adg dg.length cdg, I dh]]) h (fun _ _ => rfl) ⟨K.pick [1,4], M.pick [0] (by decide)⟩ ?_ ?_
    · clear K M h
      rintro i4 a w ⟨K, M⟩ h
      try dsimp only at h
      refine inb_e ?_
      refine then_n (wp_seq (wp_seq (X_reg ?_)))
      refine X_r K (rd_field rfl fld42_6 K rfl) M ?_; clear K
      refine Y_r (fun _ K => rd_ldC rfl sc40 K rfl (inM 0 rfl) rfl) M ?_; intro a K
      obtain ⟨r11, h_r11, h⟩ := obind h
      refine X_a K (ac_call (vs := [.slice Adg dg.length cdg]) (cap := []) rfl fok52 K rfl rfl (W_darkslideref_CurveFine N dg Adg cdg _ ((inA Rdg) _ M) Cdg r11 h_r11)) ?_
      have M0 := M; clear K M; rintro _ a w ⟨rfl, M⟩ K
      replace M := M0.call M; clear M0
      refine X_o K M ?_; clear K; intro a K
      refine wpList_nil (then_n ?_)
      refine X_cond K rfl (fun hb => ?_) (fun hb => ?_)
      · have h := ctrue hb h
        refine wp_seq (X_reg ?_)
        refine X_o K M ?_; clear K; intro a K
        refine wpList_nil (then_n (wp_ret (then_r ?_)))
        cases h
        exact ret1 K rfl (res_tmp K rfl) ⟨_, rfl, rfl, ((M).pick [] (by decide))⟩
      have h := cfalse hb h
      refine wp_skip (then_n (wp_seq (X_reg ?_)))
      refine X_o K M ?_; clear K; intro a K
      refine wpList_nil (then_n (wp_ret ?_))
      cases h
      exact ret1 K rfl (res_tmp K rfl) ⟨_, rfl, rfl, ((M).pick [] (by decide))⟩
    clear K M h
    rintro kk fuel i3 a w hk2 ⟨K, M⟩ h
    unfold D_darkslideref_CheckPlan_l2 at h
    refine wp_seq (wp_seq (X_reg ?_))
    refine X_o K M ?_; clear K
    refine Y_o M ?_; intro a K
    refine wpList_nil (then_n ?_)
    refine X_cond K rfl (fun hb => ?_) (fun hb => ?_)
    · have h := ctrue hb h
      refine wp_skip (then_n (wp_seq (wp_block (wp_seq (X_reg ?_)))))
      refine X_o K M ?_; clear K
      refine Y_r (fun _ K => rd_field rfl fld42_4 K rfl) M ?_; intro a K
      obtain ⟨_, h0, h⟩ := obind h
      have h0 := inr_spec h0
      refine X_r K (rd_ixA rfl ar38 sz3 K rfl rfl h0.1 h0.2) M ?_; clear K
      obtain ⟨e4, h_e4, h⟩ := obind h
      refine Y_r (fun _ K => rd_ldIa rfl sc3 K rfl (inM 0 rfl) rfl rfl h_e4) M ?_; intro a K
      obtain ⟨r10, h_r10, h⟩ := obind h
      refine X_a K (ac_call (vs := [I e4, I 0, I 65535]) (cap := []) rfl fok30 K rfl rfl (W_darkslideref_within N e4 0 65535 _  r10 h_r10)) ?_
      have M0 := M; clear K M; rintro _ a w ⟨rfl, M⟩ K
      replace M := M0.call M; clear M0
      refine X_o K M ?_; clear K; intro a K
      refine wpList_nil (then_n ?_)
      refine X_cond K rfl (fun hb => ?_) (fun hb => ?_)
      · have h := ctrue hb h
        refine wp_seq (X_reg ?_)
        refine X_o K M ?_; clear K; intro a K
        refine wpList_nil (then_n (wp_ret (inb_r (then_r (then_r (inb_r (then_r ?_)))))))
        cases h
        exact ret1 K rfl (res_tmp K rfl) ⟨_, rfl, rfl, ((M).pick [] (by decide))⟩
      have h := cfalse hb h
      refine wp_skip (inb_n (then_n (X_reg ?_)))
      refine X_o K M ?_; clear K
      refine Y_o M ?_
      obtain ⟨x5, hx, h⟩ := olet h
      refine Y_r (fun _ K => rdi hx (rd_assign rfl K rfl)) M ?_; intro a K
      refine wpList_nil ?_
      exact then_n ⟨x5, ⟨K.pick [1,4], M.pick [0] (by decide)⟩, h⟩
    have h := cfalse hb h
    refine wp_exit ?_
    refine then_e ?_
    exact then_e (hk2 i3 _ _ ⟨K.pick [1,4], M.pick [0] (by decide)⟩ h)
  clear K M h
  rintro kk fuel i a w hk1 ⟨K, M⟩ h
  unfold D_darkslideref_CheckPlan_l1 at h
  refine wp_seq (wp_seq (X_reg ?_))
  refine X_o K M ?_; clear K
  refine Y_o M ?_; intro a K
  refine wpList_nil (then_n ?_)
  refine X_cond K rfl (fun hb => ?_) (fun hb => ?_)
  · have h := ctrue hb h
    refine wp_skip (then_n (wp_seq (wp_block (wp_seq ?_))))
    refine wp_region_tl (fun w => Mem _ _ w _) [0,0,0,0,0,0,0,1,0] (by kernel_rfl) (by kernel_rfl) M.drew ?_
    replace M := M.drew
    refine T_o K ?_; clear K
    refine U_r (fun _ K => rd_field rfl fld42_1 K rfl) ?_; intro a K
    obtain ⟨_, h0, h⟩ := obind h
    have h0 := inr_spec h0
    refine T_r K (rd_ixA rfl ar36 sz3 K rfl rfl h0.1 h0.2) ?_; clear K
    obtain ⟨e2, h_e2, h⟩ := obind h
    refine U_r (fun _ K => rd_ldIa rfl sc3 K rfl (inM 0 rfl) rfl rfl h_e2) ?_
    refine U_r (fun _ K => rd_field rfl fld42_2 K rfl) ?_
    refine U_r (fun _ K => rd_ldC rfl sc3 K rfl (inM 0 rfl) rfl) ?_
    refine U_o ?_; intro a K
    obtain ⟨r8, h_r8, h⟩ := obind h
    refine T_a K (ac_call (vs := [I e2, I 0, I (IntKind.i64.wrap (dc - 1))]) (cap := []) rfl fok30 K rfl rfl (W_darkslideref_within N e2 0 (IntKind.i64.wrap (dc - 1)) _  r8 h_r8)) ?_
    have M0 := M; clear K M; rintro _ a w ⟨rfl, M⟩ K
    replace M := M0.call M; clear M0
    refine ⟨M.pick [0] (by decide), ?_⟩
    refine T_o K ?_; clear K; intro a K
    refine T_end ?_
    refine then_n ?_
    refine X_cond K rfl (fun hb => ?_) (fun hb => ?_)
    · have h := ctrue hb h
      refine wp_seq (X_reg ?_)
      refine X_o K M ?_; clear K; intro a K
      refine wpList_nil (then_n (wp_ret (inb_r (then_r (then_r (inb_r (then_r ?_)))))))
      cases h
      exact ret1 K rfl (res_tmp K rfl) ⟨_, rfl, rfl, ((M).pick [] (by decide))⟩
    have h := cfalse hb h
    refine wp_skip (inb_n (then_n (X_reg ?_)))
    refine X_o K M ?_; clear K
    refine Y_o M ?_
    obtain ⟨x3, hx, h⟩ := olet h
    refine Y_r (fun _ K => rdi hx (rd_assign rfl K rfl)) M ?_; intro a K
    refine wpList_nil ?_
    exact then_n ⟨x3, ⟨K.pick [1,3], M.pick [0] (by decide)⟩, h⟩
  have h := cfalse hb h
  refine wp_exit ?_
  refine then_e ?_
  exact then_e (hk1 i _ _ ⟨K.pick [1,3], M.pick [0] (by decide)⟩ h)
end Go.Proofs.Ytpmnfhifmmfglab

namespace Go.Proofs.Ytpmnfhifmmfglab
open Go.RowKit
set_option maxRecDepth 100000 in
set_option maxHeartbeats 4000000 in
theorem W_darkslideref_PlaneFine (N : Nat) (p_W : Int) (p_H : Int) (p_P : List Int) (A_p_P : Option Addr) (c_p_P : Nat) (w0 : World) (R_p_P : SL w0 (cI .i64) A_p_P p_P) (C_p_P : p_P.length ≤ c_p_P) (r : Bool) (h : D_darkslideref_PlaneFine N p_W p_H p_P = some r) :
    Calls Try.prog 39 #[.agg #[I p_W, I p_H, .slice A_p_P p_P.length c_p_P]] w0 fun e w' => ∃ v, e = .returned v ∧ v = .bool r ∧ Mem w0.heap.size w0 w' [] := by
  refine X_enter Try.func39 rfl Try.ntmps39 rfl ?_
  intro a K
  have M := Mem.start w0
  have K : Kn a 39 [(0, .agg #[I p_W, I p_H, .slice A_p_P p_P.length c_p_P])] := K
  unfold D_darkslideref_PlaneFine at h
  refine wp_seq (X_reg ?_)
  refine X_a K (ac_box rfl K rfl (cs := [I p_W, I p_H, .slice A_p_P p_P.length c_p_P]) rfl M) ?_
  clear K M; rintro _ a w ⟨g_p, rfl, M⟩ K
  refine X_o K M ?_; clear K; intro a K
  refine wpList_nil (then_n (wp_seq (wp_seq (X_reg ?_))))
  refine X_r K (rd_field rfl fld45_0 K rfl) M ?_; clear K
  refine Y_r (fun _ K => rd_ldC rfl sc3 K rfl (inM 0 rfl) rfl) M ?_; intro a K
  obtain ⟨r2, h_r2, h⟩ := obind h
  refine X_a K (ac_call (vs := [I p_W, I 1, I 64]) (cap := []) rfl fok30 K rfl rfl (W_darkslideref_within N p_W 1 64 _  r2 h_r2)) ?_
  have M0 := M; clear K M; rintro _ a w ⟨rfl, M⟩ K
  replace M := M0.call M; clear M0
  refine X_o K M ?_; clear K
  refine Y_o M ?_; intro a K
  rcases Bool.eq_false_or_eq_true (!(r2)) with hb | hb
  · have h := ctrue hb h
    have K := K.reb (s := 8) rfl hb
    refine X_o K M ?_; clear K
    iterate 15 (refine Y_o M ?_)
    intro a K
    refine wpList_nil (then_n ?_)
    refine X_condT K rfl ?_
    refine wp_seq (X_reg ?_)
    refine X_o K M ?_; clear K; intro a K
    refine wpList_nil (then_n (wp_ret (then_r ?_)))
    cases h
    exact ret1 K rfl (res_tmp K rfl) ⟨_, rfl, rfl, ((M).pick [] (by decide))⟩
  have h := cfalse hb h
  have K := K.reb (s := 8) rfl hb
  refine X_r K (rd_field rfl fld45_1 K rfl) M ?_; clear K
  refine Y_r (fun _ K => rd_ldC rfl sc3 K rfl (inM 0 rfl) rfl) M ?_; intro a K
  obtain ⟨r3, h_r3, h⟩ := obind h
  refine X_a K (ac_call (vs := [I p_H, I 1, I 64]) (cap := []) rfl fok30 K rfl rfl (W_darkslideref_within N p_H 1 64 _  r3 h_r3)) ?_
  have M0 := M; clear K M; rintro _ a w ⟨rfl, M⟩ K
  replace M := M0.call M; clear M0
  refine X_o K M ?_; clear K
  iterate 2 (refine Y_o M ?_)
  intro a K
  rcases Bool.eq_false_or_eq_true (!(r3)) with hb | hb
  · have h := ctrue hb h
    have K := K.reb (s := 14) rfl hb
    refine X_o K M ?_; clear K
    iterate 9 (refine Y_o M ?_)
    intro a K
    refine wpList_nil (then_n ?_)
    refine X_condT K rfl ?_
    refine wp_seq (X_reg ?_)
    refine X_o K M ?_; clear K; intro a K
    refine wpList_nil (then_n (wp_ret (then_r ?_)))
    cases h
    exact ret1 K rfl (res_tmp K rfl) ⟨_, rfl, rfl, ((M).pick [] (by decide))⟩
  have h := cfalse hb h
  have K := K.reb (s := 14) rfl hb
  refine X_r K (rd_field rfl fld45_2 K rfl) M ?_; clear K
  refine Y_r (fun _ K => rd_ldC rfl sc43 K rfl (inM 0 rfl) rfl) M ?_
  refine Y_r (fun _ K => rd_len rfl un43 K rfl) M ?_
  refine Y_r (fun _ K => rd_field rfl fld45_0 K rfl) M ?_
  refine Y_r (fun _ K => rd_ldC rfl sc3 K rfl (inM 0 rfl) rfl) M ?_
  refine Y_r (fun _ K => rd_field rfl fld45_1 K rfl) M ?_
  refine Y_r (fun _ K => rd_ldC rfl sc3 K rfl (inM 0 rfl) rfl) M ?_
  iterate 3 (refine Y_o M ?_)
  intro a K
  refine wpList_nil (then_n ?_)
  refine X_cond K rfl (fun hb => ?_) (fun hb => ?_)
  · have h := ctrue hb h
    refine wp_seq (X_reg ?_)
    refine X_o K M ?_; clear K; intro a K
    refine wpList_nil (then_n (wp_ret (then_r ?_)))
    cases h
    exact ret1 K rfl (res_tmp K rfl) ⟨_, rfl, rfl, ((M).pick [] (by decide))⟩
  have h := cfalse hb h
  refine wp_skip (then_n (wp_seq (wp_seq (X_reg ?_))))
  refine X_o K M ?_; clear K; intro a K
  refine wpList_nil (then_n (wp_block ?_))
  refine X_lp (id := 0) (Rel := fun (i : Int) a w => Kn a 39 [(1, .pointer (some ⟨g_p, 0, none⟩)), (3, I i)] ∧ Mem w0.heap.size w0 w [.blk g_p 45 [I p_W, I p_H, .slice A_p_P p_P.length c_p_P]]) h (fun _ _ => rfl) ⟨K.pick [1,3], M.pick [0] (by decide)⟩ ?_ ?_
  · clear K M h
    rintro i4 a w ⟨K, M⟩ h
    try dsimp only at h
    refine inb_e ?_
    refine then_n (wp_seq (X_reg ?_))
    refine X_o K M ?_; clear K; intro a K
    refine wpList_nil (then_n (wp_ret ?_))
    cases h
    exact ret1 K rfl (res_tmp K rfl) ⟨_, rfl, rfl, ((M).pick [] (by decide))⟩
  clear K M h
  rintro kk fuel i a w hk1 ⟨K, M⟩ h
  unfold D_darkslideref_PlaneFine_l1 at h
  refine wp_seq (wp_seq (X_reg ?_))
  refine X_o K M ?_; clear K
  refine Y_r (fun _ K => rd_field rfl fld45_2 K rfl) M ?_
  refine Y_r (fun _ K => rd_ldC rfl sc43 K rfl (inM 0 rfl) rfl) M ?_
  refine Y_r (fun _ K => rd_len rfl un43 K rfl) M ?_
  refine Y_o M ?_; intro a K
  refine wpList_nil (then_n ?_)
  refine X_cond K rfl (fun hb => ?_) (fun hb => ?_)
  · have h := ctrue hb h
    refine wp_skip (then_n (wp_seq (wp_block (wp_seq (X_reg ?_)))))
    refine X_r K (rd_field rfl fld45_2 K rfl) M ?_; clear K
    refine Y_r (fun _ K => rd_ldC rfl sc43 K rfl (inM 0 rfl) rfl) M ?_
    refine Y_o M ?_
    obtain ⟨e2, h_e2, h⟩ := obind h
    refine Y_r (fun _ K => rd_ix rfl sl43 K rfl rfl (inA R_p_P) h_e2) M ?_
    refine Y_r (fun _ K => rd_elC rfl sc3 K rfl rfl (inA R_p_P) h_e2 rfl) M ?_; intro a K
    obtain ⟨r5, h_r5, h⟩ := obind h
    refine X_a K (ac_call (vs := [I e2, I 0, I 65535]) (cap := []) rfl fok30 K rfl rfl (W_darkslideref_within N e2 0 65535 _  r5 h_r5)) ?_
    have M0 := M; clear K M; rintro _ a w ⟨rfl, M⟩ K
    replace M := M0.call M; clear M0
    refine X_o K M ?_; clear K; intro a K
    refine wpList_nil (then_n ?_)
    refine X_cond K rfl (fun hb => ?_) (fun hb => ?_)
    · have h := ctrue hb h
      refine wp_seq (X_reg ?_)
      refine X_o K M ?_; clear K; intro a K
      refine wpList_nil (then_n (wp_ret (inb_r (then_r (then_r (inb_r (then_r ?_)))))))
      cases h
      exact ret1 K rfl (res_tmp K rfl) ⟨_, rfl, rfl, ((M).pick [] (by decide))⟩
    have h := cfalse hb h
    refine wp_skip (inb_n (then_n (X_reg ?_)))
    refine X_o K M ?_; clear K
    refine Y_o M ?_
    obtain ⟨i3, hx, h⟩ := olet h
    refine Y_r (fun _ K => rdi hx (rd_assign rfl K rfl)) M ?_; intro a K
    refine wpList_nil ?_
    exact then_n ⟨i3, ⟨K.pick [1,3], M.pick [0] (by decide)⟩, h⟩
  have h := cfalse hb h
  refine wp_exit ?_
  refine then_e ?_
  exact then_e (hk1 i _ _ ⟨K.pick [1,3], M.pick [0] (by decide)⟩ h)
end Go.Proofs.Ytpmnfhifmmfglab

namespace Go.Proofs.Ytpmnfhifmmfglab
open Go.RowKit
set_option maxRecDepth 100000 in
set_option maxHeartbeats 4000000 in
theorem W_darkslideref_WholeError (N : Nat) (na : Int) (nb0 : Int) (nb1 : Int) (nb2 : Int) (nb3 : Int) (nc : Int) (nd : List (Int × Int)) (And : Option Addr) (cnd : Nat) (ne0 : Int) (ne1 : Int) (ne2 : Int) (nf0 : Int) (nf1 : Int) (nf2 : Int) (nf3 : Int) (nf4 : Int) (nf5 : Int) (nf6 : Int) (nf7 : Int) (nf8 : Int) (ng : List (Int × Int)) (Ang : Option Addr) (cng : Nat) (nh : Int) (p_W : Int) (p_H : Int) (p_P : List Int) (A_p_P : Option Addr) (c_p_P : Nat) (w0 : World) (Rnd : SL w0 cII And nd) (Cnd : nd.length ≤ cnd) (Rng : SL w0 cII Ang ng) (Cng : ng.length ≤ cng) (R_p_P : SL w0 (cI .i64) A_p_P p_P) (C_p_P : p_P.length ≤ c_p_P) (r : Int) (h : D_darkslideref_WholeError N na nb0 nb1 nb2 nb3 nc nd ne0 ne1 ne2 nf0 nf1 nf2 nf3 nf4 nf5 nf6 nf7 nf8 ng nh p_W p_H p_P = some r) :
    Calls Try.prog 16 #[.agg #[I na, I nb0, I nb1, I nb2, I nb3, I nc, .slice And nd.length cnd, I ne0, I ne1, I ne2, I nf0, I nf1, I nf2, I nf3, I nf4, I nf5, I nf6, I nf7, I nf8, .slice Ang ng.length cng, I nh], .agg #[I p_W, I p_H, .slice A_p_P p_P.length c_p_P]] w0 fun e w' => ∃ v, e = .returned v ∧ v = I r ∧ Mem w0.heap.size w0 w' [] := by
  refine X_enter Try.func16 rfl Try.ntmps16 rfl ?_
  intro a K
  have M := Mem.start w0
  have K : Kn a 22 [(0, .agg #[I na, I nb0, I nb1, I nb2, I nb3, I nc, .slice And nd.length cnd, I ne0, I ne1, I ne2, I nf0, I nf1, I nf2, I nf3, I nf4, I nf5, I nf6, I nf7, I nf8, .slice Ang ng.length cng, I nh]), (1, .agg #[I p_W, I p_H, .slice A_p_P p_P.length c_p_P])] := K
  unfold D_darkslideref_WholeError at h
  refine wp_seq (X_reg ?_)
  refine X_a K (ac_box rfl K rfl (cs := [I na, I nb0, I nb1, I nb2, I nb3, I nc, .slice And nd.length cnd, I ne0, I ne1, I ne2, I nf0, I nf1, I nf2, I nf3, I nf4, I nf5, I nf6, I nf7, I nf8, .slice Ang ng.length cng, I nh]) rfl M) ?_
  clear K M; rintro _ a w ⟨g_n, rfl, M⟩ K
  refine X_a K (ac_box rfl K rfl (cs := [I p_W, I p_H, .slice A_p_P p_P.length c_p_P]) rfl M) ?_
  clear K M; rintro _ a w ⟨g_p, rfl, M⟩ K
  refine X_o K M ?_; clear K; intro a K
  refine wpList_nil (then_n (wp_seq (wp_seq (X_reg ?_))))
  refine X_r K (rd_ldA rfl ty42 K rfl (inM 1 rfl) rfl rfl) M ?_; clear K; intro a K
  obtain ⟨r2, h_r2, h⟩ := obind h
  refine X_a K (ac_call (vs := [.agg #[I na, I nb0, I nb1, I nb2, I nb3, I nc, .slice And nd.length cnd, I ne0, I ne1, I ne2, I nf0, I nf1, I nf2, I nf3, I nf4, I nf5, I nf6, I nf7, I nf8, .slice Ang ng.length cng, I nh]]) (cap := []) rfl fok20 K rfl rfl (W_darkslideref_CheckPlan N na nb0 nb1 nb2 nb3 nc nd And cnd ne0 ne1 ne2 nf0 nf1 nf2 nf3 nf4 nf5 nf6 nf7 nf8 ng Ang cng nh _ ((inA Rnd) _ M) Cnd ((inA Rng) _ M) Cng r2 h_r2)) ?_
  have M0 := M; clear K M; rintro _ a w ⟨rfl, M⟩ K
  replace M := M0.call M; clear M0
  refine X_o K M ?_; clear K; intro a K
  refine wpList_nil (then_n (wp_seq (X_reg ?_)))
  refine X_o K M ?_; clear K
  refine Y_o M ?_; intro a K
  refine wpList_nil (then_n ?_)
  refine X_cond K rfl (fun hb => ?_) (fun hb => ?_)
  · have h := ctrue hb h
    refine wp_seq (X_reg ?_)
    refine X_o K M ?_; clear K
    refine Y_o M ?_; intro a K
    refine wpList_nil (then_n (wp_ret (then_r ?_)))
    cases h
    exact ret1 K rfl (res_tmp K rfl) ⟨_, rfl, rfl, ((M).pick [] (by decide))⟩
  have h := cfalse hb h
  refine wp_skip (then_n (wp_seq (wp_seq (X_reg ?_))))
  refine X_r K (rd_ldA rfl ty45 K rfl (inM 0 rfl) rfl rfl) M ?_; clear K; intro a K
  obtain ⟨r3, h_r3, h⟩ := obind h
  refine X_a K (ac_call (vs := [.agg #[I p_W, I p_H, .slice A_p_P p_P.length c_p_P]]) (cap := []) rfl fok39 K rfl rfl (W_darkslideref_PlaneFine N p_W p_H p_P A_p_P c_p_P _ ((inA R_p_P) _ M) C_p_P r3 h_r3)) ?_
  have M0 := M; clear K M; rintro _ a w ⟨rfl, M⟩ K
  replace M := M0.call M; clear M0
  refine X_o K M ?_; clear K; intro a K
  refine wpList_nil (then_n ?_)
  refine X_cond K rfl (fun hb => ?_) (fun hb => ?_)
  · have h := ctrue hb h
    refine wp_seq (X_reg ?_)
    refine X_o K M ?_; clear K; intro a K
    refine wpList_nil (then_n (wp_ret (then_r ?_)))
    cases h
    exact ret1 K rfl (res_tmp K rfl) ⟨_, rfl, rfl, ((M).pick [] (by decide))⟩
  have h := cfalse hb h
  refine wp_skip (then_n (wp_seq (wp_seq (X_reg ?_))))
  refine X_r K (rd_field rfl fld42_3 K rfl) M ?_; clear K
  refine Y_r (fun _ K => rd_ldC rfl sc37 K rfl (inM 1 rfl) rfl) M ?_
  refine Y_r (fun _ K => rd_field rfl fld45_0 K rfl) M ?_
  refine Y_r (fun _ K => rd_ldC rfl sc3 K rfl (inM 0 rfl) rfl) M ?_
  refine Y_r (fun _ K => rd_field rfl fld45_1 K rfl) M ?_
  refine Y_r (fun _ K => rd_ldC rfl sc3 K rfl (inM 0 rfl) rfl) M ?_; intro a K
  obtain ⟨r4, h_r4, h⟩ := obind h
  refine X_a K (ac_call (vs := [.slice And nd.length cnd, I p_W, I p_H]) (cap := []) rfl fok40 K rfl rfl (W_darkslideref_spotsIn N nd And cnd p_W p_H _ ((inA Rnd) _ M) Cnd r4 h_r4)) ?_
  have M0 := M; clear K M; rintro _ a w ⟨rfl, M⟩ K
  replace M := M0.call M; clear M0
  refine X_o K M ?_; clear K; intro a K
  refine wpList_nil (then_n ?_)
  refine X_cond K rfl (fun hb => ?_) (fun hb => ?_)
  · have h := ctrue hb h
    refine wp_seq (X_reg ?_)
    refine X_o K M ?_; clear K; intro a K
    refine wpList_nil (then_n (wp_ret (then_r ?_)))
    cases h
    exact ret1 K rfl (res_tmp K rfl) ⟨_, rfl, rfl, ((M).pick [] (by decide))⟩
  have h := cfalse hb h
  refine wp_skip (then_n (wp_seq (X_reg ?_)))
  refine X_o K M ?_; clear K; intro a K
  refine wpList_nil (then_n (wp_ret ?_))
  cases h
  exact ret1 K rfl (res_tmp K rfl) ⟨_, rfl, rfl, ((M).pick [] (by decide))⟩
end Go.Proofs.Ytpmnfhifmmfglab

namespace Go.Proofs.Ytpmnfhifmmfglab
open Go.RowKit
set_option maxRecDepth 100000 in
set_option maxHeartbeats 4000000 in
theorem W_darkslideref_OnCurve (N : Nat) (l2 : List (Int × Int)) (A_l2 : Option Addr) (c_l2 : Nat) (x2 : Int) (w0 : World) (R_l2 : SL w0 cII A_l2 l2) (C_l2 : l2.length ≤ c_l2) (r : Int) (h : D_darkslideref_OnCurve N l2 x2 = some r) :
    Calls Try.prog 65 #[.slice A_l2 l2.length c_l2, I x2] w0 fun e w' => ∃ v, e = .returned v ∧ v = I r ∧ Mem w0.heap.size w0 w' [] := by
  refine X_enter Try.func65 rfl Try.ntmps65 rfl ?_
  intro a K
  have M := Mem.start w0
  have K : Kn a 45 [(0, .slice A_l2 l2.length c_l2), (1, I x2)] := K
  unfold D_darkslideref_OnCurve at h
  refine wp_seq (X_reg ?_)
  refine X_o K M ?_; clear K; intro a K
  refine wpList_nil (then_n (wp_seq (X_reg ?_)))
  refine X_o K M ?_; clear K; intro a K
  refine wpList_nil (then_n (wp_seq (wp_block ?_)))
  refine X_lp (id := 0) (Rel := fun (i : Int) a w => Kn a 45 [(0, .slice A_l2 l2.length c_l2), (1, I x2), (5, I i)] ∧ Mem w0.heap.size w0 w []) h (fun _ _ => rfl) ⟨K.pick [0,1,5], M.pick [] (by decide)⟩ ?_ ?_
  · clear K M h
    rintro i4 a w ⟨K, M⟩ h
    try dsimp only at h
    refine inb_e ?_
    refine then_n (wp_seq ?_)
    refine wp_region_tr (fun w => Mem _ _ w _) [0,0,0,0,0,0,0,0,0,1,1,1,2] 13 [0,1,2,3,4,5,6,7,8,9,10,11,12] (by kernel_rfl) (by kernel_rfl) (by kernel_rfl) rfl M.drew ?_
    replace M := M.drew
    refine R_rd 0 [1,2,3,4,5,6,7,8,9,10,11,12] (by kernel_rfl) rfl K (want_no rfl) rfl rfl (rd_move rfl K rfl) ?_; clear K; intro a K
    refine R_rd 1 [2,3,4,5,6,7,8,9,10,11,12] (by kernel_rfl) rfl K (want_no rfl) rfl rfl (rd_move rfl K rfl) ?_; clear K; intro a K
    refine R_rd 2 [3,4,5,6,7,8,9,10,11,12] (by kernel_rfl) rfl K (want_no rfl) rfl rfl (rd_sub rfl K rfl rfl) ?_; clear K; intro a K
    obtain ⟨e3, h_e3, h⟩ := obind h
    refine R_rd 3 [4,5,6,7,8,9,10,11,12] (by kernel_rfl) rfl K (want_no rfl) rfl rfl (rd_ix rfl sl40 K rfl rfl (inA R_l2) h_e3) ?_; clear K; intro a K
    refine R_rd 4 [5,6,7,8,9,10,11,12] (by kernel_rfl) rfl K (want_no rfl) rfl rfl (rd_elA rfl ty70 K rfl rfl rfl (inA R_l2) h_e3) ?_; clear K; intro a K
    refine R_rd 5 [6,7,8,9,10,11,12] (by kernel_rfl) rfl K (want_no rfl) rfl rfl (rd_move rfl K rfl) ?_; clear K; intro a K
    refine R_rd 6 [7,8,9,10,11,12] (by kernel_rfl) rfl K (want_no rfl) rfl rfl (rd_move rfl K rfl) ?_; clear K; intro a K
    obtain ⟨e4, h_e4, h⟩ := obind h
    refine R_rd 7 [8,9,10,11,12] (by kernel_rfl) rfl K (want_no rfl) rfl rfl (rd_ix rfl sl40 K rfl rfl (inA R_l2) h_e4) ?_; clear K; intro a K
    refine R_rd 8 [9,10,11,12] (by kernel_rfl) rfl K (want_no rfl) rfl rfl (rd_elA rfl ty70 K rfl rfl rfl (inA R_l2) h_e4) ?_; clear K; intro a K
    refine R_br [9,10] (by kernel_rfl) ⟨?_, ?_, trivial⟩
    ·
      refine R_ac [10,11,12] (by kernel_rfl) rfl K (want_no rfl) rfl rfl (ac_alloc rfl z70 M) ?_
      clear K M; rintro _ a w ⟨g_a, rfl, M⟩ K
      refine ⟨fun _ => M.pick [] (by decide), ?_⟩
      refine R_br [10] (by kernel_rfl) ⟨?_, trivial⟩
      refine R_ac [11,12] (by kernel_rfl) rfl K (want_no rfl) rfl rfl (ac_alloc rfl z70 M) ?_
      clear K M; rintro _ a w ⟨g_b, rfl, M⟩ K
      refine ⟨fun _ => M.pick [] (by decide), ?_⟩
      refine R_br [11] (by kernel_rfl) ⟨?_, trivial⟩
      refine R_a0 [12] (by kernel_rfl) rfl K (want_no rfl) rfl (ac_storeA rfl ty70 K rfl (ds := [I e3.1, I e3.2]) rfl rfl 1 M rfl rfl rfl) ?_
      clear K M; rintro _ a w M K
      refine ⟨fun _ => M.pick [] (by decide), ?_⟩
      refine R_br [12] (by kernel_rfl) ⟨?_, trivial⟩
      refine R_a0 [] (by kernel_rfl) rfl K (want_no rfl) rfl (ac_storeA rfl ty70 K rfl (ds := [I e4.1, I e4.2]) rfl rfl 0 M rfl rfl rfl) ?_
      clear K M; rintro _ a w M K
      refine ⟨fun h => absurd h (by decide), ?_⟩
      refine R_end ?_
      refine then_n (wp_seq ?_)
      refine wp_region_tl (fun w => Mem _ _ w _) [0,0,0,0,0,0,0,0,0,0,0,0,0,0,0,0,0,0,0,0] (by kernel_rfl) (by kernel_rfl) M.drew ?_
      replace M := M.drew
      refine T_r K (rd_field rfl fld70_1 K rfl) ?_; clear K
      refine U_r (fun _ K => rd_ldC rfl sc3 K rfl (inM 1 rfl) rfl) ?_
      refine U_r (fun _ K => rd_field rfl fld70_1 K rfl) ?_
      refine U_r (fun _ K => rd_ldC rfl sc3 K rfl (inM 0 rfl) rfl) ?_
      refine U_r (fun _ K => rd_field rfl fld70_1 K rfl) ?_
      refine U_r (fun _ K => rd_ldC rfl sc3 K rfl (inM 1 rfl) rfl) ?_
      iterate 2 (refine U_o ?_)
      refine U_r (fun _ K => rd_field rfl fld70_0 K rfl) ?_
      refine U_r (fun _ K => rd_ldC rfl sc3 K rfl (inM 1 rfl) rfl) ?_
      iterate 2 (refine U_o ?_)
      refine U_r (fun _ K => rd_field rfl fld70_0 K rfl) ?_
      refine U_r (fun _ K => rd_ldC rfl sc3 K rfl (inM 0 rfl) rfl) ?_
      refine U_r (fun _ K => rd_field rfl fld70_0 K rfl) ?_
      refine U_r (fun _ K => rd_ldC rfl sc3 K rfl (inM 1 rfl) rfl) ?_
      refine U_o ?_; intro a K
      obtain ⟨_, h0, h⟩ := obind h
      have h0 := nz_spec h0
      refine T_r K (rd_quo rfl K rfl rfl h0) ?_; clear K
      obtain ⟨x3, hx, h⟩ := olet h
      refine U_r (fun _ K => rdi hx (rd_add rfl K rfl rfl)) ?_
      refine U_o ?_; intro a K
      refine T_end ?_
      refine then_n (wp_ret ?_)
      cases h
      exact ret1 K rfl (res_tmp K rfl) ⟨_, rfl, rfl, ((M).pick [] (by decide))⟩
    ·
      refine R_ac [9,11,12] (by kernel_rfl) rfl K (want_no rfl) rfl rfl (ac_alloc rfl z70 M) ?_
      clear K M; rintro _ a w ⟨g_b2, rfl, M⟩ K
      refine ⟨fun _ => M.pick [] (by decide), ?_⟩
      refine R_br [9] (by kernel_rfl) ⟨?_, trivial⟩
      refine R_ac [11,12] (by kernel_rfl) rfl K (want_no rfl) rfl rfl (ac_alloc rfl z70 M) ?_
      clear K M; rintro _ a w ⟨g_a2, rfl, M⟩ K
      refine ⟨fun _ => M.pick [] (by decide), ?_⟩
      refine R_br [11] (by kernel_rfl) ⟨?_, trivial⟩
      refine R_a0 [12] (by kernel_rfl) rfl K (want_no rfl) rfl (ac_storeA rfl ty70 K rfl (ds := [I e3.1, I e3.2]) rfl rfl 0 M rfl rfl rfl) ?_
      clear K M; rintro _ a w M K
      refine ⟨fun _ => M.pick [] (by decide), ?_⟩
      refine R_br [12] (by kernel_rfl) ⟨?_, trivial⟩
      refine R_a0 [] (by kernel_rfl) rfl K (want_no rfl) rfl (ac_storeA rfl ty70 K rfl (ds := [I e4.1, I e4.2]) rfl rfl 1 M rfl rfl rfl) ?_
      clear K M; rintro _ a w M K
      refine ⟨fun h => absurd h (by decide), ?_⟩
      refine R_end ?_
      refine then_n (wp_seq ?_)
      refine wp_region_tl (fun w => Mem _ _ w _) [0,0,0,0,0,0,0,0,0,0,0,0,0,0,0,0,0,0,0,0] (by kernel_rfl) (by kernel_rfl) M.drew ?_
      replace M := M.drew
      refine T_r K (rd_field rfl fld70_1 K rfl) ?_; clear K
      refine U_r (fun _ K => rd_ldC rfl sc3 K rfl (inM 0 rfl) rfl) ?_
      refine U_r (fun _ K => rd_field rfl fld70_1 K rfl) ?_
      refine U_r (fun _ K => rd_ldC rfl sc3 K rfl (inM 1 rfl) rfl) ?_
      refine U_r (fun _ K => rd_field rfl fld70_1 K rfl) ?_
      refine U_r (fun _ K => rd_ldC rfl sc3 K rfl (inM 0 rfl) rfl) ?_
      iterate 2 (refine U_o ?_)
      refine U_r (fun _ K => rd_field rfl fld70_0 K rfl) ?_
      refine U_r (fun _ K => rd_ldC rfl sc3 K rfl (inM 0 rfl) rfl) ?_
      iterate 2 (refine U_o ?_)
      refine U_r (fun _ K => rd_field rfl fld70_0 K rfl) ?_
      refine U_r (fun _ K => rd_ldC rfl sc3 K rfl (inM 1 rfl) rfl) ?_
      refine U_r (fun _ K => rd_field rfl fld70_0 K rfl) ?_
      refine U_r (fun _ K => rd_ldC rfl sc3 K rfl (inM 0 rfl) rfl) ?_
      refine U_o ?_; intro a K
      obtain ⟨_, h0, h⟩ := obind h
      have h0 := nz_spec h0
      refine T_r K (rd_quo rfl K rfl rfl h0) ?_; clear K
      obtain ⟨x4, hx, h⟩ := olet h
      refine U_r (fun _ K => rdi hx (rd_add rfl K rfl rfl)) ?_
      refine U_o ?_; intro a K
      refine T_end ?_
      refine then_n (wp_ret ?_)
      cases h
      exact ret1 K rfl (res_tmp K rfl) ⟨_, rfl, rfl, ((M).pick [] (by decide))⟩
  clear K M h
  rintro kk fuel i a w hk1 ⟨K, M⟩ h
  unfold D_darkslideref_OnCurve_l1 at h
  refine wp_seq (wp_seq (X_reg ?_))
  refine X_o K M ?_; clear K
  refine Y_o M ?_
  obtain ⟨e2, h_e2, h⟩ := obind h
  refine Y_r (fun _ K => rd_ix rfl sl40 K rfl rfl (inA R_l2) h_e2) M ?_
  refine Y_r (fun _ K => rd_field rfl fld70_0 K rfl) M ?_
  refine Y_r (fun _ K => rd_elF rfl sc3 K rfl rfl (inA R_l2) h_e2 rfl) M ?_
  iterate 2 (refine Y_o M ?_)
  intro a K
  refine wpList_nil (then_n ?_)
  refine X_cond K rfl (fun hb => ?_) (fun hb => ?_)
  · have h := ctrue hb h
    refine wp_skip (then_n (wp_block (X_reg ?_)))
    refine X_o K M ?_; clear K
    refine Y_o M ?_
    obtain ⟨i3, hx, h⟩ := olet h
    refine Y_r (fun _ K => rdi hx (rd_assign rfl K rfl)) M ?_; intro a K
    refine wpList_nil (inb_n ?_)
    exact then_n ⟨i3, ⟨K.pick [0,1,5], M.pick [] (by decide)⟩, h⟩
  have h := cfalse hb h
  refine wp_exit ?_
  refine then_e ?_
  exact then_e (hk1 i _ _ ⟨K.pick [0,1,5], M.pick [] (by decide)⟩ h)
end Go.Proofs.Ytpmnfhifmmfglab

namespace Go.Proofs.Ytpmnfhifmmfglab
open Go.RowKit
set_option maxRecDepth 100000 in
set_option maxHeartbeats 4000000 in
theorem W_darkslideref_Bent (N : Nat) (q_W : Int) (q_H : Int) (q_P : List (Int × Int × Int)) (A_q_P : Option Addr) (c_q_P : Nat) (l2 : List (Int × Int)) (A_l2 : Option Addr) (c_l2 : Nat) (w0 : World) (R_q_P : SL w0 cIII A_q_P q_P) (C_q_P : q_P.length ≤ c_q_P) (R_l2 : SL w0 cII A_l2 l2) (C_l2 : l2.length ≤ c_l2) (r : Int × Int × List (Int × Int × Int)) (h : D_darkslideref_Bent N q_W q_H q_P l2 = some r) :
    Calls Try.prog 44 #[.agg #[I q_W, I q_H, .slice A_q_P q_P.length c_q_P], .slice A_l2 l2.length c_l2] w0 fun e w' => ∃ v, e = .returned v ∧ ∃ A2 c2, v = .agg #[I r.1, I r.2.1, .slice A2 r.2.2.length c2] ∧ Mem w0.heap.size w0 w' [.row 34 3 A2 r.2.2.length c2 (cIII.all r.2.2)] := by
  refine X_enter Try.func44 rfl Try.ntmps44 rfl ?_
  intro a K
  have M := Mem.start w0
  have K : Kn a 44 [(0, .agg #[I q_W, I q_H, .slice A_q_P q_P.length c_q_P]), (1, .slice A_l2 l2.length c_l2)] := K
  unfold D_darkslideref_Bent at h
  refine wp_seq (X_reg ?_)
  refine X_a K (ac_box rfl K rfl (cs := [I q_W, I q_H, .slice A_q_P q_P.length c_q_P]) rfl M) ?_
  clear K M; rintro _ a w ⟨g_q, rfl, M⟩ K
  refine X_a K (ac_alloc rfl z24 M) ?_
  clear K M; rintro _ a w ⟨g_x, rfl, M⟩ K
  refine wpList_nil (then_n (wp_seq (X_reg ?_)))
  refine X_r K (rd_field rfl fld24_0 K rfl) M ?_; clear K
  refine Y_r (fun _ K => rd_ldC rfl sc3 K rfl (inM 1 rfl) rfl) M ?_
  refine Y_r (fun _ K => rd_field rfl fld24_1 K rfl) M ?_
  refine Y_r (fun _ K => rd_ldC rfl sc3 K rfl (inM 1 rfl) rfl) M ?_
  refine Y_r (fun _ K => rd_build rfl K (vs := [(0, I q_W), (1, I q_H)]) (cs := [I q_W, I q_H, .slice none (([] : List (Int × Int × Int))).length 0]) rfl (by kernel_rfl)) M ?_; intro a K
  refine X_a K (ac_alloc rfl z24 M) ?_
  clear K M; rintro _ a w ⟨g_out, rfl, M⟩ K
  refine X_b K (ac_storeA rfl ty24 K rfl (ds := [I q_W, I q_H, .slice none (([] : List (Int × Int × Int))).length 0]) rfl rfl 0 M rfl rfl rfl) ?_
  clear K M; rintro _ a w M K
  refine wpList_nil (then_n (wp_seq (wp_seq (X_reg ?_))))
  refine X_o K M ?_; clear K; intro a K
  refine wpList_nil (then_n (wp_block ?_))
  replace M := Mem.nilrow 34 3 cIII M
  refine X_lp (id := 0) (Rel := fun (⟨out_P, i⟩ : List (Int × Int × Int) × Int) a w => ∃ (A : Option Addr) (c : Nat), Kn a 44 [(1, .slice A_l2 l2.length c_l2), (2, .pointer (some ⟨g_q, 0, none⟩)), (4, .pointer (some ⟨g_x, 0, none⟩)), (5, .pointer (some ⟨g_out, 0, none⟩)), (6, I i)] ∧ Mem w0.heap.size w0 w [.row 34 3 A out_P.length c (cIII.all out_P), .blk g_out 24 [I q_W, I q_H, .slice A out_P.length c], .blk g_x 24 [I 0, I 0, .slice none (([] : List (Int × Int × Int))).length 0], .blk g_q 24 [I q_W, I q_H, .slice A_q_P q_P.length c_q_P]]) h (fun _ _ => rfl) ⟨none, 0, K.pick [1,2,4,5,6], M.pick [0,1,2,3] (by decide)⟩ ?_ ?_
  · clear K M h
    rintro ⟨out_P4, i4⟩ a w ⟨A4, c4, K, M⟩ h
    try dsimp only at h
    refine inb_e ?_
    refine then_n (wp_seq (X_reg ?_))
    refine X_r K (rd_ldA rfl ty24 K rfl (inM 1 rfl) rfl rfl) M ?_; clear K; intro a K
    refine X_b K (ac_storeA rfl ty24 K rfl (ds := [I q_W, I q_H, .slice A4 out_P4.length c4]) rfl rfl 2 M rfl rfl rfl) ?_
    clear K M; rintro _ a w M K
    refine wpList_nil (then_n (wp_ret ?_))
    cases h
    exact ret1 K rfl (res_cellA K rfl ty24 (M.blkAt (i := 2) rfl) rfl) ⟨_, rfl, _, _, rfl, ((M).pick [0] (by decide))⟩
  clear K M h
  rintro kk fuel ⟨out_P, i⟩ a w hk1 ⟨A, c, K, M⟩ h
  unfold D_darkslideref_Bent_l1 at h
  refine wp_seq (wp_seq (X_reg ?_))
  refine X_o K M ?_; clear K
  refine Y_r (fun _ K => rd_field rfl fld24_2 K rfl) M ?_
  refine Y_r (fun _ K => rd_ldC rfl sc22 K rfl (inM 3 rfl) rfl) M ?_
  refine Y_r (fun _ K => rd_len rfl un22 K rfl) M ?_
  refine Y_o M ?_; intro a K
  refine wpList_nil (then_n ?_)
  refine X_cond K rfl (fun hb => ?_) (fun hb => ?_)
  · have h := ctrue hb h
    refine wp_skip (then_n (wp_seq (wp_block (wp_seq (X_reg ?_)))))
    refine X_r K (rd_field rfl fld24_2 K rfl) M ?_; clear K
    refine Y_r (fun _ K => rd_ldC rfl sc22 K rfl (inM 3 rfl) rfl) M ?_
    refine Y_o M ?_
    obtain ⟨e2, h_e2, h⟩ := obind h
    refine Y_r (fun _ K => rd_ix rfl sl22 K rfl rfl (inA R_q_P) h_e2) M ?_
    refine Y_r (fun _ K => rd_elA rfl ty34 K rfl rfl rfl (inA R_q_P) h_e2) M ?_; intro a K
    refine X_a K (ac_alloc rfl z34 M) ?_
    clear K M; rintro _ a w ⟨g_c2, rfl, M⟩ K
    refine X_b K (ac_storeA rfl ty34 K rfl (ds := [I e2.1, I e2.2.1, I e2.2.2]) rfl rfl 0 M rfl rfl rfl) ?_
    clear K M; rintro _ a w M K
    refine wpList_nil (then_n ?_)
    refine wp_region_tl (fun w => Mem _ _ w _) [0,0,0,0,0,1,0,0,0,1,0,0,0,1,1,1,1,0,2] (by kernel_rfl) (by kernel_rfl) (M.pick [0,2,3,4] (by decide)).drew ?_
    replace M := M.drew
    refine T_r K (rd_field rfl fld24_2 K rfl) ?_; clear K
    refine U_r (fun _ K => rd_ldC rfl sc22 K rfl (inM 1 rfl) rfl) ?_
    refine U_o ?_
    refine U_r (fun _ K => rd_field rfl fld34_0 K rfl) ?_
    refine U_r (fun _ K => rd_ldC rfl sc3 K rfl (inM 0 rfl) rfl) ?_; intro a K
    obtain ⟨r5, h_r5, h⟩ := obind h
    refine T_a K (ac_call (vs := [.slice A_l2 l2.length c_l2, I e2.1]) (cap := []) rfl fok65 K rfl rfl (W_darkslideref_OnCurve N l2 A_l2 c_l2 e2.1 _ ((inA R_l2) _ M) C_l2 r5 h_r5)) ?_
    have M0 := M; clear K M; rintro _ a w ⟨rfl, M⟩ K
    replace M := M0.call M; clear M0
    refine ⟨M.pick [0,2,3,4] (by decide), ?_⟩
    refine T_o K ?_; clear K
    refine U_r (fun _ K => rd_field rfl fld34_1 K rfl) ?_
    refine U_r (fun _ K => rd_ldC rfl sc3 K rfl (inM 0 rfl) rfl) ?_; intro a K
    obtain ⟨r6, h_r6, h⟩ := obind h
    refine T_a K (ac_call (vs := [.slice A_l2 l2.length c_l2, I e2.2.1]) (cap := []) rfl fok65 K rfl rfl (W_darkslideref_OnCurve N l2 A_l2 c_l2 e2.2.1 _ ((inA R_l2) _ M) C_l2 r6 h_r6)) ?_
    have M0 := M; clear K M; rintro _ a w ⟨rfl, M⟩ K
    replace M := M0.call M; clear M0
    refine ⟨M.pick [0,2,3,4] (by decide), ?_⟩
    refine T_o K ?_; clear K
    refine U_r (fun _ K => rd_field rfl fld34_2 K rfl) ?_
    refine U_r (fun _ K => rd_ldC rfl sc3 K rfl (inM 0 rfl) rfl) ?_; intro a K
    obtain ⟨r7, h_r7, h⟩ := obind h
    refine T_a K (ac_call (vs := [.slice A_l2 l2.length c_l2, I e2.2.2]) (cap := []) rfl fok65 K rfl rfl (W_darkslideref_OnCurve N l2 A_l2 c_l2 e2.2.2 _ ((inA R_l2) _ M) C_l2 r7 h_r7)) ?_
    have M0 := M; clear K M; rintro _ a w ⟨rfl, M⟩ K
    replace M := M0.call M; clear M0
    refine ⟨M.pick [0,2,3,4] (by decide), ?_⟩
    refine T_rd1 K (want_no rfl) rfl rfl (rd_build rfl K (vs := [(0, I r5), (1, I r6), (2, I r7)]) (cs := [I r5, I r6, I r7]) rfl (by kernel_rfl)) M (M.pick [0,2,3,4] (by decide)) ?_; clear K; intro a K
    refine T_a K (ac_bslice rfl sl22 z34 K (vs := [(0, .agg #[I r5, I r6, I r7])]) (cs := [I r5, I r6, I r7]) rfl (by kernel_rfl) rfl rfl M) ?_
    have M0 := M; clear K M; rintro _ a w ⟨gs2, rfl, M⟩ K
    replace M := M.asRow 0 rfl cIII ([(r5, r6, r7)] : List (Int × Int × Int)) (n := 1) rfl rfl rfl
    clear M0
    refine ⟨M.pick [1,3,4,5] (by decide), ?_⟩
    obtain ⟨out_P3, h_out_P3, h⟩ := obind h
    refine T_a K (ac_app (C := cIII) (xs := out_P) (ys := ([(r5, r6, r7)] : List (Int × Int × Int))) rfl sl22 rfl z34 rfl rfl K rfl rfl 2 M rfl ((inR (C := cIII) 0 rfl rfl) _ M) h_out_P3) ?_
    clear K M; rintro _ a w ⟨A3, c3, rfl, M⟩ K
    refine ⟨M.pick [1,3,4,5] (by decide), ?_⟩
    refine T_r K (rd_field rfl fld24_2 K rfl) ?_; clear K; intro a K
    refine T_b K (ac_storeC rfl sc22 K rfl rfl rfl 3 M rfl rfl) ?_
    clear K M; rintro _ a w M K
    refine T_end ?_
    refine inb_n (then_n (X_reg ?_))
    refine X_o K M ?_; clear K
    refine Y_o M ?_
    obtain ⟨i3, hx, h⟩ := olet h
    refine Y_r (fun _ K => rdi hx (rd_assign rfl K rfl)) M ?_; intro a K
    refine wpList_nil ?_
    exact then_n ⟨(out_P3, i3), ⟨A3, c3, K.pick [1,2,4,5,6], M.pick [2,3,4,5] (by decide)⟩, h⟩
  have h := cfalse hb h
  refine wp_exit ?_
  refine then_e ?_
  exact then_e (hk1 (out_P, i) _ _ ⟨A, c, K.pick [1,2,4,5,6], M.pick [0,1,2,3] (by decide)⟩ h)
end Go.Proofs.Ytpmnfhifmmfglab

namespace Go.Proofs.Ytpmnfhifmmfglab
open Go.RowKit
set_option maxRecDepth 100000 in
set_option maxHeartbeats 4000000 in
theorem W_darkslideref_At (N : Nat) (p_W : Int) (p_H : Int) (p_P : List Int) (A_p_P : Option Addr) (c_p_P : Nat) (x2 : Int) (y : Int) (w0 : World) (R_p_P : SL w0 (cI .i64) A_p_P p_P) (C_p_P : p_P.length ≤ c_p_P) (r : Int) (h : D_darkslideref_At N p_W p_H p_P x2 y = some r) :
    Calls Try.prog 64 #[.agg #[I p_W, I p_H, .slice A_p_P p_P.length c_p_P], I x2, I y] w0 fun e w' => ∃ v, e = .returned v ∧ v = I r ∧ Mem w0.heap.size w0 w' [] := by
  refine X_enter Try.func64 rfl Try.ntmps64 rfl ?_
  intro a K
  have M := Mem.start w0
  have K : Kn a 17 [(0, .agg #[I p_W, I p_H, .slice A_p_P p_P.length c_p_P]), (1, I x2), (2, I y)] := K
  unfold D_darkslideref_At at h
  refine wp_seq (X_reg ?_)
  refine X_a K (ac_box rfl K rfl (cs := [I p_W, I p_H, .slice A_p_P p_P.length c_p_P]) rfl M) ?_
  clear K M; rintro _ a w ⟨g_p, rfl, M⟩ K
  refine X_o K M ?_; clear K; intro a K
  refine wpList_nil (then_n (wp_seq (X_reg ?_)))
  refine X_r K (rd_field rfl fld45_2 K rfl) M ?_; clear K
  refine Y_r (fun _ K => rd_ldC rfl sc43 K rfl (inM 0 rfl) rfl) M ?_
  refine Y_o M ?_
  refine Y_r (fun _ K => rd_field rfl fld45_0 K rfl) M ?_
  refine Y_r (fun _ K => rd_ldC rfl sc3 K rfl (inM 0 rfl) rfl) M ?_
  iterate 3 (refine Y_o M ?_)
  obtain ⟨e, h_e, h⟩ := obind h
  refine Y_r (fun _ K => rd_ix rfl sl43 K rfl rfl (inA R_p_P) h_e) M ?_
  refine Y_r (fun _ K => rd_elC rfl sc3 K rfl rfl (inA R_p_P) h_e rfl) M ?_
  refine Y_o M ?_; intro a K
  refine wpList_nil (then_n (wp_ret ?_))
  cases h
  exact ret1 K rfl (res_tmp K rfl) ⟨_, rfl, rfl, ((M).pick [] (by decide))⟩
end Go.Proofs.Ytpmnfhifmmfglab

namespace Go.Proofs.Ytpmnfhifmmfglab
open Go.RowKit
set_option maxRecDepth 100000 in
set_option maxHeartbeats 4000000 in
theorem W_darkslideref_ColourAt (N : Nat) (phase : Int) (x2 : Int) (y : Int) (w0 : World)  (r : Int) (h : D_darkslideref_ColourAt N phase x2 y = some r) :
    Calls Try.prog 62 #[I phase, I x2, I y] w0 fun e w' => ∃ v, e = .returned v ∧ v = I r ∧ Mem w0.heap.size w0 w' [] := by
  refine X_enter Try.func62 rfl Try.ntmps62 rfl ?_
  intro a K
  have M := Mem.start w0
  have K : Kn a 33 [(0, I phase), (1, I x2), (2, I y)] := K
  unfold D_darkslideref_ColourAt at h
  refine wp_seq (X_reg ?_)
  refine X_o K M ?_; clear K; intro a K
  refine wpList_nil (then_n (wp_seq (X_reg ?_)))
  refine X_o K M ?_; clear K
  refine Y_o M ?_
  refine Y_r (fun _ K => rd_rem rfl K rfl rfl (by decide)) M ?_
  refine Y_o M ?_
  refine Y_r (fun _ K => rd_rem rfl K rfl rfl (by decide)) M ?_
  iterate 2 (refine Y_o M ?_)
  refine Y_r (fun _ K => rd_quo rfl K rfl rfl (by decide)) M ?_
  refine Y_o M ?_
  refine Y_r (fun _ K => rd_rem rfl K rfl rfl (by decide)) M ?_
  obtain ⟨a2, hx, h⟩ := olet h
  refine Y_r (fun _ K => rdi hx (rd_assign rfl K rfl)) M ?_
  obtain ⟨b, hx, h⟩ := olet h
  refine Y_r (fun _ K => rdi hx (rd_assign rfl K rfl)) M ?_; intro a K
  refine wpList_nil (then_n (wp_seq (wp_block (wp_seq (X_reg ?_)))))
  refine X_o K M ?_; clear K
  iterate 2 (refine Y_o M ?_)
  intro a K
  rcases Bool.eq_false_or_eq_true (decide (a2 = 0)) with hb | hb
  · have h := ctrue hb h
    have K := K.reb (s := 22) rfl hb
    refine X_o K M ?_; clear K
    iterate 3 (refine Y_o M ?_)
    intro a K
    refine wpList_nil (then_n ?_)
    refine X_cond K rfl (fun hb => ?_) (fun hb => ?_)
    · have h := ctrue hb h
      refine wp_seq (X_reg ?_)
      refine X_o K M ?_; clear K; intro a K
      refine wpList_nil (then_n (wp_ret (inb_r (then_r ?_))))
      cases h
      exact ret1 K rfl (res_tmp K rfl) ⟨_, rfl, rfl, ((M).pick [] (by decide))⟩
    have h := cfalse hb h
    refine wp_seq (X_reg ?_)
    refine X_o K M ?_; clear K
    iterate 2 (refine Y_o M ?_)
    intro a K
    rcases Bool.eq_false_or_eq_true (decide (a2 = 1)) with hb | hb
    · have h := ctrue hb h
      have K := K.reb (s := 29) rfl hb
      refine X_o K M ?_; clear K
      iterate 3 (refine Y_o M ?_)
      intro a K
      refine wpList_nil (then_n ?_)
      refine X_cond K rfl (fun hb => ?_) (fun hb => ?_)
      · have h := ctrue hb h
        refine wp_seq (X_reg ?_)
        refine X_o K M ?_; clear K; intro a K
        refine wpList_nil (then_n (wp_ret (inb_r (then_r ?_))))
        cases h
        exact ret1 K rfl (res_tmp K rfl) ⟨_, rfl, rfl, ((M).pick [] (by decide))⟩
      have h := cfalse hb h
      refine wp_skip (inb_n (then_n (wp_seq (X_reg ?_))))
      refine X_o K M ?_; clear K; intro a K
      refine wpList_nil (then_n (wp_ret ?_))
      cases h
      exact ret1 K rfl (res_tmp K rfl) ⟨_, rfl, rfl, ((M).pick [] (by decide))⟩
    have h := cfalse hb h
    have K := K.reb (s := 29) rfl hb
    refine X_o K M ?_; clear K
    iterate 3 (refine Y_o M ?_)
    intro a K
    refine wpList_nil (then_n ?_)
    refine X_condF K rfl ?_
    refine wp_skip (inb_n (then_n (wp_seq (X_reg ?_))))
    refine X_o K M ?_; clear K; intro a K
    refine wpList_nil (then_n (wp_ret ?_))
    cases h
    exact ret1 K rfl (res_tmp K rfl) ⟨_, rfl, rfl, ((M).pick [] (by decide))⟩
  have h := cfalse hb h
  have K := K.reb (s := 22) rfl hb
  refine X_o K M ?_; clear K
  iterate 3 (refine Y_o M ?_)
  intro a K
  refine wpList_nil (then_n ?_)
  refine X_condF K rfl ?_
  refine wp_seq (X_reg ?_)
  refine X_o K M ?_; clear K
  iterate 2 (refine Y_o M ?_)
  intro a K
  rcases Bool.eq_false_or_eq_true (decide (a2 = 1)) with hb | hb
  · have h := ctrue hb h
    have K := K.reb (s := 29) rfl hb
    refine X_o K M ?_; clear K
    iterate 3 (refine Y_o M ?_)
    intro a K
    refine wpList_nil (then_n ?_)
    refine X_cond K rfl (fun hb => ?_) (fun hb => ?_)
    · have h := ctrue hb h
      refine wp_seq (X_reg ?_)
      refine X_o K M ?_; clear K; intro a K
      refine wpList_nil (then_n (wp_ret (inb_r (then_r ?_))))
      cases h
      exact ret1 K rfl (res_tmp K rfl) ⟨_, rfl, rfl, ((M).pick [] (by decide))⟩
    have h := cfalse hb h
    refine wp_skip (inb_n (then_n (wp_seq (X_reg ?_))))
    refine X_o K M ?_; clear K; intro a K
    refine wpList_nil (then_n (wp_ret ?_))
    cases h
    exact ret1 K rfl (res_tmp K rfl) ⟨_, rfl, rfl, ((M).pick [] (by decide))⟩
  have h := cfalse hb h
  have K := K.reb (s := 29) rfl hb
  refine X_o K M ?_; clear K
  iterate 3 (refine Y_o M ?_)
  intro a K
  refine wpList_nil (then_n ?_)
  refine X_condF K rfl ?_
  refine wp_skip (inb_n (then_n (wp_seq (X_reg ?_))))
  refine X_o K M ?_; clear K; intro a K
  refine wpList_nil (then_n (wp_ret ?_))
  cases h
  exact ret1 K rfl (res_tmp K rfl) ⟨_, rfl, rfl, ((M).pick [] (by decide))⟩
end Go.Proofs.Ytpmnfhifmmfglab

namespace Go.Proofs.Ytpmnfhifmmfglab
open Go.RowKit
set_option maxRecDepth 100000 in
set_option maxHeartbeats 4000000 in
theorem W_darkslideref_pixel (N : Nat) (l0 : Int) (l1 : Int) (l2 : Int) (w0 : World)  (r : Int × Int × Int) (h : D_darkslideref_pixel N l0 l1 l2 = some r) :
    Calls Try.prog 34 #[.agg #[I l0, I l1, I l2]] w0 fun e w' => ∃ v, e = .returned v ∧ v = .agg #[I r.1, I r.2.1, I r.2.2] ∧ Mem w0.heap.size w0 w' [] := by
  refine X_enter Try.func34 rfl Try.ntmps34 rfl ?_
  intro a K
  have M := Mem.start w0
  have K : Kn a 10 [(0, .agg #[I l0, I l1, I l2])] := K
  unfold D_darkslideref_pixel at h
  refine wp_seq (X_reg ?_)
  refine X_a K (ac_box rfl K rfl (cs := [I l0, I l1, I l2]) rfl M) ?_
  clear K M; rintro _ a w ⟨g_l, rfl, M⟩ K
  refine X_a K (ac_alloc rfl z34 M) ?_
  clear K M; rintro _ a w ⟨g_x, rfl, M⟩ K
  refine wpList_nil (then_n (wp_seq (X_reg ?_)))
  refine X_r K (rd_ixA rfl ar38 sz3 K rfl rfl (by decide) (by decide)) M ?_; clear K
  refine Y_r (fun _ K => rd_ldC rfl sc3 K rfl (inM 1 rfl) rfl) M ?_
  refine Y_r (fun _ K => rd_ixA rfl ar38 sz3 K rfl rfl (by decide) (by decide)) M ?_
  refine Y_r (fun _ K => rd_ldC rfl sc3 K rfl (inM 1 rfl) rfl) M ?_
  refine Y_r (fun _ K => rd_ixA rfl ar38 sz3 K rfl rfl (by decide) (by decide)) M ?_
  refine Y_r (fun _ K => rd_ldC rfl sc3 K rfl (inM 1 rfl) rfl) M ?_
  refine Y_r (fun _ K => rd_build rfl K (vs := [(0, I l0), (1, I l1), (2, I l2)]) (cs := [I l0, I l1, I l2]) rfl (by kernel_rfl)) M ?_; intro a K
  refine X_b K (ac_storeA rfl ty34 K rfl (ds := [I l0, I l1, I l2]) rfl rfl 0 M rfl rfl rfl) ?_
  clear K M; rintro _ a w M K
  refine wpList_nil (then_n (wp_ret ?_))
  cases h
  exact ret1 K rfl (res_cellA K rfl ty34 (M.blkAt (i := 0) rfl) rfl) ⟨_, rfl, rfl, ((M).pick [] (by decide))⟩
end Go.Proofs.Ytpmnfhifmmfglab

namespace Go.Proofs.Ytpmnfhifmmfglab
open Go.RowKit
set_option maxRecDepth 100000 in
set_option maxHeartbeats 4000000 in
theorem W_darkslideref_Filled (N : Nat) (d_W : Int) (d_H : Int) (d_P : List Int) (A_d_P : Option Addr) (c_d_P : Nat) (o : Int) (w0 : World) (R_d_P : SL w0 (cI .i64) A_d_P d_P) (C_d_P : d_P.length ≤ c_d_P) (r : Int × Int × List (Int × Int × Int)) (h : D_darkslideref_Filled N d_W d_H d_P o = some r) :
    Calls Try.prog 46 #[.agg #[I d_W, I d_H, .slice A_d_P d_P.length c_d_P], I o] w0 fun e w' => ∃ v, e = .returned v ∧ ∃ A2 c2, v = .agg #[I r.1, I r.2.1, .slice A2 r.2.2.length c2] ∧ Mem w0.heap.size w0 w' [.row 34 3 A2 r.2.2.length c2 (cIII.all r.2.2)] := by
  refine X_enter Try.func46 rfl Try.ntmps46 rfl ?_
  intro a K
  have M := Mem.start w0
  have K : Kn a 108 [(0, .agg #[I d_W, I d_H, .slice A_d_P d_P.length c_d_P]), (1, I o)] := K
  unfold D_darkslideref_Filled at h
  refine wp_seq (X_reg ?_)
  refine X_a K (ac_box rfl K rfl (cs := [I d_W, I d_H, .slice A_d_P d_P.length c_d_P]) rfl M) ?_
  clear K M; rintro _ a w ⟨g_x, rfl, M⟩ K
  refine X_a K (ac_alloc rfl z24 M) ?_
  clear K M; rintro _ a w ⟨g_x2, rfl, M⟩ K
  refine wpList_nil (then_n (wp_seq (X_reg ?_)))
  refine X_r K (rd_field rfl fld45_0 K rfl) M ?_; clear K
  refine Y_r (fun _ K => rd_ldC rfl sc3 K rfl (inM 1 rfl) rfl) M ?_
  refine Y_r (fun _ K => rd_field rfl fld45_1 K rfl) M ?_
  refine Y_r (fun _ K => rd_ldC rfl sc3 K rfl (inM 1 rfl) rfl) M ?_
  refine Y_r (fun _ K => rd_build rfl K (vs := [(0, I d_W), (1, I d_H)]) (cs := [I d_W, I d_H, .slice none (([] : List (Int × Int × Int))).length 0]) rfl (by kernel_rfl)) M ?_; intro a K
  refine X_a K (ac_alloc rfl z24 M) ?_
  clear K M; rintro _ a w ⟨g_x3, rfl, M⟩ K
  refine X_b K (ac_storeA rfl ty24 K rfl (ds := [I d_W, I d_H, .slice none (([] : List (Int × Int × Int))).length 0]) rfl rfl 0 M rfl rfl rfl) ?_
  clear K M; rintro _ a w M K
  refine wpList_nil (then_n (wp_seq (wp_seq (X_reg ?_))))
  refine X_o K M ?_; clear K; intro a K
  refine wpList_nil (then_n (wp_block ?_))
  replace M := Mem.nilrow 34 3 cIII M
  refine X_lp (id := 0) (Rel := fun (⟨x_P, i⟩ : List (Int × Int × Int) × Int) a w => ∃ (A : Option Addr) (c : Nat), Kn a 108 [(1, I o), (2, .pointer (some ⟨g_x, 0, none⟩)), (4, .pointer (some ⟨g_x2, 0, none⟩)), (5, .pointer (some ⟨g_x3, 0, none⟩)), (6, I i)] ∧ Mem w0.heap.size w0 w [.row 34 3 A x_P.length c (cIII.all x_P), .blk g_x3 24 [I d_W, I d_H, .slice A x_P.length c], .blk g_x2 24 [I 0, I 0, .slice none (([] : List (Int × Int × Int))).length 0], .blk g_x 45 [I d_W, I d_H, .slice A_d_P d_P.length c_d_P]]) h (fun _ _ => rfl) ⟨none, 0, K.pick [1,2,4,5,6], M.pick [0,1,2,3] (by decide)⟩ ?_ ?_
  · clear K M h
    rintro ⟨x_P14, i18⟩ a w ⟨A14, c14, K, M⟩ h
    try dsimp only at h
    refine inb_e ?_
    refine then_n (wp_seq (X_reg ?_))
    refine X_r K (rd_ldA rfl ty24 K rfl (inM 1 rfl) rfl rfl) M ?_; clear K; intro a K
    refine X_b K (ac_storeA rfl ty24 K rfl (ds := [I d_W, I d_H, .slice A14 x_P14.length c14]) rfl rfl 2 M rfl rfl rfl) ?_
    clear K M; rintro _ a w M K
    refine wpList_nil (then_n (wp_ret ?_))
    cases h
    exact ret1 K rfl (res_cellA K rfl ty24 (M.blkAt (i := 2) rfl) rfl) ⟨_, rfl, _, _, rfl, ((M).pick [0] (by decide))⟩
  clear K M h
  rintro kk fuel ⟨x_P, i⟩ a w hk1 ⟨A, c, K, M⟩ h
  unfold D_darkslideref_Filled_l1 at h
  refine wp_seq (wp_seq (X_reg ?_))
  refine X_o K M ?_; clear K
  refine Y_r (fun _ K => rd_field rfl fld45_1 K rfl) M ?_
  refine Y_r (fun _ K => rd_ldC rfl sc3 K rfl (inM 3 rfl) rfl) M ?_
  refine Y_o M ?_; intro a K
  refine wpList_nil (then_n ?_)
  refine X_cond K rfl (fun hb => ?_) (fun hb => ?_)
  · have h := ctrue hb h
    refine wp_skip (then_n (wp_seq (wp_block (wp_seq (X_reg ?_)))))
    refine X_o K M ?_; clear K; intro a K
    refine wpList_nil (then_n (wp_block ?_))
    refine X_lp (id := 2) (Rel := fun (⟨x_P6, i6⟩ : List (Int × Int × Int) × Int) a w => ∃ (A6 : Option Addr) (c6 : Nat), Kn a 108 [(1, I o), (2, .pointer (some ⟨g_x, 0, none⟩)), (4, .pointer (some ⟨g_x2, 0, none⟩)), (5, .pointer (some ⟨g_x3, 0, none⟩)), (6, I i), (7, I i6)] ∧ Mem w0.heap.size w0 w [.row 34 3 A6 x_P6.length c6 (cIII.all x_P6), .blk g_x3 24 [I d_W, I d_H, .slice A6 x_P6.length c6], .blk g_x2 24 [I 0, I 0, .slice none (([] : List (Int × Int × Int))).length 0], .blk g_x 45 [I d_W, I d_H, .slice A_d_P d_P.length c_d_P]]) h (fun _ _ => rfl) ⟨A, c, K.pick [1,2,4,5,6,7], M.pick [0,1,2,3] (by decide)⟩ ?_ ?_
    · clear K M h
      rintro ⟨x_P13, i17⟩ a w ⟨A13, c13, K, M⟩ h
      try dsimp only at h
      refine inb_e ?_
      refine inb_n (then_n (X_reg ?_))
      refine X_o K M ?_; clear K
      refine Y_o M ?_
      obtain ⟨x62, hx, h⟩ := olet h
      refine Y_r (fun _ K => rdi hx (rd_assign rfl K rfl)) M ?_; intro a K
      refine wpList_nil ?_
      exact then_n ⟨(x_P13, x62), ⟨A13, c13, K.pick [1,2,4,5,6], M.pick [0,1,2,3] (by decide)⟩, h⟩
    clear K M h
    rintro kk fuel ⟨x_P6, i6⟩ a w hk2 ⟨A6, c6, K, M⟩ h
    unfold D_darkslideref_Filled_l2 at h
    refine wp_seq (wp_seq (X_reg ?_))
    refine X_o K M ?_; clear K
    refine Y_r (fun _ K => rd_field rfl fld45_0 K rfl) M ?_
    refine Y_r (fun _ K => rd_ldC rfl sc3 K rfl (inM 3 rfl) rfl) M ?_
    refine Y_o M ?_; intro a K
    refine wpList_nil (then_n ?_)
    refine X_cond K rfl (fun hb => ?_) (fun hb => ?_)
    · have h := ctrue hb h
      refine wp_skip (then_n (wp_seq (wp_block (wp_seq (X_reg ?_)))))
      refine X_a K (ac_alloc rfl z38 M) ?_
      clear K M; rintro _ a w ⟨g_x10, rfl, M⟩ K
      refine X_a K (ac_alloc rfl z38 M) ?_
      clear K M; rintro _ a w ⟨g_x11, rfl, M⟩ K
      refine wpList_nil (then_n (wp_seq (wp_seq (X_reg ?_))))
      refine X_o K M ?_; clear K
      iterate 2 (refine Y_o M ?_)
      obtain ⟨x39, hx, h⟩ := olet h
      refine Y_r (fun _ K => rdi hx (rd_assign rfl K rfl)) M ?_; intro a K
      refine wpList_nil (then_n (wp_block ?_))
      refine X_lp (id := 4) (Rel := fun (⟨x011, x115, x212, x012, x116, x213, i10⟩ : Int × Int × Int × Int × Int × Int × Int) a w => Kn a 108 [(1, I o), (2, .pointer (some ⟨g_x, 0, none⟩)), (4, .pointer (some ⟨g_x2, 0, none⟩)), (5, .pointer (some ⟨g_x3, 0, none⟩)), (6, I i), (7, I i6), (8, .pointer (some ⟨g_x10, 0, none⟩)), (9, .pointer (some ⟨g_x11, 0, none⟩)), (10, I i10)] ∧ Mem w0.heap.size w0 w [.blk g_x11 38 [I x011, I x115, I x212], .blk g_x10 38 [I x012, I x116, I x213], .row 34 3 A6 x_P6.length c6 (cIII.all x_P6), .blk g_x3 24 [I d_W, I d_H, .slice A6 x_P6.length c6], .blk g_x2 24 [I 0, I 0, .slice none (([] : List (Int × Int × Int))).length 0], .blk g_x 45 [I d_W, I d_H, .slice A_d_P d_P.length c_d_P]]) h (fun _ _ => rfl) ⟨K.pick [1,2,4,5,6,7,8,9,10], M.pick [0,1,2,3,4,5] (by decide)⟩ ?_ ?_
      · clear K M h
        rintro ⟨x019, x123, x220, x020, x124, x221, i14⟩ a w ⟨K, M⟩ h
        try dsimp only at h
        refine inb_e ?_
        refine then_n (wp_seq (X_reg ?_))
        refine X_a K (ac_alloc rfl z38 M) ?_
        clear K M; rintro _ a w ⟨g_x12, rfl, M⟩ K
        refine wpList_nil (then_n (wp_seq (wp_seq (X_reg ?_))))
        refine X_o K M ?_; clear K; intro a K
        refine wpList_nil (then_n (wp_block ?_))
        refine X_lp (id := 8) (Rel := fun (⟨x021, x125, x222, i15⟩ : Int × Int × Int × Int) a w => Kn a 108 [(1, I o), (2, .pointer (some ⟨g_x, 0, none⟩)), (4, .pointer (some ⟨g_x2, 0, none⟩)), (5, .pointer (some ⟨g_x3, 0, none⟩)), (6, I i), (7, I i6), (8, .pointer (some ⟨g_x10, 0, none⟩)), (9, .pointer (some ⟨g_x11, 0, none⟩)), (13, .pointer (some ⟨g_x12, 0, none⟩)), (14, I i15)] ∧ Mem w0.heap.size w0 w [.blk g_x12 38 [I x021, I x125, I x222], .blk g_x11 38 [I x019, I x123, I x220], .blk g_x10 38 [I x020, I x124, I x221], .row 34 3 A6 x_P6.length c6 (cIII.all x_P6), .blk g_x3 24 [I d_W, I d_H, .slice A6 x_P6.length c6], .blk g_x2 24 [I 0, I 0, .slice none (([] : List (Int × Int × Int))).length 0], .blk g_x 45 [I d_W, I d_H, .slice A_d_P d_P.length c_d_P]]) h (fun _ _ => rfl) ⟨K.pick [1,2,4,5,6,7,8,9,13,14], M.pick [0,1,2,3,4,5,6] (by decide)⟩ ?_ ?_
        · clear K M h
          rintro ⟨x022, x126, x223, i16⟩ a w ⟨K, M⟩ h
          try dsimp only at h
          refine inb_e ?_
          refine then_n (wp_seq ?_)
          refine wp_region_tl (fun w => Mem _ _ w _) [0,0,0,1,0,0,0,1,0,2] (by kernel_rfl) (by kernel_rfl) M.drew ?_
          replace M := M.drew
          refine T_o K ?_; clear K
          iterate 2 (refine U_o ?_)
          intro a K
          obtain ⟨r32, h_r32, h⟩ := obind h
          refine T_a K (ac_call (vs := [I o, I i6, I i]) (cap := []) rfl fok62 K rfl rfl (W_darkslideref_ColourAt N o i6 i _  r32 h_r32)) ?_
          have M0 := M; clear K M; rintro _ a w ⟨rfl, M⟩ K
          replace M := M0.call M; clear M0
          refine ⟨M.pick [0,1,2,3,4,5,6] (by decide), ?_⟩
          refine T_r K (rd_ldA rfl ty45 K rfl (inM 6 rfl) rfl rfl) ?_; clear K
          iterate 2 (refine U_o ?_)
          intro a K
          obtain ⟨r33, h_r33, h⟩ := obind h
          refine T_a K (ac_call (vs := [.agg #[I d_W, I d_H, .slice A_d_P d_P.length c_d_P], I i6, I i]) (cap := []) rfl fok64 K rfl rfl (W_darkslideref_At N d_W d_H d_P A_d_P c_d_P i6 i _ ((inA R_d_P) _ M) C_d_P r33 h_r33)) ?_
          have M0 := M; clear K M; rintro _ a w ⟨rfl, M⟩ K
          replace M := M0.call M; clear M0
          refine ⟨M.pick [0,1,2,3,4,5,6] (by decide), ?_⟩
          rcases Bool.eq_false_or_eq_true (decide (r32 = 0)) with hb | hb
          · have h := ctrue hb h
            have hj12 : r32 = 0 := of_decide_eq_true hb
            refine T_r K (rdv (v := .pointer (some ⟨g_x12, 0, none⟩)) (by rw [hj12]; rfl) (rd_ixA rfl ar38 sz3 K rfl rfl (by rw [hj12]; decide) (by rw [hj12]; decide))) ?_; clear K; intro a K
            refine T_b K (ac_storeC rfl sc3 K rfl rfl rfl 0 M rfl rfl) ?_
            clear K M; rintro _ a w M K
            refine T_end ?_
            refine then_n ?_
            refine wp_region_tl (fun w => Mem _ _ w _) [0,0,0,1,1,1,0,2] (by kernel_rfl) (by kernel_rfl) (M.pick [0,1,2,4,5,6] (by decide)).drew ?_
            replace M := M.drew
            refine T_r K (rd_field rfl fld24_2 K rfl) ?_; clear K
            refine U_r (fun _ K => rd_ldC rfl sc22 K rfl (inM 3 rfl) rfl) ?_
            refine U_r (fun _ K => rd_ldA rfl ty38 K rfl (inM 0 rfl) rfl rfl) ?_; intro a K
            obtain ⟨r34, h_r34, h⟩ := obind h
            refine T_a K (ac_call (vs := [.agg #[I r33, I x126, I x223]]) (cap := []) rfl fok34 K rfl rfl (W_darkslideref_pixel N r33 x126 x223 _  r34 h_r34)) ?_
            have M0 := M; clear K M; rintro _ a w ⟨rfl, M⟩ K
            replace M := M0.call M; clear M0
            refine ⟨M.pick [0,1,2,4,5,6] (by decide), ?_⟩
            refine T_a K (ac_bslice rfl sl22 z34 K (vs := [(0, .agg #[I r34.1, I r34.2.1, I r34.2.2])]) (cs := [I r34.1, I r34.2.1, I r34.2.2]) rfl (by kernel_rfl) rfl rfl M) ?_
            have M0 := M; clear K M; rintro _ a w ⟨gs7, rfl, M⟩ K
            replace M := M.asRow 0 rfl cIII ([(r34.1, r34.2.1, r34.2.2)] : List (Int × Int × Int)) (n := 1) rfl rfl rfl
            clear M0
            refine ⟨M.pick [1,2,3,5,6,7] (by decide), ?_⟩
            obtain ⟨x_P10, h_x_P10, h⟩ := obind h
            refine T_a K (ac_app (C := cIII) (xs := x_P6) (ys := ([(r34.1, r34.2.1, r34.2.2)] : List (Int × Int × Int))) rfl sl22 rfl z34 rfl rfl K rfl rfl 4 M rfl ((inR (C := cIII) 0 rfl rfl) _ M) h_x_P10) ?_
            clear K M; rintro _ a w ⟨A10, c10, rfl, M⟩ K
            refine ⟨M.pick [1,2,3,5,6,7] (by decide), ?_⟩
            refine T_r K (rd_field rfl fld24_2 K rfl) ?_; clear K; intro a K
            refine T_b K (ac_storeC rfl sc22 K rfl rfl rfl 5 M rfl rfl) ?_
            clear K M; rintro _ a w M K
            refine T_end ?_
            refine inb_n (then_n (X_reg ?_))
            refine X_o K M ?_; clear K
            refine Y_o M ?_
            obtain ⟨x59, hx, h⟩ := olet h
            refine Y_r (fun _ K => rdi hx (rd_assign rfl K rfl)) M ?_; intro a K
            refine wpList_nil ?_
            exact then_n ⟨(x_P10, x59), ⟨A10, c10, K.pick [1,2,4,5,6,7], M.pick [4,5,6,7] (by decide)⟩, h⟩
          have h := cfalse hb h
          rcases Bool.eq_false_or_eq_true (decide (r32 = 1)) with hb | hb
          · have h := ctrue hb h
            have hj12 : r32 = 1 := of_decide_eq_true hb
            refine T_r K (rdv (v := .pointer (some ⟨g_x12, 1, none⟩)) (by rw [hj12]; rfl) (rd_ixA rfl ar38 sz3 K rfl rfl (by rw [hj12]; decide) (by rw [hj12]; decide))) ?_; clear K; intro a K
            refine T_b K (ac_storeC rfl sc3 K rfl rfl rfl 0 M rfl rfl) ?_
            clear K M; rintro _ a w M K
            refine T_end ?_
            refine then_n ?_
            refine wp_region_tl (fun w => Mem _ _ w _) [0,0,0,1,1,1,0,2] (by kernel_rfl) (by kernel_rfl) (M.pick [0,1,2,4,5,6] (by decide)).drew ?_
            replace M := M.drew
            refine T_r K (rd_field rfl fld24_2 K rfl) ?_; clear K
            refine U_r (fun _ K => rd_ldC rfl sc22 K rfl (inM 3 rfl) rfl) ?_
            refine U_r (fun _ K => rd_ldA rfl ty38 K rfl (inM 0 rfl) rfl rfl) ?_; intro a K
            obtain ⟨r35, h_r35, h⟩ := obind h
            refine T_a K (ac_call (vs := [.agg #[I x022, I r33, I x223]]) (cap := []) rfl fok34 K rfl rfl (W_darkslideref_pixel N x022 r33 x223 _  r35 h_r35)) ?_
            have M0 := M; clear K M; rintro _ a w ⟨rfl, M⟩ K
            replace M := M0.call M; clear M0
            refine ⟨M.pick [0,1,2,4,5,6] (by decide), ?_⟩
            refine T_a K (ac_bslice rfl sl22 z34 K (vs := [(0, .agg #[I r35.1, I r35.2.1, I r35.2.2])]) (cs := [I r35.1, I r35.2.1, I r35.2.2]) rfl (by kernel_rfl) rfl rfl M) ?_
            have M0 := M; clear K M; rintro _ a w ⟨gs8, rfl, M⟩ K
            replace M := M.asRow 0 rfl cIII ([(r35.1, r35.2.1, r35.2.2)] : List (Int × Int × Int)) (n := 1) rfl rfl rfl
            clear M0
            refine ⟨M.pick [1,2,3,5,6,7] (by decide), ?_⟩
            obtain ⟨x_P11, h_x_P11, h⟩ := obind h
            refine T_a K (ac_app (C := cIII) (xs := x_P6) (ys := ([(r35.1, r35.2.1, r35.2.2)] : List (Int × Int × Int))) rfl sl22 rfl z34 rfl rfl K rfl rfl 4 M rfl ((inR (C := cIII) 0 rfl rfl) _ M) h_x_P11) ?_
            clear K M; rintro _ a w ⟨A11, c11, rfl, M⟩ K
            refine ⟨M.pick [1,2,3,5,6,7] (by decide), ?_⟩
            refine T_r K (rd_field rfl fld24_2 K rfl) ?_; clear K; intro a K
            refine T_b K (ac_storeC rfl sc22 K rfl rfl rfl 5 M rfl rfl) ?_
            clear K M; rintro _ a w M K
            refine T_end ?_
            refine inb_n (then_n (X_reg ?_))
            refine X_o K M ?_; clear K
            refine Y_o M ?_
            obtain ⟨x60, hx, h⟩ := olet h
            refine Y_r (fun _ K => rdi hx (rd_assign rfl K rfl)) M ?_; intro a K
            refine wpList_nil ?_
            exact then_n ⟨(x_P11, x60), ⟨A11, c11, K.pick [1,2,4,5,6,7], M.pick [4,5,6,7] (by decide)⟩, h⟩
          have h := cfalse hb h
          rcases Bool.eq_false_or_eq_true (decide (r32 = 2)) with hb | hb
          · have h := ctrue hb h
            have hj12 : r32 = 2 := of_decide_eq_true hb
            refine T_r K (rdv (v := .pointer (some ⟨g_x12, 2, none⟩)) (by rw [hj12]; rfl) (rd_ixA rfl ar38 sz3 K rfl rfl (by rw [hj12]; decide) (by rw [hj12]; decide))) ?_; clear K; intro a K
            refine T_b K (ac_storeC rfl sc3 K rfl rfl rfl 0 M rfl rfl) ?_
            clear K M; rintro _ a w M K
            refine T_end ?_
            refine then_n ?_
            refine wp_region_tl (fun w => Mem _ _ w _) [0,0,0,1,1,1,0,2] (by kernel_rfl) (by kernel_rfl) (M.pick [0,1,2,4,5,6] (by decide)).drew ?_
            replace M := M.drew
            refine T_r K (rd_field rfl fld24_2 K rfl) ?_; clear K
            refine U_r (fun _ K => rd_ldC rfl sc22 K rfl (inM 3 rfl) rfl) ?_
            refine U_r (fun _ K => rd_ldA rfl ty38 K rfl (inM 0 rfl) rfl rfl) ?_; intro a K
            obtain ⟨r36, h_r36, h⟩ := obind h
            refine T_a K (ac_call (vs := [.agg #[I x022, I x126, I r33]]) (cap := []) rfl fok34 K rfl rfl (W_darkslideref_pixel N x022 x126 r33 _  r36 h_r36)) ?_
            have M0 := M; clear K M; rintro _ a w ⟨rfl, M⟩ K
            replace M := M0.call M; clear M0
            refine ⟨M.pick [0,1,2,4,5,6] (by decide), ?_⟩
            refine T_a K (ac_bslice rfl sl22 z34 K (vs := [(0, .agg #[I r36.1, I r36.2.1, I r36.2.2])]) (cs := [I r36.1, I r36.2.1, I r36.2.2]) rfl (by kernel_rfl) rfl rfl M) ?_
            have M0 := M; clear K M; rintro _ a w ⟨gs9, rfl, M⟩ K
            replace M := M.asRow 0 rfl cIII ([(r36.1, r36.2.1, r36.2.2)] : List (Int × Int × Int)) (n := 1) rfl rfl rfl
            clear M0
            refine ⟨M.pick [1,2,3,5,6,7] (by decide), ?_⟩
            obtain ⟨x_P12, h_x_P12, h⟩ := obind h
            refine T_a K (ac_app (C := cIII) (xs := x_P6) (ys := ([(r36.1, r36.2.1, r36.2.2)] : List (Int × Int × Int))) rfl sl22 rfl z34 rfl rfl K rfl rfl 4 M rfl ((inR (C := cIII) 0 rfl rfl) _ M) h_x_P12) ?_
            clear K M; rintro _ a w ⟨A12, c12, rfl, M⟩ K
            refine ⟨M.pick [1,2,3,5,6,7] (by decide), ?_⟩
            refine T_r K (rd_field rfl fld24_2 K rfl) ?_; clear K; intro a K
            refine T_b K (ac_storeC rfl sc22 K rfl rfl rfl 5 M rfl rfl) ?_
            clear K M; rintro _ a w M K
            refine T_end ?_
            refine inb_n (then_n (X_reg ?_))
            refine X_o K M ?_; clear K
            refine Y_o M ?_
            obtain ⟨x61, hx, h⟩ := olet h
            refine Y_r (fun _ K => rdi hx (rd_assign rfl K rfl)) M ?_; intro a K
            refine wpList_nil ?_
            exact then_n ⟨(x_P12, x61), ⟨A12, c12, K.pick [1,2,4,5,6,7], M.pick [4,5,6,7] (by decide)⟩, h⟩
          have h := cfalse hb h
          cases h
        clear K M h
        rintro kk fuel ⟨x021, x125, x222, i15⟩ a w hk5 ⟨K, M⟩ h
        unfold D_darkslideref_Filled_l5 at h
        refine wp_seq (wp_seq (X_reg ?_))
        refine X_o K M ?_; clear K
        refine Y_o M ?_; intro a K
        refine wpList_nil (then_n ?_)
        refine X_cond K rfl (fun hb => ?_) (fun hb => ?_)
        · have h := ctrue hb h
          refine wp_skip (then_n (wp_seq (wp_block ?_)))
          refine wp_region_tl (fun w => Mem _ _ w _) [0,0,0,0,0,0,0,0,0,0,2] (by kernel_rfl) (by kernel_rfl) M.drew ?_
          replace M := M.drew
          refine T_o K ?_; clear K
          refine U_o ?_; intro a K
          rcases Bool.eq_false_or_eq_true (decide (i15 = 0)) with hb | hb
          · have h := ctrue hb h
            have hj11 : i15 = 0 := of_decide_eq_true hb
            refine T_r K (rdv (v := .pointer (some ⟨g_x10, 0, none⟩)) (by rw [hj11]; rfl) (rd_ixA rfl ar38 sz3 K rfl rfl (by rw [hj11]; decide) (by rw [hj11]; decide))) ?_; clear K
            refine U_r (fun _ K => rd_ldC rfl sc3 K rfl (inM 2 rfl) rfl) ?_
            refine U_o ?_
            refine U_r (fun _ K => rdv (v := .pointer (some ⟨g_x11, 0, none⟩)) (by rw [hj11]; rfl) (rd_ixA rfl ar38 sz3 K rfl rfl (by rw [hj11]; decide) (by rw [hj11]; decide))) ?_
            refine U_r (fun _ K => rd_ldC rfl sc3 K rfl (inM 1 rfl) rfl) ?_
            refine U_o ?_; intro a K
            obtain ⟨_, h0, h⟩ := obind h
            have h0 := nz_spec h0
            refine T_r K (rd_quo rfl K rfl rfl h0) ?_; clear K
            refine U_r (fun _ K => rdv (v := .pointer (some ⟨g_x12, 0, none⟩)) (by rw [hj11]; rfl) (rd_ixA rfl ar38 sz3 K rfl rfl (by rw [hj11]; decide) (by rw [hj11]; decide))) ?_; intro a K
            refine T_b K (ac_storeC rfl sc3 K rfl rfl rfl 0 M rfl rfl) ?_
            clear K M; rintro _ a w M K
            refine T_end ?_
            refine inb_n (then_n (X_reg ?_))
            refine X_o K M ?_; clear K
            refine Y_o M ?_
            obtain ⟨x56, hx, h⟩ := olet h
            refine Y_r (fun _ K => rdi hx (rd_assign rfl K rfl)) M ?_; intro a K
            refine wpList_nil ?_
            exact then_n ⟨(IntKind.i64.wrap (Int.tdiv x020 (max x019 1)), x125, x222, x56), ⟨K.pick [1,2,4,5,6,7,8,9,13,14], M.pick [0,1,2,3,4,5,6] (by decide)⟩, h⟩
          have h := cfalse hb h
          rcases Bool.eq_false_or_eq_true (decide (i15 = 1)) with hb | hb
          · have h := ctrue hb h
            have hj11 : i15 = 1 := of_decide_eq_true hb
            refine T_r K (rdv (v := .pointer (some ⟨g_x10, 1, none⟩)) (by rw [hj11]; rfl) (rd_ixA rfl ar38 sz3 K rfl rfl (by rw [hj11]; decide) (by rw [hj11]; decide))) ?_; clear K
            refine U_r (fun _ K => rd_ldC rfl sc3 K rfl (inM 2 rfl) rfl) ?_
            refine U_o ?_
            refine U_r (fun _ K => rdv (v := .pointer (some ⟨g_x11, 1, none⟩)) (by rw [hj11]; rfl) (rd_ixA rfl ar38 sz3 K rfl rfl (by rw [hj11]; decide) (by rw [hj11]; decide))) ?_
            refine U_r (fun _ K => rd_ldC rfl sc3 K rfl (inM 1 rfl) rfl) ?_
            refine U_o ?_; intro a K
            obtain ⟨_, h0, h⟩ := obind h
            have h0 := nz_spec h0
            refine T_r K (rd_quo rfl K rfl rfl h0) ?_; clear K
            refine U_r (fun _ K => rdv (v := .pointer (some ⟨g_x12, 1, none⟩)) (by rw [hj11]; rfl) (rd_ixA rfl ar38 sz3 K rfl rfl (by rw [hj11]; decide) (by rw [hj11]; decide))) ?_; intro a K
            refine T_b K (ac_storeC rfl sc3 K rfl rfl rfl 0 M rfl rfl) ?_
            clear K M; rintro _ a w M K
            refine T_end ?_
            refine inb_n (then_n (X_reg ?_))
            refine X_o K M ?_; clear K
            refine Y_o M ?_
            obtain ⟨x57, hx, h⟩ := olet h
            refine Y_r (fun _ K => rdi hx (rd_assign rfl K rfl)) M ?_; intro a K
            refine wpList_nil ?_
            exact then_n ⟨(x021, IntKind.i64.wrap (Int.tdiv x124 (max x123 1)), x222, x57), ⟨K.pick [1,2,4,5,6,7,8,9,13,14], M.pick [0,1,2,3,4,5,6] (by decide)⟩, h⟩
          have h := cfalse hb h
          rcases Bool.eq_false_or_eq_true (decide (i15 = 2)) with hb | hb
          · have h := ctrue hb h
            have hj11 : i15 = 2 := of_decide_eq_true hb
            refine T_r K (rdv (v := .pointer (some ⟨g_x10, 2, none⟩)) (by rw [hj11]; rfl) (rd_ixA rfl ar38 sz3 K rfl rfl (by rw [hj11]; decide) (by rw [hj11]; decide))) ?_; clear K
            refine U_r (fun _ K => rd_ldC rfl sc3 K rfl (inM 2 rfl) rfl) ?_
            refine U_o ?_
            refine U_r (fun _ K => rdv (v := .pointer (some ⟨g_x11, 2, none⟩)) (by rw [hj11]; rfl) (rd_ixA rfl ar38 sz3 K rfl rfl (by rw [hj11]; decide) (by rw [hj11]; decide))) ?_
            refine U_r (fun _ K => rd_ldC rfl sc3 K rfl (inM 1 rfl) rfl) ?_
            refine U_o ?_; intro a K
            obtain ⟨_, h0, h⟩ := obind h
            have h0 := nz_spec h0
            refine T_r K (rd_quo rfl K rfl rfl h0) ?_; clear K
            refine U_r (fun _ K => rdv (v := .pointer (some ⟨g_x12, 2, none⟩)) (by rw [hj11]; rfl) (rd_ixA rfl ar38 sz3 K rfl rfl (by rw [hj11]; decide) (by rw [hj11]; decide))) ?_; intro a K
            refine T_b K (ac_storeC rfl sc3 K rfl rfl rfl 0 M rfl rfl) ?_
            clear K M; rintro _ a w M K
            refine T_end ?_
            refine inb_n (then_n (X_reg ?_))
            refine X_o K M ?_; clear K
            refine Y_o M ?_
            obtain ⟨x58, hx, h⟩ := olet h
            refine Y_r (fun _ K => rdi hx (rd_assign rfl K rfl)) M ?_; intro a K
            refine wpList_nil ?_
            exact then_n ⟨(x021, x125, IntKind.i64.wrap (Int.tdiv x221 (max x220 1)), x58), ⟨K.pick [1,2,4,5,6,7,8,9,13,14], M.pick [0,1,2,3,4,5,6] (by decide)⟩, h⟩
          have h := cfalse hb h
          cases h
        have h := cfalse hb h
        refine wp_exit ?_
        refine then_e ?_
        exact then_e (hk5 (x021, x125, x222, i15) _ _ ⟨K.pick [1,2,4,5,6,7,8,9,13,14], M.pick [0,1,2,3,4,5,6] (by decide)⟩ h)
      clear K M h
      rintro kk fuel ⟨x011, x115, x212, x012, x116, x213, i10⟩ a w hk3 ⟨K, M⟩ h
      unfold D_darkslideref_Filled_l3 at h
      refine wp_seq (wp_seq (X_reg ?_))
      refine X_o K M ?_; clear K
      refine Y_r (fun _ K => rd_field rfl fld45_1 K rfl) M ?_
      refine Y_r (fun _ K => rd_ldC rfl sc3 K rfl (inM 5 rfl) rfl) M ?_
      iterate 5 (refine Y_o M ?_)
      intro a K
      refine wpList_nil (then_n ?_)
      refine X_cond K rfl (fun hb => ?_) (fun hb => ?_)
      · have h := ctrue hb h
        refine wp_skip (then_n (wp_seq (wp_block (wp_seq (X_reg ?_)))))
        refine X_o K M ?_; clear K
        iterate 2 (refine Y_o M ?_)
        obtain ⟨x45, hx, h⟩ := olet h
        refine Y_r (fun _ K => rdi hx (rd_assign rfl K rfl)) M ?_; intro a K
        refine wpList_nil (then_n (wp_block ?_))
        refine X_lp (id := 6) (Rel := fun (⟨x015, x119, x216, x016, x120, x217, i12⟩ : Int × Int × Int × Int × Int × Int × Int) a w => Kn a 108 [(1, I o), (2, .pointer (some ⟨g_x, 0, none⟩)), (4, .pointer (some ⟨g_x2, 0, none⟩)), (5, .pointer (some ⟨g_x3, 0, none⟩)), (6, I i), (7, I i6), (8, .pointer (some ⟨g_x10, 0, none⟩)), (9, .pointer (some ⟨g_x11, 0, none⟩)), (10, I i10), (11, I i12)] ∧ Mem w0.heap.size w0 w [.blk g_x11 38 [I x015, I x119, I x216], .blk g_x10 38 [I x016, I x120, I x217], .row 34 3 A6 x_P6.length c6 (cIII.all x_P6), .blk g_x3 24 [I d_W, I d_H, .slice A6 x_P6.length c6], .blk g_x2 24 [I 0, I 0, .slice none (([] : List (Int × Int × Int))).length 0], .blk g_x 45 [I d_W, I d_H, .slice A_d_P d_P.length c_d_P]]) h (fun _ _ => rfl) ⟨K.pick [1,2,4,5,6,7,8,9,10,11], M.pick [0,1,2,3,4,5] (by decide)⟩ ?_ ?_
        · clear K M h
          rintro ⟨x017, x121, x218, x018, x122, x219, i13⟩ a w ⟨K, M⟩ h
          try dsimp only at h
          refine inb_e ?_
          refine inb_n (then_n (X_reg ?_))
          refine X_o K M ?_; clear K
          refine Y_o M ?_
          obtain ⟨x52, hx, h⟩ := olet h
          refine Y_r (fun _ K => rdi hx (rd_assign rfl K rfl)) M ?_; intro a K
          refine wpList_nil ?_
          exact then_n ⟨(x017, x121, x218, x018, x122, x219, x52), ⟨K.pick [1,2,4,5,6,7,8,9,10], M.pick [0,1,2,3,4,5] (by decide)⟩, h⟩
        clear K M h
        rintro kk fuel ⟨x015, x119, x216, x016, x120, x217, i12⟩ a w hk4 ⟨K, M⟩ h
        unfold D_darkslideref_Filled_l4 at h
        refine wp_seq (wp_seq (X_reg ?_))
        refine X_o K M ?_; clear K
        refine Y_r (fun _ K => rd_field rfl fld45_0 K rfl) M ?_
        refine Y_r (fun _ K => rd_ldC rfl sc3 K rfl (inM 5 rfl) rfl) M ?_
        iterate 5 (refine Y_o M ?_)
        intro a K
        refine wpList_nil (then_n ?_)
        refine X_cond K rfl (fun hb => ?_) (fun hb => ?_)
        · have h := ctrue hb h
          refine wp_skip (then_n (wp_seq (wp_block (wp_seq (X_reg ?_)))))
          refine X_o K M ?_; clear K
          iterate 2 (refine Y_o M ?_)
          intro a K
          obtain ⟨r28, h_r28, h⟩ := obind h
          refine X_a K (ac_call (vs := [I o, I i12, I i10]) (cap := []) rfl fok62 K rfl rfl (W_darkslideref_ColourAt N o i12 i10 _  r28 h_r28)) ?_
          have M0 := M; clear K M; rintro _ a w ⟨rfl, M⟩ K
          replace M := M0.call M; clear M0
          refine X_o K M ?_; clear K; intro a K
          refine wpList_nil (then_n (wp_seq ?_))
          refine wp_region_tl (fun w => Mem _ _ w _) [0,0,0,0,0,0,0,1,0,0,2] (by kernel_rfl) (by kernel_rfl) M.drew ?_
          replace M := M.drew
          refine T_o K ?_; clear K
          refine U_o ?_; intro a K
          rcases Bool.eq_false_or_eq_true (decide (r28 = 0)) with hb | hb
          · have h := ctrue hb h
            have hj9 : r28 = 0 := of_decide_eq_true hb
            refine T_r K (rdv (v := .pointer (some ⟨g_x10, 0, none⟩)) (by rw [hj9]; rfl) (rd_ixA rfl ar38 sz3 K rfl rfl (by rw [hj9]; decide) (by rw [hj9]; decide))) ?_; clear K
            refine U_r (fun _ K => rd_ldC rfl sc3 K rfl (inM 1 rfl) rfl) ?_
            refine U_r (fun _ K => rd_ldA rfl ty45 K rfl (inM 5 rfl) rfl rfl) ?_
            iterate 2 (refine U_o ?_)
            intro a K
            obtain ⟨r29, h_r29, h⟩ := obind h
            refine T_a K (ac_call (vs := [.agg #[I d_W, I d_H, .slice A_d_P d_P.length c_d_P], I i12, I i10]) (cap := []) rfl fok64 K rfl rfl (W_darkslideref_At N d_W d_H d_P A_d_P c_d_P i12 i10 _ ((inA R_d_P) _ M) C_d_P r29 h_r29)) ?_
            have M0 := M; clear K M; rintro _ a w ⟨rfl, M⟩ K
            replace M := M0.call M; clear M0
            refine ⟨M.pick [0,1,2,3,4,5] (by decide), ?_⟩
            refine T_o K ?_; clear K
            refine U_r (fun _ K => rdv (v := .pointer (some ⟨g_x10, 0, none⟩)) (by rw [hj9]; rfl) (rd_ixA rfl ar38 sz3 K rfl rfl (by rw [hj9]; decide) (by rw [hj9]; decide))) ?_; intro a K
            refine T_b K (ac_storeC rfl sc3 K rfl rfl rfl 1 M rfl rfl) ?_
            clear K M; rintro _ a w M K
            refine T_end ?_
            refine then_n (X_reg ?_)
            refine X_o K M ?_; clear K
            refine Y_r (fun _ K => rdv (v := .pointer (some ⟨g_x11, 0, none⟩)) (by rw [hj9]; rfl) (rd_ixA rfl ar38 sz3 K rfl rfl (by rw [hj9]; decide) (by rw [hj9]; decide))) M ?_
            refine Y_r (fun _ K => rd_ldC rfl sc3 K rfl (inM 0 rfl) rfl) M ?_
            refine Y_o M ?_
            refine Y_r (fun _ K => rdv (v := .pointer (some ⟨g_x11, 0, none⟩)) (by rw [hj9]; rfl) (rd_ixA rfl ar38 sz3 K rfl rfl (by rw [hj9]; decide) (by rw [hj9]; decide))) M ?_; intro a K
            refine X_b K (ac_storeC rfl sc3 K rfl rfl rfl 0 M rfl rfl) ?_
            clear K M; rintro _ a w M K
            refine wpList_nil (inb_n (then_n (X_reg ?_)))
            refine X_o K M ?_; clear K
            refine Y_o M ?_
            obtain ⟨x49, hx, h⟩ := olet h
            refine Y_r (fun _ K => rdi hx (rd_assign rfl K rfl)) M ?_; intro a K
            refine wpList_nil ?_
            exact then_n ⟨(IntKind.i64.wrap (x015 + 1), x119, x216, IntKind.i64.wrap (x016 + r29), x120, x217, x49), ⟨K.pick [1,2,4,5,6,7,8,9,10,11], M.pick [0,1,2,3,4,5] (by decide)⟩, h⟩
          have h := cfalse hb h
          rcases Bool.eq_false_or_eq_true (decide (r28 = 1)) with hb | hb
          · have h := ctrue hb h
            have hj9 : r28 = 1 := of_decide_eq_true hb
            refine T_r K (rdv (v := .pointer (some ⟨g_x10, 1, none⟩)) (by rw [hj9]; rfl) (rd_ixA rfl ar38 sz3 K rfl rfl (by rw [hj9]; decide) (by rw [hj9]; decide))) ?_; clear K
            refine U_r (fun _ K => rd_ldC rfl sc3 K rfl (inM 1 rfl) rfl) ?_
            refine U_r (fun _ K => rd_ldA rfl ty45 K rfl (inM 5 rfl) rfl rfl) ?_
            iterate 2 (refine U_o ?_)
            intro a K
            obtain ⟨r30, h_r30, h⟩ := obind h
            refine T_a K (ac_call (vs := [.agg #[I d_W, I d_H, .slice A_d_P d_P.length c_d_P], I i12, I i10]) (cap := []) rfl fok64 K rfl rfl (W_darkslideref_At N d_W d_H d_P A_d_P c_d_P i12 i10 _ ((inA R_d_P) _ M) C_d_P r30 h_r30)) ?_
            have M0 := M; clear K M; rintro _ a w ⟨rfl, M⟩ K
            replace M := M0.call M; clear M0
            refine ⟨M.pick [0,1,2,3,4,5] (by decide), ?_⟩
            refine T_o K ?_; clear K
            refine U_r (fun _ K => rdv (v := .pointer (some ⟨g_x10, 1, none⟩)) (by rw [hj9]; rfl) (rd_ixA rfl ar38 sz3 K rfl rfl (by rw [hj9]; decide) (by rw [hj9]; decide))) ?_; intro a K
            refine T_b K (ac_storeC rfl sc3 K rfl rfl rfl 1 M rfl rfl) ?_
            clear K M; rintro _ a w M K
            refine T_end ?_
            refine then_n (X_reg ?_)
            refine X_o K M ?_; clear K
            refine Y_r (fun _ K => rdv (v := .pointer (some ⟨g_x11, 1, none⟩)) (by rw [hj9]; rfl) (rd_ixA rfl ar38 sz3 K rfl rfl (by rw [hj9]; decide) (by rw [hj9]; decide))) M ?_
            refine Y_r (fun _ K => rd_ldC rfl sc3 K rfl (inM 0 rfl) rfl) M ?_
            refine Y_o M ?_
            refine Y_r (fun _ K => rdv (v := .pointer (some ⟨g_x11, 1, none⟩)) (by rw [hj9]; rfl) (rd_ixA rfl ar38 sz3 K rfl rfl (by rw [hj9]; decide) (by rw [hj9]; decide))) M ?_; intro a K
            refine X_b K (ac_storeC rfl sc3 K rfl rfl rfl 0 M rfl rfl) ?_
            clear K M; rintro _ a w M K
            refine wpList_nil (inb_n (then_n (X_reg ?_)))
            refine X_o K M ?_; clear K
            refine Y_o M ?_
            obtain ⟨x50, hx, h⟩ := olet h
            refine Y_r (fun _ K => rdi hx (rd_assign rfl K rfl)) M ?_; intro a K
            refine wpList_nil ?_
            exact then_n ⟨(x015, IntKind.i64.wrap (x119 + 1), x216, x016, IntKind.i64.wrap (x120 + r30), x217, x50), ⟨K.pick [1,2,4,5,6,7,8,9,10,11], M.pick [0,1,2,3,4,5] (by decide)⟩, h⟩
          have h := cfalse hb h
          rcases Bool.eq_false_or_eq_true (decide (r28 = 2)) with hb | hb
          · have h := ctrue hb h
            have hj9 : r28 = 2 := of_decide_eq_true hb
            refine T_r K (rdv (v := .pointer (some ⟨g_x10, 2, none⟩)) (by rw [hj9]; rfl) (rd_ixA rfl ar38 sz3 K rfl rfl (by rw [hj9]; decide) (by rw [hj9]; decide))) ?_; clear K
            refine U_r (fun _ K => rd_ldC rfl sc3 K rfl (inM 1 rfl) rfl) ?_
            refine U_r (fun _ K => rd_ldA rfl ty45 K rfl (inM 5 rfl) rfl rfl) ?_
            iterate 2 (refine U_o ?_)
            intro a K
            obtain ⟨r31, h_r31, h⟩ := obind h
            refine T_a K (ac_call (vs := [.agg #[I d_W, I d_H, .slice A_d_P d_P.length c_d_P], I i12, I i10]) (cap := []) rfl fok64 K rfl rfl (W_darkslideref_At N d_W d_H d_P A_d_P c_d_P i12 i10 _ ((inA R_d_P) _ M) C_d_P r31 h_r31)) ?_
            have M0 := M; clear K M; rintro _ a w ⟨rfl, M⟩ K
            replace M := M0.call M; clear M0
            refine ⟨M.pick [0,1,2,3,4,5] (by decide), ?_⟩
            refine T_o K ?_; clear K
            refine U_r (fun _ K => rdv (v := .pointer (some ⟨g_x10, 2, none⟩)) (by rw [hj9]; rfl) (rd_ixA rfl ar38 sz3 K rfl rfl (by rw [hj9]; decide) (by rw [hj9]; decide))) ?_; intro a K
            refine T_b K (ac_storeC rfl sc3 K rfl rfl rfl 1 M rfl rfl) ?_
            clear K M; rintro _ a w M K
            refine T_end ?_
            refine then_n (X_reg ?_)
            refine X_o K M ?_; clear K
            refine Y_r (fun _ K => rdv (v := .pointer (some ⟨g_x11, 2, none⟩)) (by rw [hj9]; rfl) (rd_ixA rfl ar38 sz3 K rfl rfl (by rw [hj9]; decide) (by rw [hj9]; decide))) M ?_
            refine Y_r (fun _ K => rd_ldC rfl sc3 K rfl (inM 0 rfl) rfl) M ?_
            refine Y_o M ?_
            refine Y_r (fun _ K => rdv (v := .pointer (some ⟨g_x11, 2, none⟩)) (by rw [hj9]; rfl) (rd_ixA rfl ar38 sz3 K rfl rfl (by rw [hj9]; decide) (by rw [hj9]; decide))) M ?_; intro a K
            refine X_b K (ac_storeC rfl sc3 K rfl rfl rfl 0 M rfl rfl) ?_
            clear K M; rintro _ a w M K
            refine wpList_nil (inb_n (then_n (X_reg ?_)))
            refine X_o K M ?_; clear K
            refine Y_o M ?_
            obtain ⟨x51, hx, h⟩ := olet h
            refine Y_r (fun _ K => rdi hx (rd_assign rfl K rfl)) M ?_; intro a K
            refine wpList_nil ?_
            exact then_n ⟨(x015, x119, IntKind.i64.wrap (x216 + 1), x016, x120, IntKind.i64.wrap (x217 + r31), x51), ⟨K.pick [1,2,4,5,6,7,8,9,10,11], M.pick [0,1,2,3,4,5] (by decide)⟩, h⟩
          have h := cfalse hb h
          cases h
        have h := cfalse hb h
        refine wp_exit ?_
        refine then_e ?_
        exact then_e (hk4 (x015, x119, x216, x016, x120, x217, i12) _ _ ⟨K.pick [1,2,4,5,6,7,8,9,10,11], M.pick [0,1,2,3,4,5] (by decide)⟩ h)
      have h := cfalse hb h
      refine wp_exit ?_
      refine then_e ?_
      exact then_e (hk3 (x011, x115, x212, x012, x116, x213, i10) _ _ ⟨K.pick [1,2,4,5,6,7,8,9,10], M.pick [0,1,2,3,4,5] (by decide)⟩ h)
    have h := cfalse hb h
    refine wp_exit ?_
    refine then_e ?_
    exact then_e (hk2 (x_P6, i6) _ _ ⟨A6, c6, K.pick [1,2,4,5,6,7], M.pick [0,1,2,3] (by decide)⟩ h)
  have h := cfalse hb h
  refine wp_exit ?_
  refine then_e ?_
  exact then_e (hk1 (x_P, i) _ _ ⟨A, c, K.pick [1,2,4,5,6], M.pick [0,1,2,3] (by decide)⟩ h)
end Go.Proofs.Ytpmnfhifmmfglab

namespace Go.Proofs.Ytpmnfhifmmfglab
open Go.RowKit
set_option maxRecDepth 100000 in
set_option maxHeartbeats 4000000 in
theorem W_darkslideref_clamp (N : Nat) (n : Int) (w0 : World)  (r : Int) (h : D_darkslideref_clamp N n = some r) :
    Calls Try.prog 32 #[I n] w0 fun e w' => ∃ v, e = .returned v ∧ v = I r ∧ Mem w0.heap.size w0 w' [] := by
  refine X_enter Try.func32 rfl Try.ntmps32 rfl ?_
  intro a K
  have M := Mem.start w0
  have K : Kn a 6 [(0, I n)] := K
  unfold D_darkslideref_clamp at h
  refine wp_seq (X_reg ?_)
  refine X_o K M ?_; clear K; intro a K
  refine wpList_nil (then_n (wp_seq (X_reg ?_)))
  refine X_o K M ?_; clear K
  iterate 3 (refine Y_o M ?_)
  intro a K
  refine wpList_nil (then_n (wp_ret ?_))
  cases h
  exact ret1 K rfl (res_tmp K rfl) ⟨_, rfl, rfl, ((M).pick [] (by decide))⟩
end Go.Proofs.Ytpmnfhifmmfglab
