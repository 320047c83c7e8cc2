/- Texts of the claim LineFar, joined: WRefSamepictures, WLawLinebegun, WLawLinefar. -/
import Derived.Test.YtpmnfhifmmfglabLineFarK2
import Derived.Test.YtpmnfhifmmfglabLineFarK3
import Derived.Test.YtpmnfhifmmfglabLineFarK7
set_option linter.unusedVariables false
set_option linter.unusedSimpArgs false
set_option linter.unusedSectionVars false
namespace Go.Proofs.Ytpmnfhifmmfglab
open Go.RowKit
set_option maxRecDepth 100000 in
set_option maxHeartbeats 4000000 in
theorem W_darkslideref_SamePictures (N : Nat) (a_W : Int) (a_H : Int) (a_P : List (Int × Int × Int)) (A_a_P : Option Addr) (c_a_P : Nat) (b_W : Int) (b_H : Int) (b_P : List (Int × Int × Int)) (A_b_P : Option Addr) (c_b_P : Nat) (w0 : World) (R_a_P : SL w0 cIII A_a_P a_P) (C_a_P : a_P.length ≤ c_a_P) (R_b_P : SL w0 cIII A_b_P b_P) (C_b_P : b_P.length ≤ c_b_P) (r : Bool) (h : D_darkslideref_SamePictures N a_W a_H a_P b_W b_H b_P = some r) :
    Calls Try.prog 14 #[.agg #[I a_W, I a_H, .slice A_a_P a_P.length c_a_P], .agg #[I b_W, I b_H, .slice A_b_P b_P.length c_b_P]] w0 fun e w' => ∃ v, e = .returned v ∧ v = .bool r ∧ Mem w0.heap.size w0 w' [] := by
  refine X_enter Try.func14 rfl Try.ntmps14 rfl ?_
  intro a K
  have M := Mem.start w0
  have K : Kn a 45 [(0, .agg #[I a_W, I a_H, .slice A_a_P a_P.length c_a_P]), (1, .agg #[I b_W, I b_H, .slice A_b_P b_P.length c_b_P])] := K
  unfold D_darkslideref_SamePictures at h
  refine wp_seq (X_reg ?_)
  refine X_a K (ac_box rfl K rfl (cs := [I a_W, I a_H, .slice A_a_P a_P.length c_a_P]) rfl M) ?_
  clear K M; rintro _ a w ⟨g_a, rfl, M⟩ K
  refine X_a K (ac_box rfl K rfl (cs := [I b_W, I b_H, .slice A_b_P b_P.length c_b_P]) rfl M) ?_
  clear K M; rintro _ a w ⟨g_b, rfl, M⟩ K
  refine X_o K M ?_; clear K; intro a K
  refine wpList_nil (then_n (wp_seq (wp_seq (X_reg ?_))))
  refine X_r K (rd_field rfl fld24_0 K rfl) M ?_; clear K
  refine Y_r (fun _ K => rd_ldC rfl sc3 K rfl (inM 1 rfl) rfl) M ?_
  refine Y_r (fun _ K => rd_field rfl fld24_0 K rfl) M ?_
  refine Y_r (fun _ K => rd_ldC rfl sc3 K rfl (inM 0 rfl) rfl) M ?_
  iterate 2 (refine Y_o M ?_)
  intro a K
  rcases Bool.eq_false_or_eq_true (!decide (a_W = b_W)) with hb | hb
  · have h := ctrue hb h
    have K := K.reb (s := 11) rfl hb
    refine X_o K M ?_; clear K
    iterate 14 (refine Y_o M ?_)
    intro a K
    refine wpList_nil (then_n ?_)
    refine X_condT K rfl ?_
    refine wp_seq (X_reg ?_)
    refine X_o K M ?_; clear K; intro a K
    refine wpList_nil (then_n (wp_ret (then_r ?_)))
    cases h
    exact ret1 K rfl (res_tmp K rfl) ⟨_, rfl, rfl, ((M).pick [] (by decide))⟩
  have h := cfalse hb h
  have K := K.reb (s := 11) rfl hb
  refine X_r K (rd_field rfl fld24_1 K rfl) M ?_; clear K
  refine Y_r (fun _ K => rd_ldC rfl sc3 K rfl (inM 1 rfl) rfl) M ?_
  refine Y_r (fun _ K => rd_field rfl fld24_1 K rfl) M ?_
  refine Y_r (fun _ K => rd_ldC rfl sc3 K rfl (inM 0 rfl) rfl) M ?_
  iterate 3 (refine Y_o M ?_)
  intro a K
  rcases Bool.eq_false_or_eq_true (!decide (a_H = b_H)) with hb | hb
  · have h := ctrue hb h
    have K := K.reb (s := 18) rfl hb
    refine X_o K M ?_; clear K
    iterate 7 (refine Y_o M ?_)
    intro a K
    refine wpList_nil (then_n ?_)
    refine X_condT K rfl ?_
    refine wp_seq (X_reg ?_)
    refine X_o K M ?_; clear K; intro a K
    refine wpList_nil (then_n (wp_ret (then_r ?_)))
    cases h
    exact ret1 K rfl (res_tmp K rfl) ⟨_, rfl, rfl, ((M).pick [] (by decide))⟩
  have h := cfalse hb h
  have K := K.reb (s := 18) rfl hb
  refine X_r K (rd_field rfl fld24_2 K rfl) M ?_; clear K
  refine Y_r (fun _ K => rd_ldC rfl sc22 K rfl (inM 1 rfl) rfl) M ?_
  refine Y_r (fun _ K => rd_len rfl un22 K rfl) M ?_
  refine Y_r (fun _ K => rd_field rfl fld24_2 K rfl) M ?_
  refine Y_r (fun _ K => rd_ldC rfl sc22 K rfl (inM 0 rfl) rfl) M ?_
  refine Y_r (fun _ K => rd_len rfl un22 K rfl) M ?_
  iterate 2 (refine Y_o M ?_)
  intro a K
  refine wpList_nil (then_n ?_)
  refine X_cond K rfl (fun hb => ?_) (fun hb => ?_)
  · have h := ctrue hb h
    refine wp_seq (X_reg ?_)
    refine X_o K M ?_; clear K; intro a K
    refine wpList_nil (then_n (wp_ret (then_r ?_)))
    cases h
    exact ret1 K rfl (res_tmp K rfl) ⟨_, rfl, rfl, ((M).pick [] (by decide))⟩
  have h := cfalse hb h
  refine wp_skip (then_n (wp_seq (wp_seq (X_reg ?_))))
  refine X_o K M ?_; clear K; intro a K
  refine wpList_nil (then_n (wp_block ?_))
  refine X_lp (id := 0) (Rel := fun (i : Int) a w => Kn a 45 [(2, .pointer (some ⟨g_a, 0, none⟩)), (3, .pointer (some ⟨g_b, 0, none⟩)), (5, I i)] ∧ Mem w0.heap.size w0 w [.blk g_b 24 [I b_W, I b_H, .slice A_b_P b_P.length c_b_P], .blk g_a 24 [I a_W, I a_H, .slice A_a_P a_P.length c_a_P]]) h (fun _ _ => rfl) ⟨K.pick [2,3,5], M.pick [0,1] (by decide)⟩ ?_ ?_
  · clear K M h
    rintro i4 a w ⟨K, M⟩ h
    try dsimp only at h
    refine inb_e ?_
    refine then_n (wp_seq (X_reg ?_))
    refine X_o K M ?_; clear K; intro a K
    refine wpList_nil (then_n (wp_ret ?_))
    cases h
    exact ret1 K rfl (res_tmp K rfl) ⟨_, rfl, rfl, ((M).pick [] (by decide))⟩
  clear K M h
  rintro kk fuel i a w hk1 ⟨K, M⟩ h
  unfold D_darkslideref_SamePictures_l1 at h
  refine wp_seq (wp_seq (X_reg ?_))
  refine X_o K M ?_; clear K
  refine Y_r (fun _ K => rd_field rfl fld24_2 K rfl) M ?_
  refine Y_r (fun _ K => rd_ldC rfl sc22 K rfl (inM 1 rfl) rfl) M ?_
  refine Y_r (fun _ K => rd_len rfl un22 K rfl) M ?_
  refine Y_o M ?_; intro a K
  refine wpList_nil (then_n ?_)
  refine X_cond K rfl (fun hb => ?_) (fun hb => ?_)
  · have h := ctrue hb h
    refine wp_skip (then_n (wp_seq (wp_block (wp_seq ?_))))
    refine wp_region_tl (fun w => Mem _ _ w _) [0,0,0,0,0,0,0,0,0,0,0] (by kernel_rfl) (by kernel_rfl) M.drew ?_
    replace M := M.drew
    refine T_r K (rd_field rfl fld24_2 K rfl) ?_; clear K
    refine U_r (fun _ K => rd_ldC rfl sc22 K rfl (inM 1 rfl) rfl) ?_
    refine U_o ?_
    obtain ⟨e3, h_e3, h⟩ := obind h
    refine U_r (fun _ K => rd_ix rfl sl22 K rfl rfl (inA R_a_P) h_e3) ?_
    refine U_r (fun _ K => rd_elA rfl ty34 K rfl rfl rfl (inA R_a_P) h_e3) ?_
    refine U_r (fun _ K => rd_field rfl fld24_2 K rfl) ?_
    refine U_r (fun _ K => rd_ldC rfl sc22 K rfl (inM 0 rfl) rfl) ?_
    refine U_o ?_
    obtain ⟨e4, h_e4, h⟩ := obind h
    refine U_r (fun _ K => rd_ix rfl sl22 K rfl rfl (inA R_b_P) h_e4) ?_
    refine U_r (fun _ K => rd_elA rfl ty34 K rfl rfl rfl (inA R_b_P) h_e4) ?_
    refine U_r (fun _ K => rd_aggN eg34 rfl K rfl rfl (eqr34 _ _ _ _ _ _)) ?_; intro a K
    refine T_end ?_
    refine then_n ?_
    refine X_cond K rfl (fun hb => ?_) (fun hb => ?_)
    · have h := ctrue hb h
      refine wp_seq (X_reg ?_)
      refine X_o K M ?_; clear K; intro a K
      refine wpList_nil (then_n (wp_ret (inb_r (then_r (then_r (inb_r (then_r ?_)))))))
      cases h
      exact ret1 K rfl (res_tmp K rfl) ⟨_, rfl, rfl, ((M).pick [] (by decide))⟩
    have h := cfalse hb h
    refine wp_skip (inb_n (then_n (X_reg ?_)))
    refine X_o K M ?_; clear K
    refine Y_o M ?_
    obtain ⟨i3, hx, h⟩ := olet h
    refine Y_r (fun _ K => rdi hx (rd_assign rfl K rfl)) M ?_; intro a K
    refine wpList_nil ?_
    exact then_n ⟨i3, ⟨K.pick [2,3,5], M.pick [0,1] (by decide)⟩, h⟩
  have h := cfalse hb h
  refine wp_exit ?_
  refine then_e ?_
  exact then_e (hk1 i _ _ ⟨K.pick [2,3,5], M.pick [0,1] (by decide)⟩ h)
end Go.Proofs.Ytpmnfhifmmfglab

namespace Go.Proofs.Ytpmnfhifmmfglab
open Go.RowKit
set_option maxRecDepth 100000 in
set_option maxHeartbeats 4000000 in
theorem W_darkslidelaw_lineBegun (N : Nat)  (w0 : World)  (r : Bool) (h : D_darkslidelaw_lineBegun N  = some r) :
    Calls Try.prog 18 #[] w0 fun e w' => ∃ v, e = .returned v ∧ v = .bool r ∧ Mem w0.heap.size w0 w' [] := by
  refine X_enter Try.func18 rfl Try.ntmps18 rfl ?_
  intro a K
  have M := Mem.start w0
  have K : Kn a 81 [] := K
  unfold D_darkslidelaw_lineBegun at h
  refine wp_seq (X_reg ?_)
  refine X_o K M ?_; clear K; intro a K
  refine wpList_nil (then_n (wp_seq (X_reg ?_)))
  obtain ⟨r2, h_r2, h⟩ := obind h
  refine X_a K (ac_call (vs := []) (cap := []) rfl fok47 K rfl rfl (W_darkslidelaw_plain N  _  r2 h_r2)) ?_
  have M0 := M; clear K M; rintro _ a w ⟨A, c, A2, c2, rfl, M⟩ K
  replace M := M0.call M; clear M0
  obtain ⟨r3, h_r3, h⟩ := obind h
  refine X_a K (ac_call (vs := []) (cap := []) rfl fok48 K rfl rfl (W_darkslidelaw_tall N  _  r3 h_r3)) ?_
  have M0 := M; clear K M; rintro _ a w ⟨A3, c3, rfl, M⟩ K
  replace M := M0.call M; clear M0
  obtain ⟨r4, h_r4, h⟩ := obind h
  refine X_a K (ac_call (vs := [.agg #[I r2.1, I r2.2.1, I r2.2.2.1, I r2.2.2.2.1, I r2.2.2.2.2.1, I r2.2.2.2.2.2.1, .slice A r2.2.2.2.2.2.2.1.length c, I r2.2.2.2.2.2.2.2.1, I r2.2.2.2.2.2.2.2.2.1, I r2.2.2.2.2.2.2.2.2.2.1, I r2.2.2.2.2.2.2.2.2.2.2.1, I r2.2.2.2.2.2.2.2.2.2.2.2.1, I r2.2.2.2.2.2.2.2.2.2.2.2.2.1, I r2.2.2.2.2.2.2.2.2.2.2.2.2.2.1, I r2.2.2.2.2.2.2.2.2.2.2.2.2.2.2.1, I r2.2.2.2.2.2.2.2.2.2.2.2.2.2.2.2.1, I r2.2.2.2.2.2.2.2.2.2.2.2.2.2.2.2.2.1, I r2.2.2.2.2.2.2.2.2.2.2.2.2.2.2.2.2.2.1, I r2.2.2.2.2.2.2.2.2.2.2.2.2.2.2.2.2.2.2.1, .slice A2 r2.2.2.2.2.2.2.2.2.2.2.2.2.2.2.2.2.2.2.2.1.length c2, I r2.2.2.2.2.2.2.2.2.2.2.2.2.2.2.2.2.2.2.2.2], .agg #[I r3.1, I r3.2.1, .slice A3 r3.2.2.length c3]]) (cap := []) rfl fok15 K rfl rfl (W_line_Whole N r2.1 r2.2.1 r2.2.2.1 r2.2.2.2.1 r2.2.2.2.2.1 r2.2.2.2.2.2.1 r2.2.2.2.2.2.2.1 A c r2.2.2.2.2.2.2.2.1 r2.2.2.2.2.2.2.2.2.1 r2.2.2.2.2.2.2.2.2.2.1 r2.2.2.2.2.2.2.2.2.2.2.1 r2.2.2.2.2.2.2.2.2.2.2.2.1 r2.2.2.2.2.2.2.2.2.2.2.2.2.1 r2.2.2.2.2.2.2.2.2.2.2.2.2.2.1 r2.2.2.2.2.2.2.2.2.2.2.2.2.2.2.1 r2.2.2.2.2.2.2.2.2.2.2.2.2.2.2.2.1 r2.2.2.2.2.2.2.2.2.2.2.2.2.2.2.2.2.1 r2.2.2.2.2.2.2.2.2.2.2.2.2.2.2.2.2.2.1 r2.2.2.2.2.2.2.2.2.2.2.2.2.2.2.2.2.2.2.1 r2.2.2.2.2.2.2.2.2.2.2.2.2.2.2.2.2.2.2.2.1 A2 c2 r2.2.2.2.2.2.2.2.2.2.2.2.2.2.2.2.2.2.2.2.2 r3.1 r3.2.1 r3.2.2 A3 c3 _ ((inR (C := cII) 1 rfl rfl) _ M) (M.cap 1 rfl) ((inR (C := cII) 2 rfl rfl) _ M) (M.cap 2 rfl) ((inR (C := (cI .i64)) 0 rfl rfl) _ M) (M.cap 0 rfl) r4 h_r4)) ?_
  have M0 := M; clear K M; rintro _ a w ⟨A4, c4, rfl, M⟩ K
  replace M := M0.call M; clear M0
  refine X_o K M ?_; clear K
  iterate 2 (refine Y_o M ?_)
  intro a K
  refine X_a K (ac_alloc rfl z24 M) ?_
  clear K M; rintro _ a w ⟨g_o, rfl, M⟩ K
  refine X_b K (ac_storeA rfl ty24 K rfl (ds := [I r4.1, I r4.2.1, .slice A4 r4.2.2.1.length c4]) rfl rfl 0 M rfl rfl rfl) ?_
  clear K M; rintro _ a w M K
  refine X_o K M ?_; clear K; intro a K
  refine wpList_nil (then_n (wp_seq (X_reg ?_)))
  obtain ⟨r5, h_r5, h⟩ := obind h
  refine X_a K (ac_call (vs := []) (cap := []) rfl fok47 K rfl rfl (W_darkslidelaw_plain N  _  r5 h_r5)) ?_
  have M0 := M; clear K M; rintro _ a w ⟨A5, c5, A6, c6, rfl, M⟩ K
  replace M := M0.call M; clear M0
  obtain ⟨r6, h_r6, h⟩ := obind h
  refine X_a K (ac_call (vs := []) (cap := []) rfl fok48 K rfl rfl (W_darkslidelaw_tall N  _  r6 h_r6)) ?_
  have M0 := M; clear K M; rintro _ a w ⟨A7, c7, rfl, M⟩ K
  replace M := M0.call M; clear M0
  obtain ⟨r7, h_r7, h⟩ := obind h
  refine X_a K (ac_call (vs := [.agg #[I r5.1, I r5.2.1, I r5.2.2.1, I r5.2.2.2.1, I r5.2.2.2.2.1, I r5.2.2.2.2.2.1, .slice A5 r5.2.2.2.2.2.2.1.length c5, I r5.2.2.2.2.2.2.2.1, I r5.2.2.2.2.2.2.2.2.1, I r5.2.2.2.2.2.2.2.2.2.1, I r5.2.2.2.2.2.2.2.2.2.2.1, I r5.2.2.2.2.2.2.2.2.2.2.2.1, I r5.2.2.2.2.2.2.2.2.2.2.2.2.1, I r5.2.2.2.2.2.2.2.2.2.2.2.2.2.1, I r5.2.2.2.2.2.2.2.2.2.2.2.2.2.2.1, I r5.2.2.2.2.2.2.2.2.2.2.2.2.2.2.2.1, I r5.2.2.2.2.2.2.2.2.2.2.2.2.2.2.2.2.1, I r5.2.2.2.2.2.2.2.2.2.2.2.2.2.2.2.2.2.1, I r5.2.2.2.2.2.2.2.2.2.2.2.2.2.2.2.2.2.2.1, .slice A6 r5.2.2.2.2.2.2.2.2.2.2.2.2.2.2.2.2.2.2.2.1.length c6, I r5.2.2.2.2.2.2.2.2.2.2.2.2.2.2.2.2.2.2.2.2], .agg #[I r6.1, I r6.2.1, .slice A7 r6.2.2.length c7], I 5]) (cap := []) rfl fok24 K rfl rfl (W_line_Strips N r5.1 r5.2.1 r5.2.2.1 r5.2.2.2.1 r5.2.2.2.2.1 r5.2.2.2.2.2.1 r5.2.2.2.2.2.2.1 A5 c5 r5.2.2.2.2.2.2.2.1 r5.2.2.2.2.2.2.2.2.1 r5.2.2.2.2.2.2.2.2.2.1 r5.2.2.2.2.2.2.2.2.2.2.1 r5.2.2.2.2.2.2.2.2.2.2.2.1 r5.2.2.2.2.2.2.2.2.2.2.2.2.1 r5.2.2.2.2.2.2.2.2.2.2.2.2.2.1 r5.2.2.2.2.2.2.2.2.2.2.2.2.2.2.1 r5.2.2.2.2.2.2.2.2.2.2.2.2.2.2.2.1 r5.2.2.2.2.2.2.2.2.2.2.2.2.2.2.2.2.1 r5.2.2.2.2.2.2.2.2.2.2.2.2.2.2.2.2.2.1 r5.2.2.2.2.2.2.2.2.2.2.2.2.2.2.2.2.2.2.1 r5.2.2.2.2.2.2.2.2.2.2.2.2.2.2.2.2.2.2.2.1 A6 c6 r5.2.2.2.2.2.2.2.2.2.2.2.2.2.2.2.2.2.2.2.2 r6.1 r6.2.1 r6.2.2 A7 c7 5 _ ((inR (C := cII) 1 rfl rfl) _ M) (M.cap 1 rfl) ((inR (C := cII) 2 rfl rfl) _ M) (M.cap 2 rfl) ((inR (C := (cI .i64)) 0 rfl rfl) _ M) (M.cap 0 rfl) r7 h_r7)) ?_
  have M0 := M; clear K M; rintro _ a w ⟨A8, c8, rfl, M⟩ K
  replace M := M0.call M; clear M0
  refine X_o K M ?_; clear K
  iterate 2 (refine Y_o M ?_)
  intro a K
  refine X_a K (ac_alloc rfl z24 M) ?_
  clear K M; rintro _ a w ⟨g_x, rfl, M⟩ K
  refine X_b K (ac_storeA rfl ty24 K rfl (ds := [I r7.1, I r7.2.1, .slice A8 r7.2.2.1.length c8]) rfl rfl 0 M rfl rfl rfl) ?_
  clear K M; rintro _ a w M K
  refine X_o K M ?_; clear K; intro a K
  refine wpList_nil (then_n (wp_seq (X_reg ?_)))
  obtain ⟨r8, h_r8, h⟩ := obind h
  refine X_a K (ac_call (vs := []) (cap := []) rfl fok47 K rfl rfl (W_darkslidelaw_plain N  _  r8 h_r8)) ?_
  have M0 := M; clear K M; rintro _ a w ⟨A9, c9, A10, c10, rfl, M⟩ K
  replace M := M0.call M; clear M0
  obtain ⟨r9, h_r9, h⟩ := obind h
  refine X_a K (ac_call (vs := []) (cap := []) rfl fok48 K rfl rfl (W_darkslidelaw_tall N  _  r9 h_r9)) ?_
  have M0 := M; clear K M; rintro _ a w ⟨A11, c11, rfl, M⟩ K
  replace M := M0.call M; clear M0
  refine X_r K (rd_fieldC rfl fd45_2 sc43 K rfl rfl) M ?_; clear K
  obtain ⟨l2, h_l2, h⟩ := obind h
  refine Y_r (fun _ K => rd_slice (C := (cI .i64)) (k := .i64) (k' := .i64) rfl sl43 rfl K rfl (M.cap 0 rfl) rfl rfl h_l2) M ?_
  refine Y_r (fun _ K => rd_build rfl K (vs := [(0, I 2), (1, I 9), (2, .slice (slA A11 c11 6 1) l2.length (c11 - Int.toNat 6))]) (cs := [I 2, I 9, .slice (slA A11 c11 6 1) l2.length (c11 - Int.toNat 6)]) rfl (by kernel_rfl)) M ?_; intro a K
  obtain ⟨r10, h_r10, h⟩ := obind h
  refine X_a K (ac_call (vs := [.agg #[I r8.1, I r8.2.1, I r8.2.2.1, I r8.2.2.2.1, I r8.2.2.2.2.1, I r8.2.2.2.2.2.1, .slice A9 r8.2.2.2.2.2.2.1.length c9, I r8.2.2.2.2.2.2.2.1, I r8.2.2.2.2.2.2.2.2.1, I r8.2.2.2.2.2.2.2.2.2.1, I r8.2.2.2.2.2.2.2.2.2.2.1, I r8.2.2.2.2.2.2.2.2.2.2.2.1, I r8.2.2.2.2.2.2.2.2.2.2.2.2.1, I r8.2.2.2.2.2.2.2.2.2.2.2.2.2.1, I r8.2.2.2.2.2.2.2.2.2.2.2.2.2.2.1, I r8.2.2.2.2.2.2.2.2.2.2.2.2.2.2.2.1, I r8.2.2.2.2.2.2.2.2.2.2.2.2.2.2.2.2.1, I r8.2.2.2.2.2.2.2.2.2.2.2.2.2.2.2.2.2.1, I r8.2.2.2.2.2.2.2.2.2.2.2.2.2.2.2.2.2.2.1, .slice A10 r8.2.2.2.2.2.2.2.2.2.2.2.2.2.2.2.2.2.2.2.1.length c10, I r8.2.2.2.2.2.2.2.2.2.2.2.2.2.2.2.2.2.2.2.2], .agg #[I 2, I 9, .slice (slA A11 c11 6 1) l2.length (c11 - Int.toNat 6)], I 3, I 12, I 7, I 9]) (cap := []) rfl fok21 K rfl rfl (W_line_Part N r8.1 r8.2.1 r8.2.2.1 r8.2.2.2.1 r8.2.2.2.2.1 r8.2.2.2.2.2.1 r8.2.2.2.2.2.2.1 A9 c9 r8.2.2.2.2.2.2.2.1 r8.2.2.2.2.2.2.2.2.1 r8.2.2.2.2.2.2.2.2.2.1 r8.2.2.2.2.2.2.2.2.2.2.1 r8.2.2.2.2.2.2.2.2.2.2.2.1 r8.2.2.2.2.2.2.2.2.2.2.2.2.1 r8.2.2.2.2.2.2.2.2.2.2.2.2.2.1 r8.2.2.2.2.2.2.2.2.2.2.2.2.2.2.1 r8.2.2.2.2.2.2.2.2.2.2.2.2.2.2.2.1 r8.2.2.2.2.2.2.2.2.2.2.2.2.2.2.2.2.1 r8.2.2.2.2.2.2.2.2.2.2.2.2.2.2.2.2.2.1 r8.2.2.2.2.2.2.2.2.2.2.2.2.2.2.2.2.2.2.1 r8.2.2.2.2.2.2.2.2.2.2.2.2.2.2.2.2.2.2.2.1 A10 c10 r8.2.2.2.2.2.2.2.2.2.2.2.2.2.2.2.2.2.2.2.2 2 9 l2 (slA A11 c11 6 1) (c11 - Int.toNat 6) 3 12 7 9 _ ((inR (C := cII) 1 rfl rfl) _ M) (M.cap 1 rfl) ((inR (C := cII) 2 rfl rfl) _ M) (M.cap 2 rfl) ((fun w M => (slA_SL h_l2 (M.cap 0 rfl)) w ((inR (C := (cI .i64)) 0 rfl rfl) w M)) _ M) (sli_cap h_l2 (M.cap 0 rfl)) r10 h_r10)) ?_
  have M0 := M; clear K M; rintro _ a w ⟨A12, c12, rfl, M⟩ K
  replace M := M0.call M; clear M0
  refine X_o K M ?_; clear K
  iterate 2 (refine Y_o M ?_)
  intro a K
  refine X_a K (ac_alloc rfl z24 M) ?_
  clear K M; rintro _ a w ⟨g_x2, rfl, M⟩ K
  refine X_b K (ac_storeA rfl ty24 K rfl (ds := [I r10.1, I r10.2.1, .slice A12 r10.2.2.1.length c12]) rfl rfl 0 M rfl rfl rfl) ?_
  clear K M; rintro _ a w M K
  refine X_o K M ?_; clear K; intro a K
  refine wpList_nil (then_n (wp_seq ?_))
  refine wp_region_tl (fun w => Mem _ _ w _) [1,1,1,1,1,1,1,1,1,1,1,1,1,1,1,1,1,1,1,1,1,1,1,1,1,1,1,0,1,1,0,0,0,0,0,0,0,0,0,0,0,0,0,0,0,0,0,0,0,0,0,0,0,0] (by kernel_rfl) (by kernel_rfl) M.drew ?_
  replace M := M.drew
  obtain ⟨r11, h_r11, h⟩ := obind h
  refine T_a K (ac_call (vs := []) (cap := []) rfl fok47 K rfl rfl (W_darkslidelaw_plain N  _  r11 h_r11)) ?_
  have M0 := M; clear K M; rintro _ a w ⟨A13, c13, A14, c14, rfl, M⟩ K
  replace M := M0.call M; clear M0
  refine ⟨M.pick [2,3,4,5,6,7,8,9,10,11,12,13,14,15,16] (by decide), ?_⟩
  obtain ⟨r12, h_r12, h⟩ := obind h
  refine T_a K (ac_call (vs := [.agg #[I r11.1, I r11.2.1, I r11.2.2.1, I r11.2.2.2.1, I r11.2.2.2.2.1, I r11.2.2.2.2.2.1, .slice A13 r11.2.2.2.2.2.2.1.length c13, I r11.2.2.2.2.2.2.2.1, I r11.2.2.2.2.2.2.2.2.1, I r11.2.2.2.2.2.2.2.2.2.1, I r11.2.2.2.2.2.2.2.2.2.2.1, I r11.2.2.2.2.2.2.2.2.2.2.2.1, I r11.2.2.2.2.2.2.2.2.2.2.2.2.1, I r11.2.2.2.2.2.2.2.2.2.2.2.2.2.1, I r11.2.2.2.2.2.2.2.2.2.2.2.2.2.2.1, I r11.2.2.2.2.2.2.2.2.2.2.2.2.2.2.2.1, I r11.2.2.2.2.2.2.2.2.2.2.2.2.2.2.2.2.1, I r11.2.2.2.2.2.2.2.2.2.2.2.2.2.2.2.2.2.1, I r11.2.2.2.2.2.2.2.2.2.2.2.2.2.2.2.2.2.2.1, .slice A14 r11.2.2.2.2.2.2.2.2.2.2.2.2.2.2.2.2.2.2.2.1.length c14, I r11.2.2.2.2.2.2.2.2.2.2.2.2.2.2.2.2.2.2.2.2]]) (cap := []) rfl fok19 K rfl rfl (W_line_Check N r11.1 r11.2.1 r11.2.2.1 r11.2.2.2.1 r11.2.2.2.2.1 r11.2.2.2.2.2.1 r11.2.2.2.2.2.2.1 A13 c13 r11.2.2.2.2.2.2.2.1 r11.2.2.2.2.2.2.2.2.1 r11.2.2.2.2.2.2.2.2.2.1 r11.2.2.2.2.2.2.2.2.2.2.1 r11.2.2.2.2.2.2.2.2.2.2.2.1 r11.2.2.2.2.2.2.2.2.2.2.2.2.1 r11.2.2.2.2.2.2.2.2.2.2.2.2.2.1 r11.2.2.2.2.2.2.2.2.2.2.2.2.2.2.1 r11.2.2.2.2.2.2.2.2.2.2.2.2.2.2.2.1 r11.2.2.2.2.2.2.2.2.2.2.2.2.2.2.2.2.1 r11.2.2.2.2.2.2.2.2.2.2.2.2.2.2.2.2.2.1 r11.2.2.2.2.2.2.2.2.2.2.2.2.2.2.2.2.2.2.1 r11.2.2.2.2.2.2.2.2.2.2.2.2.2.2.2.2.2.2.2.1 A14 c14 r11.2.2.2.2.2.2.2.2.2.2.2.2.2.2.2.2.2.2.2.2 _ ((inR (C := cII) 0 rfl rfl) _ M) (M.cap 0 rfl) ((inR (C := cII) 1 rfl rfl) _ M) (M.cap 1 rfl) r12 h_r12)) ?_
  have M0 := M; clear K M; rintro _ a w ⟨rfl, M⟩ K
  replace M := M0.call M; clear M0
  refine ⟨M.pick [2,3,4,5,6,7,8,9,10,11,12,13,14,15,16] (by decide), ?_⟩
  refine T_rd1 K (want_no rfl) rfl rfl (rd_eql rfl K rfl rfl) M (M.pick [2,3,4,5,6,7,8,9,10,11,12,13,14,15,16] (by decide)) ?_; clear K; intro a K
  refine T_rd1 K (want_no rfl) rfl rfl (rd_move rfl K rfl) M (M.pick [2,3,4,5,6,7,8,9,10,11,12,13,14,15,16] (by decide)) ?_; clear K; intro a K
  rcases Bool.eq_false_or_eq_true (decide (r12 = 0)) with hb | hb
  · have h := ctrue hb h
    have K := K.reb (s := 31) rfl hb
    refine T_rd1 K (K.yes rfl rfl rfl) rfl rfl (rd_build rfl K (vs := []) (cs := [I 0, I 0, I 0, I 0, I 0, I 0, .slice none (([] : List (Int × Int))).length 0, I 0, I 0, I 0, I 0, I 0, I 0, I 0, I 0, I 0, I 0, I 0, I 0, .slice none (([] : List (Int × Int))).length 0, I 0]) rfl (by kernel_rfl)) M (M.pick [2,3,4,5,6,7,8,9,10,11,12,13,14,15,16] (by decide)) ?_; clear K; intro a K
    obtain ⟨r13, h_r13, h⟩ := obind h
    refine T_a K (ac_call (vs := [.agg #[I 0, I 0, I 0, I 0, I 0, I 0, .slice none (([] : List (Int × Int))).length 0, I 0, I 0, I 0, I 0, I 0, I 0, I 0, I 0, I 0, I 0, I 0, I 0, .slice none (([] : List (Int × Int))).length 0, I 0]]) (cap := []) rfl fok19 K rfl rfl (W_line_Check N 0 0 0 0 0 0 (([] : List (Int × Int))) none 0 0 0 0 0 0 0 0 0 0 0 0 0 (([] : List (Int × Int))) none 0 0 _ ((fun _ _ => SL.nil) _ M) (Nat.le_refl _) ((fun _ _ => SL.nil) _ M) (Nat.le_refl _) r13 h_r13)) ?_
    have M0 := M; clear K M; rintro _ a w ⟨rfl, M⟩ K
    replace M := M0.call M; clear M0
    refine ⟨M.pick [2,3,4,5,6,7,8,9,10,11,12,13,14,15,16] (by decide), ?_⟩
    refine T_rd1 K (K.yes rfl rfl rfl) rfl rfl (rd_eql rfl K rfl rfl) M (M.pick [2,3,4,5,6,7,8,9,10,11,12,13,14,15,16] (by decide)) ?_; clear K; intro a K
    refine T_rd1 K (want_no rfl) rfl rfl (rd_pickT rfl K rfl rfl) M (M.pick [2,3,4,5,6,7,8,9,10,11,12,13,14,15,16] (by decide)) ?_; clear K; intro a K
    refine T_rd1 K (want_no rfl) rfl rfl (rd_move rfl K rfl) M (M.pick [2,3,4,5,6,7,8,9,10,11,12,13,14,15,16] (by decide)) ?_; clear K; intro a K
    rcases Bool.eq_false_or_eq_true (decide (r13 = 3)) with hb | hb
    · have h := ctrue hb h
      have K := K.reb (s := 36) rfl hb
      refine T_rd1 K (K.yes rfl rfl rfl) rfl rfl (rd_move rfl K rfl) M (M.pick [2,3,4,5,6,7,8,9,10,11,12,13,14,15,16] (by decide)) ?_; clear K; intro a K
      refine T_rd1 K (K.yes rfl rfl rfl) rfl rfl (rd_eql rfl K rfl rfl) M (M.pick [2,3,4,5,6,7,8,9,10,11,12,13,14,15,16] (by decide)) ?_; clear K; intro a K
      refine T_rd1 K (want_no rfl) rfl rfl (rd_pickT rfl K rfl rfl) M (M.pick [2,3,4,5,6,7,8,9,10,11,12,13,14,15,16] (by decide)) ?_; clear K; intro a K
      refine T_rd1 K (want_no rfl) rfl rfl (rd_move rfl K rfl) M (M.pick [2,3,4,5,6,7,8,9,10,11,12,13,14,15,16] (by decide)) ?_; clear K; intro a K
      rcases Bool.eq_false_or_eq_true (decide (r4.2.2.2 = 0)) with hb | hb
      · have h := ctrue hb h
        have K := K.reb (s := 40) rfl hb
        refine T_rd1 K (K.yes rfl rfl rfl) rfl rfl (rd_move rfl K rfl) M (M.pick [2,3,4,5,6,7,8,9,10,11,12,13,14,15,16] (by decide)) ?_; clear K; intro a K
        refine T_rd1 K (K.yes rfl rfl rfl) rfl rfl (rd_eql rfl K rfl rfl) M (M.pick [2,3,4,5,6,7,8,9,10,11,12,13,14,15,16] (by decide)) ?_; clear K; intro a K
        refine T_rd1 K (want_no rfl) rfl rfl (rd_pickT rfl K rfl rfl) M (M.pick [2,3,4,5,6,7,8,9,10,11,12,13,14,15,16] (by decide)) ?_; clear K; intro a K
        refine T_rd1 K (want_no rfl) rfl rfl (rd_move rfl K rfl) M (M.pick [2,3,4,5,6,7,8,9,10,11,12,13,14,15,16] (by decide)) ?_; clear K; intro a K
        rcases Bool.eq_false_or_eq_true (decide (r7.2.2.2 = 0)) with hb | hb
        · have h := ctrue hb h
          have K := K.reb (s := 44) rfl hb
          refine T_rd1 K (K.yes rfl rfl rfl) rfl rfl (rd_move rfl K rfl) M (M.pick [2,3,4,5,6,7,8,9,10,11,12,13,14,15,16] (by decide)) ?_; clear K; intro a K
          refine T_rd1 K (K.yes rfl rfl rfl) rfl rfl (rd_eql rfl K rfl rfl) M (M.pick [2,3,4,5,6,7,8,9,10,11,12,13,14,15,16] (by decide)) ?_; clear K; intro a K
          refine T_rd1 K (want_no rfl) rfl rfl (rd_pickT rfl K rfl rfl) M (M.pick [2,3,4,5,6,7,8,9,10,11,12,13,14,15,16] (by decide)) ?_; clear K; intro a K
          refine T_rd1 K (want_no rfl) rfl rfl (rd_move rfl K rfl) M (M.pick [2,3,4,5,6,7,8,9,10,11,12,13,14,15,16] (by decide)) ?_; clear K; intro a K
          rcases Bool.eq_false_or_eq_true (decide (r10.2.2.2 = 0)) with hb | hb
          · have h := ctrue hb h
            have K := K.reb (s := 48) rfl hb
            refine T_rd1 K (K.yes rfl rfl rfl) rfl rfl (rd_field rfl fld24_2 K rfl) M (M.pick [2,3,4,5,6,7,8,9,10,11,12,13,14,15,16] (by decide)) ?_; clear K; intro a K
            refine T_rd1 K (K.yes rfl rfl rfl) rfl rfl (rd_ldC rfl sc22 K rfl (inM 12 rfl) rfl) M (M.pick [2,3,4,5,6,7,8,9,10,11,12,13,14,15,16] (by decide)) ?_; clear K; intro a K
            refine T_rd1 K (K.yes rfl rfl rfl) rfl rfl (rd_len rfl un22 K rfl) M (M.pick [2,3,4,5,6,7,8,9,10,11,12,13,14,15,16] (by decide)) ?_; clear K; intro a K
            refine T_rd1 K (K.yes rfl rfl rfl) rfl rfl (rd_eql rfl K rfl rfl) M (M.pick [2,3,4,5,6,7,8,9,10,11,12,13,14,15,16] (by decide)) ?_; clear K; intro a K
            refine T_rd1 K (want_no rfl) rfl rfl (rd_pickT rfl K rfl rfl) M (M.pick [2,3,4,5,6,7,8,9,10,11,12,13,14,15,16] (by decide)) ?_; clear K; intro a K
            refine T_rd1 K (want_no rfl) rfl rfl (rd_move rfl K rfl) M (M.pick [2,3,4,5,6,7,8,9,10,11,12,13,14,15,16] (by decide)) ?_; clear K; intro a K
            rcases Bool.eq_false_or_eq_true (decide ((r4.2.2.1.length : Int) = 24)) with hb | hb
            · have h := ctrue hb h
              have K := K.reb (s := 54) rfl hb
              refine T_r K (rd_ldA rfl ty24 K rfl (inM 5 rfl) rfl rfl) ?_; clear K; intro a K
              refine T_rd1 K (K.yes rfl rfl rfl) rfl rfl (rd_ldA rfl ty24 K rfl (inM 12 rfl) rfl rfl) M (M.pick [2,3,4,5,6,7,8,9,10,11,12,13,14,15,16] (by decide)) ?_; clear K; intro a K
              obtain ⟨r14, h_r14, h⟩ := obind h
              refine T_a K (ac_call (vs := [.agg #[I r7.1, I r7.2.1, .slice A8 r7.2.2.1.length c8], .agg #[I r4.1, I r4.2.1, .slice A4 r4.2.2.1.length c4]]) (cap := []) rfl fok14 K rfl rfl (W_darkslideref_SamePictures N r7.1 r7.2.1 r7.2.2.1 A8 c8 r4.1 r4.2.1 r4.2.2.1 A4 c4 _ ((inR (C := cIII) 8 rfl rfl) _ M) (M.cap 8 rfl) ((inR (C := cIII) 13 rfl rfl) _ M) (M.cap 13 rfl) r14 h_r14)) ?_
              have M0 := M; clear K M; rintro _ a w ⟨rfl, M⟩ K
              replace M := M0.call M; clear M0
              refine ⟨M.pick [2,3,4,5,6,7,8,9,10,11,12,13,14,15,16] (by decide), ?_⟩
              refine T_o K ?_; clear K
              refine U_o ?_; intro a K
              rcases Bool.eq_false_or_eq_true (r14) with hb | hb
              · have h := ctrue hb h
                have K := K.reb (s := 59) rfl hb
                refine T_r K (rd_field rfl fld24_1 K rfl) ?_; clear K
                refine U_r (fun _ K => rd_ldC rfl sc3 K rfl (inM 0 rfl) rfl) ?_
                iterate 3 (refine U_o ?_)
                intro a K
                rcases Bool.eq_false_or_eq_true (decide (r10.2.1 = 2)) with hb | hb
                · have h := ctrue hb h
                  have K := K.reb (s := 64) rfl hb
                  refine T_r K (rd_field rfl fld24_2 K rfl) ?_; clear K
                  refine U_r (fun _ K => rd_ldC rfl sc22 K rfl (inM 0 rfl) rfl) ?_
                  refine U_r (fun _ K => rd_len rfl un22 K rfl) ?_
                  iterate 3 (refine U_o ?_)
                  intro a K
                  rcases Bool.eq_false_or_eq_true (decide ((r10.2.2.1.length : Int) = 4)) with hb | hb
                  · have h := ctrue hb h
                    have K := K.reb (s := 70) rfl hb
                    refine T_r K (rd_field rfl fld24_2 K rfl) ?_; clear K
                    refine U_r (fun _ K => rd_ldC rfl sc22 K rfl (inM 0 rfl) rfl) ?_
                    obtain ⟨e, h_e, h⟩ := obind h
                    refine U_r (fun _ K => rd_ix rfl sl22 K rfl rfl (inR (C := cIII) 1 rfl rfl) h_e) ?_
                    refine U_r (fun _ K => rd_elA rfl ty34 K rfl rfl rfl (inR (C := cIII) 1 rfl rfl) h_e) ?_
                    refine U_r (fun _ K => rd_field rfl fld24_2 K rfl) ?_
                    refine U_r (fun _ K => rd_ldC rfl sc22 K rfl (inM 10 rfl) rfl) ?_
                    obtain ⟨e2, h_e2, h⟩ := obind h
                    refine U_r (fun _ K => rd_ix rfl sl22 K rfl rfl (inR (C := cIII) 11 rfl rfl) h_e2) ?_
                    refine U_r (fun _ K => rd_elA rfl ty34 K rfl rfl rfl (inR (C := cIII) 11 rfl rfl) h_e2) ?_
                    refine U_r (fun _ K => rd_aggE eg34 rfl K rfl rfl (eqr34 _ _ _ _ _ _)) ?_
                    iterate 2 (refine U_o ?_)
                    intro a K
                    refine T_end ?_
                    refine then_n (wp_ret ?_)
                    cases h
                    exact ret1 K rfl (res_tmp K rfl) ⟨_, rfl, rfl, ((M).pick [] (by decide))⟩
                  have h := cfalse hb h
                  have K := K.reb (s := 70) rfl hb
                  refine T_o K ?_; clear K
                  iterate 10 (refine U_o ?_)
                  intro a K
                  refine T_end ?_
                  refine then_n (wp_ret ?_)
                  cases h
                  exact ret1 K rfl (res_tmp K rfl) ⟨_, rfl, rfl, ((M).pick [] (by decide))⟩
                have h := cfalse hb h
                have K := K.reb (s := 64) rfl hb
                refine T_o K ?_; clear K
                iterate 16 (refine U_o ?_)
                intro a K
                refine T_end ?_
                refine then_n (wp_ret ?_)
                cases h
                exact ret1 K rfl (res_tmp K rfl) ⟨_, rfl, rfl, ((M).pick [] (by decide))⟩
              have h := cfalse hb h
              have K := K.reb (s := 59) rfl hb
              refine T_o K ?_; clear K
              iterate 21 (refine U_o ?_)
              intro a K
              refine T_end ?_
              refine then_n (wp_ret ?_)
              cases h
              exact ret1 K rfl (res_tmp K rfl) ⟨_, rfl, rfl, ((M).pick [] (by decide))⟩
            have h := cfalse hb h
            have K := K.reb (s := 54) rfl hb
            refine T_o K ?_; clear K; intro a K
            iterate 2 (refine T_no1 K (K.no rfl rfl rfl rfl) rfl rfl (M.pick [2,3,4,5,6,7,8,9,10,11,12,13,14,15,16] (by decide)) ?_; clear K; intro a K)
            refine T_o K ?_; clear K
            iterate 23 (refine U_o ?_)
            intro a K
            refine T_end ?_
            refine then_n (wp_ret ?_)
            cases h
            exact ret1 K rfl (res_tmp K rfl) ⟨_, rfl, rfl, ((M).pick [] (by decide))⟩
          have h := cfalse hb h
          have K := K.reb (s := 48) rfl hb
          iterate 4 (refine T_no1 K (K.no rfl rfl rfl rfl) rfl rfl (M.pick [2,3,4,5,6,7,8,9,10,11,12,13,14,15,16] (by decide)) ?_; clear K; intro a K)
          refine T_rd1 K (want_no rfl) rfl rfl (rd_pickF rfl K rfl rfl) M (M.pick [2,3,4,5,6,7,8,9,10,11,12,13,14,15,16] (by decide)) ?_; clear K; intro a K
          refine T_rd1 K (want_no rfl) rfl rfl (rd_move rfl K rfl) M (M.pick [2,3,4,5,6,7,8,9,10,11,12,13,14,15,16] (by decide)) ?_; clear K; intro a K
          refine T_o K ?_; clear K; intro a K
          iterate 2 (refine T_no1 K (K.no rfl rfl rfl rfl) rfl rfl (M.pick [2,3,4,5,6,7,8,9,10,11,12,13,14,15,16] (by decide)) ?_; clear K; intro a K)
          refine T_o K ?_; clear K
          iterate 23 (refine U_o ?_)
          intro a K
          refine T_end ?_
          refine then_n (wp_ret ?_)
          cases h
          exact ret1 K rfl (res_tmp K rfl) ⟨_, rfl, rfl, ((M).pick [] (by decide))⟩
        have h := cfalse hb h
        have K := K.reb (s := 44) rfl hb
        iterate 2 (refine T_no1 K (K.no rfl rfl rfl rfl) rfl rfl (M.pick [2,3,4,5,6,7,8,9,10,11,12,13,14,15,16] (by decide)) ?_; clear K; intro a K)
        refine T_rd1 K (want_no rfl) rfl rfl (rd_pickF rfl K rfl rfl) M (M.pick [2,3,4,5,6,7,8,9,10,11,12,13,14,15,16] (by decide)) ?_; clear K; intro a K
        refine T_rd1 K (want_no rfl) rfl rfl (rd_move rfl K rfl) M (M.pick [2,3,4,5,6,7,8,9,10,11,12,13,14,15,16] (by decide)) ?_; clear K; intro a K
        iterate 4 (refine T_no1 K (K.no rfl rfl rfl rfl) rfl rfl (M.pick [2,3,4,5,6,7,8,9,10,11,12,13,14,15,16] (by decide)) ?_; clear K; intro a K)
        refine T_rd1 K (want_no rfl) rfl rfl (rd_pickF rfl K rfl rfl) M (M.pick [2,3,4,5,6,7,8,9,10,11,12,13,14,15,16] (by decide)) ?_; clear K; intro a K
        refine T_rd1 K (want_no rfl) rfl rfl (rd_move rfl K rfl) M (M.pick [2,3,4,5,6,7,8,9,10,11,12,13,14,15,16] (by decide)) ?_; clear K; intro a K
        refine T_o K ?_; clear K; intro a K
        iterate 2 (refine T_no1 K (K.no rfl rfl rfl rfl) rfl rfl (M.pick [2,3,4,5,6,7,8,9,10,11,12,13,14,15,16] (by decide)) ?_; clear K; intro a K)
        refine T_o K ?_; clear K
        iterate 23 (refine U_o ?_)
        intro a K
        refine T_end ?_
        refine then_n (wp_ret ?_)
        cases h
        exact ret1 K rfl (res_tmp K rfl) ⟨_, rfl, rfl, ((M).pick [] (by decide))⟩
      have h := cfalse hb h
      have K := K.reb (s := 40) rfl hb
      iterate 2 (refine T_no1 K (K.no rfl rfl rfl rfl) rfl rfl (M.pick [2,3,4,5,6,7,8,9,10,11,12,13,14,15,16] (by decide)) ?_; clear K; intro a K)
      refine T_rd1 K (want_no rfl) rfl rfl (rd_pickF rfl K rfl rfl) M (M.pick [2,3,4,5,6,7,8,9,10,11,12,13,14,15,16] (by decide)) ?_; clear K; intro a K
      refine T_rd1 K (want_no rfl) rfl rfl (rd_move rfl K rfl) M (M.pick [2,3,4,5,6,7,8,9,10,11,12,13,14,15,16] (by decide)) ?_; clear K; intro a K
      iterate 2 (refine T_no1 K (K.no rfl rfl rfl rfl) rfl rfl (M.pick [2,3,4,5,6,7,8,9,10,11,12,13,14,15,16] (by decide)) ?_; clear K; intro a K)
      refine T_rd1 K (want_no rfl) rfl rfl (rd_pickF rfl K rfl rfl) M (M.pick [2,3,4,5,6,7,8,9,10,11,12,13,14,15,16] (by decide)) ?_; clear K; intro a K
      refine T_rd1 K (want_no rfl) rfl rfl (rd_move rfl K rfl) M (M.pick [2,3,4,5,6,7,8,9,10,11,12,13,14,15,16] (by decide)) ?_; clear K; intro a K
      iterate 4 (refine T_no1 K (K.no rfl rfl rfl rfl) rfl rfl (M.pick [2,3,4,5,6,7,8,9,10,11,12,13,14,15,16] (by decide)) ?_; clear K; intro a K)
      refine T_rd1 K (want_no rfl) rfl rfl (rd_pickF rfl K rfl rfl) M (M.pick [2,3,4,5,6,7,8,9,10,11,12,13,14,15,16] (by decide)) ?_; clear K; intro a K
      refine T_rd1 K (want_no rfl) rfl rfl (rd_move rfl K rfl) M (M.pick [2,3,4,5,6,7,8,9,10,11,12,13,14,15,16] (by decide)) ?_; clear K; intro a K
      refine T_o K ?_; clear K; intro a K
      iterate 2 (refine T_no1 K (K.no rfl rfl rfl rfl) rfl rfl (M.pick [2,3,4,5,6,7,8,9,10,11,12,13,14,15,16] (by decide)) ?_; clear K; intro a K)
      refine T_o K ?_; clear K
      iterate 23 (refine U_o ?_)
      intro a K
      refine T_end ?_
      refine then_n (wp_ret ?_)
      cases h
      exact ret1 K rfl (res_tmp K rfl) ⟨_, rfl, rfl, ((M).pick [] (by decide))⟩
    have h := cfalse hb h
    have K := K.reb (s := 36) rfl hb
    iterate 2 (refine T_no1 K (K.no rfl rfl rfl rfl) rfl rfl (M.pick [2,3,4,5,6,7,8,9,10,11,12,13,14,15,16] (by decide)) ?_; clear K; intro a K)
    refine T_rd1 K (want_no rfl) rfl rfl (rd_pickF rfl K rfl rfl) M (M.pick [2,3,4,5,6,7,8,9,10,11,12,13,14,15,16] (by decide)) ?_; clear K; intro a K
    refine T_rd1 K (want_no rfl) rfl rfl (rd_move rfl K rfl) M (M.pick [2,3,4,5,6,7,8,9,10,11,12,13,14,15,16] (by decide)) ?_; clear K; intro a K
    iterate 2 (refine T_no1 K (K.no rfl rfl rfl rfl) rfl rfl (M.pick [2,3,4,5,6,7,8,9,10,11,12,13,14,15,16] (by decide)) ?_; clear K; intro a K)
    refine T_rd1 K (want_no rfl) rfl rfl (rd_pickF rfl K rfl rfl) M (M.pick [2,3,4,5,6,7,8,9,10,11,12,13,14,15,16] (by decide)) ?_; clear K; intro a K
    refine T_rd1 K (want_no rfl) rfl rfl (rd_move rfl K rfl) M (M.pick [2,3,4,5,6,7,8,9,10,11,12,13,14,15,16] (by decide)) ?_; clear K; intro a K
    iterate 2 (refine T_no1 K (K.no rfl rfl rfl rfl) rfl rfl (M.pick [2,3,4,5,6,7,8,9,10,11,12,13,14,15,16] (by decide)) ?_; clear K; intro a K)
    refine T_rd1 K (want_no rfl) rfl rfl (rd_pickF rfl K rfl rfl) M (M.pick [2,3,4,5,6,7,8,9,10,11,12,13,14,15,16] (by decide)) ?_; clear K; intro a K
    refine T_rd1 K (want_no rfl) rfl rfl (rd_move rfl K rfl) M (M.pick [2,3,4,5,6,7,8,9,10,11,12,13,14,15,16] (by decide)) ?_; clear K; intro a K
    iterate 4 (refine T_no1 K (K.no rfl rfl rfl rfl) rfl rfl (M.pick [2,3,4,5,6,7,8,9,10,11,12,13,14,15,16] (by decide)) ?_; clear K; intro a K)
    refine T_rd1 K (want_no rfl) rfl rfl (rd_pickF rfl K rfl rfl) M (M.pick [2,3,4,5,6,7,8,9,10,11,12,13,14,15,16] (by decide)) ?_; clear K; intro a K
    refine T_rd1 K (want_no rfl) rfl rfl (rd_move rfl K rfl) M (M.pick [2,3,4,5,6,7,8,9,10,11,12,13,14,15,16] (by decide)) ?_; clear K; intro a K
    refine T_o K ?_; clear K; intro a K
    iterate 2 (refine T_no1 K (K.no rfl rfl rfl rfl) rfl rfl (M.pick [2,3,4,5,6,7,8,9,10,11,12,13,14,15,16] (by decide)) ?_; clear K; intro a K)
    refine T_o K ?_; clear K
    iterate 23 (refine U_o ?_)
    intro a K
    refine T_end ?_
    refine then_n (wp_ret ?_)
    cases h
    exact ret1 K rfl (res_tmp K rfl) ⟨_, rfl, rfl, ((M).pick [] (by decide))⟩
  have h := cfalse hb h
  have K := K.reb (s := 31) rfl hb
  iterate 3 (refine T_no1 K (K.no rfl rfl rfl rfl) rfl rfl (M.pick [2,3,4,5,6,7,8,9,10,11,12,13,14,15,16] (by decide)) ?_; clear K; intro a K)
  refine T_rd1 K (want_no rfl) rfl rfl (rd_pickF rfl K rfl rfl) M (M.pick [2,3,4,5,6,7,8,9,10,11,12,13,14,15,16] (by decide)) ?_; clear K; intro a K
  refine T_rd1 K (want_no rfl) rfl rfl (rd_move rfl K rfl) M (M.pick [2,3,4,5,6,7,8,9,10,11,12,13,14,15,16] (by decide)) ?_; clear K; intro a K
  iterate 2 (refine T_no1 K (K.no rfl rfl rfl rfl) rfl rfl (M.pick [2,3,4,5,6,7,8,9,10,11,12,13,14,15,16] (by decide)) ?_; clear K; intro a K)
  refine T_rd1 K (want_no rfl) rfl rfl (rd_pickF rfl K rfl rfl) M (M.pick [2,3,4,5,6,7,8,9,10,11,12,13,14,15,16] (by decide)) ?_; clear K; intro a K
  refine T_rd1 K (want_no rfl) rfl rfl (rd_move rfl K rfl) M (M.pick [2,3,4,5,6,7,8,9,10,11,12,13,14,15,16] (by decide)) ?_; clear K; intro a K
  iterate 2 (refine T_no1 K (K.no rfl rfl rfl rfl) rfl rfl (M.pick [2,3,4,5,6,7,8,9,10,11,12,13,14,15,16] (by decide)) ?_; clear K; intro a K)
  refine T_rd1 K (want_no rfl) rfl rfl (rd_pickF rfl K rfl rfl) M (M.pick [2,3,4,5,6,7,8,9,10,11,12,13,14,15,16] (by decide)) ?_; clear K; intro a K
  refine T_rd1 K (want_no rfl) rfl rfl (rd_move rfl K rfl) M (M.pick [2,3,4,5,6,7,8,9,10,11,12,13,14,15,16] (by decide)) ?_; clear K; intro a K
  iterate 2 (refine T_no1 K (K.no rfl rfl rfl rfl) rfl rfl (M.pick [2,3,4,5,6,7,8,9,10,11,12,13,14,15,16] (by decide)) ?_; clear K; intro a K)
  refine T_rd1 K (want_no rfl) rfl rfl (rd_pickF rfl K rfl rfl) M (M.pick [2,3,4,5,6,7,8,9,10,11,12,13,14,15,16] (by decide)) ?_; clear K; intro a K
  refine T_rd1 K (want_no rfl) rfl rfl (rd_move rfl K rfl) M (M.pick [2,3,4,5,6,7,8,9,10,11,12,13,14,15,16] (by decide)) ?_; clear K; intro a K
  iterate 4 (refine T_no1 K (K.no rfl rfl rfl rfl) rfl rfl (M.pick [2,3,4,5,6,7,8,9,10,11,12,13,14,15,16] (by decide)) ?_; clear K; intro a K)
  refine T_rd1 K (want_no rfl) rfl rfl (rd_pickF rfl K rfl rfl) M (M.pick [2,3,4,5,6,7,8,9,10,11,12,13,14,15,16] (by decide)) ?_; clear K; intro a K
  refine T_rd1 K (want_no rfl) rfl rfl (rd_move rfl K rfl) M (M.pick [2,3,4,5,6,7,8,9,10,11,12,13,14,15,16] (by decide)) ?_; clear K; intro a K
  refine T_o K ?_; clear K; intro a K
  iterate 2 (refine T_no1 K (K.no rfl rfl rfl rfl) rfl rfl (M.pick [2,3,4,5,6,7,8,9,10,11,12,13,14,15,16] (by decide)) ?_; clear K; intro a K)
  refine T_o K ?_; clear K
  iterate 23 (refine U_o ?_)
  intro a K
  refine T_end ?_
  refine then_n (wp_ret ?_)
  cases h
  exact ret1 K rfl (res_tmp K rfl) ⟨_, rfl, rfl, ((M).pick [] (by decide))⟩
end Go.Proofs.Ytpmnfhifmmfglab

namespace Go.Proofs.Ytpmnfhifmmfglab
open Go.RowKit
set_option maxRecDepth 100000 in
set_option maxHeartbeats 4000000 in
theorem W_darkslidelaw_LineFar (N : Nat) (da : Int) (db0 : Int) (db1 : Int) (db2 : Int) (db3 : Int) (dc : Int) (dd : List (Int × Int)) (Add : Option Addr) (cdd : Nat) (de0 : Int) (de1 : Int) (de2 : Int) (df0 : Int) (df1 : Int) (df2 : Int) (df3 : Int) (df4 : Int) (df5 : Int) (df6 : Int) (df7 : Int) (df8 : Int) (dg : List (Int × Int)) (Adg : Option Addr) (cdg : Nat) (dh : Int) (o_W : Int) (o_H : Int) (o_P : List Int) (A_o_P : Option Addr) (c_o_P : Nat) (p2 : Int) (p3 : Int) (w0 : World) (Rdd : SL w0 cII Add dd) (Cdd : dd.length ≤ cdd) (Rdg : SL w0 cII Adg dg) (Cdg : dg.length ≤ cdg) (R_o_P : SL w0 (cI .i64) A_o_P o_P) (C_o_P : o_P.length ≤ c_o_P) (r : Bool) (h : D_darkslidelaw_LineFar N da db0 db1 db2 db3 dc dd de0 de1 de2 df0 df1 df2 df3 df4 df5 df6 df7 df8 dg dh o_W o_H o_P p2 p3 = some r) :
    Calls Try.prog 9 #[.agg #[I da, I db0, I db1, I db2, I db3, I dc, .slice Add dd.length cdd, I de0, I de1, I de2, I df0, I df1, I df2, I df3, I df4, I df5, I df6, I df7, I df8, .slice Adg dg.length cdg, I dh], .agg #[I o_W, I o_H, .slice A_o_P o_P.length c_o_P], I p2, I p3] w0 fun e w' => ∃ v, e = .returned v ∧ v = .bool r ∧ Mem w0.heap.size w0 w' [] := by
  refine X_enter Try.func9 rfl Try.ntmps9 rfl ?_
  intro a K
  have M := Mem.start w0
  have K : Kn a 112 [(0, .agg #[I da, I db0, I db1, I db2, I db3, I dc, .slice Add dd.length cdd, I de0, I de1, I de2, I df0, I df1, I df2, I df3, I df4, I df5, I df6, I df7, I df8, .slice Adg dg.length cdg, I dh]), (1, .agg #[I o_W, I o_H, .slice A_o_P o_P.length c_o_P]), (2, I p2), (3, I p3)] := K
  unfold D_darkslidelaw_LineFar at h
  refine wp_seq (X_reg ?_)
  refine X_a K (ac_box rfl K rfl (cs := [I da, I db0, I db1, I db2, I db3, I dc, .slice Add dd.length cdd, I de0, I de1, I de2, I df0, I df1, I df2, I df3, I df4, I df5, I df6, I df7, I df8, .slice Adg dg.length cdg, I dh]) rfl M) ?_
  clear K M; rintro _ a w ⟨g_x, rfl, M⟩ K
  refine X_a K (ac_box rfl K rfl (cs := [I o_W, I o_H, .slice A_o_P o_P.length c_o_P]) rfl M) ?_
  clear K M; rintro _ a w ⟨g_x2, rfl, M⟩ K
  refine X_o K M ?_; clear K; intro a K
  refine wpList_nil (then_n (wp_seq (X_reg ?_)))
  refine X_r K (rd_ldA rfl ty42 K rfl (inM 1 rfl) rfl rfl) M ?_; clear K
  refine Y_r (fun _ K => rd_ldA rfl ty45 K rfl (inM 0 rfl) rfl rfl) M ?_; intro a K
  obtain ⟨r2, h_r2, h⟩ := obind h
  refine X_a K (ac_call (vs := [.agg #[I da, I db0, I db1, I db2, I db3, I dc, .slice Add dd.length cdd, I de0, I de1, I de2, I df0, I df1, I df2, I df3, I df4, I df5, I df6, I df7, I df8, .slice Adg dg.length cdg, I dh], .agg #[I o_W, I o_H, .slice A_o_P o_P.length c_o_P]]) (cap := []) rfl fok15 K rfl rfl (W_line_Whole N da db0 db1 db2 db3 dc dd Add cdd de0 de1 de2 df0 df1 df2 df3 df4 df5 df6 df7 df8 dg Adg cdg dh o_W o_H o_P A_o_P c_o_P _ ((inA Rdd) _ M) Cdd ((inA Rdg) _ M) Cdg ((inA R_o_P) _ M) C_o_P r2 h_r2)) ?_
  have M0 := M; clear K M; rintro _ a w ⟨A, c, rfl, M⟩ K
  replace M := M0.call M; clear M0
  refine X_o K M ?_; clear K
  iterate 2 (refine Y_o M ?_)
  intro a K
  refine X_a K (ac_alloc rfl z24 M) ?_
  clear K M; rintro _ a w ⟨g_x3, rfl, M⟩ K
  refine X_b K (ac_storeA rfl ty24 K rfl (ds := [I r2.1, I r2.2.1, .slice A r2.2.2.1.length c]) rfl rfl 0 M rfl rfl rfl) ?_
  clear K M; rintro _ a w M K
  refine X_o K M ?_; clear K; intro a K
  refine wpList_nil (then_n (wp_seq (wp_seq (X_reg ?_))))
  refine X_o K M ?_; clear K
  refine Y_o M ?_; intro a K
  refine wpList_nil (then_n ?_)
  refine X_cond K rfl (fun hb => ?_) (fun hb => ?_)
  · have h := ctrue hb h
    refine wp_seq (X_reg ?_)
    obtain ⟨r3, h_r3, h⟩ := obind h
    refine X_a K (ac_call (vs := []) (cap := []) rfl fok18 K rfl rfl (W_darkslidelaw_lineBegun N  _  r3 h_r3)) ?_
    have M0 := M; clear K M; rintro _ a w ⟨rfl, M⟩ K
    replace M := M0.call M; clear M0
    refine X_o K M ?_; clear K; intro a K
    refine wpList_nil (then_n (wp_ret (then_r ?_)))
    cases h
    exact ret1 K rfl (res_tmp K rfl) ⟨_, rfl, rfl, ((M).pick [] (by decide))⟩
  have h := cfalse hb h
  refine wp_skip (then_n (wp_seq (wp_seq (X_reg ?_))))
  refine X_r K (rd_field rfl fld45_2 K rfl) M ?_; clear K
  refine Y_r (fun _ K => rd_ldC rfl sc43 K rfl (inM 2 rfl) rfl) M ?_
  refine Y_r (fun _ K => rd_len rfl un43 K rfl) M ?_
  refine Y_o M ?_; intro a K
  refine wpList_nil (then_n ?_)
  refine X_cond K rfl (fun hb => ?_) (fun hb => ?_)
  · have h := ctrue hb h
    refine wp_seq (X_reg ?_)
    refine X_o K M ?_; clear K; intro a K
    refine wpList_nil (then_n (wp_ret (then_r ?_)))
    cases h
    exact ret1 K rfl (res_tmp K rfl) ⟨_, rfl, rfl, ((M).pick [] (by decide))⟩
  have h := cfalse hb h
  refine wp_skip (then_n (wp_seq (X_reg ?_)))
  refine X_o K M ?_; clear K
  refine Y_r (fun _ K => rd_field rfl fld45_2 K rfl) M ?_
  refine Y_r (fun _ K => rd_ldC rfl sc43 K rfl (inM 2 rfl) rfl) M ?_
  refine Y_r (fun _ K => rd_len rfl un43 K rfl) M ?_; intro a K
  obtain ⟨r4, h_r4, h⟩ := obind h
  refine X_a K (ac_call (vs := [I p2, I (o_P.length : Int)]) (cap := []) rfl fok25 K rfl rfl (W_darkslidelaw_choose N p2 (o_P.length : Int) _  r4 h_r4)) ?_
  have M0 := M; clear K M; rintro _ a w ⟨rfl, M⟩ K
  replace M := M0.call M; clear M0
  refine X_o K M ?_; clear K; intro a K
  refine wpList_nil (then_n (wp_seq ?_))
  refine wp_region_tr (fun w => Mem _ _ w _) [0,0,0,0,1,0,0,1,0,1,2] 11 [0,1,2,3,4,5,6,7,8,9,10] (by kernel_rfl) (by kernel_rfl) (by kernel_rfl) rfl M.drew ?_
  replace M := M.drew
  refine R_rd 0 [1,2,3,4,5,6,7,8,9,10] (by kernel_rfl) rfl K (want_no rfl) rfl rfl (rd_field rfl fld45_0 K rfl) ?_; clear K; intro a K
  refine R_rd 1 [2,3,4,5,6,7,8,9,10] (by kernel_rfl) rfl K (want_no rfl) rfl rfl (rd_ldC rfl sc3 K rfl (inM 2 rfl) rfl) ?_; clear K; intro a K
  refine R_rd 2 [3,4,5,6,7,8,9,10] (by kernel_rfl) rfl K (want_no rfl) rfl rfl (rd_field rfl fld45_1 K rfl) ?_; clear K; intro a K
  refine R_rd 3 [4,5,6,7,8,9,10] (by kernel_rfl) rfl K (want_no rfl) rfl rfl (rd_ldC rfl sc3 K rfl (inM 2 rfl) rfl) ?_; clear K; intro a K
  refine R_rd 5 [4,6,7,8,9,10] (by kernel_rfl) rfl K (want_no rfl) rfl rfl (rd_field rfl fld45_2 K rfl) ?_; clear K; intro a K
  refine R_rd 6 [4,7,8,9,10] (by kernel_rfl) rfl K (want_no rfl) rfl rfl (rd_ldC rfl sc43 K rfl (inM 2 rfl) rfl) ?_; clear K; intro a K
  refine R_br [4,9] (by kernel_rfl) ⟨?_, ?_, trivial⟩
  ·
    refine R_ac [7,8,9,10] (by kernel_rfl) rfl K (want_no rfl) rfl rfl (ac_bslice0 (C := (cI .i64)) rfl sl43 rfl K M) ?_
    clear K M; rintro _ a w ⟨gs, rfl, M⟩ K
    refine ⟨fun _ => M.pick [1,2,3,4] (by decide), ?_⟩
    refine R_br [7,9] (by kernel_rfl) ⟨?_, ?_, trivial⟩
    ·
      obtain ⟨l2, h_l2, h⟩ := obind h
      refine R_ac [8,9,10] (by kernel_rfl) rfl K (want_no rfl) rfl rfl (ac_app (C := (cI .i64)) (xs := ([] : List Int)) (ys := o_P) rfl sl43 rfl z3 rfl rfl K rfl rfl 0 M rfl ((inA R_o_P) _ M) h_l2) ?_
      clear K M; rintro _ a w ⟨A2, c2, rfl, M⟩ K
      refine ⟨fun _ => M.pick [1,2,3,4] (by decide), ?_⟩
      refine R_rd 8 [9,10] (by kernel_rfl) rfl K (want_no rfl) rfl rfl (rd_build rfl K (vs := [(0, I o_W), (1, I o_H), (2, .slice A2 l2.length c2)]) (cs := [I o_W, I o_H, .slice A2 l2.length c2]) rfl (by kernel_rfl)) ?_; clear K; intro a K
      refine R_br [9] (by kernel_rfl) ⟨?_, trivial⟩
      refine R_ac [10] (by kernel_rfl) rfl K (want_no rfl) rfl rfl (ac_alloc rfl z45 M) ?_
      clear K M; rintro _ a w ⟨g_x4, rfl, M⟩ K
      refine ⟨fun _ => M.pick [2,3,4,5] (by decide), ?_⟩
      refine R_br [10] (by kernel_rfl) ⟨?_, trivial⟩
      refine R_a0 [] (by kernel_rfl) rfl K (want_no rfl) rfl (ac_storeA rfl ty45 K rfl (ds := [I o_W, I o_H, .slice A2 l2.length c2]) rfl rfl 0 M rfl rfl rfl) ?_
      clear K M; rintro _ a w M K
      refine ⟨fun h => absurd h (by decide), ?_⟩
      refine R_end ?_
      refine then_n (wp_seq ?_)
      refine wp_region_tl (fun w => Mem _ _ w _) [0,0,0,0,1,0,2] (by kernel_rfl) (by kernel_rfl) M.drew ?_
      replace M := M.drew
      refine T_r K (rd_field rfl fld45_2 K rfl) ?_; clear K
      refine U_r (fun _ K => rd_ldC rfl sc43 K rfl (inM 0 rfl) rfl) ?_
      iterate 2 (refine U_o ?_)
      intro a K
      obtain ⟨r5, h_r5, h⟩ := obind h
      refine T_a K (ac_call (vs := [I p3, I 65536]) (cap := []) rfl fok25 K rfl rfl (W_darkslidelaw_choose N p3 65536 _  r5 h_r5)) ?_
      have M0 := M; clear K M; rintro _ a w ⟨rfl, M⟩ K
      replace M := M0.call M; clear M0
      refine ⟨M.pick [0,1,2,3,4,5] (by decide), ?_⟩
      obtain ⟨e, h_e, h⟩ := obind h
      refine T_r K (rd_ix rfl sl43 K rfl rfl (inR (C := (cI .i64)) 1 rfl rfl) h_e) ?_; clear K; intro a K
      obtain ⟨l3, h_l3, h⟩ := obind h
      refine T_b K (ac_rowset (el := r5) rfl sz3 rfl rfl K rfl rfl rfl 1 M rfl h_l3) ?_
      have M0 := M; clear K M; rintro _ a w M K
      have hl := setL_len h_l3
      try rw [hl] at M
      clear hl
      clear M0
      refine T_end ?_
      refine then_n (wp_seq (X_reg ?_))
      refine X_r K (rd_ldA rfl ty42 K rfl (inM 5 rfl) rfl rfl) M ?_; clear K
      refine Y_r (fun _ K => rd_ldA rfl ty45 K rfl (inM 0 rfl) rfl rfl) M ?_; intro a K
      obtain ⟨r6, h_r6, h⟩ := obind h
      refine X_a K (ac_call (vs := [.agg #[I da, I db0, I db1, I db2, I db3, I dc, .slice Add dd.length cdd, I de0, I de1, I de2, I df0, I df1, I df2, I df3, I df4, I df5, I df6, I df7, I df8, .slice Adg dg.length cdg, I dh], .agg #[I o_W, I o_H, .slice A2 l3.length c2]]) (cap := []) rfl fok15 K rfl rfl (W_line_Whole N da db0 db1 db2 db3 dc dd Add cdd de0 de1 de2 df0 df1 df2 df3 df4 df5 df6 df7 df8 dg Adg cdg dh o_W o_H l3 A2 c2 _ ((inA Rdd) _ M) Cdd ((inA Rdg) _ M) Cdg ((inR (C := (cI .i64)) 1 rfl rfl) _ M) (M.cap 1 rfl) r6 h_r6)) ?_
      have M0 := M; clear K M; rintro _ a w ⟨A3, c3, rfl, M⟩ K
      replace M := M0.call M; clear M0
      refine X_o K M ?_; clear K
      iterate 2 (refine Y_o M ?_)
      intro a K
      refine X_a K (ac_alloc rfl z24 M) ?_
      clear K M; rintro _ a w ⟨g_x5, rfl, M⟩ K
      refine X_b K (ac_storeA rfl ty24 K rfl (ds := [I r6.1, I r6.2.1, .slice A3 r6.2.2.1.length c3]) rfl rfl 0 M rfl rfl rfl) ?_
      clear K M; rintro _ a w M K
      refine X_o K M ?_; clear K; intro a K
      refine wpList_nil (then_n (wp_seq (wp_seq (X_reg ?_))))
      refine X_o K M ?_; clear K
      iterate 2 (refine Y_o M ?_)
      intro a K
      rcases Bool.eq_false_or_eq_true (!decide (r6.2.2.2 = 0)) with hb | hb
      · have h := ctrue hb h
        have K := K.reb (s := 58) rfl hb
        refine X_o K M ?_; clear K
        iterate 16 (refine Y_o M ?_)
        intro a K
        refine wpList_nil (then_n ?_)
        refine X_condT K rfl ?_
        refine wp_seq (X_reg ?_)
        refine X_o K M ?_; clear K; intro a K
        refine wpList_nil (then_n (wp_ret (then_r ?_)))
        cases h
        exact ret1 K rfl (res_tmp K rfl) ⟨_, rfl, rfl, ((M).pick [] (by decide))⟩
      have h := cfalse hb h
      have K := K.reb (s := 58) rfl hb
      refine X_r K (rd_field rfl fld24_2 K rfl) M ?_; clear K
      refine Y_r (fun _ K => rd_ldC rfl sc22 K rfl (inM 4 rfl) rfl) M ?_
      refine Y_r (fun _ K => rd_len rfl un22 K rfl) M ?_
      refine Y_r (fun _ K => rd_field rfl fld45_2 K rfl) M ?_
      refine Y_r (fun _ K => rd_ldC rfl sc43 K rfl (inM 6 rfl) rfl) M ?_
      refine Y_r (fun _ K => rd_len rfl un43 K rfl) M ?_
      iterate 3 (refine Y_o M ?_)
      intro a K
      rcases Bool.eq_false_or_eq_true (!decide ((r2.2.2.1.length : Int) = (o_P.length : Int))) with hb | hb
      · have h := ctrue hb h
        have K := K.reb (s := 67) rfl hb
        refine X_o K M ?_; clear K
        iterate 7 (refine Y_o M ?_)
        intro a K
        refine wpList_nil (then_n ?_)
        refine X_condT K rfl ?_
        refine wp_seq (X_reg ?_)
        refine X_o K M ?_; clear K; intro a K
        refine wpList_nil (then_n (wp_ret (then_r ?_)))
        cases h
        exact ret1 K rfl (res_tmp K rfl) ⟨_, rfl, rfl, ((M).pick [] (by decide))⟩
      have h := cfalse hb h
      have K := K.reb (s := 67) rfl hb
      refine X_r K (rd_field rfl fld24_2 K rfl) M ?_; clear K
      refine Y_r (fun _ K => rd_ldC rfl sc22 K rfl (inM 0 rfl) rfl) M ?_
      refine Y_r (fun _ K => rd_len rfl un22 K rfl) M ?_
      refine Y_r (fun _ K => rd_field rfl fld45_2 K rfl) M ?_
      refine Y_r (fun _ K => rd_ldC rfl sc43 K rfl (inM 6 rfl) rfl) M ?_
      refine Y_r (fun _ K => rd_len rfl un43 K rfl) M ?_
      iterate 2 (refine Y_o M ?_)
      intro a K
      refine wpList_nil (then_n ?_)
      refine X_cond K rfl (fun hb => ?_) (fun hb => ?_)
      · have h := ctrue hb h
        refine wp_seq (X_reg ?_)
        refine X_o K M ?_; clear K; intro a K
        refine wpList_nil (then_n (wp_ret (then_r ?_)))
        cases h
        exact ret1 K rfl (res_tmp K rfl) ⟨_, rfl, rfl, ((M).pick [] (by decide))⟩
      have h := cfalse hb h
      refine wp_skip (then_n (wp_seq (wp_seq (X_reg ?_))))
      refine X_o K M ?_; clear K; intro a K
      refine wpList_nil (then_n (wp_block ?_))
      refine X_lp (id := 0) (Rel := fun (i : Int) a w => Kn a 112 [(5, .pointer (some ⟨g_x2, 0, none⟩)), (9, .pointer (some ⟨g_x3, 0, none⟩)), (11, I r4), (13, .pointer (some ⟨g_x5, 0, none⟩)), (15, I i)] ∧ Mem w0.heap.size w0 w [.blk g_x5 24 [I r6.1, I r6.2.1, .slice A3 r6.2.2.1.length c3], .row 34 3 A3 r6.2.2.1.length c3 (cIII.all r6.2.2.1), .blk g_x3 24 [I r2.1, I r2.2.1, .slice A r2.2.2.1.length c], .row 34 3 A r2.2.2.1.length c (cIII.all r2.2.2.1), .blk g_x2 45 [I o_W, I o_H, .slice A_o_P o_P.length c_o_P]]) h (fun _ _ => rfl) ⟨K.pick [5,9,11,13,15], M.pick [0,1,4,5,6] (by decide)⟩ ?_ ?_
      · clear K M h
        rintro i2 a w ⟨K, M⟩ h
        try dsimp only at h
        refine inb_e ?_
        refine then_n (wp_seq (X_reg ?_))
        obtain ⟨r7, h_r7, h⟩ := obind h
        refine X_a K (ac_call (vs := []) (cap := []) rfl fok18 K rfl rfl (W_darkslidelaw_lineBegun N  _  r7 h_r7)) ?_
        have M0 := M; clear K M; rintro _ a w ⟨rfl, M⟩ K
        replace M := M0.call M; clear M0
        refine X_o K M ?_; clear K; intro a K
        refine wpList_nil (then_n (wp_ret ?_))
        cases h
        exact ret1 K rfl (res_tmp K rfl) ⟨_, rfl, rfl, ((M).pick [] (by decide))⟩
      clear K M h
      rintro kk fuel i a w hk1 ⟨K, M⟩ h
      unfold D_darkslidelaw_LineFar_l1 at h
      refine wp_seq (wp_seq (X_reg ?_))
      refine X_o K M ?_; clear K
      refine Y_r (fun _ K => rd_field rfl fld45_2 K rfl) M ?_
      refine Y_r (fun _ K => rd_ldC rfl sc43 K rfl (inM 4 rfl) rfl) M ?_
      refine Y_r (fun _ K => rd_len rfl un43 K rfl) M ?_
      refine Y_o M ?_; intro a K
      refine wpList_nil (then_n ?_)
      refine X_cond K rfl (fun hb => ?_) (fun hb => ?_)
      · have h := ctrue hb h
        refine wp_skip (then_n (wp_seq (wp_block (wp_seq ?_))))
        refine wp_region_tl (fun w => Mem _ _ w _) [0,0,0,0,0,0,0,0,0,0] (by kernel_rfl) (by kernel_rfl) M.drew ?_
        replace M := M.drew
        refine T_o K ?_; clear K
        refine U_r (fun _ K => rd_field rfl fld45_0 K rfl) ?_
        refine U_r (fun _ K => rd_ldC rfl sc3 K rfl (inM 4 rfl) rfl) ?_; intro a K
        obtain ⟨_, h0, h⟩ := obind h
        have h0 := nz_spec h0
        refine T_r K (rd_quo rfl K rfl rfl h0) ?_; clear K
        refine U_o ?_
        refine U_r (fun _ K => rd_field rfl fld45_0 K rfl) ?_
        refine U_r (fun _ K => rd_ldC rfl sc3 K rfl (inM 4 rfl) rfl) ?_; intro a K
        obtain ⟨_, h0, h⟩ := obind h
        have h0 := nz_spec h0
        refine T_r K (rd_quo rfl K rfl rfl h0) ?_; clear K
        refine U_o ?_
        obtain ⟨x6, hx, h⟩ := olet h
        refine U_r (fun _ K => rdi hx (rd_assign rfl K rfl)) ?_; intro a K
        refine T_end ?_
        refine then_n (wp_seq ?_)
        refine wp_region_tl (fun w => Mem _ _ w _) [0,0,0,0,0,0,0,0,0,0,0,0,0,0,0,0,0,0,0] (by kernel_rfl) (by kernel_rfl) M.drew ?_
        replace M := M.drew
        refine T_o K ?_; clear K
        iterate 2 (refine U_o ?_)
        intro a K
        rcases Bool.eq_false_or_eq_true (decide (4 < x6)) with hb | hb
        · have h := ctrue hb h
          have K := K.reb (s := 94) rfl hb
          refine T_o K ?_; clear K
          iterate 3 (refine U_o ?_)
          refine U_r (fun _ K => rd_field rfl fld24_2 K rfl) ?_
          refine U_r (fun _ K => rd_ldC rfl sc22 K rfl (inM 2 rfl) rfl) ?_
          refine U_o ?_
          obtain ⟨e6, h_e6, h⟩ := obind h
          refine U_r (fun _ K => rd_ix rfl sl22 K rfl rfl (inR (C := cIII) 3 rfl rfl) h_e6) ?_
          refine U_r (fun _ K => rd_elA rfl ty34 K rfl rfl rfl (inR (C := cIII) 3 rfl rfl) h_e6) ?_
          refine U_r (fun _ K => rd_field rfl fld24_2 K rfl) ?_
          refine U_r (fun _ K => rd_ldC rfl sc22 K rfl (inM 0 rfl) rfl) ?_
          refine U_o ?_
          obtain ⟨e7, h_e7, h⟩ := obind h
          refine U_r (fun _ K => rd_ix rfl sl22 K rfl rfl (inR (C := cIII) 1 rfl rfl) h_e7) ?_
          refine U_r (fun _ K => rd_elA rfl ty34 K rfl rfl rfl (inR (C := cIII) 1 rfl rfl) h_e7) ?_
          refine U_r (fun _ K => rd_aggN eg34 rfl K rfl rfl (eqr34 _ _ _ _ _ _)) ?_
          refine U_o ?_; intro a K
          refine T_end ?_
          refine then_n ?_
          refine X_cond K rfl (fun hb => ?_) (fun hb => ?_)
          · have h := ctrue hb h
            refine wp_seq (X_reg ?_)
            refine X_o K M ?_; clear K; intro a K
            refine wpList_nil (then_n (wp_ret (inb_r (then_r (then_r (inb_r (then_r ?_)))))))
            cases h
            exact ret1 K rfl (res_tmp K rfl) ⟨_, rfl, rfl, ((M).pick [] (by decide))⟩
          have h := cfalse hb h
          refine wp_skip (inb_n (then_n (X_reg ?_)))
          refine X_o K M ?_; clear K
          refine Y_o M ?_
          obtain ⟨x7, hx, h⟩ := olet h
          refine Y_r (fun _ K => rdi hx (rd_assign rfl K rfl)) M ?_; intro a K
          refine wpList_nil ?_
          exact then_n ⟨x7, ⟨K.pick [5,9,11,13,15], M.pick [0,1,2,3,4] (by decide)⟩, h⟩
        have h := cfalse hb h
        have K := K.reb (s := 94) rfl hb
        refine T_o K ?_; clear K
        iterate 3 (refine U_o ?_)
        intro a K
        rcases Bool.eq_false_or_eq_true (decide (x6 < (-4))) with hb | hb
        · have h := ctrue hb h
          have K := K.reb (s := 98) rfl hb
          refine T_r K (rd_field rfl fld24_2 K rfl) ?_; clear K
          refine U_r (fun _ K => rd_ldC rfl sc22 K rfl (inM 2 rfl) rfl) ?_
          refine U_o ?_
          obtain ⟨e8, h_e8, h⟩ := obind h
          refine U_r (fun _ K => rd_ix rfl sl22 K rfl rfl (inR (C := cIII) 3 rfl rfl) h_e8) ?_
          refine U_r (fun _ K => rd_elA rfl ty34 K rfl rfl rfl (inR (C := cIII) 3 rfl rfl) h_e8) ?_
          refine U_r (fun _ K => rd_field rfl fld24_2 K rfl) ?_
          refine U_r (fun _ K => rd_ldC rfl sc22 K rfl (inM 0 rfl) rfl) ?_
          refine U_o ?_
          obtain ⟨e9, h_e9, h⟩ := obind h
          refine U_r (fun _ K => rd_ix rfl sl22 K rfl rfl (inR (C := cIII) 1 rfl rfl) h_e9) ?_
          refine U_r (fun _ K => rd_elA rfl ty34 K rfl rfl rfl (inR (C := cIII) 1 rfl rfl) h_e9) ?_
          refine U_r (fun _ K => rd_aggN eg34 rfl K rfl rfl (eqr34 _ _ _ _ _ _)) ?_
          refine U_o ?_; intro a K
          refine T_end ?_
          refine then_n ?_
          refine X_cond K rfl (fun hb => ?_) (fun hb => ?_)
          · have h := ctrue hb h
            refine wp_seq (X_reg ?_)
            refine X_o K M ?_; clear K; intro a K
            refine wpList_nil (then_n (wp_ret (inb_r (then_r (then_r (inb_r (then_r ?_)))))))
            cases h
            exact ret1 K rfl (res_tmp K rfl) ⟨_, rfl, rfl, ((M).pick [] (by decide))⟩
          have h := cfalse hb h
          refine wp_skip (inb_n (then_n (X_reg ?_)))
          refine X_o K M ?_; clear K
          refine Y_o M ?_
          obtain ⟨x8, hx, h⟩ := olet h
          refine Y_r (fun _ K => rdi hx (rd_assign rfl K rfl)) M ?_; intro a K
          refine wpList_nil ?_
          exact then_n ⟨x8, ⟨K.pick [5,9,11,13,15], M.pick [0,1,2,3,4] (by decide)⟩, h⟩
        have h := cfalse hb h
        have K := K.reb (s := 98) rfl hb
        refine T_o K ?_; clear K
        iterate 11 (refine U_o ?_)
        intro a K
        refine T_end ?_
        refine then_n ?_
        refine X_condF K rfl ?_
        refine wp_skip (inb_n (then_n (X_reg ?_)))
        refine X_o K M ?_; clear K
        refine Y_o M ?_
        obtain ⟨x9, hx, h⟩ := olet h
        refine Y_r (fun _ K => rdi hx (rd_assign rfl K rfl)) M ?_; intro a K
        refine wpList_nil ?_
        exact then_n ⟨x9, ⟨K.pick [5,9,11,13,15], M.pick [0,1,2,3,4] (by decide)⟩, h⟩
      have h := cfalse hb h
      refine wp_exit ?_
      refine then_e ?_
      exact then_e (hk1 i _ _ ⟨K.pick [5,9,11,13,15], M.pick [0,1,2,3,4] (by decide)⟩ h)
    ·
      refine R_ac [7,8,10] (by kernel_rfl) rfl K (want_no rfl) rfl rfl (ac_alloc rfl z45 M) ?_
      clear K M; rintro _ a w ⟨g_x6, rfl, M⟩ K
      refine ⟨fun _ => M.pick [2,3,4,5] (by decide), ?_⟩
      refine R_br [7] (by kernel_rfl) ⟨?_, trivial⟩
      obtain ⟨l4, h_l4, h⟩ := obind h
      refine R_ac [8,10] (by kernel_rfl) rfl K (want_no rfl) rfl rfl (ac_app (C := (cI .i64)) (xs := ([] : List Int)) (ys := o_P) rfl sl43 rfl z3 rfl rfl K rfl rfl 1 M rfl ((inA R_o_P) _ M) h_l4) ?_
      clear K M; rintro _ a w ⟨A4, c4, rfl, M⟩ K
      refine ⟨fun _ => M.pick [2,3,4,5] (by decide), ?_⟩
      refine R_rd 8 [10] (by kernel_rfl) rfl K (want_no rfl) rfl rfl (rd_build rfl K (vs := [(0, I o_W), (1, I o_H), (2, .slice A4 l4.length c4)]) (cs := [I o_W, I o_H, .slice A4 l4.length c4]) rfl (by kernel_rfl)) ?_; clear K; intro a K
      refine R_br [10] (by kernel_rfl) ⟨?_, trivial⟩
      refine R_a0 [] (by kernel_rfl) rfl K (want_no rfl) rfl (ac_storeA rfl ty45 K rfl (ds := [I o_W, I o_H, .slice A4 l4.length c4]) rfl rfl 0 M rfl rfl rfl) ?_
      clear K M; rintro _ a w M K
      refine ⟨fun h => absurd h (by decide), ?_⟩
      refine R_end ?_
      refine then_n (wp_seq ?_)
      refine wp_region_tl (fun w => Mem _ _ w _) [0,0,0,0,1,0,2] (by kernel_rfl) (by kernel_rfl) M.drew ?_
      replace M := M.drew
      refine T_r K (rd_field rfl fld45_2 K rfl) ?_; clear K
      refine U_r (fun _ K => rd_ldC rfl sc43 K rfl (inM 0 rfl) rfl) ?_
      iterate 2 (refine U_o ?_)
      intro a K
      obtain ⟨r8, h_r8, h⟩ := obind h
      refine T_a K (ac_call (vs := [I p3, I 65536]) (cap := []) rfl fok25 K rfl rfl (W_darkslidelaw_choose N p3 65536 _  r8 h_r8)) ?_
      have M0 := M; clear K M; rintro _ a w ⟨rfl, M⟩ K
      replace M := M0.call M; clear M0
      refine ⟨M.pick [0,1,2,3,4,5] (by decide), ?_⟩
      obtain ⟨e10, h_e10, h⟩ := obind h
      refine T_r K (rd_ix rfl sl43 K rfl rfl (inR (C := (cI .i64)) 1 rfl rfl) h_e10) ?_; clear K; intro a K
      obtain ⟨l5, h_l5, h⟩ := obind h
      refine T_b K (ac_rowset (el := r8) rfl sz3 rfl rfl K rfl rfl rfl 1 M rfl h_l5) ?_
      have M0 := M; clear K M; rintro _ a w M K
      have hl := setL_len h_l5
      try rw [hl] at M
      clear hl
      clear M0
      refine T_end ?_
      refine then_n (wp_seq (X_reg ?_))
      refine X_r K (rd_ldA rfl ty42 K rfl (inM 5 rfl) rfl rfl) M ?_; clear K
      refine Y_r (fun _ K => rd_ldA rfl ty45 K rfl (inM 0 rfl) rfl rfl) M ?_; intro a K
      obtain ⟨r9, h_r9, h⟩ := obind h
      refine X_a K (ac_call (vs := [.agg #[I da, I db0, I db1, I db2, I db3, I dc, .slice Add dd.length cdd, I de0, I de1, I de2, I df0, I df1, I df2, I df3, I df4, I df5, I df6, I df7, I df8, .slice Adg dg.length cdg, I dh], .agg #[I o_W, I o_H, .slice A4 l5.length c4]]) (cap := []) rfl fok15 K rfl rfl (W_line_Whole N da db0 db1 db2 db3 dc dd Add cdd de0 de1 de2 df0 df1 df2 df3 df4 df5 df6 df7 df8 dg Adg cdg dh o_W o_H l5 A4 c4 _ ((inA Rdd) _ M) Cdd ((inA Rdg) _ M) Cdg ((inR (C := (cI .i64)) 1 rfl rfl) _ M) (M.cap 1 rfl) r9 h_r9)) ?_
      have M0 := M; clear K M; rintro _ a w ⟨A5, c5, rfl, M⟩ K
      replace M := M0.call M; clear M0
      refine X_o K M ?_; clear K
      iterate 2 (refine Y_o M ?_)
      intro a K
      refine X_a K (ac_alloc rfl z24 M) ?_
      clear K M; rintro _ a w ⟨g_x7, rfl, M⟩ K
      refine X_b K (ac_storeA rfl ty24 K rfl (ds := [I r9.1, I r9.2.1, .slice A5 r9.2.2.1.length c5]) rfl rfl 0 M rfl rfl rfl) ?_
      clear K M; rintro _ a w M K
      refine X_o K M ?_; clear K; intro a K
      refine wpList_nil (then_n (wp_seq (wp_seq (X_reg ?_))))
      refine X_o K M ?_; clear K
      iterate 2 (refine Y_o M ?_)
      intro a K
      rcases Bool.eq_false_or_eq_true (!decide (r9.2.2.2 = 0)) with hb | hb
      · have h := ctrue hb h
        have K := K.reb (s := 58) rfl hb
        refine X_o K M ?_; clear K
        iterate 16 (refine Y_o M ?_)
        intro a K
        refine wpList_nil (then_n ?_)
        refine X_condT K rfl ?_
        refine wp_seq (X_reg ?_)
        refine X_o K M ?_; clear K; intro a K
        refine wpList_nil (then_n (wp_ret (then_r ?_)))
        cases h
        exact ret1 K rfl (res_tmp K rfl) ⟨_, rfl, rfl, ((M).pick [] (by decide))⟩
      have h := cfalse hb h
      have K := K.reb (s := 58) rfl hb
      refine X_r K (rd_field rfl fld24_2 K rfl) M ?_; clear K
      refine Y_r (fun _ K => rd_ldC rfl sc22 K rfl (inM 4 rfl) rfl) M ?_
      refine Y_r (fun _ K => rd_len rfl un22 K rfl) M ?_
      refine Y_r (fun _ K => rd_field rfl fld45_2 K rfl) M ?_
      refine Y_r (fun _ K => rd_ldC rfl sc43 K rfl (inM 6 rfl) rfl) M ?_
      refine Y_r (fun _ K => rd_len rfl un43 K rfl) M ?_
      iterate 3 (refine Y_o M ?_)
      intro a K
      rcases Bool.eq_false_or_eq_true (!decide ((r2.2.2.1.length : Int) = (o_P.length : Int))) with hb | hb
      · have h := ctrue hb h
        have K := K.reb (s := 67) rfl hb
        refine X_o K M ?_; clear K
        iterate 7 (refine Y_o M ?_)
        intro a K
        refine wpList_nil (then_n ?_)
        refine X_condT K rfl ?_
        refine wp_seq (X_reg ?_)
        refine X_o K M ?_; clear K; intro a K
        refine wpList_nil (then_n (wp_ret (then_r ?_)))
        cases h
        exact ret1 K rfl (res_tmp K rfl) ⟨_, rfl, rfl, ((M).pick [] (by decide))⟩
      have h := cfalse hb h
      have K := K.reb (s := 67) rfl hb
      refine X_r K (rd_field rfl fld24_2 K rfl) M ?_; clear K
      refine Y_r (fun _ K => rd_ldC rfl sc22 K rfl (inM 0 rfl) rfl) M ?_
      refine Y_r (fun _ K => rd_len rfl un22 K rfl) M ?_
      refine Y_r (fun _ K => rd_field rfl fld45_2 K rfl) M ?_
      refine Y_r (fun _ K => rd_ldC rfl sc43 K rfl (inM 6 rfl) rfl) M ?_
      refine Y_r (fun _ K => rd_len rfl un43 K rfl) M ?_
      iterate 2 (refine Y_o M ?_)
      intro a K
      refine wpList_nil (then_n ?_)
      refine X_cond K rfl (fun hb => ?_) (fun hb => ?_)
      · have h := ctrue hb h
        refine wp_seq (X_reg ?_)
        refine X_o K M ?_; clear K; intro a K
        refine wpList_nil (then_n (wp_ret (then_r ?_)))
        cases h
        exact ret1 K rfl (res_tmp K rfl) ⟨_, rfl, rfl, ((M).pick [] (by decide))⟩
      have h := cfalse hb h
      refine wp_skip (then_n (wp_seq (wp_seq (X_reg ?_))))
      refine X_o K M ?_; clear K; intro a K
      refine wpList_nil (then_n (wp_block ?_))
      refine X_lp (id := 0) (Rel := fun (i3 : Int) a w => Kn a 112 [(5, .pointer (some ⟨g_x2, 0, none⟩)), (9, .pointer (some ⟨g_x3, 0, none⟩)), (11, I r4), (13, .pointer (some ⟨g_x7, 0, none⟩)), (15, I i3)] ∧ Mem w0.heap.size w0 w [.blk g_x7 24 [I r9.1, I r9.2.1, .slice A5 r9.2.2.1.length c5], .row 34 3 A5 r9.2.2.1.length c5 (cIII.all r9.2.2.1), .blk g_x3 24 [I r2.1, I r2.2.1, .slice A r2.2.2.1.length c], .row 34 3 A r2.2.2.1.length c (cIII.all r2.2.2.1), .blk g_x2 45 [I o_W, I o_H, .slice A_o_P o_P.length c_o_P]]) h (fun _ _ => rfl) ⟨K.pick [5,9,11,13,15], M.pick [0,1,4,5,6] (by decide)⟩ ?_ ?_
      · clear K M h
        rintro i4 a w ⟨K, M⟩ h
        try dsimp only at h
        refine inb_e ?_
        refine then_n (wp_seq (X_reg ?_))
        obtain ⟨r10, h_r10, h⟩ := obind h
        refine X_a K (ac_call (vs := []) (cap := []) rfl fok18 K rfl rfl (W_darkslidelaw_lineBegun N  _  r10 h_r10)) ?_
        have M0 := M; clear K M; rintro _ a w ⟨rfl, M⟩ K
        replace M := M0.call M; clear M0
        refine X_o K M ?_; clear K; intro a K
        refine wpList_nil (then_n (wp_ret ?_))
        cases h
        exact ret1 K rfl (res_tmp K rfl) ⟨_, rfl, rfl, ((M).pick [] (by decide))⟩
      clear K M h
      rintro kk fuel i3 a w hk1 ⟨K, M⟩ h
      unfold D_darkslidelaw_LineFar_l1 at h
      refine wp_seq (wp_seq (X_reg ?_))
      refine X_o K M ?_; clear K
      refine Y_r (fun _ K => rd_field rfl fld45_2 K rfl) M ?_
      refine Y_r (fun _ K => rd_ldC rfl sc43 K rfl (inM 4 rfl) rfl) M ?_
      refine Y_r (fun _ K => rd_len rfl un43 K rfl) M ?_
      refine Y_o M ?_; intro a K
      refine wpList_nil (then_n ?_)
      refine X_cond K rfl (fun hb => ?_) (fun hb => ?_)
      · have h := ctrue hb h
        refine wp_skip (then_n (wp_seq (wp_block (wp_seq ?_))))
        refine wp_region_tl (fun w => Mem _ _ w _) [0,0,0,0,0,0,0,0,0,0] (by kernel_rfl) (by kernel_rfl) M.drew ?_
        replace M := M.drew
        refine T_o K ?_; clear K
        refine U_r (fun _ K => rd_field rfl fld45_0 K rfl) ?_
        refine U_r (fun _ K => rd_ldC rfl sc3 K rfl (inM 4 rfl) rfl) ?_; intro a K
        obtain ⟨_, h0, h⟩ := obind h
        have h0 := nz_spec h0
        refine T_r K (rd_quo rfl K rfl rfl h0) ?_; clear K
        refine U_o ?_
        refine U_r (fun _ K => rd_field rfl fld45_0 K rfl) ?_
        refine U_r (fun _ K => rd_ldC rfl sc3 K rfl (inM 4 rfl) rfl) ?_; intro a K
        obtain ⟨_, h0, h⟩ := obind h
        have h0 := nz_spec h0
        refine T_r K (rd_quo rfl K rfl rfl h0) ?_; clear K
        refine U_o ?_
        obtain ⟨x14, hx, h⟩ := olet h
        refine U_r (fun _ K => rdi hx (rd_assign rfl K rfl)) ?_; intro a K
        refine T_end ?_
        refine then_n (wp_seq ?_)
        refine wp_region_tl (fun w => Mem _ _ w _) [0,0,0,0,0,0,0,0,0,0,0,0,0,0,0,0,0,0,0] (by kernel_rfl) (by kernel_rfl) M.drew ?_
        replace M := M.drew
        refine T_o K ?_; clear K
        iterate 2 (refine U_o ?_)
        intro a K
        rcases Bool.eq_false_or_eq_true (decide (4 < x14)) with hb | hb
        · have h := ctrue hb h
          have K := K.reb (s := 94) rfl hb
          refine T_o K ?_; clear K
          iterate 3 (refine U_o ?_)
          refine U_r (fun _ K => rd_field rfl fld24_2 K rfl) ?_
          refine U_r (fun _ K => rd_ldC rfl sc22 K rfl (inM 2 rfl) rfl) ?_
          refine U_o ?_
          obtain ⟨e15, h_e15, h⟩ := obind h
          refine U_r (fun _ K => rd_ix rfl sl22 K rfl rfl (inR (C := cIII) 3 rfl rfl) h_e15) ?_
          refine U_r (fun _ K => rd_elA rfl ty34 K rfl rfl rfl (inR (C := cIII) 3 rfl rfl) h_e15) ?_
          refine U_r (fun _ K => rd_field rfl fld24_2 K rfl) ?_
          refine U_r (fun _ K => rd_ldC rfl sc22 K rfl (inM 0 rfl) rfl) ?_
          refine U_o ?_
          obtain ⟨e16, h_e16, h⟩ := obind h
          refine U_r (fun _ K => rd_ix rfl sl22 K rfl rfl (inR (C := cIII) 1 rfl rfl) h_e16) ?_
          refine U_r (fun _ K => rd_elA rfl ty34 K rfl rfl rfl (inR (C := cIII) 1 rfl rfl) h_e16) ?_
          refine U_r (fun _ K => rd_aggN eg34 rfl K rfl rfl (eqr34 _ _ _ _ _ _)) ?_
          refine U_o ?_; intro a K
          refine T_end ?_
          refine then_n ?_
          refine X_cond K rfl (fun hb => ?_) (fun hb => ?_)
          · have h := ctrue hb h
            refine wp_seq (X_reg ?_)
            refine X_o K M ?_; clear K; intro a K
            refine wpList_nil (then_n (wp_ret (inb_r (then_r (then_r (inb_r (then_r ?_)))))))
            cases h
            exact ret1 K rfl (res_tmp K rfl) ⟨_, rfl, rfl, ((M).pick [] (by decide))⟩
          have h := cfalse hb h
          refine wp_skip (inb_n (then_n (X_reg ?_)))
          refine X_o K M ?_; clear K
          refine Y_o M ?_
          obtain ⟨x15, hx, h⟩ := olet h
          refine Y_r (fun _ K => rdi hx (rd_assign rfl K rfl)) M ?_; intro a K
          refine wpList_nil ?_
          exact then_n ⟨x15, ⟨K.pick [5,9,11,13,15], M.pick [0,1,2,3,4] (by decide)⟩, h⟩
        have h := cfalse hb h
        have K := K.reb (s := 94) rfl hb
        refine T_o K ?_; clear K
        iterate 3 (refine U_o ?_)
        intro a K
        rcases Bool.eq_false_or_eq_true (decide (x14 < (-4))) with hb | hb
        · have h := ctrue hb h
          have K := K.reb (s := 98) rfl hb
          refine T_r K (rd_field rfl fld24_2 K rfl) ?_; clear K
          refine U_r (fun _ K => rd_ldC rfl sc22 K rfl (inM 2 rfl) rfl) ?_
          refine U_o ?_
          obtain ⟨e17, h_e17, h⟩ := obind h
          refine U_r (fun _ K => rd_ix rfl sl22 K rfl rfl (inR (C := cIII) 3 rfl rfl) h_e17) ?_
          refine U_r (fun _ K => rd_elA rfl ty34 K rfl rfl rfl (inR (C := cIII) 3 rfl rfl) h_e17) ?_
          refine U_r (fun _ K => rd_field rfl fld24_2 K rfl) ?_
          refine U_r (fun _ K => rd_ldC rfl sc22 K rfl (inM 0 rfl) rfl) ?_
          refine U_o ?_
          obtain ⟨e18, h_e18, h⟩ := obind h
          refine U_r (fun _ K => rd_ix rfl sl22 K rfl rfl (inR (C := cIII) 1 rfl rfl) h_e18) ?_
          refine U_r (fun _ K => rd_elA rfl ty34 K rfl rfl rfl (inR (C := cIII) 1 rfl rfl) h_e18) ?_
          refine U_r (fun _ K => rd_aggN eg34 rfl K rfl rfl (eqr34 _ _ _ _ _ _)) ?_
          refine U_o ?_; intro a K
          refine T_end ?_
          refine then_n ?_
          refine X_cond K rfl (fun hb => ?_) (fun hb => ?_)
          · have h := ctrue hb h
            refine wp_seq (X_reg ?_)
            refine X_o K M ?_; clear K; intro a K
            refine wpList_nil (then_n (wp_ret (inb_r (then_r (then_r (inb_r (then_r ?_)))))))
            cases h
            exact ret1 K rfl (res_tmp K rfl) ⟨_, rfl, rfl, ((M).pick [] (by decide))⟩
          have h := cfalse hb h
          refine wp_skip (inb_n (then_n (X_reg ?_)))
          refine X_o K M ?_; clear K
          refine Y_o M ?_
          obtain ⟨x16, hx, h⟩ := olet h
          refine Y_r (fun _ K => rdi hx (rd_assign rfl K rfl)) M ?_; intro a K
          refine wpList_nil ?_
          exact then_n ⟨x16, ⟨K.pick [5,9,11,13,15], M.pick [0,1,2,3,4] (by decide)⟩, h⟩
        have h := cfalse hb h
        have K := K.reb (s := 98) rfl hb
        refine T_o K ?_; clear K
        iterate 11 (refine U_o ?_)
        intro a K
        refine T_end ?_
        refine then_n ?_
        refine X_condF K rfl ?_
        refine wp_skip (inb_n (then_n (X_reg ?_)))
        refine X_o K M ?_; clear K
        refine Y_o M ?_
        obtain ⟨x17, hx, h⟩ := olet h
        refine Y_r (fun _ K => rdi hx (rd_assign rfl K rfl)) M ?_; intro a K
        refine wpList_nil ?_
        exact then_n ⟨x17, ⟨K.pick [5,9,11,13,15], M.pick [0,1,2,3,4] (by decide)⟩, h⟩
      have h := cfalse hb h
      refine wp_exit ?_
      refine then_e ?_
      exact then_e (hk1 i3 _ _ ⟨K.pick [5,9,11,13,15], M.pick [0,1,2,3,4] (by decide)⟩ h)
  ·
    refine R_ac [4,7,8,10] (by kernel_rfl) rfl K (want_no rfl) rfl rfl (ac_alloc rfl z45 M) ?_
    clear K M; rintro _ a w ⟨g_x8, rfl, M⟩ K
    refine ⟨fun _ => M.pick [1,2,3,4] (by decide), ?_⟩
    refine R_br [4] (by kernel_rfl) ⟨?_, trivial⟩
    refine R_ac [7,8,10] (by kernel_rfl) rfl K (want_no rfl) rfl rfl (ac_bslice0 (C := (cI .i64)) rfl sl43 rfl K M) ?_
    clear K M; rintro _ a w ⟨gs2, rfl, M⟩ K
    refine ⟨fun _ => M.pick [2,3,4,5] (by decide), ?_⟩
    refine R_br [7] (by kernel_rfl) ⟨?_, trivial⟩
    obtain ⟨l6, h_l6, h⟩ := obind h
    refine R_ac [8,10] (by kernel_rfl) rfl K (want_no rfl) rfl rfl (ac_app (C := (cI .i64)) (xs := ([] : List Int)) (ys := o_P) rfl sl43 rfl z3 rfl rfl K rfl rfl 0 M rfl ((inA R_o_P) _ M) h_l6) ?_
    clear K M; rintro _ a w ⟨A6, c6, rfl, M⟩ K
    refine ⟨fun _ => M.pick [2,3,4,5] (by decide), ?_⟩
    refine R_rd 8 [10] (by kernel_rfl) rfl K (want_no rfl) rfl rfl (rd_build rfl K (vs := [(0, I o_W), (1, I o_H), (2, .slice A6 l6.length c6)]) (cs := [I o_W, I o_H, .slice A6 l6.length c6]) rfl (by kernel_rfl)) ?_; clear K; intro a K
    refine R_br [10] (by kernel_rfl) ⟨?_, trivial⟩
    refine R_a0 [] (by kernel_rfl) rfl K (want_no rfl) rfl (ac_storeA rfl ty45 K rfl (ds := [I o_W, I o_H, .slice A6 l6.length c6]) rfl rfl 1 M rfl rfl rfl) ?_
    clear K M; rintro _ a w M K
    refine ⟨fun h => absurd h (by decide), ?_⟩
    refine R_end ?_
    refine then_n (wp_seq ?_)
    refine wp_region_tl (fun w => Mem _ _ w _) [0,0,0,0,1,0,2] (by kernel_rfl) (by kernel_rfl) M.drew ?_
    replace M := M.drew
    refine T_r K (rd_field rfl fld45_2 K rfl) ?_; clear K
    refine U_r (fun _ K => rd_ldC rfl sc43 K rfl (inM 1 rfl) rfl) ?_
    iterate 2 (refine U_o ?_)
    intro a K
    obtain ⟨r11, h_r11, h⟩ := obind h
    refine T_a K (ac_call (vs := [I p3, I 65536]) (cap := []) rfl fok25 K rfl rfl (W_darkslidelaw_choose N p3 65536 _  r11 h_r11)) ?_
    have M0 := M; clear K M; rintro _ a w ⟨rfl, M⟩ K
    replace M := M0.call M; clear M0
    refine ⟨M.pick [0,1,2,3,4,5] (by decide), ?_⟩
    obtain ⟨e19, h_e19, h⟩ := obind h
    refine T_r K (rd_ix rfl sl43 K rfl rfl (inR (C := (cI .i64)) 0 rfl rfl) h_e19) ?_; clear K; intro a K
    obtain ⟨l7, h_l7, h⟩ := obind h
    refine T_b K (ac_rowset (el := r11) rfl sz3 rfl rfl K rfl rfl rfl 0 M rfl h_l7) ?_
    have M0 := M; clear K M; rintro _ a w M K
    have hl := setL_len h_l7
    try rw [hl] at M
    clear hl
    clear M0
    refine T_end ?_
    refine then_n (wp_seq (X_reg ?_))
    refine X_r K (rd_ldA rfl ty42 K rfl (inM 5 rfl) rfl rfl) M ?_; clear K
    refine Y_r (fun _ K => rd_ldA rfl ty45 K rfl (inM 1 rfl) rfl rfl) M ?_; intro a K
    obtain ⟨r12, h_r12, h⟩ := obind h
    refine X_a K (ac_call (vs := [.agg #[I da, I db0, I db1, I db2, I db3, I dc, .slice Add dd.length cdd, I de0, I de1, I de2, I df0, I df1, I df2, I df3, I df4, I df5, I df6, I df7, I df8, .slice Adg dg.length cdg, I dh], .agg #[I o_W, I o_H, .slice A6 l7.length c6]]) (cap := []) rfl fok15 K rfl rfl (W_line_Whole N da db0 db1 db2 db3 dc dd Add cdd de0 de1 de2 df0 df1 df2 df3 df4 df5 df6 df7 df8 dg Adg cdg dh o_W o_H l7 A6 c6 _ ((inA Rdd) _ M) Cdd ((inA Rdg) _ M) Cdg ((inR (C := (cI .i64)) 0 rfl rfl) _ M) (M.cap 0 rfl) r12 h_r12)) ?_
    have M0 := M; clear K M; rintro _ a w ⟨A7, c7, rfl, M⟩ K
    replace M := M0.call M; clear M0
    refine X_o K M ?_; clear K
    iterate 2 (refine Y_o M ?_)
    intro a K
    refine X_a K (ac_alloc rfl z24 M) ?_
    clear K M; rintro _ a w ⟨g_x9, rfl, M⟩ K
    refine X_b K (ac_storeA rfl ty24 K rfl (ds := [I r12.1, I r12.2.1, .slice A7 r12.2.2.1.length c7]) rfl rfl 0 M rfl rfl rfl) ?_
    clear K M; rintro _ a w M K
    refine X_o K M ?_; clear K; intro a K
    refine wpList_nil (then_n (wp_seq (wp_seq (X_reg ?_))))
    refine X_o K M ?_; clear K
    iterate 2 (refine Y_o M ?_)
    intro a K
    rcases Bool.eq_false_or_eq_true (!decide (r12.2.2.2 = 0)) with hb | hb
    · have h := ctrue hb h
      have K := K.reb (s := 58) rfl hb
      refine X_o K M ?_; clear K
      iterate 16 (refine Y_o M ?_)
      intro a K
      refine wpList_nil (then_n ?_)
      refine X_condT K rfl ?_
      refine wp_seq (X_reg ?_)
      refine X_o K M ?_; clear K; intro a K
      refine wpList_nil (then_n (wp_ret (then_r ?_)))
      cases h
      exact ret1 K rfl (res_tmp K rfl) ⟨_, rfl, rfl, ((M).pick [] (by decide))⟩
    have h := cfalse hb h
    have K := K.reb (s := 58) rfl hb
    refine X_r K (rd_field rfl fld24_2 K rfl) M ?_; clear K
    refine Y_r (fun _ K => rd_ldC rfl sc22 K rfl (inM 4 rfl) rfl) M ?_
    refine Y_r (fun _ K => rd_len rfl un22 K rfl) M ?_
    refine Y_r (fun _ K => rd_field rfl fld45_2 K rfl) M ?_
    refine Y_r (fun _ K => rd_ldC rfl sc43 K rfl (inM 6 rfl) rfl) M ?_
    refine Y_r (fun _ K => rd_len rfl un43 K rfl) M ?_
    iterate 3 (refine Y_o M ?_)
    intro a K
    rcases Bool.eq_false_or_eq_true (!decide ((r2.2.2.1.length : Int) = (o_P.length : Int))) with hb | hb
    · have h := ctrue hb h
      have K := K.reb (s := 67) rfl hb
      refine X_o K M ?_; clear K
      iterate 7 (refine Y_o M ?_)
      intro a K
      refine wpList_nil (then_n ?_)
      refine X_condT K rfl ?_
      refine wp_seq (X_reg ?_)
      refine X_o K M ?_; clear K; intro a K
      refine wpList_nil (then_n (wp_ret (then_r ?_)))
      cases h
      exact ret1 K rfl (res_tmp K rfl) ⟨_, rfl, rfl, ((M).pick [] (by decide))⟩
    have h := cfalse hb h
    have K := K.reb (s := 67) rfl hb
    refine X_r K (rd_field rfl fld24_2 K rfl) M ?_; clear K
    refine Y_r (fun _ K => rd_ldC rfl sc22 K rfl (inM 0 rfl) rfl) M ?_
    refine Y_r (fun _ K => rd_len rfl un22 K rfl) M ?_
    refine Y_r (fun _ K => rd_field rfl fld45_2 K rfl) M ?_
    refine Y_r (fun _ K => rd_ldC rfl sc43 K rfl (inM 6 rfl) rfl) M ?_
    refine Y_r (fun _ K => rd_len rfl un43 K rfl) M ?_
    iterate 2 (refine Y_o M ?_)
    intro a K
    refine wpList_nil (then_n ?_)
    refine X_cond K rfl (fun hb => ?_) (fun hb => ?_)
    · have h := ctrue hb h
      refine wp_seq (X_reg ?_)
      refine X_o K M ?_; clear K; intro a K
      refine wpList_nil (then_n (wp_ret (then_r ?_)))
      cases h
      exact ret1 K rfl (res_tmp K rfl) ⟨_, rfl, rfl, ((M).pick [] (by decide))⟩
    have h := cfalse hb h
    refine wp_skip (then_n (wp_seq (wp_seq (X_reg ?_))))
    refine X_o K M ?_; clear K; intro a K
    refine wpList_nil (then_n (wp_block ?_))
    refine X_lp (id := 0) (Rel := fun (i5 : Int) a w => Kn a 112 [(5, .pointer (some ⟨g_x2, 0, none⟩)), (9, .pointer (some ⟨g_x3, 0, none⟩)), (11, I r4), (13, .pointer (some ⟨g_x9, 0, none⟩)), (15, I i5)] ∧ Mem w0.heap.size w0 w [.blk g_x9 24 [I r12.1, I r12.2.1, .slice A7 r12.2.2.1.length c7], .row 34 3 A7 r12.2.2.1.length c7 (cIII.all r12.2.2.1), .blk g_x3 24 [I r2.1, I r2.2.1, .slice A r2.2.2.1.length c], .row 34 3 A r2.2.2.1.length c (cIII.all r2.2.2.1), .blk g_x2 45 [I o_W, I o_H, .slice A_o_P o_P.length c_o_P]]) h (fun _ _ => rfl) ⟨K.pick [5,9,11,13,15], M.pick [0,1,4,5,6] (by decide)⟩ ?_ ?_
    · clear K M h
      rintro i6 a w ⟨K, M⟩ h
      try dsimp only at h
      refine inb_e ?_
      refine then_n (wp_seq (X_reg ?_))
      obtain ⟨r13, h_r13, h⟩ := obind h
      refine X_a K (ac_call (vs := []) (cap := []) rfl fok18 K rfl rfl (W_darkslidelaw_lineBegun N  _  r13 h_r13)) ?_
      have M0 := M; clear K M; rintro _ a w ⟨rfl, M⟩ K
      replace M := M0.call M; clear M0
      refine X_o K M ?_; clear K; intro a K
      refine wpList_nil (then_n (wp_ret ?_))
      cases h
      exact ret1 K rfl (res_tmp K rfl) ⟨_, rfl, rfl, ((M).pick [] (by decide))⟩
    clear K M h
    rintro kk fuel i5 a w hk1 ⟨K, M⟩ h
    unfold D_darkslidelaw_LineFar_l1 at h
    refine wp_seq (wp_seq (X_reg ?_))
    refine X_o K M ?_; clear K
    refine Y_r (fun _ K => rd_field rfl fld45_2 K rfl) M ?_
    refine Y_r (fun _ K => rd_ldC rfl sc43 K rfl (inM 4 rfl) rfl) M ?_
    refine Y_r (fun _ K => rd_len rfl un43 K rfl) M ?_
    refine Y_o M ?_; intro a K
    refine wpList_nil (then_n ?_)
    refine X_cond K rfl (fun hb => ?_) (fun hb => ?_)
    · have h := ctrue hb h
      refine wp_skip (then_n (wp_seq (wp_block (wp_seq ?_))))
      refine wp_region_tl (fun w => Mem _ _ w _) [0,0,0,0,0,0,0,0,0,0] (by kernel_rfl) (by kernel_rfl) M.drew ?_
      replace M := M.drew
      refine T_o K ?_; clear K
      refine U_r (fun _ K => rd_field rfl fld45_0 K rfl) ?_
      refine U_r (fun _ K => rd_ldC rfl sc3 K rfl (inM 4 rfl) rfl) ?_; intro a K
      obtain ⟨_, h0, h⟩ := obind h
      have h0 := nz_spec h0
      refine T_r K (rd_quo rfl K rfl rfl h0) ?_; clear K
      refine U_o ?_
      refine U_r (fun _ K => rd_field rfl fld45_0 K rfl) ?_
      refine U_r (fun _ K => rd_ldC rfl sc3 K rfl (inM 4 rfl) rfl) ?_; intro a K
      obtain ⟨_, h0, h⟩ := obind h
      have h0 := nz_spec h0
      refine T_r K (rd_quo rfl K rfl rfl h0) ?_; clear K
      refine U_o ?_
      obtain ⟨x22, hx, h⟩ := olet h
      refine U_r (fun _ K => rdi hx (rd_assign rfl K rfl)) ?_; intro a K
      refine T_end ?_
      refine then_n (wp_seq ?_)
      refine wp_region_tl (fun w => Mem _ _ w _) [0,0,0,0,0,0,0,0,0,0,0,0,0,0,0,0,0,0,0] (by kernel_rfl) (by kernel_rfl) M.drew ?_
      replace M := M.drew
      refine T_o K ?_; clear K
      iterate 2 (refine U_o ?_)
      intro a K
      rcases Bool.eq_false_or_eq_true (decide (4 < x22)) with hb | hb
      · have h := ctrue hb h
        have K := K.reb (s := 94) rfl hb
        refine T_o K ?_; clear K
        iterate 3 (refine U_o ?_)
        refine U_r (fun _ K => rd_field rfl fld24_2 K rfl) ?_
        refine U_r (fun _ K => rd_ldC rfl sc22 K rfl (inM 2 rfl) rfl) ?_
        refine U_o ?_
        obtain ⟨e24, h_e24, h⟩ := obind h
        refine U_r (fun _ K => rd_ix rfl sl22 K rfl rfl (inR (C := cIII) 3 rfl rfl) h_e24) ?_
        refine U_r (fun _ K => rd_elA rfl ty34 K rfl rfl rfl (inR (C := cIII) 3 rfl rfl) h_e24) ?_
        refine U_r (fun _ K => rd_field rfl fld24_2 K rfl) ?_
        refine U_r (fun _ K => rd_ldC rfl sc22 K rfl (inM 0 rfl) rfl) ?_
        refine U_o ?_
        obtain ⟨e25, h_e25, h⟩ := obind h
        refine U_r (fun _ K => rd_ix rfl sl22 K rfl rfl (inR (C := cIII) 1 rfl rfl) h_e25) ?_
        refine U_r (fun _ K => rd_elA rfl ty34 K rfl rfl rfl (inR (C := cIII) 1 rfl rfl) h_e25) ?_
        refine U_r (fun _ K => rd_aggN eg34 rfl K rfl rfl (eqr34 _ _ _ _ _ _)) ?_
        refine U_o ?_; intro a K
        refine T_end ?_
        refine then_n ?_
        refine X_cond K rfl (fun hb => ?_) (fun hb => ?_)
        · have h := ctrue hb h
          refine wp_seq (X_reg ?_)
          refine X_o K M ?_; clear K; intro a K
          refine wpList_nil (then_n (wp_ret (inb_r (then_r (then_r (inb_r (then_r ?_)))))))
          cases h
          exact ret1 K rfl (res_tmp K rfl) ⟨_, rfl, rfl, ((M).pick [] (by decide))⟩
        have h := cfalse hb h
        refine wp_skip (inb_n (then_n (X_reg ?_)))
        refine X_o K M ?_; clear K
        refine Y_o M ?_
        obtain ⟨x23, hx, h⟩ := olet h
        refine Y_r (fun _ K => rdi hx (rd_assign rfl K rfl)) M ?_; intro a K
        refine wpList_nil ?_
        exact then_n ⟨x23, ⟨K.pick [5,9,11,13,15], M.pick [0,1,2,3,4] (by decide)⟩, h⟩
      have h := cfalse hb h
      have K := K.reb (s := 94) rfl hb
      refine T_o K ?_; clear K
      iterate 3 (refine U_o ?_)
      intro a K
      rcases Bool.eq_false_or_eq_true (decide (x22 < (-4))) with hb | hb
      · have h := ctrue hb h
        have K := K.reb (s := 98) rfl hb
        refine T_r K (rd_field rfl fld24_2 K rfl) ?_; clear K
        refine U_r (fun _ K => rd_ldC rfl sc22 K rfl (inM 2 rfl) rfl) ?_
        refine U_o ?_
        obtain ⟨e26, h_e26, h⟩ := obind h
        refine U_r (fun _ K => rd_ix rfl sl22 K rfl rfl (inR (C := cIII) 3 rfl rfl) h_e26) ?_
        refine U_r (fun _ K => rd_elA rfl ty34 K rfl rfl rfl (inR (C := cIII) 3 rfl rfl) h_e26) ?_
        refine U_r (fun _ K => rd_field rfl fld24_2 K rfl) ?_
        refine U_r (fun _ K => rd_ldC rfl sc22 K rfl (inM 0 rfl) rfl) ?_
        refine U_o ?_
        obtain ⟨e27, h_e27, h⟩ := obind h
        refine U_r (fun _ K => rd_ix rfl sl22 K rfl rfl (inR (C := cIII) 1 rfl rfl) h_e27) ?_
        refine U_r (fun _ K => rd_elA rfl ty34 K rfl rfl rfl (inR (C := cIII) 1 rfl rfl) h_e27) ?_
        refine U_r (fun _ K => rd_aggN eg34 rfl K rfl rfl (eqr34 _ _ _ _ _ _)) ?_
        refine U_o ?_; intro a K
        refine T_end ?_
        refine then_n ?_
        refine X_cond K rfl (fun hb => ?_) (fun hb => ?_)
        · have h := ctrue hb h
          refine wp_seq (X_reg ?_)
          refine X_o K M ?_; clear K; intro a K
          refine wpList_nil (then_n (wp_ret (inb_r (then_r (then_r (inb_r (then_r ?_)))))))
          cases h
          exact ret1 K rfl (res_tmp K rfl) ⟨_, rfl, rfl, ((M).pick [] (by decide))⟩
        have h := cfalse hb h
        refine wp_skip (inb_n (then_n (X_reg ?_)))
        refine X_o K M ?_; clear K
        refine Y_o M ?_
        obtain ⟨x24, hx, h⟩ := olet h
        refine Y_r (fun _ K => rdi hx (rd_assign rfl K rfl)) M ?_; intro a K
        refine wpList_nil ?_
        exact then_n ⟨x24, ⟨K.pick [5,9,11,13,15], M.pick [0,1,2,3,4] (by decide)⟩, h⟩
      have h := cfalse hb h
      have K := K.reb (s := 98) rfl hb
      refine T_o K ?_; clear K
      iterate 11 (refine U_o ?_)
      intro a K
      refine T_end ?_
      refine then_n ?_
      refine X_condF K rfl ?_
      refine wp_skip (inb_n (then_n (X_reg ?_)))
      refine X_o K M ?_; clear K
      refine Y_o M ?_
      obtain ⟨x25, hx, h⟩ := olet h
      refine Y_r (fun _ K => rdi hx (rd_assign rfl K rfl)) M ?_; intro a K
      refine wpList_nil ?_
      exact then_n ⟨x25, ⟨K.pick [5,9,11,13,15], M.pick [0,1,2,3,4] (by decide)⟩, h⟩
    have h := cfalse hb h
    refine wp_exit ?_
    refine then_e ?_
    exact then_e (hk1 i5 _ _ ⟨K.pick [5,9,11,13,15], M.pick [0,1,2,3,4] (by decide)⟩ h)
end Go.Proofs.Ytpmnfhifmmfglab
