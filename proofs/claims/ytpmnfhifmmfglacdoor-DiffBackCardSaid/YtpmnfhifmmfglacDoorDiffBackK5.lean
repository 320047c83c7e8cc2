/- Texts of the claim DiffBack, joined: WDiff, WLawAll, WLawSmall, WRefSameints, WRefSameplanes, WLawDiffbegun, WLawDiffback. -/
import Derived.Test.YtpmnfhifmmfglacDoorDiffBackK2
import Derived.Test.YtpmnfhifmmfglacDoorDiffBackK3
import Derived.Test.YtpmnfhifmmfglacDoorDiffBackK4
set_option linter.unusedVariables false
set_option linter.unusedSimpArgs false
set_option linter.unusedSectionVars false
namespace Go.Proofs.YtpmnfhifmmfglacDoor
open Go.RowKit
set_option maxRecDepth 100000 in
set_option maxHeartbeats 4000000 in
theorem W_diff_fine (N : Nat) (p_W : Int) (p_H : Int) (p_P : List Int) (A_p_P : Option Addr) (c_p_P : Nat) (w0 : World) (R_p_P : SL w0 (cI .i64) A_p_P p_P) (C_p_P : p_P.length ≤ c_p_P) (r : Bool) (h : D_diff_fine N p_W p_H p_P = some r) :
    Calls Tryd.prog 42 #[.agg #[I p_W, I p_H, .slice A_p_P p_P.length c_p_P]] w0 fun e w' => ∃ v, e = .returned v ∧ v = .bool r ∧ Mem w0.heap.size w0 w' [] := by
  refine X_enter Tryd.func42 rfl Tryd.ntmps42 rfl ?_
  intro a K
  have M := Mem.start w0
  have K : Kn a 48 [(0, .agg #[I p_W, I p_H, .slice A_p_P p_P.length c_p_P])] := K
  unfold D_diff_fine at h
  refine wp_seq (X_reg ?_)
  refine X_a K (ac_box rfl K rfl (cs := [I p_W, I p_H, .slice A_p_P p_P.length c_p_P]) rfl M) ?_
  clear K M; rintro _ a w ⟨g_p, rfl, M⟩ K
  refine X_o K M ?_; clear K; intro a K
  refine wpList_nil (then_n (wp_seq (wp_seq (X_reg ?_))))
  refine X_r K (rd_field rfl fld38_0 K rfl) M ?_; clear K
  refine Y_r (fun _ K => rd_ldC rfl sc3 K rfl (inM 0 rfl) rfl) M ?_
  iterate 2 (refine Y_o M ?_)
  intro a K
  rcases Bool.eq_false_or_eq_true (decide (p_W < 1)) with hb | hb
  · have h := ctrue hb h
    have K := K.reb (s := 8) rfl hb
    refine X_o K M ?_; clear K
    iterate 24 (refine Y_o M ?_)
    intro a K
    refine wpList_nil (then_n ?_)
    refine X_condT K rfl ?_
    refine wp_seq (X_reg ?_)
    refine X_o K M ?_; clear K; intro a K
    refine wpList_nil (then_n (wp_ret (then_r ?_)))
    cases h
    exact ret1 K rfl (res_tmp K rfl) ⟨_, rfl, rfl, ((M).pick [] (by decide))⟩
  have h := cfalse hb h
  have K := K.reb (s := 8) rfl hb
  refine X_r K (rd_field rfl fld38_0 K rfl) M ?_; clear K
  refine Y_r (fun _ K => rd_ldC rfl sc3 K rfl (inM 0 rfl) rfl) M ?_
  iterate 3 (refine Y_o M ?_)
  intro a K
  rcases Bool.eq_false_or_eq_true (decide (64 < p_W)) with hb | hb
  · have h := ctrue hb h
    have K := K.reb (s := 13) rfl hb
    refine X_o K M ?_; clear K
    iterate 19 (refine Y_o M ?_)
    intro a K
    refine wpList_nil (then_n ?_)
    refine X_condT K rfl ?_
    refine wp_seq (X_reg ?_)
    refine X_o K M ?_; clear K; intro a K
    refine wpList_nil (then_n (wp_ret (then_r ?_)))
    cases h
    exact ret1 K rfl (res_tmp K rfl) ⟨_, rfl, rfl, ((M).pick [] (by decide))⟩
  have h := cfalse hb h
  have K := K.reb (s := 13) rfl hb
  refine X_r K (rd_field rfl fld38_1 K rfl) M ?_; clear K
  refine Y_r (fun _ K => rd_ldC rfl sc3 K rfl (inM 0 rfl) rfl) M ?_
  iterate 3 (refine Y_o M ?_)
  intro a K
  rcases Bool.eq_false_or_eq_true (decide (p_H < 1)) with hb | hb
  · have h := ctrue hb h
    have K := K.reb (s := 18) rfl hb
    refine X_o K M ?_; clear K
    iterate 14 (refine Y_o M ?_)
    intro a K
    refine wpList_nil (then_n ?_)
    refine X_condT K rfl ?_
    refine wp_seq (X_reg ?_)
    refine X_o K M ?_; clear K; intro a K
    refine wpList_nil (then_n (wp_ret (then_r ?_)))
    cases h
    exact ret1 K rfl (res_tmp K rfl) ⟨_, rfl, rfl, ((M).pick [] (by decide))⟩
  have h := cfalse hb h
  have K := K.reb (s := 18) rfl hb
  refine X_r K (rd_field rfl fld38_1 K rfl) M ?_; clear K
  refine Y_r (fun _ K => rd_ldC rfl sc3 K rfl (inM 0 rfl) rfl) M ?_
  iterate 3 (refine Y_o M ?_)
  intro a K
  rcases Bool.eq_false_or_eq_true (decide (64 < p_H)) with hb | hb
  · have h := ctrue hb h
    have K := K.reb (s := 23) rfl hb
    refine X_o K M ?_; clear K
    iterate 9 (refine Y_o M ?_)
    intro a K
    refine wpList_nil (then_n ?_)
    refine X_condT K rfl ?_
    refine wp_seq (X_reg ?_)
    refine X_o K M ?_; clear K; intro a K
    refine wpList_nil (then_n (wp_ret (then_r ?_)))
    cases h
    exact ret1 K rfl (res_tmp K rfl) ⟨_, rfl, rfl, ((M).pick [] (by decide))⟩
  have h := cfalse hb h
  have K := K.reb (s := 23) rfl hb
  refine X_r K (rd_field rfl fld38_2 K rfl) M ?_; clear K
  refine Y_r (fun _ K => rd_ldC rfl sc22 K rfl (inM 0 rfl) rfl) M ?_
  refine Y_r (fun _ K => rd_len rfl un22 K rfl) M ?_
  refine Y_r (fun _ K => rd_field rfl fld38_0 K rfl) M ?_
  refine Y_r (fun _ K => rd_ldC rfl sc3 K rfl (inM 0 rfl) rfl) M ?_
  refine Y_r (fun _ K => rd_field rfl fld38_1 K rfl) M ?_
  refine Y_r (fun _ K => rd_ldC rfl sc3 K rfl (inM 0 rfl) rfl) M ?_
  iterate 3 (refine Y_o M ?_)
  intro a K
  refine wpList_nil (then_n ?_)
  refine X_cond K rfl (fun hb => ?_) (fun hb => ?_)
  · have h := ctrue hb h
    refine wp_seq (X_reg ?_)
    refine X_o K M ?_; clear K; intro a K
    refine wpList_nil (then_n (wp_ret (then_r ?_)))
    cases h
    exact ret1 K rfl (res_tmp K rfl) ⟨_, rfl, rfl, ((M).pick [] (by decide))⟩
  have h := cfalse hb h
  refine wp_skip (then_n (wp_seq (wp_seq (X_reg ?_))))
  refine X_r K (rd_field rfl fld38_2 K rfl) M ?_; clear K
  refine Y_r (fun _ K => rd_ldC rfl sc22 K rfl (inM 0 rfl) rfl) M ?_
  refine Y_r (fun _ K => rd_len rfl un22 K rfl) M ?_
  refine Y_o M ?_; intro a K
  refine wpList_nil (then_n (wp_block ?_))
  refine X_lp (id := 0) (Rel := fun (i : Int) a w => Kn a 48 [(35, .slice A_p_P p_P.length c_p_P), (36, I (p_P.length : Int)), (37, I i)] ∧ Mem w0.heap.size w0 w []) h (fun _ _ => rfl) ⟨K.pick [35,36,37], M.pick [] (by decide)⟩ ?_ ?_
  · clear K M h
    rintro i2 a w ⟨K, M⟩ h
    try dsimp only at h
    refine inb_e ?_
    refine then_n (wp_seq (X_reg ?_))
    refine X_o K M ?_; clear K; intro a K
    refine wpList_nil (then_n (wp_ret ?_))
    cases h
    exact ret1 K rfl (res_tmp K rfl) ⟨_, rfl, rfl, ((M).pick [] (by decide))⟩
  clear K M h
  rintro kk fuel i a w hk1 ⟨K, M⟩ h
  unfold D_diff_fine_l1 at h
  refine wp_seq (X_reg ?_)
  refine X_o K M ?_; clear K; intro a K
  refine wpList_nil (then_n (wp_seq ?_))
  refine X_cond K rfl (fun hb => ?_) (fun hb => ?_)
  · have h := ctrue hb h
    refine wp_skip (then_n (wp_seq (wp_block (wp_seq (X_reg ?_)))))
    obtain ⟨e2, h_e2, h⟩ := obind h
    refine X_r K (rd_ix rfl sl22 K rfl rfl (inA R_p_P) h_e2) M ?_; clear K
    refine Y_r (fun _ K => rd_elC rfl sc3 K rfl rfl (inA R_p_P) h_e2 rfl) M ?_
    refine Y_o M ?_; intro a K
    refine wpList_nil (then_n (wp_seq (X_reg ?_)))
    refine X_o K M ?_; clear K
    iterate 2 (refine Y_o M ?_)
    intro a K
    rcases Bool.eq_false_or_eq_true (decide (e2 < 0)) with hb | hb
    · have h := ctrue hb h
      have K := K.reb (s := 43) rfl hb
      refine X_o K M ?_; clear K
      iterate 2 (refine Y_o M ?_)
      intro a K
      refine wpList_nil (then_n ?_)
      refine X_condT K rfl ?_
      refine wp_seq (X_reg ?_)
      refine X_o K M ?_; clear K; intro a K
      refine wpList_nil (then_n (wp_ret (inb_r (then_r (then_r (inb_r (then_r ?_)))))))
      cases h
      exact ret1 K rfl (res_tmp K rfl) ⟨_, rfl, rfl, ((M).pick [] (by decide))⟩
    have h := cfalse hb h
    have K := K.reb (s := 43) rfl hb
    refine X_o K M ?_; clear K
    iterate 2 (refine Y_o M ?_)
    intro a K
    refine wpList_nil (then_n ?_)
    refine X_cond K rfl (fun hb => ?_) (fun hb => ?_)
    · have h := ctrue hb h
      refine wp_seq (X_reg ?_)
      refine X_o K M ?_; clear K; intro a K
      refine wpList_nil (then_n (wp_ret (inb_r (then_r (then_r (inb_r (then_r ?_)))))))
      cases h
      exact ret1 K rfl (res_tmp K rfl) ⟨_, rfl, rfl, ((M).pick [] (by decide))⟩
    have h := cfalse hb h
    refine wp_skip (inb_n (then_n (X_reg ?_)))
    refine X_o K M ?_; clear K
    refine Y_o M ?_; intro a K
    refine wpList_nil ?_
    exact then_n ⟨(IntKind.i64.wrap (i + 1)), ⟨K.pick [35,36,37], M.pick [] (by decide)⟩, h⟩
  have h := cfalse hb h
  refine wp_exit ?_
  refine then_e ?_
  exact then_e (hk1 i _ _ ⟨K.pick [35,36,37], M.pick [] (by decide)⟩ h)
set_option maxRecDepth 100000 in
set_option maxHeartbeats 4000000 in
theorem W_diff_guess (N : Nat) (d_W : Int) (d_H : Int) (d_P : List Int) (A_d_P : Option Addr) (c_d_P : Nat) (o : Int) (p2 : Int) (w0 : World) (R_d_P : SL w0 (cI .i64) A_d_P d_P) (C_d_P : d_P.length ≤ c_d_P) (r : Int) (h : D_diff_guess N d_W d_H d_P o p2 = some r) :
    Calls Tryd.prog 43 #[.agg #[I d_W, I d_H, .slice A_d_P d_P.length c_d_P], I o, I p2] w0 fun e w' => ∃ v, e = .returned v ∧ v = I r ∧ Mem w0.heap.size w0 w' [] := by
  refine X_enter Tryd.func43 rfl Tryd.ntmps43 rfl ?_
  intro a K
  have M := Mem.start w0
  have K : Kn a 93 [(0, .agg #[I d_W, I d_H, .slice A_d_P d_P.length c_d_P]), (1, I o), (2, I p2)] := K
  unfold D_diff_guess at h
  refine wp_seq (X_reg ?_)
  refine X_a K (ac_box rfl K rfl (cs := [I d_W, I d_H, .slice A_d_P d_P.length c_d_P]) rfl M) ?_
  clear K M; rintro _ a w ⟨g_x, rfl, M⟩ K
  refine X_o K M ?_; clear K; intro a K
  refine wpList_nil (then_n (wp_seq ?_))
  refine wp_region_tl (fun w => Mem _ _ w _) [0,0,0,0,0,0,0,0,0,0] (by kernel_rfl) (by kernel_rfl) M.drew ?_
  replace M := M.drew
  refine T_o K ?_; clear K
  refine U_r (fun _ K => rd_field rfl fld38_0 K rfl) ?_
  refine U_r (fun _ K => rd_ldC rfl sc3 K rfl (inM 0 rfl) rfl) ?_; intro a K
  obtain ⟨_, h0, h⟩ := obind h
  have h0 := nz_spec h0
  refine T_r K (rd_rem rfl K rfl rfl h0) ?_; clear K
  refine U_o ?_
  refine U_r (fun _ K => rd_field rfl fld38_0 K rfl) ?_
  refine U_r (fun _ K => rd_ldC rfl sc3 K rfl (inM 0 rfl) rfl) ?_; intro a K
  obtain ⟨_, h0, h⟩ := obind h
  have h0 := nz_spec h0
  refine T_r K (rd_quo rfl K rfl rfl h0) ?_; clear K
  iterate 2 (refine U_o ?_)
  intro a K
  refine T_end ?_
  refine then_n (wp_seq (wp_block (wp_seq (X_reg ?_))))
  refine X_o K M ?_; clear K
  iterate 2 (refine Y_o M ?_)
  intro a K
  refine wpList_nil (then_n ?_)
  refine X_cond K rfl (fun hb => ?_) (fun hb => ?_)
  · have h := ctrue hb h
    refine wp_seq (X_reg ?_)
    refine X_o K M ?_; clear K; intro a K
    refine wpList_nil (then_n (wp_ret (inb_r (then_r ?_))))
    cases h
    exact ret1 K rfl (res_tmp K rfl) ⟨_, rfl, rfl, ((M).pick [] (by decide))⟩
  have h := cfalse hb h
  refine wp_seq (X_reg ?_)
  refine X_o K M ?_; clear K
  iterate 2 (refine Y_o M ?_)
  intro a K
  refine wpList_nil (then_n ?_)
  refine X_cond K rfl (fun hb => ?_) (fun hb => ?_)
  · have h := ctrue hb h
    refine wp_seq (X_reg ?_)
    refine X_r K (rd_field rfl fld38_2 K rfl) M ?_; clear K
    refine Y_r (fun _ K => rd_ldC rfl sc22 K rfl (inM 0 rfl) rfl) M ?_
    iterate 2 (refine Y_o M ?_)
    obtain ⟨e, h_e, h⟩ := obind h
    refine Y_r (fun _ K => rd_ix rfl sl22 K rfl rfl (inA R_d_P) h_e) M ?_
    refine Y_r (fun _ K => rd_elC rfl sc3 K rfl rfl (inA R_d_P) h_e rfl) M ?_
    refine Y_o M ?_; intro a K
    refine wpList_nil (then_n (wp_ret (inb_r (then_r ?_))))
    cases h
    exact ret1 K rfl (res_tmp K rfl) ⟨_, rfl, rfl, ((M).pick [] (by decide))⟩
  have h := cfalse hb h
  refine wp_seq (X_reg ?_)
  refine X_o K M ?_; clear K
  iterate 2 (refine Y_o M ?_)
  intro a K
  refine wpList_nil (then_n ?_)
  refine X_cond K rfl (fun hb => ?_) (fun hb => ?_)
  · have h := ctrue hb h
    refine wp_seq (X_reg ?_)
    refine X_r K (rd_field rfl fld38_2 K rfl) M ?_; clear K
    refine Y_r (fun _ K => rd_ldC rfl sc22 K rfl (inM 0 rfl) rfl) M ?_
    refine Y_o M ?_
    refine Y_r (fun _ K => rd_field rfl fld38_0 K rfl) M ?_
    refine Y_r (fun _ K => rd_ldC rfl sc3 K rfl (inM 0 rfl) rfl) M ?_
    refine Y_o M ?_
    obtain ⟨e2, h_e2, h⟩ := obind h
    refine Y_r (fun _ K => rd_ix rfl sl22 K rfl rfl (inA R_d_P) h_e2) M ?_
    refine Y_r (fun _ K => rd_elC rfl sc3 K rfl rfl (inA R_d_P) h_e2 rfl) M ?_
    refine Y_o M ?_; intro a K
    refine wpList_nil (then_n (wp_ret (inb_r (then_r ?_))))
    cases h
    exact ret1 K rfl (res_tmp K rfl) ⟨_, rfl, rfl, ((M).pick [] (by decide))⟩
  have h := cfalse hb h
  refine wp_skip (inb_n (then_n (wp_seq ?_)))
  refine wp_region_tl (fun w => Mem _ _ w _) [0,0,0,0,0,0,0,0,0,0,0,0,0,0,0,0,0,0,0,0,0,0,0,0,0,0] (by kernel_rfl) (by kernel_rfl) M.drew ?_
  replace M := M.drew
  refine T_r K (rd_field rfl fld38_2 K rfl) ?_; clear K
  refine U_r (fun _ K => rd_ldC rfl sc22 K rfl (inM 0 rfl) rfl) ?_
  iterate 2 (refine U_o ?_)
  obtain ⟨e3, h_e3, h⟩ := obind h
  refine U_r (fun _ K => rd_ixP rfl sl22 K rfl rfl ((inA R_d_P) _ M) h_e3) ?_
  refine U_r (fun _ K => rd_elC rfl sc3 K rfl rfl (inA R_d_P) h_e3 rfl) ?_
  refine U_r (fun _ K => rd_field rfl fld38_2 K rfl) ?_
  refine U_r (fun _ K => rd_ldC rfl sc22 K rfl (inM 0 rfl) rfl) ?_
  refine U_o ?_
  refine U_r (fun _ K => rd_field rfl fld38_0 K rfl) ?_
  refine U_r (fun _ K => rd_ldC rfl sc3 K rfl (inM 0 rfl) rfl) ?_
  refine U_o ?_
  obtain ⟨e4, h_e4, h⟩ := obind h
  refine U_r (fun _ K => rd_ixP rfl sl22 K rfl rfl ((inA R_d_P) _ M) h_e4) ?_
  refine U_r (fun _ K => rd_elC rfl sc3 K rfl rfl (inA R_d_P) h_e4 rfl) ?_
  refine U_r (fun _ K => rd_field rfl fld38_2 K rfl) ?_
  refine U_r (fun _ K => rd_ldC rfl sc22 K rfl (inM 0 rfl) rfl) ?_
  refine U_o ?_
  refine U_r (fun _ K => rd_field rfl fld38_0 K rfl) ?_
  refine U_r (fun _ K => rd_ldC rfl sc3 K rfl (inM 0 rfl) rfl) ?_
  iterate 2 (refine U_o ?_)
  obtain ⟨e5, h_e5, h⟩ := obind h
  refine U_r (fun _ K => rd_ixP rfl sl22 K rfl rfl ((inA R_d_P) _ M) h_e5) ?_
  refine U_r (fun _ K => rd_elC rfl sc3 K rfl rfl (inA R_d_P) h_e5 rfl) ?_
  iterate 3 (refine U_o ?_)
  intro a K
  refine T_end ?_
  refine then_n (wp_seq (X_reg ?_))
  refine X_o K M ?_; clear K
  iterate 11 (refine Y_o M ?_)
  refine Y_r (fun _ K => rd_shr rfl K rfl rfl (by decide)) M ?_
  iterate 5 (refine Y_o M ?_)
  refine Y_r (fun _ K => rd_shr rfl K rfl rfl (by decide)) M ?_
  iterate 4 (refine Y_o M ?_)
  refine Y_r (fun _ K => rd_shr rfl K rfl rfl (by decide)) M ?_
  refine Y_r (fun _ K => rd_build rfl K (vs := [(0, I 0), (1, I e3), (2, I e4), (3, I e5), (4, I (IntKind.i64.wrap ((IntKind.i64.wrap (e3 + e4)) - e5))), (5, I (IntKind.i64.wrap (e3 + (shrI .i64 (IntKind.i64.wrap (e4 - e5)) 1)))), (6, I (IntKind.i64.wrap (e4 + (shrI .i64 (IntKind.i64.wrap (e3 - e5)) 1)))), (7, I (shrI .i64 (IntKind.i64.wrap (e3 + e4)) 1))]) (cs := [I 0, I e3, I e4, I e5, I (IntKind.i64.wrap ((IntKind.i64.wrap (e3 + e4)) - e5)), I (IntKind.i64.wrap (e3 + (shrI .i64 (IntKind.i64.wrap (e4 - e5)) 1))), I (IntKind.i64.wrap (e4 + (shrI .i64 (IntKind.i64.wrap (e3 - e5)) 1))), I (shrI .i64 (IntKind.i64.wrap (e3 + e4)) 1)]) rfl (by kernel_rfl)) M ?_
  refine Y_o M ?_
  obtain ⟨e6, h_e6, h⟩ := obind h
  refine Y_r (fun _ K => rd_ixV (C := (cI .i64)) (es := [0, e3, e4, e5, IntKind.i64.wrap ((IntKind.i64.wrap (e3 + e4)) - e5), IntKind.i64.wrap (e3 + (shrI .i64 (IntKind.i64.wrap (e4 - e5)) 1)), IntKind.i64.wrap (e4 + (shrI .i64 (IntKind.i64.wrap (e3 - e5)) 1)), shrI .i64 (IntKind.i64.wrap (e3 + e4)) 1]) rfl ar91 sc3 K rfl rfl rfl h_e6 rfl) M ?_
  refine Y_o M ?_; intro a K
  refine wpList_nil (then_n (wp_ret ?_))
  cases h
  exact ret1 K rfl (res_tmp K rfl) ⟨_, rfl, rfl, ((M).pick [] (by decide))⟩
set_option maxRecDepth 100000 in
set_option maxHeartbeats 4000000 in
theorem W_diff_Guess (N : Nat) (p_W : Int) (p_H : Int) (p_P : List Int) (A_p_P : Option Addr) (c_p_P : Nat) (kind : Int) (x2 : Int) (y : Int) (w0 : World) (R_p_P : SL w0 (cI .i64) A_p_P p_P) (C_p_P : p_P.length ≤ c_p_P) (r : Int × Int) (h : D_diff_Guess N p_W p_H p_P kind x2 y = some r) :
    Calls Tryd.prog 18 #[.agg #[I p_W, I p_H, .slice A_p_P p_P.length c_p_P], I kind, I x2, I y] w0 fun e w' => ∃ v, e = .returned v ∧ v = .tuple #[I r.1, I r.2] ∧ Mem w0.heap.size w0 w' [] := by
  refine X_enter Tryd.func18 rfl Tryd.ntmps18 rfl ?_
  intro a K
  have M := Mem.start w0
  have K : Kn a 46 [(0, .agg #[I p_W, I p_H, .slice A_p_P p_P.length c_p_P]), (1, I kind), (2, I x2), (3, I y)] := K
  unfold D_diff_Guess at h
  refine wp_seq (X_reg ?_)
  refine X_a K (ac_box rfl K rfl (cs := [I p_W, I p_H, .slice A_p_P p_P.length c_p_P]) rfl M) ?_
  clear K M; rintro _ a w ⟨g_p, rfl, M⟩ K
  refine X_o K M ?_; clear K
  refine Y_o M ?_; intro a K
  refine wpList_nil (then_n (wp_seq (wp_seq (X_reg ?_))))
  refine X_r K (rd_ldA rfl ty38 K rfl (inM 0 rfl) rfl rfl) M ?_; clear K; intro a K
  obtain ⟨r2, h_r2, h⟩ := obind h
  refine X_a K (ac_call (vs := [.agg #[I p_W, I p_H, .slice A_p_P p_P.length c_p_P]]) (cap := []) rfl fok42 K rfl rfl (W_diff_fine N p_W p_H p_P A_p_P c_p_P _ ((inA R_p_P) _ M) C_p_P r2 h_r2)) ?_
  have M0 := M; clear K M; rintro _ a w ⟨rfl, M⟩ K
  replace M := M0.call M; clear M0
  refine X_o K M ?_; clear K; intro a K
  refine wpList_nil (then_n ?_)
  refine X_cond K rfl (fun hb => ?_) (fun hb => ?_)
  · have h := ctrue hb h
    refine wp_seq (X_reg ?_)
    refine X_o K M ?_; clear K
    refine Y_o M ?_; intro a K
    refine wpList_nil (then_n (wp_ret (then_r ?_)))
    cases h
    exact ret2 K rfl (res_tmp K rfl) (res_tmp K rfl) ⟨_, rfl, rfl, ((M).pick [] (by decide))⟩
  have h := cfalse hb h
  refine wp_skip (then_n (wp_seq (wp_seq (X_reg ?_))))
  refine X_o K M ?_; clear K
  iterate 2 (refine Y_o M ?_)
  intro a K
  rcases Bool.eq_false_or_eq_true (decide (kind < 1)) with hb | hb
  · have h := ctrue hb h
    have K := K.reb (s := 15) rfl hb
    refine X_o K M ?_; clear K
    iterate 2 (refine Y_o M ?_)
    intro a K
    refine wpList_nil (then_n ?_)
    refine X_condT K rfl ?_
    refine wp_seq (X_reg ?_)
    refine X_o K M ?_; clear K
    refine Y_o M ?_; intro a K
    refine wpList_nil (then_n (wp_ret (then_r ?_)))
    cases h
    exact ret2 K rfl (res_tmp K rfl) (res_tmp K rfl) ⟨_, rfl, rfl, ((M).pick [] (by decide))⟩
  have h := cfalse hb h
  have K := K.reb (s := 15) rfl hb
  refine X_o K M ?_; clear K
  iterate 2 (refine Y_o M ?_)
  intro a K
  refine wpList_nil (then_n ?_)
  refine X_cond K rfl (fun hb => ?_) (fun hb => ?_)
  · have h := ctrue hb h
    refine wp_seq (X_reg ?_)
    refine X_o K M ?_; clear K
    refine Y_o M ?_; intro a K
    refine wpList_nil (then_n (wp_ret (then_r ?_)))
    cases h
    exact ret2 K rfl (res_tmp K rfl) (res_tmp K rfl) ⟨_, rfl, rfl, ((M).pick [] (by decide))⟩
  have h := cfalse hb h
  refine wp_skip (then_n (wp_seq (wp_seq (X_reg ?_))))
  refine X_o K M ?_; clear K
  iterate 2 (refine Y_o M ?_)
  intro a K
  rcases Bool.eq_false_or_eq_true (decide (x2 < 0)) with hb | hb
  · have h := ctrue hb h
    have K := K.reb (s := 21) rfl hb
    refine X_o K M ?_; clear K
    iterate 14 (refine Y_o M ?_)
    intro a K
    refine wpList_nil (then_n ?_)
    refine X_condT K rfl ?_
    refine wp_seq (X_reg ?_)
    refine X_o K M ?_; clear K
    refine Y_o M ?_; intro a K
    refine wpList_nil (then_n (wp_ret (then_r ?_)))
    cases h
    exact ret2 K rfl (res_tmp K rfl) (res_tmp K rfl) ⟨_, rfl, rfl, ((M).pick [] (by decide))⟩
  have h := cfalse hb h
  have K := K.reb (s := 21) rfl hb
  refine X_o K M ?_; clear K
  refine Y_r (fun _ K => rd_field rfl fld38_0 K rfl) M ?_
  refine Y_r (fun _ K => rd_ldC rfl sc3 K rfl (inM 0 rfl) rfl) M ?_
  iterate 3 (refine Y_o M ?_)
  intro a K
  rcases Bool.eq_false_or_eq_true (decide (p_W ≤ x2)) with hb | hb
  · have h := ctrue hb h
    have K := K.reb (s := 27) rfl hb
    refine X_o K M ?_; clear K
    iterate 8 (refine Y_o M ?_)
    intro a K
    refine wpList_nil (then_n ?_)
    refine X_condT K rfl ?_
    refine wp_seq (X_reg ?_)
    refine X_o K M ?_; clear K
    refine Y_o M ?_; intro a K
    refine wpList_nil (then_n (wp_ret (then_r ?_)))
    cases h
    exact ret2 K rfl (res_tmp K rfl) (res_tmp K rfl) ⟨_, rfl, rfl, ((M).pick [] (by decide))⟩
  have h := cfalse hb h
  have K := K.reb (s := 27) rfl hb
  refine X_o K M ?_; clear K
  iterate 3 (refine Y_o M ?_)
  intro a K
  rcases Bool.eq_false_or_eq_true (decide (y < 0)) with hb | hb
  · have h := ctrue hb h
    have K := K.reb (s := 31) rfl hb
    refine X_o K M ?_; clear K
    iterate 4 (refine Y_o M ?_)
    intro a K
    refine wpList_nil (then_n ?_)
    refine X_condT K rfl ?_
    refine wp_seq (X_reg ?_)
    refine X_o K M ?_; clear K
    refine Y_o M ?_; intro a K
    refine wpList_nil (then_n (wp_ret (then_r ?_)))
    cases h
    exact ret2 K rfl (res_tmp K rfl) (res_tmp K rfl) ⟨_, rfl, rfl, ((M).pick [] (by decide))⟩
  have h := cfalse hb h
  have K := K.reb (s := 31) rfl hb
  refine X_o K M ?_; clear K
  refine Y_r (fun _ K => rd_field rfl fld38_1 K rfl) M ?_
  refine Y_r (fun _ K => rd_ldC rfl sc3 K rfl (inM 0 rfl) rfl) M ?_
  iterate 2 (refine Y_o M ?_)
  intro a K
  refine wpList_nil (then_n ?_)
  refine X_cond K rfl (fun hb => ?_) (fun hb => ?_)
  · have h := ctrue hb h
    refine wp_seq (X_reg ?_)
    refine X_o K M ?_; clear K
    refine Y_o M ?_; intro a K
    refine wpList_nil (then_n (wp_ret (then_r ?_)))
    cases h
    exact ret2 K rfl (res_tmp K rfl) (res_tmp K rfl) ⟨_, rfl, rfl, ((M).pick [] (by decide))⟩
  have h := cfalse hb h
  refine wp_skip (then_n (wp_seq (X_reg ?_)))
  refine X_r K (rd_ldA rfl ty38 K rfl (inM 0 rfl) rfl rfl) M ?_; clear K
  iterate 2 (refine Y_o M ?_)
  refine Y_r (fun _ K => rd_field rfl fld38_0 K rfl) M ?_
  refine Y_r (fun _ K => rd_ldC rfl sc3 K rfl (inM 0 rfl) rfl) M ?_
  iterate 3 (refine Y_o M ?_)
  intro a K
  obtain ⟨r3, h_r3, h⟩ := obind h
  refine X_a K (ac_call (vs := [.agg #[I p_W, I p_H, .slice A_p_P p_P.length c_p_P], I kind, I (IntKind.i64.wrap ((IntKind.i64.wrap (y * p_W)) + x2))]) (cap := []) rfl fok43 K rfl rfl (W_diff_guess N p_W p_H p_P A_p_P c_p_P kind (IntKind.i64.wrap ((IntKind.i64.wrap (y * p_W)) + x2)) _ ((inA R_p_P) _ M) C_p_P r3 h_r3)) ?_
  have M0 := M; clear K M; rintro _ a w ⟨rfl, M⟩ K
  replace M := M0.call M; clear M0
  refine X_o K M ?_; clear K
  refine Y_o M ?_; intro a K
  refine wpList_nil (then_n (wp_ret ?_))
  cases h
  exact ret2 K rfl (res_tmp K rfl) (res_tmp K rfl) ⟨_, rfl, rfl, ((M).pick [] (by decide))⟩
set_option maxRecDepth 100000 in
set_option maxHeartbeats 4000000 in
theorem W_diff_Write (N : Nat) (d_W : Int) (d_H : Int) (d_P : List Int) (A_d_P : Option Addr) (c_d_P : Nat) (o : Int) (p2 : List Int) (A_p2 : Option Addr) (c_p2 : Nat) (w0 : World) (R_d_P : SL w0 (cI .i64) A_d_P d_P) (C_d_P : d_P.length ≤ c_d_P) (R_p2 : SL w0 (cI .i64) A_p2 p2) (C_p2 : p2.length ≤ c_p2) (r : List UInt8 × Int) (h : D_diff_Write N d_W d_H d_P o p2 = some r) :
    Calls Tryd.prog 22 #[.agg #[I d_W, I d_H, .slice A_d_P d_P.length c_d_P], I o, .slice A_p2 p2.length c_p2] w0 fun e w' => ∃ v, e = .returned v ∧ v = .tuple #[.string (bs r.1), I r.2] ∧ Mem w0.heap.size w0 w' [] := by
  refine X_enter Tryd.func22 rfl Tryd.ntmps22 rfl ?_
  intro a K
  have M := Mem.start w0
  have K : Kn a 106 [(0, .agg #[I d_W, I d_H, .slice A_d_P d_P.length c_d_P]), (1, I o), (2, .slice A_p2 p2.length c_p2)] := K
  unfold D_diff_Write at h
  refine wp_seq (X_reg ?_)
  refine X_a K (ac_box rfl K rfl (cs := [I d_W, I d_H, .slice A_d_P d_P.length c_d_P]) rfl M) ?_
  clear K M; rintro _ a w ⟨g_x, rfl, M⟩ K
  refine X_o K M ?_; clear K
  refine Y_o M ?_; intro a K
  refine wpList_nil (then_n (wp_seq (wp_seq (X_reg ?_))))
  refine X_r K (rd_ldA rfl ty38 K rfl (inM 0 rfl) rfl rfl) M ?_; clear K; intro a K
  obtain ⟨r2, h_r2, h⟩ := obind h
  refine X_a K (ac_call (vs := [.agg #[I d_W, I d_H, .slice A_d_P d_P.length c_d_P]]) (cap := []) rfl fok42 K rfl rfl (W_diff_fine N d_W d_H d_P A_d_P c_d_P _ ((inA R_d_P) _ M) C_d_P r2 h_r2)) ?_
  have M0 := M; clear K M; rintro _ a w ⟨rfl, M⟩ K
  replace M := M0.call M; clear M0
  refine X_o K M ?_; clear K; intro a K
  refine wpList_nil (then_n ?_)
  refine X_cond K rfl (fun hb => ?_) (fun hb => ?_)
  · have h := ctrue hb h
    refine wp_seq (X_reg ?_)
    refine X_o K M ?_; clear K
    refine Y_o M ?_; intro a K
    refine wpList_nil (then_n (wp_ret (then_r ?_)))
    cases h
    exact ret2 K rfl (res_tmp K rfl) (res_tmp K rfl) ⟨_, rfl, rfl, ((M).pick [] (by decide))⟩
  have h := cfalse hb h
  refine wp_skip (then_n (wp_seq (wp_seq (X_reg ?_))))
  refine X_o K M ?_; clear K
  iterate 2 (refine Y_o M ?_)
  intro a K
  rcases Bool.eq_false_or_eq_true (decide (o < 1)) with hb | hb
  · have h := ctrue hb h
    have K := K.reb (s := 24) rfl hb
    refine X_o K M ?_; clear K
    iterate 2 (refine Y_o M ?_)
    intro a K
    refine wpList_nil (then_n ?_)
    refine X_condT K rfl ?_
    refine wp_seq (X_reg ?_)
    refine X_o K M ?_; clear K
    refine Y_o M ?_; intro a K
    refine wpList_nil (then_n (wp_ret (then_r ?_)))
    cases h
    exact ret2 K rfl (res_tmp K rfl) (res_tmp K rfl) ⟨_, rfl, rfl, ((M).pick [] (by decide))⟩
  have h := cfalse hb h
  have K := K.reb (s := 24) rfl hb
  refine X_o K M ?_; clear K
  iterate 2 (refine Y_o M ?_)
  intro a K
  refine wpList_nil (then_n ?_)
  refine X_cond K rfl (fun hb => ?_) (fun hb => ?_)
  · have h := ctrue hb h
    refine wp_seq (X_reg ?_)
    refine X_o K M ?_; clear K
    refine Y_o M ?_; intro a K
    refine wpList_nil (then_n (wp_ret (then_r ?_)))
    cases h
    exact ret2 K rfl (res_tmp K rfl) (res_tmp K rfl) ⟨_, rfl, rfl, ((M).pick [] (by decide))⟩
  have h := cfalse hb h
  refine wp_skip (then_n (wp_seq (X_reg ?_)))
  refine X_o K M ?_; clear K; intro a K
  obtain ⟨r3, h_r3, h⟩ := obind h
  refine X_a K (ac_call (vs := [.slice A_p2 p2.length c_p2]) (cap := []) rfl fok15 K rfl rfl (W_code_Words N p2 A_p2 c_p2 _ ((inA R_p2) _ M) C_p2 r3 h_r3)) ?_
  have M0 := M; clear K M; rintro _ a w ⟨A, c, rfl, M⟩ K
  replace M := M0.call M; clear M0
  refine X_o K M ?_; clear K
  iterate 4 (refine Y_o M ?_)
  intro a K
  refine wpList_nil (then_n (wp_seq (wp_seq (X_reg ?_))))
  refine X_o K M ?_; clear K
  refine Y_o M ?_; intro a K
  refine wpList_nil (then_n ?_)
  refine X_cond K rfl (fun hb => ?_) (fun hb => ?_)
  · have h := ctrue hb h
    refine wp_seq (X_reg ?_)
    refine X_o K M ?_; clear K
    iterate 2 (refine Y_o M ?_)
    intro a K
    refine wpList_nil (then_n (wp_ret (then_r ?_)))
    cases h
    exact ret2 K rfl (res_tmp K rfl) (res_tmp K rfl) ⟨_, rfl, rfl, ((M).pick [] (by decide))⟩
  have h := cfalse hb h
  refine wp_skip (then_n (wp_seq (X_reg ?_)))
  refine X_a K (ac_alloc rfl (show zeroT Tryd.prog 54 = some [.pointer none, .slice none 0 0] by kernel_rfl) M) ?_
  have M0 := M; clear K M; rintro _ a w ⟨g_x2, rfl, M⟩ K
  replace M := Mem.asBld 5 M
  clear M0
  refine wpList_nil (then_n (wp_seq (wp_seq (X_reg ?_))))
  refine X_r K (rd_field rfl fld38_2 K rfl) M ?_; clear K
  refine Y_r (fun _ K => rd_ldC rfl sc22 K rfl (inM 3 rfl) rfl) M ?_
  refine Y_r (fun _ K => rd_len rfl un22 K rfl) M ?_
  refine Y_o M ?_; intro a K
  refine wpList_nil (then_n (wp_block ?_))
  refine X_lp (id := 0) (Rel := fun (⟨l2, i⟩ : List UInt8 × Int) a w => ∃ (A2 : Option Addr) (c2 : Nat), Kn a 106 [(1, I o), (3, .pointer (some ⟨g_x, 0, none⟩)), (8, .slice A r3.1.length c), (10, .pointer (some ⟨g_x2, 0, none⟩)), (37, .slice A_d_P d_P.length c_d_P), (38, I (d_P.length : Int)), (39, I i)] ∧ Mem w0.heap.size w0 w [.row 5 1 A2 l2.length c2 ((cI .u8).all (ofB l2)), .bld g_x2 54 A2 l2.length c2, .row 9 1 A r3.1.length c (cS.all r3.1), .blk g_x 38 [I d_W, I d_H, .slice A_d_P d_P.length c_d_P]]) h (fun _ _ => rfl) ⟨none, 0, K.pick [1,3,8,10,37,38,39], M.pick [0,1,2,3] (by decide)⟩ ?_ ?_
  · clear K M h
    rintro ⟨l3, i2⟩ a w ⟨A15, c15, K, M⟩ h
    try dsimp only at h
    refine inb_e ?_
    refine then_n (wp_seq (X_reg ?_))
    refine X_a K (ac_call (vs := [.pointer (some ⟨g_x2, 0, none⟩)]) (cap := []) rfl fok28 K rfl rfl (W_bld_string (show Mem _ _ _ [.bld g_x2 54 A15 l3.length c15, .row 5 1 A15 l3.length c15 ((cI .u8).all (ofB l3)), .row 9 1 A r3.1.length c (cS.all r3.1), .blk g_x 38 [I d_W, I d_H, .slice A_d_P d_P.length c_d_P]] from M.pick [1,0,2,3] (by decide)))) ?_
    clear K M; rintro _ a w ⟨rfl, M⟩ K
    obtain ⟨r18, h_r18, h⟩ := obind h
    refine X_a K (ac_call (vs := [.string (bs l3)]) (cap := []) rfl fok32 K rfl rfl (W_bits_Bytes N l3 _  r18 h_r18)) ?_
    have M0 := M; clear K M; rintro _ a w ⟨rfl, M⟩ K
    replace M := M0.call M; clear M0
    refine X_o K M ?_; clear K
    iterate 4 (refine Y_o M ?_)
    intro a K
    refine wpList_nil (then_n (wp_seq (X_reg ?_)))
    refine X_o K M ?_; clear K
    iterate 2 (refine Y_o M ?_)
    intro a K
    refine wpList_nil (then_n (wp_ret ?_))
    cases h
    exact ret2 K rfl (res_tmp K rfl) (res_tmp K rfl) ⟨_, rfl, rfl, ((M).pick [] (by decide))⟩
  clear K M h
  rintro kk fuel ⟨l2, i⟩ a w hk1 ⟨A2, c2, K, M⟩ h
  unfold D_diff_Write_l1 at h
  refine wp_seq (X_reg ?_)
  refine X_o K M ?_; clear K; intro a K
  refine wpList_nil (then_n (wp_seq ?_))
  refine X_cond K rfl (fun hb => ?_) (fun hb => ?_)
  · have h := ctrue hb h
    refine wp_skip (then_n (wp_seq (wp_block (wp_seq (X_reg ?_)))))
    refine X_o K M ?_; clear K
    obtain ⟨e6, h_e6, h⟩ := obind h
    refine Y_r (fun _ K => rd_ix rfl sl22 K rfl rfl (inA R_d_P) h_e6) M ?_
    refine Y_r (fun _ K => rd_elC rfl sc3 K rfl rfl (inA R_d_P) h_e6 rfl) M ?_
    iterate 2 (refine Y_o M ?_)
    intro a K
    refine wpList_nil (then_n (wp_seq (X_reg ?_)))
    refine X_o K M ?_; clear K
    refine Y_r (fun _ K => rd_ldA rfl ty38 K rfl (inM 3 rfl) rfl rfl) M ?_
    iterate 2 (refine Y_o M ?_)
    intro a K
    obtain ⟨r11, h_r11, h⟩ := obind h
    refine X_a K (ac_call (vs := [.agg #[I d_W, I d_H, .slice A_d_P d_P.length c_d_P], I o, I i]) (cap := []) rfl fok43 K rfl rfl (W_diff_guess N d_W d_H d_P A_d_P c_d_P o i _ ((inA R_d_P) _ M) C_d_P r11 h_r11)) ?_
    have M0 := M; clear K M; rintro _ a w ⟨rfl, M⟩ K
    replace M := M0.call M; clear M0
    refine X_o K M ?_; clear K
    refine Y_r (fun _ K => rd_conv rfl rfl ik74 K rfl) M ?_
    refine Y_r (fun _ K => rd_conv rfl rfl ik3 K rfl) M ?_
    obtain ⟨x6, hx, h⟩ := olet h
    refine Y_r (fun _ K => rdi hx (rd_assign rfl K rfl)) M ?_; intro a K
    refine wpList_nil (then_n (wp_seq (wp_seq (X_reg ?_))))
    refine X_o K M ?_; clear K
    refine Y_o M ?_; intro a K
    refine wpList_nil (then_n ?_)
    refine X_cond K rfl (fun hb => ?_) (fun hb => ?_)
    · have h := ctrue hb h
      refine X_reg ?_
      refine X_o K M ?_; clear K
      refine Y_o M ?_
      obtain ⟨x7, hx, h⟩ := olet h
      refine Y_r (fun _ K => rdi hx (rd_assign rfl K rfl)) M ?_; intro a K
      refine wpList_nil (then_n (wp_seq (X_reg ?_)))
      refine X_o K M ?_; clear K
      refine Y_o M ?_
      refine Y_r (fun _ K => rd_neg rfl K rfl) M ?_
      refine Y_o M ?_
      refine Y_r (fun _ K => rd_conv rfl rfl ik76 K rfl) M ?_; intro a K
      obtain ⟨r12, h_r12, h⟩ := obind h
      refine X_a K (ac_call (vs := [.int .u64 (IntKind.u64.wrap (max x7 (IntKind.i64.wrap (0 - x7))))]) (cap := []) rfl fok48 K rfl rfl (W_math_bits_Len N (IntKind.u64.wrap (max x7 (IntKind.i64.wrap (0 - x7)))) _  r12 h_r12)) ?_
      have M0 := M; clear K M; rintro _ a w ⟨rfl, M⟩ K
      replace M := M0.call M; clear M0
      refine X_o K M ?_; clear K; intro a K
      refine wpList_nil (then_n (wp_seq (wp_seq (X_reg ?_))))
      refine X_o K M ?_; clear K
      refine Y_o M ?_
      refine Y_r (fun _ K => rd_len rfl un31 K rfl) M ?_
      iterate 2 (refine Y_o M ?_)
      intro a K
      rcases Bool.eq_false_or_eq_true (decide ((r3.1.length : Int) ≤ r12)) with hb | hb
      · have h := ctrue hb h
        have K := K.reb (s := 66) rfl hb
        refine X_o K M ?_; clear K
        iterate 5 (refine Y_o M ?_)
        intro a K
        refine wpList_nil (then_n ?_)
        refine X_condT K rfl ?_
        refine wp_seq (X_reg ?_)
        refine X_o K M ?_; clear K
        refine Y_o M ?_; intro a K
        refine wpList_nil (then_n (wp_ret (then_r (inb_r (then_r (then_r (inb_r (then_r ?_))))))))
        cases h
        exact ret2 K rfl (res_tmp K rfl) (res_tmp K rfl) ⟨_, rfl, rfl, ((M).pick [] (by decide))⟩
      have h := cfalse hb h
      have K := K.reb (s := 66) rfl hb
      refine X_o K M ?_; clear K
      refine Y_o M ?_
      obtain ⟨e7, h_e7, h⟩ := obind h
      refine Y_r (fun _ K => rd_ix rfl sl31 K rfl rfl (inR (C := cS) 2 rfl rfl) h_e7) M ?_
      refine Y_r (fun _ K => rd_elC rfl sc9 K rfl rfl (inR (C := cS) 2 rfl rfl) h_e7 rfl) M ?_
      refine Y_r (fun _ K => rd_eqlS rfl K rfl rfl) M ?_
      refine Y_o M ?_; intro a K
      refine wpList_nil (then_n ?_)
      refine X_cond K rfl (fun hb => ?_) (fun hb => ?_)
      · have h := ctrue hb h
        refine wp_seq (X_reg ?_)
        refine X_o K M ?_; clear K
        refine Y_o M ?_; intro a K
        refine wpList_nil (then_n (wp_ret (then_r (inb_r (then_r (then_r (inb_r (then_r ?_))))))))
        cases h
        exact ret2 K rfl (res_tmp K rfl) (res_tmp K rfl) ⟨_, rfl, rfl, ((M).pick [] (by decide))⟩
      have h := cfalse hb h
      refine wp_skip (then_n (wp_seq (X_reg ?_)))
      refine X_o K M ?_; clear K
      refine Y_o M ?_
      obtain ⟨e8, h_e8, h⟩ := obind h
      refine Y_r (fun _ K => rd_ix rfl sl31 K rfl rfl (inR (C := cS) 2 rfl rfl) h_e8) M ?_
      refine Y_r (fun _ K => rd_elC rfl sc9 K rfl rfl (inR (C := cS) 2 rfl rfl) h_e8 rfl) M ?_; intro a K
      obtain ⟨b7, h_b7, h⟩ := obind h
      refine X_a K (ac_call (vs := [.pointer (some ⟨g_x2, 0, none⟩), .string (bs e8)]) (cap := []) rfl fok27 K rfl rfl (W_bld_write (show Mem _ _ _ [.bld g_x2 54 A2 l2.length c2, .row 5 1 A2 l2.length c2 ((cI .u8).all (ofB l2)), .row 9 1 A r3.1.length c (cS.all r3.1), .blk g_x 38 [I d_W, I d_H, .slice A_d_P d_P.length c_d_P]] from M.pick [1,0,2,3] (by decide)) h_b7)) ?_
      clear K M; rintro _ a w ⟨A9, c9, M⟩ K
      refine wpList_nil (then_n (wp_seq (X_reg ?_)))
      refine X_o K M ?_; clear K
      iterate 2 (refine Y_o M ?_)
      intro a K
      rcases Bool.eq_false_or_eq_true (decide (0 < r12)) with hb | hb
      · have h := ctrue hb h
        have K := K.reb (s := 80) rfl hb
        refine X_o K M ?_; clear K
        iterate 2 (refine Y_o M ?_)
        intro a K
        refine wpList_nil (then_n ?_)
        refine X_cond K rfl (fun hb => ?_) (fun hb => ?_)
        · have h := ctrue hb h
          refine wp_seq (wp_seq (X_reg ?_))
          refine X_o K M ?_; clear K
          refine Y_o M ?_; intro a K
          refine wpList_nil (then_n ?_)
          refine X_cond K rfl (fun hb => ?_) (fun hb => ?_)
          · have h := ctrue hb h
            refine X_reg ?_
            refine X_o K M ?_; clear K
            refine Y_o M ?_; intro a K
            obtain ⟨_, h0, h⟩ := obind h
            have h0 := nn_spec h0
            refine X_r K (rd_shl rfl K rfl rfl h0) M ?_; clear K
            iterate 2 (refine Y_o M ?_)
            obtain ⟨x8, hx, h⟩ := olet h
            refine Y_r (fun _ K => rdi hx (rd_assign rfl K rfl)) M ?_; intro a K
            refine wpList_nil (then_n (wp_seq (X_reg ?_)))
            refine X_o K M ?_; clear K
            refine Y_o M ?_; intro a K
            obtain ⟨r13, h_r13, h⟩ := obind h
            refine X_a K (ac_call (vs := [I x8, I r12]) (cap := []) rfl fok41 K rfl rfl (W_bits_Number N x8 r12 _  r13 h_r13)) ?_
            have M0 := M; clear K M; rintro _ a w ⟨rfl, M⟩ K
            replace M := M0.call M; clear M0
            refine X_o K M ?_; clear K
            iterate 4 (refine Y_o M ?_)
            intro a K
            refine wpList_nil (then_n (X_reg ?_))
            refine X_o K M ?_; clear K; intro a K
            obtain ⟨b8, h_b8, h⟩ := obind h
            refine X_a K (ac_call (vs := [.pointer (some ⟨g_x2, 0, none⟩), .string (bs r13.1)]) (cap := []) rfl fok27 K rfl rfl (W_bld_write (show Mem _ _ _ [.bld g_x2 54 A9 b7.length c9, .row 5 1 A9 b7.length c9 ((cI .u8).all (ofB b7)), .row 9 1 A r3.1.length c (cS.all r3.1), .blk g_x 38 [I d_W, I d_H, .slice A_d_P d_P.length c_d_P]] from M.pick [0,1,2,3] (by decide)) h_b8)) ?_
            clear K M; rintro _ a w ⟨A10, c10, M⟩ K
            refine wpList_nil (inb_n (then_n (X_reg ?_)))
            refine X_o K M ?_; clear K
            refine Y_o M ?_; intro a K
            refine wpList_nil ?_
            exact then_n ⟨(b8, IntKind.i64.wrap (i + 1)), ⟨A10, c10, K.pick [1,3,8,10,37,38,39], M.pick [1,0,2,3] (by decide)⟩, h⟩
          have h := cfalse hb h
          refine wp_skip (then_n (wp_seq (X_reg ?_)))
          refine X_o K M ?_; clear K
          refine Y_o M ?_; intro a K
          obtain ⟨r14, h_r14, h⟩ := obind h
          refine X_a K (ac_call (vs := [I x7, I r12]) (cap := []) rfl fok41 K rfl rfl (W_bits_Number N x7 r12 _  r14 h_r14)) ?_
          have M0 := M; clear K M; rintro _ a w ⟨rfl, M⟩ K
          replace M := M0.call M; clear M0
          refine X_o K M ?_; clear K
          iterate 4 (refine Y_o M ?_)
          intro a K
          refine wpList_nil (then_n (X_reg ?_))
          refine X_o K M ?_; clear K; intro a K
          obtain ⟨b9, h_b9, h⟩ := obind h
          refine X_a K (ac_call (vs := [.pointer (some ⟨g_x2, 0, none⟩), .string (bs r14.1)]) (cap := []) rfl fok27 K rfl rfl (W_bld_write (show Mem _ _ _ [.bld g_x2 54 A9 b7.length c9, .row 5 1 A9 b7.length c9 ((cI .u8).all (ofB b7)), .row 9 1 A r3.1.length c (cS.all r3.1), .blk g_x 38 [I d_W, I d_H, .slice A_d_P d_P.length c_d_P]] from M.pick [0,1,2,3] (by decide)) h_b9)) ?_
          clear K M; rintro _ a w ⟨A11, c11, M⟩ K
          refine wpList_nil (inb_n (then_n (X_reg ?_)))
          refine X_o K M ?_; clear K
          refine Y_o M ?_; intro a K
          refine wpList_nil ?_
          exact then_n ⟨(b9, IntKind.i64.wrap (i + 1)), ⟨A11, c11, K.pick [1,3,8,10,37,38,39], M.pick [1,0,2,3] (by decide)⟩, h⟩
        have h := cfalse hb h
        refine wp_skip (inb_n (then_n (X_reg ?_)))
        refine X_o K M ?_; clear K
        refine Y_o M ?_; intro a K
        refine wpList_nil ?_
        exact then_n ⟨(b7, IntKind.i64.wrap (i + 1)), ⟨A9, c9, K.pick [1,3,8,10,37,38,39], M.pick [1,0,2,3] (by decide)⟩, h⟩
      have h := cfalse hb h
      have K := K.reb (s := 80) rfl hb
      refine X_o K M ?_; clear K
      iterate 2 (refine Y_o M ?_)
      intro a K
      refine wpList_nil (then_n ?_)
      refine X_condF K rfl ?_
      refine wp_skip (inb_n (then_n (X_reg ?_)))
      refine X_o K M ?_; clear K
      refine Y_o M ?_; intro a K
      refine wpList_nil ?_
      exact then_n ⟨(b7, IntKind.i64.wrap (i + 1)), ⟨A9, c9, K.pick [1,3,8,10,37,38,39], M.pick [1,0,2,3] (by decide)⟩, h⟩
    have h := cfalse hb h
    refine wp_skip (then_n (wp_seq (X_reg ?_)))
    refine X_o K M ?_; clear K
    refine Y_o M ?_
    refine Y_r (fun _ K => rd_neg rfl K rfl) M ?_
    refine Y_o M ?_
    refine Y_r (fun _ K => rd_conv rfl rfl ik76 K rfl) M ?_; intro a K
    obtain ⟨r15, h_r15, h⟩ := obind h
    refine X_a K (ac_call (vs := [.int .u64 (IntKind.u64.wrap (max x6 (IntKind.i64.wrap (0 - x6))))]) (cap := []) rfl fok48 K rfl rfl (W_math_bits_Len N (IntKind.u64.wrap (max x6 (IntKind.i64.wrap (0 - x6)))) _  r15 h_r15)) ?_
    have M0 := M; clear K M; rintro _ a w ⟨rfl, M⟩ K
    replace M := M0.call M; clear M0
    refine X_o K M ?_; clear K; intro a K
    refine wpList_nil (then_n (wp_seq (wp_seq (X_reg ?_))))
    refine X_o K M ?_; clear K
    refine Y_o M ?_
    refine Y_r (fun _ K => rd_len rfl un31 K rfl) M ?_
    iterate 2 (refine Y_o M ?_)
    intro a K
    rcases Bool.eq_false_or_eq_true (decide ((r3.1.length : Int) ≤ r15)) with hb | hb
    · have h := ctrue hb h
      have K := K.reb (s := 66) rfl hb
      refine X_o K M ?_; clear K
      iterate 5 (refine Y_o M ?_)
      intro a K
      refine wpList_nil (then_n ?_)
      refine X_condT K rfl ?_
      refine wp_seq (X_reg ?_)
      refine X_o K M ?_; clear K
      refine Y_o M ?_; intro a K
      refine wpList_nil (then_n (wp_ret (then_r (inb_r (then_r (then_r (inb_r (then_r ?_))))))))
      cases h
      exact ret2 K rfl (res_tmp K rfl) (res_tmp K rfl) ⟨_, rfl, rfl, ((M).pick [] (by decide))⟩
    have h := cfalse hb h
    have K := K.reb (s := 66) rfl hb
    refine X_o K M ?_; clear K
    refine Y_o M ?_
    obtain ⟨e9, h_e9, h⟩ := obind h
    refine Y_r (fun _ K => rd_ix rfl sl31 K rfl rfl (inR (C := cS) 2 rfl rfl) h_e9) M ?_
    refine Y_r (fun _ K => rd_elC rfl sc9 K rfl rfl (inR (C := cS) 2 rfl rfl) h_e9 rfl) M ?_
    refine Y_r (fun _ K => rd_eqlS rfl K rfl rfl) M ?_
    refine Y_o M ?_; intro a K
    refine wpList_nil (then_n ?_)
    refine X_cond K rfl (fun hb => ?_) (fun hb => ?_)
    · have h := ctrue hb h
      refine wp_seq (X_reg ?_)
      refine X_o K M ?_; clear K
      refine Y_o M ?_; intro a K
      refine wpList_nil (then_n (wp_ret (then_r (inb_r (then_r (then_r (inb_r (then_r ?_))))))))
      cases h
      exact ret2 K rfl (res_tmp K rfl) (res_tmp K rfl) ⟨_, rfl, rfl, ((M).pick [] (by decide))⟩
    have h := cfalse hb h
    refine wp_skip (then_n (wp_seq (X_reg ?_)))
    refine X_o K M ?_; clear K
    refine Y_o M ?_
    obtain ⟨e10, h_e10, h⟩ := obind h
    refine Y_r (fun _ K => rd_ix rfl sl31 K rfl rfl (inR (C := cS) 2 rfl rfl) h_e10) M ?_
    refine Y_r (fun _ K => rd_elC rfl sc9 K rfl rfl (inR (C := cS) 2 rfl rfl) h_e10 rfl) M ?_; intro a K
    obtain ⟨b10, h_b10, h⟩ := obind h
    refine X_a K (ac_call (vs := [.pointer (some ⟨g_x2, 0, none⟩), .string (bs e10)]) (cap := []) rfl fok27 K rfl rfl (W_bld_write (show Mem _ _ _ [.bld g_x2 54 A2 l2.length c2, .row 5 1 A2 l2.length c2 ((cI .u8).all (ofB l2)), .row 9 1 A r3.1.length c (cS.all r3.1), .blk g_x 38 [I d_W, I d_H, .slice A_d_P d_P.length c_d_P]] from M.pick [1,0,2,3] (by decide)) h_b10)) ?_
    clear K M; rintro _ a w ⟨A12, c12, M⟩ K
    refine wpList_nil (then_n (wp_seq (X_reg ?_)))
    refine X_o K M ?_; clear K
    iterate 2 (refine Y_o M ?_)
    intro a K
    rcases Bool.eq_false_or_eq_true (decide (0 < r15)) with hb | hb
    · have h := ctrue hb h
      have K := K.reb (s := 80) rfl hb
      refine X_o K M ?_; clear K
      iterate 2 (refine Y_o M ?_)
      intro a K
      refine wpList_nil (then_n ?_)
      refine X_cond K rfl (fun hb => ?_) (fun hb => ?_)
      · have h := ctrue hb h
        refine wp_seq (wp_seq (X_reg ?_))
        refine X_o K M ?_; clear K
        refine Y_o M ?_; intro a K
        refine wpList_nil (then_n ?_)
        refine X_cond K rfl (fun hb => ?_) (fun hb => ?_)
        · have h := ctrue hb h
          refine X_reg ?_
          refine X_o K M ?_; clear K
          refine Y_o M ?_; intro a K
          obtain ⟨_, h0, h⟩ := obind h
          have h0 := nn_spec h0
          refine X_r K (rd_shl rfl K rfl rfl h0) M ?_; clear K
          iterate 2 (refine Y_o M ?_)
          obtain ⟨x9, hx, h⟩ := olet h
          refine Y_r (fun _ K => rdi hx (rd_assign rfl K rfl)) M ?_; intro a K
          refine wpList_nil (then_n (wp_seq (X_reg ?_)))
          refine X_o K M ?_; clear K
          refine Y_o M ?_; intro a K
          obtain ⟨r16, h_r16, h⟩ := obind h
          refine X_a K (ac_call (vs := [I x9, I r15]) (cap := []) rfl fok41 K rfl rfl (W_bits_Number N x9 r15 _  r16 h_r16)) ?_
          have M0 := M; clear K M; rintro _ a w ⟨rfl, M⟩ K
          replace M := M0.call M; clear M0
          refine X_o K M ?_; clear K
          iterate 4 (refine Y_o M ?_)
          intro a K
          refine wpList_nil (then_n (X_reg ?_))
          refine X_o K M ?_; clear K; intro a K
          obtain ⟨b11, h_b11, h⟩ := obind h
          refine X_a K (ac_call (vs := [.pointer (some ⟨g_x2, 0, none⟩), .string (bs r16.1)]) (cap := []) rfl fok27 K rfl rfl (W_bld_write (show Mem _ _ _ [.bld g_x2 54 A12 b10.length c12, .row 5 1 A12 b10.length c12 ((cI .u8).all (ofB b10)), .row 9 1 A r3.1.length c (cS.all r3.1), .blk g_x 38 [I d_W, I d_H, .slice A_d_P d_P.length c_d_P]] from M.pick [0,1,2,3] (by decide)) h_b11)) ?_
          clear K M; rintro _ a w ⟨A13, c13, M⟩ K
          refine wpList_nil (inb_n (then_n (X_reg ?_)))
          refine X_o K M ?_; clear K
          refine Y_o M ?_; intro a K
          refine wpList_nil ?_
          exact then_n ⟨(b11, IntKind.i64.wrap (i + 1)), ⟨A13, c13, K.pick [1,3,8,10,37,38,39], M.pick [1,0,2,3] (by decide)⟩, h⟩
        have h := cfalse hb h
        refine wp_skip (then_n (wp_seq (X_reg ?_)))
        refine X_o K M ?_; clear K
        refine Y_o M ?_; intro a K
        obtain ⟨r17, h_r17, h⟩ := obind h
        refine X_a K (ac_call (vs := [I x6, I r15]) (cap := []) rfl fok41 K rfl rfl (W_bits_Number N x6 r15 _  r17 h_r17)) ?_
        have M0 := M; clear K M; rintro _ a w ⟨rfl, M⟩ K
        replace M := M0.call M; clear M0
        refine X_o K M ?_; clear K
        iterate 4 (refine Y_o M ?_)
        intro a K
        refine wpList_nil (then_n (X_reg ?_))
        refine X_o K M ?_; clear K; intro a K
        obtain ⟨b12, h_b12, h⟩ := obind h
        refine X_a K (ac_call (vs := [.pointer (some ⟨g_x2, 0, none⟩), .string (bs r17.1)]) (cap := []) rfl fok27 K rfl rfl (W_bld_write (show Mem _ _ _ [.bld g_x2 54 A12 b10.length c12, .row 5 1 A12 b10.length c12 ((cI .u8).all (ofB b10)), .row 9 1 A r3.1.length c (cS.all r3.1), .blk g_x 38 [I d_W, I d_H, .slice A_d_P d_P.length c_d_P]] from M.pick [0,1,2,3] (by decide)) h_b12)) ?_
        clear K M; rintro _ a w ⟨A14, c14, M⟩ K
        refine wpList_nil (inb_n (then_n (X_reg ?_)))
        refine X_o K M ?_; clear K
        refine Y_o M ?_; intro a K
        refine wpList_nil ?_
        exact then_n ⟨(b12, IntKind.i64.wrap (i + 1)), ⟨A14, c14, K.pick [1,3,8,10,37,38,39], M.pick [1,0,2,3] (by decide)⟩, h⟩
      have h := cfalse hb h
      refine wp_skip (inb_n (then_n (X_reg ?_)))
      refine X_o K M ?_; clear K
      refine Y_o M ?_; intro a K
      refine wpList_nil ?_
      exact then_n ⟨(b10, IntKind.i64.wrap (i + 1)), ⟨A12, c12, K.pick [1,3,8,10,37,38,39], M.pick [1,0,2,3] (by decide)⟩, h⟩
    have h := cfalse hb h
    have K := K.reb (s := 80) rfl hb
    refine X_o K M ?_; clear K
    iterate 2 (refine Y_o M ?_)
    intro a K
    refine wpList_nil (then_n ?_)
    refine X_condF K rfl ?_
    refine wp_skip (inb_n (then_n (X_reg ?_)))
    refine X_o K M ?_; clear K
    refine Y_o M ?_; intro a K
    refine wpList_nil ?_
    exact then_n ⟨(b10, IntKind.i64.wrap (i + 1)), ⟨A12, c12, K.pick [1,3,8,10,37,38,39], M.pick [1,0,2,3] (by decide)⟩, h⟩
  have h := cfalse hb h
  refine wp_exit ?_
  refine then_e ?_
  exact then_e (hk1 (l2, i) _ _ ⟨A2, c2, K.pick [1,3,8,10,37,38,39], M.pick [0,1,2,3] (by decide)⟩ h)
set_option maxRecDepth 100000 in
set_option maxHeartbeats 4000000 in
theorem W_diff_Read (N : Nat) (d : List UInt8) (o : Int) (p2 : Int) (p3 : Int) (p4 : List Int) (A_p4 : Option Addr) (c_p4 : Nat) (w0 : World) (R_p4 : SL w0 (cI .i64) A_p4 p4) (C_p4 : p4.length ≤ c_p4) (r : Int × Int × List Int × Int) (h : D_diff_Read N d o p2 p3 p4 = some r) :
    Calls Tryd.prog 24 #[.string (bs d), I o, I p2, I p3, .slice A_p4 p4.length c_p4] w0 fun e w' => ∃ v, e = .returned v ∧ ∃ A2 c2, v = .tuple #[.agg #[I r.1, I r.2.1, .slice A2 r.2.2.1.length c2], I r.2.2.2] ∧ Mem w0.heap.size w0 w' [.row 3 1 A2 r.2.2.1.length c2 ((cI .i64).all r.2.2.1)] := by
  refine X_enter Tryd.func24 rfl Tryd.ntmps24 rfl ?_
  intro a K
  have M := Mem.start w0
  have K : Kn a 123 [(0, .string (bs d)), (1, I o), (2, I p2), (3, I p3), (4, .slice A_p4 p4.length c_p4)] := K
  unfold D_diff_Read at h
  refine wp_seq (X_reg ?_)
  refine X_a K (ac_box rfl K rfl (cs := [.string (bs d)]) rfl M) ?_
  clear K M; rintro _ a w ⟨g_x, rfl, M⟩ K
  refine X_a K (ac_alloc rfl z38 M) ?_
  clear K M; rintro _ a w ⟨g_x2, rfl, M⟩ K
  refine X_o K M ?_; clear K; intro a K
  refine wpList_nil (then_n (wp_seq (wp_seq (X_reg ?_))))
  refine X_o K M ?_; clear K
  iterate 2 (refine Y_o M ?_)
  intro a K
  rcases Bool.eq_false_or_eq_true (decide (o < 1)) with hb | hb
  · have h := ctrue hb h
    have K := K.reb (s := 24) rfl hb
    refine X_o K M ?_; clear K
    iterate 10 (refine Y_o M ?_)
    intro a K
    refine wpList_nil (then_n ?_)
    refine X_condT K rfl ?_
    refine wp_seq (X_reg ?_)
    refine X_r K (rd_build rfl K (vs := []) (cs := [I 0, I 0, .slice none ([] : List Int).length 0]) rfl (by kernel_rfl)) M ?_; clear K; intro a K
    refine X_b K (ac_storeA rfl ty38 K rfl (ds := [I 0, I 0, .slice none ([] : List Int).length 0]) rfl rfl 0 M rfl rfl rfl) ?_
    clear K M; rintro _ a w M K
    refine X_o K M ?_; clear K; intro a K
    refine wpList_nil (then_n (wp_ret (then_r ?_)))
    cases h
    exact ret2 K rfl (res_cellA K rfl ty38 (M.blkAt (i := 0) rfl) rfl) (res_tmp K rfl) ⟨_, rfl, _, _, rfl, (((Mem.nilrow 3 1 (cI .i64) M)).pick [0] (by decide))⟩
  have h := cfalse hb h
  have K := K.reb (s := 24) rfl hb
  refine X_o K M ?_; clear K
  iterate 3 (refine Y_o M ?_)
  intro a K
  rcases Bool.eq_false_or_eq_true (decide (64 < o)) with hb | hb
  · have h := ctrue hb h
    have K := K.reb (s := 28) rfl hb
    refine X_o K M ?_; clear K
    iterate 6 (refine Y_o M ?_)
    intro a K
    refine wpList_nil (then_n ?_)
    refine X_condT K rfl ?_
    refine wp_seq (X_reg ?_)
    refine X_r K (rd_build rfl K (vs := []) (cs := [I 0, I 0, .slice none ([] : List Int).length 0]) rfl (by kernel_rfl)) M ?_; clear K; intro a K
    refine X_b K (ac_storeA rfl ty38 K rfl (ds := [I 0, I 0, .slice none ([] : List Int).length 0]) rfl rfl 0 M rfl rfl rfl) ?_
    clear K M; rintro _ a w M K
    refine X_o K M ?_; clear K; intro a K
    refine wpList_nil (then_n (wp_ret (then_r ?_)))
    cases h
    exact ret2 K rfl (res_cellA K rfl ty38 (M.blkAt (i := 0) rfl) rfl) (res_tmp K rfl) ⟨_, rfl, _, _, rfl, (((Mem.nilrow 3 1 (cI .i64) M)).pick [0] (by decide))⟩
  have h := cfalse hb h
  have K := K.reb (s := 28) rfl hb
  refine X_o K M ?_; clear K
  iterate 3 (refine Y_o M ?_)
  intro a K
  rcases Bool.eq_false_or_eq_true (decide (p2 < 1)) with hb | hb
  · have h := ctrue hb h
    have K := K.reb (s := 32) rfl hb
    refine X_o K M ?_; clear K
    iterate 2 (refine Y_o M ?_)
    intro a K
    refine wpList_nil (then_n ?_)
    refine X_condT K rfl ?_
    refine wp_seq (X_reg ?_)
    refine X_r K (rd_build rfl K (vs := []) (cs := [I 0, I 0, .slice none ([] : List Int).length 0]) rfl (by kernel_rfl)) M ?_; clear K; intro a K
    refine X_b K (ac_storeA rfl ty38 K rfl (ds := [I 0, I 0, .slice none ([] : List Int).length 0]) rfl rfl 0 M rfl rfl rfl) ?_
    clear K M; rintro _ a w M K
    refine X_o K M ?_; clear K; intro a K
    refine wpList_nil (then_n (wp_ret (then_r ?_)))
    cases h
    exact ret2 K rfl (res_cellA K rfl ty38 (M.blkAt (i := 0) rfl) rfl) (res_tmp K rfl) ⟨_, rfl, _, _, rfl, (((Mem.nilrow 3 1 (cI .i64) M)).pick [0] (by decide))⟩
  have h := cfalse hb h
  have K := K.reb (s := 32) rfl hb
  refine X_o K M ?_; clear K
  iterate 2 (refine Y_o M ?_)
  intro a K
  refine wpList_nil (then_n ?_)
  refine X_cond K rfl (fun hb => ?_) (fun hb => ?_)
  · have h := ctrue hb h
    refine wp_seq (X_reg ?_)
    refine X_r K (rd_build rfl K (vs := []) (cs := [I 0, I 0, .slice none ([] : List Int).length 0]) rfl (by kernel_rfl)) M ?_; clear K; intro a K
    refine X_b K (ac_storeA rfl ty38 K rfl (ds := [I 0, I 0, .slice none ([] : List Int).length 0]) rfl rfl 0 M rfl rfl rfl) ?_
    clear K M; rintro _ a w M K
    refine X_o K M ?_; clear K; intro a K
    refine wpList_nil (then_n (wp_ret (then_r ?_)))
    cases h
    exact ret2 K rfl (res_cellA K rfl ty38 (M.blkAt (i := 0) rfl) rfl) (res_tmp K rfl) ⟨_, rfl, _, _, rfl, (((Mem.nilrow 3 1 (cI .i64) M)).pick [0] (by decide))⟩
  have h := cfalse hb h
  refine wp_skip (then_n (wp_seq (wp_seq (X_reg ?_))))
  refine X_o K M ?_; clear K
  iterate 2 (refine Y_o M ?_)
  intro a K
  rcases Bool.eq_false_or_eq_true (decide (p3 < 1)) with hb | hb
  · have h := ctrue hb h
    have K := K.reb (s := 39) rfl hb
    refine X_o K M ?_; clear K
    iterate 2 (refine Y_o M ?_)
    intro a K
    refine wpList_nil (then_n ?_)
    refine X_condT K rfl ?_
    refine wp_seq (X_reg ?_)
    refine X_r K (rd_build rfl K (vs := []) (cs := [I 0, I 0, .slice none ([] : List Int).length 0]) rfl (by kernel_rfl)) M ?_; clear K; intro a K
    refine X_b K (ac_storeA rfl ty38 K rfl (ds := [I 0, I 0, .slice none ([] : List Int).length 0]) rfl rfl 0 M rfl rfl rfl) ?_
    clear K M; rintro _ a w M K
    refine X_o K M ?_; clear K; intro a K
    refine wpList_nil (then_n (wp_ret (then_r ?_)))
    cases h
    exact ret2 K rfl (res_cellA K rfl ty38 (M.blkAt (i := 0) rfl) rfl) (res_tmp K rfl) ⟨_, rfl, _, _, rfl, (((Mem.nilrow 3 1 (cI .i64) M)).pick [0] (by decide))⟩
  have h := cfalse hb h
  have K := K.reb (s := 39) rfl hb
  refine X_o K M ?_; clear K
  iterate 2 (refine Y_o M ?_)
  intro a K
  refine wpList_nil (then_n ?_)
  refine X_cond K rfl (fun hb => ?_) (fun hb => ?_)
  · have h := ctrue hb h
    refine wp_seq (X_reg ?_)
    refine X_r K (rd_build rfl K (vs := []) (cs := [I 0, I 0, .slice none ([] : List Int).length 0]) rfl (by kernel_rfl)) M ?_; clear K; intro a K
    refine X_b K (ac_storeA rfl ty38 K rfl (ds := [I 0, I 0, .slice none ([] : List Int).length 0]) rfl rfl 0 M rfl rfl rfl) ?_
    clear K M; rintro _ a w M K
    refine X_o K M ?_; clear K; intro a K
    refine wpList_nil (then_n (wp_ret (then_r ?_)))
    cases h
    exact ret2 K rfl (res_cellA K rfl ty38 (M.blkAt (i := 0) rfl) rfl) (res_tmp K rfl) ⟨_, rfl, _, _, rfl, (((Mem.nilrow 3 1 (cI .i64) M)).pick [0] (by decide))⟩
  have h := cfalse hb h
  refine wp_skip (then_n (wp_seq (wp_seq (X_reg ?_))))
  refine X_o K M ?_; clear K; intro a K
  obtain ⟨r2, h_r2, h⟩ := obind h
  refine X_a K (ac_call (vs := [.slice A_p4 p4.length c_p4]) (cap := []) rfl fok37 K rfl rfl (W_code_Check N p4 A_p4 c_p4 _ ((inA R_p4) _ M) C_p4 r2 h_r2)) ?_
  have M0 := M; clear K M; rintro _ a w ⟨rfl, M⟩ K
  replace M := M0.call M; clear M0
  refine X_o K M ?_; clear K; intro a K
  refine wpList_nil (then_n (wp_seq (X_reg ?_)))
  refine X_o K M ?_; clear K
  refine Y_o M ?_; intro a K
  refine wpList_nil (then_n ?_)
  refine X_cond K rfl (fun hb => ?_) (fun hb => ?_)
  · have h := ctrue hb h
    refine wp_seq (X_reg ?_)
    refine X_r K (rd_build rfl K (vs := []) (cs := [I 0, I 0, .slice none ([] : List Int).length 0]) rfl (by kernel_rfl)) M ?_; clear K
    refine Y_o M ?_; intro a K
    refine X_b K (ac_storeA rfl ty38 K rfl (ds := [I 0, I 0, .slice none ([] : List Int).length 0]) rfl rfl 0 M rfl rfl rfl) ?_
    clear K M; rintro _ a w M K
    refine X_o K M ?_; clear K; intro a K
    refine wpList_nil (then_n (wp_ret (then_r ?_)))
    cases h
    exact ret2 K rfl (res_cellA K rfl ty38 (M.blkAt (i := 0) rfl) rfl) (res_tmp K rfl) ⟨_, rfl, _, _, rfl, (((Mem.nilrow 3 1 (cI .i64) M)).pick [0] (by decide))⟩
  have h := cfalse hb h
  refine wp_skip (then_n (wp_seq (X_reg ?_)))
  refine X_o K M ?_; clear K
  refine Y_o M ?_
  refine Y_r (fun _ K => rd_build rfl K (vs := [(0, I o), (1, I p2)]) (cs := [I o, I p2, .slice none ([] : List Int).length 0]) rfl (by kernel_rfl)) M ?_; intro a K
  refine X_a K (ac_alloc rfl z38 M) ?_
  clear K M; rintro _ a w ⟨g_x3, rfl, M⟩ K
  refine X_b K (ac_storeA rfl ty38 K rfl (ds := [I o, I p2, .slice none ([] : List Int).length 0]) rfl rfl 0 M rfl rfl rfl) ?_
  clear K M; rintro _ a w M K
  refine wpList_nil (then_n (wp_seq (X_reg ?_)))
  refine X_a K (ac_alloc rfl z9 M) ?_
  clear K M; rintro _ a w ⟨g_x4, rfl, M⟩ K
  refine X_b K (ac_storeC rfl sc9 K rfl rfl rfl 0 M rfl rfl) ?_
  clear K M; rintro _ a w M K
  refine wpList_nil (then_n (wp_seq (X_reg ?_)))
  refine X_r K (rd_func rfl K (vs := [.pointer (some ⟨g_x4, 0, none⟩), .pointer (some ⟨g_x, 0, none⟩)]) rfl) M ?_; clear K
  refine Y_o M ?_; intro a K
  refine wpList_nil (then_n (wp_seq (wp_seq (X_reg ?_))))
  refine X_o K M ?_; clear K
  iterate 3 (refine Y_o M ?_)
  intro a K
  refine wpList_nil (then_n (wp_block ?_))
  replace M := Mem.nilrow 3 1 (cI .i64) M
  refine X_lp (id := 0) (Rel := fun (⟨x_P, x3, x4, i⟩ : List Int × List UInt8 × List UInt8 × Int) a w => ∃ (A : Option Addr) (c : Nat), Kn a 123 [(3, I p3), (4, .slice A_p4 p4.length c_p4), (5, .pointer (some ⟨g_x, 0, none⟩)), (10, .pointer (some ⟨g_x2, 0, none⟩)), (13, .pointer (some ⟨g_x3, 0, none⟩)), (14, .pointer (some ⟨g_x4, 0, none⟩)), (15, .func (.func 53) #[] #[.pointer (some ⟨g_x4, 0, none⟩), .pointer (some ⟨g_x, 0, none⟩)]), (56, I (IntKind.i64.wrap (o * p2))), (57, I i)] ∧ Mem w0.heap.size w0 w [.row 3 1 A x_P.length c ((cI .i64).all x_P), .blk g_x4 9 [.string (bs x3)], .blk g_x3 38 [I o, I p2, .slice A x_P.length c], .blk g_x2 38 [I 0, I 0, .slice none ([] : List Int).length 0], .blk g_x 9 [.string (bs x4)]]) h (fun _ _ => rfl) ⟨none, 0, K.pick [3,4,5,10,13,14,15,56,57], M.pick [0,1,2,3,4] (by decide)⟩ ?_ ?_
  · clear K M h
    rintro ⟨x_P4, x27, x28, i8⟩ a w ⟨A7, c7, K, M⟩ h
    try dsimp only at h
    refine inb_e ?_
    refine then_n (wp_seq (wp_seq (X_reg ?_)))
    refine X_r K (rd_ldC rfl sc9 K rfl (inM 4 rfl) rfl) M ?_; clear K
    refine Y_r (fun _ K => rd_neqS rfl K rfl rfl) M ?_
    refine Y_o M ?_; intro a K
    rcases Bool.eq_false_or_eq_true (!decide (x28 = ([] : List UInt8))) with hb | hb
    · have h := ctrue hb h
      have K := K.reb (s := 117) rfl hb
      refine X_o K M ?_; clear K
      iterate 2 (refine Y_o M ?_)
      intro a K
      refine wpList_nil (then_n ?_)
      refine X_condT K rfl ?_
      refine wp_seq (X_reg ?_)
      refine X_r K (rd_build rfl K (vs := []) (cs := [I 0, I 0, .slice none ([] : List Int).length 0]) rfl (by kernel_rfl)) M ?_; clear K; intro a K
      refine X_b K (ac_storeA rfl ty38 K rfl (ds := [I 0, I 0, .slice none ([] : List Int).length 0]) rfl rfl 3 M rfl rfl rfl) ?_
      clear K M; rintro _ a w M K
      refine X_o K M ?_; clear K; intro a K
      refine wpList_nil (then_n (wp_ret (then_r ?_)))
      cases h
      exact ret2 K rfl (res_cellA K rfl ty38 (M.blkAt (i := 3) rfl) rfl) (res_tmp K rfl) ⟨_, rfl, _, _, rfl, (((Mem.nilrow 3 1 (cI .i64) M)).pick [0] (by decide))⟩
    have h := cfalse hb h
    have K := K.reb (s := 117) rfl hb
    refine X_r K (rd_ldC rfl sc9 K rfl (inM 1 rfl) rfl) M ?_; clear K; intro a K
    obtain ⟨r23, h_r23, h⟩ := obind h
    refine X_a K (ac_call (vs := [.string (bs x27), .string (bs ([49] : List UInt8))]) (cap := []) rfl fok57 K rfl rfl (W_strings_Contains N x27 ([49] : List UInt8) _  r23 h_r23)) ?_
    have M0 := M; clear K M; rintro _ a w ⟨rfl, M⟩ K
    replace M := M0.call M; clear M0
    refine X_o K M ?_; clear K; intro a K
    refine wpList_nil (then_n ?_)
    refine X_cond K rfl (fun hb => ?_) (fun hb => ?_)
    · have h := ctrue hb h
      refine wp_seq (X_reg ?_)
      refine X_r K (rd_build rfl K (vs := []) (cs := [I 0, I 0, .slice none ([] : List Int).length 0]) rfl (by kernel_rfl)) M ?_; clear K; intro a K
      refine X_b K (ac_storeA rfl ty38 K rfl (ds := [I 0, I 0, .slice none ([] : List Int).length 0]) rfl rfl 3 M rfl rfl rfl) ?_
      clear K M; rintro _ a w M K
      refine X_o K M ?_; clear K; intro a K
      refine wpList_nil (then_n (wp_ret (then_r ?_)))
      cases h
      exact ret2 K rfl (res_cellA K rfl ty38 (M.blkAt (i := 3) rfl) rfl) (res_tmp K rfl) ⟨_, rfl, _, _, rfl, (((Mem.nilrow 3 1 (cI .i64) M)).pick [0] (by decide))⟩
    have h := cfalse hb h
    refine wp_skip (then_n (wp_seq (X_reg ?_)))
    refine X_r K (rd_ldA rfl ty38 K rfl (inM 2 rfl) rfl rfl) M ?_; clear K; intro a K
    refine X_b K (ac_storeA rfl ty38 K rfl (ds := [I o, I p2, .slice A7 x_P4.length c7]) rfl rfl 3 M rfl rfl rfl) ?_
    clear K M; rintro _ a w M K
    refine X_o K M ?_; clear K; intro a K
    refine wpList_nil (then_n (wp_ret ?_))
    cases h
    exact ret2 K rfl (res_cellA K rfl ty38 (M.blkAt (i := 3) rfl) rfl) (res_tmp K rfl) ⟨_, rfl, _, _, rfl, ((M).pick [0] (by decide))⟩
  clear K M h
  rintro kk fuel ⟨x_P, x3, x4, i⟩ a w hk1 ⟨A, c, K, M⟩ h
  unfold D_diff_Read_l1 at h
  refine wp_seq (X_reg ?_)
  refine X_o K M ?_; clear K; intro a K
  refine wpList_nil (then_n (wp_seq ?_))
  refine X_cond K rfl (fun hb => ?_) (fun hb => ?_)
  · have h := ctrue hb h
    refine wp_skip (then_n (wp_seq (wp_block (wp_seq (X_reg ?_)))))
    refine X_o K M ?_; clear K
    refine Y_o M ?_; intro a K
    refine wpList_nil (then_n (wp_seq (X_reg ?_)))
    refine X_r K (rd_field rfl fld38_2 K rfl) M ?_; clear K
    refine Y_r (fun _ K => rd_ldC rfl sc22 K rfl (inM 2 rfl) rfl) M ?_; intro a K
    refine X_a K (ac_bslice rfl sl22 z3 K (vs := [(0, I 0)]) (cs := [I 0]) rfl (by kernel_rfl) rfl rfl M) ?_
    have M0 := M; clear K M; rintro _ a w ⟨gs2, rfl, M⟩ K
    replace M := M.asRow 0 rfl (cI .i64) ([0] : List Int) (n := 1) rfl rfl rfl
    clear M0
    obtain ⟨x_P3, h_x_P3, h⟩ := obind h
    refine X_a K (ac_app (C := (cI .i64)) (xs := x_P) (ys := ([0] : List Int)) rfl sl22 rfl z3 rfl rfl K rfl rfl 1 M rfl ((inR (C := (cI .i64)) 0 rfl rfl) _ M) h_x_P3) ?_
    clear K M; rintro _ a w ⟨A4, c4, rfl, M⟩ K
    refine X_r K (rd_field rfl fld38_2 K rfl) M ?_; clear K; intro a K
    refine X_b K (ac_storeC rfl sc22 K rfl rfl rfl 3 M rfl rfl) ?_
    clear K M; rintro _ a w M K
    refine wpList_nil (then_n (wp_seq (X_reg ?_)))
    refine X_o K M ?_; clear K
    refine Y_o M ?_; intro a K
    refine X_inl (vs := [.slice A_p4 p4.length c_p4, .func (.func 53) #[] #[.pointer (some ⟨g_x4, 0, none⟩), .pointer (some ⟨g_x, 0, none⟩)]]) (cap := []) K (want_no rfl) rfl rfl rfl fok55 rfl rfl ?_; clear K
    refine X_enter Tryd.func55 rfl Tryd.ntmps55 rfl ?_
    intro a K
    have K : Kn a 39 [(0, .slice A_p4 p4.length c_p4), (1, .func (.func 53) #[] #[.pointer (some ⟨g_x4, 0, none⟩), .pointer (some ⟨g_x, 0, none⟩)])] := K
    refine wp_seq (X_reg ?_)
    refine X_o K M ?_; clear K
    refine Y_o M ?_; intro a K
    refine wpList_nil (then_n (wp_seq (X_reg ?_)))
    refine X_o K M ?_; clear K; intro a K
    refine wpList_nil (then_n (wp_block ?_))
    refine X_lpR (Rel := fun (⟨x12, x13, i4, i5, w3⟩ : List UInt8 × List UInt8 × Int × Int × List UInt8) a w => Kn a 39 [(0, .slice A_p4 p4.length c_p4), (1, .func (.func 53) #[] #[.pointer (some ⟨g_x4, 0, none⟩), .pointer (some ⟨g_x, 0, none⟩)]), (4, I i4), (5, I i5), (6, .string (bs w3))] ∧ Mem w0.heap.size w0 w [.row 3 1 (some ⟨gs2, 0, none⟩) ([0] : List Int).length 1 ((cI .i64).all ([0] : List Int)), .row 3 1 A4 x_P3.length c4 ((cI .i64).all x_P3), .blk g_x4 9 [.string (bs x12)], .blk g_x3 38 [I o, I p2, .slice A4 x_P3.length c4], .blk g_x2 38 [I 0, I 0, .slice none ([] : List Int).length 0], .blk g_x 9 [.string (bs x13)]]) h (fun _ _ => rfl) ⟨K.pick [0,1,4,5,6], M.pick [0,1,2,3,4,5] (by decide)⟩ ?_ ?_
    · clear K M h
      rintro ⟨x20, x21, i6, i7, w4⟩ a w ⟨K, M⟩ h
      try dsimp only at h
      refine inb_r ?_
      refine ret2 K rfl (res_tmp K rfl) (res_tmp K rfl) ⟨_, rfl, ?_⟩; clear K; intro a K
      refine X_o K M ?_; clear K
      iterate 4 (refine Y_o M ?_)
      intro a K
      refine wpList_nil (then_n (wp_seq (wp_seq (X_reg ?_))))
      refine X_o K M ?_; clear K
      refine Y_o M ?_; intro a K
      refine wpList_nil (then_n ?_)
      refine X_cond K rfl (fun hb => ?_) (fun hb => ?_)
      · have h := ctrue hb h
        refine wp_seq (X_reg ?_)
        refine X_r K (rd_build rfl K (vs := []) (cs := [I 0, I 0, .slice none ([] : List Int).length 0]) rfl (by kernel_rfl)) M ?_; clear K; intro a K
        refine X_b K (ac_storeA rfl ty38 K rfl (ds := [I 0, I 0, .slice none ([] : List Int).length 0]) rfl rfl 4 M rfl rfl rfl) ?_
        clear K M; rintro _ a w M K
        refine X_o K M ?_; clear K; intro a K
        refine wpList_nil (then_n (wp_ret (then_r (inb_r (then_r (then_r (inb_r (then_r ?_))))))))
        cases h
        exact ret2 K rfl (res_cellA K rfl ty38 (M.blkAt (i := 4) rfl) rfl) (res_tmp K rfl) ⟨_, rfl, _, _, rfl, (((Mem.nilrow 3 1 (cI .i64) M)).pick [0] (by decide))⟩
      have h := cfalse hb h
      refine wp_skip (then_n (wp_seq (X_reg ?_)))
      refine X_o K M ?_; clear K; intro a K
      refine wpList_nil (then_n (wp_seq (wp_block (wp_seq (X_reg ?_)))))
      refine X_o K M ?_; clear K
      iterate 2 (refine Y_o M ?_)
      intro a K
      refine wpList_nil (then_n ?_)
      refine X_cond K rfl (fun hb => ?_) (fun hb => ?_)
      · have h := ctrue hb h
        refine X_reg ?_
        refine X_o K M ?_; clear K; intro a K
        refine wpList_nil (inb_n (then_n ?_))
        refine wp_region_tl (fun w => Mem _ _ w _) [0,0,0,0,0,0,1,0,0,0,0,0,2] (by kernel_rfl) (by kernel_rfl) M.drew ?_
        replace M := M.drew
        refine T_r K (rd_field rfl fld38_2 K rfl) ?_; clear K
        refine U_r (fun _ K => rd_ldC rfl sc22 K rfl (inM 3 rfl) rfl) ?_
        refine U_o ?_
        refine U_r (fun _ K => rd_ldA rfl ty38 K rfl (inM 3 rfl) rfl rfl) ?_
        iterate 2 (refine U_o ?_)
        intro a K
        obtain ⟨r16, h_r16, h⟩ := obind h
        refine T_a K (ac_call (vs := [.agg #[I o, I p2, .slice A4 x_P3.length c4], I p3, I i]) (cap := []) rfl fok43 K rfl rfl (W_diff_guess N o p2 x_P3 A4 c4 p3 i _ ((inR (C := (cI .i64)) 1 rfl rfl) _ M) (M.cap 1 rfl) r16 h_r16)) ?_
        have M0 := M; clear K M; rintro _ a w ⟨rfl, M⟩ K
        replace M := M0.call M; clear M0
        refine ⟨M.pick [0,1,2,3,4,5] (by decide), ?_⟩
        refine T_o K ?_; clear K
        refine U_o ?_
        refine U_r (fun _ K => rd_conv rfl rfl ik74 K rfl) ?_
        refine U_r (fun _ K => rd_conv rfl rfl ik3 K rfl) ?_
        obtain ⟨e8, h_e8, h⟩ := obind h
        refine U_r (fun _ K => rd_ixP rfl sl22 K rfl rfl ((inR (C := (cI .i64)) 1 rfl rfl) _ M) h_e8) ?_; intro a K
        obtain ⟨l6, h_l6, h⟩ := obind h
        refine T_b K (ac_rowset (el := IntKind.i64.wrap (IntKind.u16.wrap (IntKind.i64.wrap (r16 + 32768)))) rfl sz3 rfl rfl K rfl rfl rfl 1 M rfl h_l6) ?_
        have M0 := M; clear K M; rintro _ a w M K
        have hl := setL_len h_l6
        try rw [hl] at M
        try rw [hl] at K
        clear hl
        clear M0
        refine T_end ?_
        refine inb_n (then_n (X_reg ?_))
        refine X_o K M ?_; clear K
        refine Y_o M ?_; intro a K
        refine wpList_nil ?_
        exact then_n ⟨(l6, x20, x21, IntKind.i64.wrap (i + 1)), ⟨A4, c4, K.pick [3,4,5,10,13,14,15,56,57], M.pick [1,2,3,4,5] (by decide)⟩, h⟩
      have h := cfalse hb h
      refine wp_seq (X_reg ?_)
      refine X_o K M ?_; clear K
      iterate 2 (refine Y_o M ?_)
      intro a K
      refine wpList_nil (then_n ?_)
      refine X_cond K rfl (fun hb => ?_) (fun hb => ?_)
      · have h := ctrue hb h
        refine wp_seq (X_reg ?_)
        refine X_o K M ?_; clear K
        refine Y_o M ?_; intro a K
        refine X_inl (vs := [I i6]) (cap := [.pointer (some ⟨g_x4, 0, none⟩), .pointer (some ⟨g_x, 0, none⟩)]) K (want_no rfl) rfl rfl rfl fok53 rfl rfl ?_; clear K
        refine X_enter Tryd.func53 rfl Tryd.ntmps53 rfl ?_
        intro a K
        have K : Kn a 33 [(0, I i6), (1, .pointer (some ⟨g_x4, 0, none⟩)), (2, .pointer (some ⟨g_x, 0, none⟩))] := K
        refine wp_seq (X_reg ?_)
        refine X_o K M ?_; clear K
        refine Y_o M ?_; intro a K
        refine wpList_nil (then_n (wp_seq (wp_block ?_)))
        refine X_lp (id := 0) (Rel := fun (⟨x22, x23⟩ : List UInt8 × List UInt8) a w => Kn a 33 [(0, I i6), (1, .pointer (some ⟨g_x4, 0, none⟩)), (2, .pointer (some ⟨g_x, 0, none⟩))] ∧ Mem w0.heap.size w0 w [.row 3 1 (some ⟨gs2, 0, none⟩) ([0] : List Int).length 1 ((cI .i64).all ([0] : List Int)), .row 3 1 A4 x_P3.length c4 ((cI .i64).all x_P3), .blk g_x4 9 [.string (bs x22)], .blk g_x3 38 [I o, I p2, .slice A4 x_P3.length c4], .blk g_x2 38 [I 0, I 0, .slice none ([] : List Int).length 0], .blk g_x 9 [.string (bs x23)]]) h (fun _ _ => rfl) ⟨K.pick [0,1,2], M.pick [0,1,2,3,4,5] (by decide)⟩ ?_ ?_
        · clear K M h
          rintro ⟨x24, x25⟩ a w ⟨K, M⟩ h
          try dsimp only at h
          refine inb_e ?_
          refine then_n (wp_seq (wp_seq (X_reg ?_)))
          refine X_r K (rd_ldC rfl sc9 K rfl (inM 2 rfl) rfl) M ?_; clear K
          refine Y_r (fun _ K => rd_lenT rfl st9 K rfl) M ?_
          iterate 2 (refine Y_o M ?_)
          intro a K
          refine wpList_nil (then_n ?_)
          refine X_cond K rfl (fun hb => ?_) (fun hb => ?_)
          · have h := ctrue hb h
            refine wp_seq (X_reg ?_)
            refine X_o K M ?_; clear K
            refine Y_o M ?_; intro a K
            refine wpList_nil (then_n (wp_ret (then_r ?_)))
            refine ret2 K rfl (res_tmp K rfl) (res_tmp K rfl) ⟨_, rfl, ?_⟩; clear K; intro a K
            refine X_o K M ?_; clear K
            iterate 4 (refine Y_o M ?_)
            intro a K
            refine wpList_nil (then_n (wp_seq (wp_seq (X_reg ?_))))
            refine X_o K M ?_; clear K
            refine Y_o M ?_; intro a K
            refine wpList_nil (then_n ?_)
            refine X_condT K rfl ?_
            refine wp_seq (X_reg ?_)
            refine X_r K (rd_build rfl K (vs := []) (cs := [I 0, I 0, .slice none ([] : List Int).length 0]) rfl (by kernel_rfl)) M ?_; clear K; intro a K
            refine X_b K (ac_storeA rfl ty38 K rfl (ds := [I 0, I 0, .slice none ([] : List Int).length 0]) rfl rfl 4 M rfl rfl rfl) ?_
            clear K M; rintro _ a w M K
            refine X_o K M ?_; clear K; intro a K
            refine wpList_nil (then_n (wp_ret (then_r (inb_r (then_r (inb_r (then_r (then_r (inb_r (then_r ?_))))))))))
            cases h
            exact ret2 K rfl (res_cellA K rfl ty38 (M.blkAt (i := 4) rfl) rfl) (res_tmp K rfl) ⟨_, rfl, _, _, rfl, (((Mem.nilrow 3 1 (cI .i64) M)).pick [0] (by decide))⟩
          have h := cfalse hb h
          refine wp_skip (then_n (wp_seq (X_reg ?_)))
          refine X_r K (rd_ldC rfl sc9 K rfl (inM 2 rfl) rfl) M ?_; clear K
          refine Y_o M ?_
          obtain ⟨s33, h_s33, h⟩ := obind h
          refine Y_r (fun _ K => rd_sliceS (k := .i64) (k' := .i64) rfl st9 K rfl rfl rfl h_s33) M ?_
          refine Y_o M ?_; intro a K
          refine wpList_nil (then_n (wp_seq (X_reg ?_)))
          refine X_r K (rd_ldC rfl sc9 K rfl (inM 2 rfl) rfl) M ?_; clear K
          refine Y_o M ?_
          obtain ⟨s34, h_s34, h⟩ := obind h
          refine Y_r (fun _ K => rd_sliceS (k := .i64) (k' := .i64) rfl st9 K rfl rfl rfl h_s34) M ?_; intro a K
          refine X_b K (ac_storeC rfl sc9 K rfl rfl rfl 2 M rfl rfl) ?_
          clear K M; rintro _ a w M K
          refine wpList_nil (then_n (wp_seq (X_reg ?_)))
          refine X_o K M ?_; clear K
          iterate 2 (refine Y_o M ?_)
          intro a K
          refine wpList_nil (then_n (wp_ret ?_))
          refine ret2 K rfl (res_tmp K rfl) (res_tmp K rfl) ⟨_, rfl, ?_⟩; clear K; intro a K
          refine X_o K M ?_; clear K
          iterate 4 (refine Y_o M ?_)
          intro a K
          refine wpList_nil (then_n (wp_seq (wp_seq (X_reg ?_))))
          refine X_o K M ?_; clear K
          refine Y_o M ?_; intro a K
          refine wpList_nil (then_n ?_)
          refine X_condF K rfl ?_
          refine wp_skip (then_n (wp_seq (X_reg ?_)))
          refine X_o K M ?_; clear K; intro a K
          obtain ⟨r19, h_r19, h⟩ := obind h
          refine X_a K (ac_call (vs := [.string (bs s33)]) (cap := []) rfl fok56 K rfl rfl (W_bits_Value N s33 _  r19 h_r19)) ?_
          have M0 := M; clear K M; rintro _ a w ⟨rfl, M⟩ K
          replace M := M0.call M; clear M0
          refine X_o K M ?_; clear K
          iterate 3 (refine Y_o M ?_)
          intro a K
          refine wpList_nil (then_n (wp_seq (X_reg ?_)))
          refine X_o K M ?_; clear K
          obtain ⟨b2, h_b2, h⟩ := obind h
          refine Y_r (fun _ K => rd_ixT rfl st9 K rfl rfl h_b2) M ?_
          refine Y_o M ?_; intro a K
          refine wpList_nil (then_n ?_)
          refine X_cond K rfl (fun hb => ?_) (fun hb => ?_)
          · have h := ctrue hb h
            refine X_reg ?_
            refine X_o K M ?_; clear K
            refine Y_o M ?_; intro a K
            obtain ⟨_, h0, h⟩ := obind h
            have h0 := nn_spec h0
            refine X_r K (rd_shl rfl K rfl rfl h0) M ?_; clear K
            iterate 2 (refine Y_o M ?_)
            obtain ⟨x26, hx, h⟩ := olet h
            refine Y_r (fun _ K => rdi hx (rd_assign rfl K rfl)) M ?_; intro a K
            refine wpList_nil (inb_n (then_n ?_))
            refine wp_region_tl (fun w => Mem _ _ w _) [0,0,0,0,0,0,1,0,0,0,0,0,2] (by kernel_rfl) (by kernel_rfl) M.drew ?_
            replace M := M.drew
            refine T_r K (rd_field rfl fld38_2 K rfl) ?_; clear K
            refine U_r (fun _ K => rd_ldC rfl sc22 K rfl (inM 3 rfl) rfl) ?_
            refine U_o ?_
            refine U_r (fun _ K => rd_ldA rfl ty38 K rfl (inM 3 rfl) rfl rfl) ?_
            iterate 2 (refine U_o ?_)
            intro a K
            obtain ⟨r20, h_r20, h⟩ := obind h
            refine T_a K (ac_call (vs := [.agg #[I o, I p2, .slice A4 x_P3.length c4], I p3, I i]) (cap := []) rfl fok43 K rfl rfl (W_diff_guess N o p2 x_P3 A4 c4 p3 i _ ((inR (C := (cI .i64)) 1 rfl rfl) _ M) (M.cap 1 rfl) r20 h_r20)) ?_
            have M0 := M; clear K M; rintro _ a w ⟨rfl, M⟩ K
            replace M := M0.call M; clear M0
            refine ⟨M.pick [0,1,2,3,4,5] (by decide), ?_⟩
            refine T_o K ?_; clear K
            refine U_o ?_
            refine U_r (fun _ K => rd_conv rfl rfl ik74 K rfl) ?_
            refine U_r (fun _ K => rd_conv rfl rfl ik3 K rfl) ?_
            obtain ⟨e9, h_e9, h⟩ := obind h
            refine U_r (fun _ K => rd_ixP rfl sl22 K rfl rfl ((inR (C := (cI .i64)) 1 rfl rfl) _ M) h_e9) ?_; intro a K
            obtain ⟨l7, h_l7, h⟩ := obind h
            refine T_b K (ac_rowset (el := IntKind.i64.wrap (IntKind.u16.wrap (IntKind.i64.wrap (r20 + x26)))) rfl sz3 rfl rfl K rfl rfl rfl 1 M rfl h_l7) ?_
            have M0 := M; clear K M; rintro _ a w M K
            have hl := setL_len h_l7
            try rw [hl] at M
            try rw [hl] at K
            clear hl
            clear M0
            refine T_end ?_
            refine inb_n (then_n (X_reg ?_))
            refine X_o K M ?_; clear K
            refine Y_o M ?_; intro a K
            refine wpList_nil ?_
            exact then_n ⟨(l7, s34, x25, IntKind.i64.wrap (i + 1)), ⟨A4, c4, K.pick [3,4,5,10,13,14,15,56,57], M.pick [1,2,3,4,5] (by decide)⟩, h⟩
          have h := cfalse hb h
          refine wp_skip (inb_n (then_n ?_))
          refine wp_region_tl (fun w => Mem _ _ w _) [0,0,0,0,0,0,1,0,0,0,0,0,2] (by kernel_rfl) (by kernel_rfl) M.drew ?_
          replace M := M.drew
          refine T_r K (rd_field rfl fld38_2 K rfl) ?_; clear K
          refine U_r (fun _ K => rd_ldC rfl sc22 K rfl (inM 3 rfl) rfl) ?_
          refine U_o ?_
          refine U_r (fun _ K => rd_ldA rfl ty38 K rfl (inM 3 rfl) rfl rfl) ?_
          iterate 2 (refine U_o ?_)
          intro a K
          obtain ⟨r21, h_r21, h⟩ := obind h
          refine T_a K (ac_call (vs := [.agg #[I o, I p2, .slice A4 x_P3.length c4], I p3, I i]) (cap := []) rfl fok43 K rfl rfl (W_diff_guess N o p2 x_P3 A4 c4 p3 i _ ((inR (C := (cI .i64)) 1 rfl rfl) _ M) (M.cap 1 rfl) r21 h_r21)) ?_
          have M0 := M; clear K M; rintro _ a w ⟨rfl, M⟩ K
          replace M := M0.call M; clear M0
          refine ⟨M.pick [0,1,2,3,4,5] (by decide), ?_⟩
          refine T_o K ?_; clear K
          refine U_o ?_
          refine U_r (fun _ K => rd_conv rfl rfl ik74 K rfl) ?_
          refine U_r (fun _ K => rd_conv rfl rfl ik3 K rfl) ?_
          obtain ⟨e10, h_e10, h⟩ := obind h
          refine U_r (fun _ K => rd_ixP rfl sl22 K rfl rfl ((inR (C := (cI .i64)) 1 rfl rfl) _ M) h_e10) ?_; intro a K
          obtain ⟨l8, h_l8, h⟩ := obind h
          refine T_b K (ac_rowset (el := IntKind.i64.wrap (IntKind.u16.wrap (IntKind.i64.wrap (r21 + r19.1)))) rfl sz3 rfl rfl K rfl rfl rfl 1 M rfl h_l8) ?_
          have M0 := M; clear K M; rintro _ a w M K
          have hl := setL_len h_l8
          try rw [hl] at M
          try rw [hl] at K
          clear hl
          clear M0
          refine T_end ?_
          refine inb_n (then_n (X_reg ?_))
          refine X_o K M ?_; clear K
          refine Y_o M ?_; intro a K
          refine wpList_nil ?_
          exact then_n ⟨(l8, s34, x25, IntKind.i64.wrap (i + 1)), ⟨A4, c4, K.pick [3,4,5,10,13,14,15,56,57], M.pick [1,2,3,4,5] (by decide)⟩, h⟩
        clear K M h
        rintro kk fuel ⟨x22, x23⟩ a w hk4 ⟨K, M⟩ h
        unfold D_diff_Read_l4 at h
        refine wp_seq (wp_seq (X_reg ?_))
        refine X_r K (rd_ldC rfl sc9 K rfl (inM 2 rfl) rfl) M ?_; clear K
        refine Y_r (fun _ K => rd_lenT rfl st9 K rfl) M ?_
        iterate 3 (refine Y_o M ?_)
        intro a K
        rcases Bool.eq_false_or_eq_true (decide ((x22.length : Int) < i6)) with hb | hb
        · have h := ctrue hb h
          have K := K.reb (s := 11) rfl hb
          refine X_r K (rd_ldC rfl sc9 K rfl (inM 5 rfl) rfl) M ?_; clear K
          refine Y_r (fun _ K => rd_neqS rfl K rfl rfl) M ?_
          refine Y_o M ?_; intro a K
          refine wpList_nil (then_n ?_)
          refine X_cond K rfl (fun hb => ?_) (fun hb => ?_)
          · have h := ctrue hb h
            refine wp_skip (then_n (wp_block (wp_seq ?_)))
            refine wp_region_tl (fun w => Mem _ _ w _) [0,0,0,1,0,2] (by kernel_rfl) (by kernel_rfl) M.drew ?_
            replace M := M.drew
            refine T_r K (rd_ldC rfl sc9 K rfl (inM 2 rfl) rfl) ?_; clear K
            refine U_r (fun _ K => rd_ldC rfl sc9 K rfl (inM 5 rfl) rfl) ?_
            obtain ⟨s30, h_s30, h⟩ := obind h
            refine U_r (fun _ K => rd_sliceS (k := .i64) (k' := .i64) rfl st9 K rfl rfl rfl h_s30) ?_; intro a K
            obtain ⟨r18, h_r18, h⟩ := obind h
            refine T_a K (ac_call (vs := [.string (bs s30)]) (cap := []) rfl fok54 K rfl rfl (W_bits_Bits N s30 _  r18 h_r18)) ?_
            have M0 := M; clear K M; rintro _ a w ⟨rfl, M⟩ K
            replace M := M0.call M; clear M0
            refine ⟨M.pick [0,1,2,3,4,5] (by decide), ?_⟩
            obtain ⟨s31, h_s31, h⟩ := obind h
            refine T_r K (rd_addS rfl K rfl rfl h_s31) ?_; clear K; intro a K
            refine T_b K (ac_storeC rfl sc9 K rfl rfl rfl 2 M rfl rfl) ?_
            clear K M; rintro _ a w M K
            refine T_end ?_
            refine then_n (X_reg ?_)
            refine X_r K (rd_ldC rfl sc9 K rfl (inM 5 rfl) rfl) M ?_; clear K
            obtain ⟨s32, h_s32, h⟩ := obind h
            refine Y_r (fun _ K => rd_sliceS (k := .i64) (k' := .i64) rfl st9 K rfl rfl rfl h_s32) M ?_; intro a K
            refine X_b K (ac_storeC rfl sc9 K rfl rfl rfl 5 M rfl rfl) ?_
            clear K M; rintro _ a w M K
            refine wpList_nil (inb_n ?_)
            exact then_n ⟨(s31, s32), ⟨K.pick [0,1,2], M.pick [0,1,2,3,4,5] (by decide)⟩, h⟩
          have h := cfalse hb h
          refine wp_exit ?_
          refine then_e ?_
          exact then_e (hk4 (x22, x23) _ _ ⟨K.pick [0,1,2], M.pick [0,1,2,3,4,5] (by decide)⟩ h)
        have h := cfalse hb h
        have K := K.reb (s := 11) rfl hb
        refine X_o K M ?_; clear K
        iterate 2 (refine Y_o M ?_)
        intro a K
        refine wpList_nil (then_n ?_)
        refine X_condF K rfl ?_
        refine wp_exit ?_
        refine then_e ?_
        exact then_e (hk4 (x22, x23) _ _ ⟨K.pick [0,1,2], M.pick [0,1,2,3,4,5] (by decide)⟩ h)
      have h := cfalse hb h
      refine wp_skip (inb_n (then_n ?_))
      refine wp_region_tl (fun w => Mem _ _ w _) [0,0,0,0,0,0,1,0,0,0,0,0,2] (by kernel_rfl) (by kernel_rfl) M.drew ?_
      replace M := M.drew
      refine T_r K (rd_field rfl fld38_2 K rfl) ?_; clear K
      refine U_r (fun _ K => rd_ldC rfl sc22 K rfl (inM 3 rfl) rfl) ?_
      refine U_o ?_
      refine U_r (fun _ K => rd_ldA rfl ty38 K rfl (inM 3 rfl) rfl rfl) ?_
      iterate 2 (refine U_o ?_)
      intro a K
      obtain ⟨r22, h_r22, h⟩ := obind h
      refine T_a K (ac_call (vs := [.agg #[I o, I p2, .slice A4 x_P3.length c4], I p3, I i]) (cap := []) rfl fok43 K rfl rfl (W_diff_guess N o p2 x_P3 A4 c4 p3 i _ ((inR (C := (cI .i64)) 1 rfl rfl) _ M) (M.cap 1 rfl) r22 h_r22)) ?_
      have M0 := M; clear K M; rintro _ a w ⟨rfl, M⟩ K
      replace M := M0.call M; clear M0
      refine ⟨M.pick [0,1,2,3,4,5] (by decide), ?_⟩
      refine T_o K ?_; clear K
      refine U_o ?_
      refine U_r (fun _ K => rd_conv rfl rfl ik74 K rfl) ?_
      refine U_r (fun _ K => rd_conv rfl rfl ik3 K rfl) ?_
      obtain ⟨e11, h_e11, h⟩ := obind h
      refine U_r (fun _ K => rd_ixP rfl sl22 K rfl rfl ((inR (C := (cI .i64)) 1 rfl rfl) _ M) h_e11) ?_; intro a K
      obtain ⟨l9, h_l9, h⟩ := obind h
      refine T_b K (ac_rowset (el := IntKind.i64.wrap (IntKind.u16.wrap (IntKind.i64.wrap (r22 + 0)))) rfl sz3 rfl rfl K rfl rfl rfl 1 M rfl h_l9) ?_
      have M0 := M; clear K M; rintro _ a w M K
      have hl := setL_len h_l9
      try rw [hl] at M
      try rw [hl] at K
      clear hl
      clear M0
      refine T_end ?_
      refine inb_n (then_n (X_reg ?_))
      refine X_o K M ?_; clear K
      refine Y_o M ?_; intro a K
      refine wpList_nil ?_
      exact then_n ⟨(l9, x20, x21, IntKind.i64.wrap (i + 1)), ⟨A4, c4, K.pick [3,4,5,10,13,14,15,56,57], M.pick [1,2,3,4,5] (by decide)⟩, h⟩
    clear K M h
    rintro kk fuel ⟨x12, x13, i4, i5, w3⟩ a w hk2 ⟨K, M⟩ h
    unfold D_diff_Read_l2 at h
    refine wp_block (wp_seq (X_reg ?_))
    refine X_o K M ?_; clear K
    refine Y_o M ?_; intro a K
    obtain ⟨r13, h_r13, h⟩ := obind h
    refine X_a K (ac_call (vs := [.slice A_p4 p4.length c_p4, .string (bs w3), I 1]) (cap := []) rfl fok11 K rfl rfl (W_code_Read N p4 A_p4 c_p4 w3 1 _ ((inA R_p4) _ M) C_p4 r13 h_r13)) ?_
    have M0 := M; clear K M; rintro _ a w ⟨A6, c6, rfl, M⟩ K
    replace M := M0.call M; clear M0
    refine X_o K M ?_; clear K
    iterate 6 (refine Y_o M ?_)
    intro a K
    refine wpList_nil (then_n (wp_seq (wp_seq (X_reg ?_))))
    refine X_o K M ?_; clear K
    refine Y_o M ?_; intro a K
    refine wpList_nil (then_n ?_)
    refine X_cond K rfl (fun hb => ?_) (fun hb => ?_)
    · have h := ctrue hb h
      refine wp_seq (X_reg ?_)
      refine X_o K M ?_; clear K
      obtain ⟨e7, h_e7, h⟩ := obind h
      refine Y_r (fun _ K => rd_ix rfl sl22 K rfl rfl (inR (C := (cI .i64)) 0 rfl rfl) h_e7) M ?_
      refine Y_r (fun _ K => rd_elC rfl sc3 K rfl rfl (inR (C := (cI .i64)) 0 rfl rfl) h_e7 rfl) M ?_
      iterate 3 (refine Y_o M ?_)
      intro a K
      refine wpList_nil (then_n (wp_ret (then_r (inb_r ?_))))
      exact then_r (hk2 (x12, x13, e7, r13.2.2, w3) _ _ ⟨K.pick [0,1,4,5,6], M.pick [1,2,3,4,5,6] (by decide)⟩ h)
    have h := cfalse hb h
    refine wp_skip (then_n (wp_seq (X_reg ?_)))
    refine X_o K M ?_; clear K; intro a K
    refine X_inl (vs := [I 1]) (cap := [.pointer (some ⟨g_x4, 0, none⟩), .pointer (some ⟨g_x, 0, none⟩)]) K (want_no rfl) rfl rfl rfl fok53 rfl rfl ?_; clear K
    refine X_enter Tryd.func53 rfl Tryd.ntmps53 rfl ?_
    intro a K
    have K : Kn a 33 [(0, I 1), (1, .pointer (some ⟨g_x4, 0, none⟩)), (2, .pointer (some ⟨g_x, 0, none⟩))] := K
    refine wp_seq (X_reg ?_)
    refine X_o K M ?_; clear K
    refine Y_o M ?_; intro a K
    refine wpList_nil (then_n (wp_seq (wp_block ?_)))
    refine X_lp (id := 0) (Rel := fun (⟨x16, x17⟩ : List UInt8 × List UInt8) a w => Kn a 33 [(0, I 1), (1, .pointer (some ⟨g_x4, 0, none⟩)), (2, .pointer (some ⟨g_x, 0, none⟩))] ∧ Mem w0.heap.size w0 w [.row 3 1 A6 r13.1.length c6 ((cI .i64).all r13.1), .row 3 1 (some ⟨gs2, 0, none⟩) ([0] : List Int).length 1 ((cI .i64).all ([0] : List Int)), .row 3 1 A4 x_P3.length c4 ((cI .i64).all x_P3), .blk g_x4 9 [.string (bs x16)], .blk g_x3 38 [I o, I p2, .slice A4 x_P3.length c4], .blk g_x2 38 [I 0, I 0, .slice none ([] : List Int).length 0], .blk g_x 9 [.string (bs x17)]]) h (fun _ _ => rfl) ⟨K.pick [0,1,2], M.pick [0,1,2,3,4,5,6] (by decide)⟩ ?_ ?_
    · clear K M h
      rintro ⟨x18, x19⟩ a w ⟨K, M⟩ h
      try dsimp only at h
      refine inb_e ?_
      refine then_n (wp_seq (wp_seq (X_reg ?_)))
      refine X_r K (rd_ldC rfl sc9 K rfl (inM 3 rfl) rfl) M ?_; clear K
      refine Y_r (fun _ K => rd_lenT rfl st9 K rfl) M ?_
      iterate 2 (refine Y_o M ?_)
      intro a K
      refine wpList_nil (then_n ?_)
      refine X_cond K rfl (fun hb => ?_) (fun hb => ?_)
      · have h := ctrue hb h
        refine wp_seq (X_reg ?_)
        refine X_o K M ?_; clear K
        refine Y_o M ?_; intro a K
        refine wpList_nil (then_n (wp_ret (then_r ?_)))
        refine ret2 K rfl (res_tmp K rfl) (res_tmp K rfl) ⟨_, rfl, ?_⟩; clear K; intro a K
        refine X_o K M ?_; clear K
        iterate 4 (refine Y_o M ?_)
        intro a K
        refine wpList_nil (then_n (wp_seq (wp_seq (X_reg ?_))))
        refine X_o K M ?_; clear K
        iterate 2 (refine Y_o M ?_)
        intro a K
        rcases Bool.eq_false_or_eq_true (!decide (r13.2.2 = 5)) with hb | hb
        · have h := ctrue hb h
          have K := K.reb (s := 32) rfl hb
          refine X_o K M ?_; clear K
          iterate 2 (refine Y_o M ?_)
          intro a K
          refine wpList_nil (then_n ?_)
          refine X_condT K rfl ?_
          refine wp_seq (X_reg ?_)
          refine X_o K M ?_; clear K
          refine Y_o M ?_; intro a K
          refine wpList_nil (then_n (wp_ret (then_r (inb_r ?_))))
          exact then_r (hk2 (x18, x19, 0, 1, w3) _ _ ⟨K.pick [0,1,4,5,6], M.pick [1,2,3,4,5,6] (by decide)⟩ h)
        have h := cfalse hb h
        have K := K.reb (s := 32) rfl hb
        refine X_o K M ?_; clear K
        iterate 2 (refine Y_o M ?_)
        intro a K
        refine wpList_nil (then_n ?_)
        refine X_condT K rfl ?_
        refine wp_seq (X_reg ?_)
        refine X_o K M ?_; clear K
        refine Y_o M ?_; intro a K
        refine wpList_nil (then_n (wp_ret (then_r (inb_r ?_))))
        exact then_r (hk2 (x18, x19, 0, 1, w3) _ _ ⟨K.pick [0,1,4,5,6], M.pick [1,2,3,4,5,6] (by decide)⟩ h)
      have h := cfalse hb h
      refine wp_skip (then_n (wp_seq (X_reg ?_)))
      refine X_r K (rd_ldC rfl sc9 K rfl (inM 3 rfl) rfl) M ?_; clear K
      refine Y_o M ?_
      obtain ⟨s24, h_s24, h⟩ := obind h
      refine Y_r (fun _ K => rd_sliceS (k := .i64) (k' := .i64) rfl st9 K rfl rfl rfl h_s24) M ?_
      refine Y_o M ?_; intro a K
      refine wpList_nil (then_n (wp_seq (X_reg ?_)))
      refine X_r K (rd_ldC rfl sc9 K rfl (inM 3 rfl) rfl) M ?_; clear K
      refine Y_o M ?_
      obtain ⟨s25, h_s25, h⟩ := obind h
      refine Y_r (fun _ K => rd_sliceS (k := .i64) (k' := .i64) rfl st9 K rfl rfl rfl h_s25) M ?_; intro a K
      refine X_b K (ac_storeC rfl sc9 K rfl rfl rfl 3 M rfl rfl) ?_
      clear K M; rintro _ a w M K
      refine wpList_nil (then_n (wp_seq (X_reg ?_)))
      refine X_o K M ?_; clear K
      iterate 2 (refine Y_o M ?_)
      intro a K
      refine wpList_nil (then_n (wp_ret ?_))
      refine ret2 K rfl (res_tmp K rfl) (res_tmp K rfl) ⟨_, rfl, ?_⟩; clear K; intro a K
      refine X_o K M ?_; clear K
      iterate 4 (refine Y_o M ?_)
      intro a K
      refine wpList_nil (then_n (wp_seq (wp_seq (X_reg ?_))))
      refine X_o K M ?_; clear K
      iterate 2 (refine Y_o M ?_)
      intro a K
      rcases Bool.eq_false_or_eq_true (!decide (r13.2.2 = 5)) with hb | hb
      · have h := ctrue hb h
        have K := K.reb (s := 32) rfl hb
        refine X_o K M ?_; clear K
        iterate 2 (refine Y_o M ?_)
        intro a K
        refine wpList_nil (then_n ?_)
        refine X_condT K rfl ?_
        refine wp_seq (X_reg ?_)
        refine X_o K M ?_; clear K
        refine Y_o M ?_; intro a K
        refine wpList_nil (then_n (wp_ret (then_r (inb_r ?_))))
        exact then_r (hk2 (s25, x19, 0, 1, w3) _ _ ⟨K.pick [0,1,4,5,6], M.pick [1,2,3,4,5,6] (by decide)⟩ h)
      have h := cfalse hb h
      have K := K.reb (s := 32) rfl hb
      refine X_o K M ?_; clear K
      iterate 2 (refine Y_o M ?_)
      intro a K
      refine wpList_nil (then_n ?_)
      refine X_condF K rfl ?_
      refine wp_skip (then_n (X_reg ?_))
      refine X_o K M ?_; clear K
      refine Y_o M ?_
      obtain ⟨s26, h_s26, h⟩ := obind h
      refine Y_r (fun _ K => rd_addS rfl K rfl rfl h_s26) M ?_
      refine Y_o M ?_; intro a K
      refine wpList_nil (inb_n ?_)
      exact then_n ⟨(s25, x19, i4, i5, s26), ⟨K.pick [0,1,4,5,6], M.pick [1,2,3,4,5,6] (by decide)⟩, h⟩
    clear K M h
    rintro kk fuel ⟨x16, x17⟩ a w hk3 ⟨K, M⟩ h
    unfold D_diff_Read_l3 at h
    refine wp_seq (wp_seq (X_reg ?_))
    refine X_r K (rd_ldC rfl sc9 K rfl (inM 3 rfl) rfl) M ?_; clear K
    refine Y_r (fun _ K => rd_lenT rfl st9 K rfl) M ?_
    iterate 3 (refine Y_o M ?_)
    intro a K
    rcases Bool.eq_false_or_eq_true (decide ((x16.length : Int) < 1)) with hb | hb
    · have h := ctrue hb h
      have K := K.reb (s := 11) rfl hb
      refine X_r K (rd_ldC rfl sc9 K rfl (inM 6 rfl) rfl) M ?_; clear K
      refine Y_r (fun _ K => rd_neqS rfl K rfl rfl) M ?_
      refine Y_o M ?_; intro a K
      refine wpList_nil (then_n ?_)
      refine X_cond K rfl (fun hb => ?_) (fun hb => ?_)
      · have h := ctrue hb h
        refine wp_skip (then_n (wp_block (wp_seq ?_)))
        refine wp_region_tl (fun w => Mem _ _ w _) [0,0,0,1,0,2] (by kernel_rfl) (by kernel_rfl) M.drew ?_
        replace M := M.drew
        refine T_r K (rd_ldC rfl sc9 K rfl (inM 3 rfl) rfl) ?_; clear K
        refine U_r (fun _ K => rd_ldC rfl sc9 K rfl (inM 6 rfl) rfl) ?_
        obtain ⟨s21, h_s21, h⟩ := obind h
        refine U_r (fun _ K => rd_sliceS (k := .i64) (k' := .i64) rfl st9 K rfl rfl rfl h_s21) ?_; intro a K
        obtain ⟨r15, h_r15, h⟩ := obind h
        refine T_a K (ac_call (vs := [.string (bs s21)]) (cap := []) rfl fok54 K rfl rfl (W_bits_Bits N s21 _  r15 h_r15)) ?_
        have M0 := M; clear K M; rintro _ a w ⟨rfl, M⟩ K
        replace M := M0.call M; clear M0
        refine ⟨M.pick [0,1,2,3,4,5,6] (by decide), ?_⟩
        obtain ⟨s22, h_s22, h⟩ := obind h
        refine T_r K (rd_addS rfl K rfl rfl h_s22) ?_; clear K; intro a K
        refine T_b K (ac_storeC rfl sc9 K rfl rfl rfl 3 M rfl rfl) ?_
        clear K M; rintro _ a w M K
        refine T_end ?_
        refine then_n (X_reg ?_)
        refine X_r K (rd_ldC rfl sc9 K rfl (inM 6 rfl) rfl) M ?_; clear K
        obtain ⟨s23, h_s23, h⟩ := obind h
        refine Y_r (fun _ K => rd_sliceS (k := .i64) (k' := .i64) rfl st9 K rfl rfl rfl h_s23) M ?_; intro a K
        refine X_b K (ac_storeC rfl sc9 K rfl rfl rfl 6 M rfl rfl) ?_
        clear K M; rintro _ a w M K
        refine wpList_nil (inb_n ?_)
        exact then_n ⟨(s22, s23), ⟨K.pick [0,1,2], M.pick [0,1,2,3,4,5,6] (by decide)⟩, h⟩
      have h := cfalse hb h
      refine wp_exit ?_
      refine then_e ?_
      exact then_e (hk3 (x16, x17) _ _ ⟨K.pick [0,1,2], M.pick [0,1,2,3,4,5,6] (by decide)⟩ h)
    have h := cfalse hb h
    have K := K.reb (s := 11) rfl hb
    refine X_o K M ?_; clear K
    iterate 2 (refine Y_o M ?_)
    intro a K
    refine wpList_nil (then_n ?_)
    refine X_condF K rfl ?_
    refine wp_exit ?_
    refine then_e ?_
    exact then_e (hk3 (x16, x17) _ _ ⟨K.pick [0,1,2], M.pick [0,1,2,3,4,5,6] (by decide)⟩ h)
  have h := cfalse hb h
  refine wp_exit ?_
  refine then_e ?_
  exact then_e (hk1 (x_P, x3, x4, i) _ _ ⟨A, c, K.pick [3,4,5,10,13,14,15,56,57], M.pick [0,1,2,3,4] (by decide)⟩ h)
end Go.Proofs.YtpmnfhifmmfglacDoor

namespace Go.Proofs.YtpmnfhifmmfglacDoor
open Go.RowKit
set_option maxRecDepth 100000 in
set_option maxHeartbeats 4000000 in
theorem W_darkslidelaw_all (N : Nat)  (w0 : World)  (r : List Int) (h : D_darkslidelaw_all N  = some r) :
    Calls Tryd.prog 45 #[] w0 fun e w' => ∃ v, e = .returned v ∧ ∃ A0 c0, v = .slice A0 r.length c0 ∧ Mem w0.heap.size w0 w' [.row 3 1 A0 r.length c0 ((cI .i64).all r)] := by
  refine X_enter Tryd.func45 rfl Tryd.ntmps45 rfl ?_
  intro a K
  have M := Mem.start w0
  have K : Kn a 2 [] := K
  unfold D_darkslidelaw_all at h
  refine wp_seq (X_reg ?_)
  refine X_o K M ?_; clear K; intro a K
  refine wpList_nil (then_n (wp_seq (X_reg ?_)))
  refine X_a K (ac_bslice rfl sl22 z3 K (vs := [(0, I 2), (1, I 3), (2, I 3), (3, I 4), (4, I 4), (5, I 4), (6, I 5), (7, I 5), (8, I 5), (9, I 6), (10, I 6), (11, I 6), (12, I 7), (13, I 7), (14, I 7), (15, I 8), (16, I 8)]) (cs := [I 2, I 3, I 3, I 4, I 4, I 4, I 5, I 5, I 5, I 6, I 6, I 6, I 7, I 7, I 7, I 8, I 8]) rfl (by kernel_rfl) rfl rfl M) ?_
  have M0 := M; clear K M; rintro _ a w ⟨gs, rfl, M⟩ K
  replace M := M.asRow 0 rfl (cI .i64) ([2, 3, 3, 4, 4, 4, 5, 5, 5, 6, 6, 6, 7, 7, 7, 8, 8] : List Int) (n := 17) rfl rfl rfl
  clear M0
  refine X_o K M ?_; clear K; intro a K
  refine wpList_nil (then_n (wp_ret ?_))
  cases h
  exact ret1 K rfl (res_tmp K rfl) ⟨_, rfl, _, _, rfl, ((M).pick [0] (by decide))⟩
end Go.Proofs.YtpmnfhifmmfglacDoor

namespace Go.Proofs.YtpmnfhifmmfglacDoor
open Go.RowKit
set_option maxRecDepth 100000 in
set_option maxHeartbeats 4000000 in
theorem W_darkslidelaw_small (N : Nat)  (w0 : World)  (r : Int × Int × List Int) (h : D_darkslidelaw_small N  = some r) :
    Calls Tryd.prog 44 #[] w0 fun e w' => ∃ v, e = .returned v ∧ ∃ A2 c2, v = .agg #[I r.1, I r.2.1, .slice A2 r.2.2.length c2] ∧ Mem w0.heap.size w0 w' [.row 3 1 A2 r.2.2.length c2 ((cI .i64).all r.2.2)] := by
  refine X_enter Tryd.func44 rfl Tryd.ntmps44 rfl ?_
  intro a K
  have M := Mem.start w0
  have K : Kn a 3 [] := K
  unfold D_darkslidelaw_small at h
  refine wp_seq (X_reg ?_)
  refine X_a K (ac_alloc rfl z38 M) ?_
  clear K M; rintro _ a w ⟨g_x, rfl, M⟩ K
  refine wpList_nil (then_n (wp_seq (X_reg ?_)))
  refine X_a K (ac_bslice rfl sl22 z3 K (vs := [(0, I 10), (1, I 65535), (2, I 0), (3, I 7)]) (cs := [I 10, I 65535, I 0, I 7]) rfl (by kernel_rfl) rfl rfl M) ?_
  have M0 := M; clear K M; rintro _ a w ⟨gs, rfl, M⟩ K
  replace M := M.asRow 0 rfl (cI .i64) ([10, 65535, 0, 7] : List Int) (n := 4) rfl rfl rfl
  clear M0
  refine X_r K (rd_build rfl K (vs := [(0, I 2), (1, I 2), (2, .slice (some ⟨gs, 0, none⟩) ([10, 65535, 0, 7] : List Int).length 4)]) (cs := [I 2, I 2, .slice (some ⟨gs, 0, none⟩) ([10, 65535, 0, 7] : List Int).length 4]) rfl (by kernel_rfl)) M ?_; clear K; intro a K
  refine X_b K (ac_storeA rfl ty38 K rfl (ds := [I 2, I 2, .slice (some ⟨gs, 0, none⟩) ([10, 65535, 0, 7] : List Int).length 4]) rfl rfl 1 M rfl rfl rfl) ?_
  clear K M; rintro _ a w M K
  refine wpList_nil (then_n (wp_ret ?_))
  cases h
  exact ret1 K rfl (res_cellA K rfl ty38 (M.blkAt (i := 1) rfl) rfl) ⟨_, rfl, _, _, rfl, ((M).pick [0] (by decide))⟩
end Go.Proofs.YtpmnfhifmmfglacDoor

namespace Go.Proofs.YtpmnfhifmmfglacDoor
open Go.RowKit
set_option maxRecDepth 100000 in
set_option maxHeartbeats 4000000 in
theorem W_darkslideref_SameInts (N : Nat) (a2 : List Int) (A_a2 : Option Addr) (c_a2 : Nat) (b : List Int) (A_b : Option Addr) (c_b : Nat) (w0 : World) (R_a2 : SL w0 (cI .i64) A_a2 a2) (C_a2 : a2.length ≤ c_a2) (R_b : SL w0 (cI .i64) A_b b) (C_b : b.length ≤ c_b) (r : Bool) (h : D_darkslideref_SameInts N a2 b = some r) :
    Calls Tryd.prog 14 #[.slice A_a2 a2.length c_a2, .slice A_b b.length c_b] w0 fun e w' => ∃ v, e = .returned v ∧ v = .bool r ∧ Mem w0.heap.size w0 w' [] := by
  refine X_enter Tryd.func14 rfl Tryd.ntmps14 rfl ?_
  intro a K
  have M := Mem.start w0
  have K : Kn a 26 [(0, .slice A_a2 a2.length c_a2), (1, .slice A_b b.length c_b)] := K
  unfold D_darkslideref_SameInts at h
  refine wp_seq (X_reg ?_)
  refine X_o K M ?_; clear K; intro a K
  refine wpList_nil (then_n (wp_seq (wp_seq (X_reg ?_))))
  refine X_o K M ?_; clear K
  refine Y_r (fun _ K => rd_len rfl un22 K rfl) M ?_
  refine Y_o M ?_
  refine Y_r (fun _ K => rd_len rfl un22 K rfl) M ?_
  refine Y_o M ?_; intro a K
  refine wpList_nil (then_n ?_)
  refine X_cond K rfl (fun hb => ?_) (fun hb => ?_)
  · have h := ctrue hb h
    refine wp_seq (X_reg ?_)
    refine X_o K M ?_; clear K; intro a K
    refine wpList_nil (then_n (wp_ret (then_r ?_)))
    cases h
    exact ret1 K rfl (res_tmp K rfl) ⟨_, rfl, rfl, ((M).pick [] (by decide))⟩
  have h := cfalse hb h
  refine wp_skip (then_n (wp_seq (wp_seq (X_reg ?_))))
  refine X_o K M ?_; clear K; intro a K
  refine wpList_nil (then_n (wp_block ?_))
  refine X_lp (id := 0) (Rel := fun (i : Int) a w => Kn a 26 [(0, .slice A_a2 a2.length c_a2), (1, .slice A_b b.length c_b), (5, I i)] ∧ Mem w0.heap.size w0 w []) h (fun _ _ => rfl) ⟨K.pick [0,1,5], M.pick [] (by decide)⟩ ?_ ?_
  · clear K M h
    rintro i4 a w ⟨K, M⟩ h
    try dsimp only at h
    refine inb_e ?_
    refine then_n (wp_seq (X_reg ?_))
    refine X_o K M ?_; clear K; intro a K
    refine wpList_nil (then_n (wp_ret ?_))
    cases h
    exact ret1 K rfl (res_tmp K rfl) ⟨_, rfl, rfl, ((M).pick [] (by decide))⟩
  clear K M h
  rintro kk fuel i a w hk1 ⟨K, M⟩ h
  unfold D_darkslideref_SameInts_l1 at h
  refine wp_seq (wp_seq (X_reg ?_))
  refine X_o K M ?_; clear K
  refine Y_o M ?_
  refine Y_r (fun _ K => rd_len rfl un22 K rfl) M ?_
  refine Y_o M ?_; intro a K
  refine wpList_nil (then_n ?_)
  refine X_cond K rfl (fun hb => ?_) (fun hb => ?_)
  · have h := ctrue hb h
    refine wp_skip (then_n (wp_seq (wp_block (wp_seq ?_))))
    refine wp_region_tl (fun w => Mem _ _ w _) [0,0,0,0,0,0,0,0,0] (by kernel_rfl) (by kernel_rfl) M.drew ?_
    replace M := M.drew
    refine T_o K ?_; clear K
    refine U_o ?_
    obtain ⟨e3, h_e3, h⟩ := obind h
    refine U_r (fun _ K => rd_ixP rfl sl22 K rfl rfl ((inA R_a2) _ M) h_e3) ?_
    refine U_r (fun _ K => rd_elC rfl sc3 K rfl rfl (inA R_a2) h_e3 rfl) ?_
    iterate 2 (refine U_o ?_)
    obtain ⟨e4, h_e4, h⟩ := obind h
    refine U_r (fun _ K => rd_ixP rfl sl22 K rfl rfl ((inA R_b) _ M) h_e4) ?_
    refine U_r (fun _ K => rd_elC rfl sc3 K rfl rfl (inA R_b) h_e4 rfl) ?_
    refine U_o ?_; intro a K
    refine T_end ?_
    refine then_n ?_
    refine X_cond K rfl (fun hb => ?_) (fun hb => ?_)
    · have h := ctrue hb h
      refine wp_seq (X_reg ?_)
      refine X_o K M ?_; clear K; intro a K
      refine wpList_nil (then_n (wp_ret (inb_r (then_r (then_r (inb_r (then_r ?_)))))))
      cases h
      exact ret1 K rfl (res_tmp K rfl) ⟨_, rfl, rfl, ((M).pick [] (by decide))⟩
    have h := cfalse hb h
    refine wp_skip (inb_n (then_n (X_reg ?_)))
    refine X_o K M ?_; clear K
    refine Y_o M ?_
    obtain ⟨i3, hx, h⟩ := olet h
    refine Y_r (fun _ K => rdi hx (rd_assign rfl K rfl)) M ?_; intro a K
    refine wpList_nil ?_
    exact then_n ⟨i3, ⟨K.pick [0,1,5], M.pick [] (by decide)⟩, h⟩
  have h := cfalse hb h
  refine wp_exit ?_
  refine then_e ?_
  exact then_e (hk1 i _ _ ⟨K.pick [0,1,5], M.pick [] (by decide)⟩ h)
end Go.Proofs.YtpmnfhifmmfglacDoor

namespace Go.Proofs.YtpmnfhifmmfglacDoor
open Go.RowKit
set_option maxRecDepth 100000 in
set_option maxHeartbeats 4000000 in
theorem W_darkslideref_SamePlanes (N : Nat) (a_W : Int) (a_H : Int) (a_P : List Int) (A_a_P : Option Addr) (c_a_P : Nat) (b_W : Int) (b_H : Int) (b_P : List Int) (A_b_P : Option Addr) (c_b_P : Nat) (w0 : World) (R_a_P : SL w0 (cI .i64) A_a_P a_P) (C_a_P : a_P.length ≤ c_a_P) (R_b_P : SL w0 (cI .i64) A_b_P b_P) (C_b_P : b_P.length ≤ c_b_P) (r : Bool) (h : D_darkslideref_SamePlanes N a_W a_H a_P b_W b_H b_P = some r) :
    Calls Tryd.prog 26 #[.agg #[I a_W, I a_H, .slice A_a_P a_P.length c_a_P], .agg #[I b_W, I b_H, .slice A_b_P b_P.length c_b_P]] w0 fun e w' => ∃ v, e = .returned v ∧ v = .bool r ∧ Mem w0.heap.size w0 w' [] := by
  refine X_enter Tryd.func26 rfl Tryd.ntmps26 rfl ?_
  intro a K
  have M := Mem.start w0
  have K : Kn a 24 [(0, .agg #[I a_W, I a_H, .slice A_a_P a_P.length c_a_P]), (1, .agg #[I b_W, I b_H, .slice A_b_P b_P.length c_b_P])] := K
  unfold D_darkslideref_SamePlanes at h
  refine wp_seq (X_reg ?_)
  refine X_a K (ac_box rfl K rfl (cs := [I a_W, I a_H, .slice A_a_P a_P.length c_a_P]) rfl M) ?_
  clear K M; rintro _ a w ⟨g_a, rfl, M⟩ K
  refine X_a K (ac_box rfl K rfl (cs := [I b_W, I b_H, .slice A_b_P b_P.length c_b_P]) rfl M) ?_
  clear K M; rintro _ a w ⟨g_b, rfl, M⟩ K
  refine X_o K M ?_; clear K; intro a K
  refine wpList_nil (then_n (wp_seq (X_reg ?_)))
  refine X_r K (rd_field rfl fld38_0 K rfl) M ?_; clear K
  refine Y_r (fun _ K => rd_ldC rfl sc3 K rfl (inM 1 rfl) rfl) M ?_
  refine Y_r (fun _ K => rd_field rfl fld38_0 K rfl) M ?_
  refine Y_r (fun _ K => rd_ldC rfl sc3 K rfl (inM 0 rfl) rfl) M ?_
  iterate 2 (refine Y_o M ?_)
  intro a K
  rcases Bool.eq_false_or_eq_true (decide (a_W = b_W)) with hb | hb
  · have h := ctrue hb h
    have K := K.reb (s := 10) rfl hb
    refine X_r K (rd_field rfl fld38_1 K rfl) M ?_; clear K
    refine Y_r (fun _ K => rd_ldC rfl sc3 K rfl (inM 1 rfl) rfl) M ?_
    refine Y_r (fun _ K => rd_field rfl fld38_1 K rfl) M ?_
    refine Y_r (fun _ K => rd_ldC rfl sc3 K rfl (inM 0 rfl) rfl) M ?_
    iterate 3 (refine Y_o M ?_)
    intro a K
    rcases Bool.eq_false_or_eq_true (decide (a_H = b_H)) with hb | hb
    · have h := ctrue hb h
      have K := K.reb (s := 17) rfl hb
      refine X_r K (rd_field rfl fld38_2 K rfl) M ?_; clear K
      refine Y_r (fun _ K => rd_ldC rfl sc22 K rfl (inM 1 rfl) rfl) M ?_
      refine Y_r (fun _ K => rd_field rfl fld38_2 K rfl) M ?_
      refine Y_r (fun _ K => rd_ldC rfl sc22 K rfl (inM 0 rfl) rfl) M ?_; intro a K
      obtain ⟨r2, h_r2, h⟩ := obind h
      refine X_a K (ac_call (vs := [.slice A_a_P a_P.length c_a_P, .slice A_b_P b_P.length c_b_P]) (cap := []) rfl fok14 K rfl rfl (W_darkslideref_SameInts N a_P A_a_P c_a_P b_P A_b_P c_b_P _ ((inA R_a_P) _ M) C_a_P ((inA R_b_P) _ M) C_b_P r2 h_r2)) ?_
      have M0 := M; clear K M; rintro _ a w ⟨rfl, M⟩ K
      replace M := M0.call M; clear M0
      refine X_o K M ?_; clear K
      refine Y_o M ?_; intro a K
      refine wpList_nil (then_n (wp_ret ?_))
      cases h
      exact ret1 K rfl (res_tmp K rfl) ⟨_, rfl, rfl, ((M).pick [] (by decide))⟩
    have h := cfalse hb h
    have K := K.reb (s := 17) rfl hb
    refine X_o K M ?_; clear K
    iterate 6 (refine Y_o M ?_)
    intro a K
    refine wpList_nil (then_n (wp_ret ?_))
    cases h
    exact ret1 K rfl (res_tmp K rfl) ⟨_, rfl, rfl, ((M).pick [] (by decide))⟩
  have h := cfalse hb h
  have K := K.reb (s := 10) rfl hb
  refine X_o K M ?_; clear K
  iterate 13 (refine Y_o M ?_)
  intro a K
  refine wpList_nil (then_n (wp_ret ?_))
  cases h
  exact ret1 K rfl (res_tmp K rfl) ⟨_, rfl, rfl, ((M).pick [] (by decide))⟩
end Go.Proofs.YtpmnfhifmmfglacDoor

namespace Go.Proofs.YtpmnfhifmmfglacDoor
open Go.RowKit
set_option maxRecDepth 100000 in
set_option maxHeartbeats 4000000 in
theorem W_darkslidelaw_diffBegun (N : Nat)  (w0 : World)  (r : Bool) (h : D_darkslidelaw_diffBegun N  = some r) :
    Calls Tryd.prog 20 #[] w0 fun e w' => ∃ v, e = .returned v ∧ v = .bool r ∧ Mem w0.heap.size w0 w' [] := by
  refine X_enter Tryd.func20 rfl Tryd.ntmps20 rfl ?_
  intro a K
  have M := Mem.start w0
  have K : Kn a 43 [] := K
  unfold D_darkslidelaw_diffBegun at h
  refine wp_seq (X_reg ?_)
  refine X_o K M ?_; clear K; intro a K
  refine wpList_nil (then_n (wp_seq (X_reg ?_)))
  obtain ⟨r2, h_r2, h⟩ := obind h
  refine X_a K (ac_call (vs := []) (cap := []) rfl fok44 K rfl rfl (W_darkslidelaw_small N  _  r2 h_r2)) ?_
  have M0 := M; clear K M; rintro _ a w ⟨A, c, rfl, M⟩ K
  replace M := M0.call M; clear M0
  obtain ⟨r3, h_r3, h⟩ := obind h
  refine X_a K (ac_call (vs := [.agg #[I r2.1, I r2.2.1, .slice A r2.2.2.length c], I 5, I 1, I 1]) (cap := []) rfl fok18 K rfl rfl (W_diff_Guess N r2.1 r2.2.1 r2.2.2 A c 5 1 1 _ ((inR (C := (cI .i64)) 0 rfl rfl) _ M) (M.cap 0 rfl) r3 h_r3)) ?_
  have M0 := M; clear K M; rintro _ a w ⟨rfl, M⟩ K
  replace M := M0.call M; clear M0
  refine X_o K M ?_; clear K
  iterate 4 (refine Y_o M ?_)
  intro a K
  refine wpList_nil (then_n (wp_seq (X_reg ?_)))
  obtain ⟨r4, h_r4, h⟩ := obind h
  refine X_a K (ac_call (vs := []) (cap := []) rfl fok44 K rfl rfl (W_darkslidelaw_small N  _  r4 h_r4)) ?_
  have M0 := M; clear K M; rintro _ a w ⟨A2, c2, rfl, M⟩ K
  replace M := M0.call M; clear M0
  obtain ⟨r5, h_r5, h⟩ := obind h
  refine X_a K (ac_call (vs := []) (cap := []) rfl fok45 K rfl rfl (W_darkslidelaw_all N  _  r5 h_r5)) ?_
  have M0 := M; clear K M; rintro _ a w ⟨A3, c3, rfl, M⟩ K
  replace M := M0.call M; clear M0
  obtain ⟨r6, h_r6, h⟩ := obind h
  refine X_a K (ac_call (vs := [.agg #[I r4.1, I r4.2.1, .slice A2 r4.2.2.length c2], I 1, .slice A3 r5.length c3]) (cap := []) rfl fok22 K rfl rfl (W_diff_Write N r4.1 r4.2.1 r4.2.2 A2 c2 1 r5 A3 c3 _ ((inR (C := (cI .i64)) 1 rfl rfl) _ M) (M.cap 1 rfl) ((inR (C := (cI .i64)) 0 rfl rfl) _ M) (M.cap 0 rfl) r6 h_r6)) ?_
  have M0 := M; clear K M; rintro _ a w ⟨rfl, M⟩ K
  replace M := M0.call M; clear M0
  refine X_o K M ?_; clear K
  iterate 4 (refine Y_o M ?_)
  intro a K
  refine wpList_nil (then_n (wp_seq (X_reg ?_)))
  refine X_o K M ?_; clear K; intro a K
  obtain ⟨r7, h_r7, h⟩ := obind h
  refine X_a K (ac_call (vs := []) (cap := []) rfl fok45 K rfl rfl (W_darkslidelaw_all N  _  r7 h_r7)) ?_
  have M0 := M; clear K M; rintro _ a w ⟨A4, c4, rfl, M⟩ K
  replace M := M0.call M; clear M0
  obtain ⟨r8, h_r8, h⟩ := obind h
  refine X_a K (ac_call (vs := [.string (bs r6.1), I 2, I 2, I 1, .slice A4 r7.length c4]) (cap := []) rfl fok24 K rfl rfl (W_diff_Read N r6.1 2 2 1 r7 A4 c4 _ ((inR (C := (cI .i64)) 0 rfl rfl) _ M) (M.cap 0 rfl) r8 h_r8)) ?_
  have M0 := M; clear K M; rintro _ a w ⟨A5, c5, rfl, M⟩ K
  replace M := M0.call M; clear M0
  refine X_o K M ?_; clear K
  iterate 2 (refine Y_o M ?_)
  intro a K
  refine X_a K (ac_alloc rfl z38 M) ?_
  clear K M; rintro _ a w ⟨g_p, rfl, M⟩ K
  refine X_b K (ac_storeA rfl ty38 K rfl (ds := [I r8.1, I r8.2.1, .slice A5 r8.2.2.1.length c5]) rfl rfl 0 M rfl rfl rfl) ?_
  clear K M; rintro _ a w M K
  refine X_o K M ?_; clear K; intro a K
  refine wpList_nil (then_n (wp_seq ?_))
  refine wp_region_tl (fun w => Mem _ _ w _) [0,0,0,0,0,0,0,0,0,0,0,0,0,0,0,0,1,1,0,0] (by kernel_rfl) (by kernel_rfl) M.drew ?_
  replace M := M.drew
  refine T_o K ?_; clear K
  iterate 2 (refine U_o ?_)
  intro a K
  rcases Bool.eq_false_or_eq_true (decide (r3.2 = 0)) with hb | hb
  · have h := ctrue hb h
    have K := K.reb (s := 26) rfl hb
    refine T_o K ?_; clear K
    iterate 3 (refine U_o ?_)
    intro a K
    rcases Bool.eq_false_or_eq_true (decide (r6.2 = 0)) with hb | hb
    · have h := ctrue hb h
      have K := K.reb (s := 30) rfl hb
      refine T_o K ?_; clear K
      iterate 3 (refine U_o ?_)
      intro a K
      rcases Bool.eq_false_or_eq_true (decide (r8.2.2.2 = 0)) with hb | hb
      · have h := ctrue hb h
        have K := K.reb (s := 34) rfl hb
        refine T_o K ?_; clear K
        iterate 3 (refine U_o ?_)
        intro a K
        rcases Bool.eq_false_or_eq_true (decide (r3.1 = 32762)) with hb | hb
        · have h := ctrue hb h
          have K := K.reb (s := 38) rfl hb
          refine T_r K (rd_ldA rfl ty38 K rfl (inM 0 rfl) rfl rfl) ?_; clear K; intro a K
          obtain ⟨r9, h_r9, h⟩ := obind h
          refine T_a K (ac_call (vs := []) (cap := []) rfl fok44 K rfl rfl (W_darkslidelaw_small N  _  r9 h_r9)) ?_
          have M0 := M; clear K M; rintro _ a w ⟨A6, c6, rfl, M⟩ K
          replace M := M0.call M; clear M0
          refine ⟨M.pick [1,2,3,4,5,6] (by decide), ?_⟩
          obtain ⟨r10, h_r10, h⟩ := obind h
          refine T_a K (ac_call (vs := [.agg #[I r8.1, I r8.2.1, .slice A5 r8.2.2.1.length c5], .agg #[I r9.1, I r9.2.1, .slice A6 r9.2.2.length c6]]) (cap := []) rfl fok26 K rfl rfl (W_darkslideref_SamePlanes N r8.1 r8.2.1 r8.2.2.1 A5 c5 r9.1 r9.2.1 r9.2.2 A6 c6 _ ((inR (C := (cI .i64)) 2 rfl rfl) _ M) (M.cap 2 rfl) ((inR (C := (cI .i64)) 0 rfl rfl) _ M) (M.cap 0 rfl) r10 h_r10)) ?_
          have M0 := M; clear K M; rintro _ a w ⟨rfl, M⟩ K
          replace M := M0.call M; clear M0
          refine ⟨M.pick [1,2,3,4,5,6] (by decide), ?_⟩
          refine T_o K ?_; clear K
          refine U_o ?_; intro a K
          refine T_end ?_
          refine then_n (wp_ret ?_)
          cases h
          exact ret1 K rfl (res_tmp K rfl) ⟨_, rfl, rfl, ((M).pick [] (by decide))⟩
        have h := cfalse hb h
        have K := K.reb (s := 38) rfl hb
        refine T_o K ?_; clear K; intro a K
        iterate 2 (refine T_no1 K (K.no rfl rfl rfl rfl) rfl rfl (M.pick [0,1,2,3,4,5] (by decide)) ?_; clear K; intro a K)
        refine T_o K ?_; clear K
        refine U_o ?_; intro a K
        refine T_end ?_
        refine then_n (wp_ret ?_)
        cases h
        exact ret1 K rfl (res_tmp K rfl) ⟨_, rfl, rfl, ((M).pick [] (by decide))⟩
      have h := cfalse hb h
      have K := K.reb (s := 34) rfl hb
      refine T_o K ?_; clear K
      iterate 4 (refine U_o ?_)
      intro a K
      iterate 2 (refine T_no1 K (K.no rfl rfl rfl rfl) rfl rfl (M.pick [0,1,2,3,4,5] (by decide)) ?_; clear K; intro a K)
      refine T_o K ?_; clear K
      refine U_o ?_; intro a K
      refine T_end ?_
      refine then_n (wp_ret ?_)
      cases h
      exact ret1 K rfl (res_tmp K rfl) ⟨_, rfl, rfl, ((M).pick [] (by decide))⟩
    have h := cfalse hb h
    have K := K.reb (s := 30) rfl hb
    refine T_o K ?_; clear K
    iterate 8 (refine U_o ?_)
    intro a K
    iterate 2 (refine T_no1 K (K.no rfl rfl rfl rfl) rfl rfl (M.pick [0,1,2,3,4,5] (by decide)) ?_; clear K; intro a K)
    refine T_o K ?_; clear K
    refine U_o ?_; intro a K
    refine T_end ?_
    refine then_n (wp_ret ?_)
    cases h
    exact ret1 K rfl (res_tmp K rfl) ⟨_, rfl, rfl, ((M).pick [] (by decide))⟩
  have h := cfalse hb h
  have K := K.reb (s := 26) rfl hb
  refine T_o K ?_; clear K
  iterate 12 (refine U_o ?_)
  intro a K
  iterate 2 (refine T_no1 K (K.no rfl rfl rfl rfl) rfl rfl (M.pick [0,1,2,3,4,5] (by decide)) ?_; clear K; intro a K)
  refine T_o K ?_; clear K
  refine U_o ?_; intro a K
  refine T_end ?_
  refine then_n (wp_ret ?_)
  cases h
  exact ret1 K rfl (res_tmp K rfl) ⟨_, rfl, rfl, ((M).pick [] (by decide))⟩
end Go.Proofs.YtpmnfhifmmfglacDoor

namespace Go.Proofs.YtpmnfhifmmfglacDoor
open Go.RowKit
set_option maxRecDepth 100000 in
set_option maxHeartbeats 4000000 in
theorem W_darkslidelaw_DiffBack (N : Nat) (d_W : Int) (d_H : Int) (d_P : List Int) (A_d_P : Option Addr) (c_d_P : Nat) (o : Int) (p2 : List Int) (A_p2 : Option Addr) (c_p2 : Nat) (p3 : List UInt8) (p4 : Int) (p5 : Int) (w0 : World) (R_d_P : SL w0 (cI .i64) A_d_P d_P) (C_d_P : d_P.length ≤ c_d_P) (R_p2 : SL w0 (cI .i64) A_p2 p2) (C_p2 : p2.length ≤ c_p2) (r : Bool) (h : D_darkslidelaw_DiffBack N d_W d_H d_P o p2 p3 p4 p5 = some r) :
    Calls Tryd.prog 8 #[.agg #[I d_W, I d_H, .slice A_d_P d_P.length c_d_P], I o, .slice A_p2 p2.length c_p2, .string (bs p3), I p4, I p5] w0 fun e w' => ∃ v, e = .returned v ∧ v = .bool r ∧ Mem w0.heap.size w0 w' [] := by
  refine X_enter Tryd.func8 rfl Tryd.ntmps8 rfl ?_
  intro a K
  have M := Mem.start w0
  have K : Kn a 78 [(0, .agg #[I d_W, I d_H, .slice A_d_P d_P.length c_d_P]), (1, I o), (2, .slice A_p2 p2.length c_p2), (3, .string (bs p3)), (4, I p4), (5, I p5)] := K
  unfold D_darkslidelaw_DiffBack at h
  refine wp_seq (X_reg ?_)
  refine X_a K (ac_box rfl K rfl (cs := [I d_W, I d_H, .slice A_d_P d_P.length c_d_P]) rfl M) ?_
  clear K M; rintro _ a w ⟨g_x, rfl, M⟩ K
  refine X_o K M ?_; clear K; intro a K
  refine wpList_nil (then_n (wp_seq (X_reg ?_)))
  refine X_r K (rd_ldA rfl ty38 K rfl (inM 0 rfl) rfl rfl) M ?_; clear K
  iterate 2 (refine Y_o M ?_)
  intro a K
  obtain ⟨r2, h_r2, h⟩ := obind h
  refine X_a K (ac_call (vs := [.agg #[I d_W, I d_H, .slice A_d_P d_P.length c_d_P], I o, .slice A_p2 p2.length c_p2]) (cap := []) rfl fok22 K rfl rfl (W_diff_Write N d_W d_H d_P A_d_P c_d_P o p2 A_p2 c_p2 _ ((inA R_d_P) _ M) C_d_P ((inA R_p2) _ M) C_p2 r2 h_r2)) ?_
  have M0 := M; clear K M; rintro _ a w ⟨rfl, M⟩ K
  replace M := M0.call M; clear M0
  refine X_o K M ?_; clear K
  iterate 4 (refine Y_o M ?_)
  intro a K
  refine wpList_nil (then_n (wp_seq (wp_seq (X_reg ?_))))
  refine X_o K M ?_; clear K
  refine Y_o M ?_; intro a K
  refine wpList_nil (then_n ?_)
  refine X_cond K rfl (fun hb => ?_) (fun hb => ?_)
  · have h := ctrue hb h
    refine wp_seq (X_reg ?_)
    refine X_o K M ?_; clear K
    refine Y_r (fun _ K => rd_field rfl fld38_0 K rfl) M ?_
    refine Y_r (fun _ K => rd_ldC rfl sc3 K rfl (inM 0 rfl) rfl) M ?_
    refine Y_r (fun _ K => rd_field rfl fld38_1 K rfl) M ?_
    refine Y_r (fun _ K => rd_ldC rfl sc3 K rfl (inM 0 rfl) rfl) M ?_
    iterate 2 (refine Y_o M ?_)
    intro a K
    obtain ⟨r3, h_r3, h⟩ := obind h
    refine X_a K (ac_call (vs := [.string (bs r2.1), I d_W, I d_H, I o, .slice A_p2 p2.length c_p2]) (cap := []) rfl fok24 K rfl rfl (W_diff_Read N r2.1 d_W d_H o p2 A_p2 c_p2 _ ((inA R_p2) _ M) C_p2 r3 h_r3)) ?_
    have M0 := M; clear K M; rintro _ a w ⟨A, c, rfl, M⟩ K
    replace M := M0.call M; clear M0
    refine X_o K M ?_; clear K
    iterate 2 (refine Y_o M ?_)
    intro a K
    refine X_a K (ac_alloc rfl z38 M) ?_
    clear K M; rintro _ a w ⟨g_x2, rfl, M⟩ K
    refine X_b K (ac_storeA rfl ty38 K rfl (ds := [I r3.1, I r3.2.1, .slice A r3.2.2.1.length c]) rfl rfl 0 M rfl rfl rfl) ?_
    clear K M; rintro _ a w M K
    refine X_o K M ?_; clear K; intro a K
    refine wpList_nil (then_n (wp_seq (X_reg ?_)))
    refine X_o K M ?_; clear K
    iterate 2 (refine Y_o M ?_)
    intro a K
    rcases Bool.eq_false_or_eq_true (!decide (r3.2.2.2 = 0)) with hb | hb
    · have h := ctrue hb h
      have K := K.reb (s := 43) rfl hb
      refine X_o K M ?_; clear K
      iterate 4 (refine Y_o M ?_)
      intro a K
      refine wpList_nil (then_n ?_)
      refine X_condT K rfl ?_
      refine wp_seq (X_reg ?_)
      refine X_o K M ?_; clear K; intro a K
      refine wpList_nil (then_n (wp_ret (then_r ?_)))
      cases h
      exact ret1 K rfl (res_tmp K rfl) ⟨_, rfl, rfl, ((M).pick [] (by decide))⟩
    have h := cfalse hb h
    have K := K.reb (s := 43) rfl hb
    refine X_r K (rd_ldA rfl ty38 K rfl (inM 0 rfl) rfl rfl) M ?_; clear K
    refine Y_r (fun _ K => rd_ldA rfl ty38 K rfl (inM 2 rfl) rfl rfl) M ?_; intro a K
    obtain ⟨r4, h_r4, h⟩ := obind h
    refine X_a K (ac_call (vs := [.agg #[I r3.1, I r3.2.1, .slice A r3.2.2.1.length c], .agg #[I d_W, I d_H, .slice A_d_P d_P.length c_d_P]]) (cap := []) rfl fok26 K rfl rfl (W_darkslideref_SamePlanes N r3.1 r3.2.1 r3.2.2.1 A c d_W d_H d_P A_d_P c_d_P _ ((inR (C := (cI .i64)) 1 rfl rfl) _ M) (M.cap 1 rfl) ((inA R_d_P) _ M) C_d_P r4 h_r4)) ?_
    have M0 := M; clear K M; rintro _ a w ⟨rfl, M⟩ K
    replace M := M0.call M; clear M0
    refine X_o K M ?_; clear K
    refine Y_o M ?_; intro a K
    refine wpList_nil (then_n ?_)
    refine X_cond K rfl (fun hb => ?_) (fun hb => ?_)
    · have h := ctrue hb h
      refine wp_seq (X_reg ?_)
      refine X_o K M ?_; clear K; intro a K
      refine wpList_nil (then_n (wp_ret (then_r ?_)))
      cases h
      exact ret1 K rfl (res_tmp K rfl) ⟨_, rfl, rfl, ((M).pick [] (by decide))⟩
    have h := cfalse hb h
    refine wp_skip (then_n (wp_seq (X_reg ?_)))
    refine X_o K M ?_; clear K
    iterate 4 (refine Y_o M ?_)
    intro a K
    obtain ⟨r5, h_r5, h⟩ := obind h
    refine X_a K (ac_call (vs := [.string (bs p3), I p4, I p5, I o, .slice A_p2 p2.length c_p2]) (cap := []) rfl fok24 K rfl rfl (W_diff_Read N p3 p4 p5 o p2 A_p2 c_p2 _ ((inA R_p2) _ M) C_p2 r5 h_r5)) ?_
    have M0 := M; clear K M; rintro _ a w ⟨A2, c2, rfl, M⟩ K
    replace M := M0.call M; clear M0
    refine X_o K M ?_; clear K
    iterate 2 (refine Y_o M ?_)
    intro a K
    refine X_a K (ac_alloc rfl z38 M) ?_
    clear K M; rintro _ a w ⟨g_x3, rfl, M⟩ K
    refine X_b K (ac_storeA rfl ty38 K rfl (ds := [I r5.1, I r5.2.1, .slice A2 r5.2.2.1.length c2]) rfl rfl 0 M rfl rfl rfl) ?_
    clear K M; rintro _ a w M K
    refine X_o K M ?_; clear K; intro a K
    refine wpList_nil (then_n (wp_seq (wp_seq (X_reg ?_))))
    refine X_o K M ?_; clear K
    refine Y_o M ?_; intro a K
    refine wpList_nil (then_n ?_)
    refine X_cond K rfl (fun hb => ?_) (fun hb => ?_)
    · have h := ctrue hb h
      refine wp_seq (X_reg ?_)
      obtain ⟨r6, h_r6, h⟩ := obind h
      refine X_a K (ac_call (vs := []) (cap := []) rfl fok20 K rfl rfl (W_darkslidelaw_diffBegun N  _  r6 h_r6)) ?_
      have M0 := M; clear K M; rintro _ a w ⟨rfl, M⟩ K
      replace M := M0.call M; clear M0
      refine X_o K M ?_; clear K; intro a K
      refine wpList_nil (then_n (wp_ret (then_r ?_)))
      cases h
      exact ret1 K rfl (res_tmp K rfl) ⟨_, rfl, rfl, ((M).pick [] (by decide))⟩
    have h := cfalse hb h
    refine wp_skip (then_n (wp_seq (X_reg ?_)))
    refine X_r K (rd_ldA rfl ty38 K rfl (inM 0 rfl) rfl rfl) M ?_; clear K
    iterate 2 (refine Y_o M ?_)
    intro a K
    obtain ⟨r7, h_r7, h⟩ := obind h
    refine X_a K (ac_call (vs := [.agg #[I r5.1, I r5.2.1, .slice A2 r5.2.2.1.length c2], I o, .slice A_p2 p2.length c_p2]) (cap := []) rfl fok22 K rfl rfl (W_diff_Write N r5.1 r5.2.1 r5.2.2.1 A2 c2 o p2 A_p2 c_p2 _ ((inR (C := (cI .i64)) 1 rfl rfl) _ M) (M.cap 1 rfl) ((inA R_p2) _ M) C_p2 r7 h_r7)) ?_
    have M0 := M; clear K M; rintro _ a w ⟨rfl, M⟩ K
    replace M := M0.call M; clear M0
    refine X_o K M ?_; clear K
    iterate 4 (refine Y_o M ?_)
    intro a K
    refine wpList_nil (then_n (wp_seq (X_reg ?_)))
    obtain ⟨r8, h_r8, h⟩ := obind h
    refine X_a K (ac_call (vs := []) (cap := []) rfl fok20 K rfl rfl (W_darkslidelaw_diffBegun N  _  r8 h_r8)) ?_
    have M0 := M; clear K M; rintro _ a w ⟨rfl, M⟩ K
    replace M := M0.call M; clear M0
    refine X_o K M ?_; clear K; intro a K
    rcases Bool.eq_false_or_eq_true (r8) with hb | hb
    · have h := ctrue hb h
      have K := K.reb (s := 69) rfl hb
      refine X_o K M ?_; clear K
      iterate 3 (refine Y_o M ?_)
      intro a K
      rcases Bool.eq_false_or_eq_true (decide (r7.2 = 0)) with hb | hb
      · have h := ctrue hb h
        have K := K.reb (s := 73) rfl hb
        refine X_o K M ?_; clear K
        refine Y_o M ?_
        refine Y_r (fun _ K => rd_eqlS rfl K rfl rfl) M ?_
        iterate 2 (refine Y_o M ?_)
        intro a K
        refine wpList_nil (then_n (wp_ret ?_))
        cases h
        exact ret1 K rfl (res_tmp K rfl) ⟨_, rfl, rfl, ((M).pick [] (by decide))⟩
      have h := cfalse hb h
      have K := K.reb (s := 73) rfl hb
      refine X_o K M ?_; clear K
      iterate 4 (refine Y_o M ?_)
      intro a K
      refine wpList_nil (then_n (wp_ret ?_))
      cases h
      exact ret1 K rfl (res_tmp K rfl) ⟨_, rfl, rfl, ((M).pick [] (by decide))⟩
    have h := cfalse hb h
    have K := K.reb (s := 69) rfl hb
    refine X_o K M ?_; clear K
    iterate 8 (refine Y_o M ?_)
    intro a K
    refine wpList_nil (then_n (wp_ret ?_))
    cases h
    exact ret1 K rfl (res_tmp K rfl) ⟨_, rfl, rfl, ((M).pick [] (by decide))⟩
  have h := cfalse hb h
  refine wp_skip (then_n (wp_seq (X_reg ?_)))
  refine X_o K M ?_; clear K
  iterate 4 (refine Y_o M ?_)
  intro a K
  obtain ⟨r9, h_r9, h⟩ := obind h
  refine X_a K (ac_call (vs := [.string (bs p3), I p4, I p5, I o, .slice A_p2 p2.length c_p2]) (cap := []) rfl fok24 K rfl rfl (W_diff_Read N p3 p4 p5 o p2 A_p2 c_p2 _ ((inA R_p2) _ M) C_p2 r9 h_r9)) ?_
  have M0 := M; clear K M; rintro _ a w ⟨A3, c3, rfl, M⟩ K
  replace M := M0.call M; clear M0
  refine X_o K M ?_; clear K
  iterate 2 (refine Y_o M ?_)
  intro a K
  refine X_a K (ac_alloc rfl z38 M) ?_
  clear K M; rintro _ a w ⟨g_x4, rfl, M⟩ K
  refine X_b K (ac_storeA rfl ty38 K rfl (ds := [I r9.1, I r9.2.1, .slice A3 r9.2.2.1.length c3]) rfl rfl 0 M rfl rfl rfl) ?_
  clear K M; rintro _ a w M K
  refine X_o K M ?_; clear K; intro a K
  refine wpList_nil (then_n (wp_seq (wp_seq (X_reg ?_))))
  refine X_o K M ?_; clear K
  refine Y_o M ?_; intro a K
  refine wpList_nil (then_n ?_)
  refine X_cond K rfl (fun hb => ?_) (fun hb => ?_)
  · have h := ctrue hb h
    refine wp_seq (X_reg ?_)
    obtain ⟨r10, h_r10, h⟩ := obind h
    refine X_a K (ac_call (vs := []) (cap := []) rfl fok20 K rfl rfl (W_darkslidelaw_diffBegun N  _  r10 h_r10)) ?_
    have M0 := M; clear K M; rintro _ a w ⟨rfl, M⟩ K
    replace M := M0.call M; clear M0
    refine X_o K M ?_; clear K; intro a K
    refine wpList_nil (then_n (wp_ret (then_r ?_)))
    cases h
    exact ret1 K rfl (res_tmp K rfl) ⟨_, rfl, rfl, ((M).pick [] (by decide))⟩
  have h := cfalse hb h
  refine wp_skip (then_n (wp_seq (X_reg ?_)))
  refine X_r K (rd_ldA rfl ty38 K rfl (inM 0 rfl) rfl rfl) M ?_; clear K
  iterate 2 (refine Y_o M ?_)
  intro a K
  obtain ⟨r11, h_r11, h⟩ := obind h
  refine X_a K (ac_call (vs := [.agg #[I r9.1, I r9.2.1, .slice A3 r9.2.2.1.length c3], I o, .slice A_p2 p2.length c_p2]) (cap := []) rfl fok22 K rfl rfl (W_diff_Write N r9.1 r9.2.1 r9.2.2.1 A3 c3 o p2 A_p2 c_p2 _ ((inR (C := (cI .i64)) 1 rfl rfl) _ M) (M.cap 1 rfl) ((inA R_p2) _ M) C_p2 r11 h_r11)) ?_
  have M0 := M; clear K M; rintro _ a w ⟨rfl, M⟩ K
  replace M := M0.call M; clear M0
  refine X_o K M ?_; clear K
  iterate 4 (refine Y_o M ?_)
  intro a K
  refine wpList_nil (then_n (wp_seq (X_reg ?_)))
  obtain ⟨r12, h_r12, h⟩ := obind h
  refine X_a K (ac_call (vs := []) (cap := []) rfl fok20 K rfl rfl (W_darkslidelaw_diffBegun N  _  r12 h_r12)) ?_
  have M0 := M; clear K M; rintro _ a w ⟨rfl, M⟩ K
  replace M := M0.call M; clear M0
  refine X_o K M ?_; clear K; intro a K
  rcases Bool.eq_false_or_eq_true (r12) with hb | hb
  · have h := ctrue hb h
    have K := K.reb (s := 69) rfl hb
    refine X_o K M ?_; clear K
    iterate 3 (refine Y_o M ?_)
    intro a K
    rcases Bool.eq_false_or_eq_true (decide (r11.2 = 0)) with hb | hb
    · have h := ctrue hb h
      have K := K.reb (s := 73) rfl hb
      refine X_o K M ?_; clear K
      refine Y_o M ?_
      refine Y_r (fun _ K => rd_eqlS rfl K rfl rfl) M ?_
      iterate 2 (refine Y_o M ?_)
      intro a K
      refine wpList_nil (then_n (wp_ret ?_))
      cases h
      exact ret1 K rfl (res_tmp K rfl) ⟨_, rfl, rfl, ((M).pick [] (by decide))⟩
    have h := cfalse hb h
    have K := K.reb (s := 73) rfl hb
    refine X_o K M ?_; clear K
    iterate 4 (refine Y_o M ?_)
    intro a K
    refine wpList_nil (then_n (wp_ret ?_))
    cases h
    exact ret1 K rfl (res_tmp K rfl) ⟨_, rfl, rfl, ((M).pick [] (by decide))⟩
  have h := cfalse hb h
  have K := K.reb (s := 69) rfl hb
  refine X_o K M ?_; clear K
  iterate 8 (refine Y_o M ?_)
  intro a K
  refine wpList_nil (then_n (wp_ret ?_))
  cases h
  exact ret1 K rfl (res_tmp K rfl) ⟨_, rfl, rfl, ((M).pick [] (by decide))⟩
end Go.Proofs.YtpmnfhifmmfglacDoor
