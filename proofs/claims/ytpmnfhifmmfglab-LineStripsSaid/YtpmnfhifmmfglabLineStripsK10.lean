/- Texts of the claim LineStrips, joined: WRefGained, WRefDown, WRefLevelled, WRefParts, WRefMixed, WRefIsspot, WRefRepaired, WRefSharp, WRefWholeof, WLawLinestrips. -/
import Derived.Test.YtpmnfhifmmfglabLineStripsK2
import Derived.Test.YtpmnfhifmmfglabLineStripsK4
import Derived.Test.YtpmnfhifmmfglabLineStripsK8
import Derived.Test.YtpmnfhifmmfglabLineStripsK9
set_option linter.unusedVariables false
set_option linter.unusedSimpArgs false
set_option linter.unusedSectionVars false
namespace Go.Proofs.Ytpmnfhifmmfglab
open Go.RowKit
set_option maxRecDepth 100000 in
set_option maxHeartbeats 4000000 in
theorem W_darkslideref_Gained (N : Nat) (p_W : Int) (p_H : Int) (p_P : List Int) (A_p_P : Option Addr) (c_p_P : Nat) (phase : Int) (gains0 : Int) (gains1 : Int) (gains2 : Int) (w0 : World) (R_p_P : SL w0 (cI .i64) A_p_P p_P) (C_p_P : p_P.length ≤ c_p_P) (r : Int × Int × List Int) (h : D_darkslideref_Gained N p_W p_H p_P phase gains0 gains1 gains2 = some r) :
    Calls Try.prog 41 #[.agg #[I p_W, I p_H, .slice A_p_P p_P.length c_p_P], I phase, .agg #[I gains0, I gains1, I gains2]] w0 fun e w' => ∃ v, e = .returned v ∧ ∃ A2 c2, v = .agg #[I r.1, I r.2.1, .slice A2 r.2.2.length c2] ∧ Mem w0.heap.size w0 w' [.row 3 1 A2 r.2.2.length c2 ((cI .i64).all r.2.2)] := by
  refine X_enter Try.func41 rfl Try.ntmps41 rfl ?_
  intro a K
  have M := Mem.start w0
  have K : Kn a 47 [(0, .agg #[I p_W, I p_H, .slice A_p_P p_P.length c_p_P]), (1, I phase), (2, .agg #[I gains0, I gains1, I gains2])] := K
  unfold D_darkslideref_Gained at h
  refine wp_seq (X_reg ?_)
  refine X_a K (ac_box rfl K rfl (cs := [I p_W, I p_H, .slice A_p_P p_P.length c_p_P]) rfl M) ?_
  clear K M; rintro _ a w ⟨g_p, rfl, M⟩ K
  refine X_a K (ac_box rfl K rfl (cs := [I gains0, I gains1, I gains2]) rfl M) ?_
  clear K M; rintro _ a w ⟨g_gains, rfl, M⟩ K
  refine X_a K (ac_alloc rfl z45 M) ?_
  clear K M; rintro _ a w ⟨g_x, rfl, M⟩ K
  refine wpList_nil (then_n (wp_seq (X_reg ?_)))
  refine X_r K (rd_field rfl fld45_0 K rfl) M ?_; clear K
  refine Y_r (fun _ K => rd_ldC rfl sc3 K rfl (inM 2 rfl) rfl) M ?_
  refine Y_r (fun _ K => rd_field rfl fld45_1 K rfl) M ?_
  refine Y_r (fun _ K => rd_ldC rfl sc3 K rfl (inM 2 rfl) rfl) M ?_
  refine Y_r (fun _ K => rd_build rfl K (vs := [(0, I p_W), (1, I p_H)]) (cs := [I p_W, I p_H, .slice none ([] : List Int).length 0]) rfl (by kernel_rfl)) M ?_; intro a K
  refine X_a K (ac_alloc rfl z45 M) ?_
  clear K M; rintro _ a w ⟨g_out, rfl, M⟩ K
  refine X_b K (ac_storeA rfl ty45 K rfl (ds := [I p_W, I p_H, .slice none ([] : List Int).length 0]) rfl rfl 0 M rfl rfl rfl) ?_
  clear K M; rintro _ a w M K
  refine wpList_nil (then_n (wp_seq (wp_seq (X_reg ?_))))
  refine X_o K M ?_; clear K; intro a K
  refine wpList_nil (then_n (wp_block ?_))
  replace M := Mem.nilrow 3 1 (cI .i64) M
  refine X_lp (id := 0) (Rel := fun (⟨out_P, i⟩ : List Int × Int) a w => ∃ (A : Option Addr) (c : Nat), Kn a 47 [(1, I phase), (3, .pointer (some ⟨g_p, 0, none⟩)), (5, .pointer (some ⟨g_gains, 0, none⟩)), (6, .pointer (some ⟨g_x, 0, none⟩)), (7, .pointer (some ⟨g_out, 0, none⟩)), (8, I i)] ∧ Mem w0.heap.size w0 w [.row 3 1 A out_P.length c ((cI .i64).all out_P), .blk g_out 45 [I p_W, I p_H, .slice A out_P.length c], .blk g_x 45 [I 0, I 0, .slice none ([] : List Int).length 0], .blk g_gains 38 [I gains0, I gains1, I gains2], .blk g_p 45 [I p_W, I p_H, .slice A_p_P p_P.length c_p_P]]) h (fun _ _ => rfl) ⟨none, 0, K.pick [1,3,5,6,7,8], M.pick [0,1,2,3,4] (by decide)⟩ ?_ ?_
  · clear K M h
    rintro ⟨out_P4, i4⟩ a w ⟨A4, c4, K, M⟩ h
    try dsimp only at h
    refine inb_e ?_
    refine then_n (wp_seq (X_reg ?_))
    refine X_r K (rd_ldA rfl ty45 K rfl (inM 1 rfl) rfl rfl) M ?_; clear K; intro a K
    refine X_b K (ac_storeA rfl ty45 K rfl (ds := [I p_W, I p_H, .slice A4 out_P4.length c4]) rfl rfl 2 M rfl rfl rfl) ?_
    clear K M; rintro _ a w M K
    refine wpList_nil (then_n (wp_ret ?_))
    cases h
    exact ret1 K rfl (res_cellA K rfl ty45 (M.blkAt (i := 2) rfl) rfl) ⟨_, rfl, _, _, rfl, ((M).pick [0] (by decide))⟩
  clear K M h
  rintro kk fuel ⟨out_P, i⟩ a w hk1 ⟨A, c, K, M⟩ h
  unfold D_darkslideref_Gained_l1 at h
  refine wp_seq (wp_seq (X_reg ?_))
  refine X_o K M ?_; clear K
  refine Y_r (fun _ K => rd_field rfl fld45_2 K rfl) M ?_
  refine Y_r (fun _ K => rd_ldC rfl sc43 K rfl (inM 4 rfl) rfl) M ?_
  refine Y_r (fun _ K => rd_len rfl un43 K rfl) M ?_
  refine Y_o M ?_; intro a K
  refine wpList_nil (then_n ?_)
  refine X_cond K rfl (fun hb => ?_) (fun hb => ?_)
  · have h := ctrue hb h
    refine wp_skip (then_n (wp_seq (wp_block ?_)))
    refine wp_region_tl (fun w => Mem _ _ w _) [0,0,0,0,0,0,0,0,0,0,0,0,0,0,0,0,1,0,0,0,0,1,1,1,0,2] (by kernel_rfl) (by kernel_rfl) (M.pick [1,2,3,4] (by decide)).drew ?_
    replace M := M.drew
    refine T_r K (rd_field rfl fld45_2 K rfl) ?_; clear K
    refine U_r (fun _ K => rd_ldC rfl sc43 K rfl (inM 0 rfl) rfl) ?_
    refine U_r (fun _ K => rd_field rfl fld45_2 K rfl) ?_
    refine U_r (fun _ K => rd_ldC rfl sc43 K rfl (inM 3 rfl) rfl) ?_
    refine U_o ?_
    obtain ⟨e3, h_e3, h⟩ := obind h
    refine U_r (fun _ K => rd_ix rfl sl43 K rfl rfl (inA R_p_P) h_e3) ?_
    refine U_r (fun _ K => rd_elC rfl sc3 K rfl rfl (inA R_p_P) h_e3 rfl) ?_
    iterate 2 (refine U_o ?_)
    refine U_r (fun _ K => rd_field rfl fld45_0 K rfl) ?_
    refine U_r (fun _ K => rd_ldC rfl sc3 K rfl (inM 3 rfl) rfl) ?_; intro a K
    obtain ⟨_, h0, h⟩ := obind h
    have h0 := nz_spec h0
    refine T_r K (rd_rem rfl K rfl rfl h0) ?_; clear K
    refine U_o ?_
    refine U_r (fun _ K => rd_field rfl fld45_0 K rfl) ?_
    refine U_r (fun _ K => rd_ldC rfl sc3 K rfl (inM 3 rfl) rfl) ?_; intro a K
    obtain ⟨_, h0, h⟩ := obind h
    have h0 := nz_spec h0
    refine T_r K (rd_quo rfl K rfl rfl h0) ?_; clear K; intro a K
    obtain ⟨r4, h_r4, h⟩ := obind h
    refine T_a K (ac_call (vs := [I phase, I (Int.tmod i p_W), I (IntKind.i64.wrap (Int.tdiv i p_W))]) (cap := []) rfl fok62 K rfl rfl (W_darkslideref_ColourAt N phase (Int.tmod i p_W) (IntKind.i64.wrap (Int.tdiv i p_W)) _  r4 h_r4)) ?_
    have M0 := M; clear K M; rintro _ a w ⟨rfl, M⟩ K
    replace M := M0.call M; clear M0
    refine ⟨M.pick [1,2,3,4] (by decide), ?_⟩
    obtain ⟨_, h0, h⟩ := obind h
    have h0 := inr_spec h0
    refine T_r K (rd_ixA rfl ar38 sz3 K rfl rfl h0.1 h0.2) ?_; clear K
    obtain ⟨e4, h_e4, h⟩ := obind h
    refine U_r (fun _ K => rd_ldIa rfl sc3 K rfl (inM 2 rfl) rfl rfl h_e4) ?_
    refine U_o ?_
    refine U_r (fun _ K => rd_quo rfl K rfl rfl (by decide)) ?_; intro a K
    obtain ⟨r5, h_r5, h⟩ := obind h
    refine T_a K (ac_call (vs := [I (IntKind.i64.wrap (Int.tdiv (IntKind.i64.wrap (e3 * e4)) 256))]) (cap := []) rfl fok32 K rfl rfl (W_darkslideref_clamp N (IntKind.i64.wrap (Int.tdiv (IntKind.i64.wrap (e3 * e4)) 256)) _  r5 h_r5)) ?_
    have M0 := M; clear K M; rintro _ a w ⟨rfl, M⟩ K
    replace M := M0.call M; clear M0
    refine ⟨M.pick [1,2,3,4] (by decide), ?_⟩
    refine T_a K (ac_bslice rfl sl43 z3 K (vs := [(0, I r5)]) (cs := [I r5]) rfl (by kernel_rfl) rfl rfl M) ?_
    have M0 := M; clear K M; rintro _ a w ⟨gs2, rfl, M⟩ K
    replace M := M.asRow 0 rfl (cI .i64) ([r5] : List Int) (n := 1) rfl rfl rfl
    clear M0
    refine ⟨M.pick [2,3,4,5] (by decide), ?_⟩
    obtain ⟨out_P3, h_out_P3, h⟩ := obind h
    refine T_a K (ac_app (C := (cI .i64)) (xs := out_P) (ys := ([r5] : List Int)) rfl sl43 rfl z3 rfl rfl K rfl rfl 1 M rfl ((inR (C := (cI .i64)) 0 rfl rfl) _ M) h_out_P3) ?_
    clear K M; rintro _ a w ⟨A3, c3, rfl, M⟩ K
    refine ⟨M.pick [2,3,4,5] (by decide), ?_⟩
    refine T_r K (rd_field rfl fld45_2 K rfl) ?_; clear K; intro a K
    refine T_b K (ac_storeC rfl sc43 K rfl rfl rfl 2 M rfl rfl) ?_
    clear K M; rintro _ a w M K
    refine T_end ?_
    refine inb_n (then_n (X_reg ?_))
    refine X_o K M ?_; clear K
    refine Y_o M ?_
    obtain ⟨i3, hx, h⟩ := olet h
    refine Y_r (fun _ K => rdi hx (rd_assign rfl K rfl)) M ?_; intro a K
    refine wpList_nil ?_
    exact then_n ⟨(out_P3, i3), ⟨A3, c3, K.pick [1,3,5,6,7,8], M.pick [1,2,3,4,5] (by decide)⟩, h⟩
  have h := cfalse hb h
  refine wp_exit ?_
  refine then_e ?_
  exact then_e (hk1 (out_P, i) _ _ ⟨A, c, K.pick [1,3,5,6,7,8], M.pick [0,1,2,3,4] (by decide)⟩ h)
end Go.Proofs.Ytpmnfhifmmfglab

namespace Go.Proofs.Ytpmnfhifmmfglab
open Go.RowKit
set_option maxRecDepth 100000 in
set_option maxHeartbeats 4000000 in
theorem W_darkslideref_down (N : Nat) (n : Int) (by2 : Int) (w0 : World)  (r : Int) (h : D_darkslideref_down N n by2 = some r) :
    Calls Try.prog 33 #[I n, I by2] w0 fun e w' => ∃ v, e = .returned v ∧ v = I r ∧ Mem w0.heap.size w0 w' [] := by
  refine X_enter Try.func33 rfl Try.ntmps33 rfl ?_
  intro a K
  have M := Mem.start w0
  have K : Kn a 17 [(0, I n), (1, I by2)] := K
  unfold D_darkslideref_down at h
  refine wp_seq (X_reg ?_)
  refine X_o K M ?_; clear K; intro a K
  refine wpList_nil (then_n (wp_seq (X_reg ?_)))
  refine X_o K M ?_; clear K
  refine Y_o M ?_; intro a K
  obtain ⟨_, h0, h⟩ := obind h
  have h0 := nz_spec h0
  refine X_r K (rd_quo rfl K rfl rfl h0) M ?_; clear K
  obtain ⟨q, hx, h⟩ := olet h
  refine Y_r (fun _ K => rdi hx (rd_assign rfl K rfl)) M ?_; intro a K
  refine wpList_nil (then_n (wp_seq (wp_seq (X_reg ?_))))
  refine X_o K M ?_; clear K
  iterate 4 (refine Y_o M ?_)
  intro a K
  refine wpList_nil (then_n ?_)
  refine X_cond K rfl (fun hb => ?_) (fun hb => ?_)
  · have h := ctrue hb h
    refine X_reg ?_
    refine X_o K M ?_; clear K
    refine Y_o M ?_
    obtain ⟨q2, hx, h⟩ := olet h
    refine Y_r (fun _ K => rdi hx (rd_assign rfl K rfl)) M ?_; intro a K
    refine wpList_nil (then_n (wp_seq (X_reg ?_)))
    refine X_o K M ?_; clear K
    refine Y_o M ?_; intro a K
    refine wpList_nil (then_n (wp_ret ?_))
    cases h
    exact ret1 K rfl (res_tmp K rfl) ⟨_, rfl, rfl, ((M).pick [] (by decide))⟩
  have h := cfalse hb h
  refine wp_skip (then_n (wp_seq (X_reg ?_)))
  refine X_o K M ?_; clear K
  refine Y_o M ?_; intro a K
  refine wpList_nil (then_n (wp_ret ?_))
  cases h
  exact ret1 K rfl (res_tmp K rfl) ⟨_, rfl, rfl, ((M).pick [] (by decide))⟩
end Go.Proofs.Ytpmnfhifmmfglab

namespace Go.Proofs.Ytpmnfhifmmfglab
open Go.RowKit
set_option maxRecDepth 100000 in
set_option maxHeartbeats 4000000 in
theorem W_darkslideref_Levelled (N : Nat) (p_W : Int) (p_H : Int) (p_P : List Int) (A_p_P : Option Addr) (c_p_P : Nat) (black0 : Int) (black1 : Int) (black2 : Int) (black3 : Int) (white : Int) (w0 : World) (R_p_P : SL w0 (cI .i64) A_p_P p_P) (C_p_P : p_P.length ≤ c_p_P) (r : Int × Int × List Int) (h : D_darkslideref_Levelled N p_W p_H p_P black0 black1 black2 black3 white = some r) :
    Calls Try.prog 43 #[.agg #[I p_W, I p_H, .slice A_p_P p_P.length c_p_P], .agg #[I black0, I black1, I black2, I black3], I white] w0 fun e w' => ∃ v, e = .returned v ∧ ∃ A2 c2, v = .agg #[I r.1, I r.2.1, .slice A2 r.2.2.length c2] ∧ Mem w0.heap.size w0 w' [.row 3 1 A2 r.2.2.length c2 ((cI .i64).all r.2.2)] := by
  refine X_enter Try.func43 rfl Try.ntmps43 rfl ?_
  intro a K
  have M := Mem.start w0
  have K : Kn a 54 [(0, .agg #[I p_W, I p_H, .slice A_p_P p_P.length c_p_P]), (1, .agg #[I black0, I black1, I black2, I black3]), (2, I white)] := K
  unfold D_darkslideref_Levelled at h
  refine wp_seq (X_reg ?_)
  refine X_a K (ac_box rfl K rfl (cs := [I p_W, I p_H, .slice A_p_P p_P.length c_p_P]) rfl M) ?_
  clear K M; rintro _ a w ⟨g_p, rfl, M⟩ K
  refine X_a K (ac_box rfl K rfl (cs := [I black0, I black1, I black2, I black3]) rfl M) ?_
  clear K M; rintro _ a w ⟨g_black, rfl, M⟩ K
  refine X_a K (ac_alloc rfl z45 M) ?_
  clear K M; rintro _ a w ⟨g_x, rfl, M⟩ K
  refine wpList_nil (then_n (wp_seq (X_reg ?_)))
  refine X_r K (rd_field rfl fld45_0 K rfl) M ?_; clear K
  refine Y_r (fun _ K => rd_ldC rfl sc3 K rfl (inM 2 rfl) rfl) M ?_
  refine Y_r (fun _ K => rd_field rfl fld45_1 K rfl) M ?_
  refine Y_r (fun _ K => rd_ldC rfl sc3 K rfl (inM 2 rfl) rfl) M ?_
  refine Y_r (fun _ K => rd_build rfl K (vs := [(0, I p_W), (1, I p_H)]) (cs := [I p_W, I p_H, .slice none ([] : List Int).length 0]) rfl (by kernel_rfl)) M ?_; intro a K
  refine X_a K (ac_alloc rfl z45 M) ?_
  clear K M; rintro _ a w ⟨g_out, rfl, M⟩ K
  refine X_b K (ac_storeA rfl ty45 K rfl (ds := [I p_W, I p_H, .slice none ([] : List Int).length 0]) rfl rfl 0 M rfl rfl rfl) ?_
  clear K M; rintro _ a w M K
  refine wpList_nil (then_n (wp_seq (wp_seq (X_reg ?_))))
  refine X_o K M ?_; clear K; intro a K
  refine wpList_nil (then_n (wp_block ?_))
  replace M := Mem.nilrow 3 1 (cI .i64) M
  refine X_lp (id := 0) (Rel := fun (⟨out_P, y⟩ : List Int × Int) a w => ∃ (A : Option Addr) (c : Nat), Kn a 54 [(2, I white), (3, .pointer (some ⟨g_p, 0, none⟩)), (4, .pointer (some ⟨g_black, 0, none⟩)), (6, .pointer (some ⟨g_x, 0, none⟩)), (7, .pointer (some ⟨g_out, 0, none⟩)), (8, I y)] ∧ Mem w0.heap.size w0 w [.row 3 1 A out_P.length c ((cI .i64).all out_P), .blk g_out 45 [I p_W, I p_H, .slice A out_P.length c], .blk g_x 45 [I 0, I 0, .slice none ([] : List Int).length 0], .blk g_black 36 [I black0, I black1, I black2, I black3], .blk g_p 45 [I p_W, I p_H, .slice A_p_P p_P.length c_p_P]]) h (fun _ _ => rfl) ⟨none, 0, K.pick [2,3,4,6,7,8], M.pick [0,1,2,3,4] (by decide)⟩ ?_ ?_
  · clear K M h
    rintro ⟨out_P8, y4⟩ a w ⟨A8, c8, K, M⟩ h
    try dsimp only at h
    refine inb_e ?_
    refine then_n (wp_seq (X_reg ?_))
    refine X_r K (rd_ldA rfl ty45 K rfl (inM 1 rfl) rfl rfl) M ?_; clear K; intro a K
    refine X_b K (ac_storeA rfl ty45 K rfl (ds := [I p_W, I p_H, .slice A8 out_P8.length c8]) rfl rfl 2 M rfl rfl rfl) ?_
    clear K M; rintro _ a w M K
    refine wpList_nil (then_n (wp_ret ?_))
    cases h
    exact ret1 K rfl (res_cellA K rfl ty45 (M.blkAt (i := 2) rfl) rfl) ⟨_, rfl, _, _, rfl, ((M).pick [0] (by decide))⟩
  clear K M h
  rintro kk fuel ⟨out_P, y⟩ a w hk1 ⟨A, c, K, M⟩ h
  unfold D_darkslideref_Levelled_l1 at h
  refine wp_seq (wp_seq (X_reg ?_))
  refine X_o K M ?_; clear K
  refine Y_r (fun _ K => rd_field rfl fld45_1 K rfl) M ?_
  refine Y_r (fun _ K => rd_ldC rfl sc3 K rfl (inM 4 rfl) rfl) M ?_
  refine Y_o M ?_; intro a K
  refine wpList_nil (then_n ?_)
  refine X_cond K rfl (fun hb => ?_) (fun hb => ?_)
  · have h := ctrue hb h
    refine wp_skip (then_n (wp_seq (wp_block (wp_seq (X_reg ?_)))))
    refine X_o K M ?_; clear K; intro a K
    refine wpList_nil (then_n (wp_block ?_))
    refine X_lp (id := 2) (Rel := fun (⟨out_P4, x4⟩ : List Int × Int) a w => ∃ (A4 : Option Addr) (c4 : Nat), Kn a 54 [(2, I white), (3, .pointer (some ⟨g_p, 0, none⟩)), (4, .pointer (some ⟨g_black, 0, none⟩)), (6, .pointer (some ⟨g_x, 0, none⟩)), (7, .pointer (some ⟨g_out, 0, none⟩)), (8, I y), (9, I x4)] ∧ Mem w0.heap.size w0 w [.row 3 1 A4 out_P4.length c4 ((cI .i64).all out_P4), .blk g_out 45 [I p_W, I p_H, .slice A4 out_P4.length c4], .blk g_x 45 [I 0, I 0, .slice none ([] : List Int).length 0], .blk g_black 36 [I black0, I black1, I black2, I black3], .blk g_p 45 [I p_W, I p_H, .slice A_p_P p_P.length c_p_P]]) h (fun _ _ => rfl) ⟨A, c, K.pick [2,3,4,6,7,8,9], M.pick [0,1,2,3,4] (by decide)⟩ ?_ ?_
    · clear K M h
      rintro ⟨out_P7, x7⟩ a w ⟨A7, c7, K, M⟩ h
      try dsimp only at h
      refine inb_e ?_
      refine inb_n (then_n (X_reg ?_))
      refine X_o K M ?_; clear K
      refine Y_o M ?_
      obtain ⟨y3, hx, h⟩ := olet h
      refine Y_r (fun _ K => rdi hx (rd_assign rfl K rfl)) M ?_; intro a K
      refine wpList_nil ?_
      exact then_n ⟨(out_P7, y3), ⟨A7, c7, K.pick [2,3,4,6,7,8], M.pick [0,1,2,3,4] (by decide)⟩, h⟩
    clear K M h
    rintro kk fuel ⟨out_P4, x4⟩ a w hk2 ⟨A4, c4, K, M⟩ h
    unfold D_darkslideref_Levelled_l2 at h
    refine wp_seq (wp_seq (X_reg ?_))
    refine X_o K M ?_; clear K
    refine Y_r (fun _ K => rd_field rfl fld45_0 K rfl) M ?_
    refine Y_r (fun _ K => rd_ldC rfl sc3 K rfl (inM 4 rfl) rfl) M ?_
    refine Y_o M ?_; intro a K
    refine wpList_nil (then_n ?_)
    refine X_cond K rfl (fun hb => ?_) (fun hb => ?_)
    · have h := ctrue hb h
      refine wp_skip (then_n (wp_seq (wp_block (wp_seq (X_reg ?_)))))
      refine X_o K M ?_; clear K
      refine Y_r (fun _ K => rd_rem rfl K rfl rfl (by decide)) M ?_
      iterate 2 (refine Y_o M ?_)
      refine Y_r (fun _ K => rd_rem rfl K rfl rfl (by decide)) M ?_
      refine Y_o M ?_; intro a K
      obtain ⟨_, h0, h⟩ := obind h
      have h0 := inr_spec h0
      refine X_r K (rd_ixA rfl ar36 sz3 K rfl rfl h0.1 h0.2) M ?_; clear K
      obtain ⟨e3, h_e3, h⟩ := obind h
      refine Y_r (fun _ K => rd_ldIa rfl sc3 K rfl (inM 3 rfl) rfl rfl h_e3) M ?_
      refine Y_o M ?_; intro a K
      refine wpList_nil (then_n ?_)
      refine wp_region_tl (fun w => Mem _ _ w _) [0,0,0,0,0,1,0,0,0,0,0,0,1,1,1,1,0,2] (by kernel_rfl) (by kernel_rfl) (M.pick [1,2,3,4] (by decide)).drew ?_
      replace M := M.drew
      refine T_r K (rd_field rfl fld45_2 K rfl) ?_; clear K
      refine U_r (fun _ K => rd_ldC rfl sc43 K rfl (inM 0 rfl) rfl) ?_
      refine U_r (fun _ K => rd_ldA rfl ty45 K rfl (inM 3 rfl) rfl rfl) ?_
      iterate 2 (refine U_o ?_)
      intro a K
      obtain ⟨r8, h_r8, h⟩ := obind h
      refine T_a K (ac_call (vs := [.agg #[I p_W, I p_H, .slice A_p_P p_P.length c_p_P], I x4, I y]) (cap := []) rfl fok64 K rfl rfl (W_darkslideref_At N p_W p_H p_P A_p_P c_p_P x4 y _ ((inA R_p_P) _ M) C_p_P r8 h_r8)) ?_
      have M0 := M; clear K M; rintro _ a w ⟨rfl, M⟩ K
      replace M := M0.call M; clear M0
      refine ⟨M.pick [1,2,3,4] (by decide), ?_⟩
      refine T_o K ?_; clear K
      iterate 5 (refine U_o ?_)
      intro a K
      obtain ⟨r9, h_r9, h⟩ := obind h
      refine T_a K (ac_call (vs := [I (IntKind.i64.wrap ((IntKind.i64.wrap (r8 - e3)) * 65535)), I (IntKind.i64.wrap (white - e3))]) (cap := []) rfl fok33 K rfl rfl (W_darkslideref_down N (IntKind.i64.wrap ((IntKind.i64.wrap (r8 - e3)) * 65535)) (IntKind.i64.wrap (white - e3)) _  r9 h_r9)) ?_
      have M0 := M; clear K M; rintro _ a w ⟨rfl, M⟩ K
      replace M := M0.call M; clear M0
      refine ⟨M.pick [1,2,3,4] (by decide), ?_⟩
      obtain ⟨r10, h_r10, h⟩ := obind h
      refine T_a K (ac_call (vs := [I r9]) (cap := []) rfl fok32 K rfl rfl (W_darkslideref_clamp N r9 _  r10 h_r10)) ?_
      have M0 := M; clear K M; rintro _ a w ⟨rfl, M⟩ K
      replace M := M0.call M; clear M0
      refine ⟨M.pick [1,2,3,4] (by decide), ?_⟩
      refine T_a K (ac_bslice rfl sl43 z3 K (vs := [(0, I r10)]) (cs := [I r10]) rfl (by kernel_rfl) rfl rfl M) ?_
      have M0 := M; clear K M; rintro _ a w ⟨gs3, rfl, M⟩ K
      replace M := M.asRow 0 rfl (cI .i64) ([r10] : List Int) (n := 1) rfl rfl rfl
      clear M0
      refine ⟨M.pick [2,3,4,5] (by decide), ?_⟩
      obtain ⟨out_P6, h_out_P6, h⟩ := obind h
      refine T_a K (ac_app (C := (cI .i64)) (xs := out_P4) (ys := ([r10] : List Int)) rfl sl43 rfl z3 rfl rfl K rfl rfl 1 M rfl ((inR (C := (cI .i64)) 0 rfl rfl) _ M) h_out_P6) ?_
      clear K M; rintro _ a w ⟨A6, c6, rfl, M⟩ K
      refine ⟨M.pick [2,3,4,5] (by decide), ?_⟩
      refine T_r K (rd_field rfl fld45_2 K rfl) ?_; clear K; intro a K
      refine T_b K (ac_storeC rfl sc43 K rfl rfl rfl 2 M rfl rfl) ?_
      clear K M; rintro _ a w M K
      refine T_end ?_
      refine inb_n (then_n (X_reg ?_))
      refine X_o K M ?_; clear K
      refine Y_o M ?_
      obtain ⟨x6, hx, h⟩ := olet h
      refine Y_r (fun _ K => rdi hx (rd_assign rfl K rfl)) M ?_; intro a K
      refine wpList_nil ?_
      exact then_n ⟨(out_P6, x6), ⟨A6, c6, K.pick [2,3,4,6,7,8,9], M.pick [1,2,3,4,5] (by decide)⟩, h⟩
    have h := cfalse hb h
    refine wp_exit ?_
    refine then_e ?_
    exact then_e (hk2 (out_P4, x4) _ _ ⟨A4, c4, K.pick [2,3,4,6,7,8,9], M.pick [0,1,2,3,4] (by decide)⟩ h)
  have h := cfalse hb h
  refine wp_exit ?_
  refine then_e ?_
  exact then_e (hk1 (out_P, y) _ _ ⟨A, c, K.pick [2,3,4,6,7,8], M.pick [0,1,2,3,4] (by decide)⟩ h)
end Go.Proofs.Ytpmnfhifmmfglab

namespace Go.Proofs.Ytpmnfhifmmfglab
open Go.RowKit
set_option maxRecDepth 100000 in
set_option maxHeartbeats 4000000 in
theorem W_darkslideref_parts (N : Nat) (c_R : Int) (c_G : Int) (c_B : Int) (w0 : World)  (r : Int × Int × Int) (h : D_darkslideref_parts N c_R c_G c_B = some r) :
    Calls Try.prog 31 #[.agg #[I c_R, I c_G, I c_B]] w0 fun e w' => ∃ v, e = .returned v ∧ v = .agg #[I r.1, I r.2.1, I r.2.2] ∧ Mem w0.heap.size w0 w' [] := by
  refine X_enter Try.func31 rfl Try.ntmps31 rfl ?_
  intro a K
  have M := Mem.start w0
  have K : Kn a 10 [(0, .agg #[I c_R, I c_G, I c_B])] := K
  unfold D_darkslideref_parts at h
  refine wp_seq (X_reg ?_)
  refine X_a K (ac_box rfl K rfl (cs := [I c_R, I c_G, I c_B]) rfl M) ?_
  clear K M; rintro _ a w ⟨g_c, rfl, M⟩ K
  refine X_a K (ac_alloc rfl z38 M) ?_
  clear K M; rintro _ a w ⟨g_x, rfl, M⟩ K
  refine wpList_nil (then_n (wp_seq (X_reg ?_)))
  refine X_r K (rd_field rfl fld34_0 K rfl) M ?_; clear K
  refine Y_r (fun _ K => rd_ldC rfl sc3 K rfl (inM 1 rfl) rfl) M ?_
  refine Y_r (fun _ K => rd_field rfl fld34_1 K rfl) M ?_
  refine Y_r (fun _ K => rd_ldC rfl sc3 K rfl (inM 1 rfl) rfl) M ?_
  refine Y_r (fun _ K => rd_field rfl fld34_2 K rfl) M ?_
  refine Y_r (fun _ K => rd_ldC rfl sc3 K rfl (inM 1 rfl) rfl) M ?_
  refine Y_r (fun _ K => rd_build rfl K (vs := [(0, I c_R), (1, I c_G), (2, I c_B)]) (cs := [I c_R, I c_G, I c_B]) rfl (by kernel_rfl)) M ?_; intro a K
  refine X_b K (ac_storeA rfl ty38 K rfl (ds := [I c_R, I c_G, I c_B]) rfl rfl 0 M rfl rfl rfl) ?_
  clear K M; rintro _ a w M K
  refine wpList_nil (then_n (wp_ret ?_))
  cases h
  exact ret1 K rfl (res_cellA K rfl ty38 (M.blkAt (i := 0) rfl) rfl) ⟨_, rfl, rfl, ((M).pick [] (by decide))⟩
end Go.Proofs.Ytpmnfhifmmfglab

namespace Go.Proofs.Ytpmnfhifmmfglab
open Go.RowKit
set_option maxRecDepth 100000 in
set_option maxHeartbeats 4000000 in
theorem W_darkslideref_Mixed (N : Nat) (d_W : Int) (d_H : Int) (d_P : List (Int × Int × Int)) (A_d_P : Option Addr) (c_d_P : Nat) (o0 : Int) (o1 : Int) (o2 : Int) (o3 : Int) (o4 : Int) (o5 : Int) (o6 : Int) (o7 : Int) (o8 : Int) (w0 : World) (R_d_P : SL w0 cIII A_d_P d_P) (C_d_P : d_P.length ≤ c_d_P) (r : Int × Int × List (Int × Int × Int)) (h : D_darkslideref_Mixed N d_W d_H d_P o0 o1 o2 o3 o4 o5 o6 o7 o8 = some r) :
    Calls Try.prog 45 #[.agg #[I d_W, I d_H, .slice A_d_P d_P.length c_d_P], .agg #[I o0, I o1, I o2, I o3, I o4, I o5, I o6, I o7, I o8]] w0 fun e w' => ∃ v, e = .returned v ∧ ∃ A2 c2, v = .agg #[I r.1, I r.2.1, .slice A2 r.2.2.length c2] ∧ Mem w0.heap.size w0 w' [.row 34 3 A2 r.2.2.length c2 (cIII.all r.2.2)] := by
  refine X_enter Try.func45 rfl Try.ntmps45 rfl ?_
  intro a K
  have M := Mem.start w0
  have K : Kn a 69 [(0, .agg #[I d_W, I d_H, .slice A_d_P d_P.length c_d_P]), (1, .agg #[I o0, I o1, I o2, I o3, I o4, I o5, I o6, I o7, I o8])] := K
  unfold D_darkslideref_Mixed at h
  refine wp_seq (X_reg ?_)
  refine X_a K (ac_box rfl K rfl (cs := [I d_W, I d_H, .slice A_d_P d_P.length c_d_P]) rfl M) ?_
  clear K M; rintro _ a w ⟨g_x, rfl, M⟩ K
  refine X_a K (ac_box rfl K rfl (cs := [I o0, I o1, I o2, I o3, I o4, I o5, I o6, I o7, I o8]) rfl M) ?_
  clear K M; rintro _ a w ⟨g_x2, rfl, M⟩ K
  refine X_a K (ac_alloc rfl z24 M) ?_
  clear K M; rintro _ a w ⟨g_x3, rfl, M⟩ K
  refine wpList_nil (then_n (wp_seq (X_reg ?_)))
  refine X_r K (rd_field rfl fld24_0 K rfl) M ?_; clear K
  refine Y_r (fun _ K => rd_ldC rfl sc3 K rfl (inM 2 rfl) rfl) M ?_
  refine Y_r (fun _ K => rd_field rfl fld24_1 K rfl) M ?_
  refine Y_r (fun _ K => rd_ldC rfl sc3 K rfl (inM 2 rfl) rfl) M ?_
  refine Y_r (fun _ K => rd_build rfl K (vs := [(0, I d_W), (1, I d_H)]) (cs := [I d_W, I d_H, .slice none (([] : List (Int × Int × Int))).length 0]) rfl (by kernel_rfl)) M ?_; intro a K
  refine X_a K (ac_alloc rfl z24 M) ?_
  clear K M; rintro _ a w ⟨g_x4, rfl, M⟩ K
  refine X_b K (ac_storeA rfl ty24 K rfl (ds := [I d_W, I d_H, .slice none (([] : List (Int × Int × Int))).length 0]) rfl rfl 0 M rfl rfl rfl) ?_
  clear K M; rintro _ a w M K
  refine wpList_nil (then_n (wp_seq (wp_seq (X_reg ?_))))
  refine X_o K M ?_; clear K; intro a K
  refine wpList_nil (then_n (wp_block ?_))
  replace M := Mem.nilrow 34 3 cIII M
  refine X_lp (id := 0) (Rel := fun (⟨x_P, i⟩ : List (Int × Int × Int) × Int) a w => ∃ (A : Option Addr) (c : Nat), Kn a 69 [(2, .pointer (some ⟨g_x, 0, none⟩)), (3, .pointer (some ⟨g_x2, 0, none⟩)), (4, .pointer (some ⟨g_x3, 0, none⟩)), (5, .pointer (some ⟨g_x4, 0, none⟩)), (6, I i)] ∧ Mem w0.heap.size w0 w [.row 34 3 A x_P.length c (cIII.all x_P), .blk g_x4 24 [I d_W, I d_H, .slice A x_P.length c], .blk g_x3 24 [I 0, I 0, .slice none (([] : List (Int × Int × Int))).length 0], .blk g_x2 39 [I o0, I o1, I o2, I o3, I o4, I o5, I o6, I o7, I o8], .blk g_x 24 [I d_W, I d_H, .slice A_d_P d_P.length c_d_P]]) h (fun _ _ => rfl) ⟨none, 0, K.pick [2,3,4,5,6], M.pick [0,1,2,3,4] (by decide)⟩ ?_ ?_
  · clear K M h
    rintro ⟨x_P4, i5⟩ a w ⟨A4, c4, K, M⟩ h
    try dsimp only at h
    refine inb_e ?_
    refine then_n (wp_seq (X_reg ?_))
    refine X_r K (rd_ldA rfl ty24 K rfl (inM 1 rfl) rfl rfl) M ?_; clear K; intro a K
    refine X_b K (ac_storeA rfl ty24 K rfl (ds := [I d_W, I d_H, .slice A4 x_P4.length c4]) rfl rfl 2 M rfl rfl rfl) ?_
    clear K M; rintro _ a w M K
    refine wpList_nil (then_n (wp_ret ?_))
    cases h
    exact ret1 K rfl (res_cellA K rfl ty24 (M.blkAt (i := 2) rfl) rfl) ⟨_, rfl, _, _, rfl, ((M).pick [0] (by decide))⟩
  clear K M h
  rintro kk fuel ⟨x_P, i⟩ a w hk1 ⟨A, c, K, M⟩ h
  unfold D_darkslideref_Mixed_l1 at h
  refine wp_seq (wp_seq (X_reg ?_))
  refine X_o K M ?_; clear K
  refine Y_r (fun _ K => rd_field rfl fld24_2 K rfl) M ?_
  refine Y_r (fun _ K => rd_ldC rfl sc22 K rfl (inM 4 rfl) rfl) M ?_
  refine Y_r (fun _ K => rd_len rfl un22 K rfl) M ?_
  refine Y_o M ?_; intro a K
  refine wpList_nil (then_n ?_)
  refine X_cond K rfl (fun hb => ?_) (fun hb => ?_)
  · have h := ctrue hb h
    refine wp_skip (then_n (wp_seq (wp_block (wp_seq (X_reg ?_)))))
    refine X_r K (rd_field rfl fld24_2 K rfl) M ?_; clear K
    refine Y_r (fun _ K => rd_ldC rfl sc22 K rfl (inM 4 rfl) rfl) M ?_
    refine Y_o M ?_
    obtain ⟨e5, h_e5, h⟩ := obind h
    refine Y_r (fun _ K => rd_ix rfl sl22 K rfl rfl (inA R_d_P) h_e5) M ?_
    refine Y_r (fun _ K => rd_elA rfl ty34 K rfl rfl rfl (inA R_d_P) h_e5) M ?_; intro a K
    obtain ⟨r6, h_r6, h⟩ := obind h
    refine X_a K (ac_call (vs := [.agg #[I e5.1, I e5.2.1, I e5.2.2]]) (cap := []) rfl fok31 K rfl rfl (W_darkslideref_parts N e5.1 e5.2.1 e5.2.2 _  r6 h_r6)) ?_
    have M0 := M; clear K M; rintro _ a w ⟨rfl, M⟩ K
    replace M := M0.call M; clear M0
    refine X_a K (ac_alloc rfl z38 M) ?_
    clear K M; rintro _ a w ⟨g_x7, rfl, M⟩ K
    refine X_b K (ac_storeA rfl ty38 K rfl (ds := [I r6.1, I r6.2.1, I r6.2.2]) rfl rfl 0 M rfl rfl rfl) ?_
    clear K M; rintro _ a w M K
    refine wpList_nil (then_n (wp_seq (X_reg ?_)))
    refine X_a K (ac_alloc rfl z38 M) ?_
    clear K M; rintro _ a w ⟨g_x8, rfl, M⟩ K
    refine wpList_nil (then_n (wp_seq (wp_seq (X_reg ?_))))
    refine X_o K M ?_; clear K; intro a K
    refine wpList_nil (then_n (wp_block ?_))
    refine X_lp (id := 2) (Rel := fun (⟨x02, x12, x22, i3⟩ : Int × Int × Int × Int) a w => Kn a 69 [(2, .pointer (some ⟨g_x, 0, none⟩)), (3, .pointer (some ⟨g_x2, 0, none⟩)), (4, .pointer (some ⟨g_x3, 0, none⟩)), (5, .pointer (some ⟨g_x4, 0, none⟩)), (6, I i), (7, .pointer (some ⟨g_x7, 0, none⟩)), (8, .pointer (some ⟨g_x8, 0, none⟩)), (9, I i3)] ∧ Mem w0.heap.size w0 w [.blk g_x8 38 [I x02, I x12, I x22], .blk g_x7 38 [I r6.1, I r6.2.1, I r6.2.2], .row 34 3 A x_P.length c (cIII.all x_P), .blk g_x4 24 [I d_W, I d_H, .slice A x_P.length c], .blk g_x3 24 [I 0, I 0, .slice none (([] : List (Int × Int × Int))).length 0], .blk g_x2 39 [I o0, I o1, I o2, I o3, I o4, I o5, I o6, I o7, I o8], .blk g_x 24 [I d_W, I d_H, .slice A_d_P d_P.length c_d_P]]) h (fun _ _ => rfl) ⟨K.pick [2,3,4,5,6,7,8,9], M.pick [0,1,2,3,4,5,6] (by decide)⟩ ?_ ?_
    · clear K M h
      rintro ⟨x03, x14, x23, i4⟩ a w ⟨K, M⟩ h
      try dsimp only at h
      refine inb_e ?_
      refine then_n ?_
      refine wp_region_tl (fun w => Mem _ _ w _) [0,0,0,1,1,1,0,2] (by kernel_rfl) (by kernel_rfl) (M.pick [0,1,3,4,5,6] (by decide)).drew ?_
      replace M := M.drew
      refine T_r K (rd_field rfl fld24_2 K rfl) ?_; clear K
      refine U_r (fun _ K => rd_ldC rfl sc22 K rfl (inM 2 rfl) rfl) ?_
      refine U_r (fun _ K => rd_ldA rfl ty38 K rfl (inM 0 rfl) rfl rfl) ?_; intro a K
      obtain ⟨r11, h_r11, h⟩ := obind h
      refine T_a K (ac_call (vs := [.agg #[I x03, I x14, I x23]]) (cap := []) rfl fok34 K rfl rfl (W_darkslideref_pixel N x03 x14 x23 _  r11 h_r11)) ?_
      have M0 := M; clear K M; rintro _ a w ⟨rfl, M⟩ K
      replace M := M0.call M; clear M0
      refine ⟨M.pick [0,1,3,4,5,6] (by decide), ?_⟩
      refine T_a K (ac_bslice rfl sl22 z34 K (vs := [(0, .agg #[I r11.1, I r11.2.1, I r11.2.2])]) (cs := [I r11.1, I r11.2.1, I r11.2.2]) rfl (by kernel_rfl) rfl rfl M) ?_
      have M0 := M; clear K M; rintro _ a w ⟨gs2, rfl, M⟩ K
      replace M := M.asRow 0 rfl cIII ([(r11.1, r11.2.1, r11.2.2)] : List (Int × Int × Int)) (n := 1) rfl rfl rfl
      clear M0
      refine ⟨M.pick [1,2,4,5,6,7] (by decide), ?_⟩
      obtain ⟨x_P3, h_x_P3, h⟩ := obind h
      refine T_a K (ac_app (C := cIII) (xs := x_P) (ys := ([(r11.1, r11.2.1, r11.2.2)] : List (Int × Int × Int))) rfl sl22 rfl z34 rfl rfl K rfl rfl 3 M rfl ((inR (C := cIII) 0 rfl rfl) _ M) h_x_P3) ?_
      clear K M; rintro _ a w ⟨A3, c3, rfl, M⟩ K
      refine ⟨M.pick [1,2,4,5,6,7] (by decide), ?_⟩
      refine T_r K (rd_field rfl fld24_2 K rfl) ?_; clear K; intro a K
      refine T_b K (ac_storeC rfl sc22 K rfl rfl rfl 4 M rfl rfl) ?_
      clear K M; rintro _ a w M K
      refine T_end ?_
      refine inb_n (then_n (X_reg ?_))
      refine X_o K M ?_; clear K
      refine Y_o M ?_
      obtain ⟨x15, hx, h⟩ := olet h
      refine Y_r (fun _ K => rdi hx (rd_assign rfl K rfl)) M ?_; intro a K
      refine wpList_nil ?_
      exact then_n ⟨(x_P3, x15), ⟨A3, c3, K.pick [2,3,4,5,6], M.pick [3,4,5,6,7] (by decide)⟩, h⟩
    clear K M h
    rintro kk fuel ⟨x02, x12, x22, i3⟩ a w hk2 ⟨K, M⟩ h
    unfold D_darkslideref_Mixed_l2 at h
    refine wp_seq (wp_seq (X_reg ?_))
    refine X_o K M ?_; clear K
    refine Y_o M ?_; intro a K
    refine wpList_nil (then_n ?_)
    refine X_cond K rfl (fun hb => ?_) (fun hb => ?_)
    · have h := ctrue hb h
      refine wp_skip (then_n (wp_seq (wp_block ?_)))
      refine wp_region_tl (fun w => Mem _ _ w _) [0,0,0,0,0,0,0,0,0,0,0,0,0,0,0,0,0,0,0,0,0,0,0,0,0,0,1,1,0,2] (by kernel_rfl) (by kernel_rfl) M.drew ?_
      replace M := M.drew
      refine T_o K ?_; clear K
      iterate 2 (refine U_o ?_)
      intro a K
      obtain ⟨_, h0, h⟩ := obind h
      have h0 := inr_spec h0
      refine T_r K (rd_ixA rfl ar39 sz3 K rfl rfl h0.1 h0.2) ?_; clear K
      obtain ⟨e9, h_e9, h⟩ := obind h
      refine U_r (fun _ K => rd_ldIa rfl sc3 K rfl (inM 5 rfl) rfl rfl h_e9) ?_
      refine U_r (fun _ K => rd_ixA rfl ar38 sz3 K rfl rfl (by decide) (by decide)) ?_
      refine U_r (fun _ K => rd_ldC rfl sc3 K rfl (inM 1 rfl) rfl) ?_
      iterate 4 (refine U_o ?_)
      intro a K
      obtain ⟨_, h0, h⟩ := obind h
      have h0 := inr_spec h0
      refine T_r K (rd_ixA rfl ar39 sz3 K rfl rfl h0.1 h0.2) ?_; clear K
      obtain ⟨e10, h_e10, h⟩ := obind h
      refine U_r (fun _ K => rd_ldIa rfl sc3 K rfl (inM 5 rfl) rfl rfl h_e10) ?_
      refine U_r (fun _ K => rd_ixA rfl ar38 sz3 K rfl rfl (by decide) (by decide)) ?_
      refine U_r (fun _ K => rd_ldC rfl sc3 K rfl (inM 1 rfl) rfl) ?_
      iterate 5 (refine U_o ?_)
      intro a K
      obtain ⟨_, h0, h⟩ := obind h
      have h0 := inr_spec h0
      refine T_r K (rd_ixA rfl ar39 sz3 K rfl rfl h0.1 h0.2) ?_; clear K
      obtain ⟨e11, h_e11, h⟩ := obind h
      refine U_r (fun _ K => rd_ldIa rfl sc3 K rfl (inM 5 rfl) rfl rfl h_e11) ?_
      refine U_r (fun _ K => rd_ixA rfl ar38 sz3 K rfl rfl (by decide) (by decide)) ?_
      refine U_r (fun _ K => rd_ldC rfl sc3 K rfl (inM 1 rfl) rfl) ?_
      iterate 2 (refine U_o ?_)
      intro a K
      obtain ⟨r9, h_r9, h⟩ := obind h
      refine T_a K (ac_call (vs := [I (IntKind.i64.wrap ((IntKind.i64.wrap ((IntKind.i64.wrap (e9 * r6.1)) + (IntKind.i64.wrap (e10 * r6.2.1)))) + (IntKind.i64.wrap (e11 * r6.2.2)))), I 4096]) (cap := []) rfl fok33 K rfl rfl (W_darkslideref_down N (IntKind.i64.wrap ((IntKind.i64.wrap ((IntKind.i64.wrap (e9 * r6.1)) + (IntKind.i64.wrap (e10 * r6.2.1)))) + (IntKind.i64.wrap (e11 * r6.2.2)))) 4096 _  r9 h_r9)) ?_
      have M0 := M; clear K M; rintro _ a w ⟨rfl, M⟩ K
      replace M := M0.call M; clear M0
      refine ⟨M.pick [0,1,2,3,4,5,6] (by decide), ?_⟩
      obtain ⟨r10, h_r10, h⟩ := obind h
      refine T_a K (ac_call (vs := [I r9]) (cap := []) rfl fok32 K rfl rfl (W_darkslideref_clamp N r9 _  r10 h_r10)) ?_
      have M0 := M; clear K M; rintro _ a w ⟨rfl, M⟩ K
      replace M := M0.call M; clear M0
      refine ⟨M.pick [0,1,2,3,4,5,6] (by decide), ?_⟩
      rcases Bool.eq_false_or_eq_true (decide (i3 = 0)) with hb | hb
      · have h := ctrue hb h
        have hj3 : i3 = 0 := of_decide_eq_true hb
        refine T_r K (rdv (v := .pointer (some ⟨g_x8, 0, none⟩)) (by rw [hj3]; rfl) (rd_ixA rfl ar38 sz3 K rfl rfl (by rw [hj3]; decide) (by rw [hj3]; decide))) ?_; clear K; intro a K
        refine T_b K (ac_storeC rfl sc3 K rfl rfl rfl 0 M rfl rfl) ?_
        clear K M; rintro _ a w M K
        refine T_end ?_
        refine inb_n (then_n (X_reg ?_))
        refine X_o K M ?_; clear K
        refine Y_o M ?_
        obtain ⟨x10, hx, h⟩ := olet h
        refine Y_r (fun _ K => rdi hx (rd_assign rfl K rfl)) M ?_; intro a K
        refine wpList_nil ?_
        exact then_n ⟨(r10, x12, x22, x10), ⟨K.pick [2,3,4,5,6,7,8,9], M.pick [0,1,2,3,4,5,6] (by decide)⟩, h⟩
      have h := cfalse hb h
      rcases Bool.eq_false_or_eq_true (decide (i3 = 1)) with hb | hb
      · have h := ctrue hb h
        have hj3 : i3 = 1 := of_decide_eq_true hb
        refine T_r K (rdv (v := .pointer (some ⟨g_x8, 1, none⟩)) (by rw [hj3]; rfl) (rd_ixA rfl ar38 sz3 K rfl rfl (by rw [hj3]; decide) (by rw [hj3]; decide))) ?_; clear K; intro a K
        refine T_b K (ac_storeC rfl sc3 K rfl rfl rfl 0 M rfl rfl) ?_
        clear K M; rintro _ a w M K
        refine T_end ?_
        refine inb_n (then_n (X_reg ?_))
        refine X_o K M ?_; clear K
        refine Y_o M ?_
        obtain ⟨x11, hx, h⟩ := olet h
        refine Y_r (fun _ K => rdi hx (rd_assign rfl K rfl)) M ?_; intro a K
        refine wpList_nil ?_
        exact then_n ⟨(x02, r10, x22, x11), ⟨K.pick [2,3,4,5,6,7,8,9], M.pick [0,1,2,3,4,5,6] (by decide)⟩, h⟩
      have h := cfalse hb h
      rcases Bool.eq_false_or_eq_true (decide (i3 = 2)) with hb | hb
      · have h := ctrue hb h
        have hj3 : i3 = 2 := of_decide_eq_true hb
        refine T_r K (rdv (v := .pointer (some ⟨g_x8, 2, none⟩)) (by rw [hj3]; rfl) (rd_ixA rfl ar38 sz3 K rfl rfl (by rw [hj3]; decide) (by rw [hj3]; decide))) ?_; clear K; intro a K
        refine T_b K (ac_storeC rfl sc3 K rfl rfl rfl 0 M rfl rfl) ?_
        clear K M; rintro _ a w M K
        refine T_end ?_
        refine inb_n (then_n (X_reg ?_))
        refine X_o K M ?_; clear K
        refine Y_o M ?_
        obtain ⟨x13, hx, h⟩ := olet h
        refine Y_r (fun _ K => rdi hx (rd_assign rfl K rfl)) M ?_; intro a K
        refine wpList_nil ?_
        exact then_n ⟨(x02, x12, r10, x13), ⟨K.pick [2,3,4,5,6,7,8,9], M.pick [0,1,2,3,4,5,6] (by decide)⟩, h⟩
      have h := cfalse hb h
      cases h
    have h := cfalse hb h
    refine wp_exit ?_
    refine then_e ?_
    exact then_e (hk2 (x02, x12, x22, i3) _ _ ⟨K.pick [2,3,4,5,6,7,8,9], M.pick [0,1,2,3,4,5,6] (by decide)⟩ h)
  have h := cfalse hb h
  refine wp_exit ?_
  refine then_e ?_
  exact then_e (hk1 (x_P, i) _ _ ⟨A, c, K.pick [2,3,4,5,6], M.pick [0,1,2,3,4] (by decide)⟩ h)
end Go.Proofs.Ytpmnfhifmmfglab

namespace Go.Proofs.Ytpmnfhifmmfglab
open Go.RowKit
set_option maxRecDepth 100000 in
set_option maxHeartbeats 4000000 in
theorem W_darkslideref_isSpot (N : Nat) (l2 : List (Int × Int)) (A_l2 : Option Addr) (c_l2 : Nat) (x2 : Int) (y : Int) (w0 : World) (R_l2 : SL w0 cII A_l2 l2) (C_l2 : l2.length ≤ c_l2) (r : Bool) (h : D_darkslideref_isSpot N l2 x2 y = some r) :
    Calls Try.prog 63 #[.slice A_l2 l2.length c_l2, I x2, I y] w0 fun e w' => ∃ v, e = .returned v ∧ v = .bool r ∧ Mem w0.heap.size w0 w' [] := by
  refine X_enter Try.func63 rfl Try.ntmps63 rfl ?_
  intro a K
  have M := Mem.start w0
  have K : Kn a 30 [(0, .slice A_l2 l2.length c_l2), (1, I x2), (2, I y)] := K
  unfold D_darkslideref_isSpot at h
  refine wp_seq (X_reg ?_)
  refine X_o K M ?_; clear K; intro a K
  refine wpList_nil (then_n (wp_seq (wp_seq (X_reg ?_))))
  refine X_o K M ?_; clear K; intro a K
  refine wpList_nil (then_n (wp_block ?_))
  refine X_lp (id := 0) (Rel := fun (i : Int) a w => Kn a 30 [(0, .slice A_l2 l2.length c_l2), (1, I x2), (2, I y), (7, I i)] ∧ Mem w0.heap.size w0 w []) h (fun _ _ => rfl) ⟨K.pick [0,1,2,7], M.pick [] (by decide)⟩ ?_ ?_
  · clear K M h
    rintro i6 a w ⟨K, M⟩ h
    try dsimp only at h
    refine inb_e ?_
    refine then_n (wp_seq (X_reg ?_))
    refine X_o K M ?_; clear K; intro a K
    refine wpList_nil (then_n (wp_ret ?_))
    cases h
    exact ret1 K rfl (res_tmp K rfl) ⟨_, rfl, rfl, ((M).pick [] (by decide))⟩
  clear K M h
  rintro kk fuel i a w hk1 ⟨K, M⟩ h
  unfold D_darkslideref_isSpot_l1 at h
  refine wp_seq (wp_seq (X_reg ?_))
  refine X_o K M ?_; clear K
  refine Y_o M ?_
  refine Y_r (fun _ K => rd_len rfl un37 K rfl) M ?_
  refine Y_o M ?_; intro a K
  refine wpList_nil (then_n ?_)
  refine X_cond K rfl (fun hb => ?_) (fun hb => ?_)
  · have h := ctrue hb h
    refine wp_skip (then_n (wp_seq (wp_block (wp_seq (X_reg ?_)))))
    refine X_o K M ?_; clear K
    refine Y_o M ?_
    obtain ⟨e3, h_e3, h⟩ := obind h
    refine Y_r (fun _ K => rd_ix rfl sl37 K rfl rfl (inA R_l2) h_e3) M ?_
    refine Y_r (fun _ K => rd_field rfl fld106_0 K rfl) M ?_
    refine Y_r (fun _ K => rd_elF rfl sc3 K rfl rfl (inA R_l2) h_e3 rfl) M ?_
    iterate 3 (refine Y_o M ?_)
    intro a K
    rcases Bool.eq_false_or_eq_true (decide (e3.1 = x2)) with hb | hb
    · have h := ctrue hb h
      have K := K.reb (s := 21) rfl hb
      refine X_o K M ?_; clear K
      refine Y_o M ?_
      obtain ⟨e4, h_e4, h⟩ := obind h
      refine Y_r (fun _ K => rd_ix rfl sl37 K rfl rfl (inA R_l2) h_e4) M ?_
      refine Y_r (fun _ K => rd_field rfl fld106_1 K rfl) M ?_
      refine Y_r (fun _ K => rd_elF rfl sc3 K rfl rfl (inA R_l2) h_e4 rfl) M ?_
      iterate 3 (refine Y_o M ?_)
      intro a K
      refine wpList_nil (then_n ?_)
      refine X_cond K rfl (fun hb => ?_) (fun hb => ?_)
      · have h := ctrue hb h
        refine wp_seq (X_reg ?_)
        refine X_o K M ?_; clear K; intro a K
        refine wpList_nil (then_n (wp_ret (inb_r (then_r (then_r (inb_r (then_r ?_)))))))
        cases h
        exact ret1 K rfl (res_tmp K rfl) ⟨_, rfl, rfl, ((M).pick [] (by decide))⟩
      have h := cfalse hb h
      refine wp_skip (inb_n (then_n (X_reg ?_)))
      refine X_o K M ?_; clear K
      refine Y_o M ?_
      obtain ⟨i4, hx, h⟩ := olet h
      refine Y_r (fun _ K => rdi hx (rd_assign rfl K rfl)) M ?_; intro a K
      refine wpList_nil ?_
      exact then_n ⟨i4, ⟨K.pick [0,1,2,7], M.pick [] (by decide)⟩, h⟩
    have h := cfalse hb h
    have K := K.reb (s := 21) rfl hb
    refine X_o K M ?_; clear K
    iterate 7 (refine Y_o M ?_)
    intro a K
    refine wpList_nil (then_n ?_)
    refine X_condF K rfl ?_
    refine wp_skip (inb_n (then_n (X_reg ?_)))
    refine X_o K M ?_; clear K
    refine Y_o M ?_
    obtain ⟨i5, hx, h⟩ := olet h
    refine Y_r (fun _ K => rdi hx (rd_assign rfl K rfl)) M ?_; intro a K
    refine wpList_nil ?_
    exact then_n ⟨i5, ⟨K.pick [0,1,2,7], M.pick [] (by decide)⟩, h⟩
  have h := cfalse hb h
  refine wp_exit ?_
  refine then_e ?_
  exact then_e (hk1 i _ _ ⟨K.pick [0,1,2,7], M.pick [] (by decide)⟩ h)
end Go.Proofs.Ytpmnfhifmmfglab

namespace Go.Proofs.Ytpmnfhifmmfglab
open Go.RowKit
set_option maxRecDepth 100000 in
set_option maxHeartbeats 4000000 in
theorem W_darkslideref_Repaired (N : Nat) (d_W : Int) (d_H : Int) (d_P : List Int) (A_d_P : Option Addr) (c_d_P : Nat) (o : List (Int × Int)) (A_o : Option Addr) (c_o : Nat) (w0 : World) (R_d_P : SL w0 (cI .i64) A_d_P d_P) (C_d_P : d_P.length ≤ c_d_P) (R_o : SL w0 cII A_o o) (C_o : o.length ≤ c_o) (r : Int × Int × List Int) (h : D_darkslideref_Repaired N d_W d_H d_P o = some r) :
    Calls Try.prog 42 #[.agg #[I d_W, I d_H, .slice A_d_P d_P.length c_d_P], .slice A_o o.length c_o] w0 fun e w' => ∃ v, e = .returned v ∧ ∃ A2 c2, v = .agg #[I r.1, I r.2.1, .slice A2 r.2.2.length c2] ∧ Mem w0.heap.size w0 w' [.row 3 1 A2 r.2.2.length c2 ((cI .i64).all r.2.2)] := by
  refine X_enter Try.func42 rfl Try.ntmps42 rfl ?_
  intro a K
  have M := Mem.start w0
  have K : Kn a 132 [(0, .agg #[I d_W, I d_H, .slice A_d_P d_P.length c_d_P]), (1, .slice A_o o.length c_o)] := K
  unfold D_darkslideref_Repaired at h
  refine wp_seq (X_reg ?_)
  refine X_a K (ac_box rfl K rfl (cs := [I d_W, I d_H, .slice A_d_P d_P.length c_d_P]) rfl M) ?_
  clear K M; rintro _ a w ⟨g_x, rfl, M⟩ K
  refine X_a K (ac_alloc rfl z45 M) ?_
  clear K M; rintro _ a w ⟨g_x2, rfl, M⟩ K
  refine wpList_nil (then_n (wp_seq (X_reg ?_)))
  refine X_r K (rd_field rfl fld45_0 K rfl) M ?_; clear K
  refine Y_r (fun _ K => rd_ldC rfl sc3 K rfl (inM 1 rfl) rfl) M ?_
  refine Y_r (fun _ K => rd_field rfl fld45_1 K rfl) M ?_
  refine Y_r (fun _ K => rd_ldC rfl sc3 K rfl (inM 1 rfl) rfl) M ?_
  refine Y_r (fun _ K => rd_build rfl K (vs := [(0, I d_W), (1, I d_H)]) (cs := [I d_W, I d_H, .slice none ([] : List Int).length 0]) rfl (by kernel_rfl)) M ?_; intro a K
  refine X_a K (ac_alloc rfl z45 M) ?_
  clear K M; rintro _ a w ⟨g_x3, rfl, M⟩ K
  refine X_b K (ac_storeA rfl ty45 K rfl (ds := [I d_W, I d_H, .slice none ([] : List Int).length 0]) rfl rfl 0 M rfl rfl rfl) ?_
  clear K M; rintro _ a w M K
  refine wpList_nil (then_n (wp_seq (wp_seq (X_reg ?_))))
  refine X_o K M ?_; clear K; intro a K
  refine wpList_nil (then_n (wp_block ?_))
  replace M := Mem.nilrow 3 1 (cI .i64) M
  refine X_lp (id := 0) (Rel := fun (⟨x_P, i⟩ : List Int × Int) a w => ∃ (A : Option Addr) (c : Nat), Kn a 132 [(1, .slice A_o o.length c_o), (2, .pointer (some ⟨g_x, 0, none⟩)), (4, .pointer (some ⟨g_x2, 0, none⟩)), (5, .pointer (some ⟨g_x3, 0, none⟩)), (6, I i)] ∧ Mem w0.heap.size w0 w [.row 3 1 A x_P.length c ((cI .i64).all x_P), .blk g_x3 45 [I d_W, I d_H, .slice A x_P.length c], .blk g_x2 45 [I 0, I 0, .slice none ([] : List Int).length 0], .blk g_x 45 [I d_W, I d_H, .slice A_d_P d_P.length c_d_P]]) h (fun _ _ => rfl) ⟨none, 0, K.pick [1,2,4,5,6], M.pick [0,1,2,3] (by decide)⟩ ?_ ?_
  · clear K M h
    rintro ⟨x_P11, i72⟩ a w ⟨A11, c11, K, M⟩ h
    try dsimp only at h
    refine inb_e ?_
    refine then_n (wp_seq (X_reg ?_))
    refine X_r K (rd_ldA rfl ty45 K rfl (inM 1 rfl) rfl rfl) M ?_; clear K; intro a K
    refine X_b K (ac_storeA rfl ty45 K rfl (ds := [I d_W, I d_H, .slice A11 x_P11.length c11]) rfl rfl 2 M rfl rfl rfl) ?_
    clear K M; rintro _ a w M K
    refine wpList_nil (then_n (wp_ret ?_))
    cases h
    exact ret1 K rfl (res_cellA K rfl ty45 (M.blkAt (i := 2) rfl) rfl) ⟨_, rfl, _, _, rfl, ((M).pick [0] (by decide))⟩
  clear K M h
  rintro kk fuel ⟨x_P, i⟩ a w hk1 ⟨A, c, K, M⟩ h
  unfold D_darkslideref_Repaired_l1 at h
  refine wp_seq (wp_seq (X_reg ?_))
  refine X_o K M ?_; clear K
  refine Y_r (fun _ K => rd_field rfl fld45_1 K rfl) M ?_
  refine Y_r (fun _ K => rd_ldC rfl sc3 K rfl (inM 3 rfl) rfl) M ?_
  refine Y_o M ?_; intro a K
  refine wpList_nil (then_n ?_)
  refine X_cond K rfl (fun hb => ?_) (fun hb => ?_)
  · have h := ctrue hb h
    refine wp_skip (then_n (wp_seq (wp_block (wp_seq (X_reg ?_)))))
    refine X_o K M ?_; clear K; intro a K
    refine wpList_nil (then_n (wp_block ?_))
    refine X_lp (id := 2) (Rel := fun (⟨x_P5, i17⟩ : List Int × Int) a w => ∃ (A5 : Option Addr) (c5 : Nat), Kn a 132 [(1, .slice A_o o.length c_o), (2, .pointer (some ⟨g_x, 0, none⟩)), (4, .pointer (some ⟨g_x2, 0, none⟩)), (5, .pointer (some ⟨g_x3, 0, none⟩)), (6, I i), (7, I i17)] ∧ Mem w0.heap.size w0 w [.row 3 1 A5 x_P5.length c5 ((cI .i64).all x_P5), .blk g_x3 45 [I d_W, I d_H, .slice A5 x_P5.length c5], .blk g_x2 45 [I 0, I 0, .slice none ([] : List Int).length 0], .blk g_x 45 [I d_W, I d_H, .slice A_d_P d_P.length c_d_P]]) h (fun _ _ => rfl) ⟨A, c, K.pick [1,2,4,5,6,7], M.pick [0,1,2,3] (by decide)⟩ ?_ ?_
    · clear K M h
      rintro ⟨x_P10, i71⟩ a w ⟨A10, c10, K, M⟩ h
      try dsimp only at h
      refine inb_e ?_
      refine inb_n (then_n (X_reg ?_))
      refine X_o K M ?_; clear K
      refine Y_o M ?_
      obtain ⟨x27, hx, h⟩ := olet h
      refine Y_r (fun _ K => rdi hx (rd_assign rfl K rfl)) M ?_; intro a K
      refine wpList_nil ?_
      exact then_n ⟨(x_P10, x27), ⟨A10, c10, K.pick [1,2,4,5,6], M.pick [0,1,2,3] (by decide)⟩, h⟩
    clear K M h
    rintro kk fuel ⟨x_P5, i17⟩ a w hk2 ⟨A5, c5, K, M⟩ h
    unfold D_darkslideref_Repaired_l2 at h
    refine wp_seq (wp_seq (X_reg ?_))
    refine X_o K M ?_; clear K
    refine Y_r (fun _ K => rd_field rfl fld45_0 K rfl) M ?_
    refine Y_r (fun _ K => rd_ldC rfl sc3 K rfl (inM 3 rfl) rfl) M ?_
    refine Y_o M ?_; intro a K
    refine wpList_nil (then_n ?_)
    refine X_cond K rfl (fun hb => ?_) (fun hb => ?_)
    · have h := ctrue hb h
      refine wp_skip (then_n (wp_seq (wp_block (wp_seq (wp_seq (X_reg ?_))))))
      refine X_o K M ?_; clear K
      iterate 2 (refine Y_o M ?_)
      intro a K
      obtain ⟨r6, h_r6, h⟩ := obind h
      refine X_a K (ac_call (vs := [.slice A_o o.length c_o, I i17, I i]) (cap := []) rfl fok63 K rfl rfl (W_darkslideref_isSpot N o A_o c_o i17 i _ ((inA R_o) _ M) C_o r6 h_r6)) ?_
      have M0 := M; clear K M; rintro _ a w ⟨rfl, M⟩ K
      replace M := M0.call M; clear M0
      refine X_o K M ?_; clear K; intro a K
      refine wpList_nil (then_n ?_)
      refine X_cond K rfl (fun hb => ?_) (fun hb => ?_)
      · have h := ctrue hb h
        refine wp_seq ?_
        refine wp_region_tl (fun w => Mem _ _ w _) [0,0,0,0,0,1,1,1,0,2] (by kernel_rfl) (by kernel_rfl) (M.pick [1,2,3] (by decide)).drew ?_
        replace M := M.drew
        refine T_r K (rd_field rfl fld45_2 K rfl) ?_; clear K
        refine U_r (fun _ K => rd_ldC rfl sc43 K rfl (inM 0 rfl) rfl) ?_
        refine U_r (fun _ K => rd_ldA rfl ty45 K rfl (inM 2 rfl) rfl rfl) ?_
        iterate 2 (refine U_o ?_)
        intro a K
        obtain ⟨r7, h_r7, h⟩ := obind h
        refine T_a K (ac_call (vs := [.agg #[I d_W, I d_H, .slice A_d_P d_P.length c_d_P], I i17, I i]) (cap := []) rfl fok64 K rfl rfl (W_darkslideref_At N d_W d_H d_P A_d_P c_d_P i17 i _ ((inA R_d_P) _ M) C_d_P r7 h_r7)) ?_
        have M0 := M; clear K M; rintro _ a w ⟨rfl, M⟩ K
        replace M := M0.call M; clear M0
        refine ⟨M.pick [1,2,3] (by decide), ?_⟩
        refine T_a K (ac_bslice rfl sl43 z3 K (vs := [(0, I r7)]) (cs := [I r7]) rfl (by kernel_rfl) rfl rfl M) ?_
        have M0 := M; clear K M; rintro _ a w ⟨gs5, rfl, M⟩ K
        replace M := M.asRow 0 rfl (cI .i64) ([r7] : List Int) (n := 1) rfl rfl rfl
        clear M0
        refine ⟨M.pick [2,3,4] (by decide), ?_⟩
        obtain ⟨x_P8, h_x_P8, h⟩ := obind h
        refine T_a K (ac_app (C := (cI .i64)) (xs := x_P5) (ys := ([r7] : List Int)) rfl sl43 rfl z3 rfl rfl K rfl rfl 1 M rfl ((inR (C := (cI .i64)) 0 rfl rfl) _ M) h_x_P8) ?_
        clear K M; rintro _ a w ⟨A8, c8, rfl, M⟩ K
        refine ⟨M.pick [2,3,4] (by decide), ?_⟩
        refine T_r K (rd_field rfl fld45_2 K rfl) ?_; clear K; intro a K
        refine T_b K (ac_storeC rfl sc43 K rfl rfl rfl 2 M rfl rfl) ?_
        clear K M; rintro _ a w M K
        refine T_end ?_
        refine then_n ?_
        refine wp_exit ?_
        refine then_e ?_
        refine inb_e ?_
        refine then_n (X_reg ?_)
        refine X_o K M ?_; clear K
        refine Y_o M ?_
        obtain ⟨x15, hx, h⟩ := olet h
        refine Y_r (fun _ K => rdi hx (rd_assign rfl K rfl)) M ?_; intro a K
        refine wpList_nil ?_
        exact then_n ⟨(x_P8, x15), ⟨A8, c8, K.pick [1,2,4,5,6,7], M.pick [1,2,3,4] (by decide)⟩, h⟩
      have h := cfalse hb h
      refine wp_skip (then_n (wp_seq (X_reg ?_)))
      refine X_o K M ?_; clear K
      refine Y_o M ?_; intro a K
      refine wpList_nil (then_n (wp_seq (wp_seq (X_reg ?_))))
      refine X_o K M ?_; clear K
      refine Y_o M ?_
      obtain ⟨x16, hx, h⟩ := olet h
      refine Y_r (fun _ K => rdi hx (rd_assign rfl K rfl)) M ?_; intro a K
      refine wpList_nil (then_n (wp_block ?_))
      refine X_lp (id := 4) (Rel := fun (⟨i32, i33, i34⟩ : Int × Int × Int) a w => Kn a 132 [(1, .slice A_o o.length c_o), (2, .pointer (some ⟨g_x, 0, none⟩)), (4, .pointer (some ⟨g_x2, 0, none⟩)), (5, .pointer (some ⟨g_x3, 0, none⟩)), (6, I i), (7, I i17), (8, I i32), (9, I i33), (10, I i34)] ∧ Mem w0.heap.size w0 w [.row 3 1 A5 x_P5.length c5 ((cI .i64).all x_P5), .blk g_x3 45 [I d_W, I d_H, .slice A5 x_P5.length c5], .blk g_x2 45 [I 0, I 0, .slice none ([] : List Int).length 0], .blk g_x 45 [I d_W, I d_H, .slice A_d_P d_P.length c_d_P]]) h (fun _ _ => rfl) ⟨K.pick [1,2,4,5,6,7,8,9,10], M.pick [0,1,2,3] (by decide)⟩ ?_ ?_
      · clear K M h
        rintro ⟨i68, i69, i70⟩ a w ⟨K, M⟩ h
        try dsimp only at h
        refine inb_e ?_
        refine then_n ?_
        refine wp_region_tl (fun w => Mem _ _ w _) [0,0,0,0,0,0,1,1,0,2] (by kernel_rfl) (by kernel_rfl) (M.pick [1,2,3] (by decide)).drew ?_
        replace M := M.drew
        refine T_r K (rd_field rfl fld45_2 K rfl) ?_; clear K
        refine U_r (fun _ K => rd_ldC rfl sc43 K rfl (inM 0 rfl) rfl) ?_
        iterate 3 (refine U_o ?_)
        intro a K
        obtain ⟨_, h0, h⟩ := obind h
        have h0 := nz_spec h0
        refine T_r K (rd_quo rfl K rfl rfl h0) ?_; clear K; intro a K
        refine T_a K (ac_bslice rfl sl43 z3 K (vs := [(0, I (IntKind.i64.wrap (Int.tdiv i68 (max i69 1))))]) (cs := [I (IntKind.i64.wrap (Int.tdiv i68 (max i69 1)))]) rfl (by kernel_rfl) rfl rfl M) ?_
        have M0 := M; clear K M; rintro _ a w ⟨gs6, rfl, M⟩ K
        replace M := M.asRow 0 rfl (cI .i64) ([IntKind.i64.wrap (Int.tdiv i68 (max i69 1))] : List Int) (n := 1) rfl rfl rfl
        clear M0
        refine ⟨M.pick [2,3,4] (by decide), ?_⟩
        obtain ⟨x_P9, h_x_P9, h⟩ := obind h
        refine T_a K (ac_app (C := (cI .i64)) (xs := x_P5) (ys := ([IntKind.i64.wrap (Int.tdiv i68 (max i69 1))] : List Int)) rfl sl43 rfl z3 rfl rfl K rfl rfl 1 M rfl ((inR (C := (cI .i64)) 0 rfl rfl) _ M) h_x_P9) ?_
        clear K M; rintro _ a w ⟨A9, c9, rfl, M⟩ K
        refine ⟨M.pick [2,3,4] (by decide), ?_⟩
        refine T_r K (rd_field rfl fld45_2 K rfl) ?_; clear K; intro a K
        refine T_b K (ac_storeC rfl sc43 K rfl rfl rfl 2 M rfl rfl) ?_
        clear K M; rintro _ a w M K
        refine T_end ?_
        refine inb_n (then_n (X_reg ?_))
        refine X_o K M ?_; clear K
        refine Y_o M ?_
        obtain ⟨x26, hx, h⟩ := olet h
        refine Y_r (fun _ K => rdi hx (rd_assign rfl K rfl)) M ?_; intro a K
        refine wpList_nil ?_
        exact then_n ⟨(x_P9, x26), ⟨A9, c9, K.pick [1,2,4,5,6,7], M.pick [1,2,3,4] (by decide)⟩, h⟩
      clear K M h
      rintro kk fuel ⟨i32, i33, i34⟩ a w hk3 ⟨K, M⟩ h
      unfold D_darkslideref_Repaired_l3 at h
      refine wp_seq (wp_seq (X_reg ?_))
      refine X_o K M ?_; clear K
      iterate 3 (refine Y_o M ?_)
      intro a K
      refine wpList_nil (then_n ?_)
      refine X_cond K rfl (fun hb => ?_) (fun hb => ?_)
      · have h := ctrue hb h
        refine wp_skip (then_n (wp_seq (wp_block (wp_seq (X_reg ?_)))))
        refine X_o K M ?_; clear K
        refine Y_o M ?_
        obtain ⟨x20, hx, h⟩ := olet h
        refine Y_r (fun _ K => rdi hx (rd_assign rfl K rfl)) M ?_; intro a K
        refine wpList_nil (then_n (wp_block ?_))
        refine X_lp (id := 6) (Rel := fun (⟨i46, i47, i48⟩ : Int × Int × Int) a w => Kn a 132 [(1, .slice A_o o.length c_o), (2, .pointer (some ⟨g_x, 0, none⟩)), (4, .pointer (some ⟨g_x2, 0, none⟩)), (5, .pointer (some ⟨g_x3, 0, none⟩)), (6, I i), (7, I i17), (8, I i46), (9, I i47), (10, I i34), (11, I i48)] ∧ Mem w0.heap.size w0 w [.row 3 1 A5 x_P5.length c5 ((cI .i64).all x_P5), .blk g_x3 45 [I d_W, I d_H, .slice A5 x_P5.length c5], .blk g_x2 45 [I 0, I 0, .slice none ([] : List Int).length 0], .blk g_x 45 [I d_W, I d_H, .slice A_d_P d_P.length c_d_P]]) h (fun _ _ => rfl) ⟨K.pick [1,2,4,5,6,7,8,9,10,11], M.pick [0,1,2,3] (by decide)⟩ ?_ ?_
        · clear K M h
          rintro ⟨i65, i66, i67⟩ a w ⟨K, M⟩ h
          try dsimp only at h
          refine inb_e ?_
          refine inb_n (then_n (X_reg ?_))
          refine X_o K M ?_; clear K
          refine Y_o M ?_
          obtain ⟨x25, hx, h⟩ := olet h
          refine Y_r (fun _ K => rdi hx (rd_assign rfl K rfl)) M ?_; intro a K
          refine wpList_nil ?_
          exact then_n ⟨(i65, i66, x25), ⟨K.pick [1,2,4,5,6,7,8,9,10], M.pick [0,1,2,3] (by decide)⟩, h⟩
        clear K M h
        rintro kk fuel ⟨i46, i47, i48⟩ a w hk4 ⟨K, M⟩ h
        unfold D_darkslideref_Repaired_l4 at h
        refine wp_seq (wp_seq (X_reg ?_))
        refine X_o K M ?_; clear K
        iterate 3 (refine Y_o M ?_)
        intro a K
        refine wpList_nil (then_n ?_)
        refine X_cond K rfl (fun hb => ?_) (fun hb => ?_)
        · have h := ctrue hb h
          refine wp_skip (then_n (wp_seq (wp_block (wp_seq ?_))))
          refine X_join (Rel := fun (i57 : Bool) a w => Kn a 132 [(1, .slice A_o o.length c_o), (2, .pointer (some ⟨g_x, 0, none⟩)), (4, .pointer (some ⟨g_x2, 0, none⟩)), (5, .pointer (some ⟨g_x3, 0, none⟩)), (6, I i), (7, I i17), (8, I i46), (9, I i47), (10, I i34), (11, I i48), (12, .bool i57)] ∧ Mem w0.heap.size w0 w [.row 3 1 A5 x_P5.length c5 ((cI .i64).all x_P5), .blk g_x3 45 [I d_W, I d_H, .slice A5 x_P5.length c5], .blk g_x2 45 [I 0, I 0, .slice none ([] : List Int).length 0], .blk g_x 45 [I d_W, I d_H, .slice A_d_P d_P.length c_d_P]]) h ?_ ?_
          · clear K M h
            rintro i58 a w ⟨K, M⟩ h
            try dsimp only at h
            refine then_n (wp_seq ?_)
            refine X_join (Rel := fun (i59 : Bool) a w => Kn a 132 [(1, .slice A_o o.length c_o), (2, .pointer (some ⟨g_x, 0, none⟩)), (4, .pointer (some ⟨g_x2, 0, none⟩)), (5, .pointer (some ⟨g_x3, 0, none⟩)), (6, I i), (7, I i17), (8, I i46), (9, I i47), (10, I i34), (11, I i48), (113, .bool i59)] ∧ Mem w0.heap.size w0 w [.row 3 1 A5 x_P5.length c5 ((cI .i64).all x_P5), .blk g_x3 45 [I d_W, I d_H, .slice A5 x_P5.length c5], .blk g_x2 45 [I 0, I 0, .slice none ([] : List Int).length 0], .blk g_x 45 [I d_W, I d_H, .slice A_d_P d_P.length c_d_P]]) h ?_ ?_
            · clear K M h
              rintro i60 a w ⟨K, M⟩ h
              try dsimp only at h
              refine then_n ?_
              refine X_join (Rel := fun (⟨i61, i62⟩ : Int × Int) a w => Kn a 132 [(1, .slice A_o o.length c_o), (2, .pointer (some ⟨g_x, 0, none⟩)), (4, .pointer (some ⟨g_x2, 0, none⟩)), (5, .pointer (some ⟨g_x3, 0, none⟩)), (6, I i), (7, I i17), (8, I i61), (9, I i62), (10, I i34), (11, I i48)] ∧ Mem w0.heap.size w0 w [.row 3 1 A5 x_P5.length c5 ((cI .i64).all x_P5), .blk g_x3 45 [I d_W, I d_H, .slice A5 x_P5.length c5], .blk g_x2 45 [I 0, I 0, .slice none ([] : List Int).length 0], .blk g_x 45 [I d_W, I d_H, .slice A_d_P d_P.length c_d_P]]) h ?_ ?_
              · clear K M h
                rintro ⟨i63, i64⟩ a w ⟨K, M⟩ h
                try dsimp only at h
                refine inb_n (then_n (X_reg ?_))
                refine X_o K M ?_; clear K
                refine Y_o M ?_
                obtain ⟨x24, hx, h⟩ := olet h
                refine Y_r (fun _ K => rdi hx (rd_assign rfl K rfl)) M ?_; intro a K
                refine wpList_nil ?_
                exact then_n ⟨(i63, i64, x24), ⟨K.pick [1,2,4,5,6,7,8,9,10,11], M.pick [0,1,2,3] (by decide)⟩, h⟩
              clear h; rintro kk_darkslideref_Repaired_j3 hj3 h
              unfold D_darkslideref_Repaired_j3 at h
              refine X_cond K rfl (fun hb => ?_) (fun hb => ?_)
              · have h := ctrue hb h
                refine wp_seq (X_reg ?_)
                refine X_o K M ?_; clear K
                refine Y_r (fun _ K => rd_ldA rfl ty45 K rfl (inM 3 rfl) rfl rfl) M ?_
                iterate 2 (refine Y_o M ?_)
                intro a K
                obtain ⟨r11, h_r11, h⟩ := obind h
                refine X_a K (ac_call (vs := [.agg #[I d_W, I d_H, .slice A_d_P d_P.length c_d_P], I i48, I i34]) (cap := []) rfl fok64 K rfl rfl (W_darkslideref_At N d_W d_H d_P A_d_P c_d_P i48 i34 _ ((inA R_d_P) _ M) C_d_P r11 h_r11)) ?_
                have M0 := M; clear K M; rintro _ a w ⟨rfl, M⟩ K
                replace M := M0.call M; clear M0
                refine X_o K M ?_; clear K
                obtain ⟨x22, hx, h⟩ := olet h
                refine Y_r (fun _ K => rdi hx (rd_assign rfl K rfl)) M ?_; intro a K
                refine wpList_nil (then_n (X_reg ?_))
                refine X_o K M ?_; clear K
                refine Y_o M ?_
                obtain ⟨x23, hx, h⟩ := olet h
                refine Y_r (fun _ K => rdi hx (rd_assign rfl K rfl)) M ?_; intro a K
                refine wpList_nil ?_
                exact hj3 (x22, x23) _ _ ⟨K.pick [1,2,4,5,6,7,8,9,10,11], M.pick [0,1,2,3] (by decide)⟩ h
              have h := cfalse hb h
              refine wp_skip ?_
              exact hj3 (i46, i47) _ _ ⟨K.pick [1,2,4,5,6,7,8,9,10,11], M.pick [0,1,2,3] (by decide)⟩ h
            clear h; rintro kk_darkslideref_Repaired_j2 hj2 h
            unfold D_darkslideref_Repaired_j2 at h
            refine X_reg ?_
            refine X_o K M ?_; clear K
            refine Y_o M ?_; intro a K
            rcases Bool.eq_false_or_eq_true (i58) with hb | hb
            · have h := ctrue hb h
              have K := K.reb (s := 93) rfl hb
              refine X_o K M ?_; clear K
              refine Y_r (fun _ K => rd_field rfl fld45_0 K rfl) M ?_
              refine Y_r (fun _ K => rd_ldC rfl sc3 K rfl (inM 3 rfl) rfl) M ?_
              refine Y_o M ?_; intro a K
              obtain ⟨r8, h_r8, h⟩ := obind h
              refine X_a K (ac_call (vs := [I i48, I 0, I (IntKind.i64.wrap (d_W - 1))]) (cap := []) rfl fok30 K rfl rfl (W_darkslideref_within N i48 0 (IntKind.i64.wrap (d_W - 1)) _  r8 h_r8)) ?_
              have M0 := M; clear K M; rintro _ a w ⟨rfl, M⟩ K
              replace M := M0.call M; clear M0
              refine X_o K M ?_; clear K
              refine Y_o M ?_; intro a K
              rcases Bool.eq_false_or_eq_true (r8) with hb | hb
              · have h := ctrue hb h
                have K := K.reb (s := 100) rfl hb
                refine X_o K M ?_; clear K
                refine Y_r (fun _ K => rd_field rfl fld45_1 K rfl) M ?_
                refine Y_r (fun _ K => rd_ldC rfl sc3 K rfl (inM 3 rfl) rfl) M ?_
                refine Y_o M ?_; intro a K
                obtain ⟨r9, h_r9, h⟩ := obind h
                refine X_a K (ac_call (vs := [I i34, I 0, I (IntKind.i64.wrap (d_H - 1))]) (cap := []) rfl fok30 K rfl rfl (W_darkslideref_within N i34 0 (IntKind.i64.wrap (d_H - 1)) _  r9 h_r9)) ?_
                have M0 := M; clear K M; rintro _ a w ⟨rfl, M⟩ K
                replace M := M0.call M; clear M0
                refine X_o K M ?_; clear K
                refine Y_o M ?_; intro a K
                rcases Bool.eq_false_or_eq_true (r9) with hb | hb
                · have h := ctrue hb h
                  have K := K.reb (s := 107) rfl hb
                  refine X_o K M ?_; clear K
                  iterate 2 (refine Y_o M ?_)
                  intro a K
                  obtain ⟨r10, h_r10, h⟩ := obind h
                  refine X_a K (ac_call (vs := [.slice A_o o.length c_o, I i48, I i34]) (cap := []) rfl fok63 K rfl rfl (W_darkslideref_isSpot N o A_o c_o i48 i34 _ ((inA R_o) _ M) C_o r10 h_r10)) ?_
                  have M0 := M; clear K M; rintro _ a w ⟨rfl, M⟩ K
                  replace M := M0.call M; clear M0
                  refine X_o K M ?_; clear K
                  refine Y_o M ?_; intro a K
                  refine wpList_nil ?_
                  exact hj2 (!(r10)) _ _ ⟨K.pick [1,2,4,5,6,7,8,9,10,11,113], M.pick [0,1,2,3] (by decide)⟩ h
                have h := cfalse hb h
                have K := K.reb (s := 107) rfl hb
                refine X_o K M ?_; clear K
                iterate 5 (refine Y_o M ?_)
                intro a K
                refine wpList_nil ?_
                exact hj2 false _ _ ⟨K.pick [1,2,4,5,6,7,8,9,10,11,113], M.pick [0,1,2,3] (by decide)⟩ h
              have h := cfalse hb h
              have K := K.reb (s := 100) rfl hb
              refine X_o K M ?_; clear K
              iterate 12 (refine Y_o M ?_)
              intro a K
              refine wpList_nil ?_
              exact hj2 false _ _ ⟨K.pick [1,2,4,5,6,7,8,9,10,11,113], M.pick [0,1,2,3] (by decide)⟩ h
            have h := cfalse hb h
            have K := K.reb (s := 93) rfl hb
            refine X_o K M ?_; clear K
            iterate 19 (refine Y_o M ?_)
            intro a K
            refine wpList_nil ?_
            exact hj2 false _ _ ⟨K.pick [1,2,4,5,6,7,8,9,10,11,113], M.pick [0,1,2,3] (by decide)⟩ h
          clear h; rintro kk_darkslideref_Repaired_j1 hj1 h
          unfold D_darkslideref_Repaired_j1 at h
          refine X_reg ?_
          refine X_o K M ?_; clear K
          iterate 3 (refine Y_o M ?_)
          intro a K
          rcases Bool.eq_false_or_eq_true (decide (i48 = i17)) with hb | hb
          · have h := ctrue hb h
            have K := K.reb (s := 63) rfl hb
            refine X_o K M ?_; clear K
            iterate 4 (refine Y_o M ?_)
            intro a K
            rcases Bool.eq_false_or_eq_true (decide (i34 = (IntKind.i64.wrap (i - 2)))) with hb | hb
            · have h := ctrue hb h
              have K := K.reb (s := 68) rfl hb
              refine X_o K M ?_; clear K
              iterate 23 (refine Y_o M ?_)
              intro a K
              refine wpList_nil ?_
              exact hj1 true _ _ ⟨K.pick [1,2,4,5,6,7,8,9,10,11,12], M.pick [0,1,2,3] (by decide)⟩ h
            have h := cfalse hb h
            have K := K.reb (s := 68) rfl hb
            refine X_o K M ?_; clear K
            iterate 6 (refine Y_o M ?_)
            intro a K
            rcases Bool.eq_false_or_eq_true (decide (i34 = (IntKind.i64.wrap (i + 2)))) with hb | hb
            · have h := ctrue hb h
              have K := K.reb (s := 75) rfl hb
              refine X_o K M ?_; clear K
              iterate 16 (refine Y_o M ?_)
              intro a K
              refine wpList_nil ?_
              exact hj1 true _ _ ⟨K.pick [1,2,4,5,6,7,8,9,10,11,12], M.pick [0,1,2,3] (by decide)⟩ h
            have h := cfalse hb h
            have K := K.reb (s := 75) rfl hb
            refine X_o K M ?_; clear K
            iterate 3 (refine Y_o M ?_)
            intro a K
            rcases Bool.eq_false_or_eq_true (decide (i34 = i)) with hb | hb
            · have h := ctrue hb h
              have K := K.reb (s := 79) rfl hb
              refine X_o K M ?_; clear K
              iterate 4 (refine Y_o M ?_)
              intro a K
              rcases Bool.eq_false_or_eq_true (decide (i48 = (IntKind.i64.wrap (i17 - 2)))) with hb | hb
              · have h := ctrue hb h
                have K := K.reb (s := 84) rfl hb
                refine X_o K M ?_; clear K
                iterate 7 (refine Y_o M ?_)
                intro a K
                refine wpList_nil ?_
                exact hj1 true _ _ ⟨K.pick [1,2,4,5,6,7,8,9,10,11,12], M.pick [0,1,2,3] (by decide)⟩ h
              have h := cfalse hb h
              have K := K.reb (s := 84) rfl hb
              refine X_o K M ?_; clear K
              iterate 7 (refine Y_o M ?_)
              intro a K
              refine wpList_nil ?_
              exact hj1 (decide (i48 = (IntKind.i64.wrap (i17 + 2)))) _ _ ⟨K.pick [1,2,4,5,6,7,8,9,10,11,12], M.pick [0,1,2,3] (by decide)⟩ h
            have h := cfalse hb h
            have K := K.reb (s := 79) rfl hb
            refine X_o K M ?_; clear K
            iterate 12 (refine Y_o M ?_)
            intro a K
            refine wpList_nil ?_
            exact hj1 false _ _ ⟨K.pick [1,2,4,5,6,7,8,9,10,11,12], M.pick [0,1,2,3] (by decide)⟩ h
          have h := cfalse hb h
          have K := K.reb (s := 63) rfl hb
          refine X_o K M ?_; clear K
          iterate 15 (refine Y_o M ?_)
          intro a K
          rcases Bool.eq_false_or_eq_true (decide (i34 = i)) with hb | hb
          · have h := ctrue hb h
            have K := K.reb (s := 79) rfl hb
            refine X_o K M ?_; clear K
            iterate 4 (refine Y_o M ?_)
            intro a K
            rcases Bool.eq_false_or_eq_true (decide (i48 = (IntKind.i64.wrap (i17 - 2)))) with hb | hb
            · have h := ctrue hb h
              have K := K.reb (s := 84) rfl hb
              refine X_o K M ?_; clear K
              iterate 7 (refine Y_o M ?_)
              intro a K
              refine wpList_nil ?_
              exact hj1 true _ _ ⟨K.pick [1,2,4,5,6,7,8,9,10,11,12], M.pick [0,1,2,3] (by decide)⟩ h
            have h := cfalse hb h
            have K := K.reb (s := 84) rfl hb
            refine X_o K M ?_; clear K
            iterate 7 (refine Y_o M ?_)
            intro a K
            refine wpList_nil ?_
            exact hj1 (decide (i48 = (IntKind.i64.wrap (i17 + 2)))) _ _ ⟨K.pick [1,2,4,5,6,7,8,9,10,11,12], M.pick [0,1,2,3] (by decide)⟩ h
          have h := cfalse hb h
          have K := K.reb (s := 79) rfl hb
          refine X_o K M ?_; clear K
          iterate 12 (refine Y_o M ?_)
          intro a K
          refine wpList_nil ?_
          exact hj1 false _ _ ⟨K.pick [1,2,4,5,6,7,8,9,10,11,12], M.pick [0,1,2,3] (by decide)⟩ h
        have h := cfalse hb h
        refine wp_exit ?_
        refine then_e ?_
        exact then_e (hk4 (i46, i47, i48) _ _ ⟨K.pick [1,2,4,5,6,7,8,9,10,11], M.pick [0,1,2,3] (by decide)⟩ h)
      have h := cfalse hb h
      refine wp_exit ?_
      refine then_e ?_
      exact then_e (hk3 (i32, i33, i34) _ _ ⟨K.pick [1,2,4,5,6,7,8,9,10], M.pick [0,1,2,3] (by decide)⟩ h)
    have h := cfalse hb h
    refine wp_exit ?_
    refine then_e ?_
    exact then_e (hk2 (x_P5, i17) _ _ ⟨A5, c5, K.pick [1,2,4,5,6,7], M.pick [0,1,2,3] (by decide)⟩ h)
  have h := cfalse hb h
  refine wp_exit ?_
  refine then_e ?_
  exact then_e (hk1 (x_P, i) _ _ ⟨A, c, K.pick [1,2,4,5,6], M.pick [0,1,2,3] (by decide)⟩ h)
end Go.Proofs.Ytpmnfhifmmfglab

namespace Go.Proofs.Ytpmnfhifmmfglab
open Go.RowKit
set_option maxRecDepth 100000 in
set_option maxHeartbeats 4000000 in
theorem W_darkslideref_Sharp (N : Nat) (d_W : Int) (d_H : Int) (d_P : List (Int × Int × Int)) (A_d_P : Option Addr) (c_d_P : Nat) (o : Int) (w0 : World) (R_d_P : SL w0 cIII A_d_P d_P) (C_d_P : d_P.length ≤ c_d_P) (r : Int × Int × List (Int × Int × Int)) (h : D_darkslideref_Sharp N d_W d_H d_P o = some r) :
    Calls Try.prog 12 #[.agg #[I d_W, I d_H, .slice A_d_P d_P.length c_d_P], I o] w0 fun e w' => ∃ v, e = .returned v ∧ ∃ A2 c2, v = .agg #[I r.1, I r.2.1, .slice A2 r.2.2.length c2] ∧ Mem w0.heap.size w0 w' [.row 34 3 A2 r.2.2.length c2 (cIII.all r.2.2)] := by
  refine X_enter Try.func12 rfl Try.ntmps12 rfl ?_
  intro a K
  have M := Mem.start w0
  have K : Kn a 132 [(0, .agg #[I d_W, I d_H, .slice A_d_P d_P.length c_d_P]), (1, I o)] := K
  unfold D_darkslideref_Sharp at h
  refine wp_seq (X_reg ?_)
  refine X_a K (ac_box rfl K rfl (cs := [I d_W, I d_H, .slice A_d_P d_P.length c_d_P]) rfl M) ?_
  clear K M; rintro _ a w ⟨g_x, rfl, M⟩ K
  refine X_a K (ac_alloc rfl z24 M) ?_
  clear K M; rintro _ a w ⟨g_x2, rfl, M⟩ K
  refine wpList_nil (then_n (wp_seq (X_reg ?_)))
  refine X_r K (rd_field rfl fld24_0 K rfl) M ?_; clear K
  refine Y_r (fun _ K => rd_ldC rfl sc3 K rfl (inM 1 rfl) rfl) M ?_
  refine Y_r (fun _ K => rd_field rfl fld24_1 K rfl) M ?_
  refine Y_r (fun _ K => rd_ldC rfl sc3 K rfl (inM 1 rfl) rfl) M ?_
  refine Y_r (fun _ K => rd_build rfl K (vs := [(0, I d_W), (1, I d_H)]) (cs := [I d_W, I d_H, .slice none (([] : List (Int × Int × Int))).length 0]) rfl (by kernel_rfl)) M ?_; intro a K
  refine X_a K (ac_alloc rfl z24 M) ?_
  clear K M; rintro _ a w ⟨g_x3, rfl, M⟩ K
  refine X_b K (ac_storeA rfl ty24 K rfl (ds := [I d_W, I d_H, .slice none (([] : List (Int × Int × Int))).length 0]) rfl rfl 0 M rfl rfl rfl) ?_
  clear K M; rintro _ a w M K
  refine wpList_nil (then_n (wp_seq (X_reg ?_)))
  refine X_r K (rd_build rfl K (vs := [(0, I 1), (1, I 2), (2, I 1)]) (cs := [I 1, I 2, I 1]) rfl (by kernel_rfl)) M ?_; clear K; intro a K
  refine X_a K (ac_alloc rfl z38 M) ?_
  clear K M; rintro _ a w ⟨g_x4, rfl, M⟩ K
  refine X_b K (ac_storeA rfl ty38 K rfl (ds := [I 1, I 2, I 1]) rfl rfl 0 M rfl rfl rfl) ?_
  clear K M; rintro _ a w M K
  refine wpList_nil (then_n (wp_seq (wp_seq (X_reg ?_))))
  refine X_o K M ?_; clear K; intro a K
  refine wpList_nil (then_n (wp_block ?_))
  replace M := Mem.nilrow 34 3 cIII M
  refine X_lp (id := 0) (Rel := fun (⟨x_P, i⟩ : List (Int × Int × Int) × Int) a w => ∃ (A : Option Addr) (c : Nat), Kn a 132 [(1, I o), (2, .pointer (some ⟨g_x, 0, none⟩)), (4, .pointer (some ⟨g_x2, 0, none⟩)), (5, .pointer (some ⟨g_x3, 0, none⟩)), (6, .pointer (some ⟨g_x4, 0, none⟩)), (7, I i)] ∧ Mem w0.heap.size w0 w [.row 34 3 A x_P.length c (cIII.all x_P), .blk g_x4 38 [I 1, I 2, I 1], .blk g_x3 24 [I d_W, I d_H, .slice A x_P.length c], .blk g_x2 24 [I 0, I 0, .slice none (([] : List (Int × Int × Int))).length 0], .blk g_x 24 [I d_W, I d_H, .slice A_d_P d_P.length c_d_P]]) h (fun _ _ => rfl) ⟨none, 0, K.pick [1,2,4,5,6,7], M.pick [0,1,2,3,4] (by decide)⟩ ?_ ?_
  · clear K M h
    rintro ⟨x_P8, i24⟩ a w ⟨A8, c8, K, M⟩ h
    try dsimp only at h
    refine inb_e ?_
    refine then_n (wp_seq (X_reg ?_))
    refine X_r K (rd_ldA rfl ty24 K rfl (inM 2 rfl) rfl rfl) M ?_; clear K; intro a K
    refine X_b K (ac_storeA rfl ty24 K rfl (ds := [I d_W, I d_H, .slice A8 x_P8.length c8]) rfl rfl 3 M rfl rfl rfl) ?_
    clear K M; rintro _ a w M K
    refine wpList_nil (then_n (wp_ret ?_))
    cases h
    exact ret1 K rfl (res_cellA K rfl ty24 (M.blkAt (i := 3) rfl) rfl) ⟨_, rfl, _, _, rfl, ((M).pick [0] (by decide))⟩
  clear K M h
  rintro kk fuel ⟨x_P, i⟩ a w hk1 ⟨A, c, K, M⟩ h
  unfold D_darkslideref_Sharp_l1 at h
  refine wp_seq (wp_seq (X_reg ?_))
  refine X_o K M ?_; clear K
  refine Y_r (fun _ K => rd_field rfl fld24_1 K rfl) M ?_
  refine Y_r (fun _ K => rd_ldC rfl sc3 K rfl (inM 4 rfl) rfl) M ?_
  refine Y_o M ?_; intro a K
  refine wpList_nil (then_n ?_)
  refine X_cond K rfl (fun hb => ?_) (fun hb => ?_)
  · have h := ctrue hb h
    refine wp_skip (then_n (wp_seq (wp_block (wp_seq (X_reg ?_)))))
    refine X_o K M ?_; clear K; intro a K
    refine wpList_nil (then_n (wp_block ?_))
    refine X_lp (id := 2) (Rel := fun (⟨x_P4, i7⟩ : List (Int × Int × Int) × Int) a w => ∃ (A4 : Option Addr) (c4 : Nat), Kn a 132 [(1, I o), (2, .pointer (some ⟨g_x, 0, none⟩)), (4, .pointer (some ⟨g_x2, 0, none⟩)), (5, .pointer (some ⟨g_x3, 0, none⟩)), (6, .pointer (some ⟨g_x4, 0, none⟩)), (7, I i), (8, I i7)] ∧ Mem w0.heap.size w0 w [.row 34 3 A4 x_P4.length c4 (cIII.all x_P4), .blk g_x4 38 [I 1, I 2, I 1], .blk g_x3 24 [I d_W, I d_H, .slice A4 x_P4.length c4], .blk g_x2 24 [I 0, I 0, .slice none (([] : List (Int × Int × Int))).length 0], .blk g_x 24 [I d_W, I d_H, .slice A_d_P d_P.length c_d_P]]) h (fun _ _ => rfl) ⟨A, c, K.pick [1,2,4,5,6,7,8], M.pick [0,1,2,3,4] (by decide)⟩ ?_ ?_
    · clear K M h
      rintro ⟨x_P7, i23⟩ a w ⟨A7, c7, K, M⟩ h
      try dsimp only at h
      refine inb_e ?_
      refine inb_n (then_n (X_reg ?_))
      refine X_o K M ?_; clear K
      refine Y_o M ?_
      obtain ⟨x62, hx, h⟩ := olet h
      refine Y_r (fun _ K => rdi hx (rd_assign rfl K rfl)) M ?_; intro a K
      refine wpList_nil ?_
      exact then_n ⟨(x_P7, x62), ⟨A7, c7, K.pick [1,2,4,5,6,7], M.pick [0,1,2,3,4] (by decide)⟩, h⟩
    clear K M h
    rintro kk fuel ⟨x_P4, i7⟩ a w hk2 ⟨A4, c4, K, M⟩ h
    unfold D_darkslideref_Sharp_l2 at h
    refine wp_seq (wp_seq (X_reg ?_))
    refine X_o K M ?_; clear K
    refine Y_r (fun _ K => rd_field rfl fld24_0 K rfl) M ?_
    refine Y_r (fun _ K => rd_ldC rfl sc3 K rfl (inM 4 rfl) rfl) M ?_
    refine Y_o M ?_; intro a K
    refine wpList_nil (then_n ?_)
    refine X_cond K rfl (fun hb => ?_) (fun hb => ?_)
    · have h := ctrue hb h
      refine wp_skip (then_n (wp_seq (wp_block (wp_seq (X_reg ?_)))))
      refine X_r K (rd_field rfl fld24_2 K rfl) M ?_; clear K
      refine Y_r (fun _ K => rd_ldC rfl sc22 K rfl (inM 4 rfl) rfl) M ?_
      refine Y_o M ?_
      refine Y_r (fun _ K => rd_field rfl fld24_0 K rfl) M ?_
      refine Y_r (fun _ K => rd_ldC rfl sc3 K rfl (inM 4 rfl) rfl) M ?_
      iterate 3 (refine Y_o M ?_)
      obtain ⟨e27, h_e27, h⟩ := obind h
      refine Y_r (fun _ K => rd_ix rfl sl22 K rfl rfl (inA R_d_P) h_e27) M ?_
      refine Y_r (fun _ K => rd_elA rfl ty34 K rfl rfl rfl (inA R_d_P) h_e27) M ?_; intro a K
      obtain ⟨r20, h_r20, h⟩ := obind h
      refine X_a K (ac_call (vs := [.agg #[I e27.1, I e27.2.1, I e27.2.2]]) (cap := []) rfl fok31 K rfl rfl (W_darkslideref_parts N e27.1 e27.2.1 e27.2.2 _  r20 h_r20)) ?_
      have M0 := M; clear K M; rintro _ a w ⟨rfl, M⟩ K
      replace M := M0.call M; clear M0
      refine X_a K (ac_alloc rfl z38 M) ?_
      clear K M; rintro _ a w ⟨g_x13, rfl, M⟩ K
      refine X_b K (ac_storeA rfl ty38 K rfl (ds := [I r20.1, I r20.2.1, I r20.2.2]) rfl rfl 0 M rfl rfl rfl) ?_
      clear K M; rintro _ a w M K
      refine wpList_nil (then_n (wp_seq (X_reg ?_)))
      refine X_a K (ac_alloc rfl z38 M) ?_
      clear K M; rintro _ a w ⟨g_x14, rfl, M⟩ K
      refine X_a K (ac_alloc rfl z38 M) ?_
      clear K M; rintro _ a w ⟨g_x15, rfl, M⟩ K
      refine wpList_nil (then_n (wp_seq (wp_seq (X_reg ?_))))
      refine X_o K M ?_; clear K; intro a K
      refine wpList_nil (then_n (wp_block ?_))
      refine X_lp (id := 4) (Rel := fun (⟨x09, x112, x211, i12⟩ : Int × Int × Int × Int) a w => Kn a 132 [(1, I o), (2, .pointer (some ⟨g_x, 0, none⟩)), (4, .pointer (some ⟨g_x2, 0, none⟩)), (5, .pointer (some ⟨g_x3, 0, none⟩)), (6, .pointer (some ⟨g_x4, 0, none⟩)), (7, I i), (8, I i7), (9, .pointer (some ⟨g_x13, 0, none⟩)), (10, .pointer (some ⟨g_x14, 0, none⟩)), (11, .pointer (some ⟨g_x15, 0, none⟩)), (12, I i12)] ∧ Mem w0.heap.size w0 w [.blk g_x15 38 [I 0, I 0, I 0], .blk g_x14 38 [I x09, I x112, I x211], .blk g_x13 38 [I r20.1, I r20.2.1, I r20.2.2], .row 34 3 A4 x_P4.length c4 (cIII.all x_P4), .blk g_x4 38 [I 1, I 2, I 1], .blk g_x3 24 [I d_W, I d_H, .slice A4 x_P4.length c4], .blk g_x2 24 [I 0, I 0, .slice none (([] : List (Int × Int × Int))).length 0], .blk g_x 24 [I d_W, I d_H, .slice A_d_P d_P.length c_d_P]]) h (fun _ _ => rfl) ⟨K.pick [1,2,4,5,6,7,8,9,10,11,12], M.pick [0,1,2,3,4,5,6,7] (by decide)⟩ ?_ ?_
      · clear K M h
        rintro ⟨x017, x120, x219, i20⟩ a w ⟨K, M⟩ h
        try dsimp only at h
        refine inb_e ?_
        refine then_n (wp_seq (wp_seq (X_reg ?_)))
        refine X_o K M ?_; clear K; intro a K
        refine wpList_nil (then_n (wp_block ?_))
        refine X_lp (id := 10) (Rel := fun (⟨x018, x121, x220, i21⟩ : Int × Int × Int × Int) a w => Kn a 132 [(1, I o), (2, .pointer (some ⟨g_x, 0, none⟩)), (4, .pointer (some ⟨g_x2, 0, none⟩)), (5, .pointer (some ⟨g_x3, 0, none⟩)), (6, .pointer (some ⟨g_x4, 0, none⟩)), (7, I i), (8, I i7), (9, .pointer (some ⟨g_x13, 0, none⟩)), (10, .pointer (some ⟨g_x14, 0, none⟩)), (11, .pointer (some ⟨g_x15, 0, none⟩)), (16, I i21)] ∧ Mem w0.heap.size w0 w [.blk g_x15 38 [I x018, I x121, I x220], .blk g_x14 38 [I x017, I x120, I x219], .blk g_x13 38 [I r20.1, I r20.2.1, I r20.2.2], .row 34 3 A4 x_P4.length c4 (cIII.all x_P4), .blk g_x4 38 [I 1, I 2, I 1], .blk g_x3 24 [I d_W, I d_H, .slice A4 x_P4.length c4], .blk g_x2 24 [I 0, I 0, .slice none (([] : List (Int × Int × Int))).length 0], .blk g_x 24 [I d_W, I d_H, .slice A_d_P d_P.length c_d_P]]) h (fun _ _ => rfl) ⟨K.pick [1,2,4,5,6,7,8,9,10,11,16], M.pick [0,1,2,3,4,5,6,7] (by decide)⟩ ?_ ?_
        · clear K M h
          rintro ⟨x019, x122, x221, i22⟩ a w ⟨K, M⟩ h
          try dsimp only at h
          refine inb_e ?_
          refine then_n ?_
          refine wp_region_tl (fun w => Mem _ _ w _) [0,0,0,1,1,1,0,2] (by kernel_rfl) (by kernel_rfl) (M.pick [0,1,2,4,5,6,7] (by decide)).drew ?_
          replace M := M.drew
          refine T_r K (rd_field rfl fld24_2 K rfl) ?_; clear K
          refine U_r (fun _ K => rd_ldC rfl sc22 K rfl (inM 4 rfl) rfl) ?_
          refine U_r (fun _ K => rd_ldA rfl ty38 K rfl (inM 0 rfl) rfl rfl) ?_; intro a K
          obtain ⟨r36, h_r36, h⟩ := obind h
          refine T_a K (ac_call (vs := [.agg #[I x019, I x122, I x221]]) (cap := []) rfl fok34 K rfl rfl (W_darkslideref_pixel N x019 x122 x221 _  r36 h_r36)) ?_
          have M0 := M; clear K M; rintro _ a w ⟨rfl, M⟩ K
          replace M := M0.call M; clear M0
          refine ⟨M.pick [0,1,2,4,5,6,7] (by decide), ?_⟩
          refine T_a K (ac_bslice rfl sl22 z34 K (vs := [(0, .agg #[I r36.1, I r36.2.1, I r36.2.2])]) (cs := [I r36.1, I r36.2.1, I r36.2.2]) rfl (by kernel_rfl) rfl rfl M) ?_
          have M0 := M; clear K M; rintro _ a w ⟨gs3, rfl, M⟩ K
          replace M := M.asRow 0 rfl cIII ([(r36.1, r36.2.1, r36.2.2)] : List (Int × Int × Int)) (n := 1) rfl rfl rfl
          clear M0
          refine ⟨M.pick [1,2,3,5,6,7,8] (by decide), ?_⟩
          obtain ⟨x_P6, h_x_P6, h⟩ := obind h
          refine T_a K (ac_app (C := cIII) (xs := x_P4) (ys := ([(r36.1, r36.2.1, r36.2.2)] : List (Int × Int × Int))) rfl sl22 rfl z34 rfl rfl K rfl rfl 4 M rfl ((inR (C := cIII) 0 rfl rfl) _ M) h_x_P6) ?_
          clear K M; rintro _ a w ⟨A6, c6, rfl, M⟩ K
          refine ⟨M.pick [1,2,3,5,6,7,8] (by decide), ?_⟩
          refine T_r K (rd_field rfl fld24_2 K rfl) ?_; clear K; intro a K
          refine T_b K (ac_storeC rfl sc22 K rfl rfl rfl 6 M rfl rfl) ?_
          clear K M; rintro _ a w M K
          refine T_end ?_
          refine inb_n (then_n (X_reg ?_))
          refine X_o K M ?_; clear K
          refine Y_o M ?_
          obtain ⟨x61, hx, h⟩ := olet h
          refine Y_r (fun _ K => rdi hx (rd_assign rfl K rfl)) M ?_; intro a K
          refine wpList_nil ?_
          exact then_n ⟨(x_P6, x61), ⟨A6, c6, K.pick [1,2,4,5,6,7,8], M.pick [4,5,6,7,8] (by decide)⟩, h⟩
        clear K M h
        rintro kk fuel ⟨x018, x121, x220, i21⟩ a w hk6 ⟨K, M⟩ h
        unfold D_darkslideref_Sharp_l6 at h
        refine wp_seq (wp_seq (X_reg ?_))
        refine X_o K M ?_; clear K
        refine Y_o M ?_; intro a K
        refine wpList_nil (then_n ?_)
        refine X_cond K rfl (fun hb => ?_) (fun hb => ?_)
        · have h := ctrue hb h
          refine wp_skip (then_n (wp_seq (wp_block ?_)))
          refine wp_region_tl (fun w => Mem _ _ w _) [0,0,0,0,0,0,0,0,0,0,0,0,0,0,1,0,1,0,2] (by kernel_rfl) (by kernel_rfl) M.drew ?_
          replace M := M.drew
          refine T_o K ?_; clear K
          refine U_o ?_; intro a K
          obtain ⟨_, h0, h⟩ := obind h
          have h0 := inr_spec h0
          refine T_r K (rd_ixA rfl ar38 sz3 K rfl rfl h0.1 h0.2) ?_; clear K
          obtain ⟨e69, h_e69, h⟩ := obind h
          refine U_r (fun _ K => rd_ldIa rfl sc3 K rfl (inM 2 rfl) rfl rfl h_e69) ?_
          refine U_o ?_; intro a K
          obtain ⟨_, h0, h⟩ := obind h
          have h0 := inr_spec h0
          refine T_r K (rd_ixA rfl ar38 sz3 K rfl rfl h0.1 h0.2) ?_; clear K
          obtain ⟨e70, h_e70, h⟩ := obind h
          refine U_r (fun _ K => rd_ldIa rfl sc3 K rfl (inM 2 rfl) rfl rfl h_e70) ?_
          refine U_o ?_; intro a K
          rcases Bool.eq_false_or_eq_true (decide (i21 = 0)) with hb | hb
          · have h := ctrue hb h
            have hj10 : i21 = 0 := of_decide_eq_true hb
            refine T_r K (rdv (v := .pointer (some ⟨g_x14, 0, none⟩)) (by rw [hj10]; rfl) (rd_ixA rfl ar38 sz3 K rfl rfl (by rw [hj10]; decide) (by rw [hj10]; decide))) ?_; clear K
            refine U_r (fun _ K => rd_ldC rfl sc3 K rfl (inM 1 rfl) rfl) ?_
            refine U_r (fun _ K => rd_quo rfl K rfl rfl (by decide)) ?_
            iterate 3 (refine U_o ?_)
            intro a K
            obtain ⟨r30, h_r30, h⟩ := obind h
            refine T_a K (ac_call (vs := [I (IntKind.i64.wrap ((IntKind.i64.wrap (e70 - (IntKind.i64.wrap (Int.tdiv x017 16)))) * o)), I 256]) (cap := []) rfl fok33 K rfl rfl (W_darkslideref_down N (IntKind.i64.wrap ((IntKind.i64.wrap (e70 - (IntKind.i64.wrap (Int.tdiv x017 16)))) * o)) 256 _  r30 h_r30)) ?_
            have M0 := M; clear K M; rintro _ a w ⟨rfl, M⟩ K
            replace M := M0.call M; clear M0
            refine ⟨M.pick [0,1,2,3,4,5,6,7] (by decide), ?_⟩
            refine T_o K ?_; clear K; intro a K
            obtain ⟨r31, h_r31, h⟩ := obind h
            refine T_a K (ac_call (vs := [I (IntKind.i64.wrap (e69 + r30))]) (cap := []) rfl fok32 K rfl rfl (W_darkslideref_clamp N (IntKind.i64.wrap (e69 + r30)) _  r31 h_r31)) ?_
            have M0 := M; clear K M; rintro _ a w ⟨rfl, M⟩ K
            replace M := M0.call M; clear M0
            refine ⟨M.pick [0,1,2,3,4,5,6,7] (by decide), ?_⟩
            refine T_r K (rdv (v := .pointer (some ⟨g_x15, 0, none⟩)) (by rw [hj10]; rfl) (rd_ixA rfl ar38 sz3 K rfl rfl (by rw [hj10]; decide) (by rw [hj10]; decide))) ?_; clear K; intro a K
            refine T_b K (ac_storeC rfl sc3 K rfl rfl rfl 0 M rfl rfl) ?_
            clear K M; rintro _ a w M K
            refine T_end ?_
            refine inb_n (then_n (X_reg ?_))
            refine X_o K M ?_; clear K
            refine Y_o M ?_
            obtain ⟨x58, hx, h⟩ := olet h
            refine Y_r (fun _ K => rdi hx (rd_assign rfl K rfl)) M ?_; intro a K
            refine wpList_nil ?_
            exact then_n ⟨(r31, x121, x220, x58), ⟨K.pick [1,2,4,5,6,7,8,9,10,11,16], M.pick [0,1,2,3,4,5,6,7] (by decide)⟩, h⟩
          have h := cfalse hb h
          rcases Bool.eq_false_or_eq_true (decide (i21 = 1)) with hb | hb
          · have h := ctrue hb h
            have hj10 : i21 = 1 := of_decide_eq_true hb
            refine T_r K (rdv (v := .pointer (some ⟨g_x14, 1, none⟩)) (by rw [hj10]; rfl) (rd_ixA rfl ar38 sz3 K rfl rfl (by rw [hj10]; decide) (by rw [hj10]; decide))) ?_; clear K
            refine U_r (fun _ K => rd_ldC rfl sc3 K rfl (inM 1 rfl) rfl) ?_
            refine U_r (fun _ K => rd_quo rfl K rfl rfl (by decide)) ?_
            iterate 3 (refine U_o ?_)
            intro a K
            obtain ⟨r32, h_r32, h⟩ := obind h
            refine T_a K (ac_call (vs := [I (IntKind.i64.wrap ((IntKind.i64.wrap (e70 - (IntKind.i64.wrap (Int.tdiv x120 16)))) * o)), I 256]) (cap := []) rfl fok33 K rfl rfl (W_darkslideref_down N (IntKind.i64.wrap ((IntKind.i64.wrap (e70 - (IntKind.i64.wrap (Int.tdiv x120 16)))) * o)) 256 _  r32 h_r32)) ?_
            have M0 := M; clear K M; rintro _ a w ⟨rfl, M⟩ K
            replace M := M0.call M; clear M0
            refine ⟨M.pick [0,1,2,3,4,5,6,7] (by decide), ?_⟩
            refine T_o K ?_; clear K; intro a K
            obtain ⟨r33, h_r33, h⟩ := obind h
            refine T_a K (ac_call (vs := [I (IntKind.i64.wrap (e69 + r32))]) (cap := []) rfl fok32 K rfl rfl (W_darkslideref_clamp N (IntKind.i64.wrap (e69 + r32)) _  r33 h_r33)) ?_
            have M0 := M; clear K M; rintro _ a w ⟨rfl, M⟩ K
            replace M := M0.call M; clear M0
            refine ⟨M.pick [0,1,2,3,4,5,6,7] (by decide), ?_⟩
            refine T_r K (rdv (v := .pointer (some ⟨g_x15, 1, none⟩)) (by rw [hj10]; rfl) (rd_ixA rfl ar38 sz3 K rfl rfl (by rw [hj10]; decide) (by rw [hj10]; decide))) ?_; clear K; intro a K
            refine T_b K (ac_storeC rfl sc3 K rfl rfl rfl 0 M rfl rfl) ?_
            clear K M; rintro _ a w M K
            refine T_end ?_
            refine inb_n (then_n (X_reg ?_))
            refine X_o K M ?_; clear K
            refine Y_o M ?_
            obtain ⟨x59, hx, h⟩ := olet h
            refine Y_r (fun _ K => rdi hx (rd_assign rfl K rfl)) M ?_; intro a K
            refine wpList_nil ?_
            exact then_n ⟨(x018, r33, x220, x59), ⟨K.pick [1,2,4,5,6,7,8,9,10,11,16], M.pick [0,1,2,3,4,5,6,7] (by decide)⟩, h⟩
          have h := cfalse hb h
          rcases Bool.eq_false_or_eq_true (decide (i21 = 2)) with hb | hb
          · have h := ctrue hb h
            have hj10 : i21 = 2 := of_decide_eq_true hb
            refine T_r K (rdv (v := .pointer (some ⟨g_x14, 2, none⟩)) (by rw [hj10]; rfl) (rd_ixA rfl ar38 sz3 K rfl rfl (by rw [hj10]; decide) (by rw [hj10]; decide))) ?_; clear K
            refine U_r (fun _ K => rd_ldC rfl sc3 K rfl (inM 1 rfl) rfl) ?_
            refine U_r (fun _ K => rd_quo rfl K rfl rfl (by decide)) ?_
            iterate 3 (refine U_o ?_)
            intro a K
            obtain ⟨r34, h_r34, h⟩ := obind h
            refine T_a K (ac_call (vs := [I (IntKind.i64.wrap ((IntKind.i64.wrap (e70 - (IntKind.i64.wrap (Int.tdiv x219 16)))) * o)), I 256]) (cap := []) rfl fok33 K rfl rfl (W_darkslideref_down N (IntKind.i64.wrap ((IntKind.i64.wrap (e70 - (IntKind.i64.wrap (Int.tdiv x219 16)))) * o)) 256 _  r34 h_r34)) ?_
            have M0 := M; clear K M; rintro _ a w ⟨rfl, M⟩ K
            replace M := M0.call M; clear M0
            refine ⟨M.pick [0,1,2,3,4,5,6,7] (by decide), ?_⟩
            refine T_o K ?_; clear K; intro a K
            obtain ⟨r35, h_r35, h⟩ := obind h
            refine T_a K (ac_call (vs := [I (IntKind.i64.wrap (e69 + r34))]) (cap := []) rfl fok32 K rfl rfl (W_darkslideref_clamp N (IntKind.i64.wrap (e69 + r34)) _  r35 h_r35)) ?_
            have M0 := M; clear K M; rintro _ a w ⟨rfl, M⟩ K
            replace M := M0.call M; clear M0
            refine ⟨M.pick [0,1,2,3,4,5,6,7] (by decide), ?_⟩
            refine T_r K (rdv (v := .pointer (some ⟨g_x15, 2, none⟩)) (by rw [hj10]; rfl) (rd_ixA rfl ar38 sz3 K rfl rfl (by rw [hj10]; decide) (by rw [hj10]; decide))) ?_; clear K; intro a K
            refine T_b K (ac_storeC rfl sc3 K rfl rfl rfl 0 M rfl rfl) ?_
            clear K M; rintro _ a w M K
            refine T_end ?_
            refine inb_n (then_n (X_reg ?_))
            refine X_o K M ?_; clear K
            refine Y_o M ?_
            obtain ⟨x60, hx, h⟩ := olet h
            refine Y_r (fun _ K => rdi hx (rd_assign rfl K rfl)) M ?_; intro a K
            refine wpList_nil ?_
            exact then_n ⟨(x018, x121, r35, x60), ⟨K.pick [1,2,4,5,6,7,8,9,10,11,16], M.pick [0,1,2,3,4,5,6,7] (by decide)⟩, h⟩
          have h := cfalse hb h
          cases h
        have h := cfalse hb h
        refine wp_exit ?_
        refine then_e ?_
        exact then_e (hk6 (x018, x121, x220, i21) _ _ ⟨K.pick [1,2,4,5,6,7,8,9,10,11,16], M.pick [0,1,2,3,4,5,6,7] (by decide)⟩ h)
      clear K M h
      rintro kk fuel ⟨x09, x112, x211, i12⟩ a w hk3 ⟨K, M⟩ h
      unfold D_darkslideref_Sharp_l3 at h
      refine wp_seq (wp_seq (X_reg ?_))
      refine X_o K M ?_; clear K
      refine Y_o M ?_; intro a K
      refine wpList_nil (then_n ?_)
      refine X_cond K rfl (fun hb => ?_) (fun hb => ?_)
      · have h := ctrue hb h
        refine wp_skip (then_n (wp_seq (wp_block (wp_seq (X_reg ?_)))))
        refine X_o K M ?_; clear K; intro a K
        refine wpList_nil (then_n (wp_block ?_))
        refine X_lp (id := 6) (Rel := fun (⟨x012, x115, x214, i15⟩ : Int × Int × Int × Int) a w => Kn a 132 [(1, I o), (2, .pointer (some ⟨g_x, 0, none⟩)), (4, .pointer (some ⟨g_x2, 0, none⟩)), (5, .pointer (some ⟨g_x3, 0, none⟩)), (6, .pointer (some ⟨g_x4, 0, none⟩)), (7, I i), (8, I i7), (9, .pointer (some ⟨g_x13, 0, none⟩)), (10, .pointer (some ⟨g_x14, 0, none⟩)), (11, .pointer (some ⟨g_x15, 0, none⟩)), (12, I i12), (13, I i15)] ∧ Mem w0.heap.size w0 w [.blk g_x15 38 [I 0, I 0, I 0], .blk g_x14 38 [I x012, I x115, I x214], .blk g_x13 38 [I r20.1, I r20.2.1, I r20.2.2], .row 34 3 A4 x_P4.length c4 (cIII.all x_P4), .blk g_x4 38 [I 1, I 2, I 1], .blk g_x3 24 [I d_W, I d_H, .slice A4 x_P4.length c4], .blk g_x2 24 [I 0, I 0, .slice none (([] : List (Int × Int × Int))).length 0], .blk g_x 24 [I d_W, I d_H, .slice A_d_P d_P.length c_d_P]]) h (fun _ _ => rfl) ⟨K.pick [1,2,4,5,6,7,8,9,10,11,12,13], M.pick [0,1,2,3,4,5,6,7] (by decide)⟩ ?_ ?_
        · clear K M h
          rintro ⟨x016, x119, x218, i19⟩ a w ⟨K, M⟩ h
          try dsimp only at h
          refine inb_e ?_
          refine inb_n (then_n (X_reg ?_))
          refine X_o K M ?_; clear K
          refine Y_o M ?_
          obtain ⟨x54, hx, h⟩ := olet h
          refine Y_r (fun _ K => rdi hx (rd_assign rfl K rfl)) M ?_; intro a K
          refine wpList_nil ?_
          exact then_n ⟨(x016, x119, x218, x54), ⟨K.pick [1,2,4,5,6,7,8,9,10,11,12], M.pick [0,1,2,3,4,5,6,7] (by decide)⟩, h⟩
        clear K M h
        rintro kk fuel ⟨x012, x115, x214, i15⟩ a w hk4 ⟨K, M⟩ h
        unfold D_darkslideref_Sharp_l4 at h
        refine wp_seq (wp_seq (X_reg ?_))
        refine X_o K M ?_; clear K
        refine Y_o M ?_; intro a K
        refine wpList_nil (then_n ?_)
        refine X_cond K rfl (fun hb => ?_) (fun hb => ?_)
        · have h := ctrue hb h
          refine wp_skip (then_n (wp_seq (wp_block (wp_seq (X_reg ?_)))))
          refine X_r K (rd_field rfl fld24_2 K rfl) M ?_; clear K
          refine Y_r (fun _ K => rd_ldC rfl sc22 K rfl (inM 7 rfl) rfl) M ?_
          refine Y_r (fun _ K => rd_field rfl fld24_1 K rfl) M ?_
          refine Y_r (fun _ K => rd_ldC rfl sc3 K rfl (inM 7 rfl) rfl) M ?_
          iterate 6 (refine Y_o M ?_)
          refine Y_r (fun _ K => rd_field rfl fld24_0 K rfl) M ?_
          refine Y_r (fun _ K => rd_ldC rfl sc3 K rfl (inM 7 rfl) rfl) M ?_
          refine Y_o M ?_
          refine Y_r (fun _ K => rd_field rfl fld24_0 K rfl) M ?_
          refine Y_r (fun _ K => rd_ldC rfl sc3 K rfl (inM 7 rfl) rfl) M ?_
          iterate 6 (refine Y_o M ?_)
          obtain ⟨x46, hx, h⟩ := olet h
          refine Y_r (fun _ K => rdi hx (rd_add rfl K rfl rfl)) M ?_
          obtain ⟨e48, h_e48, h⟩ := obind h
          refine Y_r (fun _ K => rd_ix rfl sl22 K rfl rfl (inA R_d_P) h_e48) M ?_
          refine Y_r (fun _ K => rd_elA rfl ty34 K rfl rfl rfl (inA R_d_P) h_e48) M ?_; intro a K
          obtain ⟨r23, h_r23, h⟩ := obind h
          refine X_a K (ac_call (vs := [.agg #[I e48.1, I e48.2.1, I e48.2.2]]) (cap := []) rfl fok31 K rfl rfl (W_darkslideref_parts N e48.1 e48.2.1 e48.2.2 _  r23 h_r23)) ?_
          have M0 := M; clear K M; rintro _ a w ⟨rfl, M⟩ K
          replace M := M0.call M; clear M0
          refine X_a K (ac_alloc rfl z38 M) ?_
          clear K M; rintro _ a w ⟨g_x18, rfl, M⟩ K
          refine X_b K (ac_storeA rfl ty38 K rfl (ds := [I r23.1, I r23.2.1, I r23.2.2]) rfl rfl 0 M rfl rfl rfl) ?_
          clear K M; rintro _ a w M K
          refine wpList_nil (then_n (wp_seq (X_reg ?_)))
          refine X_o K M ?_; clear K; intro a K
          refine wpList_nil (then_n (wp_block ?_))
          refine X_lp (id := 8) (Rel := fun (⟨x014, x117, x216, i17⟩ : Int × Int × Int × Int) a w => Kn a 132 [(1, I o), (2, .pointer (some ⟨g_x, 0, none⟩)), (4, .pointer (some ⟨g_x2, 0, none⟩)), (5, .pointer (some ⟨g_x3, 0, none⟩)), (6, .pointer (some ⟨g_x4, 0, none⟩)), (7, I i), (8, I i7), (9, .pointer (some ⟨g_x13, 0, none⟩)), (10, .pointer (some ⟨g_x14, 0, none⟩)), (11, .pointer (some ⟨g_x15, 0, none⟩)), (12, I i12), (13, I i15), (14, .pointer (some ⟨g_x18, 0, none⟩)), (15, I i17)] ∧ Mem w0.heap.size w0 w [.blk g_x18 38 [I r23.1, I r23.2.1, I r23.2.2], .blk g_x15 38 [I 0, I 0, I 0], .blk g_x14 38 [I x014, I x117, I x216], .blk g_x13 38 [I r20.1, I r20.2.1, I r20.2.2], .row 34 3 A4 x_P4.length c4 (cIII.all x_P4), .blk g_x4 38 [I 1, I 2, I 1], .blk g_x3 24 [I d_W, I d_H, .slice A4 x_P4.length c4], .blk g_x2 24 [I 0, I 0, .slice none (([] : List (Int × Int × Int))).length 0], .blk g_x 24 [I d_W, I d_H, .slice A_d_P d_P.length c_d_P]]) h (fun _ _ => rfl) ⟨K.pick [1,2,4,5,6,7,8,9,10,11,12,13,14,15], M.pick [0,1,2,3,4,5,6,7,8] (by decide)⟩ ?_ ?_
          · clear K M h
            rintro ⟨x015, x118, x217, i18⟩ a w ⟨K, M⟩ h
            try dsimp only at h
            refine inb_e ?_
            refine inb_n (then_n (X_reg ?_))
            refine X_o K M ?_; clear K
            refine Y_o M ?_
            obtain ⟨x53, hx, h⟩ := olet h
            refine Y_r (fun _ K => rdi hx (rd_assign rfl K rfl)) M ?_; intro a K
            refine wpList_nil ?_
            exact then_n ⟨(x015, x118, x217, x53), ⟨K.pick [1,2,4,5,6,7,8,9,10,11,12,13], M.pick [1,2,3,4,5,6,7,8] (by decide)⟩, h⟩
          clear K M h
          rintro kk fuel ⟨x014, x117, x216, i17⟩ a w hk5 ⟨K, M⟩ h
          unfold D_darkslideref_Sharp_l5 at h
          refine wp_seq (wp_seq (X_reg ?_))
          refine X_o K M ?_; clear K
          refine Y_o M ?_; intro a K
          refine wpList_nil (then_n ?_)
          refine X_cond K rfl (fun hb => ?_) (fun hb => ?_)
          · have h := ctrue hb h
            refine wp_skip (then_n (wp_seq (wp_block ?_)))
            refine wp_region_tl (fun w => Mem _ _ w _) [0,0,0,0,0,0,0,0,0,0,0,0,0,0,0,0,0,0,0,2] (by kernel_rfl) (by kernel_rfl) M.drew ?_
            replace M := M.drew
            refine T_o K ?_; clear K
            refine U_o ?_; intro a K
            rcases Bool.eq_false_or_eq_true (decide (i17 = 0)) with hb | hb
            · have h := ctrue hb h
              have hj8 : i17 = 0 := of_decide_eq_true hb
              refine T_r K (rdv (v := .pointer (some ⟨g_x14, 0, none⟩)) (by rw [hj8]; rfl) (rd_ixA rfl ar38 sz3 K rfl rfl (by rw [hj8]; decide) (by rw [hj8]; decide))) ?_; clear K
              refine U_r (fun _ K => rd_ldC rfl sc3 K rfl (inM 2 rfl) rfl) ?_
              refine U_o ?_; intro a K
              obtain ⟨_, h0, h⟩ := obind h
              have h0 := inr_spec h0
              refine T_r K (rd_ixA rfl ar38 sz3 K rfl rfl h0.1 h0.2) ?_; clear K
              obtain ⟨e58, h_e58, h⟩ := obind h
              refine U_r (fun _ K => rd_ldIa rfl sc3 K rfl (inM 0 rfl) rfl rfl h_e58) ?_
              iterate 2 (refine U_o ?_)
              intro a K
              obtain ⟨_, h0, h⟩ := obind h
              have h0 := inr_spec h0
              refine T_r K (rd_ixA rfl ar38 sz3 K rfl rfl h0.1 h0.2) ?_; clear K
              obtain ⟨e59, h_e59, h⟩ := obind h
              refine U_r (fun _ K => rd_ldIa rfl sc3 K rfl (inM 5 rfl) rfl rfl h_e59) ?_
              iterate 3 (refine U_o ?_)
              intro a K
              obtain ⟨_, h0, h⟩ := obind h
              have h0 := inr_spec h0
              refine T_r K (rd_ixA rfl ar38 sz3 K rfl rfl h0.1 h0.2) ?_; clear K
              obtain ⟨e60, h_e60, h⟩ := obind h
              refine U_r (fun _ K => rd_ldIa rfl sc3 K rfl (inM 5 rfl) rfl rfl h_e60) ?_
              iterate 2 (refine U_o ?_)
              refine U_r (fun _ K => rdv (v := .pointer (some ⟨g_x14, 0, none⟩)) (by rw [hj8]; rfl) (rd_ixA rfl ar38 sz3 K rfl rfl (by rw [hj8]; decide) (by rw [hj8]; decide))) ?_; intro a K
              refine T_b K (ac_storeC rfl sc3 K rfl rfl rfl 2 M rfl rfl) ?_
              clear K M; rintro _ a w M K
              refine T_end ?_
              refine inb_n (then_n (X_reg ?_))
              refine X_o K M ?_; clear K
              refine Y_o M ?_
              obtain ⟨x50, hx, h⟩ := olet h
              refine Y_r (fun _ K => rdi hx (rd_assign rfl K rfl)) M ?_; intro a K
              refine wpList_nil ?_
              exact then_n ⟨(IntKind.i64.wrap (x014 + (IntKind.i64.wrap ((IntKind.i64.wrap (e58 * e59)) * e60))), x117, x216, x50), ⟨K.pick [1,2,4,5,6,7,8,9,10,11,12,13,14,15], M.pick [0,1,2,3,4,5,6,7,8] (by decide)⟩, h⟩
            have h := cfalse hb h
            rcases Bool.eq_false_or_eq_true (decide (i17 = 1)) with hb | hb
            · have h := ctrue hb h
              have hj8 : i17 = 1 := of_decide_eq_true hb
              refine T_r K (rdv (v := .pointer (some ⟨g_x14, 1, none⟩)) (by rw [hj8]; rfl) (rd_ixA rfl ar38 sz3 K rfl rfl (by rw [hj8]; decide) (by rw [hj8]; decide))) ?_; clear K
              refine U_r (fun _ K => rd_ldC rfl sc3 K rfl (inM 2 rfl) rfl) ?_
              refine U_o ?_; intro a K
              obtain ⟨_, h0, h⟩ := obind h
              have h0 := inr_spec h0
              refine T_r K (rd_ixA rfl ar38 sz3 K rfl rfl h0.1 h0.2) ?_; clear K
              obtain ⟨e61, h_e61, h⟩ := obind h
              refine U_r (fun _ K => rd_ldIa rfl sc3 K rfl (inM 0 rfl) rfl rfl h_e61) ?_
              iterate 2 (refine U_o ?_)
              intro a K
              obtain ⟨_, h0, h⟩ := obind h
              have h0 := inr_spec h0
              refine T_r K (rd_ixA rfl ar38 sz3 K rfl rfl h0.1 h0.2) ?_; clear K
              obtain ⟨e62, h_e62, h⟩ := obind h
              refine U_r (fun _ K => rd_ldIa rfl sc3 K rfl (inM 5 rfl) rfl rfl h_e62) ?_
              iterate 3 (refine U_o ?_)
              intro a K
              obtain ⟨_, h0, h⟩ := obind h
              have h0 := inr_spec h0
              refine T_r K (rd_ixA rfl ar38 sz3 K rfl rfl h0.1 h0.2) ?_; clear K
              obtain ⟨e63, h_e63, h⟩ := obind h
              refine U_r (fun _ K => rd_ldIa rfl sc3 K rfl (inM 5 rfl) rfl rfl h_e63) ?_
              iterate 2 (refine U_o ?_)
              refine U_r (fun _ K => rdv (v := .pointer (some ⟨g_x14, 1, none⟩)) (by rw [hj8]; rfl) (rd_ixA rfl ar38 sz3 K rfl rfl (by rw [hj8]; decide) (by rw [hj8]; decide))) ?_; intro a K
              refine T_b K (ac_storeC rfl sc3 K rfl rfl rfl 2 M rfl rfl) ?_
              clear K M; rintro _ a w M K
              refine T_end ?_
              refine inb_n (then_n (X_reg ?_))
              refine X_o K M ?_; clear K
              refine Y_o M ?_
              obtain ⟨x51, hx, h⟩ := olet h
              refine Y_r (fun _ K => rdi hx (rd_assign rfl K rfl)) M ?_; intro a K
              refine wpList_nil ?_
              exact then_n ⟨(x014, IntKind.i64.wrap (x117 + (IntKind.i64.wrap ((IntKind.i64.wrap (e61 * e62)) * e63))), x216, x51), ⟨K.pick [1,2,4,5,6,7,8,9,10,11,12,13,14,15], M.pick [0,1,2,3,4,5,6,7,8] (by decide)⟩, h⟩
            have h := cfalse hb h
            rcases Bool.eq_false_or_eq_true (decide (i17 = 2)) with hb | hb
            · have h := ctrue hb h
              have hj8 : i17 = 2 := of_decide_eq_true hb
              refine T_r K (rdv (v := .pointer (some ⟨g_x14, 2, none⟩)) (by rw [hj8]; rfl) (rd_ixA rfl ar38 sz3 K rfl rfl (by rw [hj8]; decide) (by rw [hj8]; decide))) ?_; clear K
              refine U_r (fun _ K => rd_ldC rfl sc3 K rfl (inM 2 rfl) rfl) ?_
              refine U_o ?_; intro a K
              obtain ⟨_, h0, h⟩ := obind h
              have h0 := inr_spec h0
              refine T_r K (rd_ixA rfl ar38 sz3 K rfl rfl h0.1 h0.2) ?_; clear K
              obtain ⟨e64, h_e64, h⟩ := obind h
              refine U_r (fun _ K => rd_ldIa rfl sc3 K rfl (inM 0 rfl) rfl rfl h_e64) ?_
              iterate 2 (refine U_o ?_)
              intro a K
              obtain ⟨_, h0, h⟩ := obind h
              have h0 := inr_spec h0
              refine T_r K (rd_ixA rfl ar38 sz3 K rfl rfl h0.1 h0.2) ?_; clear K
              obtain ⟨e65, h_e65, h⟩ := obind h
              refine U_r (fun _ K => rd_ldIa rfl sc3 K rfl (inM 5 rfl) rfl rfl h_e65) ?_
              iterate 3 (refine U_o ?_)
              intro a K
              obtain ⟨_, h0, h⟩ := obind h
              have h0 := inr_spec h0
              refine T_r K (rd_ixA rfl ar38 sz3 K rfl rfl h0.1 h0.2) ?_; clear K
              obtain ⟨e66, h_e66, h⟩ := obind h
              refine U_r (fun _ K => rd_ldIa rfl sc3 K rfl (inM 5 rfl) rfl rfl h_e66) ?_
              iterate 2 (refine U_o ?_)
              refine U_r (fun _ K => rdv (v := .pointer (some ⟨g_x14, 2, none⟩)) (by rw [hj8]; rfl) (rd_ixA rfl ar38 sz3 K rfl rfl (by rw [hj8]; decide) (by rw [hj8]; decide))) ?_; intro a K
              refine T_b K (ac_storeC rfl sc3 K rfl rfl rfl 2 M rfl rfl) ?_
              clear K M; rintro _ a w M K
              refine T_end ?_
              refine inb_n (then_n (X_reg ?_))
              refine X_o K M ?_; clear K
              refine Y_o M ?_
              obtain ⟨x52, hx, h⟩ := olet h
              refine Y_r (fun _ K => rdi hx (rd_assign rfl K rfl)) M ?_; intro a K
              refine wpList_nil ?_
              exact then_n ⟨(x014, x117, IntKind.i64.wrap (x216 + (IntKind.i64.wrap ((IntKind.i64.wrap (e64 * e65)) * e66))), x52), ⟨K.pick [1,2,4,5,6,7,8,9,10,11,12,13,14,15], M.pick [0,1,2,3,4,5,6,7,8] (by decide)⟩, h⟩
            have h := cfalse hb h
            cases h
          have h := cfalse hb h
          refine wp_exit ?_
          refine then_e ?_
          exact then_e (hk5 (x014, x117, x216, i17) _ _ ⟨K.pick [1,2,4,5,6,7,8,9,10,11,12,13,14,15], M.pick [0,1,2,3,4,5,6,7,8] (by decide)⟩ h)
        have h := cfalse hb h
        refine wp_exit ?_
        refine then_e ?_
        exact then_e (hk4 (x012, x115, x214, i15) _ _ ⟨K.pick [1,2,4,5,6,7,8,9,10,11,12,13], M.pick [0,1,2,3,4,5,6,7] (by decide)⟩ h)
      have h := cfalse hb h
      refine wp_exit ?_
      refine then_e ?_
      exact then_e (hk3 (x09, x112, x211, i12) _ _ ⟨K.pick [1,2,4,5,6,7,8,9,10,11,12], M.pick [0,1,2,3,4,5,6,7] (by decide)⟩ h)
    have h := cfalse hb h
    refine wp_exit ?_
    refine then_e ?_
    exact then_e (hk2 (x_P4, i7) _ _ ⟨A4, c4, K.pick [1,2,4,5,6,7,8], M.pick [0,1,2,3,4] (by decide)⟩ h)
  have h := cfalse hb h
  refine wp_exit ?_
  refine then_e ?_
  exact then_e (hk1 (x_P, i) _ _ ⟨A, c, K.pick [1,2,4,5,6,7], M.pick [0,1,2,3,4] (by decide)⟩ h)
end Go.Proofs.Ytpmnfhifmmfglab

namespace Go.Proofs.Ytpmnfhifmmfglab
open Go.RowKit
set_option maxRecDepth 100000 in
set_option maxHeartbeats 4000000 in
theorem W_darkslideref_WholeOf (N : Nat) (na : Int) (nb0 : Int) (nb1 : Int) (nb2 : Int) (nb3 : Int) (nc : Int) (nd : List (Int × Int)) (And : Option Addr) (cnd : Nat) (ne0 : Int) (ne1 : Int) (ne2 : Int) (nf0 : Int) (nf1 : Int) (nf2 : Int) (nf3 : Int) (nf4 : Int) (nf5 : Int) (nf6 : Int) (nf7 : Int) (nf8 : Int) (ng : List (Int × Int)) (Ang : Option Addr) (cng : Nat) (nh : Int) (p_W : Int) (p_H : Int) (p_P : List Int) (A_p_P : Option Addr) (c_p_P : Nat) (w0 : World) (Rnd : SL w0 cII And nd) (Cnd : nd.length ≤ cnd) (Rng : SL w0 cII Ang ng) (Cng : ng.length ≤ cng) (R_p_P : SL w0 (cI .i64) A_p_P p_P) (C_p_P : p_P.length ≤ c_p_P) (r : Int × Int × List (Int × Int × Int)) (h : D_darkslideref_WholeOf N na nb0 nb1 nb2 nb3 nc nd ne0 ne1 ne2 nf0 nf1 nf2 nf3 nf4 nf5 nf6 nf7 nf8 ng nh p_W p_H p_P = some r) :
    Calls Try.prog 17 #[.agg #[I na, I nb0, I nb1, I nb2, I nb3, I nc, .slice And nd.length cnd, I ne0, I ne1, I ne2, I nf0, I nf1, I nf2, I nf3, I nf4, I nf5, I nf6, I nf7, I nf8, .slice Ang ng.length cng, I nh], .agg #[I p_W, I p_H, .slice A_p_P p_P.length c_p_P]] w0 fun e w' => ∃ v, e = .returned v ∧ ∃ A2 c2, v = .agg #[I r.1, I r.2.1, .slice A2 r.2.2.length c2] ∧ Mem w0.heap.size w0 w' [.row 34 3 A2 r.2.2.length c2 (cIII.all r.2.2)] := by
  refine X_enter Try.func17 rfl Try.ntmps17 rfl ?_
  intro a K
  have M := Mem.start w0
  have K : Kn a 33 [(0, .agg #[I na, I nb0, I nb1, I nb2, I nb3, I nc, .slice And nd.length cnd, I ne0, I ne1, I ne2, I nf0, I nf1, I nf2, I nf3, I nf4, I nf5, I nf6, I nf7, I nf8, .slice Ang ng.length cng, I nh]), (1, .agg #[I p_W, I p_H, .slice A_p_P p_P.length c_p_P])] := K
  unfold D_darkslideref_WholeOf at h
  refine wp_seq (X_reg ?_)
  refine X_a K (ac_box rfl K rfl (cs := [I na, I nb0, I nb1, I nb2, I nb3, I nc, .slice And nd.length cnd, I ne0, I ne1, I ne2, I nf0, I nf1, I nf2, I nf3, I nf4, I nf5, I nf6, I nf7, I nf8, .slice Ang ng.length cng, I nh]) rfl M) ?_
  clear K M; rintro _ a w ⟨g_n, rfl, M⟩ K
  refine X_a K (ac_box rfl K rfl (cs := [I p_W, I p_H, .slice A_p_P p_P.length c_p_P]) rfl M) ?_
  clear K M; rintro _ a w ⟨g_p, rfl, M⟩ K
  refine X_a K (ac_alloc rfl z24 M) ?_
  clear K M; rintro _ a w ⟨g_x, rfl, M⟩ K
  refine wpList_nil (then_n (wp_seq ?_))
  refine wp_region_tr (fun w => Mem _ _ w _) [0,0,0,0,0,1,0,0,1,0,0,0,0,1,1,2] 16 [0,1,2,3,4,5,6,7,8,9,10,11,12,13,14,15] (by kernel_rfl) (by kernel_rfl) (by kernel_rfl) rfl M.drew ?_
  replace M := M.drew
  refine R_rd 0 [1,2,3,4,5,6,7,8,9,10,11,12,13,14,15] (by kernel_rfl) rfl K (want_no rfl) rfl rfl (rd_ldA rfl ty45 K rfl (inM 1 rfl) rfl rfl) ?_; clear K; intro a K
  refine R_rd 1 [2,3,4,5,6,7,8,9,10,11,12,13,14,15] (by kernel_rfl) rfl K (want_no rfl) rfl rfl (rd_field rfl fld42_1 K rfl) ?_; clear K; intro a K
  refine R_rd 2 [3,4,5,6,7,8,9,10,11,12,13,14,15] (by kernel_rfl) rfl K (want_no rfl) rfl rfl (rd_ldA rfl ty36 K rfl (inM 2 rfl) rfl rfl) ?_; clear K; intro a K
  refine R_rd 3 [4,5,6,7,8,9,10,11,12,13,14,15] (by kernel_rfl) rfl K (want_no rfl) rfl rfl (rd_field rfl fld42_2 K rfl) ?_; clear K; intro a K
  refine R_rd 4 [5,6,7,8,9,10,11,12,13,14,15] (by kernel_rfl) rfl K (want_no rfl) rfl rfl (rd_ldC rfl sc3 K rfl (inM 2 rfl) rfl) ?_; clear K; intro a K
  refine R_rd 6 [5,7,8,9,10,11,12,13,14,15] (by kernel_rfl) rfl K (want_no rfl) rfl rfl (rd_field rfl fld42_3 K rfl) ?_; clear K; intro a K
  refine R_rd 7 [5,8,9,10,11,12,13,14,15] (by kernel_rfl) rfl K (want_no rfl) rfl rfl (rd_ldC rfl sc37 K rfl (inM 2 rfl) rfl) ?_; clear K; intro a K
  refine R_rd 9 [5,8,10,11,12,13,14,15] (by kernel_rfl) rfl K (want_no rfl) rfl rfl (rd_field rfl fld42_0 K rfl) ?_; clear K; intro a K
  refine R_rd 10 [5,8,11,12,13,14,15] (by kernel_rfl) rfl K (want_no rfl) rfl rfl (rd_ldC rfl sc3 K rfl (inM 2 rfl) rfl) ?_; clear K; intro a K
  refine R_rd 11 [5,8,12,13,14,15] (by kernel_rfl) rfl K (want_no rfl) rfl rfl (rd_field rfl fld42_4 K rfl) ?_; clear K; intro a K
  refine R_rd 12 [5,8,13,14,15] (by kernel_rfl) rfl K (want_no rfl) rfl rfl (rd_ldA rfl ty38 K rfl (inM 2 rfl) rfl rfl) ?_; clear K; intro a K
  refine R_br [5,14] (by kernel_rfl) ⟨?_, ?_, trivial⟩
  ·
    obtain ⟨r2, h_r2, h⟩ := obind h
    refine R_ac [8,13,14,15] (by kernel_rfl) rfl K (want_no rfl) rfl rfl (ac_call (vs := [.agg #[I p_W, I p_H, .slice A_p_P p_P.length c_p_P], .agg #[I nb0, I nb1, I nb2, I nb3], I nc]) (cap := []) rfl fok43 K rfl rfl (W_darkslideref_Levelled N p_W p_H p_P A_p_P c_p_P nb0 nb1 nb2 nb3 nc _ ((inA R_p_P) _ M) C_p_P r2 h_r2)) ?_
    have M0 := M; clear K M; rintro _ a w ⟨A, c, rfl, M⟩ K
    replace M := M0.call M; clear M0
    refine ⟨fun _ => M.pick [1,2,3] (by decide), ?_⟩
    refine R_br [8,14] (by kernel_rfl) ⟨?_, ?_, trivial⟩
    ·
      obtain ⟨r3, h_r3, h⟩ := obind h
      refine R_ac [13,14,15] (by kernel_rfl) rfl K (want_no rfl) rfl rfl (ac_call (vs := [.agg #[I r2.1, I r2.2.1, .slice A r2.2.2.length c], .slice And nd.length cnd]) (cap := []) rfl fok42 K rfl rfl (W_darkslideref_Repaired N r2.1 r2.2.1 r2.2.2 A c nd And cnd _ ((inR (C := (cI .i64)) 0 rfl rfl) _ M) (M.cap 0 rfl) ((inA Rnd) _ M) Cnd r3 h_r3)) ?_
      have M0 := M; clear K M; rintro _ a w ⟨A2, c2, rfl, M⟩ K
      replace M := M0.call M; clear M0
      refine ⟨fun _ => M.pick [2,3,4] (by decide), ?_⟩
      refine R_br [13,14] (by kernel_rfl) ⟨?_, ?_, trivial⟩
      ·
        obtain ⟨r4, h_r4, h⟩ := obind h
        refine R_ac [14,15] (by kernel_rfl) rfl K (want_no rfl) rfl rfl (ac_call (vs := [.agg #[I r3.1, I r3.2.1, .slice A2 r3.2.2.length c2], I na, .agg #[I ne0, I ne1, I ne2]]) (cap := []) rfl fok41 K rfl rfl (W_darkslideref_Gained N r3.1 r3.2.1 r3.2.2 A2 c2 na ne0 ne1 ne2 _ ((inR (C := (cI .i64)) 0 rfl rfl) _ M) (M.cap 0 rfl) r4 h_r4)) ?_
        have M0 := M; clear K M; rintro _ a w ⟨A3, c3, rfl, M⟩ K
        replace M := M0.call M; clear M0
        refine ⟨fun _ => M.pick [3,4,5] (by decide), ?_⟩
        refine R_br [14] (by kernel_rfl) ⟨?_, trivial⟩
        refine R_ac [15] (by kernel_rfl) rfl K (want_no rfl) rfl rfl (ac_alloc rfl z45 M) ?_
        clear K M; rintro _ a w ⟨g_a, rfl, M⟩ K
        refine ⟨fun _ => M.pick [4,5,6] (by decide), ?_⟩
        refine R_br [15] (by kernel_rfl) ⟨?_, trivial⟩
        refine R_a0 [] (by kernel_rfl) rfl K (want_no rfl) rfl (ac_storeA rfl ty45 K rfl (ds := [I r4.1, I r4.2.1, .slice A3 r4.2.2.length c3]) rfl rfl 0 M rfl rfl rfl) ?_
        clear K M; rintro _ a w M K
        refine ⟨fun h => absurd h (by decide), ?_⟩
        refine R_end ?_
        refine then_n (wp_seq ?_)
        refine wp_region_tl (fun w => Mem _ _ w _) [0,0,0,1,0,0,1,0,0,1,0,0,1,2] (by kernel_rfl) (by kernel_rfl) M.drew ?_
        replace M := M.drew
        refine T_r K (rd_ldA rfl ty45 K rfl (inM 0 rfl) rfl rfl) ?_; clear K
        refine U_r (fun _ K => rd_field rfl fld42_0 K rfl) ?_
        refine U_r (fun _ K => rd_ldC rfl sc3 K rfl (inM 6 rfl) rfl) ?_; intro a K
        obtain ⟨r5, h_r5, h⟩ := obind h
        refine T_a K (ac_call (vs := [.agg #[I r4.1, I r4.2.1, .slice A3 r4.2.2.length c3], I na]) (cap := []) rfl fok46 K rfl rfl (W_darkslideref_Filled N r4.1 r4.2.1 r4.2.2 A3 c3 na _ ((inR (C := (cI .i64)) 1 rfl rfl) _ M) (M.cap 1 rfl) r5 h_r5)) ?_
        have M0 := M; clear K M; rintro _ a w ⟨A4, c4, rfl, M⟩ K
        replace M := M0.call M; clear M0
        refine ⟨M.pick [1,2,3,4,5,6,7] (by decide), ?_⟩
        refine T_r K (rd_field rfl fld42_5 K rfl) ?_; clear K
        refine U_r (fun _ K => rd_ldA rfl ty39 K rfl (inM 6 rfl) rfl rfl) ?_; intro a K
        obtain ⟨r6, h_r6, h⟩ := obind h
        refine T_a K (ac_call (vs := [.agg #[I r5.1, I r5.2.1, .slice A4 r5.2.2.length c4], .agg #[I nf0, I nf1, I nf2, I nf3, I nf4, I nf5, I nf6, I nf7, I nf8]]) (cap := []) rfl fok45 K rfl rfl (W_darkslideref_Mixed N r5.1 r5.2.1 r5.2.2 A4 c4 nf0 nf1 nf2 nf3 nf4 nf5 nf6 nf7 nf8 _ ((inR (C := cIII) 0 rfl rfl) _ M) (M.cap 0 rfl) r6 h_r6)) ?_
        have M0 := M; clear K M; rintro _ a w ⟨A5, c5, rfl, M⟩ K
        replace M := M0.call M; clear M0
        refine ⟨M.pick [2,3,4,5,6,7,8] (by decide), ?_⟩
        refine T_r K (rd_field rfl fld42_6 K rfl) ?_; clear K
        refine U_r (fun _ K => rd_ldC rfl sc40 K rfl (inM 6 rfl) rfl) ?_; intro a K
        obtain ⟨r7, h_r7, h⟩ := obind h
        refine T_a K (ac_call (vs := [.agg #[I r6.1, I r6.2.1, .slice A5 r6.2.2.length c5], .slice Ang ng.length cng]) (cap := []) rfl fok44 K rfl rfl (W_darkslideref_Bent N r6.1 r6.2.1 r6.2.2 A5 c5 ng Ang cng _ ((inR (C := cIII) 0 rfl rfl) _ M) (M.cap 0 rfl) ((inA Rng) _ M) Cng r7 h_r7)) ?_
        have M0 := M; clear K M; rintro _ a w ⟨A6, c6, rfl, M⟩ K
        replace M := M0.call M; clear M0
        refine ⟨M.pick [3,4,5,6,7,8,9] (by decide), ?_⟩
        refine T_r K (rd_field rfl fld42_7 K rfl) ?_; clear K
        refine U_r (fun _ K => rd_ldC rfl sc3 K rfl (inM 6 rfl) rfl) ?_; intro a K
        obtain ⟨r8, h_r8, h⟩ := obind h
        refine T_a K (ac_call (vs := [.agg #[I r7.1, I r7.2.1, .slice A6 r7.2.2.length c6], I nh]) (cap := []) rfl fok12 K rfl rfl (W_darkslideref_Sharp N r7.1 r7.2.1 r7.2.2 A6 c6 nh _ ((inR (C := cIII) 0 rfl rfl) _ M) (M.cap 0 rfl) r8 h_r8)) ?_
        have M0 := M; clear K M; rintro _ a w ⟨A7, c7, rfl, M⟩ K
        replace M := M0.call M; clear M0
        refine ⟨M.pick [4,5,6,7,8,9,10] (by decide), ?_⟩
        refine T_b K (ac_storeA rfl ty24 K rfl (ds := [I r8.1, I r8.2.1, .slice A7 r8.2.2.length c7]) rfl rfl 8 M rfl rfl rfl) ?_
        clear K M; rintro _ a w M K
        refine T_end ?_
        refine then_n (wp_ret ?_)
        cases h
        exact ret1 K rfl (res_cellA K rfl ty24 (M.blkAt (i := 8) rfl) rfl) ⟨_, rfl, _, _, rfl, ((M).pick [0] (by decide))⟩
      ·
        refine R_ac [13,15] (by kernel_rfl) rfl K (want_no rfl) rfl rfl (ac_alloc rfl z45 M) ?_
        clear K M; rintro _ a w ⟨g_a2, rfl, M⟩ K
        refine ⟨fun _ => M.pick [3,4,5] (by decide), ?_⟩
        refine R_br [13] (by kernel_rfl) ⟨?_, trivial⟩
        obtain ⟨r9, h_r9, h⟩ := obind h
        refine R_ac [15] (by kernel_rfl) rfl K (want_no rfl) rfl rfl (ac_call (vs := [.agg #[I r3.1, I r3.2.1, .slice A2 r3.2.2.length c2], I na, .agg #[I ne0, I ne1, I ne2]]) (cap := []) rfl fok41 K rfl rfl (W_darkslideref_Gained N r3.1 r3.2.1 r3.2.2 A2 c2 na ne0 ne1 ne2 _ ((inR (C := (cI .i64)) 1 rfl rfl) _ M) (M.cap 1 rfl) r9 h_r9)) ?_
        have M0 := M; clear K M; rintro _ a w ⟨A8, c8, rfl, M⟩ K
        replace M := M0.call M; clear M0
        refine ⟨fun _ => M.pick [4,5,6] (by decide), ?_⟩
        refine R_br [15] (by kernel_rfl) ⟨?_, trivial⟩
        refine R_a0 [] (by kernel_rfl) rfl K (want_no rfl) rfl (ac_storeA rfl ty45 K rfl (ds := [I r9.1, I r9.2.1, .slice A8 r9.2.2.length c8]) rfl rfl 1 M rfl rfl rfl) ?_
        clear K M; rintro _ a w M K
        refine ⟨fun h => absurd h (by decide), ?_⟩
        refine R_end ?_
        refine then_n (wp_seq ?_)
        refine wp_region_tl (fun w => Mem _ _ w _) [0,0,0,1,0,0,1,0,0,1,0,0,1,2] (by kernel_rfl) (by kernel_rfl) M.drew ?_
        replace M := M.drew
        refine T_r K (rd_ldA rfl ty45 K rfl (inM 1 rfl) rfl rfl) ?_; clear K
        refine U_r (fun _ K => rd_field rfl fld42_0 K rfl) ?_
        refine U_r (fun _ K => rd_ldC rfl sc3 K rfl (inM 6 rfl) rfl) ?_; intro a K
        obtain ⟨r10, h_r10, h⟩ := obind h
        refine T_a K (ac_call (vs := [.agg #[I r9.1, I r9.2.1, .slice A8 r9.2.2.length c8], I na]) (cap := []) rfl fok46 K rfl rfl (W_darkslideref_Filled N r9.1 r9.2.1 r9.2.2 A8 c8 na _ ((inR (C := (cI .i64)) 0 rfl rfl) _ M) (M.cap 0 rfl) r10 h_r10)) ?_
        have M0 := M; clear K M; rintro _ a w ⟨A9, c9, rfl, M⟩ K
        replace M := M0.call M; clear M0
        refine ⟨M.pick [1,2,3,4,5,6,7] (by decide), ?_⟩
        refine T_r K (rd_field rfl fld42_5 K rfl) ?_; clear K
        refine U_r (fun _ K => rd_ldA rfl ty39 K rfl (inM 6 rfl) rfl rfl) ?_; intro a K
        obtain ⟨r11, h_r11, h⟩ := obind h
        refine T_a K (ac_call (vs := [.agg #[I r10.1, I r10.2.1, .slice A9 r10.2.2.length c9], .agg #[I nf0, I nf1, I nf2, I nf3, I nf4, I nf5, I nf6, I nf7, I nf8]]) (cap := []) rfl fok45 K rfl rfl (W_darkslideref_Mixed N r10.1 r10.2.1 r10.2.2 A9 c9 nf0 nf1 nf2 nf3 nf4 nf5 nf6 nf7 nf8 _ ((inR (C := cIII) 0 rfl rfl) _ M) (M.cap 0 rfl) r11 h_r11)) ?_
        have M0 := M; clear K M; rintro _ a w ⟨A10, c10, rfl, M⟩ K
        replace M := M0.call M; clear M0
        refine ⟨M.pick [2,3,4,5,6,7,8] (by decide), ?_⟩
        refine T_r K (rd_field rfl fld42_6 K rfl) ?_; clear K
        refine U_r (fun _ K => rd_ldC rfl sc40 K rfl (inM 6 rfl) rfl) ?_; intro a K
        obtain ⟨r12, h_r12, h⟩ := obind h
        refine T_a K (ac_call (vs := [.agg #[I r11.1, I r11.2.1, .slice A10 r11.2.2.length c10], .slice Ang ng.length cng]) (cap := []) rfl fok44 K rfl rfl (W_darkslideref_Bent N r11.1 r11.2.1 r11.2.2 A10 c10 ng Ang cng _ ((inR (C := cIII) 0 rfl rfl) _ M) (M.cap 0 rfl) ((inA Rng) _ M) Cng r12 h_r12)) ?_
        have M0 := M; clear K M; rintro _ a w ⟨A11, c11, rfl, M⟩ K
        replace M := M0.call M; clear M0
        refine ⟨M.pick [3,4,5,6,7,8,9] (by decide), ?_⟩
        refine T_r K (rd_field rfl fld42_7 K rfl) ?_; clear K
        refine U_r (fun _ K => rd_ldC rfl sc3 K rfl (inM 6 rfl) rfl) ?_; intro a K
        obtain ⟨r13, h_r13, h⟩ := obind h
        refine T_a K (ac_call (vs := [.agg #[I r12.1, I r12.2.1, .slice A11 r12.2.2.length c11], I nh]) (cap := []) rfl fok12 K rfl rfl (W_darkslideref_Sharp N r12.1 r12.2.1 r12.2.2 A11 c11 nh _ ((inR (C := cIII) 0 rfl rfl) _ M) (M.cap 0 rfl) r13 h_r13)) ?_
        have M0 := M; clear K M; rintro _ a w ⟨A12, c12, rfl, M⟩ K
        replace M := M0.call M; clear M0
        refine ⟨M.pick [4,5,6,7,8,9,10] (by decide), ?_⟩
        refine T_b K (ac_storeA rfl ty24 K rfl (ds := [I r13.1, I r13.2.1, .slice A12 r13.2.2.length c12]) rfl rfl 8 M rfl rfl rfl) ?_
        clear K M; rintro _ a w M K
        refine T_end ?_
        refine then_n (wp_ret ?_)
        cases h
        exact ret1 K rfl (res_cellA K rfl ty24 (M.blkAt (i := 8) rfl) rfl) ⟨_, rfl, _, _, rfl, ((M).pick [0] (by decide))⟩
    ·
      refine R_ac [8,13,15] (by kernel_rfl) rfl K (want_no rfl) rfl rfl (ac_alloc rfl z45 M) ?_
      clear K M; rintro _ a w ⟨g_a3, rfl, M⟩ K
      refine ⟨fun _ => M.pick [2,3,4] (by decide), ?_⟩
      refine R_br [8] (by kernel_rfl) ⟨?_, trivial⟩
      obtain ⟨r14, h_r14, h⟩ := obind h
      refine R_ac [13,15] (by kernel_rfl) rfl K (want_no rfl) rfl rfl (ac_call (vs := [.agg #[I r2.1, I r2.2.1, .slice A r2.2.2.length c], .slice And nd.length cnd]) (cap := []) rfl fok42 K rfl rfl (W_darkslideref_Repaired N r2.1 r2.2.1 r2.2.2 A c nd And cnd _ ((inR (C := (cI .i64)) 1 rfl rfl) _ M) (M.cap 1 rfl) ((inA Rnd) _ M) Cnd r14 h_r14)) ?_
      have M0 := M; clear K M; rintro _ a w ⟨A13, c13, rfl, M⟩ K
      replace M := M0.call M; clear M0
      refine ⟨fun _ => M.pick [3,4,5] (by decide), ?_⟩
      refine R_br [13] (by kernel_rfl) ⟨?_, trivial⟩
      obtain ⟨r15, h_r15, h⟩ := obind h
      refine R_ac [15] (by kernel_rfl) rfl K (want_no rfl) rfl rfl (ac_call (vs := [.agg #[I r14.1, I r14.2.1, .slice A13 r14.2.2.length c13], I na, .agg #[I ne0, I ne1, I ne2]]) (cap := []) rfl fok41 K rfl rfl (W_darkslideref_Gained N r14.1 r14.2.1 r14.2.2 A13 c13 na ne0 ne1 ne2 _ ((inR (C := (cI .i64)) 0 rfl rfl) _ M) (M.cap 0 rfl) r15 h_r15)) ?_
      have M0 := M; clear K M; rintro _ a w ⟨A14, c14, rfl, M⟩ K
      replace M := M0.call M; clear M0
      refine ⟨fun _ => M.pick [4,5,6] (by decide), ?_⟩
      refine R_br [15] (by kernel_rfl) ⟨?_, trivial⟩
      refine R_a0 [] (by kernel_rfl) rfl K (want_no rfl) rfl (ac_storeA rfl ty45 K rfl (ds := [I r15.1, I r15.2.1, .slice A14 r15.2.2.length c14]) rfl rfl 2 M rfl rfl rfl) ?_
      clear K M; rintro _ a w M K
      refine ⟨fun h => absurd h (by decide), ?_⟩
      refine R_end ?_
      refine then_n (wp_seq ?_)
      refine wp_region_tl (fun w => Mem _ _ w _) [0,0,0,1,0,0,1,0,0,1,0,0,1,2] (by kernel_rfl) (by kernel_rfl) M.drew ?_
      replace M := M.drew
      refine T_r K (rd_ldA rfl ty45 K rfl (inM 2 rfl) rfl rfl) ?_; clear K
      refine U_r (fun _ K => rd_field rfl fld42_0 K rfl) ?_
      refine U_r (fun _ K => rd_ldC rfl sc3 K rfl (inM 6 rfl) rfl) ?_; intro a K
      obtain ⟨r16, h_r16, h⟩ := obind h
      refine T_a K (ac_call (vs := [.agg #[I r15.1, I r15.2.1, .slice A14 r15.2.2.length c14], I na]) (cap := []) rfl fok46 K rfl rfl (W_darkslideref_Filled N r15.1 r15.2.1 r15.2.2 A14 c14 na _ ((inR (C := (cI .i64)) 0 rfl rfl) _ M) (M.cap 0 rfl) r16 h_r16)) ?_
      have M0 := M; clear K M; rintro _ a w ⟨A15, c15, rfl, M⟩ K
      replace M := M0.call M; clear M0
      refine ⟨M.pick [1,2,3,4,5,6,7] (by decide), ?_⟩
      refine T_r K (rd_field rfl fld42_5 K rfl) ?_; clear K
      refine U_r (fun _ K => rd_ldA rfl ty39 K rfl (inM 6 rfl) rfl rfl) ?_; intro a K
      obtain ⟨r17, h_r17, h⟩ := obind h
      refine T_a K (ac_call (vs := [.agg #[I r16.1, I r16.2.1, .slice A15 r16.2.2.length c15], .agg #[I nf0, I nf1, I nf2, I nf3, I nf4, I nf5, I nf6, I nf7, I nf8]]) (cap := []) rfl fok45 K rfl rfl (W_darkslideref_Mixed N r16.1 r16.2.1 r16.2.2 A15 c15 nf0 nf1 nf2 nf3 nf4 nf5 nf6 nf7 nf8 _ ((inR (C := cIII) 0 rfl rfl) _ M) (M.cap 0 rfl) r17 h_r17)) ?_
      have M0 := M; clear K M; rintro _ a w ⟨A16, c16, rfl, M⟩ K
      replace M := M0.call M; clear M0
      refine ⟨M.pick [2,3,4,5,6,7,8] (by decide), ?_⟩
      refine T_r K (rd_field rfl fld42_6 K rfl) ?_; clear K
      refine U_r (fun _ K => rd_ldC rfl sc40 K rfl (inM 6 rfl) rfl) ?_; intro a K
      obtain ⟨r18, h_r18, h⟩ := obind h
      refine T_a K (ac_call (vs := [.agg #[I r17.1, I r17.2.1, .slice A16 r17.2.2.length c16], .slice Ang ng.length cng]) (cap := []) rfl fok44 K rfl rfl (W_darkslideref_Bent N r17.1 r17.2.1 r17.2.2 A16 c16 ng Ang cng _ ((inR (C := cIII) 0 rfl rfl) _ M) (M.cap 0 rfl) ((inA Rng) _ M) Cng r18 h_r18)) ?_
      have M0 := M; clear K M; rintro _ a w ⟨A17, c17, rfl, M⟩ K
      replace M := M0.call M; clear M0
      refine ⟨M.pick [3,4,5,6,7,8,9] (by decide), ?_⟩
      refine T_r K (rd_field rfl fld42_7 K rfl) ?_; clear K
      refine U_r (fun _ K => rd_ldC rfl sc3 K rfl (inM 6 rfl) rfl) ?_; intro a K
      obtain ⟨r19, h_r19, h⟩ := obind h
      refine T_a K (ac_call (vs := [.agg #[I r18.1, I r18.2.1, .slice A17 r18.2.2.length c17], I nh]) (cap := []) rfl fok12 K rfl rfl (W_darkslideref_Sharp N r18.1 r18.2.1 r18.2.2 A17 c17 nh _ ((inR (C := cIII) 0 rfl rfl) _ M) (M.cap 0 rfl) r19 h_r19)) ?_
      have M0 := M; clear K M; rintro _ a w ⟨A18, c18, rfl, M⟩ K
      replace M := M0.call M; clear M0
      refine ⟨M.pick [4,5,6,7,8,9,10] (by decide), ?_⟩
      refine T_b K (ac_storeA rfl ty24 K rfl (ds := [I r19.1, I r19.2.1, .slice A18 r19.2.2.length c18]) rfl rfl 8 M rfl rfl rfl) ?_
      clear K M; rintro _ a w M K
      refine T_end ?_
      refine then_n (wp_ret ?_)
      cases h
      exact ret1 K rfl (res_cellA K rfl ty24 (M.blkAt (i := 8) rfl) rfl) ⟨_, rfl, _, _, rfl, ((M).pick [0] (by decide))⟩
  ·
    refine R_ac [5,8,13,15] (by kernel_rfl) rfl K (want_no rfl) rfl rfl (ac_alloc rfl z45 M) ?_
    clear K M; rintro _ a w ⟨g_a4, rfl, M⟩ K
    refine ⟨fun _ => M.pick [1,2,3] (by decide), ?_⟩
    refine R_br [5] (by kernel_rfl) ⟨?_, trivial⟩
    obtain ⟨r20, h_r20, h⟩ := obind h
    refine R_ac [8,13,15] (by kernel_rfl) rfl K (want_no rfl) rfl rfl (ac_call (vs := [.agg #[I p_W, I p_H, .slice A_p_P p_P.length c_p_P], .agg #[I nb0, I nb1, I nb2, I nb3], I nc]) (cap := []) rfl fok43 K rfl rfl (W_darkslideref_Levelled N p_W p_H p_P A_p_P c_p_P nb0 nb1 nb2 nb3 nc _ ((inA R_p_P) _ M) C_p_P r20 h_r20)) ?_
    have M0 := M; clear K M; rintro _ a w ⟨A19, c19, rfl, M⟩ K
    replace M := M0.call M; clear M0
    refine ⟨fun _ => M.pick [2,3,4] (by decide), ?_⟩
    refine R_br [8] (by kernel_rfl) ⟨?_, trivial⟩
    obtain ⟨r21, h_r21, h⟩ := obind h
    refine R_ac [13,15] (by kernel_rfl) rfl K (want_no rfl) rfl rfl (ac_call (vs := [.agg #[I r20.1, I r20.2.1, .slice A19 r20.2.2.length c19], .slice And nd.length cnd]) (cap := []) rfl fok42 K rfl rfl (W_darkslideref_Repaired N r20.1 r20.2.1 r20.2.2 A19 c19 nd And cnd _ ((inR (C := (cI .i64)) 0 rfl rfl) _ M) (M.cap 0 rfl) ((inA Rnd) _ M) Cnd r21 h_r21)) ?_
    have M0 := M; clear K M; rintro _ a w ⟨A20, c20, rfl, M⟩ K
    replace M := M0.call M; clear M0
    refine ⟨fun _ => M.pick [3,4,5] (by decide), ?_⟩
    refine R_br [13] (by kernel_rfl) ⟨?_, trivial⟩
    obtain ⟨r22, h_r22, h⟩ := obind h
    refine R_ac [15] (by kernel_rfl) rfl K (want_no rfl) rfl rfl (ac_call (vs := [.agg #[I r21.1, I r21.2.1, .slice A20 r21.2.2.length c20], I na, .agg #[I ne0, I ne1, I ne2]]) (cap := []) rfl fok41 K rfl rfl (W_darkslideref_Gained N r21.1 r21.2.1 r21.2.2 A20 c20 na ne0 ne1 ne2 _ ((inR (C := (cI .i64)) 0 rfl rfl) _ M) (M.cap 0 rfl) r22 h_r22)) ?_
    have M0 := M; clear K M; rintro _ a w ⟨A21, c21, rfl, M⟩ K
    replace M := M0.call M; clear M0
    refine ⟨fun _ => M.pick [4,5,6] (by decide), ?_⟩
    refine R_br [15] (by kernel_rfl) ⟨?_, trivial⟩
    refine R_a0 [] (by kernel_rfl) rfl K (want_no rfl) rfl (ac_storeA rfl ty45 K rfl (ds := [I r22.1, I r22.2.1, .slice A21 r22.2.2.length c21]) rfl rfl 3 M rfl rfl rfl) ?_
    clear K M; rintro _ a w M K
    refine ⟨fun h => absurd h (by decide), ?_⟩
    refine R_end ?_
    refine then_n (wp_seq ?_)
    refine wp_region_tl (fun w => Mem _ _ w _) [0,0,0,1,0,0,1,0,0,1,0,0,1,2] (by kernel_rfl) (by kernel_rfl) M.drew ?_
    replace M := M.drew
    refine T_r K (rd_ldA rfl ty45 K rfl (inM 3 rfl) rfl rfl) ?_; clear K
    refine U_r (fun _ K => rd_field rfl fld42_0 K rfl) ?_
    refine U_r (fun _ K => rd_ldC rfl sc3 K rfl (inM 6 rfl) rfl) ?_; intro a K
    obtain ⟨r23, h_r23, h⟩ := obind h
    refine T_a K (ac_call (vs := [.agg #[I r22.1, I r22.2.1, .slice A21 r22.2.2.length c21], I na]) (cap := []) rfl fok46 K rfl rfl (W_darkslideref_Filled N r22.1 r22.2.1 r22.2.2 A21 c21 na _ ((inR (C := (cI .i64)) 0 rfl rfl) _ M) (M.cap 0 rfl) r23 h_r23)) ?_
    have M0 := M; clear K M; rintro _ a w ⟨A22, c22, rfl, M⟩ K
    replace M := M0.call M; clear M0
    refine ⟨M.pick [1,2,3,4,5,6,7] (by decide), ?_⟩
    refine T_r K (rd_field rfl fld42_5 K rfl) ?_; clear K
    refine U_r (fun _ K => rd_ldA rfl ty39 K rfl (inM 6 rfl) rfl rfl) ?_; intro a K
    obtain ⟨r24, h_r24, h⟩ := obind h
    refine T_a K (ac_call (vs := [.agg #[I r23.1, I r23.2.1, .slice A22 r23.2.2.length c22], .agg #[I nf0, I nf1, I nf2, I nf3, I nf4, I nf5, I nf6, I nf7, I nf8]]) (cap := []) rfl fok45 K rfl rfl (W_darkslideref_Mixed N r23.1 r23.2.1 r23.2.2 A22 c22 nf0 nf1 nf2 nf3 nf4 nf5 nf6 nf7 nf8 _ ((inR (C := cIII) 0 rfl rfl) _ M) (M.cap 0 rfl) r24 h_r24)) ?_
    have M0 := M; clear K M; rintro _ a w ⟨A23, c23, rfl, M⟩ K
    replace M := M0.call M; clear M0
    refine ⟨M.pick [2,3,4,5,6,7,8] (by decide), ?_⟩
    refine T_r K (rd_field rfl fld42_6 K rfl) ?_; clear K
    refine U_r (fun _ K => rd_ldC rfl sc40 K rfl (inM 6 rfl) rfl) ?_; intro a K
    obtain ⟨r25, h_r25, h⟩ := obind h
    refine T_a K (ac_call (vs := [.agg #[I r24.1, I r24.2.1, .slice A23 r24.2.2.length c23], .slice Ang ng.length cng]) (cap := []) rfl fok44 K rfl rfl (W_darkslideref_Bent N r24.1 r24.2.1 r24.2.2 A23 c23 ng Ang cng _ ((inR (C := cIII) 0 rfl rfl) _ M) (M.cap 0 rfl) ((inA Rng) _ M) Cng r25 h_r25)) ?_
    have M0 := M; clear K M; rintro _ a w ⟨A24, c24, rfl, M⟩ K
    replace M := M0.call M; clear M0
    refine ⟨M.pick [3,4,5,6,7,8,9] (by decide), ?_⟩
    refine T_r K (rd_field rfl fld42_7 K rfl) ?_; clear K
    refine U_r (fun _ K => rd_ldC rfl sc3 K rfl (inM 6 rfl) rfl) ?_; intro a K
    obtain ⟨r26, h_r26, h⟩ := obind h
    refine T_a K (ac_call (vs := [.agg #[I r25.1, I r25.2.1, .slice A24 r25.2.2.length c24], I nh]) (cap := []) rfl fok12 K rfl rfl (W_darkslideref_Sharp N r25.1 r25.2.1 r25.2.2 A24 c24 nh _ ((inR (C := cIII) 0 rfl rfl) _ M) (M.cap 0 rfl) r26 h_r26)) ?_
    have M0 := M; clear K M; rintro _ a w ⟨A25, c25, rfl, M⟩ K
    replace M := M0.call M; clear M0
    refine ⟨M.pick [4,5,6,7,8,9,10] (by decide), ?_⟩
    refine T_b K (ac_storeA rfl ty24 K rfl (ds := [I r26.1, I r26.2.1, .slice A25 r26.2.2.length c25]) rfl rfl 8 M rfl rfl rfl) ?_
    clear K M; rintro _ a w M K
    refine T_end ?_
    refine then_n (wp_ret ?_)
    cases h
    exact ret1 K rfl (res_cellA K rfl ty24 (M.blkAt (i := 8) rfl) rfl) ⟨_, rfl, _, _, rfl, ((M).pick [0] (by decide))⟩
end Go.Proofs.Ytpmnfhifmmfglab

namespace Go.Proofs.Ytpmnfhifmmfglab
open Go.RowKit
set_option maxRecDepth 100000 in
set_option maxHeartbeats 4000000 in
theorem W_darkslidelaw_LineStrips (N : Nat) (na : Int) (nb0 : Int) (nb1 : Int) (nb2 : Int) (nb3 : Int) (nc : Int) (nd : List (Int × Int)) (And : Option Addr) (cnd : Nat) (ne0 : Int) (ne1 : Int) (ne2 : Int) (nf0 : Int) (nf1 : Int) (nf2 : Int) (nf3 : Int) (nf4 : Int) (nf5 : Int) (nf6 : Int) (nf7 : Int) (nf8 : Int) (ng : List (Int × Int)) (Ang : Option Addr) (cng : Nat) (nh : Int) (p_W : Int) (p_H : Int) (p_P : List Int) (A_p_P : Option Addr) (c_p_P : Nat) (rows : Int) (w0 : World) (Rnd : SL w0 cII And nd) (Cnd : nd.length ≤ cnd) (Rng : SL w0 cII Ang ng) (Cng : ng.length ≤ cng) (R_p_P : SL w0 (cI .i64) A_p_P p_P) (C_p_P : p_P.length ≤ c_p_P) (r : Bool) (h : D_darkslidelaw_LineStrips N na nb0 nb1 nb2 nb3 nc nd ne0 ne1 ne2 nf0 nf1 nf2 nf3 nf4 nf5 nf6 nf7 nf8 ng nh p_W p_H p_P rows = some r) :
    Calls Try.prog 7 #[.agg #[I na, I nb0, I nb1, I nb2, I nb3, I nc, .slice And nd.length cnd, I ne0, I ne1, I ne2, I nf0, I nf1, I nf2, I nf3, I nf4, I nf5, I nf6, I nf7, I nf8, .slice Ang ng.length cng, I nh], .agg #[I p_W, I p_H, .slice A_p_P p_P.length c_p_P], I rows] w0 fun e w' => ∃ v, e = .returned v ∧ v = .bool r ∧ Mem w0.heap.size w0 w' [] := by
  refine X_enter Try.func7 rfl Try.ntmps7 rfl ?_
  intro a K
  have M := Mem.start w0
  have K : Kn a 43 [(0, .agg #[I na, I nb0, I nb1, I nb2, I nb3, I nc, .slice And nd.length cnd, I ne0, I ne1, I ne2, I nf0, I nf1, I nf2, I nf3, I nf4, I nf5, I nf6, I nf7, I nf8, .slice Ang ng.length cng, I nh]), (1, .agg #[I p_W, I p_H, .slice A_p_P p_P.length c_p_P]), (2, I rows)] := K
  unfold D_darkslidelaw_LineStrips at h
  refine wp_seq (X_reg ?_)
  refine X_a K (ac_box rfl K rfl (cs := [I na, I nb0, I nb1, I nb2, I nb3, I nc, .slice And nd.length cnd, I ne0, I ne1, I ne2, I nf0, I nf1, I nf2, I nf3, I nf4, I nf5, I nf6, I nf7, I nf8, .slice Ang ng.length cng, I nh]) rfl M) ?_
  clear K M; rintro _ a w ⟨g_n, rfl, M⟩ K
  refine X_a K (ac_box rfl K rfl (cs := [I p_W, I p_H, .slice A_p_P p_P.length c_p_P]) rfl M) ?_
  clear K M; rintro _ a w ⟨g_p, rfl, M⟩ K
  refine X_o K M ?_; clear K; intro a K
  refine wpList_nil (then_n (wp_seq (X_reg ?_)))
  refine X_r K (rd_ldA rfl ty42 K rfl (inM 1 rfl) rfl rfl) M ?_; clear K
  refine Y_r (fun _ K => rd_ldA rfl ty45 K rfl (inM 0 rfl) rfl rfl) M ?_
  refine Y_o M ?_; intro a K
  obtain ⟨r2, h_r2, h⟩ := obind h
  refine X_a K (ac_call (vs := [.agg #[I na, I nb0, I nb1, I nb2, I nb3, I nc, .slice And nd.length cnd, I ne0, I ne1, I ne2, I nf0, I nf1, I nf2, I nf3, I nf4, I nf5, I nf6, I nf7, I nf8, .slice Ang ng.length cng, I nh], .agg #[I p_W, I p_H, .slice A_p_P p_P.length c_p_P], I rows]) (cap := []) rfl fok24 K rfl rfl (W_line_Strips N na nb0 nb1 nb2 nb3 nc nd And cnd ne0 ne1 ne2 nf0 nf1 nf2 nf3 nf4 nf5 nf6 nf7 nf8 ng Ang cng nh p_W p_H p_P A_p_P c_p_P rows _ ((inA Rnd) _ M) Cnd ((inA Rng) _ M) Cng ((inA R_p_P) _ M) C_p_P r2 h_r2)) ?_
  have M0 := M; clear K M; rintro _ a w ⟨A, c, rfl, M⟩ K
  replace M := M0.call M; clear M0
  refine X_o K M ?_; clear K
  iterate 2 (refine Y_o M ?_)
  intro a K
  refine X_a K (ac_alloc rfl z24 M) ?_
  clear K M; rintro _ a w ⟨g_q, rfl, M⟩ K
  refine X_b K (ac_storeA rfl ty24 K rfl (ds := [I r2.1, I r2.2.1, .slice A r2.2.2.1.length c]) rfl rfl 0 M rfl rfl rfl) ?_
  clear K M; rintro _ a w M K
  refine X_o K M ?_; clear K; intro a K
  refine wpList_nil (then_n (wp_seq (X_reg ?_)))
  refine X_r K (rd_ldA rfl ty42 K rfl (inM 3 rfl) rfl rfl) M ?_; clear K
  refine Y_r (fun _ K => rd_ldA rfl ty45 K rfl (inM 2 rfl) rfl rfl) M ?_; intro a K
  obtain ⟨r3, h_r3, h⟩ := obind h
  refine X_a K (ac_call (vs := [.agg #[I na, I nb0, I nb1, I nb2, I nb3, I nc, .slice And nd.length cnd, I ne0, I ne1, I ne2, I nf0, I nf1, I nf2, I nf3, I nf4, I nf5, I nf6, I nf7, I nf8, .slice Ang ng.length cng, I nh], .agg #[I p_W, I p_H, .slice A_p_P p_P.length c_p_P]]) (cap := []) rfl fok16 K rfl rfl (W_darkslideref_WholeError N na nb0 nb1 nb2 nb3 nc nd And cnd ne0 ne1 ne2 nf0 nf1 nf2 nf3 nf4 nf5 nf6 nf7 nf8 ng Ang cng nh p_W p_H p_P A_p_P c_p_P _ ((inA Rnd) _ M) Cnd ((inA Rng) _ M) Cng ((inA R_p_P) _ M) C_p_P r3 h_r3)) ?_
  have M0 := M; clear K M; rintro _ a w ⟨rfl, M⟩ K
  replace M := M0.call M; clear M0
  refine X_o K M ?_; clear K; intro a K
  refine wpList_nil (then_n (wp_seq (wp_seq (X_reg ?_))))
  refine X_o K M ?_; clear K
  iterate 2 (refine Y_o M ?_)
  intro a K
  rcases Bool.eq_false_or_eq_true (decide (r3 = 0)) with hb | hb
  · have h := ctrue hb h
    have K := K.reb (s := 23) rfl hb
    refine X_o K M ?_; clear K
    iterate 2 (refine Y_o M ?_)
    intro a K
    refine wpList_nil (then_n ?_)
    refine X_cond K rfl (fun hb => ?_) (fun hb => ?_)
    · have h := ctrue hb h
      refine X_reg ?_
      refine X_o K M ?_; clear K; intro a K
      refine wpList_nil (then_n (wp_seq (X_reg ?_)))
      refine X_a K (ac_alloc rfl z24 M) ?_
      clear K M; rintro _ a w ⟨g_want, rfl, M⟩ K
      refine wpList_nil (then_n (wp_seq (wp_seq (X_reg ?_))))
      refine X_o K M ?_; clear K
      refine Y_r (fun _ K => rdb (b' := false) (by decide) (rd_eql rfl K rfl rfl)) M ?_; intro a K
      refine wpList_nil (then_n ?_)
      refine X_condF K rfl ?_
      refine wp_skip (then_n (wp_seq (X_reg ?_)))
      obtain ⟨r4, h_r4, h⟩ := obind h
      refine X_a K (ac_call (vs := []) (cap := []) rfl fok18 K rfl rfl (W_darkslidelaw_lineBegun N  _  r4 h_r4)) ?_
      have M0 := M; clear K M; rintro _ a w ⟨rfl, M⟩ K
      replace M := M0.call M; clear M0
      refine X_o K M ?_; clear K; intro a K
      rcases Bool.eq_false_or_eq_true (r4) with hb | hb
      · have h := ctrue hb h
        have K := K.reb (s := 33) rfl hb
        refine X_o K M ?_; clear K
        iterate 4 (refine Y_o M ?_)
        intro a K
        rcases Bool.eq_false_or_eq_true (decide (r2.2.2.2 = 3)) with hb | hb
        · have h := ctrue hb h
          have K := K.reb (s := 38) rfl hb
          refine X_r K (rd_ldA rfl ty24 K rfl (inM 1 rfl) rfl rfl) M ?_; clear K
          refine Y_r (fun _ K => rd_ldA rfl ty24 K rfl (inM 0 rfl) rfl rfl) M ?_; intro a K
          obtain ⟨r5, h_r5, h⟩ := obind h
          refine X_a K (ac_call (vs := [.agg #[I r2.1, I r2.2.1, .slice A r2.2.2.1.length c], .agg #[I 0, I 0, .slice none (([] : List (Int × Int × Int))).length 0]]) (cap := []) rfl fok14 K rfl rfl (W_darkslideref_SamePictures N r2.1 r2.2.1 r2.2.2.1 A c 0 0 (([] : List (Int × Int × Int))) none 0 _ ((inR (C := cIII) 2 rfl rfl) _ M) (M.cap 2 rfl) ((fun _ _ => SL.nil) _ M) (Nat.le_refl _) r5 h_r5)) ?_
          have M0 := M; clear K M; rintro _ a w ⟨rfl, M⟩ K
          replace M := M0.call M; clear M0
          refine X_o K M ?_; clear K
          refine Y_o M ?_; intro a K
          refine wpList_nil (then_n (wp_ret ?_))
          cases h
          exact ret1 K rfl (res_tmp K rfl) ⟨_, rfl, rfl, ((M).pick [] (by decide))⟩
        have h := cfalse hb h
        have K := K.reb (s := 38) rfl hb
        refine X_o K M ?_; clear K
        iterate 4 (refine Y_o M ?_)
        intro a K
        refine wpList_nil (then_n (wp_ret ?_))
        cases h
        exact ret1 K rfl (res_tmp K rfl) ⟨_, rfl, rfl, ((M).pick [] (by decide))⟩
      have h := cfalse hb h
      have K := K.reb (s := 33) rfl hb
      refine X_o K M ?_; clear K
      iterate 9 (refine Y_o M ?_)
      intro a K
      refine wpList_nil (then_n (wp_ret ?_))
      cases h
      exact ret1 K rfl (res_tmp K rfl) ⟨_, rfl, rfl, ((M).pick [] (by decide))⟩
    have h := cfalse hb h
    refine wp_skip (then_n (wp_seq (X_reg ?_)))
    refine X_a K (ac_alloc rfl z24 M) ?_
    clear K M; rintro _ a w ⟨g_want2, rfl, M⟩ K
    refine wpList_nil (then_n (wp_seq (wp_seq (X_reg ?_))))
    refine X_o K M ?_; clear K
    refine Y_o M ?_; intro a K
    refine wpList_nil (then_n ?_)
    refine X_cond K rfl (fun hb => ?_) (fun hb => ?_)
    · have h := ctrue hb h
      refine X_reg ?_
      refine X_r K (rd_ldA rfl ty42 K rfl (inM 4 rfl) rfl rfl) M ?_; clear K
      refine Y_r (fun _ K => rd_ldA rfl ty45 K rfl (inM 3 rfl) rfl rfl) M ?_; intro a K
      obtain ⟨r6, h_r6, h⟩ := obind h
      refine X_a K (ac_call (vs := [.agg #[I na, I nb0, I nb1, I nb2, I nb3, I nc, .slice And nd.length cnd, I ne0, I ne1, I ne2, I nf0, I nf1, I nf2, I nf3, I nf4, I nf5, I nf6, I nf7, I nf8, .slice Ang ng.length cng, I nh], .agg #[I p_W, I p_H, .slice A_p_P p_P.length c_p_P]]) (cap := []) rfl fok17 K rfl rfl (W_darkslideref_WholeOf N na nb0 nb1 nb2 nb3 nc nd And cnd ne0 ne1 ne2 nf0 nf1 nf2 nf3 nf4 nf5 nf6 nf7 nf8 ng Ang cng nh p_W p_H p_P A_p_P c_p_P _ ((inA Rnd) _ M) Cnd ((inA Rng) _ M) Cng ((inA R_p_P) _ M) C_p_P r6 h_r6)) ?_
      have M0 := M; clear K M; rintro _ a w ⟨A2, c2, rfl, M⟩ K
      replace M := M0.call M; clear M0
      refine X_b K (ac_storeA rfl ty24 K rfl (ds := [I r6.1, I r6.2.1, .slice A2 r6.2.2.length c2]) rfl rfl 1 M rfl rfl rfl) ?_
      clear K M; rintro _ a w M K
      refine wpList_nil (then_n (wp_seq (X_reg ?_)))
      obtain ⟨r7, h_r7, h⟩ := obind h
      refine X_a K (ac_call (vs := []) (cap := []) rfl fok18 K rfl rfl (W_darkslidelaw_lineBegun N  _  r7 h_r7)) ?_
      have M0 := M; clear K M; rintro _ a w ⟨rfl, M⟩ K
      replace M := M0.call M; clear M0
      refine X_o K M ?_; clear K; intro a K
      rcases Bool.eq_false_or_eq_true (r7) with hb | hb
      · have h := ctrue hb h
        have K := K.reb (s := 33) rfl hb
        refine X_o K M ?_; clear K
        iterate 4 (refine Y_o M ?_)
        intro a K
        rcases Bool.eq_false_or_eq_true (decide (r2.2.2.2 = r3)) with hb | hb
        · have h := ctrue hb h
          have K := K.reb (s := 38) rfl hb
          refine X_r K (rd_ldA rfl ty24 K rfl (inM 2 rfl) rfl rfl) M ?_; clear K
          refine Y_r (fun _ K => rd_ldA rfl ty24 K rfl (inM 1 rfl) rfl rfl) M ?_; intro a K
          obtain ⟨r8, h_r8, h⟩ := obind h
          refine X_a K (ac_call (vs := [.agg #[I r2.1, I r2.2.1, .slice A r2.2.2.1.length c], .agg #[I r6.1, I r6.2.1, .slice A2 r6.2.2.length c2]]) (cap := []) rfl fok14 K rfl rfl (W_darkslideref_SamePictures N r2.1 r2.2.1 r2.2.2.1 A c r6.1 r6.2.1 r6.2.2 A2 c2 _ ((inR (C := cIII) 3 rfl rfl) _ M) (M.cap 3 rfl) ((inR (C := cIII) 0 rfl rfl) _ M) (M.cap 0 rfl) r8 h_r8)) ?_
          have M0 := M; clear K M; rintro _ a w ⟨rfl, M⟩ K
          replace M := M0.call M; clear M0
          refine X_o K M ?_; clear K
          refine Y_o M ?_; intro a K
          refine wpList_nil (then_n (wp_ret ?_))
          cases h
          exact ret1 K rfl (res_tmp K rfl) ⟨_, rfl, rfl, ((M).pick [] (by decide))⟩
        have h := cfalse hb h
        have K := K.reb (s := 38) rfl hb
        refine X_o K M ?_; clear K
        iterate 4 (refine Y_o M ?_)
        intro a K
        refine wpList_nil (then_n (wp_ret ?_))
        cases h
        exact ret1 K rfl (res_tmp K rfl) ⟨_, rfl, rfl, ((M).pick [] (by decide))⟩
      have h := cfalse hb h
      have K := K.reb (s := 33) rfl hb
      refine X_o K M ?_; clear K
      iterate 9 (refine Y_o M ?_)
      intro a K
      refine wpList_nil (then_n (wp_ret ?_))
      cases h
      exact ret1 K rfl (res_tmp K rfl) ⟨_, rfl, rfl, ((M).pick [] (by decide))⟩
    have h := cfalse hb h
    refine wp_skip (then_n (wp_seq (X_reg ?_)))
    obtain ⟨r9, h_r9, h⟩ := obind h
    refine X_a K (ac_call (vs := []) (cap := []) rfl fok18 K rfl rfl (W_darkslidelaw_lineBegun N  _  r9 h_r9)) ?_
    have M0 := M; clear K M; rintro _ a w ⟨rfl, M⟩ K
    replace M := M0.call M; clear M0
    refine X_o K M ?_; clear K; intro a K
    rcases Bool.eq_false_or_eq_true (r9) with hb | hb
    · have h := ctrue hb h
      have K := K.reb (s := 33) rfl hb
      refine X_o K M ?_; clear K
      iterate 4 (refine Y_o M ?_)
      intro a K
      rcases Bool.eq_false_or_eq_true (decide (r2.2.2.2 = r3)) with hb | hb
      · have h := ctrue hb h
        have K := K.reb (s := 38) rfl hb
        refine X_r K (rd_ldA rfl ty24 K rfl (inM 1 rfl) rfl rfl) M ?_; clear K
        refine Y_r (fun _ K => rd_ldA rfl ty24 K rfl (inM 0 rfl) rfl rfl) M ?_; intro a K
        obtain ⟨r10, h_r10, h⟩ := obind h
        refine X_a K (ac_call (vs := [.agg #[I r2.1, I r2.2.1, .slice A r2.2.2.1.length c], .agg #[I 0, I 0, .slice none (([] : List (Int × Int × Int))).length 0]]) (cap := []) rfl fok14 K rfl rfl (W_darkslideref_SamePictures N r2.1 r2.2.1 r2.2.2.1 A c 0 0 (([] : List (Int × Int × Int))) none 0 _ ((inR (C := cIII) 2 rfl rfl) _ M) (M.cap 2 rfl) ((fun _ _ => SL.nil) _ M) (Nat.le_refl _) r10 h_r10)) ?_
        have M0 := M; clear K M; rintro _ a w ⟨rfl, M⟩ K
        replace M := M0.call M; clear M0
        refine X_o K M ?_; clear K
        refine Y_o M ?_; intro a K
        refine wpList_nil (then_n (wp_ret ?_))
        cases h
        exact ret1 K rfl (res_tmp K rfl) ⟨_, rfl, rfl, ((M).pick [] (by decide))⟩
      have h := cfalse hb h
      have K := K.reb (s := 38) rfl hb
      refine X_o K M ?_; clear K
      iterate 4 (refine Y_o M ?_)
      intro a K
      refine wpList_nil (then_n (wp_ret ?_))
      cases h
      exact ret1 K rfl (res_tmp K rfl) ⟨_, rfl, rfl, ((M).pick [] (by decide))⟩
    have h := cfalse hb h
    have K := K.reb (s := 33) rfl hb
    refine X_o K M ?_; clear K
    iterate 9 (refine Y_o M ?_)
    intro a K
    refine wpList_nil (then_n (wp_ret ?_))
    cases h
    exact ret1 K rfl (res_tmp K rfl) ⟨_, rfl, rfl, ((M).pick [] (by decide))⟩
  have h := cfalse hb h
  have K := K.reb (s := 23) rfl hb
  refine X_o K M ?_; clear K
  iterate 2 (refine Y_o M ?_)
  intro a K
  refine wpList_nil (then_n ?_)
  refine X_condF K rfl ?_
  refine wp_skip (then_n (wp_seq (X_reg ?_)))
  refine X_a K (ac_alloc rfl z24 M) ?_
  clear K M; rintro _ a w ⟨g_want3, rfl, M⟩ K
  refine wpList_nil (then_n (wp_seq (wp_seq (X_reg ?_))))
  refine X_o K M ?_; clear K
  refine Y_o M ?_; intro a K
  refine wpList_nil (then_n ?_)
  refine X_cond K rfl (fun hb => ?_) (fun hb => ?_)
  · have h := ctrue hb h
    refine X_reg ?_
    refine X_r K (rd_ldA rfl ty42 K rfl (inM 4 rfl) rfl rfl) M ?_; clear K
    refine Y_r (fun _ K => rd_ldA rfl ty45 K rfl (inM 3 rfl) rfl rfl) M ?_; intro a K
    obtain ⟨r11, h_r11, h⟩ := obind h
    refine X_a K (ac_call (vs := [.agg #[I na, I nb0, I nb1, I nb2, I nb3, I nc, .slice And nd.length cnd, I ne0, I ne1, I ne2, I nf0, I nf1, I nf2, I nf3, I nf4, I nf5, I nf6, I nf7, I nf8, .slice Ang ng.length cng, I nh], .agg #[I p_W, I p_H, .slice A_p_P p_P.length c_p_P]]) (cap := []) rfl fok17 K rfl rfl (W_darkslideref_WholeOf N na nb0 nb1 nb2 nb3 nc nd And cnd ne0 ne1 ne2 nf0 nf1 nf2 nf3 nf4 nf5 nf6 nf7 nf8 ng Ang cng nh p_W p_H p_P A_p_P c_p_P _ ((inA Rnd) _ M) Cnd ((inA Rng) _ M) Cng ((inA R_p_P) _ M) C_p_P r11 h_r11)) ?_
    have M0 := M; clear K M; rintro _ a w ⟨A3, c3, rfl, M⟩ K
    replace M := M0.call M; clear M0
    refine X_b K (ac_storeA rfl ty24 K rfl (ds := [I r11.1, I r11.2.1, .slice A3 r11.2.2.length c3]) rfl rfl 1 M rfl rfl rfl) ?_
    clear K M; rintro _ a w M K
    refine wpList_nil (then_n (wp_seq (X_reg ?_)))
    obtain ⟨r12, h_r12, h⟩ := obind h
    refine X_a K (ac_call (vs := []) (cap := []) rfl fok18 K rfl rfl (W_darkslidelaw_lineBegun N  _  r12 h_r12)) ?_
    have M0 := M; clear K M; rintro _ a w ⟨rfl, M⟩ K
    replace M := M0.call M; clear M0
    refine X_o K M ?_; clear K; intro a K
    rcases Bool.eq_false_or_eq_true (r12) with hb | hb
    · have h := ctrue hb h
      have K := K.reb (s := 33) rfl hb
      refine X_o K M ?_; clear K
      iterate 4 (refine Y_o M ?_)
      intro a K
      rcases Bool.eq_false_or_eq_true (decide (r2.2.2.2 = r3)) with hb | hb
      · have h := ctrue hb h
        have K := K.reb (s := 38) rfl hb
        refine X_r K (rd_ldA rfl ty24 K rfl (inM 2 rfl) rfl rfl) M ?_; clear K
        refine Y_r (fun _ K => rd_ldA rfl ty24 K rfl (inM 1 rfl) rfl rfl) M ?_; intro a K
        obtain ⟨r13, h_r13, h⟩ := obind h
        refine X_a K (ac_call (vs := [.agg #[I r2.1, I r2.2.1, .slice A r2.2.2.1.length c], .agg #[I r11.1, I r11.2.1, .slice A3 r11.2.2.length c3]]) (cap := []) rfl fok14 K rfl rfl (W_darkslideref_SamePictures N r2.1 r2.2.1 r2.2.2.1 A c r11.1 r11.2.1 r11.2.2 A3 c3 _ ((inR (C := cIII) 3 rfl rfl) _ M) (M.cap 3 rfl) ((inR (C := cIII) 0 rfl rfl) _ M) (M.cap 0 rfl) r13 h_r13)) ?_
        have M0 := M; clear K M; rintro _ a w ⟨rfl, M⟩ K
        replace M := M0.call M; clear M0
        refine X_o K M ?_; clear K
        refine Y_o M ?_; intro a K
        refine wpList_nil (then_n (wp_ret ?_))
        cases h
        exact ret1 K rfl (res_tmp K rfl) ⟨_, rfl, rfl, ((M).pick [] (by decide))⟩
      have h := cfalse hb h
      have K := K.reb (s := 38) rfl hb
      refine X_o K M ?_; clear K
      iterate 4 (refine Y_o M ?_)
      intro a K
      refine wpList_nil (then_n (wp_ret ?_))
      cases h
      exact ret1 K rfl (res_tmp K rfl) ⟨_, rfl, rfl, ((M).pick [] (by decide))⟩
    have h := cfalse hb h
    have K := K.reb (s := 33) rfl hb
    refine X_o K M ?_; clear K
    iterate 9 (refine Y_o M ?_)
    intro a K
    refine wpList_nil (then_n (wp_ret ?_))
    cases h
    exact ret1 K rfl (res_tmp K rfl) ⟨_, rfl, rfl, ((M).pick [] (by decide))⟩
  have h := cfalse hb h
  refine wp_skip (then_n (wp_seq (X_reg ?_)))
  obtain ⟨r14, h_r14, h⟩ := obind h
  refine X_a K (ac_call (vs := []) (cap := []) rfl fok18 K rfl rfl (W_darkslidelaw_lineBegun N  _  r14 h_r14)) ?_
  have M0 := M; clear K M; rintro _ a w ⟨rfl, M⟩ K
  replace M := M0.call M; clear M0
  refine X_o K M ?_; clear K; intro a K
  rcases Bool.eq_false_or_eq_true (r14) with hb | hb
  · have h := ctrue hb h
    have K := K.reb (s := 33) rfl hb
    refine X_o K M ?_; clear K
    iterate 4 (refine Y_o M ?_)
    intro a K
    rcases Bool.eq_false_or_eq_true (decide (r2.2.2.2 = r3)) with hb | hb
    · have h := ctrue hb h
      have K := K.reb (s := 38) rfl hb
      refine X_r K (rd_ldA rfl ty24 K rfl (inM 1 rfl) rfl rfl) M ?_; clear K
      refine Y_r (fun _ K => rd_ldA rfl ty24 K rfl (inM 0 rfl) rfl rfl) M ?_; intro a K
      obtain ⟨r15, h_r15, h⟩ := obind h
      refine X_a K (ac_call (vs := [.agg #[I r2.1, I r2.2.1, .slice A r2.2.2.1.length c], .agg #[I 0, I 0, .slice none (([] : List (Int × Int × Int))).length 0]]) (cap := []) rfl fok14 K rfl rfl (W_darkslideref_SamePictures N r2.1 r2.2.1 r2.2.2.1 A c 0 0 (([] : List (Int × Int × Int))) none 0 _ ((inR (C := cIII) 2 rfl rfl) _ M) (M.cap 2 rfl) ((fun _ _ => SL.nil) _ M) (Nat.le_refl _) r15 h_r15)) ?_
      have M0 := M; clear K M; rintro _ a w ⟨rfl, M⟩ K
      replace M := M0.call M; clear M0
      refine X_o K M ?_; clear K
      refine Y_o M ?_; intro a K
      refine wpList_nil (then_n (wp_ret ?_))
      cases h
      exact ret1 K rfl (res_tmp K rfl) ⟨_, rfl, rfl, ((M).pick [] (by decide))⟩
    have h := cfalse hb h
    have K := K.reb (s := 38) rfl hb
    refine X_o K M ?_; clear K
    iterate 4 (refine Y_o M ?_)
    intro a K
    refine wpList_nil (then_n (wp_ret ?_))
    cases h
    exact ret1 K rfl (res_tmp K rfl) ⟨_, rfl, rfl, ((M).pick [] (by decide))⟩
  have h := cfalse hb h
  have K := K.reb (s := 33) rfl hb
  refine X_o K M ?_; clear K
  iterate 9 (refine Y_o M ?_)
  intro a K
  refine wpList_nil (then_n (wp_ret ?_))
  cases h
  exact ret1 K rfl (res_tmp K rfl) ⟨_, rfl, rfl, ((M).pick [] (by decide))⟩
end Go.Proofs.Ytpmnfhifmmfglab
