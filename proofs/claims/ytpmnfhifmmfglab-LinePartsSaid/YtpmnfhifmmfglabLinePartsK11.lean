/- Texts of the claim LineParts, joined: WRefWholeof, WLawLineparts. -/
import Derived.Test.YtpmnfhifmmfglabLinePartsK2
import Derived.Test.YtpmnfhifmmfglabLinePartsK4
import Derived.Test.YtpmnfhifmmfglabLinePartsK8
import Derived.Test.YtpmnfhifmmfglabLinePartsK9
import Derived.Test.YtpmnfhifmmfglabLinePartsK10
set_option linter.unusedVariables false
set_option linter.unusedSimpArgs false
set_option linter.unusedSectionVars false
namespace Go.Proofs.Ytpmnfhifmmfglab
open Go.RowKit
set_option maxRecDepth 100000 in
set_option maxHeartbeats 4000000 in
theorem W_darkslideref_WholeOf (N : Nat) (na : Int) (nb0 : Int) (nb1 : Int) (nb2 : Int) (nb3 : Int) (nc : Int) (nd : List (Int × Int)) (And : Option Addr) (cnd : Nat) (ne0 : Int) (ne1 : Int) (ne2 : Int) (nf0 : Int) (nf1 : Int) (nf2 : Int) (nf3 : Int) (nf4 : Int) (nf5 : Int) (nf6 : Int) (nf7 : Int) (nf8 : Int) (ng : List (Int × Int)) (Ang : Option Addr) (cng : Nat) (nh : Int) (p_W : Int) (p_H : Int) (p_P : List Int) (A_p_P : Option Addr) (c_p_P : Nat) (w0 : World) (Rnd : SL w0 cII And nd) (Cnd : nd.length ≤ cnd) (Rng : SL w0 cII Ang ng) (Cng : ng.length ≤ cng) (R_p_P : SL w0 (cI .i64) A_p_P p_P) (C_p_P : p_P.length ≤ c_p_P) (r : Int × Int × List (Int × Int × Int)) (h : D_darkslideref_WholeOf N na nb0 nb1 nb2 nb3 nc nd ne0 ne1 ne2 nf0 nf1 nf2 nf3 nf4 nf5 nf6 nf7 nf8 ng nh p_W p_H p_P = some r) :
    Calls Try.prog 17 #[.agg #[I na, I nb0, I nb1, I nb2, I nb3, I nc, .slice And nd.length cnd, I ne0, I ne1, I ne2, I nf0, I nf1, I nf2, I nf3, I nf4, I nf5, I nf6, I nf7, I nf8, .slice Ang ng.length cng, I nh], .agg #[I p_W, I p_H, .slice A_p_P p_P.length c_p_P]] w0 fun e w' => ∃ v, e = .returned v ∧ ∃ A2 c2, v = .agg #[I r.1, I r.2.1, .slice A2 r.2.2.length c2] ∧ Mem w0.heap.size w0 w' [.row 34 3 A2 r.2.2.length c2 (cIII.all r.2.2)] := by
  refine X_enter Try.func17 rfl Try.ntmps17 rfl ?_
  intro a K
  have M := Mem.start w0
  have K : Kn a 33 [(0, .agg #[I na, I nb0, I nb1, I nb2, I nb3, I nc, .slice And nd.length cnd, I ne0, I ne1, I ne2, I nf0, I nf1, I nf2, I nf3, I nf4, I nf5, I nf6, I nf7, I nf8, .slice Ang ng.length cng, I nh]), (1, .agg #[I p_W, I p_H, .slice A_p_P p_P.length c_p_P])] := K
  unfold D_darkslideref_WholeOf at h
  refine wp_seq (X_reg ?_)
  refine X_a K (ac_box rfl K rfl (cs := [I na, I nb0, I nb1, I nb2, I nb3, I nc, .slice And nd.length cnd, I ne0, I ne1, I ne2, I nf0, I nf1, I nf2, I nf3, I nf4, I nf5, I nf6, I nf7, I nf8, .slice Ang ng.length cng, I nh]) rfl M) ?_
  clear K M; rintro _ a w ⟨g_n, rfl, M⟩ K
  refine X_a K (ac_box rfl K rfl (cs := [I p_W, I p_H, .slice A_p_P p_P.length c_p_P]) rfl M) ?_
  clear K M; rintro _ a w ⟨g_p, rfl, M⟩ K
  refine X_a K (ac_alloc rfl z24 M) ?_
  clear K M; rintro _ a w ⟨g_x, rfl, M⟩ K
  refine wpList_nil (then_n (wp_seq ?_))
  refine wp_region_tr (fun w => Mem _ _ w _) [0,0,0,0,0,1,0,0,1,0,0,0,0,1,1,2] 16 [0,1,2,3,4,5,6,7,8,9,10,11,12,13,14,15] (by kernel_rfl) (by kernel_rfl) (by kernel_rfl) rfl M.drew ?_
  replace M := M.drew
  refine R_rd 0 [1,2,3,4,5,6,7,8,9,10,11,12,13,14,15] (by kernel_rfl) rfl K (want_no rfl) rfl rfl (rd_ldA rfl ty45 K rfl (inM 1 rfl) rfl rfl) ?_; clear K; intro a K
  refine R_rd 1 [2,3,4,5,6,7,8,9,10,11,12,13,14,15] (by kernel_rfl) rfl K (want_no rfl) rfl rfl (rd_field rfl fld42_1 K rfl) ?_; clear K; intro a K
  refine R_rd 2 [3,4,5,6,7,8,9,10,11,12,13,14,15] (by kernel_rfl) rfl K (want_no rfl) rfl rfl (rd_ldA rfl ty36 K rfl (inM 2 rfl) rfl rfl) ?_; clear K; intro a K
  refine R_rd 3 [4,5,6,7,8,9,10,11,12,13,14,15] (by kernel_rfl) rfl K (want_no rfl) rfl rfl (rd_field rfl fld42_2 K rfl) ?_; clear K; intro a K
  refine R_rd 4 [5,6,7,8,9,10,11,12,13,14,15] (by kernel_rfl) rfl K (want_no rfl) rfl rfl (rd_ldC rfl sc3 K rfl (inM 2 rfl) rfl) ?_; clear K; intro a K
  refine R_rd 6 [5,7,8,9,10,11,12,13,14,15] (by kernel_rfl) rfl K (want_no rfl) rfl rfl (rd_field rfl fld42_3 K rfl) ?_; clear K; intro a K
  refine R_rd 7 [5,8,9,10,11,12,13,14,15] (by kernel_rfl) rfl K (want_no rfl) rfl rfl (rd_ldC rfl sc37 K rfl (inM 2 rfl) rfl) ?_; clear K; intro a K
  refine R_rd 9 [5,8,10,11,12,13,14,15] (by kernel_rfl) rfl K (want_no rfl) rfl rfl (rd_field rfl fld42_0 K rfl) ?_; clear K; intro a K
  refine R_rd 10 [5,8,11,12,13,14,15] (by kernel_rfl) rfl K (want_no rfl) rfl rfl (rd_ldC rfl sc3 K rfl (inM 2 rfl) rfl) ?_; clear K; intro a K
  refine R_rd 11 [5,8,12,13,14,15] (by kernel_rfl) rfl K (want_no rfl) rfl rfl (rd_field rfl fld42_4 K rfl) ?_; clear K; intro a K
  refine R_rd 12 [5,8,13,14,15] (by kernel_rfl) rfl K (want_no rfl) rfl rfl (rd_ldA rfl ty38 K rfl (inM 2 rfl) rfl rfl) ?_; clear K; intro a K
  refine R_br [5,14] (by kernel_rfl) ⟨?_, ?_, trivial⟩
  ·
    obtain ⟨r2, h_r2, h⟩ := obind h
    refine R_ac [8,13,14,15] (by kernel_rfl) rfl K (want_no rfl) rfl rfl (ac_call (vs := [.agg #[I p_W, I p_H, .slice A_p_P p_P.length c_p_P], .agg #[I nb0, I nb1, I nb2, I nb3], I nc]) (cap := []) rfl fok43 K rfl rfl (W_darkslideref_Levelled N p_W p_H p_P A_p_P c_p_P nb0 nb1 nb2 nb3 nc _ ((inA R_p_P) _ M) C_p_P r2 h_r2)) ?_
    have M0 := M; clear K M; rintro _ a w ⟨A, c, rfl, M⟩ K
    replace M := M0.call M; clear M0
    refine ⟨fun _ => M.pick [1,2,3] (by decide), ?_⟩
    refine R_br [8,14] (by kernel_rfl) ⟨?_, ?_, trivial⟩
    ·
      obtain ⟨r3, h_r3, h⟩ := obind h
      refine R_ac [13,14,15] (by kernel_rfl) rfl K (want_no rfl) rfl rfl (ac_call (vs := [.agg #[I r2.1, I r2.2.1, .slice A r2.2.2.length c], .slice And nd.length cnd]) (cap := []) rfl fok42 K rfl rfl (W_darkslideref_Repaired N r2.1 r2.2.1 r2.2.2 A c nd And cnd _ ((inR (C := (cI .i64)) 0 rfl rfl) _ M) (M.cap 0 rfl) ((inA Rnd) _ M) Cnd r3 h_r3)) ?_
      have M0 := M; clear K M; rintro _ a w ⟨A2, c2, rfl, M⟩ K
      replace M := M0.call M; clear M0
      refine ⟨fun _ => M.pick [2,3,4] (by decide), ?_⟩
      refine R_br [13,14] (by kernel_rfl) ⟨?_, ?_, trivial⟩
      ·
        obtain ⟨r4, h_r4, h⟩ := obind h
        refine R_ac [14,15] (by kernel_rfl) rfl K (want_no rfl) rfl rfl (ac_call (vs := [.agg #[I r3.1, I r3.2.1, .slice A2 r3.2.2.length c2], I na, .agg #[I ne0, I ne1, I ne2]]) (cap := []) rfl fok41 K rfl rfl (W_darkslideref_Gained N r3.1 r3.2.1 r3.2.2 A2 c2 na ne0 ne1 ne2 _ ((inR (C := (cI .i64)) 0 rfl rfl) _ M) (M.cap 0 rfl) r4 h_r4)) ?_
        have M0 := M; clear K M; rintro _ a w ⟨A3, c3, rfl, M⟩ K
        replace M := M0.call M; clear M0
        refine ⟨fun _ => M.pick [3,4,5] (by decide), ?_⟩
        refine R_br [14] (by kernel_rfl) ⟨?_, trivial⟩
        refine R_ac [15] (by kernel_rfl) rfl K (want_no rfl) rfl rfl (ac_alloc rfl z45 M) ?_
        clear K M; rintro _ a w ⟨g_a, rfl, M⟩ K
        refine ⟨fun _ => M.pick [4,5,6] (by decide), ?_⟩
        refine R_br [15] (by kernel_rfl) ⟨?_, trivial⟩
        refine R_a0 [] (by kernel_rfl) rfl K (want_no rfl) rfl (ac_storeA rfl ty45 K rfl (ds := [I r4.1, I r4.2.1, .slice A3 r4.2.2.length c3]) rfl rfl 0 M rfl rfl rfl) ?_
        clear K M; rintro _ a w M K
        refine ⟨fun h => absurd h (by decide), ?_⟩
        refine R_end ?_
        refine then_n (wp_seq ?_)
        refine wp_region_tl (fun w => Mem _ _ w _) [0,0,0,1,0,0,1,0,0,1,0,0,1,2] (by kernel_rfl) (by kernel_rfl) M.drew ?_
        replace M := M.drew
        refine T_r K (rd_ldA rfl ty45 K rfl (inM 0 rfl) rfl rfl) ?_; clear K
        refine U_r (fun _ K => rd_field rfl fld42_0 K rfl) ?_
        refine U_r (fun _ K => rd_ldC rfl sc3 K rfl (inM 6 rfl) rfl) ?_; intro a K
        obtain ⟨r5, h_r5, h⟩ := obind h
        refine T_a K (ac_call (vs := [.agg #[I r4.1, I r4.2.1, .slice A3 r4.2.2.length c3], I na]) (cap := []) rfl fok46 K rfl rfl (W_darkslideref_Filled N r4.1 r4.2.1 r4.2.2 A3 c3 na _ ((inR (C := (cI .i64)) 1 rfl rfl) _ M) (M.cap 1 rfl) r5 h_r5)) ?_
        have M0 := M; clear K M; rintro _ a w ⟨A4, c4, rfl, M⟩ K
        replace M := M0.call M; clear M0
        refine ⟨M.pick [1,2,3,4,5,6,7] (by decide), ?_⟩
        refine T_r K (rd_field rfl fld42_5 K rfl) ?_; clear K
        refine U_r (fun _ K => rd_ldA rfl ty39 K rfl (inM 6 rfl) rfl rfl) ?_; intro a K
        obtain ⟨r6, h_r6, h⟩ := obind h
        refine T_a K (ac_call (vs := [.agg #[I r5.1, I r5.2.1, .slice A4 r5.2.2.length c4], .agg #[I nf0, I nf1, I nf2, I nf3, I nf4, I nf5, I nf6, I nf7, I nf8]]) (cap := []) rfl fok45 K rfl rfl (W_darkslideref_Mixed N r5.1 r5.2.1 r5.2.2 A4 c4 nf0 nf1 nf2 nf3 nf4 nf5 nf6 nf7 nf8 _ ((inR (C := cIII) 0 rfl rfl) _ M) (M.cap 0 rfl) r6 h_r6)) ?_
        have M0 := M; clear K M; rintro _ a w ⟨A5, c5, rfl, M⟩ K
        replace M := M0.call M; clear M0
        refine ⟨M.pick [2,3,4,5,6,7,8] (by decide), ?_⟩
        refine T_r K (rd_field rfl fld42_6 K rfl) ?_; clear K
        refine U_r (fun _ K => rd_ldC rfl sc40 K rfl (inM 6 rfl) rfl) ?_; intro a K
        obtain ⟨r7, h_r7, h⟩ := obind h
        refine T_a K (ac_call (vs := [.agg #[I r6.1, I r6.2.1, .slice A5 r6.2.2.length c5], .slice Ang ng.length cng]) (cap := []) rfl fok44 K rfl rfl (W_darkslideref_Bent N r6.1 r6.2.1 r6.2.2 A5 c5 ng Ang cng _ ((inR (C := cIII) 0 rfl rfl) _ M) (M.cap 0 rfl) ((inA Rng) _ M) Cng r7 h_r7)) ?_
        have M0 := M; clear K M; rintro _ a w ⟨A6, c6, rfl, M⟩ K
        replace M := M0.call M; clear M0
        refine ⟨M.pick [3,4,5,6,7,8,9] (by decide), ?_⟩
        refine T_r K (rd_field rfl fld42_7 K rfl) ?_; clear K
        refine U_r (fun _ K => rd_ldC rfl sc3 K rfl (inM 6 rfl) rfl) ?_; intro a K
        obtain ⟨r8, h_r8, h⟩ := obind h
        refine T_a K (ac_call (vs := [.agg #[I r7.1, I r7.2.1, .slice A6 r7.2.2.length c6], I nh]) (cap := []) rfl fok12 K rfl rfl (W_darkslideref_Sharp N r7.1 r7.2.1 r7.2.2 A6 c6 nh _ ((inR (C := cIII) 0 rfl rfl) _ M) (M.cap 0 rfl) r8 h_r8)) ?_
        have M0 := M; clear K M; rintro _ a w ⟨A7, c7, rfl, M⟩ K
        replace M := M0.call M; clear M0
        refine ⟨M.pick [4,5,6,7,8,9,10] (by decide), ?_⟩
        refine T_b K (ac_storeA rfl ty24 K rfl (ds := [I r8.1, I r8.2.1, .slice A7 r8.2.2.length c7]) rfl rfl 8 M rfl rfl rfl) ?_
        clear K M; rintro _ a w M K
        refine T_end ?_
        refine then_n (wp_ret ?_)
        cases h
        exact ret1 K rfl (res_cellA K rfl ty24 (M.blkAt (i := 8) rfl) rfl) ⟨_, rfl, _, _, rfl, ((M).pick [0] (by decide))⟩
      ·
        refine R_ac [13,15] (by kernel_rfl) rfl K (want_no rfl) rfl rfl (ac_alloc rfl z45 M) ?_
        clear K M; rintro _ a w ⟨g_a2, rfl, M⟩ K
        refine ⟨fun _ => M.pick [3,4,5] (by decide), ?_⟩
        refine R_br [13] (by kernel_rfl) ⟨?_, trivial⟩
        obtain ⟨r9, h_r9, h⟩ := obind h
        refine R_ac [15] (by kernel_rfl) rfl K (want_no rfl) rfl rfl (ac_call (vs := [.agg #[I r3.1, I r3.2.1, .slice A2 r3.2.2.length c2], I na, .agg #[I ne0, I ne1, I ne2]]) (cap := []) rfl fok41 K rfl rfl (W_darkslideref_Gained N r3.1 r3.2.1 r3.2.2 A2 c2 na ne0 ne1 ne2 _ ((inR (C := (cI .i64)) 1 rfl rfl) _ M) (M.cap 1 rfl) r9 h_r9)) ?_
        have M0 := M; clear K M; rintro _ a w ⟨A8, c8, rfl, M⟩ K
        replace M := M0.call M; clear M0
        refine ⟨fun _ => M.pick [4,5,6] (by decide), ?_⟩
        refine R_br [15] (by kernel_rfl) ⟨?_, trivial⟩
        refine R_a0 [] (by kernel_rfl) rfl K (want_no rfl) rfl (ac_storeA rfl ty45 K rfl (ds := [I r9.1, I r9.2.1, .slice A8 r9.2.2.length c8]) rfl rfl 1 M rfl rfl rfl) ?_
        clear K M; rintro _ a w M K
        refine ⟨fun h => absurd h (by decide), ?_⟩
        refine R_end ?_
        refine then_n (wp_seq ?_)
        refine wp_region_tl (fun w => Mem _ _ w _) [0,0,0,1,0,0,1,0,0,1,0,0,1,2] (by kernel_rfl) (by kernel_rfl) M.drew ?_
        replace M := M.drew
        refine T_r K (rd_ldA rfl ty45 K rfl (inM 1 rfl) rfl rfl) ?_; clear K
        refine U_r (fun _ K => rd_field rfl fld42_0 K rfl) ?_
        refine U_r (fun _ K => rd_ldC rfl sc3 K rfl (inM 6 rfl) rfl) ?_; intro a K
        obtain ⟨r10, h_r10, h⟩ := obind h
        refine T_a K (ac_call (vs := [.agg #[I r9.1, I r9.2.1, .slice A8 r9.2.2.length c8], I na]) (cap := []) rfl fok46 K rfl rfl (W_darkslideref_Filled N r9.1 r9.2.1 r9.2.2 A8 c8 na _ ((inR (C := (cI .i64)) 0 rfl rfl) _ M) (M.cap 0 rfl) r10 h_r10)) ?_
        have M0 := M; clear K M; rintro _ a w ⟨A9, c9, rfl, M⟩ K
        replace M := M0.call M; clear M0
        refine ⟨M.pick [1,2,3,4,5,6,7] (by decide), ?_⟩
        refine T_r K (rd_field rfl fld42_5 K rfl) ?_; clear K
        refine U_r (fun _ K => rd_ldA rfl ty39 K rfl (inM 6 rfl) rfl rfl) ?_; intro a K
        obtain ⟨r11, h_r11, h⟩ := obind h
        refine T_a K (ac_call (vs := [.agg #[I r10.1, I r10.2.1, .slice A9 r10.2.2.length c9], .agg #[I nf0, I nf1, I nf2, I nf3, I nf4, I nf5, I nf6, I nf7, I nf8]]) (cap := []) rfl fok45 K rfl rfl (W_darkslideref_Mixed N r10.1 r10.2.1 r10.2.2 A9 c9 nf0 nf1 nf2 nf3 nf4 nf5 nf6 nf7 nf8 _ ((inR (C := cIII) 0 rfl rfl) _ M) (M.cap 0 rfl) r11 h_r11)) ?_
        have M0 := M; clear K M; rintro _ a w ⟨A10, c10, rfl, M⟩ K
        replace M := M0.call M; clear M0
        refine ⟨M.pick [2,3,4,5,6,7,8] (by decide), ?_⟩
        refine T_r K (rd_field rfl fld42_6 K rfl) ?_; clear K
        refine U_r (fun _ K => rd_ldC rfl sc40 K rfl (inM 6 rfl) rfl) ?_; intro a K
        obtain ⟨r12, h_r12, h⟩ := obind h
        refine T_a K (ac_call (vs := [.agg #[I r11.1, I r11.2.1, .slice A10 r11.2.2.length c10], .slice Ang ng.length cng]) (cap := []) rfl fok44 K rfl rfl (W_darkslideref_Bent N r11.1 r11.2.1 r11.2.2 A10 c10 ng Ang cng _ ((inR (C := cIII) 0 rfl rfl) _ M) (M.cap 0 rfl) ((inA Rng) _ M) Cng r12 h_r12)) ?_
        have M0 := M; clear K M; rintro _ a w ⟨A11, c11, rfl, M⟩ K
        replace M := M0.call M; clear M0
        refine ⟨M.pick [3,4,5,6,7,8,9] (by decide), ?_⟩
        refine T_r K (rd_field rfl fld42_7 K rfl) ?_; clear K
        refine U_r (fun _ K => rd_ldC rfl sc3 K rfl (inM 6 rfl) rfl) ?_; intro a K
        obtain ⟨r13, h_r13, h⟩ := obind h
        refine T_a K (ac_call (vs := [.agg #[I r12.1, I r12.2.1, .slice A11 r12.2.2.length c11], I nh]) (cap := []) rfl fok12 K rfl rfl (W_darkslideref_Sharp N r12.1 r12.2.1 r12.2.2 A11 c11 nh _ ((inR (C := cIII) 0 rfl rfl) _ M) (M.cap 0 rfl) r13 h_r13)) ?_
        have M0 := M; clear K M; rintro _ a w ⟨A12, c12, rfl, M⟩ K
        replace M := M0.call M; clear M0
        refine ⟨M.pick [4,5,6,7,8,9,10] (by decide), ?_⟩
        refine T_b K (ac_storeA rfl ty24 K rfl (ds := [I r13.1, I r13.2.1, .slice A12 r13.2.2.length c12]) rfl rfl 8 M rfl rfl rfl) ?_
        clear K M; rintro _ a w M K
        refine T_end ?_
        refine then_n (wp_ret ?_)
        cases h
        exact ret1 K rfl (res_cellA K rfl ty24 (M.blkAt (i := 8) rfl) rfl) ⟨_, rfl, _, _, rfl, ((M).pick [0] (by decide))⟩
    ·
      refine R_ac [8,13,15] (by kernel_rfl) rfl K (want_no rfl) rfl rfl (ac_alloc rfl z45 M) ?_
      clear K M; rintro _ a w ⟨g_a3, rfl, M⟩ K
      refine ⟨fun _ => M.pick [2,3,4] (by decide), ?_⟩
      refine R_br [8] (by kernel_rfl) ⟨?_, trivial⟩
      obtain ⟨r14, h_r14, h⟩ := obind h
      refine R_ac [13,15] (by kernel_rfl) rfl K (want_no rfl) rfl rfl (ac_call (vs := [.agg #[I r2.1, I r2.2.1, .slice A r2.2.2.length c], .slice And nd.length cnd]) (cap := []) rfl fok42 K rfl rfl (W_darkslideref_Repaired N r2.1 r2.2.1 r2.2.2 A c nd And cnd _ ((inR (C := (cI .i64)) 1 rfl rfl) _ M) (M.cap 1 rfl) ((inA Rnd) _ M) Cnd r14 h_r14)) ?_
      have M0 := M; clear K M; rintro _ a w ⟨A13, c13, rfl, M⟩ K
      replace M := M0.call M; clear M0
      refine ⟨fun _ => M.pick [3,4,5] (by decide), ?_⟩
      refine R_br [13] (by kernel_rfl) ⟨?_, trivial⟩
      obtain ⟨r15, h_r15, h⟩ := obind h
      refine R_ac [15] (by kernel_rfl) rfl K (want_no rfl) rfl rfl (ac_call (vs := [.agg #[I r14.1, I r14.2.1, .slice A13 r14.2.2.length c13], I na, .agg #[I ne0, I ne1, I ne2]]) (cap := []) rfl fok41 K rfl rfl (W_darkslideref_Gained N r14.1 r14.2.1 r14.2.2 A13 c13 na ne0 ne1 ne2 _ ((inR (C := (cI .i64)) 0 rfl rfl) _ M) (M.cap 0 rfl) r15 h_r15)) ?_
      have M0 := M; clear K M; rintro _ a w ⟨A14, c14, rfl, M⟩ K
      replace M := M0.call M; clear M0
      refine ⟨fun _ => M.pick [4,5,6] (by decide), ?_⟩
      refine R_br [15] (by kernel_rfl) ⟨?_, trivial⟩
      refine R_a0 [] (by kernel_rfl) rfl K (want_no rfl) rfl (ac_storeA rfl ty45 K rfl (ds := [I r15.1, I r15.2.1, .slice A14 r15.2.2.length c14]) rfl rfl 2 M rfl rfl rfl) ?_
      clear K M; rintro _ a w M K
      refine ⟨fun h => absurd h (by decide), ?_⟩
      refine R_end ?_
      refine then_n (wp_seq ?_)
      refine wp_region_tl (fun w => Mem _ _ w _) [0,0,0,1,0,0,1,0,0,1,0,0,1,2] (by kernel_rfl) (by kernel_rfl) M.drew ?_
      replace M := M.drew
      refine T_r K (rd_ldA rfl ty45 K rfl (inM 2 rfl) rfl rfl) ?_; clear K
      refine U_r (fun _ K => rd_field rfl fld42_0 K rfl) ?_
      refine U_r (fun _ K => rd_ldC rfl sc3 K rfl (inM 6 rfl) rfl) ?_; intro a K
      obtain ⟨r16, h_r16, h⟩ := obind h
      refine T_a K (ac_call (vs := [.agg #[I r15.1, I r15.2.1, .slice A14 r15.2.2.length c14], I na]) (cap := []) rfl fok46 K rfl rfl (W_darkslideref_Filled N r15.1 r15.2.1 r15.2.2 A14 c14 na _ ((inR (C := (cI .i64)) 0 rfl rfl) _ M) (M.cap 0 rfl) r16 h_r16)) ?_
      have M0 := M; clear K M; rintro _ a w ⟨A15, c15, rfl, M⟩ K
      replace M := M0.call M; clear M0
      refine ⟨M.pick [1,2,3,4,5,6,7] (by decide), ?_⟩
      refine T_r K (rd_field rfl fld42_5 K rfl) ?_; clear K
      refine U_r (fun _ K => rd_ldA rfl ty39 K rfl (inM 6 rfl) rfl rfl) ?_; intro a K
      obtain ⟨r17, h_r17, h⟩ := obind h
      refine T_a K (ac_call (vs := [.agg #[I r16.1, I r16.2.1, .slice A15 r16.2.2.length c15], .agg #[I nf0, I nf1, I nf2, I nf3, I nf4, I nf5, I nf6, I nf7, I nf8]]) (cap := []) rfl fok45 K rfl rfl (W_darkslideref_Mixed N r16.1 r16.2.1 r16.2.2 A15 c15 nf0 nf1 nf2 nf3 nf4 nf5 nf6 nf7 nf8 _ ((inR (C := cIII) 0 rfl rfl) _ M) (M.cap 0 rfl) r17 h_r17)) ?_
      have M0 := M; clear K M; rintro _ a w ⟨A16, c16, rfl, M⟩ K
      replace M := M0.call M; clear M0
      refine ⟨M.pick [2,3,4,5,6,7,8] (by decide), ?_⟩
      refine T_r K (rd_field rfl fld42_6 K rfl) ?_; clear K
      refine U_r (fun _ K => rd_ldC rfl sc40 K rfl (inM 6 rfl) rfl) ?_; intro a K
      obtain ⟨r18, h_r18, h⟩ := obind h
      refine T_a K (ac_call (vs := [.agg #[I r17.1, I r17.2.1, .slice A16 r17.2.2.length c16], .slice Ang ng.length cng]) (cap := []) rfl fok44 K rfl rfl (W_darkslideref_Bent N r17.1 r17.2.1 r17.2.2 A16 c16 ng Ang cng _ ((inR (C := cIII) 0 rfl rfl) _ M) (M.cap 0 rfl) ((inA Rng) _ M) Cng r18 h_r18)) ?_
      have M0 := M; clear K M; rintro _ a w ⟨A17, c17, rfl, M⟩ K
      replace M := M0.call M; clear M0
      refine ⟨M.pick [3,4,5,6,7,8,9] (by decide), ?_⟩
      refine T_r K (rd_field rfl fld42_7 K rfl) ?_; clear K
      refine U_r (fun _ K => rd_ldC rfl sc3 K rfl (inM 6 rfl) rfl) ?_; intro a K
      obtain ⟨r19, h_r19, h⟩ := obind h
      refine T_a K (ac_call (vs := [.agg #[I r18.1, I r18.2.1, .slice A17 r18.2.2.length c17], I nh]) (cap := []) rfl fok12 K rfl rfl (W_darkslideref_Sharp N r18.1 r18.2.1 r18.2.2 A17 c17 nh _ ((inR (C := cIII) 0 rfl rfl) _ M) (M.cap 0 rfl) r19 h_r19)) ?_
      have M0 := M; clear K M; rintro _ a w ⟨A18, c18, rfl, M⟩ K
      replace M := M0.call M; clear M0
      refine ⟨M.pick [4,5,6,7,8,9,10] (by decide), ?_⟩
      refine T_b K (ac_storeA rfl ty24 K rfl (ds := [I r19.1, I r19.2.1, .slice A18 r19.2.2.length c18]) rfl rfl 8 M rfl rfl rfl) ?_
      clear K M; rintro _ a w M K
      refine T_end ?_
      refine then_n (wp_ret ?_)
      cases h
      exact ret1 K rfl (res_cellA K rfl ty24 (M.blkAt (i := 8) rfl) rfl) ⟨_, rfl, _, _, rfl, ((M).pick [0] (by decide))⟩
  ·
    refine R_ac [5,8,13,15] (by kernel_rfl) rfl K (want_no rfl) rfl rfl (ac_alloc rfl z45 M) ?_
    clear K M; rintro _ a w ⟨g_a4, rfl, M⟩ K
    refine ⟨fun _ => M.pick [1,2,3] (by decide), ?_⟩
    refine R_br [5] (by kernel_rfl) ⟨?_, trivial⟩
    obtain ⟨r20, h_r20, h⟩ := obind h
    refine R_ac [8,13,15] (by kernel_rfl) rfl K (want_no rfl) rfl rfl (ac_call (vs := [.agg #[I p_W, I p_H, .slice A_p_P p_P.length c_p_P], .agg #[I nb0, I nb1, I nb2, I nb3], I nc]) (cap := []) rfl fok43 K rfl rfl (W_darkslideref_Levelled N p_W p_H p_P A_p_P c_p_P nb0 nb1 nb2 nb3 nc _ ((inA R_p_P) _ M) C_p_P r20 h_r20)) ?_
    have M0 := M; clear K M; rintro _ a w ⟨A19, c19, rfl, M⟩ K
    replace M := M0.call M; clear M0
    refine ⟨fun _ => M.pick [2,3,4] (by decide), ?_⟩
    refine R_br [8] (by kernel_rfl) ⟨?_, trivial⟩
    obtain ⟨r21, h_r21, h⟩ := obind h
    refine R_ac [13,15] (by kernel_rfl) rfl K (want_no rfl) rfl rfl (ac_call (vs := [.agg #[I r20.1, I r20.2.1, .slice A19 r20.2.2.length c19], .slice And nd.length cnd]) (cap := []) rfl fok42 K rfl rfl (W_darkslideref_Repaired N r20.1 r20.2.1 r20.2.2 A19 c19 nd And cnd _ ((inR (C := (cI .i64)) 0 rfl rfl) _ M) (M.cap 0 rfl) ((inA Rnd) _ M) Cnd r21 h_r21)) ?_
    have M0 := M; clear K M; rintro _ a w ⟨A20, c20, rfl, M⟩ K
    replace M := M0.call M; clear M0
    refine ⟨fun _ => M.pick [3,4,5] (by decide), ?_⟩
    refine R_br [13] (by kernel_rfl) ⟨?_, trivial⟩
    obtain ⟨r22, h_r22, h⟩ := obind h
    refine R_ac [15] (by kernel_rfl) rfl K (want_no rfl) rfl rfl (ac_call (vs := [.agg #[I r21.1, I r21.2.1, .slice A20 r21.2.2.length c20], I na, .agg #[I ne0, I ne1, I ne2]]) (cap := []) rfl fok41 K rfl rfl (W_darkslideref_Gained N r21.1 r21.2.1 r21.2.2 A20 c20 na ne0 ne1 ne2 _ ((inR (C := (cI .i64)) 0 rfl rfl) _ M) (M.cap 0 rfl) r22 h_r22)) ?_
    have M0 := M; clear K M; rintro _ a w ⟨A21, c21, rfl, M⟩ K
    replace M := M0.call M; clear M0
    refine ⟨fun _ => M.pick [4,5,6] (by decide), ?_⟩
    refine R_br [15] (by kernel_rfl) ⟨?_, trivial⟩
    refine R_a0 [] (by kernel_rfl) rfl K (want_no rfl) rfl (ac_storeA rfl ty45 K rfl (ds := [I r22.1, I r22.2.1, .slice A21 r22.2.2.length c21]) rfl rfl 3 M rfl rfl rfl) ?_
    clear K M; rintro _ a w M K
    refine ⟨fun h => absurd h (by decide), ?_⟩
    refine R_end ?_
    refine then_n (wp_seq ?_)
    refine wp_region_tl (fun w => Mem _ _ w _) [0,0,0,1,0,0,1,0,0,1,0,0,1,2] (by kernel_rfl) (by kernel_rfl) M.drew ?_
    replace M := M.drew
    refine T_r K (rd_ldA rfl ty45 K rfl (inM 3 rfl) rfl rfl) ?_; clear K
    refine U_r (fun _ K => rd_field rfl fld42_0 K rfl) ?_
    refine U_r (fun _ K => rd_ldC rfl sc3 K rfl (inM 6 rfl) rfl) ?_; intro a K
    obtain ⟨r23, h_r23, h⟩ := obind h
    refine T_a K (ac_call (vs := [.agg #[I r22.1, I r22.2.1, .slice A21 r22.2.2.length c21], I na]) (cap := []) rfl fok46 K rfl rfl (W_darkslideref_Filled N r22.1 r22.2.1 r22.2.2 A21 c21 na _ ((inR (C := (cI .i64)) 0 rfl rfl) _ M) (M.cap 0 rfl) r23 h_r23)) ?_
    have M0 := M; clear K M; rintro _ a w ⟨A22, c22, rfl, M⟩ K
    replace M := M0.call M; clear M0
    refine ⟨M.pick [1,2,3,4,5,6,7] (by decide), ?_⟩
    refine T_r K (rd_field rfl fld42_5 K rfl) ?_; clear K
    refine U_r (fun _ K => rd_ldA rfl ty39 K rfl (inM 6 rfl) rfl rfl) ?_; intro a K
    obtain ⟨r24, h_r24, h⟩ := obind h
    refine T_a K (ac_call (vs := [.agg #[I r23.1, I r23.2.1, .slice A22 r23.2.2.length c22], .agg #[I nf0, I nf1, I nf2, I nf3, I nf4, I nf5, I nf6, I nf7, I nf8]]) (cap := []) rfl fok45 K rfl rfl (W_darkslideref_Mixed N r23.1 r23.2.1 r23.2.2 A22 c22 nf0 nf1 nf2 nf3 nf4 nf5 nf6 nf7 nf8 _ ((inR (C := cIII) 0 rfl rfl) _ M) (M.cap 0 rfl) r24 h_r24)) ?_
    have M0 := M; clear K M; rintro _ a w ⟨A23, c23, rfl, M⟩ K
    replace M := M0.call M; clear M0
    refine ⟨M.pick [2,3,4,5,6,7,8] (by decide), ?_⟩
    refine T_r K (rd_field rfl fld42_6 K rfl) ?_; clear K
    refine U_r (fun _ K => rd_ldC rfl sc40 K rfl (inM 6 rfl) rfl) ?_; intro a K
    obtain ⟨r25, h_r25, h⟩ := obind h
    refine T_a K (ac_call (vs := [.agg #[I r24.1, I r24.2.1, .slice A23 r24.2.2.length c23], .slice Ang ng.length cng]) (cap := []) rfl fok44 K rfl rfl (W_darkslideref_Bent N r24.1 r24.2.1 r24.2.2 A23 c23 ng Ang cng _ ((inR (C := cIII) 0 rfl rfl) _ M) (M.cap 0 rfl) ((inA Rng) _ M) Cng r25 h_r25)) ?_
    have M0 := M; clear K M; rintro _ a w ⟨A24, c24, rfl, M⟩ K
    replace M := M0.call M; clear M0
    refine ⟨M.pick [3,4,5,6,7,8,9] (by decide), ?_⟩
    refine T_r K (rd_field rfl fld42_7 K rfl) ?_; clear K
    refine U_r (fun _ K => rd_ldC rfl sc3 K rfl (inM 6 rfl) rfl) ?_; intro a K
    obtain ⟨r26, h_r26, h⟩ := obind h
    refine T_a K (ac_call (vs := [.agg #[I r25.1, I r25.2.1, .slice A24 r25.2.2.length c24], I nh]) (cap := []) rfl fok12 K rfl rfl (W_darkslideref_Sharp N r25.1 r25.2.1 r25.2.2 A24 c24 nh _ ((inR (C := cIII) 0 rfl rfl) _ M) (M.cap 0 rfl) r26 h_r26)) ?_
    have M0 := M; clear K M; rintro _ a w ⟨A25, c25, rfl, M⟩ K
    replace M := M0.call M; clear M0
    refine ⟨M.pick [4,5,6,7,8,9,10] (by decide), ?_⟩
    refine T_b K (ac_storeA rfl ty24 K rfl (ds := [I r26.1, I r26.2.1, .slice A25 r26.2.2.length c25]) rfl rfl 8 M rfl rfl rfl) ?_
    clear K M; rintro _ a w M K
    refine T_end ?_
    refine then_n (wp_ret ?_)
    cases h
    exact ret1 K rfl (res_cellA K rfl ty24 (M.blkAt (i := 8) rfl) rfl) ⟨_, rfl, _, _, rfl, ((M).pick [0] (by decide))⟩
end Go.Proofs.Ytpmnfhifmmfglab

namespace Go.Proofs.Ytpmnfhifmmfglab
open Go.RowKit
set_option maxRecDepth 100000 in
set_option maxHeartbeats 4000000 in
theorem W_darkslidelaw_LineParts (N : Nat) (na : Int) (nb0 : Int) (nb1 : Int) (nb2 : Int) (nb3 : Int) (nc : Int) (nd : List (Int × Int)) (And : Option Addr) (cnd : Nat) (ne0 : Int) (ne1 : Int) (ne2 : Int) (nf0 : Int) (nf1 : Int) (nf2 : Int) (nf3 : Int) (nf4 : Int) (nf5 : Int) (nf6 : Int) (nf7 : Int) (nf8 : Int) (ng : List (Int × Int)) (Ang : Option Addr) (cng : Nat) (nh : Int) (p_W : Int) (p_H : Int) (p_P : List Int) (A_p_P : Option Addr) (c_p_P : Nat) (top : Int) (height : Int) (from2 : Int) (to2 : Int) (w0 : World) (Rnd : SL w0 cII And nd) (Cnd : nd.length ≤ cnd) (Rng : SL w0 cII Ang ng) (Cng : ng.length ≤ cng) (R_p_P : SL w0 (cI .i64) A_p_P p_P) (C_p_P : p_P.length ≤ c_p_P) (r : Bool) (h : D_darkslidelaw_LineParts N na nb0 nb1 nb2 nb3 nc nd ne0 ne1 ne2 nf0 nf1 nf2 nf3 nf4 nf5 nf6 nf7 nf8 ng nh p_W p_H p_P top height from2 to2 = some r) :
    Calls Try.prog 6 #[.agg #[I na, I nb0, I nb1, I nb2, I nb3, I nc, .slice And nd.length cnd, I ne0, I ne1, I ne2, I nf0, I nf1, I nf2, I nf3, I nf4, I nf5, I nf6, I nf7, I nf8, .slice Ang ng.length cng, I nh], .agg #[I p_W, I p_H, .slice A_p_P p_P.length c_p_P], I top, I height, I from2, I to2] w0 fun e w' => ∃ v, e = .returned v ∧ v = .bool r ∧ Mem w0.heap.size w0 w' [] := by
  refine X_enter Try.func6 rfl Try.ntmps6 rfl ?_
  intro a K
  have M := Mem.start w0
  have K : Kn a 54 [(0, .agg #[I na, I nb0, I nb1, I nb2, I nb3, I nc, .slice And nd.length cnd, I ne0, I ne1, I ne2, I nf0, I nf1, I nf2, I nf3, I nf4, I nf5, I nf6, I nf7, I nf8, .slice Ang ng.length cng, I nh]), (1, .agg #[I p_W, I p_H, .slice A_p_P p_P.length c_p_P]), (2, I top), (3, I height), (4, I from2), (5, I to2)] := K
  unfold D_darkslidelaw_LineParts at h
  refine wp_seq (X_reg ?_)
  refine X_a K (ac_box rfl K rfl (cs := [I na, I nb0, I nb1, I nb2, I nb3, I nc, .slice And nd.length cnd, I ne0, I ne1, I ne2, I nf0, I nf1, I nf2, I nf3, I nf4, I nf5, I nf6, I nf7, I nf8, .slice Ang ng.length cng, I nh]) rfl M) ?_
  clear K M; rintro _ a w ⟨g_n, rfl, M⟩ K
  refine X_a K (ac_box rfl K rfl (cs := [I p_W, I p_H, .slice A_p_P p_P.length c_p_P]) rfl M) ?_
  clear K M; rintro _ a w ⟨g_p, rfl, M⟩ K
  refine X_o K M ?_; clear K; intro a K
  refine wpList_nil (then_n (wp_seq (X_reg ?_)))
  refine X_r K (rd_ldA rfl ty42 K rfl (inM 1 rfl) rfl rfl) M ?_; clear K
  refine Y_r (fun _ K => rd_ldA rfl ty45 K rfl (inM 0 rfl) rfl rfl) M ?_
  iterate 4 (refine Y_o M ?_)
  intro a K
  obtain ⟨r2, h_r2, h⟩ := obind h
  refine X_a K (ac_call (vs := [.agg #[I na, I nb0, I nb1, I nb2, I nb3, I nc, .slice And nd.length cnd, I ne0, I ne1, I ne2, I nf0, I nf1, I nf2, I nf3, I nf4, I nf5, I nf6, I nf7, I nf8, .slice Ang ng.length cng, I nh], .agg #[I p_W, I p_H, .slice A_p_P p_P.length c_p_P], I top, I height, I from2, I to2]) (cap := []) rfl fok21 K rfl rfl (W_line_Part N na nb0 nb1 nb2 nb3 nc nd And cnd ne0 ne1 ne2 nf0 nf1 nf2 nf3 nf4 nf5 nf6 nf7 nf8 ng Ang cng nh p_W p_H p_P A_p_P c_p_P top height from2 to2 _ ((inA Rnd) _ M) Cnd ((inA Rng) _ M) Cng ((inA R_p_P) _ M) C_p_P r2 h_r2)) ?_
  have M0 := M; clear K M; rintro _ a w ⟨A, c, rfl, M⟩ K
  replace M := M0.call M; clear M0
  refine X_o K M ?_; clear K
  iterate 2 (refine Y_o M ?_)
  intro a K
  refine X_a K (ac_alloc rfl z24 M) ?_
  clear K M; rintro _ a w ⟨g_q, rfl, M⟩ K
  refine X_b K (ac_storeA rfl ty24 K rfl (ds := [I r2.1, I r2.2.1, .slice A r2.2.2.1.length c]) rfl rfl 0 M rfl rfl rfl) ?_
  clear K M; rintro _ a w M K
  refine X_o K M ?_; clear K; intro a K
  refine wpList_nil (then_n (wp_seq (X_reg ?_)))
  refine X_r K (rd_ldA rfl ty42 K rfl (inM 3 rfl) rfl rfl) M ?_; clear K
  refine Y_r (fun _ K => rd_ldA rfl ty45 K rfl (inM 2 rfl) rfl rfl) M ?_
  iterate 4 (refine Y_o M ?_)
  intro a K
  obtain ⟨r3, h_r3, h⟩ := obind h
  refine X_a K (ac_call (vs := [.agg #[I na, I nb0, I nb1, I nb2, I nb3, I nc, .slice And nd.length cnd, I ne0, I ne1, I ne2, I nf0, I nf1, I nf2, I nf3, I nf4, I nf5, I nf6, I nf7, I nf8, .slice Ang ng.length cng, I nh], .agg #[I p_W, I p_H, .slice A_p_P p_P.length c_p_P], I top, I height, I from2, I to2]) (cap := []) rfl fok22 K rfl rfl (W_darkslideref_PartError N na nb0 nb1 nb2 nb3 nc nd And cnd ne0 ne1 ne2 nf0 nf1 nf2 nf3 nf4 nf5 nf6 nf7 nf8 ng Ang cng nh p_W p_H p_P A_p_P c_p_P top height from2 to2 _ ((inA Rnd) _ M) Cnd ((inA Rng) _ M) Cng ((inA R_p_P) _ M) C_p_P r3 h_r3)) ?_
  have M0 := M; clear K M; rintro _ a w ⟨rfl, M⟩ K
  replace M := M0.call M; clear M0
  refine X_o K M ?_; clear K; intro a K
  refine wpList_nil (then_n (wp_seq (X_reg ?_)))
  refine X_a K (ac_alloc rfl z24 M) ?_
  clear K M; rintro _ a w ⟨g_want, rfl, M⟩ K
  refine wpList_nil (then_n (wp_seq (wp_seq (X_reg ?_))))
  refine X_o K M ?_; clear K
  refine Y_o M ?_; intro a K
  refine wpList_nil (then_n ?_)
  refine X_cond K rfl (fun hb => ?_) (fun hb => ?_)
  · have h := ctrue hb h
    refine X_reg ?_
    refine X_r K (rd_ldA rfl ty42 K rfl (inM 4 rfl) rfl rfl) M ?_; clear K
    refine Y_r (fun _ K => rd_ldA rfl ty45 K rfl (inM 3 rfl) rfl rfl) M ?_
    iterate 4 (refine Y_o M ?_)
    intro a K
    refine X_inl (vs := [.agg #[I na, I nb0, I nb1, I nb2, I nb3, I nc, .slice And nd.length cnd, I ne0, I ne1, I ne2, I nf0, I nf1, I nf2, I nf3, I nf4, I nf5, I nf6, I nf7, I nf8, .slice Ang ng.length cng, I nh], .agg #[I p_W, I p_H, .slice A_p_P p_P.length c_p_P], I top, I height, I from2, I to2]) (cap := []) K (want_no rfl) rfl rfl rfl fok23 rfl rfl ?_; clear K
    refine X_enter Try.func23 rfl Try.ntmps23 rfl ?_
    intro a K
    have K : Kn a 54 [(0, .agg #[I na, I nb0, I nb1, I nb2, I nb3, I nc, .slice And nd.length cnd, I ne0, I ne1, I ne2, I nf0, I nf1, I nf2, I nf3, I nf4, I nf5, I nf6, I nf7, I nf8, .slice Ang ng.length cng, I nh]), (1, .agg #[I p_W, I p_H, .slice A_p_P p_P.length c_p_P]), (2, I top), (3, I height), (4, I from2), (5, I to2)] := K
    refine wp_seq (X_reg ?_)
    refine X_a K (ac_box rfl K rfl (cs := [I na, I nb0, I nb1, I nb2, I nb3, I nc, .slice And nd.length cnd, I ne0, I ne1, I ne2, I nf0, I nf1, I nf2, I nf3, I nf4, I nf5, I nf6, I nf7, I nf8, .slice Ang ng.length cng, I nh]) rfl M) ?_
    clear K M; rintro _ a w ⟨g_n2, rfl, M⟩ K
    refine X_a K (ac_box rfl K rfl (cs := [I p_W, I p_H, .slice A_p_P p_P.length c_p_P]) rfl M) ?_
    clear K M; rintro _ a w ⟨g_p2, rfl, M⟩ K
    refine X_a K (ac_alloc rfl z24 M) ?_
    clear K M; rintro _ a w ⟨g_x, rfl, M⟩ K
    refine wpList_nil (then_n (wp_seq ?_))
    refine wp_region_tr (fun w => Mem _ _ w _) [0,0,0,0,0,0,0,1,0,1,2] 11 [0,1,2,3,4,5,6,7,8,9,10] (by kernel_rfl) (by kernel_rfl) (by kernel_rfl) rfl M.drew ?_
    replace M := M.drew
    refine R_rd 0 [1,2,3,4,5,6,7,8,9,10] (by kernel_rfl) rfl K (want_no rfl) rfl rfl (rd_field rfl fld45_0 K rfl) ?_; clear K; intro a K
    refine R_rd 1 [2,3,4,5,6,7,8,9,10] (by kernel_rfl) rfl K (want_no rfl) rfl rfl (rd_ldC rfl sc3 K rfl (inM 1 rfl) rfl) ?_; clear K; intro a K
    refine R_rd 2 [3,4,5,6,7,8,9,10] (by kernel_rfl) rfl K (want_no rfl) rfl rfl (rd_move rfl K rfl) ?_; clear K; intro a K
    refine R_rd 3 [4,5,6,7,8,9,10] (by kernel_rfl) rfl K (want_no rfl) rfl rfl (rd_field rfl fld45_0 K rfl) ?_; clear K; intro a K
    refine R_rd 4 [5,6,7,8,9,10] (by kernel_rfl) rfl K (want_no rfl) rfl rfl (rd_ldC rfl sc3 K rfl (inM 1 rfl) rfl) ?_; clear K; intro a K
    refine R_rd 5 [6,7,8,9,10] (by kernel_rfl) rfl K (want_no rfl) rfl rfl (rd_move rfl K rfl) ?_; clear K; intro a K
    obtain ⟨x2, hx, h⟩ := olet h
    refine R_rd 6 [7,8,9,10] (by kernel_rfl) rfl K (want_no rfl) rfl rfl (rdi hx (rd_mul rfl K rfl rfl)) ?_; clear K; intro a K
    refine R_br [7,9] (by kernel_rfl) ⟨?_, ?_, trivial⟩
    ·
      obtain ⟨l2, h_l2, h⟩ := obind h
      refine R_ac [8,9,10] (by kernel_rfl) rfl K (want_no rfl) rfl rfl (ac_make (C := (cI .i64)) (z := 0) rfl sl43 rfl z3 rfl K rfl rfl M h_l2) ?_
      clear K M; rintro _ a w ⟨A2, c2, rfl, M⟩ K
      refine ⟨fun _ => M.pick [1,2,3,4,5,6,7,8] (by decide), ?_⟩
      refine R_rd 8 [9,10] (by kernel_rfl) rfl K (want_no rfl) rfl rfl (rd_build rfl K (vs := [(0, I p_W), (1, I height), (2, .slice A2 l2.length c2)]) (cs := [I p_W, I height, .slice A2 l2.length c2]) rfl (by kernel_rfl)) ?_; clear K; intro a K
      refine R_br [9] (by kernel_rfl) ⟨?_, trivial⟩
      refine R_ac [10] (by kernel_rfl) rfl K (want_no rfl) rfl rfl (ac_alloc rfl z45 M) ?_
      clear K M; rintro _ a w ⟨g_all, rfl, M⟩ K
      refine ⟨fun _ => M.pick [2,3,4,5,6,7,8,9] (by decide), ?_⟩
      refine R_br [10] (by kernel_rfl) ⟨?_, trivial⟩
      refine R_a0 [] (by kernel_rfl) rfl K (want_no rfl) rfl (ac_storeA rfl ty45 K rfl (ds := [I p_W, I height, .slice A2 l2.length c2]) rfl rfl 0 M rfl rfl rfl) ?_
      clear K M; rintro _ a w M K
      refine ⟨fun h => absurd h (by decide), ?_⟩
      refine R_end ?_
      refine then_n (wp_seq ?_)
      refine wp_region_tl (fun w => Mem _ _ w _) [0,1,0,0,0,0,1,0,0,1] (by kernel_rfl) (by kernel_rfl) (M.pick [2,3,4,5,6,7,8,9] (by decide)).drew ?_
      replace M := M.drew
      refine T_r K (rd_field rfl fld45_2 K rfl) ?_; clear K; intro a K
      refine T_rd1 K (want_no rfl) rfl rfl (rd_ldC rfl sc43 K rfl (inM 0 rfl) rfl) M (M.pick [2,3,4,5,6,7,8,9] (by decide)) ?_; clear K; intro a K
      refine T_o K ?_; clear K
      refine U_r (fun _ K => rd_field rfl fld45_0 K rfl) ?_
      refine U_r (fun _ K => rd_ldC rfl sc3 K rfl (inM 1 rfl) rfl) ?_
      refine U_o ?_; intro a K
      obtain ⟨l3, h_l3, h⟩ := obind h
      refine T_rd1 K (want_no rfl) rfl rfl (rd_slice (C := (cI .i64)) (k := .i64) (k' := .i64) rfl sl43 rfl K rfl (M.cap 1 rfl) rfl rfl h_l3) M (M.pick [2,3,4,5,6,7,8,9] (by decide)) ?_; clear K; intro a K
      refine T_r K (rd_field rfl fld45_2 K rfl) ?_; clear K
      refine U_r (fun _ K => rd_ldC rfl sc43 K rfl (inM 1 rfl) rfl) ?_; intro a K
      refine T_a K (ac_copy (C := (cI .i64)) (xs := l2) (ys := l3) (zs := p_P) rfl sl43 rfl rfl K rfl rfl 1 M rfl h_l3 ((inA R_p_P) _ M)) ?_
      have M0 := M; clear K M; rintro _ a w ⟨rfl, M⟩ K
      have hl := (cpy_len (zs := p_P) h_l3).symm
      try rw [hl] at M
      clear hl
      clear M0
      refine ⟨M.pick [2,3,4,5,6,7,8,9] (by decide), ?_⟩
      refine T_end ?_
      refine then_n (wp_seq (X_reg ?_))
      refine X_r K (rd_ldA rfl ty42 K rfl (inM 4 rfl) rfl rfl) M ?_; clear K
      refine Y_r (fun _ K => rd_ldA rfl ty45 K rfl (inM 0 rfl) rfl rfl) M ?_; intro a K
      obtain ⟨r4, h_r4, h⟩ := obind h
      refine X_a K (ac_call (vs := [.agg #[I na, I nb0, I nb1, I nb2, I nb3, I nc, .slice And nd.length cnd, I ne0, I ne1, I ne2, I nf0, I nf1, I nf2, I nf3, I nf4, I nf5, I nf6, I nf7, I nf8, .slice Ang ng.length cng, I nh], .agg #[I p_W, I height, .slice A2 ((cpy l2 (IntKind.i64.wrap (top * p_W)) l3.length p_P)).length c2]]) (cap := []) rfl fok17 K rfl rfl (W_darkslideref_WholeOf N na nb0 nb1 nb2 nb3 nc nd And cnd ne0 ne1 ne2 nf0 nf1 nf2 nf3 nf4 nf5 nf6 nf7 nf8 ng Ang cng nh p_W height ((cpy l2 (IntKind.i64.wrap (top * p_W)) l3.length p_P)) A2 c2 _ ((inA Rnd) _ M) Cnd ((inA Rng) _ M) Cng ((inR (C := (cI .i64)) 1 rfl rfl) _ M) (M.cap 1 rfl) r4 h_r4)) ?_
      have M0 := M; clear K M; rintro _ a w ⟨A3, c3, rfl, M⟩ K
      replace M := M0.call M; clear M0
      refine X_a K (ac_alloc rfl z24 M) ?_
      clear K M; rintro _ a w ⟨g_q2, rfl, M⟩ K
      refine X_b K (ac_storeA rfl ty24 K rfl (ds := [I r4.1, I r4.2.1, .slice A3 r4.2.2.length c3]) rfl rfl 0 M rfl rfl rfl) ?_
      clear K M; rintro _ a w M K
      refine wpList_nil (then_n (wp_seq ?_))
      refine wp_region_tl (fun w => Mem _ _ w _) [0,0,0,0,0,0,0,0,0,0,0,0,0,0,0,0,0,2] (by kernel_rfl) (by kernel_rfl) M.drew ?_
      replace M := M.drew
      refine T_r K (rd_field rfl fld45_0 K rfl) ?_; clear K
      refine U_r (fun _ K => rd_ldC rfl sc3 K rfl (inM 5 rfl) rfl) ?_
      iterate 3 (refine U_o ?_)
      refine U_r (fun _ K => rd_field rfl fld24_2 K rfl) ?_
      refine U_r (fun _ K => rd_ldC rfl sc22 K rfl (inM 0 rfl) rfl) ?_
      refine U_o ?_
      refine U_r (fun _ K => rd_field rfl fld45_0 K rfl) ?_
      refine U_r (fun _ K => rd_ldC rfl sc3 K rfl (inM 5 rfl) rfl) ?_
      iterate 2 (refine U_o ?_)
      refine U_r (fun _ K => rd_field rfl fld45_0 K rfl) ?_
      refine U_r (fun _ K => rd_ldC rfl sc3 K rfl (inM 5 rfl) rfl) ?_
      refine U_o ?_
      obtain ⟨l4, h_l4, h⟩ := obind h
      refine U_r (fun _ K => rd_slice (C := cIII) (k := .i64) (k' := .i64) rfl sl22 rfl K rfl (M.cap 1 rfl) rfl rfl h_l4) ?_
      refine U_r (fun _ K => rd_build rfl K (vs := [(0, I p_W), (1, I (IntKind.i64.wrap (to2 - from2))), (2, .slice ((slA A3 c3 (IntKind.i64.wrap (from2 * p_W)) 3)) l4.length ((c3 - Int.toNat (IntKind.i64.wrap (from2 * p_W)))))]) (cs := [I p_W, I (IntKind.i64.wrap (to2 - from2)), .slice ((slA A3 c3 (IntKind.i64.wrap (from2 * p_W)) 3)) l4.length ((c3 - Int.toNat (IntKind.i64.wrap (from2 * p_W))))]) rfl (by kernel_rfl)) ?_; intro a K
      refine T_b K (ac_storeA rfl ty24 K rfl (ds := [I p_W, I (IntKind.i64.wrap (to2 - from2)), .slice ((slA A3 c3 (IntKind.i64.wrap (from2 * p_W)) 3)) l4.length ((c3 - Int.toNat (IntKind.i64.wrap (from2 * p_W))))]) rfl rfl 4 M rfl rfl rfl) ?_
      clear K M; rintro _ a w M K
      refine T_end ?_
      refine then_n (wp_ret ?_)
      refine ret1 K rfl (res_cellA K rfl ty24 (M.blkAt (i := 4) rfl) rfl) ⟨_, rfl, ?_⟩; clear K; intro a K
      refine X_b K (ac_storeA rfl ty24 K rfl (ds := [I p_W, I (IntKind.i64.wrap (to2 - from2)), .slice ((slA A3 c3 (IntKind.i64.wrap (from2 * p_W)) 3)) l4.length ((c3 - Int.toNat (IntKind.i64.wrap (from2 * p_W))))]) rfl rfl 7 M rfl rfl rfl) ?_
      clear K M; rintro _ a w M K
      refine wpList_nil (then_n (wp_seq (X_reg ?_)))
      obtain ⟨r5, h_r5, h⟩ := obind h
      refine X_a K (ac_call (vs := []) (cap := []) rfl fok18 K rfl rfl (W_darkslidelaw_lineBegun N  _  r5 h_r5)) ?_
      have M0 := M; clear K M; rintro _ a w ⟨rfl, M⟩ K
      replace M := M0.call M; clear M0
      refine X_o K M ?_; clear K; intro a K
      rcases Bool.eq_false_or_eq_true (r5) with hb | hb
      · have h := ctrue hb h
        have K := K.reb (s := 44) rfl hb
        refine X_o K M ?_; clear K
        iterate 4 (refine Y_o M ?_)
        intro a K
        rcases Bool.eq_false_or_eq_true (decide (r2.2.2.2 = r3)) with hb | hb
        · have h := ctrue hb h
          have K := K.reb (s := 49) rfl hb
          refine X_r K (rd_ldA rfl ty24 K rfl (inM 8 rfl) rfl rfl) M ?_; clear K
          refine Y_r (fun _ K => rd_ldA rfl ty24 K rfl (inM 7 rfl) rfl rfl) M ?_; intro a K
          obtain ⟨r6, h_r6, h⟩ := obind h
          refine X_a K (ac_call (vs := [.agg #[I r2.1, I r2.2.1, .slice A r2.2.2.1.length c], .agg #[I p_W, I (IntKind.i64.wrap (to2 - from2)), .slice ((slA A3 c3 (IntKind.i64.wrap (from2 * p_W)) 3)) l4.length ((c3 - Int.toNat (IntKind.i64.wrap (from2 * p_W))))]]) (cap := []) rfl fok14 K rfl rfl (W_darkslideref_SamePictures N r2.1 r2.2.1 r2.2.2.1 A c p_W (IntKind.i64.wrap (to2 - from2)) l4 ((slA A3 c3 (IntKind.i64.wrap (from2 * p_W)) 3)) ((c3 - Int.toNat (IntKind.i64.wrap (from2 * p_W)))) _ ((inR (C := cIII) 9 rfl rfl) _ M) (M.cap 9 rfl) ((fun w M => (slA_SL h_l4 (M.cap 1 rfl)) w ((inR (C := cIII) 1 rfl rfl) w M)) _ M) (sli_cap h_l4 (M.cap 1 rfl)) r6 h_r6)) ?_
          have M0 := M; clear K M; rintro _ a w ⟨rfl, M⟩ K
          replace M := M0.call M; clear M0
          refine X_o K M ?_; clear K
          refine Y_o M ?_; intro a K
          refine wpList_nil (then_n (wp_ret ?_))
          cases h
          exact ret1 K rfl (res_tmp K rfl) ⟨_, rfl, rfl, ((M).pick [] (by decide))⟩
        have h := cfalse hb h
        have K := K.reb (s := 49) rfl hb
        refine X_o K M ?_; clear K
        iterate 4 (refine Y_o M ?_)
        intro a K
        refine wpList_nil (then_n (wp_ret ?_))
        cases h
        exact ret1 K rfl (res_tmp K rfl) ⟨_, rfl, rfl, ((M).pick [] (by decide))⟩
      have h := cfalse hb h
      have K := K.reb (s := 44) rfl hb
      refine X_o K M ?_; clear K
      iterate 9 (refine Y_o M ?_)
      intro a K
      refine wpList_nil (then_n (wp_ret ?_))
      cases h
      exact ret1 K rfl (res_tmp K rfl) ⟨_, rfl, rfl, ((M).pick [] (by decide))⟩
    ·
      refine R_ac [7,8,10] (by kernel_rfl) rfl K (want_no rfl) rfl rfl (ac_alloc rfl z45 M) ?_
      clear K M; rintro _ a w ⟨g_all2, rfl, M⟩ K
      refine ⟨fun _ => M.pick [1,2,3,4,5,6,7,8] (by decide), ?_⟩
      refine R_br [7] (by kernel_rfl) ⟨?_, trivial⟩
      obtain ⟨l5, h_l5, h⟩ := obind h
      refine R_ac [8,10] (by kernel_rfl) rfl K (want_no rfl) rfl rfl (ac_make (C := (cI .i64)) (z := 0) rfl sl43 rfl z3 rfl K rfl rfl M h_l5) ?_
      clear K M; rintro _ a w ⟨A4, c4, rfl, M⟩ K
      refine ⟨fun _ => M.pick [2,3,4,5,6,7,8,9] (by decide), ?_⟩
      refine R_rd 8 [10] (by kernel_rfl) rfl K (want_no rfl) rfl rfl (rd_build rfl K (vs := [(0, I p_W), (1, I height), (2, .slice A4 l5.length c4)]) (cs := [I p_W, I height, .slice A4 l5.length c4]) rfl (by kernel_rfl)) ?_; clear K; intro a K
      refine R_br [10] (by kernel_rfl) ⟨?_, trivial⟩
      refine R_a0 [] (by kernel_rfl) rfl K (want_no rfl) rfl (ac_storeA rfl ty45 K rfl (ds := [I p_W, I height, .slice A4 l5.length c4]) rfl rfl 1 M rfl rfl rfl) ?_
      clear K M; rintro _ a w M K
      refine ⟨fun h => absurd h (by decide), ?_⟩
      refine R_end ?_
      refine then_n (wp_seq ?_)
      refine wp_region_tl (fun w => Mem _ _ w _) [0,1,0,0,0,0,1,0,0,1] (by kernel_rfl) (by kernel_rfl) (M.pick [2,3,4,5,6,7,8,9] (by decide)).drew ?_
      replace M := M.drew
      refine T_r K (rd_field rfl fld45_2 K rfl) ?_; clear K; intro a K
      refine T_rd1 K (want_no rfl) rfl rfl (rd_ldC rfl sc43 K rfl (inM 1 rfl) rfl) M (M.pick [2,3,4,5,6,7,8,9] (by decide)) ?_; clear K; intro a K
      refine T_o K ?_; clear K
      refine U_r (fun _ K => rd_field rfl fld45_0 K rfl) ?_
      refine U_r (fun _ K => rd_ldC rfl sc3 K rfl (inM 1 rfl) rfl) ?_
      refine U_o ?_; intro a K
      obtain ⟨l6, h_l6, h⟩ := obind h
      refine T_rd1 K (want_no rfl) rfl rfl (rd_slice (C := (cI .i64)) (k := .i64) (k' := .i64) rfl sl43 rfl K rfl (M.cap 0 rfl) rfl rfl h_l6) M (M.pick [2,3,4,5,6,7,8,9] (by decide)) ?_; clear K; intro a K
      refine T_r K (rd_field rfl fld45_2 K rfl) ?_; clear K
      refine U_r (fun _ K => rd_ldC rfl sc43 K rfl (inM 1 rfl) rfl) ?_; intro a K
      refine T_a K (ac_copy (C := (cI .i64)) (xs := l5) (ys := l6) (zs := p_P) rfl sl43 rfl rfl K rfl rfl 0 M rfl h_l6 ((inA R_p_P) _ M)) ?_
      have M0 := M; clear K M; rintro _ a w ⟨rfl, M⟩ K
      have hl := (cpy_len (zs := p_P) h_l6).symm
      try rw [hl] at M
      clear hl
      clear M0
      refine ⟨M.pick [2,3,4,5,6,7,8,9] (by decide), ?_⟩
      refine T_end ?_
      refine then_n (wp_seq (X_reg ?_))
      refine X_r K (rd_ldA rfl ty42 K rfl (inM 4 rfl) rfl rfl) M ?_; clear K
      refine Y_r (fun _ K => rd_ldA rfl ty45 K rfl (inM 1 rfl) rfl rfl) M ?_; intro a K
      obtain ⟨r7, h_r7, h⟩ := obind h
      refine X_a K (ac_call (vs := [.agg #[I na, I nb0, I nb1, I nb2, I nb3, I nc, .slice And nd.length cnd, I ne0, I ne1, I ne2, I nf0, I nf1, I nf2, I nf3, I nf4, I nf5, I nf6, I nf7, I nf8, .slice Ang ng.length cng, I nh], .agg #[I p_W, I height, .slice A4 ((cpy l5 (IntKind.i64.wrap (top * p_W)) l6.length p_P)).length c4]]) (cap := []) rfl fok17 K rfl rfl (W_darkslideref_WholeOf N na nb0 nb1 nb2 nb3 nc nd And cnd ne0 ne1 ne2 nf0 nf1 nf2 nf3 nf4 nf5 nf6 nf7 nf8 ng Ang cng nh p_W height ((cpy l5 (IntKind.i64.wrap (top * p_W)) l6.length p_P)) A4 c4 _ ((inA Rnd) _ M) Cnd ((inA Rng) _ M) Cng ((inR (C := (cI .i64)) 0 rfl rfl) _ M) (M.cap 0 rfl) r7 h_r7)) ?_
      have M0 := M; clear K M; rintro _ a w ⟨A5, c5, rfl, M⟩ K
      replace M := M0.call M; clear M0
      refine X_a K (ac_alloc rfl z24 M) ?_
      clear K M; rintro _ a w ⟨g_q3, rfl, M⟩ K
      refine X_b K (ac_storeA rfl ty24 K rfl (ds := [I r7.1, I r7.2.1, .slice A5 r7.2.2.length c5]) rfl rfl 0 M rfl rfl rfl) ?_
      clear K M; rintro _ a w M K
      refine wpList_nil (then_n (wp_seq ?_))
      refine wp_region_tl (fun w => Mem _ _ w _) [0,0,0,0,0,0,0,0,0,0,0,0,0,0,0,0,0,2] (by kernel_rfl) (by kernel_rfl) M.drew ?_
      replace M := M.drew
      refine T_r K (rd_field rfl fld45_0 K rfl) ?_; clear K
      refine U_r (fun _ K => rd_ldC rfl sc3 K rfl (inM 5 rfl) rfl) ?_
      iterate 3 (refine U_o ?_)
      refine U_r (fun _ K => rd_field rfl fld24_2 K rfl) ?_
      refine U_r (fun _ K => rd_ldC rfl sc22 K rfl (inM 0 rfl) rfl) ?_
      refine U_o ?_
      refine U_r (fun _ K => rd_field rfl fld45_0 K rfl) ?_
      refine U_r (fun _ K => rd_ldC rfl sc3 K rfl (inM 5 rfl) rfl) ?_
      iterate 2 (refine U_o ?_)
      refine U_r (fun _ K => rd_field rfl fld45_0 K rfl) ?_
      refine U_r (fun _ K => rd_ldC rfl sc3 K rfl (inM 5 rfl) rfl) ?_
      refine U_o ?_
      obtain ⟨l7, h_l7, h⟩ := obind h
      refine U_r (fun _ K => rd_slice (C := cIII) (k := .i64) (k' := .i64) rfl sl22 rfl K rfl (M.cap 1 rfl) rfl rfl h_l7) ?_
      refine U_r (fun _ K => rd_build rfl K (vs := [(0, I p_W), (1, I (IntKind.i64.wrap (to2 - from2))), (2, .slice ((slA A5 c5 (IntKind.i64.wrap (from2 * p_W)) 3)) l7.length ((c5 - Int.toNat (IntKind.i64.wrap (from2 * p_W)))))]) (cs := [I p_W, I (IntKind.i64.wrap (to2 - from2)), .slice ((slA A5 c5 (IntKind.i64.wrap (from2 * p_W)) 3)) l7.length ((c5 - Int.toNat (IntKind.i64.wrap (from2 * p_W))))]) rfl (by kernel_rfl)) ?_; intro a K
      refine T_b K (ac_storeA rfl ty24 K rfl (ds := [I p_W, I (IntKind.i64.wrap (to2 - from2)), .slice ((slA A5 c5 (IntKind.i64.wrap (from2 * p_W)) 3)) l7.length ((c5 - Int.toNat (IntKind.i64.wrap (from2 * p_W))))]) rfl rfl 4 M rfl rfl rfl) ?_
      clear K M; rintro _ a w M K
      refine T_end ?_
      refine then_n (wp_ret ?_)
      refine ret1 K rfl (res_cellA K rfl ty24 (M.blkAt (i := 4) rfl) rfl) ⟨_, rfl, ?_⟩; clear K; intro a K
      refine X_b K (ac_storeA rfl ty24 K rfl (ds := [I p_W, I (IntKind.i64.wrap (to2 - from2)), .slice ((slA A5 c5 (IntKind.i64.wrap (from2 * p_W)) 3)) l7.length ((c5 - Int.toNat (IntKind.i64.wrap (from2 * p_W))))]) rfl rfl 7 M rfl rfl rfl) ?_
      clear K M; rintro _ a w M K
      refine wpList_nil (then_n (wp_seq (X_reg ?_)))
      obtain ⟨r8, h_r8, h⟩ := obind h
      refine X_a K (ac_call (vs := []) (cap := []) rfl fok18 K rfl rfl (W_darkslidelaw_lineBegun N  _  r8 h_r8)) ?_
      have M0 := M; clear K M; rintro _ a w ⟨rfl, M⟩ K
      replace M := M0.call M; clear M0
      refine X_o K M ?_; clear K; intro a K
      rcases Bool.eq_false_or_eq_true (r8) with hb | hb
      · have h := ctrue hb h
        have K := K.reb (s := 44) rfl hb
        refine X_o K M ?_; clear K
        iterate 4 (refine Y_o M ?_)
        intro a K
        rcases Bool.eq_false_or_eq_true (decide (r2.2.2.2 = r3)) with hb | hb
        · have h := ctrue hb h
          have K := K.reb (s := 49) rfl hb
          refine X_r K (rd_ldA rfl ty24 K rfl (inM 8 rfl) rfl rfl) M ?_; clear K
          refine Y_r (fun _ K => rd_ldA rfl ty24 K rfl (inM 7 rfl) rfl rfl) M ?_; intro a K
          obtain ⟨r9, h_r9, h⟩ := obind h
          refine X_a K (ac_call (vs := [.agg #[I r2.1, I r2.2.1, .slice A r2.2.2.1.length c], .agg #[I p_W, I (IntKind.i64.wrap (to2 - from2)), .slice ((slA A5 c5 (IntKind.i64.wrap (from2 * p_W)) 3)) l7.length ((c5 - Int.toNat (IntKind.i64.wrap (from2 * p_W))))]]) (cap := []) rfl fok14 K rfl rfl (W_darkslideref_SamePictures N r2.1 r2.2.1 r2.2.2.1 A c p_W (IntKind.i64.wrap (to2 - from2)) l7 ((slA A5 c5 (IntKind.i64.wrap (from2 * p_W)) 3)) ((c5 - Int.toNat (IntKind.i64.wrap (from2 * p_W)))) _ ((inR (C := cIII) 9 rfl rfl) _ M) (M.cap 9 rfl) ((fun w M => (slA_SL h_l7 (M.cap 1 rfl)) w ((inR (C := cIII) 1 rfl rfl) w M)) _ M) (sli_cap h_l7 (M.cap 1 rfl)) r9 h_r9)) ?_
          have M0 := M; clear K M; rintro _ a w ⟨rfl, M⟩ K
          replace M := M0.call M; clear M0
          refine X_o K M ?_; clear K
          refine Y_o M ?_; intro a K
          refine wpList_nil (then_n (wp_ret ?_))
          cases h
          exact ret1 K rfl (res_tmp K rfl) ⟨_, rfl, rfl, ((M).pick [] (by decide))⟩
        have h := cfalse hb h
        have K := K.reb (s := 49) rfl hb
        refine X_o K M ?_; clear K
        iterate 4 (refine Y_o M ?_)
        intro a K
        refine wpList_nil (then_n (wp_ret ?_))
        cases h
        exact ret1 K rfl (res_tmp K rfl) ⟨_, rfl, rfl, ((M).pick [] (by decide))⟩
      have h := cfalse hb h
      have K := K.reb (s := 44) rfl hb
      refine X_o K M ?_; clear K
      iterate 9 (refine Y_o M ?_)
      intro a K
      refine wpList_nil (then_n (wp_ret ?_))
      cases h
      exact ret1 K rfl (res_tmp K rfl) ⟨_, rfl, rfl, ((M).pick [] (by decide))⟩
  have h := cfalse hb h
  refine wp_skip (then_n (wp_seq (X_reg ?_)))
  obtain ⟨r10, h_r10, h⟩ := obind h
  refine X_a K (ac_call (vs := []) (cap := []) rfl fok18 K rfl rfl (W_darkslidelaw_lineBegun N  _  r10 h_r10)) ?_
  have M0 := M; clear K M; rintro _ a w ⟨rfl, M⟩ K
  replace M := M0.call M; clear M0
  refine X_o K M ?_; clear K; intro a K
  rcases Bool.eq_false_or_eq_true (r10) with hb | hb
  · have h := ctrue hb h
    have K := K.reb (s := 44) rfl hb
    refine X_o K M ?_; clear K
    iterate 4 (refine Y_o M ?_)
    intro a K
    rcases Bool.eq_false_or_eq_true (decide (r2.2.2.2 = r3)) with hb | hb
    · have h := ctrue hb h
      have K := K.reb (s := 49) rfl hb
      refine X_r K (rd_ldA rfl ty24 K rfl (inM 1 rfl) rfl rfl) M ?_; clear K
      refine Y_r (fun _ K => rd_ldA rfl ty24 K rfl (inM 0 rfl) rfl rfl) M ?_; intro a K
      obtain ⟨r11, h_r11, h⟩ := obind h
      refine X_a K (ac_call (vs := [.agg #[I r2.1, I r2.2.1, .slice A r2.2.2.1.length c], .agg #[I 0, I 0, .slice none (([] : List (Int × Int × Int))).length 0]]) (cap := []) rfl fok14 K rfl rfl (W_darkslideref_SamePictures N r2.1 r2.2.1 r2.2.2.1 A c 0 0 (([] : List (Int × Int × Int))) none 0 _ ((inR (C := cIII) 2 rfl rfl) _ M) (M.cap 2 rfl) ((fun _ _ => SL.nil) _ M) (Nat.le_refl _) r11 h_r11)) ?_
      have M0 := M; clear K M; rintro _ a w ⟨rfl, M⟩ K
      replace M := M0.call M; clear M0
      refine X_o K M ?_; clear K
      refine Y_o M ?_; intro a K
      refine wpList_nil (then_n (wp_ret ?_))
      cases h
      exact ret1 K rfl (res_tmp K rfl) ⟨_, rfl, rfl, ((M).pick [] (by decide))⟩
    have h := cfalse hb h
    have K := K.reb (s := 49) rfl hb
    refine X_o K M ?_; clear K
    iterate 4 (refine Y_o M ?_)
    intro a K
    refine wpList_nil (then_n (wp_ret ?_))
    cases h
    exact ret1 K rfl (res_tmp K rfl) ⟨_, rfl, rfl, ((M).pick [] (by decide))⟩
  have h := cfalse hb h
  have K := K.reb (s := 44) rfl hb
  refine X_o K M ?_; clear K
  iterate 9 (refine Y_o M ?_)
  intro a K
  refine wpList_nil (then_n (wp_ret ?_))
  cases h
  exact ret1 K rfl (res_tmp K rfl) ⟨_, rfl, rfl, ((M).pick [] (by decide))⟩
end Go.Proofs.Ytpmnfhifmmfglab
