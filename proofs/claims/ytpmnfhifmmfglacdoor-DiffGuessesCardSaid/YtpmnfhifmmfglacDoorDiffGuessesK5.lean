/- Texts of the claim DiffGuesses, joined: WLawDiffguesses. -/
import Derived.Test.YtpmnfhifmmfglacDoorDiffGuessesK2
import Derived.Test.YtpmnfhifmmfglacDoorDiffGuessesK4
set_option linter.unusedVariables false
set_option linter.unusedSimpArgs false
set_option linter.unusedSectionVars false
namespace Go.Proofs.YtpmnfhifmmfglacDoor
open Go.RowKit
set_option maxRecDepth 100000 in
set_option maxHeartbeats 4000000 in
theorem W_darkslidelaw_DiffGuesses (N : Nat) (d_W : Int) (d_H : Int) (d_P : List Int) (A_d_P : Option Addr) (c_d_P : Nat) (o : Int) (p2 : Int) (p3 : Int) (w0 : World) (R_d_P : SL w0 (cI .i64) A_d_P d_P) (C_d_P : d_P.length ≤ c_d_P) (r : Bool) (h : D_darkslidelaw_DiffGuesses N d_W d_H d_P o p2 p3 = some r) :
    Calls Tryd.prog 5 #[.agg #[I d_W, I d_H, .slice A_d_P d_P.length c_d_P], I o, I p2, I p3] w0 fun e w' => ∃ v, e = .returned v ∧ v = .bool r ∧ Mem w0.heap.size w0 w' [] := by
  refine X_enter Tryd.func5 rfl Tryd.ntmps5 rfl ?_
  intro a K
  have M := Mem.start w0
  have K : Kn a 90 [(0, .agg #[I d_W, I d_H, .slice A_d_P d_P.length c_d_P]), (1, I o), (2, I p2), (3, I p3)] := K
  unfold D_darkslidelaw_DiffGuesses at h
  refine wp_seq (X_reg ?_)
  refine X_a K (ac_box rfl K rfl (cs := [I d_W, I d_H, .slice A_d_P d_P.length c_d_P]) rfl M) ?_
  clear K M; rintro _ a w ⟨g_x, rfl, M⟩ K
  refine X_o K M ?_; clear K; intro a K
  refine wpList_nil (then_n (wp_seq (X_reg ?_)))
  refine X_r K (rd_ldA rfl ty38 K rfl (inM 0 rfl) rfl rfl) M ?_; clear K
  iterate 3 (refine Y_o M ?_)
  intro a K
  obtain ⟨r2, h_r2, h⟩ := obind h
  refine X_a K (ac_call (vs := [.agg #[I d_W, I d_H, .slice A_d_P d_P.length c_d_P], I o, I p2, I p3]) (cap := []) rfl fok18 K rfl rfl (W_diff_Guess N d_W d_H d_P A_d_P c_d_P o p2 p3 _ ((inA R_d_P) _ M) C_d_P r2 h_r2)) ?_
  have M0 := M; clear K M; rintro _ a w ⟨rfl, M⟩ K
  replace M := M0.call M; clear M0
  refine X_o K M ?_; clear K
  iterate 4 (refine Y_o M ?_)
  intro a K
  refine wpList_nil (then_n (wp_seq (wp_block (wp_seq (X_reg ?_)))))
  refine X_r K (rd_ldA rfl ty38 K rfl (inM 0 rfl) rfl rfl) M ?_; clear K; intro a K
  obtain ⟨r3, h_r3, h⟩ := obind h
  refine X_a K (ac_call (vs := [.agg #[I d_W, I d_H, .slice A_d_P d_P.length c_d_P]]) (cap := []) rfl fok19 K rfl rfl (W_darkslideref_PlaneFine N d_W d_H d_P A_d_P c_d_P _ ((inA R_d_P) _ M) C_d_P r3 h_r3)) ?_
  have M0 := M; clear K M; rintro _ a w ⟨rfl, M⟩ K
  replace M := M0.call M; clear M0
  refine X_o K M ?_; clear K
  refine Y_o M ?_; intro a K
  refine wpList_nil (then_n ?_)
  refine X_cond K rfl (fun hb => ?_) (fun hb => ?_)
  · have h := ctrue hb h
    refine wp_seq (X_reg ?_)
    obtain ⟨r4, h_r4, h⟩ := obind h
    refine X_a K (ac_call (vs := []) (cap := []) rfl fok20 K rfl rfl (W_darkslidelaw_diffBegun N  _  r4 h_r4)) ?_
    have M0 := M; clear K M; rintro _ a w ⟨rfl, M⟩ K
    replace M := M0.call M; clear M0
    refine X_o K M ?_; clear K; intro a K
    rcases Bool.eq_false_or_eq_true (r4) with hb | hb
    · have h := ctrue hb h
      have K := K.reb (s := 24) rfl hb
      refine X_o K M ?_; clear K
      iterate 3 (refine Y_o M ?_)
      intro a K
      rcases Bool.eq_false_or_eq_true (decide (r2.1 = 0)) with hb | hb
      · have h := ctrue hb h
        have K := K.reb (s := 28) rfl hb
        refine X_o K M ?_; clear K
        iterate 3 (refine Y_o M ?_)
        intro a K
        refine wpList_nil (then_n (wp_ret (inb_r (then_r ?_))))
        cases h
        exact ret1 K rfl (res_tmp K rfl) ⟨_, rfl, rfl, ((M).pick [] (by decide))⟩
      have h := cfalse hb h
      have K := K.reb (s := 28) rfl hb
      refine X_o K M ?_; clear K
      iterate 3 (refine Y_o M ?_)
      intro a K
      refine wpList_nil (then_n (wp_ret (inb_r (then_r ?_))))
      cases h
      exact ret1 K rfl (res_tmp K rfl) ⟨_, rfl, rfl, ((M).pick [] (by decide))⟩
    have h := cfalse hb h
    have K := K.reb (s := 24) rfl hb
    refine X_o K M ?_; clear K
    iterate 7 (refine Y_o M ?_)
    intro a K
    refine wpList_nil (then_n (wp_ret (inb_r (then_r ?_))))
    cases h
    exact ret1 K rfl (res_tmp K rfl) ⟨_, rfl, rfl, ((M).pick [] (by decide))⟩
  have h := cfalse hb h
  refine wp_seq (X_reg ?_)
  refine X_o K M ?_; clear K
  iterate 2 (refine Y_o M ?_)
  intro a K
  rcases Bool.eq_false_or_eq_true (decide (o < 1)) with hb | hb
  · have h := ctrue hb h
    have K := K.reb (s := 35) rfl hb
    refine X_o K M ?_; clear K
    iterate 3 (refine Y_o M ?_)
    intro a K
    refine wpList_nil (then_n ?_)
    refine X_condT K rfl ?_
    refine wp_seq (X_reg ?_)
    obtain ⟨r5, h_r5, h⟩ := obind h
    refine X_a K (ac_call (vs := []) (cap := []) rfl fok20 K rfl rfl (W_darkslidelaw_diffBegun N  _  r5 h_r5)) ?_
    have M0 := M; clear K M; rintro _ a w ⟨rfl, M⟩ K
    replace M := M0.call M; clear M0
    refine X_o K M ?_; clear K; intro a K
    rcases Bool.eq_false_or_eq_true (r5) with hb | hb
    · have h := ctrue hb h
      have K := K.reb (s := 40) rfl hb
      refine X_o K M ?_; clear K
      iterate 3 (refine Y_o M ?_)
      intro a K
      rcases Bool.eq_false_or_eq_true (decide (r2.1 = 0)) with hb | hb
      · have h := ctrue hb h
        have K := K.reb (s := 44) rfl hb
        refine X_o K M ?_; clear K
        iterate 3 (refine Y_o M ?_)
        intro a K
        refine wpList_nil (then_n (wp_ret (inb_r (then_r ?_))))
        cases h
        exact ret1 K rfl (res_tmp K rfl) ⟨_, rfl, rfl, ((M).pick [] (by decide))⟩
      have h := cfalse hb h
      have K := K.reb (s := 44) rfl hb
      refine X_o K M ?_; clear K
      iterate 3 (refine Y_o M ?_)
      intro a K
      refine wpList_nil (then_n (wp_ret (inb_r (then_r ?_))))
      cases h
      exact ret1 K rfl (res_tmp K rfl) ⟨_, rfl, rfl, ((M).pick [] (by decide))⟩
    have h := cfalse hb h
    have K := K.reb (s := 40) rfl hb
    refine X_o K M ?_; clear K
    iterate 7 (refine Y_o M ?_)
    intro a K
    refine wpList_nil (then_n (wp_ret (inb_r (then_r ?_))))
    cases h
    exact ret1 K rfl (res_tmp K rfl) ⟨_, rfl, rfl, ((M).pick [] (by decide))⟩
  have h := cfalse hb h
  have K := K.reb (s := 35) rfl hb
  refine X_o K M ?_; clear K
  iterate 3 (refine Y_o M ?_)
  intro a K
  refine wpList_nil (then_n ?_)
  refine X_cond K rfl (fun hb => ?_) (fun hb => ?_)
  · have h := ctrue hb h
    refine wp_seq (X_reg ?_)
    obtain ⟨r6, h_r6, h⟩ := obind h
    refine X_a K (ac_call (vs := []) (cap := []) rfl fok20 K rfl rfl (W_darkslidelaw_diffBegun N  _  r6 h_r6)) ?_
    have M0 := M; clear K M; rintro _ a w ⟨rfl, M⟩ K
    replace M := M0.call M; clear M0
    refine X_o K M ?_; clear K; intro a K
    rcases Bool.eq_false_or_eq_true (r6) with hb | hb
    · have h := ctrue hb h
      have K := K.reb (s := 40) rfl hb
      refine X_o K M ?_; clear K
      iterate 3 (refine Y_o M ?_)
      intro a K
      rcases Bool.eq_false_or_eq_true (decide (r2.1 = 0)) with hb | hb
      · have h := ctrue hb h
        have K := K.reb (s := 44) rfl hb
        refine X_o K M ?_; clear K
        iterate 3 (refine Y_o M ?_)
        intro a K
        refine wpList_nil (then_n (wp_ret (inb_r (then_r ?_))))
        cases h
        exact ret1 K rfl (res_tmp K rfl) ⟨_, rfl, rfl, ((M).pick [] (by decide))⟩
      have h := cfalse hb h
      have K := K.reb (s := 44) rfl hb
      refine X_o K M ?_; clear K
      iterate 3 (refine Y_o M ?_)
      intro a K
      refine wpList_nil (then_n (wp_ret (inb_r (then_r ?_))))
      cases h
      exact ret1 K rfl (res_tmp K rfl) ⟨_, rfl, rfl, ((M).pick [] (by decide))⟩
    have h := cfalse hb h
    have K := K.reb (s := 40) rfl hb
    refine X_o K M ?_; clear K
    iterate 7 (refine Y_o M ?_)
    intro a K
    refine wpList_nil (then_n (wp_ret (inb_r (then_r ?_))))
    cases h
    exact ret1 K rfl (res_tmp K rfl) ⟨_, rfl, rfl, ((M).pick [] (by decide))⟩
  have h := cfalse hb h
  refine wp_seq (X_reg ?_)
  refine X_o K M ?_; clear K
  iterate 2 (refine Y_o M ?_)
  intro a K
  rcases Bool.eq_false_or_eq_true (decide (p2 < 0)) with hb | hb
  · have h := ctrue hb h
    have K := K.reb (s := 51) rfl hb
    refine X_o K M ?_; clear K
    iterate 15 (refine Y_o M ?_)
    intro a K
    refine wpList_nil (then_n ?_)
    refine X_condT K rfl ?_
    refine wp_seq (X_reg ?_)
    obtain ⟨r7, h_r7, h⟩ := obind h
    refine X_a K (ac_call (vs := []) (cap := []) rfl fok20 K rfl rfl (W_darkslidelaw_diffBegun N  _  r7 h_r7)) ?_
    have M0 := M; clear K M; rintro _ a w ⟨rfl, M⟩ K
    replace M := M0.call M; clear M0
    refine X_o K M ?_; clear K; intro a K
    rcases Bool.eq_false_or_eq_true (r7) with hb | hb
    · have h := ctrue hb h
      have K := K.reb (s := 68) rfl hb
      refine X_o K M ?_; clear K
      iterate 3 (refine Y_o M ?_)
      intro a K
      rcases Bool.eq_false_or_eq_true (decide (r2.1 = 0)) with hb | hb
      · have h := ctrue hb h
        have K := K.reb (s := 72) rfl hb
        refine X_o K M ?_; clear K
        iterate 3 (refine Y_o M ?_)
        intro a K
        refine wpList_nil (then_n (wp_ret (inb_r (then_r ?_))))
        cases h
        exact ret1 K rfl (res_tmp K rfl) ⟨_, rfl, rfl, ((M).pick [] (by decide))⟩
      have h := cfalse hb h
      have K := K.reb (s := 72) rfl hb
      refine X_o K M ?_; clear K
      iterate 3 (refine Y_o M ?_)
      intro a K
      refine wpList_nil (then_n (wp_ret (inb_r (then_r ?_))))
      cases h
      exact ret1 K rfl (res_tmp K rfl) ⟨_, rfl, rfl, ((M).pick [] (by decide))⟩
    have h := cfalse hb h
    have K := K.reb (s := 68) rfl hb
    refine X_o K M ?_; clear K
    iterate 7 (refine Y_o M ?_)
    intro a K
    refine wpList_nil (then_n (wp_ret (inb_r (then_r ?_))))
    cases h
    exact ret1 K rfl (res_tmp K rfl) ⟨_, rfl, rfl, ((M).pick [] (by decide))⟩
  have h := cfalse hb h
  have K := K.reb (s := 51) rfl hb
  refine X_o K M ?_; clear K
  refine Y_r (fun _ K => rd_field rfl fld38_0 K rfl) M ?_
  refine Y_r (fun _ K => rd_ldC rfl sc3 K rfl (inM 0 rfl) rfl) M ?_
  iterate 3 (refine Y_o M ?_)
  intro a K
  rcases Bool.eq_false_or_eq_true (decide (d_W ≤ p2)) with hb | hb
  · have h := ctrue hb h
    have K := K.reb (s := 57) rfl hb
    refine X_o K M ?_; clear K
    iterate 9 (refine Y_o M ?_)
    intro a K
    refine wpList_nil (then_n ?_)
    refine X_condT K rfl ?_
    refine wp_seq (X_reg ?_)
    obtain ⟨r8, h_r8, h⟩ := obind h
    refine X_a K (ac_call (vs := []) (cap := []) rfl fok20 K rfl rfl (W_darkslidelaw_diffBegun N  _  r8 h_r8)) ?_
    have M0 := M; clear K M; rintro _ a w ⟨rfl, M⟩ K
    replace M := M0.call M; clear M0
    refine X_o K M ?_; clear K; intro a K
    rcases Bool.eq_false_or_eq_true (r8) with hb | hb
    · have h := ctrue hb h
      have K := K.reb (s := 68) rfl hb
      refine X_o K M ?_; clear K
      iterate 3 (refine Y_o M ?_)
      intro a K
      rcases Bool.eq_false_or_eq_true (decide (r2.1 = 0)) with hb | hb
      · have h := ctrue hb h
        have K := K.reb (s := 72) rfl hb
        refine X_o K M ?_; clear K
        iterate 3 (refine Y_o M ?_)
        intro a K
        refine wpList_nil (then_n (wp_ret (inb_r (then_r ?_))))
        cases h
        exact ret1 K rfl (res_tmp K rfl) ⟨_, rfl, rfl, ((M).pick [] (by decide))⟩
      have h := cfalse hb h
      have K := K.reb (s := 72) rfl hb
      refine X_o K M ?_; clear K
      iterate 3 (refine Y_o M ?_)
      intro a K
      refine wpList_nil (then_n (wp_ret (inb_r (then_r ?_))))
      cases h
      exact ret1 K rfl (res_tmp K rfl) ⟨_, rfl, rfl, ((M).pick [] (by decide))⟩
    have h := cfalse hb h
    have K := K.reb (s := 68) rfl hb
    refine X_o K M ?_; clear K
    iterate 7 (refine Y_o M ?_)
    intro a K
    refine wpList_nil (then_n (wp_ret (inb_r (then_r ?_))))
    cases h
    exact ret1 K rfl (res_tmp K rfl) ⟨_, rfl, rfl, ((M).pick [] (by decide))⟩
  have h := cfalse hb h
  have K := K.reb (s := 57) rfl hb
  refine X_o K M ?_; clear K
  iterate 3 (refine Y_o M ?_)
  intro a K
  rcases Bool.eq_false_or_eq_true (decide (p3 < 0)) with hb | hb
  · have h := ctrue hb h
    have K := K.reb (s := 61) rfl hb
    refine X_o K M ?_; clear K
    iterate 5 (refine Y_o M ?_)
    intro a K
    refine wpList_nil (then_n ?_)
    refine X_condT K rfl ?_
    refine wp_seq (X_reg ?_)
    obtain ⟨r9, h_r9, h⟩ := obind h
    refine X_a K (ac_call (vs := []) (cap := []) rfl fok20 K rfl rfl (W_darkslidelaw_diffBegun N  _  r9 h_r9)) ?_
    have M0 := M; clear K M; rintro _ a w ⟨rfl, M⟩ K
    replace M := M0.call M; clear M0
    refine X_o K M ?_; clear K; intro a K
    rcases Bool.eq_false_or_eq_true (r9) with hb | hb
    · have h := ctrue hb h
      have K := K.reb (s := 68) rfl hb
      refine X_o K M ?_; clear K
      iterate 3 (refine Y_o M ?_)
      intro a K
      rcases Bool.eq_false_or_eq_true (decide (r2.1 = 0)) with hb | hb
      · have h := ctrue hb h
        have K := K.reb (s := 72) rfl hb
        refine X_o K M ?_; clear K
        iterate 3 (refine Y_o M ?_)
        intro a K
        refine wpList_nil (then_n (wp_ret (inb_r (then_r ?_))))
        cases h
        exact ret1 K rfl (res_tmp K rfl) ⟨_, rfl, rfl, ((M).pick [] (by decide))⟩
      have h := cfalse hb h
      have K := K.reb (s := 72) rfl hb
      refine X_o K M ?_; clear K
      iterate 3 (refine Y_o M ?_)
      intro a K
      refine wpList_nil (then_n (wp_ret (inb_r (then_r ?_))))
      cases h
      exact ret1 K rfl (res_tmp K rfl) ⟨_, rfl, rfl, ((M).pick [] (by decide))⟩
    have h := cfalse hb h
    have K := K.reb (s := 68) rfl hb
    refine X_o K M ?_; clear K
    iterate 7 (refine Y_o M ?_)
    intro a K
    refine wpList_nil (then_n (wp_ret (inb_r (then_r ?_))))
    cases h
    exact ret1 K rfl (res_tmp K rfl) ⟨_, rfl, rfl, ((M).pick [] (by decide))⟩
  have h := cfalse hb h
  have K := K.reb (s := 61) rfl hb
  refine X_o K M ?_; clear K
  refine Y_r (fun _ K => rd_field rfl fld38_1 K rfl) M ?_
  refine Y_r (fun _ K => rd_ldC rfl sc3 K rfl (inM 0 rfl) rfl) M ?_
  iterate 3 (refine Y_o M ?_)
  intro a K
  refine wpList_nil (then_n ?_)
  refine X_cond K rfl (fun hb => ?_) (fun hb => ?_)
  · have h := ctrue hb h
    refine wp_seq (X_reg ?_)
    obtain ⟨r10, h_r10, h⟩ := obind h
    refine X_a K (ac_call (vs := []) (cap := []) rfl fok20 K rfl rfl (W_darkslidelaw_diffBegun N  _  r10 h_r10)) ?_
    have M0 := M; clear K M; rintro _ a w ⟨rfl, M⟩ K
    replace M := M0.call M; clear M0
    refine X_o K M ?_; clear K; intro a K
    rcases Bool.eq_false_or_eq_true (r10) with hb | hb
    · have h := ctrue hb h
      have K := K.reb (s := 68) rfl hb
      refine X_o K M ?_; clear K
      iterate 3 (refine Y_o M ?_)
      intro a K
      rcases Bool.eq_false_or_eq_true (decide (r2.1 = 0)) with hb | hb
      · have h := ctrue hb h
        have K := K.reb (s := 72) rfl hb
        refine X_o K M ?_; clear K
        iterate 3 (refine Y_o M ?_)
        intro a K
        refine wpList_nil (then_n (wp_ret (inb_r (then_r ?_))))
        cases h
        exact ret1 K rfl (res_tmp K rfl) ⟨_, rfl, rfl, ((M).pick [] (by decide))⟩
      have h := cfalse hb h
      have K := K.reb (s := 72) rfl hb
      refine X_o K M ?_; clear K
      iterate 3 (refine Y_o M ?_)
      intro a K
      refine wpList_nil (then_n (wp_ret (inb_r (then_r ?_))))
      cases h
      exact ret1 K rfl (res_tmp K rfl) ⟨_, rfl, rfl, ((M).pick [] (by decide))⟩
    have h := cfalse hb h
    have K := K.reb (s := 68) rfl hb
    refine X_o K M ?_; clear K
    iterate 7 (refine Y_o M ?_)
    intro a K
    refine wpList_nil (then_n (wp_ret (inb_r (then_r ?_))))
    cases h
    exact ret1 K rfl (res_tmp K rfl) ⟨_, rfl, rfl, ((M).pick [] (by decide))⟩
  have h := cfalse hb h
  refine wp_skip (inb_n (then_n (wp_seq (X_reg ?_))))
  obtain ⟨r11, h_r11, h⟩ := obind h
  refine X_a K (ac_call (vs := []) (cap := []) rfl fok20 K rfl rfl (W_darkslidelaw_diffBegun N  _  r11 h_r11)) ?_
  have M0 := M; clear K M; rintro _ a w ⟨rfl, M⟩ K
  replace M := M0.call M; clear M0
  refine X_o K M ?_; clear K; intro a K
  rcases Bool.eq_false_or_eq_true (r11) with hb | hb
  · have h := ctrue hb h
    have K := K.reb (s := 77) rfl hb
    refine X_o K M ?_; clear K
    iterate 3 (refine Y_o M ?_)
    intro a K
    rcases Bool.eq_false_or_eq_true (decide (r2.2 = 0)) with hb | hb
    · have h := ctrue hb h
      have K := K.reb (s := 81) rfl hb
      refine X_o K M ?_; clear K
      refine Y_r (fun _ K => rd_ldA rfl ty38 K rfl (inM 0 rfl) rfl rfl) M ?_
      iterate 3 (refine Y_o M ?_)
      intro a K
      obtain ⟨r12, h_r12, h⟩ := obind h
      refine X_a K (ac_call (vs := [.agg #[I d_W, I d_H, .slice A_d_P d_P.length c_d_P], I o, I p2, I p3]) (cap := []) rfl fok21 K rfl rfl (W_darkslideref_GuessOf N d_W d_H d_P A_d_P c_d_P o p2 p3 _ ((inA R_d_P) _ M) C_d_P r12 h_r12)) ?_
      have M0 := M; clear K M; rintro _ a w ⟨rfl, M⟩ K
      replace M := M0.call M; clear M0
      refine X_o K M ?_; clear K
      iterate 2 (refine Y_o M ?_)
      intro a K
      refine wpList_nil (then_n (wp_ret ?_))
      cases h
      exact ret1 K rfl (res_tmp K rfl) ⟨_, rfl, rfl, ((M).pick [] (by decide))⟩
    have h := cfalse hb h
    have K := K.reb (s := 81) rfl hb
    refine X_o K M ?_; clear K
    iterate 8 (refine Y_o M ?_)
    intro a K
    refine wpList_nil (then_n (wp_ret ?_))
    cases h
    exact ret1 K rfl (res_tmp K rfl) ⟨_, rfl, rfl, ((M).pick [] (by decide))⟩
  have h := cfalse hb h
  have K := K.reb (s := 77) rfl hb
  refine X_o K M ?_; clear K
  iterate 12 (refine Y_o M ?_)
  intro a K
  refine wpList_nil (then_n (wp_ret ?_))
  cases h
  exact ret1 K rfl (res_tmp K rfl) ⟨_, rfl, rfl, ((M).pick [] (by decide))⟩
end Go.Proofs.YtpmnfhifmmfglacDoor
