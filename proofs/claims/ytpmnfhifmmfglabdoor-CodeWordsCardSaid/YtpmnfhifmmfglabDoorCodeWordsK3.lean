/- Texts of the claim CodeWords, joined: WCode, WLawLens, WRefSameints, WLawCodebegun, WLawSametexts, WRefWithin, WRefCheckcode, WRefNumber, WRefWordsof, WLawCodewords. -/
import Derived.Test.YtpmnfhifmmfglabDoorCodeWordsK1
import Derived.Test.YtpmnfhifmmfglabDoorCodeWordsK2
set_option linter.unusedVariables false
set_option linter.unusedSimpArgs false
set_option linter.unusedSectionVars false
namespace Go.Proofs.YtpmnfhifmmfglabDoor
open Go.RowKit
set_option maxRecDepth 100000 in
set_option maxHeartbeats 4000000 in
theorem W_code_Check (N : Nat) (lens : List Int) (A_lens : Option Addr) (c_lens : Nat) (w0 : World) (R_lens : SL w0 (cI .i64) A_lens lens) (C_lens : lens.length ≤ c_lens) (r : Int) (h : D_code_Check N lens = some r) :
    Calls Tryd.prog 28 #[.slice A_lens lens.length c_lens] w0 fun e w' => ∃ v, e = .returned v ∧ v = I r ∧ Mem w0.heap.size w0 w' [] := by
  refine X_enter Tryd.func28 rfl Tryd.ntmps28 rfl ?_
  intro a K
  have M := Mem.start w0
  have K : Kn a 40 [(0, .slice A_lens lens.length c_lens)] := K
  unfold D_code_Check at h
  refine wp_seq (X_reg ?_)
  refine X_o K M ?_; clear K; intro a K
  refine wpList_nil (then_n (wp_seq (wp_seq (X_reg ?_))))
  refine X_o K M ?_; clear K
  refine Y_r (fun _ K => rd_len rfl un35 K rfl) M ?_
  iterate 2 (refine Y_o M ?_)
  intro a K
  rcases Bool.eq_false_or_eq_true (decide ((lens.length : Int) < 1)) with hb | hb
  · have h := ctrue hb h
    have K := K.reb (s := 9) rfl hb
    refine X_o K M ?_; clear K
    iterate 3 (refine Y_o M ?_)
    intro a K
    refine wpList_nil (then_n ?_)
    refine X_condT K rfl ?_
    refine wp_seq (X_reg ?_)
    refine X_o K M ?_; clear K; intro a K
    refine wpList_nil (then_n (wp_ret (then_r ?_)))
    cases h
    exact ret1 K rfl (res_tmp K rfl) ⟨_, rfl, rfl, ((M).pick [] (by decide))⟩
  have h := cfalse hb h
  have K := K.reb (s := 9) rfl hb
  refine X_o K M ?_; clear K
  refine Y_r (fun _ K => rd_len rfl un35 K rfl) M ?_
  iterate 2 (refine Y_o M ?_)
  intro a K
  refine wpList_nil (then_n ?_)
  refine X_cond K rfl (fun hb => ?_) (fun hb => ?_)
  · have h := ctrue hb h
    refine wp_seq (X_reg ?_)
    refine X_o K M ?_; clear K; intro a K
    refine wpList_nil (then_n (wp_ret (then_r ?_)))
    cases h
    exact ret1 K rfl (res_tmp K rfl) ⟨_, rfl, rfl, ((M).pick [] (by decide))⟩
  have h := cfalse hb h
  refine wp_skip (then_n (wp_seq (X_reg ?_)))
  refine X_o K M ?_; clear K; intro a K
  refine wpList_nil (then_n (wp_seq (wp_seq (X_reg ?_))))
  refine X_o K M ?_; clear K
  refine Y_r (fun _ K => rd_len rfl un35 K rfl) M ?_
  refine Y_o M ?_; intro a K
  refine wpList_nil (then_n (wp_block ?_))
  refine X_lp (id := 0) (Rel := fun (⟨room, i⟩ : Int × Int) a w => Kn a 40 [(3, I room), (14, .slice A_lens lens.length c_lens), (15, I (lens.length : Int)), (16, I i)] ∧ Mem w0.heap.size w0 w []) h (fun _ _ => rfl) ⟨K.pick [3,14,15,16], M.pick [] (by decide)⟩ ?_ ?_
  · clear K M h
    rintro ⟨room4, i2⟩ a w ⟨K, M⟩ h
    try dsimp only at h
    refine inb_e ?_
    refine then_n (wp_seq (wp_seq (X_reg ?_)))
    refine X_o K M ?_; clear K
    iterate 2 (refine Y_o M ?_)
    intro a K
    rcases Bool.eq_false_or_eq_true (decide (room4 < 0)) with hb | hb
    · have h := ctrue hb h
      have K := K.reb (s := 36) rfl hb
      refine X_o K M ?_; clear K
      iterate 2 (refine Y_o M ?_)
      intro a K
      refine wpList_nil (then_n ?_)
      refine X_condT K rfl ?_
      refine wp_seq (X_reg ?_)
      refine X_o K M ?_; clear K; intro a K
      refine wpList_nil (then_n (wp_ret (then_r ?_)))
      cases h
      exact ret1 K rfl (res_tmp K rfl) ⟨_, rfl, rfl, ((M).pick [] (by decide))⟩
    have h := cfalse hb h
    have K := K.reb (s := 36) rfl hb
    refine X_o K M ?_; clear K
    iterate 2 (refine Y_o M ?_)
    intro a K
    refine wpList_nil (then_n ?_)
    refine X_cond K rfl (fun hb => ?_) (fun hb => ?_)
    · have h := ctrue hb h
      refine wp_seq (X_reg ?_)
      refine X_o K M ?_; clear K; intro a K
      refine wpList_nil (then_n (wp_ret (then_r ?_)))
      cases h
      exact ret1 K rfl (res_tmp K rfl) ⟨_, rfl, rfl, ((M).pick [] (by decide))⟩
    have h := cfalse hb h
    refine wp_skip (then_n (wp_seq (X_reg ?_)))
    refine X_o K M ?_; clear K; intro a K
    refine wpList_nil (then_n (wp_ret ?_))
    cases h
    exact ret1 K rfl (res_tmp K rfl) ⟨_, rfl, rfl, ((M).pick [] (by decide))⟩
  clear K M h
  rintro kk fuel ⟨room, i⟩ a w hk1 ⟨K, M⟩ h
  unfold D_code_Check_l1 at h
  refine wp_seq (X_reg ?_)
  refine X_o K M ?_; clear K; intro a K
  refine wpList_nil (then_n (wp_seq ?_))
  refine X_cond K rfl (fun hb => ?_) (fun hb => ?_)
  · have h := ctrue hb h
    refine wp_skip (then_n (wp_seq (wp_block (wp_seq (X_reg ?_)))))
    obtain ⟨e2, h_e2, h⟩ := obind h
    refine X_r K (rd_ix rfl sl35 K rfl rfl (inA R_lens) h_e2) M ?_; clear K
    refine Y_r (fun _ K => rd_elC rfl sc3 K rfl rfl (inA R_lens) h_e2 rfl) M ?_
    refine Y_o M ?_; intro a K
    refine wpList_nil (then_n (wp_seq (wp_seq (X_reg ?_))))
    refine X_o K M ?_; clear K
    iterate 2 (refine Y_o M ?_)
    intro a K
    rcases Bool.eq_false_or_eq_true (decide (e2 < 0)) with hb | hb
    · have h := ctrue hb h
      have K := K.reb (s := 22) rfl hb
      refine X_o K M ?_; clear K
      iterate 2 (refine Y_o M ?_)
      intro a K
      refine wpList_nil (then_n ?_)
      refine X_condT K rfl ?_
      refine wp_seq (X_reg ?_)
      refine X_o K M ?_; clear K; intro a K
      refine wpList_nil (then_n (wp_ret (then_r (inb_r (then_r (then_r (inb_r (then_r ?_))))))))
      cases h
      exact ret1 K rfl (res_tmp K rfl) ⟨_, rfl, rfl, ((M).pick [] (by decide))⟩
    have h := cfalse hb h
    have K := K.reb (s := 22) rfl hb
    refine X_o K M ?_; clear K
    iterate 2 (refine Y_o M ?_)
    intro a K
    refine wpList_nil (then_n ?_)
    refine X_cond K rfl (fun hb => ?_) (fun hb => ?_)
    · have h := ctrue hb h
      refine wp_seq (X_reg ?_)
      refine X_o K M ?_; clear K; intro a K
      refine wpList_nil (then_n (wp_ret (then_r (inb_r (then_r (then_r (inb_r (then_r ?_))))))))
      cases h
      exact ret1 K rfl (res_tmp K rfl) ⟨_, rfl, rfl, ((M).pick [] (by decide))⟩
    have h := cfalse hb h
    refine wp_skip (then_n (wp_seq (X_reg ?_)))
    refine X_o K M ?_; clear K
    refine Y_o M ?_; intro a K
    refine wpList_nil (then_n ?_)
    refine X_cond K rfl (fun hb => ?_) (fun hb => ?_)
    · have h := ctrue hb h
      refine X_reg ?_
      refine X_o K M ?_; clear K
      iterate 2 (refine Y_o M ?_)
      intro a K
      obtain ⟨_, h0, h⟩ := obind h
      have h0 := nn_spec h0
      refine X_r K (rd_shl rfl K rfl rfl h0) M ?_; clear K
      refine Y_o M ?_
      obtain ⟨room3, hx, h⟩ := olet h
      refine Y_r (fun _ K => rdi hx (rd_assign rfl K rfl)) M ?_; intro a K
      refine wpList_nil (inb_n (then_n (X_reg ?_)))
      refine X_o K M ?_; clear K
      refine Y_o M ?_; intro a K
      refine wpList_nil ?_
      exact then_n ⟨(room3, IntKind.i64.wrap (i + 1)), ⟨K.pick [3,14,15,16], M.pick [] (by decide)⟩, h⟩
    have h := cfalse hb h
    refine wp_skip (inb_n (then_n (X_reg ?_)))
    refine X_o K M ?_; clear K
    refine Y_o M ?_; intro a K
    refine wpList_nil ?_
    exact then_n ⟨(room, IntKind.i64.wrap (i + 1)), ⟨K.pick [3,14,15,16], M.pick [] (by decide)⟩, h⟩
  have h := cfalse hb h
  refine wp_exit ?_
  refine then_e ?_
  exact then_e (hk1 (room, i) _ _ ⟨K.pick [3,14,15,16], M.pick [] (by decide)⟩ h)
set_option maxRecDepth 100000 in
set_option maxHeartbeats 4000000 in
theorem W_code_Words_1 (N : Nat) (a2 : Int) (b : Int) (v0 : List Int) (A_v0 : Option Addr) (c_v0 : Nat) (g_v0 : Nat) (w0 : World) (R_v0 : SL w0 (cI .i64) A_v0 v0) (C_v0 : v0.length ≤ c_v0) (B_g_v0 : Blk w0 g_v0 35 #[.slice A_v0 v0.length c_v0]) (r : Int) (h : D_code_Words_1 N a2 b v0 = some r) :
    Calls Tryd.prog 37 #[I a2, I b, .pointer (some ⟨g_v0, 0, none⟩)] w0 fun e w' => ∃ v, e = .returned v ∧ v = I r ∧ Mem w0.heap.size w0 w' [] := by
  refine X_enter Tryd.func37 rfl Tryd.ntmps37 rfl ?_
  intro a K
  have M := Mem.start w0
  have K : Kn a 15 [(0, I a2), (1, I b), (2, .pointer (some ⟨g_v0, 0, none⟩))] := K
  unfold D_code_Words_1 at h
  refine wp_seq (X_reg ?_)
  refine X_o K M ?_; clear K; intro a K
  refine wpList_nil (then_n (wp_seq ?_))
  refine wp_region_tl (fun w => Mem _ _ w _) [0,0,0,0,0,0,0,0,1,0] (by kernel_rfl) (by kernel_rfl) M.drew ?_
  replace M := M.drew
  refine T_r K (rd_ldC rfl sc35 K rfl (inO B_g_v0) rfl) ?_; clear K
  refine U_o ?_
  obtain ⟨e, h_e, h⟩ := obind h
  refine U_r (fun _ K => rd_ixP rfl sl35 K rfl rfl ((inA R_v0) _ M) h_e) ?_
  refine U_r (fun _ K => rd_elC rfl sc3 K rfl rfl (inA R_v0) h_e rfl) ?_
  refine U_r (fun _ K => rd_ldC rfl sc35 K rfl (inO B_g_v0) rfl) ?_
  refine U_o ?_
  obtain ⟨e2, h_e2, h⟩ := obind h
  refine U_r (fun _ K => rd_ixP rfl sl35 K rfl rfl ((inA R_v0) _ M) h_e2) ?_
  refine U_r (fun _ K => rd_elC rfl sc3 K rfl rfl (inA R_v0) h_e2 rfl) ?_; intro a K
  obtain ⟨r2, h_r2, h⟩ := obind h
  refine T_a K (ac_call (vs := [I e, I e2]) (cap := []) rfl fok38 K rfl rfl (W_cmp_Compare_int N e e2 _  r2 h_r2)) ?_
  have M0 := M; clear K M; rintro _ a w ⟨rfl, M⟩ K
  replace M := M0.call M; clear M0
  refine ⟨M.pick [] (by decide), ?_⟩
  refine T_o K ?_; clear K; intro a K
  refine T_end ?_
  refine then_n (wp_ret ?_)
  cases h
  exact ret1 K rfl (res_tmp K rfl) ⟨_, rfl, rfl, ((M).pick [] (by decide))⟩
set_option maxRecDepth 100000 in
set_option maxHeartbeats 4000000 in
theorem W_code_Words (N : Nat) (d : List Int) (A_d : Option Addr) (c_d : Nat) (w0 : World) (R_d : SL w0 (cI .i64) A_d d) (C_d : d.length ≤ c_d) (r : List (List UInt8) × Int) (h : D_code_Words N d = some r) :
    Calls Tryd.prog 24 #[.slice A_d d.length c_d] w0 fun e w' => ∃ v, e = .returned v ∧ ∃ A0 c0, v = .tuple #[.slice A0 r.1.length c0, I r.2] ∧ Mem w0.heap.size w0 w' [.row 9 1 A0 r.1.length c0 (cS.all r.1)] := by
  refine X_enter Tryd.func24 rfl Tryd.ntmps24 rfl ?_
  intro a K
  have M := Mem.start w0
  have K : Kn a 74 [(0, .slice A_d d.length c_d)] := K
  unfold D_code_Words at h
  refine wp_seq (X_reg ?_)
  refine X_a K (ac_box rfl K rfl (cs := [.slice A_d d.length c_d]) rfl M) ?_
  clear K M; rintro _ a w ⟨g_o, rfl, M⟩ K
  refine X_o K M ?_; clear K
  refine Y_o M ?_; intro a K
  refine wpList_nil (then_n (wp_seq (wp_seq (X_reg ?_))))
  refine X_r K (rd_ldC rfl sc35 K rfl (inM 0 rfl) rfl) M ?_; clear K; intro a K
  obtain ⟨r2, h_r2, h⟩ := obind h
  refine X_a K (ac_call (vs := [.slice A_d d.length c_d]) (cap := []) rfl fok28 K rfl rfl (W_code_Check N d A_d c_d _ ((inA R_d) _ M) C_d r2 h_r2)) ?_
  have M0 := M; clear K M; rintro _ a w ⟨rfl, M⟩ K
  replace M := M0.call M; clear M0
  refine X_o K M ?_; clear K; intro a K
  refine wpList_nil (then_n (wp_seq (X_reg ?_)))
  refine X_o K M ?_; clear K
  refine Y_o M ?_; intro a K
  refine wpList_nil (then_n ?_)
  refine X_cond K rfl (fun hb => ?_) (fun hb => ?_)
  · have h := ctrue hb h
    refine wp_seq (X_reg ?_)
    refine X_o K M ?_; clear K
    iterate 2 (refine Y_o M ?_)
    intro a K
    refine wpList_nil (then_n (wp_ret (then_r ?_)))
    cases h
    exact ret2 K rfl (res_tmp K rfl) (res_tmp K rfl) ⟨_, rfl, _, _, rfl, (((Mem.nilrow 9 1 cS M)).pick [0] (by decide))⟩
  have h := cfalse hb h
  refine wp_skip (then_n (wp_seq (X_reg ?_)))
  refine X_o K M ?_; clear K; intro a K
  refine wpList_nil (then_n (wp_seq (wp_seq (X_reg ?_))))
  refine X_r K (rd_ldC rfl sc35 K rfl (inM 0 rfl) rfl) M ?_; clear K
  refine Y_r (fun _ K => rd_len rfl un35 K rfl) M ?_
  refine Y_o M ?_; intro a K
  refine wpList_nil (then_n (wp_block ?_))
  replace M := Mem.nilrow 3 1 (cI .i64) M
  refine X_lp (id := 0) (Rel := fun (⟨l3, i⟩ : List Int × Int) a w => ∃ (A2 : Option Addr) (c2 : Nat), Kn a 74 [(1, .pointer (some ⟨g_o, 0, none⟩)), (5, .slice A2 l3.length c2), (19, .slice A_d d.length c_d), (20, I (d.length : Int)), (21, I i)] ∧ Mem w0.heap.size w0 w [.row 3 1 A2 l3.length c2 ((cI .i64).all l3), .blk g_o 35 [.slice A_d d.length c_d]]) h (fun _ _ => rfl) ⟨none, 0, K.pick [1,5,19,20,21], M.pick [0,1] (by decide)⟩ ?_ ?_
  · clear K M h
    rintro ⟨l6, i2⟩ a w ⟨A5, c5, K, M⟩ h
    try dsimp only at h
    refine inb_e ?_
    refine then_n (wp_seq (X_reg ?_))
    refine X_o K M ?_; clear K
    refine Y_r (fun _ K => rd_func rfl K (vs := [.pointer (some ⟨g_o, 0, none⟩)]) rfl) M ?_; intro a K
    refine X_inl (vs := [.slice A5 l6.length c5, .func (.func 37) #[] #[.pointer (some ⟨g_o, 0, none⟩)]]) (cap := []) K (want_no rfl) rfl rfl rfl fok36 rfl rfl ?_; clear K
    refine X_enter Tryd.func36 rfl Tryd.ntmps36 rfl ?_
    intro a K
    have K : Kn a 9 [(0, .slice A5 l6.length c5), (1, .func (.func 37) #[] #[.pointer (some ⟨g_o, 0, none⟩)])] := K
    refine X_reg ?_
    refine X_o K M ?_; clear K
    refine Y_o M ?_
    refine Y_r (fun _ K => rd_len rfl un35 K rfl) M ?_
    refine Y_o M ?_; intro a K
    refine X_inl (vs := [.slice A5 l6.length c5, I (l6.length : Int), .func (.func 37) #[] #[.pointer (some ⟨g_o, 0, none⟩)]]) (cap := []) K (want_no rfl) rfl rfl rfl fok45 rfl rfl ?_; clear K
    refine X_enter Tryd.func45 rfl Tryd.ntmps45 rfl ?_
    intro a K
    have K : Kn a 63 [(0, .slice A5 l6.length c5), (1, I (l6.length : Int)), (2, .func (.func 37) #[] #[.pointer (some ⟨g_o, 0, none⟩)])] := K
    refine wp_seq (X_reg ?_)
    refine X_o K M ?_; clear K; intro a K
    refine wpList_nil (then_n (wp_seq (X_reg ?_)))
    refine X_o K M ?_; clear K
    iterate 2 (refine Y_o M ?_)
    intro a K
    refine wpList_nil (then_n (wp_seq (wp_block ?_)))
    refine X_rounds 1 ?_
    refine X_round ?_
    refine wp_seq (wp_seq (X_reg ?_))
    refine X_o K M ?_; clear K
    iterate 2 (refine Y_o M ?_)
    intro a K
    refine wpList_nil (then_n ?_)
    refine X_cond K rfl (fun hb => ?_) (fun hb => ?_)
    · have h := ctrue hb h
      cases h
    have h := cfalse hb h
    refine wp_exit ?_
    refine then_e (then_e ?_)
    refine inb_e ?_
    refine then_n (wp_seq (X_reg ?_))
    refine X_o K M ?_; clear K
    iterate 3 (refine Y_o M ?_)
    intro a K
    refine X_inl (vs := [.slice A5 l6.length c5, I 0, I (l6.length : Int), .func (.func 37) #[] #[.pointer (some ⟨g_o, 0, none⟩)]]) (cap := []) K (want_no rfl) rfl rfl rfl fok59 rfl rfl ?_; clear K
    refine X_enter Tryd.func59 rfl Tryd.ntmps59 rfl ?_
    intro a K
    have K : Kn a 53 [(0, .slice A5 l6.length c5), (1, I 0), (2, I (l6.length : Int)), (3, .func (.func 37) #[] #[.pointer (some ⟨g_o, 0, none⟩)])] := K
    refine wp_seq (X_reg ?_)
    refine X_o K M ?_; clear K
    refine Y_o M ?_
    obtain ⟨i3, hx, h⟩ := olet h
    refine Y_r (fun _ K => rdi hx (rd_assign rfl K rfl)) M ?_; intro a K
    refine wpList_nil (then_n (wp_block ?_))
    refine X_lp (id := 0) (Rel := fun (⟨l7, b, i4⟩ : List Int × Int × Int) a w => Kn a 53 [(0, .slice A5 l7.length c5), (1, I 0), (2, I b), (3, .func (.func 37) #[] #[.pointer (some ⟨g_o, 0, none⟩)]), (8, I i4)] ∧ Mem w0.heap.size w0 w [.row 3 1 A5 l7.length c5 ((cI .i64).all l7), .blk g_o 35 [.slice A_d d.length c_d]]) h (fun _ _ => rfl) ⟨K.pick [0,1,2,3,8], M.pick [0,1] (by decide)⟩ ?_ ?_
    · clear K M h
      rintro ⟨l23, b2, i7⟩ a w ⟨K, M⟩ h
      try dsimp only at h
      refine inb_e ?_
      refine ret_n ?_
      refine ret0 K rfl ⟨_, rfl, ?_⟩; clear K; intro a K
      obtain ⟨_, h0, h⟩ := obind h
      have h0 := sameL_spec h0
      try rw [h0] at K
      try rw [h0] at M
      refine wpList_nil (then_n (wp_block ?_))
      refine X_rounds 1 ?_
      refine X_round ?_
      refine wp_seq (wp_seq (X_reg ?_))
      refine X_o K M ?_; clear K
      iterate 2 (refine Y_o M ?_)
      intro a K
      refine wpList_nil (then_n ?_)
      refine X_cond K rfl (fun hb => ?_) (fun hb => ?_)
      · have h := ctrue hb h
        cases h
      have h := cfalse hb h
      refine wp_exit ?_
      refine then_e (then_e ?_)
      refine inb_e ?_
      refine ret_n ?_
      refine ret0 K rfl ⟨_, rfl, ?_⟩; clear K; intro a K
      obtain ⟨_, h0, h⟩ := obind h
      have h0 := sameL_spec h0
      try rw [h0] at K
      try rw [h0] at M
      refine wpList_nil ?_
      refine ret_n ?_
      refine ret0 K rfl ⟨_, rfl, ?_⟩; clear K; intro a K
      obtain ⟨_, h0, h⟩ := obind h
      have h0 := sameL_spec h0
      try rw [h0] at K
      try rw [h0] at M
      refine wpList_nil (then_n (wp_seq (X_reg ?_)))
      refine X_r K (rd_ldC rfl sc35 K rfl (inM 1 rfl) rfl) M ?_; clear K
      obtain ⟨x2, hx, h⟩ := olet h
      refine Y_r (fun _ K => rdi hx (rd_len rfl un35 K rfl)) M ?_; intro a K
      obtain ⟨l24, h_l24, h⟩ := obind h
      refine X_a K (ac_make (C := cS) (z := ([] : List UInt8)) rfl sl43 rfl z9 rfl K rfl rfl M h_l24) ?_
      clear K M; rintro _ a w ⟨A6, c6, rfl, M⟩ K
      refine X_o K M ?_; clear K; intro a K
      refine wpList_nil (then_n (wp_seq (X_reg ?_)))
      refine X_o K M ?_; clear K; intro a K
      refine wpList_nil (then_n (wp_seq (wp_seq (X_reg ?_))))
      refine X_o K M ?_; clear K
      refine Y_r (fun _ K => rd_len rfl un35 K rfl) M ?_
      refine Y_o M ?_; intro a K
      refine wpList_nil (then_n (wp_block ?_))
      refine X_lp (id := 2) (Rel := fun (⟨l25, i8, i9⟩ : List (List UInt8) × Int × Int) a w => Kn a 74 [(1, .pointer (some ⟨g_o, 0, none⟩)), (8, .slice A6 l25.length c6), (9, I i8), (39, .slice A5 l23.length c5), (40, I (l23.length : Int)), (41, I i9)] ∧ Mem w0.heap.size w0 w [.row 9 1 A6 l25.length c6 (cS.all l25), .row 3 1 A5 l23.length c5 ((cI .i64).all l23), .blk g_o 35 [.slice A_d d.length c_d]]) h (fun _ _ => rfl) ⟨K.pick [1,8,9,39,40,41], M.pick [0,1,2] (by decide)⟩ ?_ ?_
      · clear K M h
        rintro ⟨l28, i10, i11⟩ a w ⟨K, M⟩ h
        try dsimp only at h
        refine inb_e ?_
        refine then_n (wp_seq (X_reg ?_))
        refine X_o K M ?_; clear K
        iterate 2 (refine Y_o M ?_)
        intro a K
        refine wpList_nil (then_n (wp_ret ?_))
        cases h
        exact ret2 K rfl (res_tmp K rfl) (res_tmp K rfl) ⟨_, rfl, _, _, rfl, ((M).pick [0] (by decide))⟩
      clear K M h
      rintro kk fuel ⟨l25, i8, i9⟩ a w hk4 ⟨K, M⟩ h
      unfold D_code_Words_l4 at h
      refine wp_seq (X_reg ?_)
      refine X_o K M ?_; clear K; intro a K
      refine wpList_nil (then_n (wp_seq ?_))
      refine X_cond K rfl (fun hb => ?_) (fun hb => ?_)
      · have h := ctrue hb h
        refine wp_skip (then_n (wp_seq (wp_block (wp_seq (X_reg ?_)))))
        obtain ⟨e33, h_e33, h⟩ := obind h
        refine X_r K (rd_ix rfl sl35 K rfl rfl (inR (C := (cI .i64)) 1 rfl rfl) h_e33) M ?_; clear K
        refine Y_r (fun _ K => rd_elC rfl sc3 K rfl rfl (inR (C := (cI .i64)) 1 rfl rfl) h_e33 rfl) M ?_
        refine Y_o M ?_; intro a K
        refine wpList_nil (then_n (wp_seq ?_))
        refine wp_region_tl (fun w => Mem _ _ w _) [0,0,0,0,0,0,0,0,0,0,0,1,0,0,0,0,0] (by kernel_rfl) (by kernel_rfl) M.drew ?_
        replace M := M.drew
        refine T_o K ?_; clear K
        refine U_r (fun _ K => rd_ldC rfl sc35 K rfl (inM 2 rfl) rfl) ?_
        refine U_o ?_
        obtain ⟨e34, h_e34, h⟩ := obind h
        refine U_r (fun _ K => rd_ixP rfl sl35 K rfl rfl ((inA R_d) _ M) h_e34) ?_
        refine U_r (fun _ K => rd_elC rfl sc3 K rfl rfl (inA R_d) h_e34 rfl) ?_
        refine U_o ?_; intro a K
        obtain ⟨_, h0, h⟩ := obind h
        have h0 := nn_spec h0
        refine T_r K (rd_shr rfl K rfl rfl h0) ?_; clear K
        refine U_r (fun _ K => rd_ldC rfl sc35 K rfl (inM 2 rfl) rfl) ?_
        refine U_o ?_
        obtain ⟨e35, h_e35, h⟩ := obind h
        refine U_r (fun _ K => rd_ixP rfl sl35 K rfl rfl ((inA R_d) _ M) h_e35) ?_
        refine U_r (fun _ K => rd_elC rfl sc3 K rfl rfl (inA R_d) h_e35 rfl) ?_; intro a K
        obtain ⟨r7, h_r7, h⟩ := obind h
        refine T_a K (ac_call (vs := [I (shrI .i64 i8 (IntKind.i64.wrap (15 - e34))), I e35]) (cap := []) rfl fok12 K rfl rfl (W_bits_Number N (shrI .i64 i8 (IntKind.i64.wrap (15 - e34))) e35 _  r7 h_r7)) ?_
        have M0 := M; clear K M; rintro _ a w ⟨rfl, M⟩ K
        replace M := M0.call M; clear M0
        refine ⟨M.pick [0,1,2] (by decide), ?_⟩
        refine T_o K ?_; clear K
        iterate 4 (refine U_o ?_)
        intro a K
        refine T_end ?_
        refine then_n (wp_seq (X_reg ?_))
        refine X_o K M ?_; clear K
        iterate 2 (refine Y_o M ?_)
        obtain ⟨e36, h_e36, h⟩ := obind h
        refine Y_r (fun _ K => rd_ix rfl sl43 K rfl rfl (inR (C := cS) 0 rfl rfl) h_e36) M ?_; intro a K
        obtain ⟨l27, h_l27, h⟩ := obind h
        refine X_b K (ac_rowset (el := r7.1) rfl sz9 rfl rfl K rfl rfl rfl 0 M rfl h_l27) ?_
        have M0 := M; clear K M; rintro _ a w M K
        have hl := setL_len h_l27
        try rw [hl] at M
        try rw [hl] at K
        clear hl
        clear M0
        refine wpList_nil (then_n (X_reg ?_))
        refine X_o K M ?_; clear K
        refine Y_r (fun _ K => rd_ldC rfl sc35 K rfl (inM 2 rfl) rfl) M ?_
        refine Y_o M ?_
        obtain ⟨e37, h_e37, h⟩ := obind h
        refine Y_r (fun _ K => rd_ix rfl sl35 K rfl rfl (inA R_d) h_e37) M ?_
        refine Y_r (fun _ K => rd_elC rfl sc3 K rfl rfl (inA R_d) h_e37 rfl) M ?_
        refine Y_o M ?_; intro a K
        obtain ⟨_, h0, h⟩ := obind h
        have h0 := nn_spec h0
        refine X_r K (rd_shl rfl K rfl rfl h0) M ?_; clear K
        refine Y_o M ?_
        obtain ⟨x4, hx, h⟩ := olet h
        refine Y_r (fun _ K => rdi hx (rd_assign rfl K rfl)) M ?_; intro a K
        refine wpList_nil (inb_n (then_n (X_reg ?_)))
        refine X_o K M ?_; clear K
        refine Y_o M ?_; intro a K
        refine wpList_nil ?_
        exact then_n ⟨(l27, x4, IntKind.i64.wrap (i9 + 1)), ⟨K.pick [1,8,9,39,40,41], M.pick [0,1,2] (by decide)⟩, h⟩
      have h := cfalse hb h
      refine wp_exit ?_
      refine then_e ?_
      exact then_e (hk4 (l25, i8, i9) _ _ ⟨K.pick [1,8,9,39,40,41], M.pick [0,1,2] (by decide)⟩ h)
    clear K M h
    rintro kk fuel ⟨l7, b, i4⟩ a w hk2 ⟨K, M⟩ h
    unfold D_code_Words_l2 at h
    refine wp_seq (wp_seq (X_reg ?_))
    refine X_o K M ?_; clear K
    iterate 2 (refine Y_o M ?_)
    intro a K
    refine wpList_nil (then_n ?_)
    refine X_cond K rfl (fun hb => ?_) (fun hb => ?_)
    · have h := ctrue hb h
      refine wp_skip (then_n (wp_seq (wp_block (wp_seq (X_reg ?_)))))
      refine X_o K M ?_; clear K
      refine Y_o M ?_; intro a K
      refine wpList_nil (then_n (wp_block ?_))
      refine X_lp (id := 2) (Rel := fun (⟨l13, j4⟩ : List Int × Int) a w => Kn a 53 [(0, .slice A5 l13.length c5), (1, I 0), (2, I b), (3, .func (.func 37) #[] #[.pointer (some ⟨g_o, 0, none⟩)]), (8, I i4), (9, I j4)] ∧ Mem w0.heap.size w0 w [.row 3 1 A5 l13.length c5 ((cI .i64).all l13), .blk g_o 35 [.slice A_d d.length c_d]]) h (fun _ _ => rfl) ⟨K.pick [0,1,2,3,8,9], M.pick [0,1] (by decide)⟩ ?_ ?_
      · clear K M h
        rintro ⟨l22, j9⟩ a w ⟨K, M⟩ h
        try dsimp only at h
        refine inb_e ?_
        refine inb_n (then_n (X_reg ?_))
        refine X_o K M ?_; clear K
        refine Y_o M ?_
        obtain ⟨i6, hx, h⟩ := olet h
        refine Y_r (fun _ K => rdi hx (rd_assign rfl K rfl)) M ?_; intro a K
        refine wpList_nil ?_
        exact then_n ⟨(l22, b, i6), ⟨K.pick [0,1,2,3,8], M.pick [0,1] (by decide)⟩, h⟩
      clear K M h
      rintro kk fuel ⟨l13, j4⟩ a w hk3 ⟨K, M⟩ h
      unfold D_code_Words_l3 at h
      refine wp_seq (wp_seq ?_)
      refine wp_region_tl (fun w => Mem _ _ w _) [0,0,0,0,0,0,0,0,0,0,0,0,0,0,1,0,0] (by kernel_rfl) (by kernel_rfl) M.drew ?_
      replace M := M.drew
      refine T_o K ?_; clear K
      iterate 3 (refine U_o ?_)
      intro a K
      rcases Bool.eq_false_or_eq_true (decide (0 < j4)) with hb | hb
      · have h := ctrue hb h
        have K := K.reb (s := 21) rfl hb
        refine T_o K ?_; clear K
        iterate 2 (refine U_o ?_)
        obtain ⟨e20, h_e20, h⟩ := obind h
        refine U_r (fun _ K => rd_ixP rfl sl35 K rfl rfl ((inR (C := (cI .i64)) 0 rfl rfl) _ M) h_e20) ?_
        refine U_r (fun _ K => rd_elC rfl sc3 K rfl rfl (inR (C := (cI .i64)) 0 rfl rfl) h_e20 rfl) ?_
        iterate 3 (refine U_o ?_)
        obtain ⟨e21, h_e21, h⟩ := obind h
        refine U_r (fun _ K => rd_ixP rfl sl35 K rfl rfl ((inR (C := (cI .i64)) 0 rfl rfl) _ M) h_e21) ?_
        refine U_r (fun _ K => rd_elC rfl sc3 K rfl rfl (inR (C := (cI .i64)) 0 rfl rfl) h_e21 rfl) ?_; intro a K
        obtain ⟨r5, h_r5, h⟩ := obind h
        refine T_a K (ac_call (vs := [I e20, I e21]) (cap := [.pointer (some ⟨g_o, 0, none⟩)]) rfl fok37 K rfl rfl (W_code_Words_1 N e20 e21 d A_d c_d g_o _ ((inA R_d) _ M) C_d (M.blkAt (i := 1) rfl) r5 h_r5)) ?_
        have M0 := M; clear K M; rintro _ a w ⟨rfl, M⟩ K
        replace M := M0.call M; clear M0
        refine ⟨M.pick [0,1] (by decide), ?_⟩
        refine T_o K ?_; clear K
        refine U_o ?_; intro a K
        refine T_end ?_
        refine then_n ?_
        refine X_cond K rfl (fun hb => ?_) (fun hb => ?_)
        · have h := ctrue hb h
          refine wp_skip (then_n (wp_seq (wp_block ?_)))
          refine wp_region_tr (fun w => Mem _ _ w _) [0,0,0,0,0,0,0,0,0,1,0,0,0,1,0,1,0,2] 18 [0,1,2,3,4,5,6,7,8,9,10,11,12,13,14,15,16,17] (by kernel_rfl) (by kernel_rfl) (by kernel_rfl) rfl (M.pick [1] (by decide)).drew ?_
          replace M := M.drew
          refine R_rd 0 [1,2,3,4,5,6,7,8,9,10,11,12,13,14,15,16,17] (by kernel_rfl) rfl K (want_no rfl) rfl rfl (rd_move rfl K rfl) ?_; clear K; intro a K
          refine R_rd 1 [2,3,4,5,6,7,8,9,10,11,12,13,14,15,16,17] (by kernel_rfl) rfl K (want_no rfl) rfl rfl (rd_move rfl K rfl) ?_; clear K; intro a K
          refine R_rd 2 [3,4,5,6,7,8,9,10,11,12,13,14,15,16,17] (by kernel_rfl) rfl K (want_no rfl) rfl rfl (rd_move rfl K rfl) ?_; clear K; intro a K
          refine R_rd 3 [4,5,6,7,8,9,10,11,12,13,14,15,16,17] (by kernel_rfl) rfl K (want_no rfl) rfl rfl (rd_move rfl K rfl) ?_; clear K; intro a K
          refine R_rd 4 [5,6,7,8,9,10,11,12,13,14,15,16,17] (by kernel_rfl) rfl K (want_no rfl) rfl rfl (rd_sub rfl K rfl rfl) ?_; clear K; intro a K
          refine R_rd 5 [6,7,8,9,10,11,12,13,14,15,16,17] (by kernel_rfl) rfl K (want_no rfl) rfl rfl (rd_move rfl K rfl) ?_; clear K; intro a K
          refine R_rd 6 [7,8,9,10,11,12,13,14,15,16,17] (by kernel_rfl) rfl K (want_no rfl) rfl rfl (rd_move rfl K rfl) ?_; clear K; intro a K
          refine R_rd 7 [8,9,10,11,12,13,14,15,16,17] (by kernel_rfl) rfl K (want_no rfl) rfl rfl (rd_sub rfl K rfl rfl) ?_; clear K; intro a K
          obtain ⟨e22, h_e22, h⟩ := obind h
          refine R_rd 8 [9,10,11,12,13,14,15,16,17] (by kernel_rfl) rfl K (want_no rfl) rfl rfl (rd_ixP rfl sl35 K rfl rfl ((inR (C := (cI .i64)) 0 rfl rfl) _ M) h_e22) ?_; clear K; intro a K
          refine R_rd 10 [9,11,12,13,14,15,16,17] (by kernel_rfl) rfl K (want_no rfl) rfl rfl (rd_move rfl K rfl) ?_; clear K; intro a K
          refine R_rd 11 [9,12,13,14,15,16,17] (by kernel_rfl) rfl K (want_no rfl) rfl rfl (rd_move rfl K rfl) ?_; clear K; intro a K
          obtain ⟨e23, h_e23, h⟩ := obind h
          refine R_rd 12 [9,13,14,15,16,17] (by kernel_rfl) rfl K (want_no rfl) rfl rfl (rd_ixP rfl sl35 K rfl rfl ((inR (C := (cI .i64)) 0 rfl rfl) _ M) h_e23) ?_; clear K; intro a K
          refine R_br [9,13] (by kernel_rfl) ⟨?_, ?_, trivial⟩
          ·
            refine R_rdA [13,14,15,16,17] (by kernel_rfl) rfl K (want_no rfl) rfl rfl (rd_elC rfl sc3 K rfl rfl (inR (C := (cI .i64)) 0 rfl rfl) h_e22 rfl) M ?_; clear K; intro a K
            refine ⟨fun _ => M.pick [1] (by decide), ?_⟩
            refine R_br [13] (by kernel_rfl) ⟨?_, trivial⟩
            refine R_rdA [14,15,16,17] (by kernel_rfl) rfl K (want_no rfl) rfl rfl (rd_elC rfl sc3 K rfl rfl (inR (C := (cI .i64)) 0 rfl rfl) h_e23 rfl) M ?_; clear K; intro a K
            refine ⟨fun _ => M.pick [1] (by decide), ?_⟩
            obtain ⟨e24, h_e24, h⟩ := obind h
            refine R_rd 14 [15,16,17] (by kernel_rfl) rfl K (want_no rfl) rfl rfl (rd_ixP rfl sl35 K rfl rfl ((inR (C := (cI .i64)) 0 rfl rfl) _ M) h_e24) ?_; clear K; intro a K
            refine R_br [15] (by kernel_rfl) ⟨?_, trivial⟩
            obtain ⟨l18, h_l18, h⟩ := obind h
            refine R_a0 [16,17] (by kernel_rfl) rfl K (want_no rfl) rfl (ac_rowset (el := e22) rfl sz3 rfl rfl K rfl rfl rfl 0 M rfl h_l18) ?_
            have M0 := M; clear K M; rintro _ a w M K
            have hl := setL_len h_l18
            try rw [hl] at M
            try rw [hl] at K
            clear hl
            clear M0
            refine ⟨fun _ => M.pick [1] (by decide), ?_⟩
            obtain ⟨e25, h_e25, h⟩ := obind h
            refine R_rd 16 [17] (by kernel_rfl) rfl K (want_no rfl) rfl rfl (rd_ixP rfl sl35 K rfl rfl ((inR (C := (cI .i64)) 0 rfl rfl) _ M) h_e25) ?_; clear K; intro a K
            refine R_br [17] (by kernel_rfl) ⟨?_, trivial⟩
            obtain ⟨l19, h_l19, h⟩ := obind h
            refine R_a0 [] (by kernel_rfl) rfl K (want_no rfl) rfl (ac_rowset (el := e23) rfl sz3 rfl rfl K rfl rfl rfl 0 M rfl h_l19) ?_
            have M0 := M; clear K M; rintro _ a w M K
            have hl := setL_len h_l19
            try rw [hl] at M
            try rw [hl] at K
            clear hl
            clear M0
            refine ⟨fun h => absurd h (by decide), ?_⟩
            refine R_end ?_
            refine inb_n (then_n (X_reg ?_))
            refine X_o K M ?_; clear K
            refine Y_o M ?_
            obtain ⟨j7, hx, h⟩ := olet h
            refine Y_r (fun _ K => rdi hx (rd_assign rfl K rfl)) M ?_; intro a K
            refine wpList_nil ?_
            exact then_n ⟨(l19, j7), ⟨K.pick [0,1,2,3,8,9], M.pick [0,1] (by decide)⟩, h⟩
          ·
            refine R_rdA [9,14,15,16,17] (by kernel_rfl) rfl K (want_no rfl) rfl rfl (rd_elC rfl sc3 K rfl rfl (inR (C := (cI .i64)) 0 rfl rfl) h_e23 rfl) M ?_; clear K; intro a K
            refine ⟨fun _ => M.pick [1] (by decide), ?_⟩
            refine R_br [9] (by kernel_rfl) ⟨?_, trivial⟩
            refine R_rdA [14,15,16,17] (by kernel_rfl) rfl K (want_no rfl) rfl rfl (rd_elC rfl sc3 K rfl rfl (inR (C := (cI .i64)) 0 rfl rfl) h_e22 rfl) M ?_; clear K; intro a K
            refine ⟨fun _ => M.pick [1] (by decide), ?_⟩
            obtain ⟨e26, h_e26, h⟩ := obind h
            refine R_rd 14 [15,16,17] (by kernel_rfl) rfl K (want_no rfl) rfl rfl (rd_ixP rfl sl35 K rfl rfl ((inR (C := (cI .i64)) 0 rfl rfl) _ M) h_e26) ?_; clear K; intro a K
            refine R_br [15] (by kernel_rfl) ⟨?_, trivial⟩
            obtain ⟨l20, h_l20, h⟩ := obind h
            refine R_a0 [16,17] (by kernel_rfl) rfl K (want_no rfl) rfl (ac_rowset (el := e22) rfl sz3 rfl rfl K rfl rfl rfl 0 M rfl h_l20) ?_
            have M0 := M; clear K M; rintro _ a w M K
            have hl := setL_len h_l20
            try rw [hl] at M
            try rw [hl] at K
            clear hl
            clear M0
            refine ⟨fun _ => M.pick [1] (by decide), ?_⟩
            obtain ⟨e27, h_e27, h⟩ := obind h
            refine R_rd 16 [17] (by kernel_rfl) rfl K (want_no rfl) rfl rfl (rd_ixP rfl sl35 K rfl rfl ((inR (C := (cI .i64)) 0 rfl rfl) _ M) h_e27) ?_; clear K; intro a K
            refine R_br [17] (by kernel_rfl) ⟨?_, trivial⟩
            obtain ⟨l21, h_l21, h⟩ := obind h
            refine R_a0 [] (by kernel_rfl) rfl K (want_no rfl) rfl (ac_rowset (el := e23) rfl sz3 rfl rfl K rfl rfl rfl 0 M rfl h_l21) ?_
            have M0 := M; clear K M; rintro _ a w M K
            have hl := setL_len h_l21
            try rw [hl] at M
            try rw [hl] at K
            clear hl
            clear M0
            refine ⟨fun h => absurd h (by decide), ?_⟩
            refine R_end ?_
            refine inb_n (then_n (X_reg ?_))
            refine X_o K M ?_; clear K
            refine Y_o M ?_
            obtain ⟨j8, hx, h⟩ := olet h
            refine Y_r (fun _ K => rdi hx (rd_assign rfl K rfl)) M ?_; intro a K
            refine wpList_nil ?_
            exact then_n ⟨(l21, j8), ⟨K.pick [0,1,2,3,8,9], M.pick [0,1] (by decide)⟩, h⟩
        have h := cfalse hb h
        refine wp_exit ?_
        refine then_e ?_
        exact then_e (hk3 (l13, j4) _ _ ⟨K.pick [0,1,2,3,8,9], M.pick [0,1] (by decide)⟩ h)
      have h := cfalse hb h
      have K := K.reb (s := 21) rfl hb
      refine T_o K ?_; clear K
      iterate 9 (refine U_o ?_)
      intro a K
      refine T_no1 K (K.no rfl rfl rfl rfl) rfl rfl (M.pick [0,1] (by decide)) ?_; clear K; intro a K
      refine T_o K ?_; clear K
      refine U_o ?_; intro a K
      refine T_end ?_
      refine then_n ?_
      refine X_condF K rfl ?_
      refine wp_exit ?_
      refine then_e ?_
      exact then_e (hk3 (l13, j4) _ _ ⟨K.pick [0,1,2,3,8,9], M.pick [0,1] (by decide)⟩ h)
    have h := cfalse hb h
    refine wp_exit ?_
    refine then_e ?_
    exact then_e (hk2 (l7, b, i4) _ _ ⟨K.pick [0,1,2,3,8], M.pick [0,1] (by decide)⟩ h)
  clear K M h
  rintro kk fuel ⟨l3, i⟩ a w hk1 ⟨A2, c2, K, M⟩ h
  unfold D_code_Words_l1 at h
  refine wp_seq (X_reg ?_)
  refine X_o K M ?_; clear K; intro a K
  refine wpList_nil (then_n (wp_seq ?_))
  refine X_cond K rfl (fun hb => ?_) (fun hb => ?_)
  · have h := ctrue hb h
    refine wp_skip (then_n (wp_seq (wp_block (wp_seq (X_reg ?_)))))
    refine X_o K M ?_; clear K
    obtain ⟨e3, h_e3, h⟩ := obind h
    refine Y_r (fun _ K => rd_ix rfl sl35 K rfl rfl (inA R_d) h_e3) M ?_
    refine Y_r (fun _ K => rd_elC rfl sc3 K rfl rfl (inA R_d) h_e3 rfl) M ?_
    iterate 2 (refine Y_o M ?_)
    intro a K
    refine wpList_nil (then_n (wp_seq (X_reg ?_)))
    refine X_o K M ?_; clear K
    refine Y_o M ?_; intro a K
    refine wpList_nil (then_n ?_)
    refine X_cond K rfl (fun hb => ?_) (fun hb => ?_)
    · have h := ctrue hb h
      refine X_reg ?_
      refine X_o K M ?_; clear K
      refine Y_o M ?_; intro a K
      refine X_a K (ac_bslice rfl sl35 z3 K (vs := [(0, I i)]) (cs := [I i]) rfl (by kernel_rfl) rfl rfl M) ?_
      have M0 := M; clear K M; rintro _ a w ⟨gs3, rfl, M⟩ K
      replace M := M.asRow 0 rfl (cI .i64) ([i] : List Int) (n := 1) rfl rfl rfl
      clear M0
      obtain ⟨l5, h_l5, h⟩ := obind h
      refine X_a K (ac_app (C := (cI .i64)) (xs := l3) (ys := ([i] : List Int)) rfl sl35 rfl z3 rfl rfl K rfl rfl 1 M rfl ((inR (C := (cI .i64)) 0 rfl rfl) _ M) h_l5) ?_
      clear K M; rintro _ a w ⟨A4, c4, rfl, M⟩ K
      refine X_o K M ?_; clear K; intro a K
      refine wpList_nil (inb_n (then_n (X_reg ?_)))
      refine X_o K M ?_; clear K
      refine Y_o M ?_; intro a K
      refine wpList_nil ?_
      exact then_n ⟨(l5, IntKind.i64.wrap (i + 1)), ⟨A4, c4, K.pick [1,5,19,20,21], M.pick [1,2] (by decide)⟩, h⟩
    have h := cfalse hb h
    refine wp_skip (inb_n (then_n (X_reg ?_)))
    refine X_o K M ?_; clear K
    refine Y_o M ?_; intro a K
    refine wpList_nil ?_
    exact then_n ⟨(l3, IntKind.i64.wrap (i + 1)), ⟨A2, c2, K.pick [1,5,19,20,21], M.pick [0,1] (by decide)⟩, h⟩
  have h := cfalse hb h
  refine wp_exit ?_
  refine then_e ?_
  exact then_e (hk1 (l3, i) _ _ ⟨A2, c2, K.pick [1,5,19,20,21], M.pick [0,1] (by decide)⟩ h)
set_option maxRecDepth 100000 in
set_option maxHeartbeats 4000000 in
theorem W_code_Write (N : Nat) (lens : List Int) (A_lens : Option Addr) (c_lens : Nat) (l2 : List Int) (A_l2 : Option Addr) (c_l2 : Nat) (w0 : World) (R_lens : SL w0 (cI .i64) A_lens lens) (C_lens : lens.length ≤ c_lens) (R_l2 : SL w0 (cI .i64) A_l2 l2) (C_l2 : l2.length ≤ c_l2) (r : List UInt8 × Int) (h : D_code_Write N lens l2 = some r) :
    Calls Tryd.prog 40 #[.slice A_lens lens.length c_lens, .slice A_l2 l2.length c_l2] w0 fun e w' => ∃ v, e = .returned v ∧ v = .tuple #[.string (bs r.1), I r.2] ∧ Mem w0.heap.size w0 w' [] := by
  refine X_enter Tryd.func40 rfl Tryd.ntmps40 rfl ?_
  intro a K
  have M := Mem.start w0
  have K : Kn a 50 [(0, .slice A_lens lens.length c_lens), (1, .slice A_l2 l2.length c_l2)] := K
  unfold D_code_Write at h
  refine wp_seq (X_reg ?_)
  refine X_o K M ?_; clear K
  refine Y_o M ?_; intro a K
  refine wpList_nil (then_n (wp_seq (X_reg ?_)))
  refine X_o K M ?_; clear K; intro a K
  obtain ⟨r2, h_r2, h⟩ := obind h
  refine X_a K (ac_call (vs := [.slice A_lens lens.length c_lens]) (cap := []) rfl fok24 K rfl rfl (W_code_Words N lens A_lens c_lens _ ((inA R_lens) _ M) C_lens r2 h_r2)) ?_
  have M0 := M; clear K M; rintro _ a w ⟨A, c, rfl, M⟩ K
  replace M := M0.call M; clear M0
  refine X_o K M ?_; clear K
  iterate 4 (refine Y_o M ?_)
  intro a K
  refine wpList_nil (then_n (wp_seq (wp_seq (X_reg ?_))))
  refine X_o K M ?_; clear K
  refine Y_o M ?_; intro a K
  refine wpList_nil (then_n ?_)
  refine X_cond K rfl (fun hb => ?_) (fun hb => ?_)
  · have h := ctrue hb h
    refine wp_seq (X_reg ?_)
    refine X_o K M ?_; clear K
    iterate 2 (refine Y_o M ?_)
    intro a K
    refine wpList_nil (then_n (wp_ret (then_r ?_)))
    cases h
    exact ret2 K rfl (res_tmp K rfl) (res_tmp K rfl) ⟨_, rfl, rfl, ((M).pick [] (by decide))⟩
  have h := cfalse hb h
  refine wp_skip (then_n (wp_seq (wp_seq (X_reg ?_))))
  refine X_o K M ?_; clear K
  refine Y_r (fun _ K => rd_len rfl un35 K rfl) M ?_
  refine Y_o M ?_; intro a K
  refine wpList_nil (then_n ?_)
  refine X_cond K rfl (fun hb => ?_) (fun hb => ?_)
  · have h := ctrue hb h
    refine wp_seq (X_reg ?_)
    refine X_o K M ?_; clear K
    refine Y_o M ?_; intro a K
    refine wpList_nil (then_n (wp_ret (then_r ?_)))
    cases h
    exact ret2 K rfl (res_tmp K rfl) (res_tmp K rfl) ⟨_, rfl, rfl, ((M).pick [] (by decide))⟩
  have h := cfalse hb h
  refine wp_skip (then_n (wp_seq (X_reg ?_)))
  refine X_a K (ac_alloc rfl (show zeroT Tryd.prog 55 = some [.pointer none, .slice none 0 0] by kernel_rfl) M) ?_
  have M0 := M; clear K M; rintro _ a w ⟨g_b, rfl, M⟩ K
  replace M := Mem.asBld 5 M
  clear M0
  refine wpList_nil (then_n (wp_seq (wp_seq (X_reg ?_))))
  refine X_o K M ?_; clear K
  refine Y_r (fun _ K => rd_len rfl un35 K rfl) M ?_
  refine Y_o M ?_; intro a K
  refine wpList_nil (then_n (wp_block ?_))
  refine X_lp (id := 0) (Rel := fun (⟨l3, i⟩ : List UInt8 × Int) a w => ∃ (A2 : Option Addr) (c2 : Nat), Kn a 50 [(6, .slice A r2.1.length c), (8, .pointer (some ⟨g_b, 0, none⟩)), (22, .slice A_l2 l2.length c_l2), (23, I (l2.length : Int)), (24, I i)] ∧ Mem w0.heap.size w0 w [.row 5 1 A2 l3.length c2 ((cI .u8).all (ofB l3)), .bld g_b 55 A2 l3.length c2, .row 9 1 A r2.1.length c (cS.all r2.1)]) h (fun _ _ => rfl) ⟨none, 0, K.pick [6,8,22,23,24], M.pick [0,1,2] (by decide)⟩ ?_ ?_
  · clear K M h
    rintro ⟨l4, i2⟩ a w ⟨A5, c5, K, M⟩ h
    try dsimp only at h
    refine inb_e ?_
    refine then_n (wp_seq (X_reg ?_))
    refine X_a K (ac_call (vs := [.pointer (some ⟨g_b, 0, none⟩)]) (cap := []) rfl fok34 K rfl rfl (W_bld_string (show Mem _ _ _ [.bld g_b 55 A5 l4.length c5, .row 5 1 A5 l4.length c5 ((cI .u8).all (ofB l4)), .row 9 1 A r2.1.length c (cS.all r2.1)] from M.pick [1,0,2] (by decide)))) ?_
    clear K M; rintro _ a w ⟨rfl, M⟩ K
    refine X_o K M ?_; clear K
    refine Y_o M ?_; intro a K
    refine wpList_nil (then_n (wp_ret ?_))
    cases h
    exact ret2 K rfl (res_tmp K rfl) (res_tmp K rfl) ⟨_, rfl, rfl, ((M).pick [] (by decide))⟩
  clear K M h
  rintro kk fuel ⟨l3, i⟩ a w hk1 ⟨A2, c2, K, M⟩ h
  unfold D_code_Write_l1 at h
  refine wp_seq (X_reg ?_)
  refine X_o K M ?_; clear K; intro a K
  refine wpList_nil (then_n (wp_seq ?_))
  refine X_cond K rfl (fun hb => ?_) (fun hb => ?_)
  · have h := ctrue hb h
    refine wp_skip (then_n (wp_seq (wp_block (wp_seq (X_reg ?_)))))
    obtain ⟨e4, h_e4, h⟩ := obind h
    refine X_r K (rd_ix rfl sl35 K rfl rfl (inA R_l2) h_e4) M ?_; clear K
    refine Y_r (fun _ K => rd_elC rfl sc3 K rfl rfl (inA R_l2) h_e4 rfl) M ?_
    refine Y_o M ?_; intro a K
    refine wpList_nil (then_n (wp_seq (wp_seq (X_reg ?_))))
    refine X_o K M ?_; clear K
    iterate 2 (refine Y_o M ?_)
    intro a K
    rcases Bool.eq_false_or_eq_true (decide (e4 < 0)) with hb | hb
    · have h := ctrue hb h
      have K := K.reb (s := 30) rfl hb
      refine X_o K M ?_; clear K
      iterate 11 (refine Y_o M ?_)
      intro a K
      refine wpList_nil (then_n ?_)
      refine X_condT K rfl ?_
      refine wp_seq (X_reg ?_)
      refine X_o K M ?_; clear K
      refine Y_o M ?_; intro a K
      refine wpList_nil (then_n (wp_ret (then_r (inb_r (then_r (then_r (inb_r (then_r ?_))))))))
      cases h
      exact ret2 K rfl (res_tmp K rfl) (res_tmp K rfl) ⟨_, rfl, rfl, ((M).pick [] (by decide))⟩
    have h := cfalse hb h
    have K := K.reb (s := 30) rfl hb
    refine X_o K M ?_; clear K
    refine Y_o M ?_
    refine Y_r (fun _ K => rd_len rfl un43 K rfl) M ?_
    iterate 3 (refine Y_o M ?_)
    intro a K
    rcases Bool.eq_false_or_eq_true (decide ((r2.1.length : Int) ≤ e4)) with hb | hb
    · have h := ctrue hb h
      have K := K.reb (s := 36) rfl hb
      refine X_o K M ?_; clear K
      iterate 5 (refine Y_o M ?_)
      intro a K
      refine wpList_nil (then_n ?_)
      refine X_condT K rfl ?_
      refine wp_seq (X_reg ?_)
      refine X_o K M ?_; clear K
      refine Y_o M ?_; intro a K
      refine wpList_nil (then_n (wp_ret (then_r (inb_r (then_r (then_r (inb_r (then_r ?_))))))))
      cases h
      exact ret2 K rfl (res_tmp K rfl) (res_tmp K rfl) ⟨_, rfl, rfl, ((M).pick [] (by decide))⟩
    have h := cfalse hb h
    have K := K.reb (s := 36) rfl hb
    refine X_o K M ?_; clear K
    refine Y_o M ?_
    obtain ⟨e5, h_e5, h⟩ := obind h
    refine Y_r (fun _ K => rd_ix rfl sl43 K rfl rfl (inR (C := cS) 2 rfl rfl) h_e5) M ?_
    refine Y_r (fun _ K => rd_elC rfl sc9 K rfl rfl (inR (C := cS) 2 rfl rfl) h_e5 rfl) M ?_
    refine Y_r (fun _ K => rd_eqlS rfl K rfl rfl) M ?_
    refine Y_o M ?_; intro a K
    refine wpList_nil (then_n ?_)
    refine X_cond K rfl (fun hb => ?_) (fun hb => ?_)
    · have h := ctrue hb h
      refine wp_seq (X_reg ?_)
      refine X_o K M ?_; clear K
      refine Y_o M ?_; intro a K
      refine wpList_nil (then_n (wp_ret (then_r (inb_r (then_r (then_r (inb_r (then_r ?_))))))))
      cases h
      exact ret2 K rfl (res_tmp K rfl) (res_tmp K rfl) ⟨_, rfl, rfl, ((M).pick [] (by decide))⟩
    have h := cfalse hb h
    refine wp_skip (then_n (X_reg ?_))
    refine X_o K M ?_; clear K
    refine Y_o M ?_
    obtain ⟨e6, h_e6, h⟩ := obind h
    refine Y_r (fun _ K => rd_ix rfl sl43 K rfl rfl (inR (C := cS) 2 rfl rfl) h_e6) M ?_
    refine Y_r (fun _ K => rd_elC rfl sc9 K rfl rfl (inR (C := cS) 2 rfl rfl) h_e6 rfl) M ?_; intro a K
    obtain ⟨b2, h_b2, h⟩ := obind h
    refine X_a K (ac_call (vs := [.pointer (some ⟨g_b, 0, none⟩), .string (bs e6)]) (cap := []) rfl fok33 K rfl rfl (W_bld_write (show Mem _ _ _ [.bld g_b 55 A2 l3.length c2, .row 5 1 A2 l3.length c2 ((cI .u8).all (ofB l3)), .row 9 1 A r2.1.length c (cS.all r2.1)] from M.pick [1,0,2] (by decide)) h_b2)) ?_
    clear K M; rintro _ a w ⟨A4, c4, M⟩ K
    refine wpList_nil (inb_n (then_n (X_reg ?_)))
    refine X_o K M ?_; clear K
    refine Y_o M ?_; intro a K
    refine wpList_nil ?_
    exact then_n ⟨(b2, IntKind.i64.wrap (i + 1)), ⟨A4, c4, K.pick [6,8,22,23,24], M.pick [1,0,2] (by decide)⟩, h⟩
  have h := cfalse hb h
  refine wp_exit ?_
  refine then_e ?_
  exact then_e (hk1 (l3, i) _ _ ⟨A2, c2, K.pick [6,8,22,23,24], M.pick [0,1,2] (by decide)⟩ h)
set_option maxRecDepth 100000 in
set_option maxHeartbeats 4000000 in
theorem W_code_Read (N : Nat) (d : List Int) (A_d : Option Addr) (c_d : Nat) (o : List UInt8) (p2 : Int) (w0 : World) (R_d : SL w0 (cI .i64) A_d d) (C_d : d.length ≤ c_d) (r : List Int × List UInt8 × Int) (h : D_code_Read N d o p2 = some r) :
    Calls Tryd.prog 41 #[.slice A_d d.length c_d, .string (bs o), I p2] w0 fun e w' => ∃ v, e = .returned v ∧ ∃ A0 c0, v = .tuple #[.slice A0 r.1.length c0, .string (bs r.2.1), I r.2.2] ∧ Mem w0.heap.size w0 w' [.row 3 1 A0 r.1.length c0 ((cI .i64).all r.1)] := by
  refine X_enter Tryd.func41 rfl Tryd.ntmps41 rfl ?_
  intro a K
  have M := Mem.start w0
  have K : Kn a 79 [(0, .slice A_d d.length c_d), (1, .string (bs o)), (2, I p2)] := K
  unfold D_code_Read at h
  refine wp_seq (X_reg ?_)
  refine X_o K M ?_; clear K
  iterate 2 (refine Y_o M ?_)
  intro a K
  refine wpList_nil (then_n (wp_seq (X_reg ?_)))
  refine X_o K M ?_; clear K; intro a K
  obtain ⟨r2, h_r2, h⟩ := obind h
  refine X_a K (ac_call (vs := [.slice A_d d.length c_d]) (cap := []) rfl fok24 K rfl rfl (W_code_Words N d A_d c_d _ ((inA R_d) _ M) C_d r2 h_r2)) ?_
  have M0 := M; clear K M; rintro _ a w ⟨A, c, rfl, M⟩ K
  replace M := M0.call M; clear M0
  refine X_o K M ?_; clear K
  iterate 4 (refine Y_o M ?_)
  intro a K
  refine wpList_nil (then_n (wp_seq (wp_seq (X_reg ?_))))
  refine X_o K M ?_; clear K
  refine Y_o M ?_; intro a K
  refine wpList_nil (then_n ?_)
  refine X_cond K rfl (fun hb => ?_) (fun hb => ?_)
  · have h := ctrue hb h
    refine wp_seq (X_reg ?_)
    refine X_o K M ?_; clear K
    iterate 3 (refine Y_o M ?_)
    intro a K
    refine wpList_nil (then_n (wp_ret (then_r ?_)))
    cases h
    exact ret3 K rfl (res_tmp K rfl) (res_tmp K rfl) (res_tmp K rfl) ⟨_, rfl, _, _, rfl, (((Mem.nilrow 3 1 (cI .i64) M)).pick [0] (by decide))⟩
  have h := cfalse hb h
  refine wp_skip (then_n (wp_seq (wp_seq (X_reg ?_))))
  refine X_o K M ?_; clear K
  iterate 2 (refine Y_o M ?_)
  intro a K
  rcases Bool.eq_false_or_eq_true (decide (p2 < 0)) with hb | hb
  · have h := ctrue hb h
    have K := K.reb (s := 29) rfl hb
    refine X_o K M ?_; clear K
    iterate 2 (refine Y_o M ?_)
    intro a K
    refine wpList_nil (then_n ?_)
    refine X_condT K rfl ?_
    refine wp_seq (X_reg ?_)
    refine X_o K M ?_; clear K
    iterate 2 (refine Y_o M ?_)
    intro a K
    refine wpList_nil (then_n (wp_ret (then_r ?_)))
    cases h
    exact ret3 K rfl (res_tmp K rfl) (res_tmp K rfl) (res_tmp K rfl) ⟨_, rfl, _, _, rfl, (((Mem.nilrow 3 1 (cI .i64) M)).pick [0] (by decide))⟩
  have h := cfalse hb h
  have K := K.reb (s := 29) rfl hb
  refine X_o K M ?_; clear K
  iterate 2 (refine Y_o M ?_)
  intro a K
  refine wpList_nil (then_n ?_)
  refine X_cond K rfl (fun hb => ?_) (fun hb => ?_)
  · have h := ctrue hb h
    refine wp_seq (X_reg ?_)
    refine X_o K M ?_; clear K
    iterate 2 (refine Y_o M ?_)
    intro a K
    refine wpList_nil (then_n (wp_ret (then_r ?_)))
    cases h
    exact ret3 K rfl (res_tmp K rfl) (res_tmp K rfl) (res_tmp K rfl) ⟨_, rfl, _, _, rfl, (((Mem.nilrow 3 1 (cI .i64) M)).pick [0] (by decide))⟩
  have h := cfalse hb h
  refine wp_skip (then_n (wp_seq (wp_seq (X_reg ?_))))
  refine X_o K M ?_; clear K; intro a K
  obtain ⟨r3, h_r3, h⟩ := obind h
  refine X_a K (ac_call (vs := [.string (bs o)]) (cap := []) rfl fok7 K rfl rfl (W_bits_Bytes N o _  r3 h_r3)) ?_
  have M0 := M; clear K M; rintro _ a w ⟨rfl, M⟩ K
  replace M := M0.call M; clear M0
  refine X_o K M ?_; clear K
  iterate 4 (refine Y_o M ?_)
  intro a K
  refine wpList_nil (then_n (wp_seq (X_reg ?_)))
  refine X_o K M ?_; clear K
  refine Y_o M ?_; intro a K
  refine wpList_nil (then_n ?_)
  refine X_cond K rfl (fun hb => ?_) (fun hb => ?_)
  · have h := ctrue hb h
    refine wp_seq (X_reg ?_)
    refine X_o K M ?_; clear K
    iterate 2 (refine Y_o M ?_)
    intro a K
    refine wpList_nil (then_n (wp_ret (then_r ?_)))
    cases h
    exact ret3 K rfl (res_tmp K rfl) (res_tmp K rfl) (res_tmp K rfl) ⟨_, rfl, _, _, rfl, (((Mem.nilrow 3 1 (cI .i64) M)).pick [0] (by decide))⟩
  have h := cfalse hb h
  refine wp_skip (then_n (wp_seq (X_reg ?_)))
  refine X_o K M ?_; clear K; intro a K
  refine X_inl (vs := [.slice A r2.1.length c]) (cap := []) K (want_no rfl) rfl rfl rfl fok47 rfl rfl ?_; clear K
  refine X_enter Tryd.func47 rfl Tryd.ntmps47 rfl ?_
  intro a K
  have K : Kn a 44 [(0, .slice A r2.1.length c)] := K
  refine wp_seq (X_reg ?_)
  refine X_o K M ?_; clear K; intro a K
  refine wpList_nil (then_n (wp_seq (X_reg ?_)))
  refine X_a K (ac_makeMap rfl 9 3 M) ?_
  clear K M; rintro _ a w ⟨gm, rfl, M⟩ K
  refine X_o K M ?_; clear K; intro a K
  refine wpList_nil (then_n (wp_seq (wp_seq (X_reg ?_))))
  refine X_o K M ?_; clear K
  refine Y_r (fun _ K => rd_len rfl un43 K rfl) M ?_
  refine Y_o M ?_; intro a K
  refine wpList_nil (then_n (wp_block ?_))
  refine X_lp (id := 0) (Rel := fun (⟨m, i⟩ : List (List UInt8 × Int) × Int) a w => Kn a 44 [(3, .map (some gm)), (10, .slice A r2.1.length c), (11, I (r2.1.length : Int)), (12, I i)] ∧ Mem w0.heap.size w0 w [.smp Tryd.prog 9 3 gm m, .row 9 1 A r2.1.length c (cS.all r2.1)]) h (fun _ _ => rfl) ⟨K.pick [3,10,11,12], M.pick [0,1] (by decide)⟩ ?_ ?_
  · clear K M h
    rintro ⟨m10, i5⟩ a w ⟨K, M⟩ h
    try dsimp only at h
    refine inb_e ?_
    refine then_n (wp_seq (X_reg ?_))
    refine X_o K M ?_; clear K
    refine Y_o M ?_; intro a K
    refine wpList_nil (then_n (wp_ret ?_))
    refine ret1 K rfl (res_tmp K rfl) ⟨_, rfl, ?_⟩; clear K; intro a K
    refine X_o K M ?_; clear K; intro a K
    refine wpList_nil (then_n (wp_seq (X_reg ?_)))
    refine X_o K M ?_; clear K; intro a K
    refine wpList_nil (then_n (wp_seq (wp_block ?_)))
    replace M := Mem.nilrow 3 1 (cI .i64) M
    refine X_lp (id := 0) (Rel := fun (⟨l3, o2⟩ : List Int × List UInt8) a w => ∃ (A3 : Option Addr) (c3 : Nat), Kn a 79 [(1, .string (bs o2)), (2, I p2), (13, .map (some gm)), (14, .slice A3 l3.length c3)] ∧ Mem w0.heap.size w0 w [.row 3 1 A3 l3.length c3 ((cI .i64).all l3), .smp Tryd.prog 9 3 gm m10]) h (fun _ _ => rfl) ⟨none, 0, K.pick [1,2,13,14], M.pick [0,1] (by decide)⟩ ?_ ?_
    · clear K M h
      rintro ⟨l6, o3⟩ a w ⟨A6, c6, K, M⟩ h
      try dsimp only at h
      refine inb_e ?_
      refine then_n (wp_seq (X_reg ?_))
      refine X_o K M ?_; clear K
      iterate 4 (refine Y_o M ?_)
      intro a K
      refine wpList_nil (then_n (wp_ret ?_))
      cases h
      exact ret3 K rfl (res_tmp K rfl) (res_tmp K rfl) (res_tmp K rfl) ⟨_, rfl, _, _, rfl, ((M).pick [0] (by decide))⟩
    clear K M h
    rintro kk fuel ⟨l3, o2⟩ a w hk3 ⟨A3, c3, K, M⟩ h
    unfold D_code_Read_l3 at h
    refine wp_seq (wp_seq (X_reg ?_))
    refine X_o K M ?_; clear K
    refine Y_r (fun _ K => rd_len rfl un35 K rfl) M ?_
    iterate 2 (refine Y_o M ?_)
    intro a K
    refine wpList_nil (then_n ?_)
    refine X_cond K rfl (fun hb => ?_) (fun hb => ?_)
    · have h := ctrue hb h
      refine wp_skip (then_n (wp_block (wp_seq (X_reg ?_))))
      refine X_o K M ?_; clear K
      refine Y_o M ?_; intro a K
      refine wpList_nil (then_n (wp_seq (wp_block ?_)))
      refine X_lp (id := 2) (Rel := fun (⟨i10, i11⟩ : Int × Int) a w => Kn a 79 [(1, .string (bs o2)), (2, I p2), (13, .map (some gm)), (14, .slice A3 l3.length c3), (15, I i10), (16, I i11)] ∧ Mem w0.heap.size w0 w [.row 3 1 A3 l3.length c3 ((cI .i64).all l3), .smp Tryd.prog 9 3 gm m10]) h (fun _ _ => rfl) ⟨K.pick [1,2,13,14,15,16], M.pick [0,1] (by decide)⟩ ?_ ?_
      · clear K M h
        rintro ⟨i12, i13⟩ a w ⟨K, M⟩ h
        try dsimp only at h
        refine inb_e ?_
        refine then_n (wp_seq (X_reg ?_))
        refine X_o K M ?_; clear K
        refine Y_o M ?_; intro a K
        refine X_a K (ac_bslice rfl sl35 z3 K (vs := [(0, I i13)]) (cs := [I i13]) rfl (by kernel_rfl) rfl rfl M) ?_
        have M0 := M; clear K M; rintro _ a w ⟨gs3, rfl, M⟩ K
        replace M := M.asRow 0 rfl (cI .i64) ([i13] : List Int) (n := 1) rfl rfl rfl
        clear M0
        obtain ⟨l5, h_l5, h⟩ := obind h
        refine X_a K (ac_app (C := (cI .i64)) (xs := l3) (ys := ([i13] : List Int)) rfl sl35 rfl z3 rfl rfl K rfl rfl 1 M rfl ((inR (C := (cI .i64)) 0 rfl rfl) _ M) h_l5) ?_
        clear K M; rintro _ a w ⟨A5, c5, rfl, M⟩ K
        refine X_o K M ?_; clear K; intro a K
        refine wpList_nil (then_n (X_reg ?_))
        refine X_o K M ?_; clear K
        refine Y_o M ?_
        obtain ⟨s13, h_s13, h⟩ := obind h
        refine Y_r (fun _ K => rd_sliceS (k := .i64) (k' := .i64) rfl st9 K rfl rfl rfl h_s13) M ?_
        refine Y_o M ?_; intro a K
        refine wpList_nil (inb_n ?_)
        exact then_n ⟨(l5, s13), ⟨A5, c5, K.pick [1,2,13,14], M.pick [1,2] (by decide)⟩, h⟩
      clear K M h
      rintro kk fuel ⟨i10, i11⟩ a w hk4 ⟨K, M⟩ h
      unfold D_code_Read_l4 at h
      refine wp_seq (wp_seq (X_reg ?_))
      refine X_o K M ?_; clear K
      refine Y_o M ?_; intro a K
      refine wpList_nil (then_n ?_)
      refine X_cond K rfl (fun hb => ?_) (fun hb => ?_)
      · have h := ctrue hb h
        refine wp_skip (then_n (wp_block (wp_seq (X_reg ?_))))
        refine X_o K M ?_; clear K
        iterate 2 (refine Y_o M ?_)
        obtain ⟨s12, h_s12, h⟩ := obind h
        refine Y_r (fun _ K => rd_sliceS (k := .i64) (k' := .i64) rfl st9 K rfl rfl rfl h_s12) M ?_
        obtain ⟨q7, h_q7, h⟩ := obind h
        refine Y_r (fun _ K => rd_look rfl mp72 st9 ik3 zi3 K rfl rfl (inS 1 rfl) h_q7) M ?_
        iterate 5 (refine Y_o M ?_)
        intro a K
        refine wpList_nil (then_n (wp_block (wp_seq (X_reg ?_))))
        refine X_o K M ?_; clear K
        iterate 2 (refine Y_o M ?_)
        intro a K
        refine wpList_nil (then_n ?_)
        refine X_cond K rfl (fun hb => ?_) (fun hb => ?_)
        · have h := ctrue hb h
          refine wp_seq (X_reg ?_)
          refine X_o K M ?_; clear K
          iterate 2 (refine Y_o M ?_)
          intro a K
          refine wpList_nil (then_n (wp_ret (inb_r (inb_r (then_r (inb_r (then_r (inb_r (then_r (inb_r (then_r ?_)))))))))))
          cases h
          exact ret3 K rfl (res_tmp K rfl) (res_tmp K rfl) (res_tmp K rfl) ⟨_, rfl, _, _, rfl, (((Mem.nilrow 3 1 (cI .i64) M)).pick [0] (by decide))⟩
        have h := cfalse hb h
        refine wp_seq (X_reg ?_)
        refine X_o K M ?_; clear K
        iterate 2 (refine Y_o M ?_)
        intro a K
        refine wpList_nil (then_n ?_)
        refine X_cond K rfl (fun hb => ?_) (fun hb => ?_)
        · have h := ctrue hb h
          refine X_reg ?_
          refine X_o K M ?_; clear K
          refine Y_o M ?_; intro a K
          refine wpList_nil (inb_n (inb_n ?_))
          exact then_n ⟨(i10, q7.1), ⟨K.pick [1,2,13,14,15,16], M.pick [0,1] (by decide)⟩, h⟩
        have h := cfalse hb h
        refine wp_seq (X_reg ?_)
        refine X_o K M ?_; clear K
        refine Y_o M ?_
        refine Y_r (fun _ K => rd_lenT rfl st9 K rfl) M ?_
        iterate 2 (refine Y_o M ?_)
        intro a K
        refine wpList_nil (then_n ?_)
        refine X_cond K rfl (fun hb => ?_) (fun hb => ?_)
        · have h := ctrue hb h
          refine wp_seq (X_reg ?_)
          refine X_o K M ?_; clear K
          iterate 2 (refine Y_o M ?_)
          intro a K
          refine wpList_nil (then_n (wp_ret (inb_r (inb_r (then_r (inb_r (then_r (inb_r (then_r (inb_r (then_r ?_)))))))))))
          cases h
          exact ret3 K rfl (res_tmp K rfl) (res_tmp K rfl) (res_tmp K rfl) ⟨_, rfl, _, _, rfl, (((Mem.nilrow 3 1 (cI .i64) M)).pick [0] (by decide))⟩
        have h := cfalse hb h
        refine X_reg ?_
        refine X_o K M ?_; clear K
        refine Y_o M ?_
        obtain ⟨x5, hx, h⟩ := olet h
        refine Y_r (fun _ K => rdi hx (rd_assign rfl K rfl)) M ?_; intro a K
        refine wpList_nil (inb_n (inb_n ?_))
        exact then_n ⟨(x5, i11), ⟨K.pick [1,2,13,14,15,16], M.pick [0,1] (by decide)⟩, h⟩
      have h := cfalse hb h
      refine wp_exit ?_
      refine then_e ?_
      exact then_e (hk4 (i10, i11) _ _ ⟨K.pick [1,2,13,14,15,16], M.pick [0,1] (by decide)⟩ h)
    have h := cfalse hb h
    refine wp_exit ?_
    refine then_e ?_
    exact then_e (hk3 (l3, o2) _ _ ⟨A3, c3, K.pick [1,2,13,14], M.pick [0,1] (by decide)⟩ h)
  clear K M h
  rintro kk fuel ⟨m, i⟩ a w hk1 ⟨K, M⟩ h
  unfold D_code_Read_l1 at h
  refine wp_seq (X_reg ?_)
  refine X_o K M ?_; clear K; intro a K
  refine wpList_nil (then_n (wp_seq ?_))
  refine X_cond K rfl (fun hb => ?_) (fun hb => ?_)
  · have h := ctrue hb h
    refine wp_skip (then_n (wp_seq (wp_block (wp_seq (X_reg ?_)))))
    refine X_o K M ?_; clear K
    obtain ⟨e2, h_e2, h⟩ := obind h
    refine Y_r (fun _ K => rd_ix rfl sl43 K rfl rfl (inR (C := cS) 1 rfl rfl) h_e2) M ?_
    refine Y_r (fun _ K => rd_elC rfl sc9 K rfl rfl (inR (C := cS) 1 rfl rfl) h_e2 rfl) M ?_
    iterate 2 (refine Y_o M ?_)
    intro a K
    refine wpList_nil (then_n (wp_seq (wp_seq (X_reg ?_))))
    refine X_o K M ?_; clear K
    refine Y_r (fun _ K => rd_lenT rfl st9 K rfl) M ?_
    refine Y_o M ?_; intro a K
    refine wpList_nil (then_n (wp_block ?_))
    refine X_lp (id := 2) (Rel := fun (⟨m5, i3⟩ : List (List UInt8 × Int) × Int) a w => Kn a 44 [(3, .map (some gm)), (10, .slice A r2.1.length c), (11, I (r2.1.length : Int)), (12, I i), (4, I i), (5, .string (bs e2)), (18, I (e2.length : Int)), (19, I i3)] ∧ Mem w0.heap.size w0 w [.smp Tryd.prog 9 3 gm m5, .row 9 1 A r2.1.length c (cS.all r2.1)]) h (fun _ _ => rfl) ⟨K.pick [3,10,11,12,4,5,18,19], M.pick [0,1] (by decide)⟩ ?_ ?_
    · clear K M h
      rintro ⟨m8, i4⟩ a w ⟨K, M⟩ h
      try dsimp only at h
      refine inb_e ?_
      refine then_n (wp_seq (X_reg ?_))
      refine X_o K M ?_; clear K
      refine Y_r (fun _ K => rd_neqS rfl K rfl rfl) M ?_; intro a K
      refine wpList_nil (then_n ?_)
      refine X_cond K rfl (fun hb => ?_) (fun hb => ?_)
      · have h := ctrue hb h
        refine X_reg ?_
        refine X_o K M ?_; clear K
        iterate 2 (refine Y_o M ?_)
        intro a K
        obtain ⟨m9, h_m9, h⟩ := obind h
        refine X_b K (ac_mapSet rfl mp72 st9 ik3 K rfl rfl rfl 0 M rfl h_m9) ?_
        clear K M; rintro _ a w M K
        refine wpList_nil (inb_n (then_n (X_reg ?_)))
        refine X_o K M ?_; clear K
        refine Y_o M ?_; intro a K
        refine wpList_nil ?_
        exact then_n ⟨(m9, IntKind.i64.wrap (i + 1)), ⟨K.pick [3,10,11,12], M.pick [0,1] (by decide)⟩, h⟩
      have h := cfalse hb h
      refine wp_skip (inb_n (then_n (X_reg ?_)))
      refine X_o K M ?_; clear K
      refine Y_o M ?_; intro a K
      refine wpList_nil ?_
      exact then_n ⟨(m8, IntKind.i64.wrap (i + 1)), ⟨K.pick [3,10,11,12], M.pick [0,1] (by decide)⟩, h⟩
    clear K M h
    rintro kk fuel ⟨m5, i3⟩ a w hk2 ⟨K, M⟩ h
    unfold D_code_Read_l2 at h
    refine wp_seq (X_reg ?_)
    refine X_o K M ?_; clear K; intro a K
    refine wpList_nil (then_n (wp_seq ?_))
    refine X_cond K rfl (fun hb => ?_) (fun hb => ?_)
    · have h := ctrue hb h
      refine wp_skip (then_n (wp_seq (wp_block (wp_seq (X_reg ?_)))))
      refine X_o K M ?_; clear K
      refine Y_o M ?_; intro a K
      refine wpList_nil (then_n (wp_seq (X_reg ?_)))
      refine X_o K M ?_; clear K
      iterate 2 (refine Y_o M ?_)
      obtain ⟨s5, h_s5, h⟩ := obind h
      refine Y_r (fun _ K => rd_sliceS (k := .i64) (k' := .i64) rfl st9 K rfl rfl rfl h_s5) M ?_
      obtain ⟨q3, h_q3, h⟩ := obind h
      refine Y_r (fun _ K => rd_look rfl mp72 st9 ik3 zi3 K rfl rfl (inS 0 rfl) h_q3) M ?_
      iterate 5 (refine Y_o M ?_)
      intro a K
      refine wpList_nil (then_n (wp_seq (X_reg ?_)))
      refine X_o K M ?_; clear K
      refine Y_o M ?_; intro a K
      refine wpList_nil (then_n ?_)
      refine X_cond K rfl (fun hb => ?_) (fun hb => ?_)
      · have h := ctrue hb h
        refine X_reg ?_
        refine X_o K M ?_; clear K
        iterate 2 (refine Y_o M ?_)
        obtain ⟨s6, h_s6, h⟩ := obind h
        refine Y_r (fun _ K => rd_sliceS (k := .i64) (k' := .i64) rfl st9 K rfl rfl rfl h_s6) M ?_; intro a K
        obtain ⟨m7, h_m7, h⟩ := obind h
        refine X_b K (ac_mapSet rfl mp72 st9 ik3 K rfl rfl rfl 0 M rfl h_m7) ?_
        clear K M; rintro _ a w M K
        refine wpList_nil (inb_n (then_n (X_reg ?_)))
        refine X_o K M ?_; clear K
        refine Y_o M ?_; intro a K
        refine wpList_nil ?_
        exact then_n ⟨(m7, IntKind.i64.wrap (i3 + 1)), ⟨K.pick [3,10,11,12,4,5,18,19], M.pick [0,1] (by decide)⟩, h⟩
      have h := cfalse hb h
      refine wp_skip (inb_n (then_n (X_reg ?_)))
      refine X_o K M ?_; clear K
      refine Y_o M ?_; intro a K
      refine wpList_nil ?_
      exact then_n ⟨(m5, IntKind.i64.wrap (i3 + 1)), ⟨K.pick [3,10,11,12,4,5,18,19], M.pick [0,1] (by decide)⟩, h⟩
    have h := cfalse hb h
    refine wp_exit ?_
    refine then_e ?_
    exact then_e (hk2 (m5, i3) _ _ ⟨K.pick [3,10,11,12,4,5,18,19], M.pick [0,1] (by decide)⟩ h)
  have h := cfalse hb h
  refine wp_exit ?_
  refine then_e ?_
  exact then_e (hk1 (m, i) _ _ ⟨K.pick [3,10,11,12], M.pick [0,1] (by decide)⟩ h)
end Go.Proofs.YtpmnfhifmmfglabDoor

namespace Go.Proofs.YtpmnfhifmmfglabDoor
open Go.RowKit
set_option maxRecDepth 100000 in
set_option maxHeartbeats 4000000 in
theorem W_darkslidelaw_lens (N : Nat)  (w0 : World)  (r : List Int) (h : D_darkslidelaw_lens N  = some r) :
    Calls Tryd.prog 39 #[] w0 fun e w' => ∃ v, e = .returned v ∧ ∃ A0 c0, v = .slice A0 r.length c0 ∧ Mem w0.heap.size w0 w' [.row 3 1 A0 r.length c0 ((cI .i64).all r)] := by
  refine X_enter Tryd.func39 rfl Tryd.ntmps39 rfl ?_
  intro a K
  have M := Mem.start w0
  have K : Kn a 2 [] := K
  unfold D_darkslidelaw_lens at h
  refine wp_seq (X_reg ?_)
  refine X_o K M ?_; clear K; intro a K
  refine wpList_nil (then_n (wp_seq (X_reg ?_)))
  refine X_a K (ac_bslice rfl sl35 z3 K (vs := [(0, I 1), (1, I 2), (2, I 2)]) (cs := [I 1, I 2, I 2]) rfl (by kernel_rfl) rfl rfl M) ?_
  have M0 := M; clear K M; rintro _ a w ⟨gs, rfl, M⟩ K
  replace M := M.asRow 0 rfl (cI .i64) ([1, 2, 2] : List Int) (n := 3) rfl rfl rfl
  clear M0
  refine X_o K M ?_; clear K; intro a K
  refine wpList_nil (then_n (wp_ret ?_))
  cases h
  exact ret1 K rfl (res_tmp K rfl) ⟨_, rfl, _, _, rfl, ((M).pick [0] (by decide))⟩
end Go.Proofs.YtpmnfhifmmfglabDoor

namespace Go.Proofs.YtpmnfhifmmfglabDoor
open Go.RowKit
set_option maxRecDepth 100000 in
set_option maxHeartbeats 4000000 in
theorem W_darkslideref_SameInts (N : Nat) (a2 : List Int) (A_a2 : Option Addr) (c_a2 : Nat) (b : List Int) (A_b : Option Addr) (c_b : Nat) (w0 : World) (R_a2 : SL w0 (cI .i64) A_a2 a2) (C_a2 : a2.length ≤ c_a2) (R_b : SL w0 (cI .i64) A_b b) (C_b : b.length ≤ c_b) (r : Bool) (h : D_darkslideref_SameInts N a2 b = some r) :
    Calls Tryd.prog 23 #[.slice A_a2 a2.length c_a2, .slice A_b b.length c_b] w0 fun e w' => ∃ v, e = .returned v ∧ v = .bool r ∧ Mem w0.heap.size w0 w' [] := by
  refine X_enter Tryd.func23 rfl Tryd.ntmps23 rfl ?_
  intro a K
  have M := Mem.start w0
  have K : Kn a 26 [(0, .slice A_a2 a2.length c_a2), (1, .slice A_b b.length c_b)] := K
  unfold D_darkslideref_SameInts at h
  refine wp_seq (X_reg ?_)
  refine X_o K M ?_; clear K; intro a K
  refine wpList_nil (then_n (wp_seq (wp_seq (X_reg ?_))))
  refine X_o K M ?_; clear K
  refine Y_r (fun _ K => rd_len rfl un35 K rfl) M ?_
  refine Y_o M ?_
  refine Y_r (fun _ K => rd_len rfl un35 K rfl) M ?_
  refine Y_o M ?_; intro a K
  refine wpList_nil (then_n ?_)
  refine X_cond K rfl (fun hb => ?_) (fun hb => ?_)
  · have h := ctrue hb h
    refine wp_seq (X_reg ?_)
    refine X_o K M ?_; clear K; intro a K
    refine wpList_nil (then_n (wp_ret (then_r ?_)))
    cases h
    exact ret1 K rfl (res_tmp K rfl) ⟨_, rfl, rfl, ((M).pick [] (by decide))⟩
  have h := cfalse hb h
  refine wp_skip (then_n (wp_seq (wp_seq (X_reg ?_))))
  refine X_o K M ?_; clear K; intro a K
  refine wpList_nil (then_n (wp_block ?_))
  refine X_lp (id := 0) (Rel := fun (i : Int) a w => Kn a 26 [(0, .slice A_a2 a2.length c_a2), (1, .slice A_b b.length c_b), (5, I i)] ∧ Mem w0.heap.size w0 w []) h (fun _ _ => rfl) ⟨K.pick [0,1,5], M.pick [] (by decide)⟩ ?_ ?_
  · clear K M h
    rintro i4 a w ⟨K, M⟩ h
    try dsimp only at h
    refine inb_e ?_
    refine then_n (wp_seq (X_reg ?_))
    refine X_o K M ?_; clear K; intro a K
    refine wpList_nil (then_n (wp_ret ?_))
    cases h
    exact ret1 K rfl (res_tmp K rfl) ⟨_, rfl, rfl, ((M).pick [] (by decide))⟩
  clear K M h
  rintro kk fuel i a w hk1 ⟨K, M⟩ h
  unfold D_darkslideref_SameInts_l1 at h
  refine wp_seq (wp_seq (X_reg ?_))
  refine X_o K M ?_; clear K
  refine Y_o M ?_
  refine Y_r (fun _ K => rd_len rfl un35 K rfl) M ?_
  refine Y_o M ?_; intro a K
  refine wpList_nil (then_n ?_)
  refine X_cond K rfl (fun hb => ?_) (fun hb => ?_)
  · have h := ctrue hb h
    refine wp_skip (then_n (wp_seq (wp_block (wp_seq ?_))))
    refine wp_region_tl (fun w => Mem _ _ w _) [0,0,0,0,0,0,0,0,0] (by kernel_rfl) (by kernel_rfl) M.drew ?_
    replace M := M.drew
    refine T_o K ?_; clear K
    refine U_o ?_
    obtain ⟨e3, h_e3, h⟩ := obind h
    refine U_r (fun _ K => rd_ixP rfl sl35 K rfl rfl ((inA R_a2) _ M) h_e3) ?_
    refine U_r (fun _ K => rd_elC rfl sc3 K rfl rfl (inA R_a2) h_e3 rfl) ?_
    iterate 2 (refine U_o ?_)
    obtain ⟨e4, h_e4, h⟩ := obind h
    refine U_r (fun _ K => rd_ixP rfl sl35 K rfl rfl ((inA R_b) _ M) h_e4) ?_
    refine U_r (fun _ K => rd_elC rfl sc3 K rfl rfl (inA R_b) h_e4 rfl) ?_
    refine U_o ?_; intro a K
    refine T_end ?_
    refine then_n ?_
    refine X_cond K rfl (fun hb => ?_) (fun hb => ?_)
    · have h := ctrue hb h
      refine wp_seq (X_reg ?_)
      refine X_o K M ?_; clear K; intro a K
      refine wpList_nil (then_n (wp_ret (inb_r (then_r (then_r (inb_r (then_r ?_)))))))
      cases h
      exact ret1 K rfl (res_tmp K rfl) ⟨_, rfl, rfl, ((M).pick [] (by decide))⟩
    have h := cfalse hb h
    refine wp_skip (inb_n (then_n (X_reg ?_)))
    refine X_o K M ?_; clear K
    refine Y_o M ?_
    obtain ⟨i3, hx, h⟩ := olet h
    refine Y_r (fun _ K => rdi hx (rd_assign rfl K rfl)) M ?_; intro a K
    refine wpList_nil ?_
    exact then_n ⟨i3, ⟨K.pick [0,1,5], M.pick [] (by decide)⟩, h⟩
  have h := cfalse hb h
  refine wp_exit ?_
  refine then_e ?_
  exact then_e (hk1 i _ _ ⟨K.pick [0,1,5], M.pick [] (by decide)⟩ h)
end Go.Proofs.YtpmnfhifmmfglabDoor

namespace Go.Proofs.YtpmnfhifmmfglabDoor
open Go.RowKit
set_option maxRecDepth 100000 in
set_option maxHeartbeats 4000000 in
theorem W_darkslidelaw_codeBegun (N : Nat)  (w0 : World)  (r : Bool) (h : D_darkslidelaw_codeBegun N  = some r) :
    Calls Tryd.prog 27 #[] w0 fun e w' => ∃ v, e = .returned v ∧ v = .bool r ∧ Mem w0.heap.size w0 w' [] := by
  refine X_enter Tryd.func27 rfl Tryd.ntmps27 rfl ?_
  intro a K
  have M := Mem.start w0
  have K : Kn a 76 [] := K
  unfold D_darkslidelaw_codeBegun at h
  refine wp_seq (X_reg ?_)
  refine X_o K M ?_; clear K; intro a K
  refine wpList_nil (then_n (wp_seq (X_reg ?_)))
  obtain ⟨r2, h_r2, h⟩ := obind h
  refine X_a K (ac_call (vs := []) (cap := []) rfl fok39 K rfl rfl (W_darkslidelaw_lens N  _  r2 h_r2)) ?_
  have M0 := M; clear K M; rintro _ a w ⟨A, c, rfl, M⟩ K
  replace M := M0.call M; clear M0
  obtain ⟨r3, h_r3, h⟩ := obind h
  refine X_a K (ac_call (vs := [.slice A r2.length c]) (cap := []) rfl fok24 K rfl rfl (W_code_Words N r2 A c _ ((inR (C := (cI .i64)) 0 rfl rfl) _ M) (M.cap 0 rfl) r3 h_r3)) ?_
  have M0 := M; clear K M; rintro _ a w ⟨A2, c2, rfl, M⟩ K
  replace M := M0.call M; clear M0
  refine X_o K M ?_; clear K
  iterate 4 (refine Y_o M ?_)
  intro a K
  refine wpList_nil (then_n (wp_seq (X_reg ?_)))
  obtain ⟨r4, h_r4, h⟩ := obind h
  refine X_a K (ac_call (vs := []) (cap := []) rfl fok39 K rfl rfl (W_darkslidelaw_lens N  _  r4 h_r4)) ?_
  have M0 := M; clear K M; rintro _ a w ⟨A3, c3, rfl, M⟩ K
  replace M := M0.call M; clear M0
  refine X_a K (ac_bslice rfl sl35 z3 K (vs := [(0, I 2), (1, I 0), (2, I 1)]) (cs := [I 2, I 0, I 1]) rfl (by kernel_rfl) rfl rfl M) ?_
  have M0 := M; clear K M; rintro _ a w ⟨gs, rfl, M⟩ K
  replace M := M.asRow 0 rfl (cI .i64) ([2, 0, 1] : List Int) (n := 3) rfl rfl rfl
  clear M0
  obtain ⟨r5, h_r5, h⟩ := obind h
  refine X_a K (ac_call (vs := [.slice A3 r4.length c3, .slice (some ⟨gs, 0, none⟩) ([2, 0, 1] : List Int).length 3]) (cap := []) rfl fok40 K rfl rfl (W_code_Write N r4 A3 c3 ([2, 0, 1] : List Int) (some ⟨gs, 0, none⟩) 3 _ ((inR (C := (cI .i64)) 1 rfl rfl) _ M) (M.cap 1 rfl) ((inR (C := (cI .i64)) 0 rfl rfl) _ M) (M.cap 0 rfl) r5 h_r5)) ?_
  have M0 := M; clear K M; rintro _ a w ⟨rfl, M⟩ K
  replace M := M0.call M; clear M0
  refine X_o K M ?_; clear K
  iterate 4 (refine Y_o M ?_)
  intro a K
  refine wpList_nil (then_n (wp_seq (X_reg ?_)))
  obtain ⟨r6, h_r6, h⟩ := obind h
  refine X_a K (ac_call (vs := []) (cap := []) rfl fok39 K rfl rfl (W_darkslidelaw_lens N  _  r6 h_r6)) ?_
  have M0 := M; clear K M; rintro _ a w ⟨A4, c4, rfl, M⟩ K
  replace M := M0.call M; clear M0
  obtain ⟨r7, h_r7, h⟩ := obind h
  refine X_a K (ac_call (vs := [.slice A4 r6.length c4, .string (bs ([49, 49, 48, 49, 48] : List UInt8)), I 2]) (cap := []) rfl fok41 K rfl rfl (W_code_Read N r6 A4 c4 ([49, 49, 48, 49, 48] : List UInt8) 2 _ ((inR (C := (cI .i64)) 0 rfl rfl) _ M) (M.cap 0 rfl) r7 h_r7)) ?_
  have M0 := M; clear K M; rintro _ a w ⟨A5, c5, rfl, M⟩ K
  replace M := M0.call M; clear M0
  refine X_o K M ?_; clear K
  iterate 6 (refine Y_o M ?_)
  intro a K
  refine wpList_nil (then_n (wp_seq (X_reg ?_)))
  refine X_o K M ?_; clear K
  iterate 2 (refine Y_o M ?_)
  intro a K
  rcases Bool.eq_false_or_eq_true (decide (r3.2 = 0)) with hb | hb
  · have h := ctrue hb h
    have K := K.reb (s := 27) rfl hb
    refine X_o K M ?_; clear K
    iterate 3 (refine Y_o M ?_)
    intro a K
    rcases Bool.eq_false_or_eq_true (decide (r5.2 = 0)) with hb | hb
    · have h := ctrue hb h
      have K := K.reb (s := 31) rfl hb
      refine X_o K M ?_; clear K
      iterate 3 (refine Y_o M ?_)
      intro a K
      rcases Bool.eq_false_or_eq_true (decide (r7.2.2 = 0)) with hb | hb
      · have h := ctrue hb h
        have K := K.reb (s := 35) rfl hb
        refine X_o K M ?_; clear K
        refine Y_r (fun _ K => rd_len rfl un43 K rfl) M ?_
        iterate 3 (refine Y_o M ?_)
        intro a K
        rcases Bool.eq_false_or_eq_true (decide ((r3.1.length : Int) = 3)) with hb | hb
        · have h := ctrue hb h
          have K := K.reb (s := 40) rfl hb
          refine X_o K M ?_; clear K
          obtain ⟨e, h_e, h⟩ := obind h
          refine Y_r (fun _ K => rd_ix rfl sl43 K rfl rfl (inR (C := cS) 4 rfl rfl) h_e) M ?_
          refine Y_r (fun _ K => rd_elC rfl sc9 K rfl rfl (inR (C := cS) 4 rfl rfl) h_e rfl) M ?_
          refine Y_r (fun _ K => rd_eqlS rfl K rfl rfl) M ?_
          iterate 2 (refine Y_o M ?_)
          intro a K
          rcases Bool.eq_false_or_eq_true (decide (e = ([48] : List UInt8))) with hb | hb
          · have h := ctrue hb h
            have K := K.reb (s := 46) rfl hb
            refine X_o K M ?_; clear K
            obtain ⟨e2, h_e2, h⟩ := obind h
            refine Y_r (fun _ K => rd_ix rfl sl43 K rfl rfl (inR (C := cS) 4 rfl rfl) h_e2) M ?_
            refine Y_r (fun _ K => rd_elC rfl sc9 K rfl rfl (inR (C := cS) 4 rfl rfl) h_e2 rfl) M ?_
            refine Y_r (fun _ K => rd_eqlS rfl K rfl rfl) M ?_
            iterate 2 (refine Y_o M ?_)
            intro a K
            rcases Bool.eq_false_or_eq_true (decide (e2 = ([49, 48] : List UInt8))) with hb | hb
            · have h := ctrue hb h
              have K := K.reb (s := 52) rfl hb
              refine X_o K M ?_; clear K
              obtain ⟨e3, h_e3, h⟩ := obind h
              refine Y_r (fun _ K => rd_ix rfl sl43 K rfl rfl (inR (C := cS) 4 rfl rfl) h_e3) M ?_
              refine Y_r (fun _ K => rd_elC rfl sc9 K rfl rfl (inR (C := cS) 4 rfl rfl) h_e3 rfl) M ?_
              refine Y_r (fun _ K => rd_eqlS rfl K rfl rfl) M ?_
              iterate 2 (refine Y_o M ?_)
              intro a K
              rcases Bool.eq_false_or_eq_true (decide (e3 = ([49, 49] : List UInt8))) with hb | hb
              · have h := ctrue hb h
                have K := K.reb (s := 58) rfl hb
                refine X_o K M ?_; clear K
                refine Y_r (fun _ K => rd_eqlS rfl K rfl rfl) M ?_
                iterate 2 (refine Y_o M ?_)
                intro a K
                rcases Bool.eq_false_or_eq_true (decide (r5.1 = ([49, 49, 48, 49, 48] : List UInt8))) with hb | hb
                · have h := ctrue hb h
                  have K := K.reb (s := 62) rfl hb
                  refine X_o K M ?_; clear K; intro a K
                  refine X_a K (ac_bslice rfl sl35 z3 K (vs := [(0, I 2), (1, I 0)]) (cs := [I 2, I 0]) rfl (by kernel_rfl) rfl rfl M) ?_
                  have M0 := M; clear K M; rintro _ a w ⟨gs2, rfl, M⟩ K
                  replace M := M.asRow 0 rfl (cI .i64) ([2, 0] : List Int) (n := 2) rfl rfl rfl
                  clear M0
                  obtain ⟨r8, h_r8, h⟩ := obind h
                  refine X_a K (ac_call (vs := [.slice A5 r7.1.length c5, .slice (some ⟨gs2, 0, none⟩) ([2, 0] : List Int).length 2]) (cap := []) rfl fok23 K rfl rfl (W_darkslideref_SameInts N r7.1 A5 c5 ([2, 0] : List Int) (some ⟨gs2, 0, none⟩) 2 _ ((inR (C := (cI .i64)) 1 rfl rfl) _ M) (M.cap 1 rfl) ((inR (C := (cI .i64)) 0 rfl rfl) _ M) (M.cap 0 rfl) r8 h_r8)) ?_
                  have M0 := M; clear K M; rintro _ a w ⟨rfl, M⟩ K
                  replace M := M0.call M; clear M0
                  refine X_o K M ?_; clear K
                  refine Y_o M ?_; intro a K
                  rcases Bool.eq_false_or_eq_true (r8) with hb | hb
                  · have h := ctrue hb h
                    have K := K.reb (s := 67) rfl hb
                    refine X_o K M ?_; clear K
                    refine Y_r (fun _ K => rd_eqlS rfl K rfl rfl) M ?_
                    iterate 2 (refine Y_o M ?_)
                    intro a K
                    rcases Bool.eq_false_or_eq_true (decide (r7.2.1 = ([49, 48] : List UInt8))) with hb | hb
                    · have h := ctrue hb h
                      have K := K.reb (s := 71) rfl hb
                      refine X_a K (ac_bslice rfl sl35 z3 K (vs := [(0, I 1), (1, I 1), (2, I 1)]) (cs := [I 1, I 1, I 1]) rfl (by kernel_rfl) rfl rfl M) ?_
                      have M0 := M; clear K M; rintro _ a w ⟨gs3, rfl, M⟩ K
                      replace M := M.asRow 0 rfl (cI .i64) ([1, 1, 1] : List Int) (n := 3) rfl rfl rfl
                      clear M0
                      obtain ⟨r9, h_r9, h⟩ := obind h
                      refine X_a K (ac_call (vs := [.slice (some ⟨gs3, 0, none⟩) ([1, 1, 1] : List Int).length 3]) (cap := []) rfl fok28 K rfl rfl (W_code_Check N ([1, 1, 1] : List Int) (some ⟨gs3, 0, none⟩) 3 _ ((inR (C := (cI .i64)) 0 rfl rfl) _ M) (M.cap 0 rfl) r9 h_r9)) ?_
                      have M0 := M; clear K M; rintro _ a w ⟨rfl, M⟩ K
                      replace M := M0.call M; clear M0
                      refine X_o K M ?_; clear K
                      iterate 2 (refine Y_o M ?_)
                      intro a K
                      refine wpList_nil (then_n (wp_ret ?_))
                      cases h
                      exact ret1 K rfl (res_tmp K rfl) ⟨_, rfl, rfl, ((M).pick [] (by decide))⟩
                    have h := cfalse hb h
                    have K := K.reb (s := 71) rfl hb
                    refine X_o K M ?_; clear K
                    iterate 4 (refine Y_o M ?_)
                    intro a K
                    refine wpList_nil (then_n (wp_ret ?_))
                    cases h
                    exact ret1 K rfl (res_tmp K rfl) ⟨_, rfl, rfl, ((M).pick [] (by decide))⟩
                  have h := cfalse hb h
                  have K := K.reb (s := 67) rfl hb
                  refine X_o K M ?_; clear K
                  iterate 8 (refine Y_o M ?_)
                  intro a K
                  refine wpList_nil (then_n (wp_ret ?_))
                  cases h
                  exact ret1 K rfl (res_tmp K rfl) ⟨_, rfl, rfl, ((M).pick [] (by decide))⟩
                have h := cfalse hb h
                have K := K.reb (s := 62) rfl hb
                refine X_o K M ?_; clear K
                iterate 13 (refine Y_o M ?_)
                intro a K
                refine wpList_nil (then_n (wp_ret ?_))
                cases h
                exact ret1 K rfl (res_tmp K rfl) ⟨_, rfl, rfl, ((M).pick [] (by decide))⟩
              have h := cfalse hb h
              have K := K.reb (s := 58) rfl hb
              refine X_o K M ?_; clear K
              iterate 17 (refine Y_o M ?_)
              intro a K
              refine wpList_nil (then_n (wp_ret ?_))
              cases h
              exact ret1 K rfl (res_tmp K rfl) ⟨_, rfl, rfl, ((M).pick [] (by decide))⟩
            have h := cfalse hb h
            have K := K.reb (s := 52) rfl hb
            refine X_o K M ?_; clear K
            iterate 23 (refine Y_o M ?_)
            intro a K
            refine wpList_nil (then_n (wp_ret ?_))
            cases h
            exact ret1 K rfl (res_tmp K rfl) ⟨_, rfl, rfl, ((M).pick [] (by decide))⟩
          have h := cfalse hb h
          have K := K.reb (s := 46) rfl hb
          refine X_o K M ?_; clear K
          iterate 29 (refine Y_o M ?_)
          intro a K
          refine wpList_nil (then_n (wp_ret ?_))
          cases h
          exact ret1 K rfl (res_tmp K rfl) ⟨_, rfl, rfl, ((M).pick [] (by decide))⟩
        have h := cfalse hb h
        have K := K.reb (s := 40) rfl hb
        refine X_o K M ?_; clear K
        iterate 35 (refine Y_o M ?_)
        intro a K
        refine wpList_nil (then_n (wp_ret ?_))
        cases h
        exact ret1 K rfl (res_tmp K rfl) ⟨_, rfl, rfl, ((M).pick [] (by decide))⟩
      have h := cfalse hb h
      have K := K.reb (s := 35) rfl hb
      refine X_o K M ?_; clear K
      iterate 40 (refine Y_o M ?_)
      intro a K
      refine wpList_nil (then_n (wp_ret ?_))
      cases h
      exact ret1 K rfl (res_tmp K rfl) ⟨_, rfl, rfl, ((M).pick [] (by decide))⟩
    have h := cfalse hb h
    have K := K.reb (s := 31) rfl hb
    refine X_o K M ?_; clear K
    iterate 44 (refine Y_o M ?_)
    intro a K
    refine wpList_nil (then_n (wp_ret ?_))
    cases h
    exact ret1 K rfl (res_tmp K rfl) ⟨_, rfl, rfl, ((M).pick [] (by decide))⟩
  have h := cfalse hb h
  have K := K.reb (s := 27) rfl hb
  refine X_o K M ?_; clear K
  iterate 48 (refine Y_o M ?_)
  intro a K
  refine wpList_nil (then_n (wp_ret ?_))
  cases h
  exact ret1 K rfl (res_tmp K rfl) ⟨_, rfl, rfl, ((M).pick [] (by decide))⟩
end Go.Proofs.YtpmnfhifmmfglabDoor

namespace Go.Proofs.YtpmnfhifmmfglabDoor
open Go.RowKit
set_option maxRecDepth 100000 in
set_option maxHeartbeats 4000000 in
theorem W_darkslidelaw_sameTexts (N : Nat) (a2 : List (List UInt8)) (A_a2 : Option Addr) (c_a2 : Nat) (b : List (List UInt8)) (A_b : Option Addr) (c_b : Nat) (w0 : World) (R_a2 : SL w0 cS A_a2 a2) (C_a2 : a2.length ≤ c_a2) (R_b : SL w0 cS A_b b) (C_b : b.length ≤ c_b) (r : Bool) (h : D_darkslidelaw_sameTexts N a2 b = some r) :
    Calls Tryd.prog 29 #[.slice A_a2 a2.length c_a2, .slice A_b b.length c_b] w0 fun e w' => ∃ v, e = .returned v ∧ v = .bool r ∧ Mem w0.heap.size w0 w' [] := by
  refine X_enter Tryd.func29 rfl Tryd.ntmps29 rfl ?_
  intro a K
  have M := Mem.start w0
  have K : Kn a 26 [(0, .slice A_a2 a2.length c_a2), (1, .slice A_b b.length c_b)] := K
  unfold D_darkslidelaw_sameTexts at h
  refine wp_seq (X_reg ?_)
  refine X_o K M ?_; clear K; intro a K
  refine wpList_nil (then_n (wp_seq (wp_seq (X_reg ?_))))
  refine X_o K M ?_; clear K
  refine Y_r (fun _ K => rd_len rfl un43 K rfl) M ?_
  refine Y_o M ?_
  refine Y_r (fun _ K => rd_len rfl un43 K rfl) M ?_
  refine Y_o M ?_; intro a K
  refine wpList_nil (then_n ?_)
  refine X_cond K rfl (fun hb => ?_) (fun hb => ?_)
  · have h := ctrue hb h
    refine wp_seq (X_reg ?_)
    refine X_o K M ?_; clear K; intro a K
    refine wpList_nil (then_n (wp_ret (then_r ?_)))
    cases h
    exact ret1 K rfl (res_tmp K rfl) ⟨_, rfl, rfl, ((M).pick [] (by decide))⟩
  have h := cfalse hb h
  refine wp_skip (then_n (wp_seq (wp_seq (X_reg ?_))))
  refine X_o K M ?_; clear K; intro a K
  refine wpList_nil (then_n (wp_block ?_))
  refine X_lp (id := 0) (Rel := fun (i : Int) a w => Kn a 26 [(0, .slice A_a2 a2.length c_a2), (1, .slice A_b b.length c_b), (5, I i)] ∧ Mem w0.heap.size w0 w []) h (fun _ _ => rfl) ⟨K.pick [0,1,5], M.pick [] (by decide)⟩ ?_ ?_
  · clear K M h
    rintro i4 a w ⟨K, M⟩ h
    try dsimp only at h
    refine inb_e ?_
    refine then_n (wp_seq (X_reg ?_))
    refine X_o K M ?_; clear K; intro a K
    refine wpList_nil (then_n (wp_ret ?_))
    cases h
    exact ret1 K rfl (res_tmp K rfl) ⟨_, rfl, rfl, ((M).pick [] (by decide))⟩
  clear K M h
  rintro kk fuel i a w hk1 ⟨K, M⟩ h
  unfold D_darkslidelaw_sameTexts_l1 at h
  refine wp_seq (wp_seq (X_reg ?_))
  refine X_o K M ?_; clear K
  refine Y_o M ?_
  refine Y_r (fun _ K => rd_len rfl un43 K rfl) M ?_
  refine Y_o M ?_; intro a K
  refine wpList_nil (then_n ?_)
  refine X_cond K rfl (fun hb => ?_) (fun hb => ?_)
  · have h := ctrue hb h
    refine wp_skip (then_n (wp_seq (wp_block (wp_seq ?_))))
    refine wp_region_tl (fun w => Mem _ _ w _) [0,0,0,0,0,0,0,0,0] (by kernel_rfl) (by kernel_rfl) M.drew ?_
    replace M := M.drew
    refine T_o K ?_; clear K
    refine U_o ?_
    obtain ⟨e3, h_e3, h⟩ := obind h
    refine U_r (fun _ K => rd_ixP rfl sl43 K rfl rfl ((inA R_a2) _ M) h_e3) ?_
    refine U_r (fun _ K => rd_elC rfl sc9 K rfl rfl (inA R_a2) h_e3 rfl) ?_
    iterate 2 (refine U_o ?_)
    obtain ⟨e4, h_e4, h⟩ := obind h
    refine U_r (fun _ K => rd_ixP rfl sl43 K rfl rfl ((inA R_b) _ M) h_e4) ?_
    refine U_r (fun _ K => rd_elC rfl sc9 K rfl rfl (inA R_b) h_e4 rfl) ?_
    refine U_r (fun _ K => rd_neqS rfl K rfl rfl) ?_; intro a K
    refine T_end ?_
    refine then_n ?_
    refine X_cond K rfl (fun hb => ?_) (fun hb => ?_)
    · have h := ctrue hb h
      refine wp_seq (X_reg ?_)
      refine X_o K M ?_; clear K; intro a K
      refine wpList_nil (then_n (wp_ret (inb_r (then_r (then_r (inb_r (then_r ?_)))))))
      cases h
      exact ret1 K rfl (res_tmp K rfl) ⟨_, rfl, rfl, ((M).pick [] (by decide))⟩
    have h := cfalse hb h
    refine wp_skip (inb_n (then_n (X_reg ?_)))
    refine X_o K M ?_; clear K
    refine Y_o M ?_
    obtain ⟨i3, hx, h⟩ := olet h
    refine Y_r (fun _ K => rdi hx (rd_assign rfl K rfl)) M ?_; intro a K
    refine wpList_nil ?_
    exact then_n ⟨i3, ⟨K.pick [0,1,5], M.pick [] (by decide)⟩, h⟩
  have h := cfalse hb h
  refine wp_exit ?_
  refine then_e ?_
  exact then_e (hk1 i _ _ ⟨K.pick [0,1,5], M.pick [] (by decide)⟩ h)
end Go.Proofs.YtpmnfhifmmfglabDoor

namespace Go.Proofs.YtpmnfhifmmfglabDoor
open Go.RowKit
set_option maxRecDepth 100000 in
set_option maxHeartbeats 4000000 in
theorem W_darkslideref_within (N : Nat) (n : Int) (low : Int) (high : Int) (w0 : World)  (r : Bool) (h : D_darkslideref_within N n low high = some r) :
    Calls Tryd.prog 32 #[I n, I low, I high] w0 fun e w' => ∃ v, e = .returned v ∧ v = .bool r ∧ Mem w0.heap.size w0 w' [] := by
  refine X_enter Tryd.func32 rfl Tryd.ntmps32 rfl ?_
  intro a K
  have M := Mem.start w0
  have K : Kn a 15 [(0, I n), (1, I low), (2, I high)] := K
  unfold D_darkslideref_within at h
  refine wp_seq (X_reg ?_)
  refine X_o K M ?_; clear K; intro a K
  refine wpList_nil (then_n (wp_seq (X_reg ?_)))
  refine X_o K M ?_; clear K
  iterate 3 (refine Y_o M ?_)
  intro a K
  rcases Bool.eq_false_or_eq_true (decide (low ≤ n)) with hb | hb
  · have h := ctrue hb h
    have K := K.reb (s := 10) rfl hb
    refine X_o K M ?_; clear K
    iterate 4 (refine Y_o M ?_)
    intro a K
    refine wpList_nil (then_n (wp_ret ?_))
    cases h
    exact ret1 K rfl (res_tmp K rfl) ⟨_, rfl, rfl, ((M).pick [] (by decide))⟩
  have h := cfalse hb h
  have K := K.reb (s := 10) rfl hb
  refine X_o K M ?_; clear K
  iterate 4 (refine Y_o M ?_)
  intro a K
  refine wpList_nil (then_n (wp_ret ?_))
  cases h
  exact ret1 K rfl (res_tmp K rfl) ⟨_, rfl, rfl, ((M).pick [] (by decide))⟩
end Go.Proofs.YtpmnfhifmmfglabDoor

namespace Go.Proofs.YtpmnfhifmmfglabDoor
open Go.RowKit
set_option maxRecDepth 100000 in
set_option maxHeartbeats 4000000 in
theorem W_darkslideref_CheckCode (N : Nat) (lens : List Int) (A_lens : Option Addr) (c_lens : Nat) (w0 : World) (R_lens : SL w0 (cI .i64) A_lens lens) (C_lens : lens.length ≤ c_lens) (r : Int) (h : D_darkslideref_CheckCode N lens = some r) :
    Calls Tryd.prog 25 #[.slice A_lens lens.length c_lens] w0 fun e w' => ∃ v, e = .returned v ∧ v = I r ∧ Mem w0.heap.size w0 w' [] := by
  refine X_enter Tryd.func25 rfl Tryd.ntmps25 rfl ?_
  intro a K
  have M := Mem.start w0
  have K : Kn a 41 [(0, .slice A_lens lens.length c_lens)] := K
  unfold D_darkslideref_CheckCode at h
  refine wp_seq (X_reg ?_)
  refine X_o K M ?_; clear K; intro a K
  refine wpList_nil (then_n (wp_seq (wp_seq (X_reg ?_))))
  refine X_o K M ?_; clear K
  refine Y_r (fun _ K => rd_len rfl un35 K rfl) M ?_; intro a K
  obtain ⟨r2, h_r2, h⟩ := obind h
  refine X_a K (ac_call (vs := [I (lens.length : Int), I 1, I 17]) (cap := []) rfl fok32 K rfl rfl (W_darkslideref_within N (lens.length : Int) 1 17 _  r2 h_r2)) ?_
  have M0 := M; clear K M; rintro _ a w ⟨rfl, M⟩ K
  replace M := M0.call M; clear M0
  refine X_o K M ?_; clear K; intro a K
  refine wpList_nil (then_n ?_)
  refine X_cond K rfl (fun hb => ?_) (fun hb => ?_)
  · have h := ctrue hb h
    refine wp_seq (X_reg ?_)
    refine X_o K M ?_; clear K; intro a K
    refine wpList_nil (then_n (wp_ret (then_r ?_)))
    cases h
    exact ret1 K rfl (res_tmp K rfl) ⟨_, rfl, rfl, ((M).pick [] (by decide))⟩
  have h := cfalse hb h
  refine wp_skip (then_n (wp_seq (X_reg ?_)))
  refine X_o K M ?_; clear K
  refine Y_o M ?_; intro a K
  refine wpList_nil (then_n (wp_seq (wp_seq (X_reg ?_))))
  refine X_o K M ?_; clear K; intro a K
  refine wpList_nil (then_n (wp_block ?_))
  refine X_lp (id := 0) (Rel := fun (⟨sum, used, i⟩ : Int × Bool × Int) a w => Kn a 41 [(0, .slice A_lens lens.length c_lens), (3, I sum), (4, .bool used), (5, I i)] ∧ Mem w0.heap.size w0 w []) h (fun _ _ => rfl) ⟨K.pick [0,3,4,5], M.pick [] (by decide)⟩ ?_ ?_
  · clear K M h
    rintro ⟨sum4, used2, i6⟩ a w ⟨K, M⟩ h
    try dsimp only at h
    refine inb_e ?_
    refine then_n (wp_seq (wp_seq (X_reg ?_)))
    refine X_o K M ?_; clear K
    iterate 2 (refine Y_o M ?_)
    intro a K
    rcases Bool.eq_false_or_eq_true (!(used2)) with hb | hb
    · have h := ctrue hb h
      have K := K.reb (s := 37) rfl hb
      refine X_o K M ?_; clear K
      iterate 2 (refine Y_o M ?_)
      intro a K
      refine wpList_nil (then_n ?_)
      refine X_condT K rfl ?_
      refine wp_seq (X_reg ?_)
      refine X_o K M ?_; clear K; intro a K
      refine wpList_nil (then_n (wp_ret (then_r ?_)))
      cases h
      exact ret1 K rfl (res_tmp K rfl) ⟨_, rfl, rfl, ((M).pick [] (by decide))⟩
    have h := cfalse hb h
    have K := K.reb (s := 37) rfl hb
    refine X_o K M ?_; clear K
    iterate 2 (refine Y_o M ?_)
    intro a K
    refine wpList_nil (then_n ?_)
    refine X_cond K rfl (fun hb => ?_) (fun hb => ?_)
    · have h := ctrue hb h
      refine wp_seq (X_reg ?_)
      refine X_o K M ?_; clear K; intro a K
      refine wpList_nil (then_n (wp_ret (then_r ?_)))
      cases h
      exact ret1 K rfl (res_tmp K rfl) ⟨_, rfl, rfl, ((M).pick [] (by decide))⟩
    have h := cfalse hb h
    refine wp_skip (then_n (wp_seq (X_reg ?_)))
    refine X_o K M ?_; clear K; intro a K
    refine wpList_nil (then_n (wp_ret ?_))
    cases h
    exact ret1 K rfl (res_tmp K rfl) ⟨_, rfl, rfl, ((M).pick [] (by decide))⟩
  clear K M h
  rintro kk fuel ⟨sum, used, i⟩ a w hk1 ⟨K, M⟩ h
  unfold D_darkslideref_CheckCode_l1 at h
  refine wp_seq (wp_seq (X_reg ?_))
  refine X_o K M ?_; clear K
  refine Y_o M ?_
  refine Y_r (fun _ K => rd_len rfl un35 K rfl) M ?_
  refine Y_o M ?_; intro a K
  refine wpList_nil (then_n ?_)
  refine X_cond K rfl (fun hb => ?_) (fun hb => ?_)
  · have h := ctrue hb h
    refine wp_skip (then_n (wp_seq (wp_block (wp_seq (wp_seq (X_reg ?_))))))
    refine X_o K M ?_; clear K
    refine Y_o M ?_
    obtain ⟨e4, h_e4, h⟩ := obind h
    refine Y_r (fun _ K => rd_ix rfl sl35 K rfl rfl (inA R_lens) h_e4) M ?_
    refine Y_r (fun _ K => rd_elC rfl sc3 K rfl rfl (inA R_lens) h_e4 rfl) M ?_; intro a K
    obtain ⟨r4, h_r4, h⟩ := obind h
    refine X_a K (ac_call (vs := [I e4, I 0, I 15]) (cap := []) rfl fok32 K rfl rfl (W_darkslideref_within N e4 0 15 _  r4 h_r4)) ?_
    have M0 := M; clear K M; rintro _ a w ⟨rfl, M⟩ K
    replace M := M0.call M; clear M0
    refine X_o K M ?_; clear K; intro a K
    refine wpList_nil (then_n ?_)
    refine X_cond K rfl (fun hb => ?_) (fun hb => ?_)
    · have h := ctrue hb h
      refine wp_seq (X_reg ?_)
      refine X_o K M ?_; clear K; intro a K
      refine wpList_nil (then_n (wp_ret (then_r (inb_r (then_r (then_r (inb_r (then_r ?_))))))))
      cases h
      exact ret1 K rfl (res_tmp K rfl) ⟨_, rfl, rfl, ((M).pick [] (by decide))⟩
    have h := cfalse hb h
    refine wp_skip (then_n (wp_seq (X_reg ?_)))
    refine X_o K M ?_; clear K
    refine Y_o M ?_
    obtain ⟨e5, h_e5, h⟩ := obind h
    refine Y_r (fun _ K => rd_ix rfl sl35 K rfl rfl (inA R_lens) h_e5) M ?_
    refine Y_r (fun _ K => rd_elC rfl sc3 K rfl rfl (inA R_lens) h_e5 rfl) M ?_
    refine Y_o M ?_; intro a K
    refine wpList_nil (then_n ?_)
    refine X_cond K rfl (fun hb => ?_) (fun hb => ?_)
    · have h := ctrue hb h
      refine wp_seq (X_reg ?_)
      refine X_o K M ?_; clear K; intro a K
      refine wpList_nil (then_n (X_reg ?_))
      refine X_o K M ?_; clear K
      iterate 2 (refine Y_o M ?_)
      obtain ⟨e6, h_e6, h⟩ := obind h
      refine Y_r (fun _ K => rd_ix rfl sl35 K rfl rfl (inA R_lens) h_e6) M ?_
      refine Y_r (fun _ K => rd_elC rfl sc3 K rfl rfl (inA R_lens) h_e6 rfl) M ?_
      refine Y_o M ?_; intro a K
      obtain ⟨_, h0, h⟩ := obind h
      have h0 := nn_spec h0
      refine X_r K (rd_shl rfl K rfl rfl h0) M ?_; clear K
      refine Y_o M ?_
      obtain ⟨sum3, hx, h⟩ := olet h
      refine Y_r (fun _ K => rdi hx (rd_assign rfl K rfl)) M ?_; intro a K
      refine wpList_nil (inb_n (then_n (X_reg ?_)))
      refine X_o K M ?_; clear K
      refine Y_o M ?_
      obtain ⟨i4, hx, h⟩ := olet h
      refine Y_r (fun _ K => rdi hx (rd_assign rfl K rfl)) M ?_; intro a K
      refine wpList_nil ?_
      exact then_n ⟨(sum3, true, i4), ⟨K.pick [0,3,4,5], M.pick [] (by decide)⟩, h⟩
    have h := cfalse hb h
    refine wp_skip (inb_n (then_n (X_reg ?_)))
    refine X_o K M ?_; clear K
    refine Y_o M ?_
    obtain ⟨i5, hx, h⟩ := olet h
    refine Y_r (fun _ K => rdi hx (rd_assign rfl K rfl)) M ?_; intro a K
    refine wpList_nil ?_
    exact then_n ⟨(sum, used, i5), ⟨K.pick [0,3,4,5], M.pick [] (by decide)⟩, h⟩
  have h := cfalse hb h
  refine wp_exit ?_
  refine then_e ?_
  exact then_e (hk1 (sum, used, i) _ _ ⟨K.pick [0,3,4,5], M.pick [] (by decide)⟩ h)
end Go.Proofs.YtpmnfhifmmfglabDoor

namespace Go.Proofs.YtpmnfhifmmfglabDoor
open Go.RowKit
set_option maxRecDepth 100000 in
set_option maxHeartbeats 4000000 in
theorem W_darkslideref_Number_r (N : Nat) : ∀ (fu : Nat) (n : Int) (size : Int) (w0 : World)  (r : List UInt8) (h : D_darkslideref_Number_r N fu n size = some r),
    Calls Tryd.prog 14 #[I n, I size] w0 fun e w' => ∃ v, e = .returned v ∧ v = .string (bs r) ∧ Mem w0.heap.size w0 w' [] := by
  intro fu
  induction fu with
  | zero => intros; rename_i h; unfold D_darkslideref_Number_r at h; cases h
  | succ fu ih =>
    intro n size w0 r h
    refine X_enter Tryd.func14 rfl Tryd.ntmps14 rfl ?_
    intro a K
    have M := Mem.start w0
    have K : Kn a 19 [(0, I n), (1, I size)] := K
    unfold D_darkslideref_Number_r at h
    refine wp_seq (X_reg ?_)
    refine X_o K M ?_; clear K; intro a K
    refine wpList_nil (then_n (wp_seq (wp_seq (X_reg ?_))))
    refine X_o K M ?_; clear K
    refine Y_o M ?_; intro a K
    refine wpList_nil (then_n ?_)
    refine X_cond K rfl (fun hb => ?_) (fun hb => ?_)
    · have h := ctrue hb h
      refine wp_seq (X_reg ?_)
      refine X_o K M ?_; clear K; intro a K
      refine wpList_nil (then_n (wp_ret (then_r ?_)))
      cases h
      exact ret1 K rfl (res_tmp K rfl) ⟨_, rfl, rfl, ((M).pick [] (by decide))⟩
    have h := cfalse hb h
    refine wp_skip (then_n (wp_seq ?_))
    refine wp_region_tr (fun w => Mem _ _ w _) [0,0,0,0,1,0,0,0,0,1,1,0,0] 13 [0,1,2,3,4,5,6,7,8,9,10,11,12] (by kernel_rfl) (by kernel_rfl) (by kernel_rfl) rfl M.drew ?_
    replace M := M.drew
    refine R_rd 0 [1,2,3,4,5,6,7,8,9,10,11,12] (by kernel_rfl) rfl K (want_no rfl) rfl rfl (rd_move rfl K rfl) ?_; clear K; intro a K
    refine R_rd 1 [2,3,4,5,6,7,8,9,10,11,12] (by kernel_rfl) rfl K (want_no rfl) rfl rfl (rd_quo rfl K rfl rfl (by decide)) ?_; clear K; intro a K
    refine R_rd 2 [3,4,5,6,7,8,9,10,11,12] (by kernel_rfl) rfl K (want_no rfl) rfl rfl (rd_move rfl K rfl) ?_; clear K; intro a K
    refine R_rd 3 [4,5,6,7,8,9,10,11,12] (by kernel_rfl) rfl K (want_no rfl) rfl rfl (rd_sub rfl K rfl rfl) ?_; clear K; intro a K
    refine R_rd 5 [4,6,7,8,9,10,11,12] (by kernel_rfl) rfl K (want_no rfl) rfl rfl (rd_move rfl K rfl) ?_; clear K; intro a K
    refine R_rd 6 [4,7,8,9,10,11,12] (by kernel_rfl) rfl K (want_no rfl) rfl rfl (rd_rem rfl K rfl rfl (by decide)) ?_; clear K; intro a K
    refine R_rd 7 [4,8,9,10,11,12] (by kernel_rfl) rfl K (want_no rfl) rfl rfl (rd_conv rfl rfl ik5 K rfl) ?_; clear K; intro a K
    refine R_rd 8 [4,9,10,11,12] (by kernel_rfl) rfl K (want_no rfl) rfl rfl (rd_add rfl K rfl rfl) ?_; clear K; intro a K
    refine R_br [4,9] (by kernel_rfl) ⟨?_, ?_, trivial⟩
    ·
      obtain ⟨r2, h_r2, h⟩ := obind h
      refine R_ac [9,10,11,12] (by kernel_rfl) rfl K (want_no rfl) rfl rfl (ac_call (vs := [I (IntKind.i64.wrap (Int.tdiv n 2)), I (IntKind.i64.wrap (size - 1))]) (cap := []) rfl fok14 K rfl rfl (ih (IntKind.i64.wrap (Int.tdiv n 2)) (IntKind.i64.wrap (size - 1)) _  r2 h_r2)) ?_
      have M0 := M; clear K M; rintro _ a w ⟨rfl, M⟩ K
      replace M := M0.call M; clear M0
      refine ⟨fun _ => M.pick [] (by decide), ?_⟩
      refine R_br [9] (by kernel_rfl) ⟨?_, trivial⟩
      refine R_ac [10,11,12] (by kernel_rfl) rfl K (want_no rfl) rfl rfl (ac_bslice rfl sl50 z5 K (vs := [(0, .int .u8 (IntKind.u8.wrap (48 + (IntKind.u8.wrap (Int.tmod n 2)))))]) (cs := [.int .u8 (IntKind.u8.wrap (48 + (IntKind.u8.wrap (Int.tmod n 2))))]) rfl (by kernel_rfl) rfl rfl M) ?_
      have M0 := M; clear K M; rintro _ a w ⟨gs, rfl, M⟩ K
      replace M := M.asRow 0 rfl (cI .u8) ([IntKind.u8.wrap (48 + (IntKind.u8.wrap (Int.tmod n 2)))] : List Int) (n := 1) rfl rfl rfl
      clear M0
      refine ⟨fun _ => M.pick [] (by decide), ?_⟩
      refine R_br [10] (by kernel_rfl) ⟨?_, trivial⟩
      refine R_ac [11,12] (by kernel_rfl) rfl K (want_no rfl) rfl rfl (ac_convBS rfl sl50 ik5 st9 K rfl M ((inR (C := (cI .u8)) 0 rfl rfl) _ M)) ?_
      clear K M; rintro _ a w ⟨rfl, M⟩ K
      refine ⟨fun _ => M.pick [] (by decide), ?_⟩
      obtain ⟨s, h_s, h⟩ := obind h
      refine R_rd 11 [12] (by kernel_rfl) rfl K (want_no rfl) rfl rfl (rd_addS rfl K rfl rfl h_s) ?_; clear K; intro a K
      refine R_rd 12 [] (by kernel_rfl) rfl K (want_no rfl) rfl rfl (rd_assign rfl K rfl) ?_; clear K; intro a K
      refine R_end ?_
      refine then_n (wp_ret ?_)
      cases h
      exact ret1 K rfl (res_tmp K rfl) ⟨_, rfl, rfl, ((M).pick [] (by decide))⟩
    ·
      refine R_ac [4,10,11,12] (by kernel_rfl) rfl K (want_no rfl) rfl rfl (ac_bslice rfl sl50 z5 K (vs := [(0, .int .u8 (IntKind.u8.wrap (48 + (IntKind.u8.wrap (Int.tmod n 2)))))]) (cs := [.int .u8 (IntKind.u8.wrap (48 + (IntKind.u8.wrap (Int.tmod n 2))))]) rfl (by kernel_rfl) rfl rfl M) ?_
      have M0 := M; clear K M; rintro _ a w ⟨gs2, rfl, M⟩ K
      replace M := M.asRow 0 rfl (cI .u8) ([IntKind.u8.wrap (48 + (IntKind.u8.wrap (Int.tmod n 2)))] : List Int) (n := 1) rfl rfl rfl
      clear M0
      refine ⟨fun _ => M.pick [] (by decide), ?_⟩
      refine R_br [4,10] (by kernel_rfl) ⟨?_, ?_, trivial⟩
      ·
        obtain ⟨r3, h_r3, h⟩ := obind h
        refine R_ac [10,11,12] (by kernel_rfl) rfl K (want_no rfl) rfl rfl (ac_call (vs := [I (IntKind.i64.wrap (Int.tdiv n 2)), I (IntKind.i64.wrap (size - 1))]) (cap := []) rfl fok14 K rfl rfl (ih (IntKind.i64.wrap (Int.tdiv n 2)) (IntKind.i64.wrap (size - 1)) _  r3 h_r3)) ?_
        have M0 := M; clear K M; rintro _ a w ⟨rfl, M⟩ K
        replace M := M0.call M; clear M0
        refine ⟨fun _ => M.pick [] (by decide), ?_⟩
        refine R_br [10] (by kernel_rfl) ⟨?_, trivial⟩
        refine R_ac [11,12] (by kernel_rfl) rfl K (want_no rfl) rfl rfl (ac_convBS rfl sl50 ik5 st9 K rfl M ((inR (C := (cI .u8)) 0 rfl rfl) _ M)) ?_
        clear K M; rintro _ a w ⟨rfl, M⟩ K
        refine ⟨fun _ => M.pick [] (by decide), ?_⟩
        obtain ⟨s2, h_s2, h⟩ := obind h
        refine R_rd 11 [12] (by kernel_rfl) rfl K (want_no rfl) rfl rfl (rd_addS rfl K rfl rfl h_s2) ?_; clear K; intro a K
        refine R_rd 12 [] (by kernel_rfl) rfl K (want_no rfl) rfl rfl (rd_assign rfl K rfl) ?_; clear K; intro a K
        refine R_end ?_
        refine then_n (wp_ret ?_)
        cases h
        exact ret1 K rfl (res_tmp K rfl) ⟨_, rfl, rfl, ((M).pick [] (by decide))⟩
      ·
        refine R_ac [4,11,12] (by kernel_rfl) rfl K (want_no rfl) rfl rfl (ac_convBS rfl sl50 ik5 st9 K rfl M ((inR (C := (cI .u8)) 0 rfl rfl) _ M)) ?_
        clear K M; rintro _ a w ⟨rfl, M⟩ K
        refine ⟨fun _ => M.pick [] (by decide), ?_⟩
        refine R_br [4] (by kernel_rfl) ⟨?_, trivial⟩
        obtain ⟨r4, h_r4, h⟩ := obind h
        refine R_ac [11,12] (by kernel_rfl) rfl K (want_no rfl) rfl rfl (ac_call (vs := [I (IntKind.i64.wrap (Int.tdiv n 2)), I (IntKind.i64.wrap (size - 1))]) (cap := []) rfl fok14 K rfl rfl (ih (IntKind.i64.wrap (Int.tdiv n 2)) (IntKind.i64.wrap (size - 1)) _  r4 h_r4)) ?_
        have M0 := M; clear K M; rintro _ a w ⟨rfl, M⟩ K
        replace M := M0.call M; clear M0
        refine ⟨fun _ => M.pick [] (by decide), ?_⟩
        obtain ⟨s3, h_s3, h⟩ := obind h
        refine R_rd 11 [12] (by kernel_rfl) rfl K (want_no rfl) rfl rfl (rd_addS rfl K rfl rfl h_s3) ?_; clear K; intro a K
        refine R_rd 12 [] (by kernel_rfl) rfl K (want_no rfl) rfl rfl (rd_assign rfl K rfl) ?_; clear K; intro a K
        refine R_end ?_
        refine then_n (wp_ret ?_)
        cases h
        exact ret1 K rfl (res_tmp K rfl) ⟨_, rfl, rfl, ((M).pick [] (by decide))⟩
theorem W_darkslideref_Number (N : Nat) (n : Int) (size : Int) (w0 : World)  (r : List UInt8) (h : D_darkslideref_Number N n size = some r) :
    Calls Tryd.prog 14 #[I n, I size] w0 fun e w' => ∃ v, e = .returned v ∧ v = .string (bs r) ∧ Mem w0.heap.size w0 w' [] := W_darkslideref_Number_r N N n size w0 r h
end Go.Proofs.YtpmnfhifmmfglabDoor

namespace Go.Proofs.YtpmnfhifmmfglabDoor
open Go.RowKit
set_option maxRecDepth 100000 in
set_option maxHeartbeats 4000000 in
theorem W_darkslideref_WordsOf (N : Nat) (lens : List Int) (A_lens : Option Addr) (c_lens : Nat) (w0 : World) (R_lens : SL w0 (cI .i64) A_lens lens) (C_lens : lens.length ≤ c_lens) (r : List (List UInt8)) (h : D_darkslideref_WordsOf N lens = some r) :
    Calls Tryd.prog 26 #[.slice A_lens lens.length c_lens] w0 fun e w' => ∃ v, e = .returned v ∧ ∃ A0 c0, v = .slice A0 r.length c0 ∧ Mem w0.heap.size w0 w' [.row 9 1 A0 r.length c0 (cS.all r)] := by
  refine X_enter Tryd.func26 rfl Tryd.ntmps26 rfl ?_
  intro a K
  have M := Mem.start w0
  have K : Kn a 42 [(0, .slice A_lens lens.length c_lens)] := K
  unfold D_darkslideref_WordsOf at h
  refine wp_seq (X_reg ?_)
  refine X_o K M ?_; clear K; intro a K
  refine wpList_nil (then_n (wp_seq (X_reg ?_)))
  refine X_o K M ?_; clear K
  obtain ⟨x2, hx, h⟩ := olet h
  refine Y_r (fun _ K => rdi hx (rd_len rfl un35 K rfl)) M ?_; intro a K
  obtain ⟨l2, h_l2, h⟩ := obind h
  refine X_a K (ac_make (C := cS) (z := ([] : List UInt8)) rfl sl43 rfl z9 rfl K rfl rfl M h_l2) ?_
  clear K M; rintro _ a w ⟨A, c, rfl, M⟩ K
  refine X_o K M ?_; clear K; intro a K
  refine wpList_nil (then_n (wp_seq (X_reg ?_)))
  refine X_o K M ?_; clear K
  refine Y_o M ?_; intro a K
  refine wpList_nil (then_n (wp_seq (wp_seq (X_reg ?_))))
  refine X_o K M ?_; clear K; intro a K
  refine wpList_nil (then_n (wp_block ?_))
  refine X_lp (id := 0) (Rel := fun (⟨l3, next, last, size⟩ : List (List UInt8) × Int × Int × Int) a w => Kn a 42 [(0, .slice A_lens lens.length c_lens), (3, .slice A l3.length c), (4, I next), (5, I last), (6, I size)] ∧ Mem w0.heap.size w0 w [.row 9 1 A l3.length c (cS.all l3)]) h (fun _ _ => rfl) ⟨K.pick [0,3,4,5,6], M.pick [0] (by decide)⟩ ?_ ?_
  · clear K M h
    rintro ⟨l10, next11, last5, size4⟩ a w ⟨K, M⟩ h
    try dsimp only at h
    refine inb_e ?_
    refine then_n (wp_seq (X_reg ?_))
    refine X_o K M ?_; clear K
    refine Y_o M ?_; intro a K
    refine wpList_nil (then_n (wp_ret ?_))
    cases h
    exact ret1 K rfl (res_tmp K rfl) ⟨_, rfl, _, _, rfl, ((M).pick [0] (by decide))⟩
  clear K M h
  rintro kk fuel ⟨l3, next, last, size⟩ a w hk1 ⟨K, M⟩ h
  unfold D_darkslideref_WordsOf_l1 at h
  refine wp_seq (wp_seq (X_reg ?_))
  refine X_o K M ?_; clear K
  refine Y_o M ?_; intro a K
  refine wpList_nil (then_n ?_)
  refine X_cond K rfl (fun hb => ?_) (fun hb => ?_)
  · have h := ctrue hb h
    refine wp_skip (then_n (wp_seq (wp_block (wp_seq (X_reg ?_)))))
    refine X_o K M ?_; clear K; intro a K
    refine wpList_nil (then_n (wp_block ?_))
    refine X_lp (id := 2) (Rel := fun (⟨l6, next5, last3, i4⟩ : List (List UInt8) × Int × Int × Int) a w => Kn a 42 [(0, .slice A_lens lens.length c_lens), (3, .slice A l6.length c), (4, I next5), (5, I last3), (6, I size), (7, I i4)] ∧ Mem w0.heap.size w0 w [.row 9 1 A l6.length c (cS.all l6)]) h (fun _ _ => rfl) ⟨K.pick [0,3,4,5,6,7], M.pick [0] (by decide)⟩ ?_ ?_
    · clear K M h
      rintro ⟨l9, next10, last4, i9⟩ a w ⟨K, M⟩ h
      try dsimp only at h
      refine inb_e ?_
      refine inb_n (then_n (X_reg ?_))
      refine X_o K M ?_; clear K
      refine Y_o M ?_
      obtain ⟨size3, hx, h⟩ := olet h
      refine Y_r (fun _ K => rdi hx (rd_assign rfl K rfl)) M ?_; intro a K
      refine wpList_nil ?_
      exact then_n ⟨(l9, next10, last4, size3), ⟨K.pick [0,3,4,5,6], M.pick [0] (by decide)⟩, h⟩
    clear K M h
    rintro kk fuel ⟨l6, next5, last3, i4⟩ a w hk2 ⟨K, M⟩ h
    unfold D_darkslideref_WordsOf_l2 at h
    refine wp_seq (wp_seq (X_reg ?_))
    refine X_o K M ?_; clear K
    refine Y_o M ?_
    refine Y_r (fun _ K => rd_len rfl un35 K rfl) M ?_
    refine Y_o M ?_; intro a K
    refine wpList_nil (then_n ?_)
    refine X_cond K rfl (fun hb => ?_) (fun hb => ?_)
    · have h := ctrue hb h
      refine wp_skip (then_n (wp_seq (wp_block (wp_seq (wp_seq (X_reg ?_))))))
      refine X_o K M ?_; clear K
      refine Y_o M ?_
      obtain ⟨e5, h_e5, h⟩ := obind h
      refine Y_r (fun _ K => rd_ix rfl sl35 K rfl rfl (inA R_lens) h_e5) M ?_
      refine Y_r (fun _ K => rd_elC rfl sc3 K rfl rfl (inA R_lens) h_e5 rfl) M ?_
      iterate 2 (refine Y_o M ?_)
      intro a K
      refine wpList_nil (then_n ?_)
      refine X_cond K rfl (fun hb => ?_) (fun hb => ?_)
      · have h := ctrue hb h
        refine wp_exit ?_
        refine then_e ?_
        refine inb_e ?_
        refine then_n (X_reg ?_)
        refine X_o K M ?_; clear K
        refine Y_o M ?_
        obtain ⟨i7, hx, h⟩ := olet h
        refine Y_r (fun _ K => rdi hx (rd_assign rfl K rfl)) M ?_; intro a K
        refine wpList_nil ?_
        exact then_n ⟨(l6, next5, last3, i7), ⟨K.pick [0,3,4,5,6,7], M.pick [0] (by decide)⟩, h⟩
      have h := cfalse hb h
      refine wp_skip (then_n (wp_seq (X_reg ?_)))
      refine X_o K M ?_; clear K
      iterate 3 (refine Y_o M ?_)
      intro a K
      obtain ⟨_, h0, h⟩ := obind h
      have h0 := nn_spec h0
      refine X_r K (rd_shl rfl K rfl rfl h0) M ?_; clear K
      obtain ⟨next8, hx, h⟩ := olet h
      refine Y_r (fun _ K => rdi hx (rd_assign rfl K rfl)) M ?_; intro a K
      refine wpList_nil (then_n (wp_seq (X_reg ?_)))
      refine X_o K M ?_; clear K
      refine Y_o M ?_; intro a K
      refine wpList_nil (then_n (wp_seq (X_reg ?_)))
      refine X_o K M ?_; clear K
      iterate 3 (refine Y_o M ?_)
      intro a K
      obtain ⟨r4, h_r4, h⟩ := obind h
      refine X_a K (ac_call (vs := [I next8, I size]) (cap := []) rfl fok14 K rfl rfl (W_darkslideref_Number N next8 size _  r4 h_r4)) ?_
      have M0 := M; clear K M; rintro _ a w ⟨rfl, M⟩ K
      replace M := M0.call M; clear M0
      obtain ⟨e6, h_e6, h⟩ := obind h
      refine X_r K (rd_ix rfl sl43 K rfl rfl (inR (C := cS) 0 rfl rfl) h_e6) M ?_; clear K; intro a K
      obtain ⟨l8, h_l8, h⟩ := obind h
      refine X_b K (ac_rowset (el := r4) rfl sz9 rfl rfl K rfl rfl rfl 0 M rfl h_l8) ?_
      have M0 := M; clear K M; rintro _ a w M K
      have hl := setL_len h_l8
      try rw [hl] at M
      try rw [hl] at K
      clear hl
      clear M0
      refine wpList_nil (then_n (X_reg ?_))
      refine X_o K M ?_; clear K
      refine Y_o M ?_
      obtain ⟨next9, hx, h⟩ := olet h
      refine Y_r (fun _ K => rdi hx (rd_assign rfl K rfl)) M ?_; intro a K
      refine wpList_nil (inb_n (then_n (X_reg ?_)))
      refine X_o K M ?_; clear K
      refine Y_o M ?_
      obtain ⟨i8, hx, h⟩ := olet h
      refine Y_r (fun _ K => rdi hx (rd_assign rfl K rfl)) M ?_; intro a K
      refine wpList_nil ?_
      exact then_n ⟨(l8, next9, size, i8), ⟨K.pick [0,3,4,5,6,7], M.pick [0] (by decide)⟩, h⟩
    have h := cfalse hb h
    refine wp_exit ?_
    refine then_e ?_
    exact then_e (hk2 (l6, next5, last3, i4) _ _ ⟨K.pick [0,3,4,5,6,7], M.pick [0] (by decide)⟩ h)
  have h := cfalse hb h
  refine wp_exit ?_
  refine then_e ?_
  exact then_e (hk1 (l3, next, last, size) _ _ ⟨K.pick [0,3,4,5,6], M.pick [0] (by decide)⟩ h)
end Go.Proofs.YtpmnfhifmmfglabDoor

namespace Go.Proofs.YtpmnfhifmmfglabDoor
open Go.RowKit
set_option maxRecDepth 100000 in
set_option maxHeartbeats 4000000 in
theorem W_darkslidelaw_CodeWords (N : Nat) (l2 : List Int) (A_l2 : Option Addr) (c_l2 : Nat) (w0 : World) (R_l2 : SL w0 (cI .i64) A_l2 l2) (C_l2 : l2.length ≤ c_l2) (r : Bool) (h : D_darkslidelaw_CodeWords N l2 = some r) :
    Calls Tryd.prog 6 #[.slice A_l2 l2.length c_l2] w0 fun e w' => ∃ v, e = .returned v ∧ v = .bool r ∧ Mem w0.heap.size w0 w' [] := by
  refine X_enter Tryd.func6 rfl Tryd.ntmps6 rfl ?_
  intro a K
  have M := Mem.start w0
  have K : Kn a 35 [(0, .slice A_l2 l2.length c_l2)] := K
  unfold D_darkslidelaw_CodeWords at h
  refine wp_seq (X_reg ?_)
  refine X_o K M ?_; clear K; intro a K
  refine wpList_nil (then_n (wp_seq (X_reg ?_)))
  refine X_o K M ?_; clear K; intro a K
  obtain ⟨r2, h_r2, h⟩ := obind h
  refine X_a K (ac_call (vs := [.slice A_l2 l2.length c_l2]) (cap := []) rfl fok24 K rfl rfl (W_code_Words N l2 A_l2 c_l2 _ ((inA R_l2) _ M) C_l2 r2 h_r2)) ?_
  have M0 := M; clear K M; rintro _ a w ⟨A, c, rfl, M⟩ K
  replace M := M0.call M; clear M0
  refine X_o K M ?_; clear K
  iterate 4 (refine Y_o M ?_)
  intro a K
  refine wpList_nil (then_n (wp_seq (X_reg ?_)))
  refine X_o K M ?_; clear K; intro a K
  obtain ⟨r3, h_r3, h⟩ := obind h
  refine X_a K (ac_call (vs := [.slice A_l2 l2.length c_l2]) (cap := []) rfl fok25 K rfl rfl (W_darkslideref_CheckCode N l2 A_l2 c_l2 _ ((inA R_l2) _ M) C_l2 r3 h_r3)) ?_
  have M0 := M; clear K M; rintro _ a w ⟨rfl, M⟩ K
  replace M := M0.call M; clear M0
  refine X_o K M ?_; clear K; intro a K
  refine wpList_nil (then_n (wp_seq (X_reg ?_)))
  refine X_o K M ?_; clear K; intro a K
  refine wpList_nil (then_n (wp_seq (wp_seq (X_reg ?_))))
  refine X_o K M ?_; clear K
  refine Y_o M ?_; intro a K
  refine wpList_nil (then_n ?_)
  refine X_cond K rfl (fun hb => ?_) (fun hb => ?_)
  · have h := ctrue hb h
    refine X_reg ?_
    refine X_o K M ?_; clear K; intro a K
    obtain ⟨r4, h_r4, h⟩ := obind h
    refine X_a K (ac_call (vs := [.slice A_l2 l2.length c_l2]) (cap := []) rfl fok26 K rfl rfl (W_darkslideref_WordsOf N l2 A_l2 c_l2 _ ((inA R_l2) _ M) C_l2 r4 h_r4)) ?_
    have M0 := M; clear K M; rintro _ a w ⟨A2, c2, rfl, M⟩ K
    replace M := M0.call M; clear M0
    refine X_o K M ?_; clear K; intro a K
    refine wpList_nil (then_n (wp_seq (X_reg ?_)))
    obtain ⟨r5, h_r5, h⟩ := obind h
    refine X_a K (ac_call (vs := []) (cap := []) rfl fok27 K rfl rfl (W_darkslidelaw_codeBegun N  _  r5 h_r5)) ?_
    have M0 := M; clear K M; rintro _ a w ⟨rfl, M⟩ K
    replace M := M0.call M; clear M0
    refine X_o K M ?_; clear K; intro a K
    rcases Bool.eq_false_or_eq_true (r5) with hb | hb
    · have h := ctrue hb h
      have K := K.reb (s := 19) rfl hb
      refine X_o K M ?_; clear K; intro a K
      obtain ⟨r6, h_r6, h⟩ := obind h
      refine X_a K (ac_call (vs := [.slice A_l2 l2.length c_l2]) (cap := []) rfl fok28 K rfl rfl (W_code_Check N l2 A_l2 c_l2 _ ((inA R_l2) _ M) C_l2 r6 h_r6)) ?_
      have M0 := M; clear K M; rintro _ a w ⟨rfl, M⟩ K
      replace M := M0.call M; clear M0
      refine X_o K M ?_; clear K
      iterate 3 (refine Y_o M ?_)
      intro a K
      rcases Bool.eq_false_or_eq_true (decide (r6 = r3)) with hb | hb
      · have h := ctrue hb h
        have K := K.reb (s := 25) rfl hb
        refine X_o K M ?_; clear K
        iterate 4 (refine Y_o M ?_)
        intro a K
        rcases Bool.eq_false_or_eq_true (decide (r2.2 = r3)) with hb | hb
        · have h := ctrue hb h
          have K := K.reb (s := 30) rfl hb
          refine X_o K M ?_; clear K
          refine Y_o M ?_; intro a K
          obtain ⟨r7, h_r7, h⟩ := obind h
          refine X_a K (ac_call (vs := [.slice A r2.1.length c, .slice A2 r4.length c2]) (cap := []) rfl fok29 K rfl rfl (W_darkslidelaw_sameTexts N r2.1 A c r4 A2 c2 _ ((inR (C := cS) 1 rfl rfl) _ M) (M.cap 1 rfl) ((inR (C := cS) 0 rfl rfl) _ M) (M.cap 0 rfl) r7 h_r7)) ?_
          have M0 := M; clear K M; rintro _ a w ⟨rfl, M⟩ K
          replace M := M0.call M; clear M0
          refine X_o K M ?_; clear K
          refine Y_o M ?_; intro a K
          refine wpList_nil (then_n (wp_ret ?_))
          cases h
          exact ret1 K rfl (res_tmp K rfl) ⟨_, rfl, rfl, ((M).pick [] (by decide))⟩
        have h := cfalse hb h
        have K := K.reb (s := 30) rfl hb
        refine X_o K M ?_; clear K
        iterate 4 (refine Y_o M ?_)
        intro a K
        refine wpList_nil (then_n (wp_ret ?_))
        cases h
        exact ret1 K rfl (res_tmp K rfl) ⟨_, rfl, rfl, ((M).pick [] (by decide))⟩
      have h := cfalse hb h
      have K := K.reb (s := 25) rfl hb
      refine X_o K M ?_; clear K
      iterate 9 (refine Y_o M ?_)
      intro a K
      refine wpList_nil (then_n (wp_ret ?_))
      cases h
      exact ret1 K rfl (res_tmp K rfl) ⟨_, rfl, rfl, ((M).pick [] (by decide))⟩
    have h := cfalse hb h
    have K := K.reb (s := 19) rfl hb
    refine X_o K M ?_; clear K
    iterate 15 (refine Y_o M ?_)
    intro a K
    refine wpList_nil (then_n (wp_ret ?_))
    cases h
    exact ret1 K rfl (res_tmp K rfl) ⟨_, rfl, rfl, ((M).pick [] (by decide))⟩
  have h := cfalse hb h
  refine wp_skip (then_n (wp_seq (X_reg ?_)))
  obtain ⟨r8, h_r8, h⟩ := obind h
  refine X_a K (ac_call (vs := []) (cap := []) rfl fok27 K rfl rfl (W_darkslidelaw_codeBegun N  _  r8 h_r8)) ?_
  have M0 := M; clear K M; rintro _ a w ⟨rfl, M⟩ K
  replace M := M0.call M; clear M0
  refine X_o K M ?_; clear K; intro a K
  rcases Bool.eq_false_or_eq_true (r8) with hb | hb
  · have h := ctrue hb h
    have K := K.reb (s := 19) rfl hb
    refine X_o K M ?_; clear K; intro a K
    obtain ⟨r9, h_r9, h⟩ := obind h
    refine X_a K (ac_call (vs := [.slice A_l2 l2.length c_l2]) (cap := []) rfl fok28 K rfl rfl (W_code_Check N l2 A_l2 c_l2 _ ((inA R_l2) _ M) C_l2 r9 h_r9)) ?_
    have M0 := M; clear K M; rintro _ a w ⟨rfl, M⟩ K
    replace M := M0.call M; clear M0
    refine X_o K M ?_; clear K
    iterate 3 (refine Y_o M ?_)
    intro a K
    rcases Bool.eq_false_or_eq_true (decide (r9 = r3)) with hb | hb
    · have h := ctrue hb h
      have K := K.reb (s := 25) rfl hb
      refine X_o K M ?_; clear K
      iterate 4 (refine Y_o M ?_)
      intro a K
      rcases Bool.eq_false_or_eq_true (decide (r2.2 = r3)) with hb | hb
      · have h := ctrue hb h
        have K := K.reb (s := 30) rfl hb
        refine X_o K M ?_; clear K
        refine Y_o M ?_; intro a K
        obtain ⟨r10, h_r10, h⟩ := obind h
        refine X_a K (ac_call (vs := [.slice A r2.1.length c, .slice none (([] : List (List UInt8))).length 0]) (cap := []) rfl fok29 K rfl rfl (W_darkslidelaw_sameTexts N r2.1 A c (([] : List (List UInt8))) none 0 _ ((inR (C := cS) 0 rfl rfl) _ M) (M.cap 0 rfl) ((fun _ _ => SL.nil) _ M) (Nat.le_refl _) r10 h_r10)) ?_
        have M0 := M; clear K M; rintro _ a w ⟨rfl, M⟩ K
        replace M := M0.call M; clear M0
        refine X_o K M ?_; clear K
        refine Y_o M ?_; intro a K
        refine wpList_nil (then_n (wp_ret ?_))
        cases h
        exact ret1 K rfl (res_tmp K rfl) ⟨_, rfl, rfl, ((M).pick [] (by decide))⟩
      have h := cfalse hb h
      have K := K.reb (s := 30) rfl hb
      refine X_o K M ?_; clear K
      iterate 4 (refine Y_o M ?_)
      intro a K
      refine wpList_nil (then_n (wp_ret ?_))
      cases h
      exact ret1 K rfl (res_tmp K rfl) ⟨_, rfl, rfl, ((M).pick [] (by decide))⟩
    have h := cfalse hb h
    have K := K.reb (s := 25) rfl hb
    refine X_o K M ?_; clear K
    iterate 9 (refine Y_o M ?_)
    intro a K
    refine wpList_nil (then_n (wp_ret ?_))
    cases h
    exact ret1 K rfl (res_tmp K rfl) ⟨_, rfl, rfl, ((M).pick [] (by decide))⟩
  have h := cfalse hb h
  have K := K.reb (s := 19) rfl hb
  refine X_o K M ?_; clear K
  iterate 15 (refine Y_o M ?_)
  intro a K
  refine wpList_nil (then_n (wp_ret ?_))
  cases h
  exact ret1 K rfl (res_tmp K rfl) ⟨_, rfl, rfl, ((M).pick [] (by decide))⟩
end Go.Proofs.YtpmnfhifmmfglabDoor
