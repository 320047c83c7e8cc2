/- Texts of the claim LineFar, joined: WTone. -/
import Derived.Test.YtpmnfhifmmfglabLineFarK2
import Derived.Test.YtpmnfhifmmfglabLineFarK3
import Derived.Test.YtpmnfhifmmfglabLineFarK5
set_option linter.unusedVariables false
set_option linter.unusedSimpArgs false
set_option linter.unusedSectionVars false
namespace Go.Proofs.Ytpmnfhifmmfglab
open Go.RowKit
set_option maxRecDepth 100000 in
set_option maxHeartbeats 4000000 in
theorem W_tone_right (N : Nat) (d : List (Int × Int)) (A_d : Option Addr) (c_d : Nat) (w0 : World) (R_d : SL w0 cII A_d d) (C_d : d.length ≤ c_d) (r : Bool) (h : D_tone_right N d = some r) :
    Calls Try.prog 59 #[.slice A_d d.length c_d] w0 fun e w' => ∃ v, e = .returned v ∧ v = .bool r ∧ Mem w0.heap.size w0 w' [] := by
  refine X_enter Try.func59 rfl Try.ntmps59 rfl ?_
  intro a K
  have M := Mem.start w0
  have K : Kn a 79 [(0, .slice A_d d.length c_d)] := K
  unfold D_tone_right at h
  refine wp_seq (X_reg ?_)
  refine X_o K M ?_; clear K; intro a K
  refine wpList_nil (then_n (wp_seq (wp_seq (X_reg ?_))))
  refine X_o K M ?_; clear K
  refine Y_r (fun _ K => rd_len rfl un40 K rfl) M ?_
  iterate 2 (refine Y_o M ?_)
  intro a K
  rcases Bool.eq_false_or_eq_true (decide ((d.length : Int) < 2)) with hb | hb
  · have h := ctrue hb h
    have K := K.reb (s := 7) rfl hb
    refine X_o K M ?_; clear K
    iterate 37 (refine Y_o M ?_)
    intro a K
    refine wpList_nil (then_n ?_)
    refine X_condT K rfl ?_
    refine wp_seq (X_reg ?_)
    refine X_o K M ?_; clear K; intro a K
    refine wpList_nil (then_n (wp_ret (then_r ?_)))
    cases h
    exact ret1 K rfl (res_tmp K rfl) ⟨_, rfl, rfl, ((M).pick [] (by decide))⟩
  have h := cfalse hb h
  have K := K.reb (s := 7) rfl hb
  refine X_o K M ?_; clear K
  refine Y_r (fun _ K => rd_len rfl un40 K rfl) M ?_
  iterate 3 (refine Y_o M ?_)
  intro a K
  rcases Bool.eq_false_or_eq_true (decide (16 < (d.length : Int))) with hb | hb
  · have h := ctrue hb h
    have K := K.reb (s := 12) rfl hb
    refine X_o K M ?_; clear K
    iterate 32 (refine Y_o M ?_)
    intro a K
    refine wpList_nil (then_n ?_)
    refine X_condT K rfl ?_
    refine wp_seq (X_reg ?_)
    refine X_o K M ?_; clear K; intro a K
    refine wpList_nil (then_n (wp_ret (then_r ?_)))
    cases h
    exact ret1 K rfl (res_tmp K rfl) ⟨_, rfl, rfl, ((M).pick [] (by decide))⟩
  have h := cfalse hb h
  have K := K.reb (s := 12) rfl hb
  refine X_o K M ?_; clear K
  obtain ⟨e, h_e, h⟩ := obind h
  refine Y_r (fun _ K => rd_ix rfl sl40 K rfl rfl (inA R_d) h_e) M ?_
  refine Y_r (fun _ K => rd_field rfl fld70_0 K rfl) M ?_
  refine Y_r (fun _ K => rd_elF rfl sc3 K rfl rfl (inA R_d) h_e rfl) M ?_
  iterate 3 (refine Y_o M ?_)
  intro a K
  rcases Bool.eq_false_or_eq_true (!decide (e.1 = 0)) with hb | hb
  · have h := ctrue hb h
    have K := K.reb (s := 19) rfl hb
    refine X_o K M ?_; clear K
    iterate 25 (refine Y_o M ?_)
    intro a K
    refine wpList_nil (then_n ?_)
    refine X_condT K rfl ?_
    refine wp_seq (X_reg ?_)
    refine X_o K M ?_; clear K; intro a K
    refine wpList_nil (then_n (wp_ret (then_r ?_)))
    cases h
    exact ret1 K rfl (res_tmp K rfl) ⟨_, rfl, rfl, ((M).pick [] (by decide))⟩
  have h := cfalse hb h
  have K := K.reb (s := 19) rfl hb
  refine X_o K M ?_; clear K
  refine Y_o M ?_
  refine Y_r (fun _ K => rd_len rfl un40 K rfl) M ?_
  refine Y_o M ?_
  obtain ⟨e2, h_e2, h⟩ := obind h
  refine Y_r (fun _ K => rd_ix rfl sl40 K rfl rfl (inA R_d) h_e2) M ?_
  refine Y_r (fun _ K => rd_field rfl fld70_0 K rfl) M ?_
  refine Y_r (fun _ K => rd_elF rfl sc3 K rfl rfl (inA R_d) h_e2 rfl) M ?_
  iterate 3 (refine Y_o M ?_)
  intro a K
  rcases Bool.eq_false_or_eq_true (!decide (e2.1 = 65535)) with hb | hb
  · have h := ctrue hb h
    have K := K.reb (s := 29) rfl hb
    refine X_o K M ?_; clear K
    iterate 15 (refine Y_o M ?_)
    intro a K
    refine wpList_nil (then_n ?_)
    refine X_condT K rfl ?_
    refine wp_seq (X_reg ?_)
    refine X_o K M ?_; clear K; intro a K
    refine wpList_nil (then_n (wp_ret (then_r ?_)))
    cases h
    exact ret1 K rfl (res_tmp K rfl) ⟨_, rfl, rfl, ((M).pick [] (by decide))⟩
  have h := cfalse hb h
  have K := K.reb (s := 29) rfl hb
  refine X_o K M ?_; clear K
  obtain ⟨e3, h_e3, h⟩ := obind h
  refine Y_r (fun _ K => rd_ix rfl sl40 K rfl rfl (inA R_d) h_e3) M ?_
  refine Y_r (fun _ K => rd_field rfl fld70_1 K rfl) M ?_
  refine Y_r (fun _ K => rd_elF rfl sc3 K rfl rfl (inA R_d) h_e3 rfl) M ?_
  iterate 3 (refine Y_o M ?_)
  intro a K
  rcases Bool.eq_false_or_eq_true (decide (e3.2 < 0)) with hb | hb
  · have h := ctrue hb h
    have K := K.reb (s := 36) rfl hb
    refine X_o K M ?_; clear K
    iterate 8 (refine Y_o M ?_)
    intro a K
    refine wpList_nil (then_n ?_)
    refine X_condT K rfl ?_
    refine wp_seq (X_reg ?_)
    refine X_o K M ?_; clear K; intro a K
    refine wpList_nil (then_n (wp_ret (then_r ?_)))
    cases h
    exact ret1 K rfl (res_tmp K rfl) ⟨_, rfl, rfl, ((M).pick [] (by decide))⟩
  have h := cfalse hb h
  have K := K.reb (s := 36) rfl hb
  refine X_o K M ?_; clear K
  refine Y_o M ?_
  refine Y_r (fun _ K => rd_len rfl un40 K rfl) M ?_
  refine Y_o M ?_
  obtain ⟨e4, h_e4, h⟩ := obind h
  refine Y_r (fun _ K => rd_ix rfl sl40 K rfl rfl (inA R_d) h_e4) M ?_
  refine Y_r (fun _ K => rd_field rfl fld70_1 K rfl) M ?_
  refine Y_r (fun _ K => rd_elF rfl sc3 K rfl rfl (inA R_d) h_e4 rfl) M ?_
  iterate 2 (refine Y_o M ?_)
  intro a K
  refine wpList_nil (then_n ?_)
  refine X_cond K rfl (fun hb => ?_) (fun hb => ?_)
  · have h := ctrue hb h
    refine wp_seq (X_reg ?_)
    refine X_o K M ?_; clear K; intro a K
    refine wpList_nil (then_n (wp_ret (then_r ?_)))
    cases h
    exact ret1 K rfl (res_tmp K rfl) ⟨_, rfl, rfl, ((M).pick [] (by decide))⟩
  have h := cfalse hb h
  refine wp_skip (then_n (wp_seq (wp_seq (X_reg ?_))))
  refine X_o K M ?_; clear K
  obtain ⟨l2, h_l2, h⟩ := obind h
  refine Y_r (fun _ K => rd_slice (C := cII) (k := .i64) (k' := .i64) rfl sl40 rfl K rfl C_d rfl rfl h_l2) M ?_
  refine Y_r (fun _ K => rd_len rfl un40 K rfl) M ?_
  refine Y_o M ?_; intro a K
  refine wpList_nil (then_n (wp_block ?_))
  refine X_lp (id := 0) (Rel := fun (i : Int) a w => Kn a 79 [(0, .slice A_d d.length c_d), (48, I (l2.length : Int)), (49, I i)] ∧ Mem w0.heap.size w0 w []) h (fun _ _ => rfl) ⟨K.pick [0,48,49], M.pick [] (by decide)⟩ ?_ ?_
  · clear K M h
    rintro i2 a w ⟨K, M⟩ h
    try dsimp only at h
    refine inb_e ?_
    refine then_n (wp_seq (X_reg ?_))
    refine X_o K M ?_; clear K; intro a K
    refine wpList_nil (then_n (wp_ret ?_))
    cases h
    exact ret1 K rfl (res_tmp K rfl) ⟨_, rfl, rfl, ((M).pick [] (by decide))⟩
  clear K M h
  rintro kk fuel i a w hk1 ⟨K, M⟩ h
  unfold D_tone_right_l1 at h
  refine wp_seq (X_reg ?_)
  refine X_o K M ?_; clear K; intro a K
  refine wpList_nil (then_n (wp_seq ?_))
  refine X_cond K rfl (fun hb => ?_) (fun hb => ?_)
  · have h := ctrue hb h
    refine wp_skip (then_n (wp_seq (wp_block (wp_seq (X_reg ?_)))))
    refine X_o K M ?_; clear K
    refine Y_o M ?_; intro a K
    refine wpList_nil (then_n (wp_seq ?_))
    refine wp_region_tl (fun w => Mem _ _ w _) [0,0,0,0,0,0,0,0,0,0,0,0,0,0,0,0,0,0,0,0,0,0,0,0,0,0] (by kernel_rfl) (by kernel_rfl) M.drew ?_
    replace M := M.drew
    refine T_o K ?_; clear K
    refine U_o ?_
    obtain ⟨e9, h_e9, h⟩ := obind h
    refine U_r (fun _ K => rd_ix rfl sl40 K rfl rfl (inA R_d) h_e9) ?_
    refine U_r (fun _ K => rd_field rfl fld70_0 K rfl) ?_
    refine U_r (fun _ K => rd_elF rfl sc3 K rfl rfl (inA R_d) h_e9 rfl) ?_
    iterate 3 (refine U_o ?_)
    obtain ⟨e10, h_e10, h⟩ := obind h
    refine U_r (fun _ K => rd_ix rfl sl40 K rfl rfl (inA R_d) h_e10) ?_
    refine U_r (fun _ K => rd_field rfl fld70_0 K rfl) ?_
    refine U_r (fun _ K => rd_elF rfl sc3 K rfl rfl (inA R_d) h_e10 rfl) ?_
    iterate 2 (refine U_o ?_)
    intro a K
    rcases Bool.eq_false_or_eq_true (decide (e10.1 ≤ e9.1)) with hb | hb
    · have h := ctrue hb h
      have K := K.reb (s := 64) rfl hb
      refine T_o K ?_; clear K
      iterate 12 (refine U_o ?_)
      intro a K
      refine T_end ?_
      refine then_n ?_
      refine X_condT K rfl ?_
      refine wp_seq (X_reg ?_)
      refine X_o K M ?_; clear K; intro a K
      refine wpList_nil (then_n (wp_ret (inb_r (then_r (then_r (inb_r (then_r ?_)))))))
      cases h
      exact ret1 K rfl (res_tmp K rfl) ⟨_, rfl, rfl, ((M).pick [] (by decide))⟩
    have h := cfalse hb h
    have K := K.reb (s := 64) rfl hb
    refine T_o K ?_; clear K
    refine U_o ?_
    obtain ⟨e11, h_e11, h⟩ := obind h
    refine U_r (fun _ K => rd_ix rfl sl40 K rfl rfl (inA R_d) h_e11) ?_
    refine U_r (fun _ K => rd_field rfl fld70_1 K rfl) ?_
    refine U_r (fun _ K => rd_elF rfl sc3 K rfl rfl (inA R_d) h_e11 rfl) ?_
    iterate 3 (refine U_o ?_)
    obtain ⟨e12, h_e12, h⟩ := obind h
    refine U_r (fun _ K => rd_ix rfl sl40 K rfl rfl (inA R_d) h_e12) ?_
    refine U_r (fun _ K => rd_field rfl fld70_1 K rfl) ?_
    refine U_r (fun _ K => rd_elF rfl sc3 K rfl rfl (inA R_d) h_e12 rfl) ?_
    iterate 2 (refine U_o ?_)
    intro a K
    refine T_end ?_
    refine then_n ?_
    refine X_cond K rfl (fun hb => ?_) (fun hb => ?_)
    · have h := ctrue hb h
      refine wp_seq (X_reg ?_)
      refine X_o K M ?_; clear K; intro a K
      refine wpList_nil (then_n (wp_ret (inb_r (then_r (then_r (inb_r (then_r ?_)))))))
      cases h
      exact ret1 K rfl (res_tmp K rfl) ⟨_, rfl, rfl, ((M).pick [] (by decide))⟩
    have h := cfalse hb h
    refine wp_skip (inb_n (then_n (X_reg ?_)))
    refine X_o K M ?_; clear K
    refine Y_o M ?_; intro a K
    refine wpList_nil ?_
    exact then_n ⟨(IntKind.i64.wrap (i + 1)), ⟨K.pick [0,48,49], M.pick [] (by decide)⟩, h⟩
  have h := cfalse hb h
  refine wp_exit ?_
  refine then_e ?_
  exact then_e (hk1 i _ _ ⟨K.pick [0,48,49], M.pick [] (by decide)⟩ h)
set_option maxRecDepth 100000 in
set_option maxHeartbeats 4000000 in
theorem W_tone_on_1 (N : Nat) (i : Int) (v0 : List (Int × Int)) (A_v0 : Option Addr) (c_v0 : Nat) (v1 : Int) (g_v0 : Nat) (g_v1 : Nat) (w0 : World) (R_v0 : SL w0 cII A_v0 v0) (C_v0 : v0.length ≤ c_v0) (B_g_v0 : Blk w0 g_v0 40 #[.slice A_v0 v0.length c_v0]) (B_g_v1 : Blk w0 g_v1 3 #[I v1]) (r : Bool) (h : D_tone_on_1 N i v0 v1 = some r) :
    Calls Try.prog 77 #[I i, .pointer (some ⟨g_v0, 0, none⟩), .pointer (some ⟨g_v1, 0, none⟩)] w0 fun e w' => ∃ v, e = .returned v ∧ v = .bool r ∧ Mem w0.heap.size w0 w' [] := by
  refine X_enter Try.func77 rfl Try.ntmps77 rfl ?_
  intro a K
  have M := Mem.start w0
  have K : Kn a 12 [(0, I i), (1, .pointer (some ⟨g_v0, 0, none⟩)), (2, .pointer (some ⟨g_v1, 0, none⟩))] := K
  unfold D_tone_on_1 at h
  refine wp_seq (X_reg ?_)
  refine X_o K M ?_; clear K; intro a K
  refine wpList_nil (then_n (wp_seq ?_))
  refine wp_region_tl (fun w => Mem _ _ w _) [0,0,0,0,0,0,0,0] (by kernel_rfl) (by kernel_rfl) M.drew ?_
  replace M := M.drew
  refine T_r K (rd_ldC rfl sc40 K rfl (inO B_g_v0) rfl) ?_; clear K
  refine U_o ?_
  obtain ⟨e, h_e, h⟩ := obind h
  refine U_r (fun _ K => rd_ix rfl sl40 K rfl rfl (inA R_v0) h_e) ?_
  refine U_r (fun _ K => rd_field rfl fld70_0 K rfl) ?_
  refine U_r (fun _ K => rd_elF rfl sc3 K rfl rfl (inA R_v0) h_e rfl) ?_
  refine U_r (fun _ K => rd_ldC rfl sc3 K rfl (inO B_g_v1) rfl) ?_
  iterate 2 (refine U_o ?_)
  intro a K
  refine T_end ?_
  refine then_n (wp_ret ?_)
  cases h
  exact ret1 K rfl (res_tmp K rfl) ⟨_, rfl, rfl, ((M).pick [] (by decide))⟩
set_option maxRecDepth 100000 in
set_option maxHeartbeats 4000000 in
theorem W_sort_Search__tone_on_1 (N : Nat) (n : Int) (on_1_0 : List (Int × Int)) (A_on_1_0 : Option Addr) (c_on_1_0 : Nat) (on_1_1 : Int) (g_on_1_0 : Nat) (g_on_1_1 : Nat) (w0 : World) (R_on_1_0 : SL w0 cII A_on_1_0 on_1_0) (C_on_1_0 : on_1_0.length ≤ c_on_1_0) (B_g_on_1_0 : Blk w0 g_on_1_0 40 #[.slice A_on_1_0 on_1_0.length c_on_1_0]) (B_g_on_1_1 : Blk w0 g_on_1_1 3 #[I on_1_1]) (r : Int) (h : D_sort_Search__tone_on_1 N n on_1_0 on_1_1 = some r) :
    Calls Try.prog 76 #[I n, .func (.func 77) #[] #[.pointer (some ⟨g_on_1_0, 0, none⟩), .pointer (some ⟨g_on_1_1, 0, none⟩)]] w0 fun e w' => ∃ v, e = .returned v ∧ v = I r ∧ Mem w0.heap.size w0 w' [] := by
  refine X_enter Try.func76 rfl Try.ntmps76 rfl ?_
  intro a K
  have M := Mem.start w0
  have K : Kn a 26 [(0, I n), (1, .func (.func 77) #[] #[.pointer (some ⟨g_on_1_0, 0, none⟩), .pointer (some ⟨g_on_1_1, 0, none⟩)])] := K
  unfold D_sort_Search__tone_on_1 at h
  refine wp_seq (X_reg ?_)
  refine X_o K M ?_; clear K; intro a K
  refine wpList_nil (then_n (wp_seq (X_reg ?_)))
  refine X_o K M ?_; clear K
  iterate 2 (refine Y_o M ?_)
  intro a K
  refine wpList_nil (then_n (wp_seq (wp_block ?_)))
  refine X_lp (id := 0) (Rel := fun (⟨i, j⟩ : Int × Int) a w => Kn a 26 [(1, .func (.func 77) #[] #[.pointer (some ⟨g_on_1_0, 0, none⟩), .pointer (some ⟨g_on_1_1, 0, none⟩)]), (5, I i), (6, I j)] ∧ Mem w0.heap.size w0 w []) h (fun _ _ => rfl) ⟨K.pick [1,5,6], M.pick [] (by decide)⟩ ?_ ?_
  · clear K M h
    rintro ⟨i4, j2⟩ a w ⟨K, M⟩ h
    try dsimp only at h
    refine inb_e ?_
    refine then_n (wp_seq (X_reg ?_))
    refine X_o K M ?_; clear K
    refine Y_o M ?_; intro a K
    refine wpList_nil (then_n (wp_ret ?_))
    cases h
    exact ret1 K rfl (res_tmp K rfl) ⟨_, rfl, rfl, ((M).pick [] (by decide))⟩
  clear K M h
  rintro kk fuel ⟨i, j⟩ a w hk1 ⟨K, M⟩ h
  unfold D_sort_Search__tone_on_1_l1 at h
  refine wp_seq (wp_seq (X_reg ?_))
  refine X_o K M ?_; clear K
  iterate 2 (refine Y_o M ?_)
  intro a K
  refine wpList_nil (then_n ?_)
  refine X_cond K rfl (fun hb => ?_) (fun hb => ?_)
  · have h := ctrue hb h
    refine wp_skip (then_n (wp_block (wp_seq (X_reg ?_))))
    refine X_o K M ?_; clear K
    iterate 2 (refine Y_o M ?_)
    refine Y_r (fun _ K => rd_conv rfl rfl ik60 K rfl) M ?_
    refine Y_r (fun _ K => rd_shr rfl K rfl rfl (by decide)) M ?_
    refine Y_r (fun _ K => rd_conv rfl rfl ik3 K rfl) M ?_
    obtain ⟨h3, hx, h⟩ := olet h
    refine Y_r (fun _ K => rdi hx (rd_assign rfl K rfl)) M ?_; intro a K
    refine wpList_nil (then_n (wp_seq (X_reg ?_)))
    refine X_o K M ?_; clear K
    refine Y_o M ?_; intro a K
    obtain ⟨r3, h_r3, h⟩ := obind h
    refine X_a K (ac_call (vs := [I h3]) (cap := [.pointer (some ⟨g_on_1_0, 0, none⟩), .pointer (some ⟨g_on_1_1, 0, none⟩)]) rfl fok77 K rfl rfl (W_tone_on_1 N h3 on_1_0 A_on_1_0 c_on_1_0 on_1_1 g_on_1_0 g_on_1_1 _ ((inA R_on_1_0) _ M) C_on_1_0 (inO B_g_on_1_0 _ M) (inO B_g_on_1_1 _ M) r3 h_r3)) ?_
    have M0 := M; clear K M; rintro _ a w ⟨rfl, M⟩ K
    replace M := M0.call M; clear M0
    refine X_o K M ?_; clear K; intro a K
    refine wpList_nil (then_n ?_)
    refine X_cond K rfl (fun hb => ?_) (fun hb => ?_)
    · have h := ctrue hb h
      refine X_reg ?_
      refine X_o K M ?_; clear K
      refine Y_o M ?_
      obtain ⟨i3, hx, h⟩ := olet h
      refine Y_r (fun _ K => rdi hx (rd_assign rfl K rfl)) M ?_; intro a K
      refine wpList_nil (inb_n ?_)
      exact then_n ⟨(i3, j), ⟨K.pick [1,5,6], M.pick [] (by decide)⟩, h⟩
    have h := cfalse hb h
    refine X_reg ?_
    refine X_o K M ?_; clear K
    refine Y_o M ?_; intro a K
    refine wpList_nil (inb_n ?_)
    exact then_n ⟨(i, h3), ⟨K.pick [1,5,6], M.pick [] (by decide)⟩, h⟩
  have h := cfalse hb h
  refine wp_exit ?_
  refine then_e ?_
  exact then_e (hk1 (i, j) _ _ ⟨K.pick [1,5,6], M.pick [] (by decide)⟩ h)
set_option maxRecDepth 100000 in
set_option maxHeartbeats 4000000 in
theorem W_tone_on (N : Nat) (l2 : List (Int × Int)) (A_l2 : Option Addr) (c_l2 : Nat) (x2 : Int) (w0 : World) (R_l2 : SL w0 cII A_l2 l2) (C_l2 : l2.length ≤ c_l2) (r : Int) (h : D_tone_on N l2 x2 = some r) :
    Calls Try.prog 60 #[.slice A_l2 l2.length c_l2, I x2] w0 fun e w' => ∃ v, e = .returned v ∧ v = I r ∧ Mem w0.heap.size w0 w' [] := by
  refine X_enter Try.func60 rfl Try.ntmps60 rfl ?_
  intro a K
  have M := Mem.start w0
  have K : Kn a 50 [(0, .slice A_l2 l2.length c_l2), (1, I x2)] := K
  unfold D_tone_on at h
  refine wp_seq (X_reg ?_)
  refine X_a K (ac_box rfl K rfl (cs := [.slice A_l2 l2.length c_l2]) rfl M) ?_
  clear K M; rintro _ a w ⟨g_l, rfl, M⟩ K
  refine X_a K (ac_box rfl K rfl (cs := [I x2]) rfl M) ?_
  clear K M; rintro _ a w ⟨g_x, rfl, M⟩ K
  refine X_o K M ?_; clear K; intro a K
  refine wpList_nil (then_n (wp_seq (X_reg ?_)))
  refine X_r K (rd_ldC rfl sc40 K rfl (inM 1 rfl) rfl) M ?_; clear K
  refine Y_r (fun _ K => rd_len rfl un40 K rfl) M ?_
  refine Y_r (fun _ K => rd_func rfl K (vs := [.pointer (some ⟨g_l, 0, none⟩), .pointer (some ⟨g_x, 0, none⟩)]) rfl) M ?_; intro a K
  obtain ⟨r2, h_r2, h⟩ := obind h
  refine X_a K (ac_call (vs := [I (l2.length : Int), .func (.func 77) #[] #[.pointer (some ⟨g_l, 0, none⟩), .pointer (some ⟨g_x, 0, none⟩)]]) (cap := []) rfl fok76 K rfl rfl (W_sort_Search__tone_on_1 N (l2.length : Int) l2 A_l2 c_l2 x2 g_l g_x _ ((inA R_l2) _ M) C_l2 (M.blkAt (i := 1) rfl) (M.blkAt (i := 0) rfl) r2 h_r2)) ?_
  have M0 := M; clear K M; rintro _ a w ⟨rfl, M⟩ K
  replace M := M0.call M; clear M0
  refine X_o K M ?_; clear K; intro a K
  refine wpList_nil (then_n (wp_seq (wp_seq (X_reg ?_))))
  refine X_o K M ?_; clear K
  refine Y_r (fun _ K => rd_ldC rfl sc40 K rfl (inM 1 rfl) rfl) M ?_
  refine Y_r (fun _ K => rd_len rfl un40 K rfl) M ?_
  refine Y_o M ?_; intro a K
  refine wpList_nil (then_n ?_)
  refine X_cond K rfl (fun hb => ?_) (fun hb => ?_)
  · have h := ctrue hb h
    refine wp_seq (X_reg ?_)
    refine X_r K (rd_ldC rfl sc40 K rfl (inM 1 rfl) rfl) M ?_; clear K
    iterate 2 (refine Y_o M ?_)
    obtain ⟨e, h_e, h⟩ := obind h
    refine Y_r (fun _ K => rd_ix rfl sl40 K rfl rfl (inA R_l2) h_e) M ?_
    refine Y_r (fun _ K => rd_field rfl fld70_1 K rfl) M ?_
    refine Y_r (fun _ K => rd_elF rfl sc3 K rfl rfl (inA R_l2) h_e rfl) M ?_
    refine Y_o M ?_; intro a K
    refine wpList_nil (then_n (wp_ret (then_r ?_)))
    cases h
    exact ret1 K rfl (res_tmp K rfl) ⟨_, rfl, rfl, ((M).pick [] (by decide))⟩
  have h := cfalse hb h
  refine wp_skip (then_n (wp_seq ?_))
  refine wp_region_tr (fun w => Mem _ _ w _) [0,0,0,0,0,0,0,0,0,1,1,1,2] 13 [0,1,2,3,4,5,6,7,8,9,10,11,12] (by kernel_rfl) (by kernel_rfl) (by kernel_rfl) rfl M.drew ?_
  replace M := M.drew
  refine R_rd 0 [1,2,3,4,5,6,7,8,9,10,11,12] (by kernel_rfl) rfl K (want_no rfl) rfl rfl (rd_ldC rfl sc40 K rfl (inM 1 rfl) rfl) ?_; clear K; intro a K
  refine R_rd 1 [2,3,4,5,6,7,8,9,10,11,12] (by kernel_rfl) rfl K (want_no rfl) rfl rfl (rd_move rfl K rfl) ?_; clear K; intro a K
  refine R_rd 2 [3,4,5,6,7,8,9,10,11,12] (by kernel_rfl) rfl K (want_no rfl) rfl rfl (rd_sub rfl K rfl rfl) ?_; clear K; intro a K
  obtain ⟨e2, h_e2, h⟩ := obind h
  refine R_rd 3 [4,5,6,7,8,9,10,11,12] (by kernel_rfl) rfl K (want_no rfl) rfl rfl (rd_ix rfl sl40 K rfl rfl (inA R_l2) h_e2) ?_; clear K; intro a K
  refine R_rd 4 [5,6,7,8,9,10,11,12] (by kernel_rfl) rfl K (want_no rfl) rfl rfl (rd_elA rfl ty70 K rfl rfl rfl (inA R_l2) h_e2) ?_; clear K; intro a K
  refine R_rd 5 [6,7,8,9,10,11,12] (by kernel_rfl) rfl K (want_no rfl) rfl rfl (rd_ldC rfl sc40 K rfl (inM 1 rfl) rfl) ?_; clear K; intro a K
  refine R_rd 6 [7,8,9,10,11,12] (by kernel_rfl) rfl K (want_no rfl) rfl rfl (rd_move rfl K rfl) ?_; clear K; intro a K
  obtain ⟨e3, h_e3, h⟩ := obind h
  refine R_rd 7 [8,9,10,11,12] (by kernel_rfl) rfl K (want_no rfl) rfl rfl (rd_ix rfl sl40 K rfl rfl (inA R_l2) h_e3) ?_; clear K; intro a K
  refine R_rd 8 [9,10,11,12] (by kernel_rfl) rfl K (want_no rfl) rfl rfl (rd_elA rfl ty70 K rfl rfl rfl (inA R_l2) h_e3) ?_; clear K; intro a K
  refine R_br [9,10] (by kernel_rfl) ⟨?_, ?_, trivial⟩
  ·
    refine R_ac [10,11,12] (by kernel_rfl) rfl K (want_no rfl) rfl rfl (ac_alloc rfl z70 M) ?_
    clear K M; rintro _ a w ⟨g_a, rfl, M⟩ K
    refine ⟨fun _ => M.pick [1,2] (by decide), ?_⟩
    refine R_br [10] (by kernel_rfl) ⟨?_, trivial⟩
    refine R_ac [11,12] (by kernel_rfl) rfl K (want_no rfl) rfl rfl (ac_alloc rfl z70 M) ?_
    clear K M; rintro _ a w ⟨g_b, rfl, M⟩ K
    refine ⟨fun _ => M.pick [2,3] (by decide), ?_⟩
    refine R_br [11] (by kernel_rfl) ⟨?_, trivial⟩
    refine R_a0 [12] (by kernel_rfl) rfl K (want_no rfl) rfl (ac_storeA rfl ty70 K rfl (ds := [I e2.1, I e2.2]) rfl rfl 1 M rfl rfl rfl) ?_
    clear K M; rintro _ a w M K
    refine ⟨fun _ => M.pick [2,3] (by decide), ?_⟩
    refine R_br [12] (by kernel_rfl) ⟨?_, trivial⟩
    refine R_a0 [] (by kernel_rfl) rfl K (want_no rfl) rfl (ac_storeA rfl ty70 K rfl (ds := [I e3.1, I e3.2]) rfl rfl 0 M rfl rfl rfl) ?_
    clear K M; rintro _ a w M K
    refine ⟨fun h => absurd h (by decide), ?_⟩
    refine R_end ?_
    refine then_n (wp_seq ?_)
    refine wp_region_tl (fun w => Mem _ _ w _) [0,0,0,0,0,0,0,0,0,0,0,0,0,0,0,0,0,0,0,0] (by kernel_rfl) (by kernel_rfl) M.drew ?_
    replace M := M.drew
    refine T_r K (rd_field rfl fld70_1 K rfl) ?_; clear K
    refine U_r (fun _ K => rd_ldC rfl sc3 K rfl (inM 1 rfl) rfl) ?_
    refine U_r (fun _ K => rd_field rfl fld70_1 K rfl) ?_
    refine U_r (fun _ K => rd_ldC rfl sc3 K rfl (inM 0 rfl) rfl) ?_
    refine U_r (fun _ K => rd_field rfl fld70_1 K rfl) ?_
    refine U_r (fun _ K => rd_ldC rfl sc3 K rfl (inM 1 rfl) rfl) ?_
    refine U_o ?_
    refine U_r (fun _ K => rd_ldC rfl sc3 K rfl (inM 2 rfl) rfl) ?_
    refine U_r (fun _ K => rd_field rfl fld70_0 K rfl) ?_
    refine U_r (fun _ K => rd_ldC rfl sc3 K rfl (inM 1 rfl) rfl) ?_
    iterate 2 (refine U_o ?_)
    refine U_r (fun _ K => rd_field rfl fld70_0 K rfl) ?_
    refine U_r (fun _ K => rd_ldC rfl sc3 K rfl (inM 0 rfl) rfl) ?_
    refine U_r (fun _ K => rd_field rfl fld70_0 K rfl) ?_
    refine U_r (fun _ K => rd_ldC rfl sc3 K rfl (inM 1 rfl) rfl) ?_
    refine U_o ?_; intro a K
    obtain ⟨_, h0, h⟩ := obind h
    have h0 := nz_spec h0
    refine T_r K (rd_quo rfl K rfl rfl h0) ?_; clear K
    obtain ⟨x3, hx, h⟩ := olet h
    refine U_r (fun _ K => rdi hx (rd_add rfl K rfl rfl)) ?_
    refine U_o ?_; intro a K
    refine T_end ?_
    refine then_n (wp_ret ?_)
    cases h
    exact ret1 K rfl (res_tmp K rfl) ⟨_, rfl, rfl, ((M).pick [] (by decide))⟩
  ·
    refine R_ac [9,11,12] (by kernel_rfl) rfl K (want_no rfl) rfl rfl (ac_alloc rfl z70 M) ?_
    clear K M; rintro _ a w ⟨g_b2, rfl, M⟩ K
    refine ⟨fun _ => M.pick [1,2] (by decide), ?_⟩
    refine R_br [9] (by kernel_rfl) ⟨?_, trivial⟩
    refine R_ac [11,12] (by kernel_rfl) rfl K (want_no rfl) rfl rfl (ac_alloc rfl z70 M) ?_
    clear K M; rintro _ a w ⟨g_a2, rfl, M⟩ K
    refine ⟨fun _ => M.pick [2,3] (by decide), ?_⟩
    refine R_br [11] (by kernel_rfl) ⟨?_, trivial⟩
    refine R_a0 [12] (by kernel_rfl) rfl K (want_no rfl) rfl (ac_storeA rfl ty70 K rfl (ds := [I e2.1, I e2.2]) rfl rfl 0 M rfl rfl rfl) ?_
    clear K M; rintro _ a w M K
    refine ⟨fun _ => M.pick [2,3] (by decide), ?_⟩
    refine R_br [12] (by kernel_rfl) ⟨?_, trivial⟩
    refine R_a0 [] (by kernel_rfl) rfl K (want_no rfl) rfl (ac_storeA rfl ty70 K rfl (ds := [I e3.1, I e3.2]) rfl rfl 1 M rfl rfl rfl) ?_
    clear K M; rintro _ a w M K
    refine ⟨fun h => absurd h (by decide), ?_⟩
    refine R_end ?_
    refine then_n (wp_seq ?_)
    refine wp_region_tl (fun w => Mem _ _ w _) [0,0,0,0,0,0,0,0,0,0,0,0,0,0,0,0,0,0,0,0] (by kernel_rfl) (by kernel_rfl) M.drew ?_
    replace M := M.drew
    refine T_r K (rd_field rfl fld70_1 K rfl) ?_; clear K
    refine U_r (fun _ K => rd_ldC rfl sc3 K rfl (inM 0 rfl) rfl) ?_
    refine U_r (fun _ K => rd_field rfl fld70_1 K rfl) ?_
    refine U_r (fun _ K => rd_ldC rfl sc3 K rfl (inM 1 rfl) rfl) ?_
    refine U_r (fun _ K => rd_field rfl fld70_1 K rfl) ?_
    refine U_r (fun _ K => rd_ldC rfl sc3 K rfl (inM 0 rfl) rfl) ?_
    refine U_o ?_
    refine U_r (fun _ K => rd_ldC rfl sc3 K rfl (inM 2 rfl) rfl) ?_
    refine U_r (fun _ K => rd_field rfl fld70_0 K rfl) ?_
    refine U_r (fun _ K => rd_ldC rfl sc3 K rfl (inM 0 rfl) rfl) ?_
    iterate 2 (refine U_o ?_)
    refine U_r (fun _ K => rd_field rfl fld70_0 K rfl) ?_
    refine U_r (fun _ K => rd_ldC rfl sc3 K rfl (inM 1 rfl) rfl) ?_
    refine U_r (fun _ K => rd_field rfl fld70_0 K rfl) ?_
    refine U_r (fun _ K => rd_ldC rfl sc3 K rfl (inM 0 rfl) rfl) ?_
    refine U_o ?_; intro a K
    obtain ⟨_, h0, h⟩ := obind h
    have h0 := nz_spec h0
    refine T_r K (rd_quo rfl K rfl rfl h0) ?_; clear K
    obtain ⟨x4, hx, h⟩ := olet h
    refine U_r (fun _ K => rdi hx (rd_add rfl K rfl rfl)) ?_
    refine U_o ?_; intro a K
    refine T_end ?_
    refine then_n (wp_ret ?_)
    cases h
    exact ret1 K rfl (res_tmp K rfl) ⟨_, rfl, rfl, ((M).pick [] (by decide))⟩
set_option maxRecDepth 100000 in
set_option maxHeartbeats 4000000 in
theorem W_tone_Curve (N : Nat) (l2 : List (Int × Int)) (A_l2 : Option Addr) (c_l2 : Nat) (x2 : Int) (w0 : World) (R_l2 : SL w0 cII A_l2 l2) (C_l2 : l2.length ≤ c_l2) (r : Int × Int) (h : D_tone_Curve N l2 x2 = some r) :
    Calls Try.prog 36 #[.slice A_l2 l2.length c_l2, I x2] w0 fun e w' => ∃ v, e = .returned v ∧ v = .tuple #[I r.1, I r.2] ∧ Mem w0.heap.size w0 w' [] := by
  refine X_enter Try.func36 rfl Try.ntmps36 rfl ?_
  intro a K
  have M := Mem.start w0
  have K : Kn a 18 [(0, .slice A_l2 l2.length c_l2), (1, I x2)] := K
  unfold D_tone_Curve at h
  refine wp_seq (X_reg ?_)
  refine X_o K M ?_; clear K
  refine Y_o M ?_; intro a K
  refine wpList_nil (then_n (wp_seq (wp_seq (X_reg ?_))))
  refine X_o K M ?_; clear K; intro a K
  obtain ⟨r2, h_r2, h⟩ := obind h
  refine X_a K (ac_call (vs := [.slice A_l2 l2.length c_l2]) (cap := []) rfl fok59 K rfl rfl (W_tone_right N l2 A_l2 c_l2 _ ((inA R_l2) _ M) C_l2 r2 h_r2)) ?_
  have M0 := M; clear K M; rintro _ a w ⟨rfl, M⟩ K
  replace M := M0.call M; clear M0
  refine X_o K M ?_; clear K; intro a K
  refine wpList_nil (then_n ?_)
  refine X_cond K rfl (fun hb => ?_) (fun hb => ?_)
  · have h := ctrue hb h
    refine wp_seq (X_reg ?_)
    refine X_o K M ?_; clear K
    refine Y_o M ?_; intro a K
    refine wpList_nil (then_n (wp_ret (then_r ?_)))
    cases h
    exact ret2 K rfl (res_tmp K rfl) (res_tmp K rfl) ⟨_, rfl, rfl, ((M).pick [] (by decide))⟩
  have h := cfalse hb h
  refine wp_skip (then_n (wp_seq (wp_seq (X_reg ?_))))
  refine X_o K M ?_; clear K
  iterate 2 (refine Y_o M ?_)
  intro a K
  rcases Bool.eq_false_or_eq_true (decide (x2 < 0)) with hb | hb
  · have h := ctrue hb h
    have K := K.reb (s := 11) rfl hb
    refine X_o K M ?_; clear K
    iterate 2 (refine Y_o M ?_)
    intro a K
    refine wpList_nil (then_n ?_)
    refine X_condT K rfl ?_
    refine wp_seq (X_reg ?_)
    refine X_o K M ?_; clear K
    refine Y_o M ?_; intro a K
    refine wpList_nil (then_n (wp_ret (then_r ?_)))
    cases h
    exact ret2 K rfl (res_tmp K rfl) (res_tmp K rfl) ⟨_, rfl, rfl, ((M).pick [] (by decide))⟩
  have h := cfalse hb h
  have K := K.reb (s := 11) rfl hb
  refine X_o K M ?_; clear K
  iterate 2 (refine Y_o M ?_)
  intro a K
  refine wpList_nil (then_n ?_)
  refine X_cond K rfl (fun hb => ?_) (fun hb => ?_)
  · have h := ctrue hb h
    refine wp_seq (X_reg ?_)
    refine X_o K M ?_; clear K
    refine Y_o M ?_; intro a K
    refine wpList_nil (then_n (wp_ret (then_r ?_)))
    cases h
    exact ret2 K rfl (res_tmp K rfl) (res_tmp K rfl) ⟨_, rfl, rfl, ((M).pick [] (by decide))⟩
  have h := cfalse hb h
  refine wp_skip (then_n (wp_seq (X_reg ?_)))
  refine X_o K M ?_; clear K
  refine Y_o M ?_; intro a K
  obtain ⟨r3, h_r3, h⟩ := obind h
  refine X_a K (ac_call (vs := [.slice A_l2 l2.length c_l2, I x2]) (cap := []) rfl fok60 K rfl rfl (W_tone_on N l2 A_l2 c_l2 x2 _ ((inA R_l2) _ M) C_l2 r3 h_r3)) ?_
  have M0 := M; clear K M; rintro _ a w ⟨rfl, M⟩ K
  replace M := M0.call M; clear M0
  refine X_o K M ?_; clear K
  refine Y_o M ?_; intro a K
  refine wpList_nil (then_n (wp_ret ?_))
  cases h
  exact ret2 K rfl (res_tmp K rfl) (res_tmp K rfl) ⟨_, rfl, rfl, ((M).pick [] (by decide))⟩
set_option maxRecDepth 100000 in
set_option maxHeartbeats 4000000 in
theorem W_tone_clamp (N : Nat) (n : Int) (w0 : World)  (r : Int) (h : D_tone_clamp N n = some r) :
    Calls Try.prog 27 #[I n] w0 fun e w' => ∃ v, e = .returned v ∧ v = I r ∧ Mem w0.heap.size w0 w' [] := by
  refine X_enter Try.func27 rfl Try.ntmps27 rfl ?_
  intro a K
  have M := Mem.start w0
  have K : Kn a 6 [(0, I n)] := K
  unfold D_tone_clamp at h
  refine wp_seq (X_reg ?_)
  refine X_o K M ?_; clear K; intro a K
  refine wpList_nil (then_n (wp_seq (X_reg ?_)))
  refine X_o K M ?_; clear K
  iterate 3 (refine Y_o M ?_)
  intro a K
  refine wpList_nil (then_n (wp_ret ?_))
  cases h
  exact ret1 K rfl (res_tmp K rfl) ⟨_, rfl, rfl, ((M).pick [] (by decide))⟩
set_option maxRecDepth 100000 in
set_option maxHeartbeats 4000000 in
theorem W_tone_Mix_1 (N : Nat) (c_R : Int) (c_G : Int) (c_B : Int) (k : Int) (v00 : Int) (v01 : Int) (v02 : Int) (v03 : Int) (v04 : Int) (v05 : Int) (v06 : Int) (v07 : Int) (v08 : Int) (g_v0 : Nat) (w0 : World) (B_g_v0 : Blk w0 g_v0 39 #[I v00, I v01, I v02, I v03, I v04, I v05, I v06, I v07, I v08]) (r : Int) (h : D_tone_Mix_1 N c_R c_G c_B k v00 v01 v02 v03 v04 v05 v06 v07 v08 = some r) :
    Calls Try.prog 57 #[.agg #[I c_R, I c_G, I c_B], I k, .pointer (some ⟨g_v0, 0, none⟩)] w0 fun e w' => ∃ v, e = .returned v ∧ v = I r ∧ Mem w0.heap.size w0 w' [] := by
  refine X_enter Try.func57 rfl Try.ntmps57 rfl ?_
  intro a K
  have M := Mem.start w0
  have K : Kn a 30 [(0, .agg #[I c_R, I c_G, I c_B]), (1, I k), (2, .pointer (some ⟨g_v0, 0, none⟩))] := K
  unfold D_tone_Mix_1 at h
  refine wp_seq (X_reg ?_)
  refine X_a K (ac_box rfl K rfl (cs := [I c_R, I c_G, I c_B]) rfl M) ?_
  clear K M; rintro _ a w ⟨g_c, rfl, M⟩ K
  refine X_o K M ?_; clear K; intro a K
  refine wpList_nil (then_n (wp_seq ?_))
  refine wp_region_tl (fun w => Mem _ _ w _) [0,0,0,0,0,0,0,0,0,0,0,0,0,0,0,0,0,0,0,0,0,0,0,1,0] (by kernel_rfl) (by kernel_rfl) M.drew ?_
  replace M := M.drew
  refine T_o K ?_; clear K; intro a K
  obtain ⟨_, h0, h⟩ := obind h
  have h0 := inr_spec h0
  refine T_r K (rd_ixA rfl ar39 sz3 K rfl rfl h0.1 h0.2) ?_; clear K
  obtain ⟨e, h_e, h⟩ := obind h
  refine U_r (fun _ K => rd_ldIa rfl sc3 K rfl (inO B_g_v0) rfl rfl h_e) ?_
  refine U_r (fun _ K => rd_field rfl fld34_0 K rfl) ?_
  refine U_r (fun _ K => rd_ldC rfl sc3 K rfl (inM 0 rfl) rfl) ?_
  iterate 3 (refine U_o ?_)
  intro a K
  obtain ⟨_, h0, h⟩ := obind h
  have h0 := inr_spec h0
  refine T_r K (rd_ixA rfl ar39 sz3 K rfl rfl h0.1 h0.2) ?_; clear K
  obtain ⟨e2, h_e2, h⟩ := obind h
  refine U_r (fun _ K => rd_ldIa rfl sc3 K rfl (inO B_g_v0) rfl rfl h_e2) ?_
  refine U_r (fun _ K => rd_field rfl fld34_1 K rfl) ?_
  refine U_r (fun _ K => rd_ldC rfl sc3 K rfl (inM 0 rfl) rfl) ?_
  iterate 4 (refine U_o ?_)
  intro a K
  obtain ⟨_, h0, h⟩ := obind h
  have h0 := inr_spec h0
  refine T_r K (rd_ixA rfl ar39 sz3 K rfl rfl h0.1 h0.2) ?_; clear K
  obtain ⟨e3, h_e3, h⟩ := obind h
  refine U_r (fun _ K => rd_ldIa rfl sc3 K rfl (inO B_g_v0) rfl rfl h_e3) ?_
  refine U_r (fun _ K => rd_field rfl fld34_2 K rfl) ?_
  refine U_r (fun _ K => rd_ldC rfl sc3 K rfl (inM 0 rfl) rfl) ?_
  iterate 2 (refine U_o ?_)
  refine U_r (fun _ K => rd_shr rfl K rfl rfl (by decide)) ?_; intro a K
  obtain ⟨r2, h_r2, h⟩ := obind h
  refine T_a K (ac_call (vs := [I (shrI .i64 (IntKind.i64.wrap ((IntKind.i64.wrap ((IntKind.i64.wrap (e * c_R)) + (IntKind.i64.wrap (e2 * c_G)))) + (IntKind.i64.wrap (e3 * c_B)))) 12)]) (cap := []) rfl fok27 K rfl rfl (W_tone_clamp N (shrI .i64 (IntKind.i64.wrap ((IntKind.i64.wrap ((IntKind.i64.wrap (e * c_R)) + (IntKind.i64.wrap (e2 * c_G)))) + (IntKind.i64.wrap (e3 * c_B)))) 12) _  r2 h_r2)) ?_
  have M0 := M; clear K M; rintro _ a w ⟨rfl, M⟩ K
  replace M := M0.call M; clear M0
  refine ⟨M.pick [0] (by decide), ?_⟩
  refine T_o K ?_; clear K; intro a K
  refine T_end ?_
  refine then_n (wp_ret ?_)
  cases h
  exact ret1 K rfl (res_tmp K rfl) ⟨_, rfl, rfl, ((M).pick [] (by decide))⟩
set_option maxRecDepth 100000 in
set_option maxHeartbeats 4000000 in
theorem W_tone_Mix_2 (N : Nat) (c_R : Int) (c_G : Int) (c_B : Int) (x2 : Int) (y : Int) (v0_00 : Int) (v0_01 : Int) (v0_02 : Int) (v0_03 : Int) (v0_04 : Int) (v0_05 : Int) (v0_06 : Int) (v0_07 : Int) (v0_08 : Int) (g_v0_0 : Nat) (g_v0 : Nat) (w0 : World) (B_g_v0_0 : Blk w0 g_v0_0 39 #[I v0_00, I v0_01, I v0_02, I v0_03, I v0_04, I v0_05, I v0_06, I v0_07, I v0_08]) (B_g_v0 : Blk w0 g_v0 104 #[.func (.func 57) #[] #[.pointer (some ⟨g_v0_0, 0, none⟩)]]) (r : Int × Int × Int) (h : D_tone_Mix_2 N c_R c_G c_B x2 y v0_00 v0_01 v0_02 v0_03 v0_04 v0_05 v0_06 v0_07 v0_08 = some r) :
    Calls Try.prog 58 #[.agg #[I c_R, I c_G, I c_B], I x2, I y, .pointer (some ⟨g_v0, 0, none⟩)] w0 fun e w' => ∃ v, e = .returned v ∧ v = .agg #[I r.1, I r.2.1, I r.2.2] ∧ Mem w0.heap.size w0 w' [] := by
  refine X_enter Try.func58 rfl Try.ntmps58 rfl ?_
  intro a K
  have M := Mem.start w0
  have K : Kn a 18 [(0, .agg #[I c_R, I c_G, I c_B]), (1, I x2), (2, I y), (3, .pointer (some ⟨g_v0, 0, none⟩))] := K
  unfold D_tone_Mix_2 at h
  refine wp_seq (X_reg ?_)
  refine X_a K (ac_box rfl K rfl (cs := [I c_R, I c_G, I c_B]) rfl M) ?_
  clear K M; rintro _ a w ⟨g_c, rfl, M⟩ K
  refine X_a K (ac_alloc rfl z34 M) ?_
  clear K M; rintro _ a w ⟨g_x, rfl, M⟩ K
  refine wpList_nil (then_n (wp_seq ?_))
  refine wp_region_tl (fun w => Mem _ _ w _) [0,0,1,0,0,1,0,0,1,0,2] (by kernel_rfl) (by kernel_rfl) M.drew ?_
  replace M := M.drew
  refine T_r K (rd_ldC rfl sc104 K rfl (inO B_g_v0) rfl) ?_; clear K
  refine U_r (fun _ K => rd_ldA rfl ty34 K rfl (inM 1 rfl) rfl rfl) ?_; intro a K
  obtain ⟨r2, h_r2, h⟩ := obind h
  refine T_a K (ac_call (vs := [.agg #[I c_R, I c_G, I c_B], I 0]) (cap := [.pointer (some ⟨g_v0_0, 0, none⟩)]) rfl fok57 K rfl rfl (W_tone_Mix_1 N c_R c_G c_B 0 v0_00 v0_01 v0_02 v0_03 v0_04 v0_05 v0_06 v0_07 v0_08 g_v0_0 _ (inO B_g_v0_0 _ M) r2 h_r2)) ?_
  have M0 := M; clear K M; rintro _ a w ⟨rfl, M⟩ K
  replace M := M0.call M; clear M0
  refine ⟨M.pick [0,1] (by decide), ?_⟩
  refine T_r K (rd_ldC rfl sc104 K rfl (inO B_g_v0) rfl) ?_; clear K
  refine U_r (fun _ K => rd_ldA rfl ty34 K rfl (inM 1 rfl) rfl rfl) ?_; intro a K
  obtain ⟨r3, h_r3, h⟩ := obind h
  refine T_a K (ac_call (vs := [.agg #[I c_R, I c_G, I c_B], I 3]) (cap := [.pointer (some ⟨g_v0_0, 0, none⟩)]) rfl fok57 K rfl rfl (W_tone_Mix_1 N c_R c_G c_B 3 v0_00 v0_01 v0_02 v0_03 v0_04 v0_05 v0_06 v0_07 v0_08 g_v0_0 _ (inO B_g_v0_0 _ M) r3 h_r3)) ?_
  have M0 := M; clear K M; rintro _ a w ⟨rfl, M⟩ K
  replace M := M0.call M; clear M0
  refine ⟨M.pick [0,1] (by decide), ?_⟩
  refine T_r K (rd_ldC rfl sc104 K rfl (inO B_g_v0) rfl) ?_; clear K
  refine U_r (fun _ K => rd_ldA rfl ty34 K rfl (inM 1 rfl) rfl rfl) ?_; intro a K
  obtain ⟨r4, h_r4, h⟩ := obind h
  refine T_a K (ac_call (vs := [.agg #[I c_R, I c_G, I c_B], I 6]) (cap := [.pointer (some ⟨g_v0_0, 0, none⟩)]) rfl fok57 K rfl rfl (W_tone_Mix_1 N c_R c_G c_B 6 v0_00 v0_01 v0_02 v0_03 v0_04 v0_05 v0_06 v0_07 v0_08 g_v0_0 _ (inO B_g_v0_0 _ M) r4 h_r4)) ?_
  have M0 := M; clear K M; rintro _ a w ⟨rfl, M⟩ K
  replace M := M0.call M; clear M0
  refine ⟨M.pick [0,1] (by decide), ?_⟩
  refine T_r K (rd_build rfl K (vs := [(0, I r2), (1, I r3), (2, I r4)]) (cs := [I r2, I r3, I r4]) rfl (by kernel_rfl)) ?_; clear K; intro a K
  refine T_b K (ac_storeA rfl ty34 K rfl (ds := [I r2, I r3, I r4]) rfl rfl 0 M rfl rfl rfl) ?_
  clear K M; rintro _ a w M K
  refine T_end ?_
  refine then_n (wp_ret ?_)
  cases h
  exact ret1 K rfl (res_cellA K rfl ty34 (M.blkAt (i := 0) rfl) rfl) ⟨_, rfl, rfl, ((M).pick [] (by decide))⟩
set_option maxRecDepth 100000 in
set_option maxHeartbeats 4000000 in
theorem W_tone_each__tone_Mix_2 (N : Nat) (q_W : Int) (q_H : Int) (q_P : List (Int × Int × Int)) (A_q_P : Option Addr) (c_q_P : Nat) (Mix_2_0_00 : Int) (Mix_2_0_01 : Int) (Mix_2_0_02 : Int) (Mix_2_0_03 : Int) (Mix_2_0_04 : Int) (Mix_2_0_05 : Int) (Mix_2_0_06 : Int) (Mix_2_0_07 : Int) (Mix_2_0_08 : Int) (g_Mix_2_0_0 : Nat) (g_Mix_2_0 : Nat) (w0 : World) (R_q_P : SL w0 cIII A_q_P q_P) (C_q_P : q_P.length ≤ c_q_P) (B_g_Mix_2_0_0 : Blk w0 g_Mix_2_0_0 39 #[I Mix_2_0_00, I Mix_2_0_01, I Mix_2_0_02, I Mix_2_0_03, I Mix_2_0_04, I Mix_2_0_05, I Mix_2_0_06, I Mix_2_0_07, I Mix_2_0_08]) (B_g_Mix_2_0 : Blk w0 g_Mix_2_0 104 #[.func (.func 57) #[] #[.pointer (some ⟨g_Mix_2_0_0, 0, none⟩)]]) (r : Int × Int × List (Int × Int × Int) × Int) (h : D_tone_each__tone_Mix_2 N q_W q_H q_P Mix_2_0_00 Mix_2_0_01 Mix_2_0_02 Mix_2_0_03 Mix_2_0_04 Mix_2_0_05 Mix_2_0_06 Mix_2_0_07 Mix_2_0_08 = some r) :
    Calls Try.prog 28 #[.agg #[I q_W, I q_H, .slice A_q_P q_P.length c_q_P], .func (.func 58) #[] #[.pointer (some ⟨g_Mix_2_0, 0, none⟩)]] w0 fun e w' => ∃ v, e = .returned v ∧ ∃ A2 c2, v = .tuple #[.agg #[I r.1, I r.2.1, .slice A2 r.2.2.1.length c2], I r.2.2.2] ∧ Mem w0.heap.size w0 w' [.row 34 3 A2 r.2.2.1.length c2 (cIII.all r.2.2.1)] := by
  refine X_enter Try.func28 rfl Try.ntmps28 rfl ?_
  intro a K
  have M := Mem.start w0
  have K : Kn a 54 [(0, .agg #[I q_W, I q_H, .slice A_q_P q_P.length c_q_P]), (1, .func (.func 58) #[] #[.pointer (some ⟨g_Mix_2_0, 0, none⟩)])] := K
  unfold D_tone_each__tone_Mix_2 at h
  refine wp_seq (X_reg ?_)
  refine X_a K (ac_box rfl K rfl (cs := [I q_W, I q_H, .slice A_q_P q_P.length c_q_P]) rfl M) ?_
  clear K M; rintro _ a w ⟨g_q, rfl, M⟩ K
  refine X_a K (ac_alloc rfl z24 M) ?_
  clear K M; rintro _ a w ⟨g_x, rfl, M⟩ K
  refine X_o K M ?_; clear K; intro a K
  refine wpList_nil (then_n (wp_seq (wp_seq (X_reg ?_))))
  refine X_r K (rd_ldA rfl ty24 K rfl (inM 1 rfl) rfl rfl) M ?_; clear K; intro a K
  obtain ⟨r2, h_r2, h⟩ := obind h
  refine X_a K (ac_call (vs := [.agg #[I q_W, I q_H, .slice A_q_P q_P.length c_q_P], I 0]) (cap := []) rfl fok56 K rfl rfl (W_mosaic_Take N q_W q_H q_P A_q_P c_q_P 0 _ ((inA R_q_P) _ M) C_q_P r2 h_r2)) ?_
  have M0 := M; clear K M; rintro _ a w ⟨A, c, rfl, M⟩ K
  replace M := M0.call M; clear M0
  refine X_o K M ?_; clear K
  iterate 2 (refine Y_o M ?_)
  intro a K
  refine X_a K (ac_alloc rfl z45 M) ?_
  clear K M; rintro _ a w ⟨g__, rfl, M⟩ K
  refine X_b K (ac_storeA rfl ty45 K rfl (ds := [I r2.1, I r2.2.1, .slice A r2.2.2.1.length c]) rfl rfl 0 M rfl rfl rfl) ?_
  clear K M; rintro _ a w M K
  refine X_o K M ?_; clear K; intro a K
  refine wpList_nil (then_n (wp_seq (X_reg ?_)))
  refine X_o K M ?_; clear K
  refine Y_o M ?_; intro a K
  refine wpList_nil (then_n ?_)
  refine X_cond K rfl (fun hb => ?_) (fun hb => ?_)
  · have h := ctrue hb h
    refine wp_seq (X_reg ?_)
    refine X_r K (rd_build rfl K (vs := []) (cs := [I 0, I 0, .slice none (([] : List (Int × Int × Int))).length 0]) rfl (by kernel_rfl)) M ?_; clear K
    refine Y_o M ?_; intro a K
    refine X_b K (ac_storeA rfl ty24 K rfl (ds := [I 0, I 0, .slice none (([] : List (Int × Int × Int))).length 0]) rfl rfl 2 M rfl rfl rfl) ?_
    clear K M; rintro _ a w M K
    refine X_o K M ?_; clear K; intro a K
    refine wpList_nil (then_n (wp_ret (then_r ?_)))
    cases h
    exact ret2 K rfl (res_cellA K rfl ty24 (M.blkAt (i := 2) rfl) rfl) (res_tmp K rfl) ⟨_, rfl, _, _, rfl, (((Mem.nilrow 34 3 cIII M)).pick [0] (by decide))⟩
  have h := cfalse hb h
  refine wp_skip (then_n (wp_seq ?_))
  refine wp_region_tr (fun w => Mem _ _ w _) [0,0,0,0,0,0,0,1,0,1,2] 11 [0,1,2,3,4,5,6,7,8,9,10] (by kernel_rfl) (by kernel_rfl) (by kernel_rfl) rfl M.drew ?_
  replace M := M.drew
  refine R_rd 0 [1,2,3,4,5,6,7,8,9,10] (by kernel_rfl) rfl K (want_no rfl) rfl rfl (rd_field rfl fld24_0 K rfl) ?_; clear K; intro a K
  refine R_rd 1 [2,3,4,5,6,7,8,9,10] (by kernel_rfl) rfl K (want_no rfl) rfl rfl (rd_ldC rfl sc3 K rfl (inM 3 rfl) rfl) ?_; clear K; intro a K
  refine R_rd 2 [3,4,5,6,7,8,9,10] (by kernel_rfl) rfl K (want_no rfl) rfl rfl (rd_field rfl fld24_1 K rfl) ?_; clear K; intro a K
  refine R_rd 3 [4,5,6,7,8,9,10] (by kernel_rfl) rfl K (want_no rfl) rfl rfl (rd_ldC rfl sc3 K rfl (inM 3 rfl) rfl) ?_; clear K; intro a K
  refine R_rd 4 [5,6,7,8,9,10] (by kernel_rfl) rfl K (want_no rfl) rfl rfl (rd_field rfl fld24_2 K rfl) ?_; clear K; intro a K
  refine R_rd 5 [6,7,8,9,10] (by kernel_rfl) rfl K (want_no rfl) rfl rfl (rd_ldC rfl sc22 K rfl (inM 3 rfl) rfl) ?_; clear K; intro a K
  obtain ⟨x2, hx, h⟩ := olet h
  refine R_rd 6 [7,8,9,10] (by kernel_rfl) rfl K (want_no rfl) rfl rfl (rdi hx (rd_len rfl un22 K rfl)) ?_; clear K; intro a K
  refine R_br [7,9] (by kernel_rfl) ⟨?_, ?_, trivial⟩
  ·
    obtain ⟨l2, h_l2, h⟩ := obind h
    refine R_ac [8,9,10] (by kernel_rfl) rfl K (want_no rfl) rfl rfl (ac_make (C := cIII) (z := (0, 0, 0)) rfl sl22 rfl z34 rfl K rfl rfl M h_l2) ?_
    clear K M; rintro _ a w ⟨A2, c2, rfl, M⟩ K
    refine ⟨fun _ => M.pick [1,2,3,4] (by decide), ?_⟩
    refine R_rd 8 [9,10] (by kernel_rfl) rfl K (want_no rfl) rfl rfl (rd_build rfl K (vs := [(0, I q_W), (1, I q_H), (2, .slice A2 l2.length c2)]) (cs := [I q_W, I q_H, .slice A2 l2.length c2]) rfl (by kernel_rfl)) ?_; clear K; intro a K
    refine R_br [9] (by kernel_rfl) ⟨?_, trivial⟩
    refine R_ac [10] (by kernel_rfl) rfl K (want_no rfl) rfl rfl (ac_alloc rfl z24 M) ?_
    clear K M; rintro _ a w ⟨g_out, rfl, M⟩ K
    refine ⟨fun _ => M.pick [2,3,4,5] (by decide), ?_⟩
    refine R_br [10] (by kernel_rfl) ⟨?_, trivial⟩
    refine R_a0 [] (by kernel_rfl) rfl K (want_no rfl) rfl (ac_storeA rfl ty24 K rfl (ds := [I q_W, I q_H, .slice A2 l2.length c2]) rfl rfl 0 M rfl rfl rfl) ?_
    clear K M; rintro _ a w M K
    refine ⟨fun h => absurd h (by decide), ?_⟩
    refine R_end ?_
    refine then_n (wp_seq (wp_seq (X_reg ?_)))
    refine X_r K (rd_field rfl fld24_2 K rfl) M ?_; clear K
    refine Y_r (fun _ K => rd_ldC rfl sc22 K rfl (inM 5 rfl) rfl) M ?_
    refine Y_r (fun _ K => rd_len rfl un22 K rfl) M ?_
    refine Y_o M ?_; intro a K
    refine wpList_nil (then_n (wp_block ?_))
    refine X_lp (id := 0) (Rel := fun (⟨out_P, i⟩ : List (Int × Int × Int) × Int) a w => ∃ (A3 : Option Addr) (c3 : Nat), Kn a 54 [(1, .func (.func 58) #[] #[.pointer (some ⟨g_Mix_2_0, 0, none⟩)]), (2, .pointer (some ⟨g_q, 0, none⟩)), (4, .pointer (some ⟨g_x, 0, none⟩)), (8, .pointer (some ⟨g_out, 0, none⟩)), (30, .slice A_q_P q_P.length c_q_P), (31, I (q_P.length : Int)), (32, I i)] ∧ Mem w0.heap.size w0 w [.blk g_out 24 [I q_W, I q_H, .slice A3 out_P.length c3], .row 34 3 A3 out_P.length c3 (cIII.all out_P), .blk g_x 24 [I 0, I 0, .slice none (([] : List (Int × Int × Int))).length 0], .blk g_q 24 [I q_W, I q_H, .slice A_q_P q_P.length c_q_P]]) h (fun _ _ => rfl) ⟨A2, c2, K.pick [1,2,4,8,30,31,32], M.pick [0,1,4,5] (by decide)⟩ ?_ ?_
    · clear K M h
      rintro ⟨out_P2, i2⟩ a w ⟨A4, c4, K, M⟩ h
      try dsimp only at h
      refine inb_e ?_
      refine then_n (wp_seq (X_reg ?_))
      refine X_r K (rd_ldA rfl ty24 K rfl (inM 0 rfl) rfl rfl) M ?_; clear K; intro a K
      refine X_b K (ac_storeA rfl ty24 K rfl (ds := [I q_W, I q_H, .slice A4 out_P2.length c4]) rfl rfl 2 M rfl rfl rfl) ?_
      clear K M; rintro _ a w M K
      refine X_o K M ?_; clear K; intro a K
      refine wpList_nil (then_n (wp_ret ?_))
      cases h
      exact ret2 K rfl (res_cellA K rfl ty24 (M.blkAt (i := 2) rfl) rfl) (res_tmp K rfl) ⟨_, rfl, _, _, rfl, ((M).pick [1] (by decide))⟩
    clear K M h
    rintro kk fuel ⟨out_P, i⟩ a w hk1 ⟨A3, c3, K, M⟩ h
    unfold D_tone_each__tone_Mix_2_l1 at h
    refine wp_seq (X_reg ?_)
    refine X_o K M ?_; clear K; intro a K
    refine wpList_nil (then_n (wp_seq ?_))
    refine X_cond K rfl (fun hb => ?_) (fun hb => ?_)
    · have h := ctrue hb h
      refine wp_skip (then_n (wp_seq (wp_block (wp_seq (X_reg ?_)))))
      refine X_o K M ?_; clear K
      obtain ⟨e3, h_e3, h⟩ := obind h
      refine Y_r (fun _ K => rd_ix rfl sl22 K rfl rfl (inA R_q_P) h_e3) M ?_
      refine Y_r (fun _ K => rd_elA rfl ty34 K rfl rfl rfl (inA R_q_P) h_e3) M ?_; intro a K
      refine X_a K (ac_alloc rfl z34 M) ?_
      clear K M; rintro _ a w ⟨g_c2, rfl, M⟩ K
      refine X_o K M ?_; clear K; intro a K
      refine X_b K (ac_storeA rfl ty34 K rfl (ds := [I e3.1, I e3.2.1, I e3.2.2]) rfl rfl 0 M rfl rfl rfl) ?_
      clear K M; rintro _ a w M K
      refine wpList_nil (then_n ?_)
      refine wp_region_tl (fun w => Mem _ _ w _) [0,0,0,0,0,0,0,0,0,0,0,0,0,1,0,2] (by kernel_rfl) (by kernel_rfl) M.drew ?_
      replace M := M.drew
      refine T_r K (rd_field rfl fld24_2 K rfl) ?_; clear K
      refine U_r (fun _ K => rd_ldC rfl sc22 K rfl (inM 1 rfl) rfl) ?_
      iterate 2 (refine U_o ?_)
      refine U_r (fun _ K => rd_ldA rfl ty34 K rfl (inM 0 rfl) rfl rfl) ?_
      refine U_o ?_
      refine U_r (fun _ K => rd_field rfl fld24_0 K rfl) ?_
      refine U_r (fun _ K => rd_ldC rfl sc3 K rfl (inM 4 rfl) rfl) ?_; intro a K
      obtain ⟨_, h0, h⟩ := obind h
      have h0 := nz_spec h0
      refine T_r K (rd_rem rfl K rfl rfl h0) ?_; clear K
      refine U_o ?_
      refine U_r (fun _ K => rd_field rfl fld24_0 K rfl) ?_
      refine U_r (fun _ K => rd_ldC rfl sc3 K rfl (inM 4 rfl) rfl) ?_; intro a K
      obtain ⟨_, h0, h⟩ := obind h
      have h0 := nz_spec h0
      refine T_r K (rd_quo rfl K rfl rfl h0) ?_; clear K; intro a K
      obtain ⟨r4, h_r4, h⟩ := obind h
      refine T_a K (ac_call (vs := [.agg #[I e3.1, I e3.2.1, I e3.2.2], I (Int.tmod i q_W), I (IntKind.i64.wrap (Int.tdiv i q_W))]) (cap := [.pointer (some ⟨g_Mix_2_0, 0, none⟩)]) rfl fok58 K rfl rfl (W_tone_Mix_2 N e3.1 e3.2.1 e3.2.2 (Int.tmod i q_W) (IntKind.i64.wrap (Int.tdiv i q_W)) Mix_2_0_00 Mix_2_0_01 Mix_2_0_02 Mix_2_0_03 Mix_2_0_04 Mix_2_0_05 Mix_2_0_06 Mix_2_0_07 Mix_2_0_08 g_Mix_2_0_0 g_Mix_2_0 _ (inO B_g_Mix_2_0_0 _ M) (inO B_g_Mix_2_0 _ M) r4 h_r4)) ?_
      have M0 := M; clear K M; rintro _ a w ⟨rfl, M⟩ K
      replace M := M0.call M; clear M0
      refine ⟨M.pick [0,1,2,3,4] (by decide), ?_⟩
      obtain ⟨e4, h_e4, h⟩ := obind h
      refine T_r K (rd_ix rfl sl22 K rfl rfl (inR (C := cIII) 2 rfl rfl) h_e4) ?_; clear K; intro a K
      obtain ⟨l4, h_l4, h⟩ := obind h
      refine T_b K (ac_rowset (el := (r4.1, r4.2.1, r4.2.2)) rfl sz34 rfl rfl K rfl rfl rfl 2 M rfl h_l4) ?_
      have M0 := M; clear K M; rintro _ a w M K
      have hl := setL_len h_l4
      try rw [hl] at M
      clear hl
      clear M0
      refine T_end ?_
      refine inb_n (then_n (X_reg ?_))
      refine X_o K M ?_; clear K
      refine Y_o M ?_; intro a K
      refine wpList_nil ?_
      exact then_n ⟨(l4, IntKind.i64.wrap (i + 1)), ⟨A3, c3, K.pick [1,2,4,8,30,31,32], M.pick [1,2,3,4] (by decide)⟩, h⟩
    have h := cfalse hb h
    refine wp_exit ?_
    refine then_e ?_
    exact then_e (hk1 (out_P, i) _ _ ⟨A3, c3, K.pick [1,2,4,8,30,31,32], M.pick [0,1,2,3] (by decide)⟩ h)
  ·
    refine R_ac [7,8,10] (by kernel_rfl) rfl K (want_no rfl) rfl rfl (ac_alloc rfl z24 M) ?_
    clear K M; rintro _ a w ⟨g_out2, rfl, M⟩ K
    refine ⟨fun _ => M.pick [1,2,3,4] (by decide), ?_⟩
    refine R_br [7] (by kernel_rfl) ⟨?_, trivial⟩
    obtain ⟨l5, h_l5, h⟩ := obind h
    refine R_ac [8,10] (by kernel_rfl) rfl K (want_no rfl) rfl rfl (ac_make (C := cIII) (z := (0, 0, 0)) rfl sl22 rfl z34 rfl K rfl rfl M h_l5) ?_
    clear K M; rintro _ a w ⟨A5, c5, rfl, M⟩ K
    refine ⟨fun _ => M.pick [2,3,4,5] (by decide), ?_⟩
    refine R_rd 8 [10] (by kernel_rfl) rfl K (want_no rfl) rfl rfl (rd_build rfl K (vs := [(0, I q_W), (1, I q_H), (2, .slice A5 l5.length c5)]) (cs := [I q_W, I q_H, .slice A5 l5.length c5]) rfl (by kernel_rfl)) ?_; clear K; intro a K
    refine R_br [10] (by kernel_rfl) ⟨?_, trivial⟩
    refine R_a0 [] (by kernel_rfl) rfl K (want_no rfl) rfl (ac_storeA rfl ty24 K rfl (ds := [I q_W, I q_H, .slice A5 l5.length c5]) rfl rfl 1 M rfl rfl rfl) ?_
    clear K M; rintro _ a w M K
    refine ⟨fun h => absurd h (by decide), ?_⟩
    refine R_end ?_
    refine then_n (wp_seq (wp_seq (X_reg ?_)))
    refine X_r K (rd_field rfl fld24_2 K rfl) M ?_; clear K
    refine Y_r (fun _ K => rd_ldC rfl sc22 K rfl (inM 5 rfl) rfl) M ?_
    refine Y_r (fun _ K => rd_len rfl un22 K rfl) M ?_
    refine Y_o M ?_; intro a K
    refine wpList_nil (then_n (wp_block ?_))
    refine X_lp (id := 0) (Rel := fun (⟨out_P3, i3⟩ : List (Int × Int × Int) × Int) a w => ∃ (A6 : Option Addr) (c6 : Nat), Kn a 54 [(1, .func (.func 58) #[] #[.pointer (some ⟨g_Mix_2_0, 0, none⟩)]), (2, .pointer (some ⟨g_q, 0, none⟩)), (4, .pointer (some ⟨g_x, 0, none⟩)), (8, .pointer (some ⟨g_out2, 0, none⟩)), (30, .slice A_q_P q_P.length c_q_P), (31, I (q_P.length : Int)), (32, I i3)] ∧ Mem w0.heap.size w0 w [.row 34 3 A6 out_P3.length c6 (cIII.all out_P3), .blk g_out2 24 [I q_W, I q_H, .slice A6 out_P3.length c6], .blk g_x 24 [I 0, I 0, .slice none (([] : List (Int × Int × Int))).length 0], .blk g_q 24 [I q_W, I q_H, .slice A_q_P q_P.length c_q_P]]) h (fun _ _ => rfl) ⟨A5, c5, K.pick [1,2,4,8,30,31,32], M.pick [0,1,4,5] (by decide)⟩ ?_ ?_
    · clear K M h
      rintro ⟨out_P4, i4⟩ a w ⟨A7, c7, K, M⟩ h
      try dsimp only at h
      refine inb_e ?_
      refine then_n (wp_seq (X_reg ?_))
      refine X_r K (rd_ldA rfl ty24 K rfl (inM 1 rfl) rfl rfl) M ?_; clear K; intro a K
      refine X_b K (ac_storeA rfl ty24 K rfl (ds := [I q_W, I q_H, .slice A7 out_P4.length c7]) rfl rfl 2 M rfl rfl rfl) ?_
      clear K M; rintro _ a w M K
      refine X_o K M ?_; clear K; intro a K
      refine wpList_nil (then_n (wp_ret ?_))
      cases h
      exact ret2 K rfl (res_cellA K rfl ty24 (M.blkAt (i := 2) rfl) rfl) (res_tmp K rfl) ⟨_, rfl, _, _, rfl, ((M).pick [0] (by decide))⟩
    clear K M h
    rintro kk fuel ⟨out_P3, i3⟩ a w hk1 ⟨A6, c6, K, M⟩ h
    unfold D_tone_each__tone_Mix_2_l1 at h
    refine wp_seq (X_reg ?_)
    refine X_o K M ?_; clear K; intro a K
    refine wpList_nil (then_n (wp_seq ?_))
    refine X_cond K rfl (fun hb => ?_) (fun hb => ?_)
    · have h := ctrue hb h
      refine wp_skip (then_n (wp_seq (wp_block (wp_seq (X_reg ?_)))))
      refine X_o K M ?_; clear K
      obtain ⟨e7, h_e7, h⟩ := obind h
      refine Y_r (fun _ K => rd_ix rfl sl22 K rfl rfl (inA R_q_P) h_e7) M ?_
      refine Y_r (fun _ K => rd_elA rfl ty34 K rfl rfl rfl (inA R_q_P) h_e7) M ?_; intro a K
      refine X_a K (ac_alloc rfl z34 M) ?_
      clear K M; rintro _ a w ⟨g_c4, rfl, M⟩ K
      refine X_o K M ?_; clear K; intro a K
      refine X_b K (ac_storeA rfl ty34 K rfl (ds := [I e7.1, I e7.2.1, I e7.2.2]) rfl rfl 0 M rfl rfl rfl) ?_
      clear K M; rintro _ a w M K
      refine wpList_nil (then_n ?_)
      refine wp_region_tl (fun w => Mem _ _ w _) [0,0,0,0,0,0,0,0,0,0,0,0,0,1,0,2] (by kernel_rfl) (by kernel_rfl) M.drew ?_
      replace M := M.drew
      refine T_r K (rd_field rfl fld24_2 K rfl) ?_; clear K
      refine U_r (fun _ K => rd_ldC rfl sc22 K rfl (inM 2 rfl) rfl) ?_
      iterate 2 (refine U_o ?_)
      refine U_r (fun _ K => rd_ldA rfl ty34 K rfl (inM 0 rfl) rfl rfl) ?_
      refine U_o ?_
      refine U_r (fun _ K => rd_field rfl fld24_0 K rfl) ?_
      refine U_r (fun _ K => rd_ldC rfl sc3 K rfl (inM 4 rfl) rfl) ?_; intro a K
      obtain ⟨_, h0, h⟩ := obind h
      have h0 := nz_spec h0
      refine T_r K (rd_rem rfl K rfl rfl h0) ?_; clear K
      refine U_o ?_
      refine U_r (fun _ K => rd_field rfl fld24_0 K rfl) ?_
      refine U_r (fun _ K => rd_ldC rfl sc3 K rfl (inM 4 rfl) rfl) ?_; intro a K
      obtain ⟨_, h0, h⟩ := obind h
      have h0 := nz_spec h0
      refine T_r K (rd_quo rfl K rfl rfl h0) ?_; clear K; intro a K
      obtain ⟨r6, h_r6, h⟩ := obind h
      refine T_a K (ac_call (vs := [.agg #[I e7.1, I e7.2.1, I e7.2.2], I (Int.tmod i3 q_W), I (IntKind.i64.wrap (Int.tdiv i3 q_W))]) (cap := [.pointer (some ⟨g_Mix_2_0, 0, none⟩)]) rfl fok58 K rfl rfl (W_tone_Mix_2 N e7.1 e7.2.1 e7.2.2 (Int.tmod i3 q_W) (IntKind.i64.wrap (Int.tdiv i3 q_W)) Mix_2_0_00 Mix_2_0_01 Mix_2_0_02 Mix_2_0_03 Mix_2_0_04 Mix_2_0_05 Mix_2_0_06 Mix_2_0_07 Mix_2_0_08 g_Mix_2_0_0 g_Mix_2_0 _ (inO B_g_Mix_2_0_0 _ M) (inO B_g_Mix_2_0 _ M) r6 h_r6)) ?_
      have M0 := M; clear K M; rintro _ a w ⟨rfl, M⟩ K
      replace M := M0.call M; clear M0
      refine ⟨M.pick [0,1,2,3,4] (by decide), ?_⟩
      obtain ⟨e8, h_e8, h⟩ := obind h
      refine T_r K (rd_ix rfl sl22 K rfl rfl (inR (C := cIII) 1 rfl rfl) h_e8) ?_; clear K; intro a K
      obtain ⟨l7, h_l7, h⟩ := obind h
      refine T_b K (ac_rowset (el := (r6.1, r6.2.1, r6.2.2)) rfl sz34 rfl rfl K rfl rfl rfl 1 M rfl h_l7) ?_
      have M0 := M; clear K M; rintro _ a w M K
      have hl := setL_len h_l7
      try rw [hl] at M
      clear hl
      clear M0
      refine T_end ?_
      refine inb_n (then_n (X_reg ?_))
      refine X_o K M ?_; clear K
      refine Y_o M ?_; intro a K
      refine wpList_nil ?_
      exact then_n ⟨(l7, IntKind.i64.wrap (i3 + 1)), ⟨A6, c6, K.pick [1,2,4,8,30,31,32], M.pick [1,2,3,4] (by decide)⟩, h⟩
    have h := cfalse hb h
    refine wp_exit ?_
    refine then_e ?_
    exact then_e (hk1 (out_P3, i3) _ _ ⟨A6, c6, K.pick [1,2,4,8,30,31,32], M.pick [0,1,2,3] (by decide)⟩ h)
set_option maxRecDepth 100000 in
set_option maxHeartbeats 4000000 in
theorem W_tone_Mix (N : Nat) (q_W : Int) (q_H : Int) (q_P : List (Int × Int × Int)) (A_q_P : Option Addr) (c_q_P : Nat) (m0 : Int) (m1 : Int) (m2 : Int) (m3 : Int) (m4 : Int) (m5 : Int) (m6 : Int) (m7 : Int) (m8 : Int) (w0 : World) (R_q_P : SL w0 cIII A_q_P q_P) (C_q_P : q_P.length ≤ c_q_P) (r : Int × Int × List (Int × Int × Int) × Int) (h : D_tone_Mix N q_W q_H q_P m0 m1 m2 m3 m4 m5 m6 m7 m8 = some r) :
    Calls Try.prog 35 #[.agg #[I q_W, I q_H, .slice A_q_P q_P.length c_q_P], .agg #[I m0, I m1, I m2, I m3, I m4, I m5, I m6, I m7, I m8]] w0 fun e w' => ∃ v, e = .returned v ∧ ∃ A2 c2, v = .tuple #[.agg #[I r.1, I r.2.1, .slice A2 r.2.2.1.length c2], I r.2.2.2] ∧ Mem w0.heap.size w0 w' [.row 34 3 A2 r.2.2.1.length c2 (cIII.all r.2.2.1)] := by
  refine X_enter Try.func35 rfl Try.ntmps35 rfl ?_
  intro a K
  have M := Mem.start w0
  have K : Kn a 42 [(0, .agg #[I q_W, I q_H, .slice A_q_P q_P.length c_q_P]), (1, .agg #[I m0, I m1, I m2, I m3, I m4, I m5, I m6, I m7, I m8])] := K
  unfold D_tone_Mix at h
  refine wp_seq (X_reg ?_)
  refine X_a K (ac_box rfl K rfl (cs := [I q_W, I q_H, .slice A_q_P q_P.length c_q_P]) rfl M) ?_
  clear K M; rintro _ a w ⟨g_q, rfl, M⟩ K
  refine X_a K (ac_box rfl K rfl (cs := [I m0, I m1, I m2, I m3, I m4, I m5, I m6, I m7, I m8]) rfl M) ?_
  clear K M; rintro _ a w ⟨g_m, rfl, M⟩ K
  refine X_a K (ac_alloc rfl z24 M) ?_
  clear K M; rintro _ a w ⟨g_x, rfl, M⟩ K
  refine X_o K M ?_; clear K; intro a K
  refine wpList_nil (then_n (wp_seq (X_reg ?_)))
  refine X_o K M ?_; clear K; intro a K
  refine wpList_nil (then_n (wp_seq (wp_seq (X_reg ?_))))
  refine X_r K (rd_ldA rfl ty39 K rfl (inM 1 rfl) rfl rfl) M ?_; clear K
  refine Y_o M ?_; intro a K
  refine wpList_nil (then_n (wp_block ?_))
  refine X_lp (id := 0) (Rel := fun (⟨fine, i⟩ : Bool × Int) a w => Kn a 42 [(2, .pointer (some ⟨g_q, 0, none⟩)), (3, .pointer (some ⟨g_m, 0, none⟩)), (4, .pointer (some ⟨g_x, 0, none⟩)), (6, .bool fine), (12, .agg #[I m0, I m1, I m2, I m3, I m4, I m5, I m6, I m7, I m8]), (13, I i)] ∧ Mem w0.heap.size w0 w [.blk g_x 24 [I 0, I 0, .slice none (([] : List (Int × Int × Int))).length 0], .blk g_m 39 [I m0, I m1, I m2, I m3, I m4, I m5, I m6, I m7, I m8], .blk g_q 24 [I q_W, I q_H, .slice A_q_P q_P.length c_q_P]]) h (fun _ _ => rfl) ⟨K.pick [2,3,4,6,12,13], M.pick [0,1,2] (by decide)⟩ ?_ ?_
  · clear K M h
    rintro ⟨fine2, i2⟩ a w ⟨K, M⟩ h
    try dsimp only at h
    refine inb_e ?_
    refine then_n (wp_seq (X_reg ?_))
    refine X_r K (rd_func rfl K (vs := [.pointer (some ⟨g_m, 0, none⟩)]) rfl) M ?_; clear K; intro a K
    refine X_a K (ac_alloc rfl z104 M) ?_
    clear K M; rintro _ a w ⟨g_row, rfl, M⟩ K
    refine X_b K (ac_storeC rfl sc104 K rfl rfl rfl 0 M rfl rfl) ?_
    clear K M; rintro _ a w M K
    refine wpList_nil (then_n (wp_seq (X_reg ?_)))
    refine X_r K (rd_ldA rfl ty24 K rfl (inM 3 rfl) rfl rfl) M ?_; clear K
    refine Y_r (fun _ K => rd_func rfl K (vs := [.pointer (some ⟨g_row, 0, none⟩)]) rfl) M ?_; intro a K
    obtain ⟨r2, h_r2, h⟩ := obind h
    refine X_a K (ac_call (vs := [.agg #[I q_W, I q_H, .slice A_q_P q_P.length c_q_P], .func (.func 58) #[] #[.pointer (some ⟨g_row, 0, none⟩)]]) (cap := []) rfl fok28 K rfl rfl (W_tone_each__tone_Mix_2 N q_W q_H q_P A_q_P c_q_P m0 m1 m2 m3 m4 m5 m6 m7 m8 g_m g_row _ ((inA R_q_P) _ M) C_q_P (M.blkAt (i := 2) rfl) (M.blkAt (i := 0) rfl) r2 h_r2)) ?_
    have M0 := M; clear K M; rintro _ a w ⟨A, c, rfl, M⟩ K
    replace M := M0.call M; clear M0
    refine X_o K M ?_; clear K
    iterate 2 (refine Y_o M ?_)
    intro a K
    refine X_a K (ac_alloc rfl z24 M) ?_
    clear K M; rintro _ a w ⟨g_out, rfl, M⟩ K
    refine X_b K (ac_storeA rfl ty24 K rfl (ds := [I r2.1, I r2.2.1, .slice A r2.2.2.1.length c]) rfl rfl 0 M rfl rfl rfl) ?_
    clear K M; rintro _ a w M K
    refine X_o K M ?_; clear K; intro a K
    refine wpList_nil (then_n (wp_seq (wp_seq (X_reg ?_))))
    refine X_o K M ?_; clear K
    iterate 2 (refine Y_o M ?_)
    intro a K
    rcases Bool.eq_false_or_eq_true (decide (r2.2.2.2 = 0)) with hb | hb
    · have h := ctrue hb h
      have K := K.reb (s := 35) rfl hb
      refine X_o K M ?_; clear K
      iterate 2 (refine Y_o M ?_)
      intro a K
      refine wpList_nil (then_n ?_)
      refine X_cond K rfl (fun hb => ?_) (fun hb => ?_)
      · have h := ctrue hb h
        refine wp_seq (X_reg ?_)
        refine X_r K (rd_build rfl K (vs := []) (cs := [I 0, I 0, .slice none (([] : List (Int × Int × Int))).length 0]) rfl (by kernel_rfl)) M ?_; clear K; intro a K
        refine X_b K (ac_storeA rfl ty24 K rfl (ds := [I 0, I 0, .slice none (([] : List (Int × Int × Int))).length 0]) rfl rfl 3 M rfl rfl rfl) ?_
        clear K M; rintro _ a w M K
        refine X_o K M ?_; clear K; intro a K
        refine wpList_nil (then_n (wp_ret (then_r ?_)))
        cases h
        exact ret2 K rfl (res_cellA K rfl ty24 (M.blkAt (i := 3) rfl) rfl) (res_tmp K rfl) ⟨_, rfl, _, _, rfl, (((Mem.nilrow 34 3 cIII M)).pick [0] (by decide))⟩
      have h := cfalse hb h
      refine wp_skip (then_n (wp_seq (X_reg ?_)))
      refine X_r K (rd_ldA rfl ty24 K rfl (inM 0 rfl) rfl rfl) M ?_; clear K
      refine Y_o M ?_; intro a K
      refine X_b K (ac_storeA rfl ty24 K rfl (ds := [I r2.1, I r2.2.1, .slice A r2.2.2.1.length c]) rfl rfl 3 M rfl rfl rfl) ?_
      clear K M; rintro _ a w M K
      refine X_o K M ?_; clear K; intro a K
      refine wpList_nil (then_n (wp_ret ?_))
      cases h
      exact ret2 K rfl (res_cellA K rfl ty24 (M.blkAt (i := 3) rfl) rfl) (res_tmp K rfl) ⟨_, rfl, _, _, rfl, ((M).pick [1] (by decide))⟩
    have h := cfalse hb h
    have K := K.reb (s := 35) rfl hb
    refine X_o K M ?_; clear K
    iterate 2 (refine Y_o M ?_)
    intro a K
    refine wpList_nil (then_n ?_)
    refine X_condF K rfl ?_
    refine wp_skip (then_n (wp_seq (X_reg ?_)))
    refine X_r K (rd_ldA rfl ty24 K rfl (inM 0 rfl) rfl rfl) M ?_; clear K
    refine Y_o M ?_; intro a K
    refine X_b K (ac_storeA rfl ty24 K rfl (ds := [I r2.1, I r2.2.1, .slice A r2.2.2.1.length c]) rfl rfl 3 M rfl rfl rfl) ?_
    clear K M; rintro _ a w M K
    refine X_o K M ?_; clear K; intro a K
    refine wpList_nil (then_n (wp_ret ?_))
    cases h
    exact ret2 K rfl (res_cellA K rfl ty24 (M.blkAt (i := 3) rfl) rfl) (res_tmp K rfl) ⟨_, rfl, _, _, rfl, ((M).pick [1] (by decide))⟩
  clear K M h
  rintro kk fuel ⟨fine, i⟩ a w hk1 ⟨K, M⟩ h
  unfold D_tone_Mix_l1 at h
  refine wp_seq (X_reg ?_)
  refine X_o K M ?_; clear K; intro a K
  refine wpList_nil (then_n (wp_seq ?_))
  refine X_cond K rfl (fun hb => ?_) (fun hb => ?_)
  · have h := ctrue hb h
    refine wp_skip (then_n (wp_seq (wp_block (wp_seq (X_reg ?_)))))
    obtain ⟨e2, h_e2, h⟩ := obind h
    refine X_r K (rd_ixV (C := (cI .i64)) (es := [m0, m1, m2, m3, m4, m5, m6, m7, m8]) rfl ar39 sc3 K rfl rfl rfl h_e2 rfl) M ?_; clear K
    refine Y_o M ?_; intro a K
    refine wpList_nil (then_n (X_reg ?_))
    refine X_o K M ?_; clear K
    refine Y_o M ?_; intro a K
    rcases Bool.eq_false_or_eq_true (fine) with hb | hb
    · have h := ctrue hb h
      have K := K.reb (s := 17) rfl hb
      refine X_o K M ?_; clear K
      iterate 3 (refine Y_o M ?_)
      intro a K
      rcases Bool.eq_false_or_eq_true (decide ((-32768) ≤ e2)) with hb | hb
      · have h := ctrue hb h
        have K := K.reb (s := 21) rfl hb
        refine X_o K M ?_; clear K
        iterate 3 (refine Y_o M ?_)
        intro a K
        refine wpList_nil (inb_n (then_n (X_reg ?_)))
        refine X_o K M ?_; clear K
        refine Y_o M ?_; intro a K
        refine wpList_nil ?_
        exact then_n ⟨(decide (e2 ≤ 32768), IntKind.i64.wrap (i + 1)), ⟨K.pick [2,3,4,6,12,13], M.pick [0,1,2] (by decide)⟩, h⟩
      have h := cfalse hb h
      have K := K.reb (s := 21) rfl hb
      refine X_o K M ?_; clear K
      iterate 3 (refine Y_o M ?_)
      intro a K
      refine wpList_nil (inb_n (then_n (X_reg ?_)))
      refine X_o K M ?_; clear K
      refine Y_o M ?_; intro a K
      refine wpList_nil ?_
      exact then_n ⟨(false, IntKind.i64.wrap (i + 1)), ⟨K.pick [2,3,4,6,12,13], M.pick [0,1,2] (by decide)⟩, h⟩
    have h := cfalse hb h
    have K := K.reb (s := 17) rfl hb
    refine X_o K M ?_; clear K
    iterate 7 (refine Y_o M ?_)
    intro a K
    refine wpList_nil (inb_n (then_n (X_reg ?_)))
    refine X_o K M ?_; clear K
    refine Y_o M ?_; intro a K
    refine wpList_nil ?_
    exact then_n ⟨(false, IntKind.i64.wrap (i + 1)), ⟨K.pick [2,3,4,6,12,13], M.pick [0,1,2] (by decide)⟩, h⟩
  have h := cfalse hb h
  refine wp_exit ?_
  refine then_e ?_
  exact then_e (hk1 (fine, i) _ _ ⟨K.pick [2,3,4,6,12,13], M.pick [0,1,2] (by decide)⟩ h)
set_option maxRecDepth 100000 in
set_option maxHeartbeats 4000000 in
theorem W_tone_Bend_1 (N : Nat) (c_R : Int) (c_G : Int) (c_B : Int) (x2 : Int) (y : Int) (v0 : List (Int × Int)) (A_v0 : Option Addr) (c_v0 : Nat) (g_v0 : Nat) (w0 : World) (R_v0 : SL w0 cII A_v0 v0) (C_v0 : v0.length ≤ c_v0) (B_g_v0 : Blk w0 g_v0 40 #[.slice A_v0 v0.length c_v0]) (r : Int × Int × Int) (h : D_tone_Bend_1 N c_R c_G c_B x2 y v0 = some r) :
    Calls Try.prog 61 #[.agg #[I c_R, I c_G, I c_B], I x2, I y, .pointer (some ⟨g_v0, 0, none⟩)] w0 fun e w' => ∃ v, e = .returned v ∧ v = .agg #[I r.1, I r.2.1, I r.2.2] ∧ Mem w0.heap.size w0 w' [] := by
  refine X_enter Try.func61 rfl Try.ntmps61 rfl ?_
  intro a K
  have M := Mem.start w0
  have K : Kn a 21 [(0, .agg #[I c_R, I c_G, I c_B]), (1, I x2), (2, I y), (3, .pointer (some ⟨g_v0, 0, none⟩))] := K
  unfold D_tone_Bend_1 at h
  refine wp_seq (X_reg ?_)
  refine X_a K (ac_box rfl K rfl (cs := [I c_R, I c_G, I c_B]) rfl M) ?_
  clear K M; rintro _ a w ⟨g_c, rfl, M⟩ K
  refine X_a K (ac_alloc rfl z34 M) ?_
  clear K M; rintro _ a w ⟨g_x, rfl, M⟩ K
  refine wpList_nil (then_n (wp_seq ?_))
  refine wp_region_tl (fun w => Mem _ _ w _) [0,0,0,1,0,0,0,1,0,0,0,1,0,2] (by kernel_rfl) (by kernel_rfl) M.drew ?_
  replace M := M.drew
  refine T_r K (rd_ldC rfl sc40 K rfl (inO B_g_v0) rfl) ?_; clear K
  refine U_r (fun _ K => rd_field rfl fld34_0 K rfl) ?_
  refine U_r (fun _ K => rd_ldC rfl sc3 K rfl (inM 1 rfl) rfl) ?_; intro a K
  obtain ⟨r2, h_r2, h⟩ := obind h
  refine T_a K (ac_call (vs := [.slice A_v0 v0.length c_v0, I c_R]) (cap := []) rfl fok60 K rfl rfl (W_tone_on N v0 A_v0 c_v0 c_R _ ((inA R_v0) _ M) C_v0 r2 h_r2)) ?_
  have M0 := M; clear K M; rintro _ a w ⟨rfl, M⟩ K
  replace M := M0.call M; clear M0
  refine ⟨M.pick [0,1] (by decide), ?_⟩
  refine T_r K (rd_ldC rfl sc40 K rfl (inO B_g_v0) rfl) ?_; clear K
  refine U_r (fun _ K => rd_field rfl fld34_1 K rfl) ?_
  refine U_r (fun _ K => rd_ldC rfl sc3 K rfl (inM 1 rfl) rfl) ?_; intro a K
  obtain ⟨r3, h_r3, h⟩ := obind h
  refine T_a K (ac_call (vs := [.slice A_v0 v0.length c_v0, I c_G]) (cap := []) rfl fok60 K rfl rfl (W_tone_on N v0 A_v0 c_v0 c_G _ ((inA R_v0) _ M) C_v0 r3 h_r3)) ?_
  have M0 := M; clear K M; rintro _ a w ⟨rfl, M⟩ K
  replace M := M0.call M; clear M0
  refine ⟨M.pick [0,1] (by decide), ?_⟩
  refine T_r K (rd_ldC rfl sc40 K rfl (inO B_g_v0) rfl) ?_; clear K
  refine U_r (fun _ K => rd_field rfl fld34_2 K rfl) ?_
  refine U_r (fun _ K => rd_ldC rfl sc3 K rfl (inM 1 rfl) rfl) ?_; intro a K
  obtain ⟨r4, h_r4, h⟩ := obind h
  refine T_a K (ac_call (vs := [.slice A_v0 v0.length c_v0, I c_B]) (cap := []) rfl fok60 K rfl rfl (W_tone_on N v0 A_v0 c_v0 c_B _ ((inA R_v0) _ M) C_v0 r4 h_r4)) ?_
  have M0 := M; clear K M; rintro _ a w ⟨rfl, M⟩ K
  replace M := M0.call M; clear M0
  refine ⟨M.pick [0,1] (by decide), ?_⟩
  refine T_r K (rd_build rfl K (vs := [(0, I r2), (1, I r3), (2, I r4)]) (cs := [I r2, I r3, I r4]) rfl (by kernel_rfl)) ?_; clear K; intro a K
  refine T_b K (ac_storeA rfl ty34 K rfl (ds := [I r2, I r3, I r4]) rfl rfl 0 M rfl rfl rfl) ?_
  clear K M; rintro _ a w M K
  refine T_end ?_
  refine then_n (wp_ret ?_)
  cases h
  exact ret1 K rfl (res_cellA K rfl ty34 (M.blkAt (i := 0) rfl) rfl) ⟨_, rfl, rfl, ((M).pick [] (by decide))⟩
set_option maxRecDepth 100000 in
set_option maxHeartbeats 4000000 in
theorem W_tone_each__tone_Bend_1 (N : Nat) (q_W : Int) (q_H : Int) (q_P : List (Int × Int × Int)) (A_q_P : Option Addr) (c_q_P : Nat) (Bend_1_0 : List (Int × Int)) (A_Bend_1_0 : Option Addr) (c_Bend_1_0 : Nat) (g_Bend_1_0 : Nat) (w0 : World) (R_q_P : SL w0 cIII A_q_P q_P) (C_q_P : q_P.length ≤ c_q_P) (R_Bend_1_0 : SL w0 cII A_Bend_1_0 Bend_1_0) (C_Bend_1_0 : Bend_1_0.length ≤ c_Bend_1_0) (B_g_Bend_1_0 : Blk w0 g_Bend_1_0 40 #[.slice A_Bend_1_0 Bend_1_0.length c_Bend_1_0]) (r : Int × Int × List (Int × Int × Int) × Int) (h : D_tone_each__tone_Bend_1 N q_W q_H q_P Bend_1_0 = some r) :
    Calls Try.prog 28 #[.agg #[I q_W, I q_H, .slice A_q_P q_P.length c_q_P], .func (.func 61) #[] #[.pointer (some ⟨g_Bend_1_0, 0, none⟩)]] w0 fun e w' => ∃ v, e = .returned v ∧ ∃ A2 c2, v = .tuple #[.agg #[I r.1, I r.2.1, .slice A2 r.2.2.1.length c2], I r.2.2.2] ∧ Mem w0.heap.size w0 w' [.row 34 3 A2 r.2.2.1.length c2 (cIII.all r.2.2.1)] := by
  refine X_enter Try.func28 rfl Try.ntmps28 rfl ?_
  intro a K
  have M := Mem.start w0
  have K : Kn a 54 [(0, .agg #[I q_W, I q_H, .slice A_q_P q_P.length c_q_P]), (1, .func (.func 61) #[] #[.pointer (some ⟨g_Bend_1_0, 0, none⟩)])] := K
  unfold D_tone_each__tone_Bend_1 at h
  refine wp_seq (X_reg ?_)
  refine X_a K (ac_box rfl K rfl (cs := [I q_W, I q_H, .slice A_q_P q_P.length c_q_P]) rfl M) ?_
  clear K M; rintro _ a w ⟨g_q, rfl, M⟩ K
  refine X_a K (ac_alloc rfl z24 M) ?_
  clear K M; rintro _ a w ⟨g_x, rfl, M⟩ K
  refine X_o K M ?_; clear K; intro a K
  refine wpList_nil (then_n (wp_seq (wp_seq (X_reg ?_))))
  refine X_r K (rd_ldA rfl ty24 K rfl (inM 1 rfl) rfl rfl) M ?_; clear K; intro a K
  obtain ⟨r2, h_r2, h⟩ := obind h
  refine X_a K (ac_call (vs := [.agg #[I q_W, I q_H, .slice A_q_P q_P.length c_q_P], I 0]) (cap := []) rfl fok56 K rfl rfl (W_mosaic_Take N q_W q_H q_P A_q_P c_q_P 0 _ ((inA R_q_P) _ M) C_q_P r2 h_r2)) ?_
  have M0 := M; clear K M; rintro _ a w ⟨A, c, rfl, M⟩ K
  replace M := M0.call M; clear M0
  refine X_o K M ?_; clear K
  iterate 2 (refine Y_o M ?_)
  intro a K
  refine X_a K (ac_alloc rfl z45 M) ?_
  clear K M; rintro _ a w ⟨g__, rfl, M⟩ K
  refine X_b K (ac_storeA rfl ty45 K rfl (ds := [I r2.1, I r2.2.1, .slice A r2.2.2.1.length c]) rfl rfl 0 M rfl rfl rfl) ?_
  clear K M; rintro _ a w M K
  refine X_o K M ?_; clear K; intro a K
  refine wpList_nil (then_n (wp_seq (X_reg ?_)))
  refine X_o K M ?_; clear K
  refine Y_o M ?_; intro a K
  refine wpList_nil (then_n ?_)
  refine X_cond K rfl (fun hb => ?_) (fun hb => ?_)
  · have h := ctrue hb h
    refine wp_seq (X_reg ?_)
    refine X_r K (rd_build rfl K (vs := []) (cs := [I 0, I 0, .slice none (([] : List (Int × Int × Int))).length 0]) rfl (by kernel_rfl)) M ?_; clear K
    refine Y_o M ?_; intro a K
    refine X_b K (ac_storeA rfl ty24 K rfl (ds := [I 0, I 0, .slice none (([] : List (Int × Int × Int))).length 0]) rfl rfl 2 M rfl rfl rfl) ?_
    clear K M; rintro _ a w M K
    refine X_o K M ?_; clear K; intro a K
    refine wpList_nil (then_n (wp_ret (then_r ?_)))
    cases h
    exact ret2 K rfl (res_cellA K rfl ty24 (M.blkAt (i := 2) rfl) rfl) (res_tmp K rfl) ⟨_, rfl, _, _, rfl, (((Mem.nilrow 34 3 cIII M)).pick [0] (by decide))⟩
  have h := cfalse hb h
  refine wp_skip (then_n (wp_seq ?_))
  refine wp_region_tr (fun w => Mem _ _ w _) [0,0,0,0,0,0,0,1,0,1,2] 11 [0,1,2,3,4,5,6,7,8,9,10] (by kernel_rfl) (by kernel_rfl) (by kernel_rfl) rfl M.drew ?_
  replace M := M.drew
  refine R_rd 0 [1,2,3,4,5,6,7,8,9,10] (by kernel_rfl) rfl K (want_no rfl) rfl rfl (rd_field rfl fld24_0 K rfl) ?_; clear K; intro a K
  refine R_rd 1 [2,3,4,5,6,7,8,9,10] (by kernel_rfl) rfl K (want_no rfl) rfl rfl (rd_ldC rfl sc3 K rfl (inM 3 rfl) rfl) ?_; clear K; intro a K
  refine R_rd 2 [3,4,5,6,7,8,9,10] (by kernel_rfl) rfl K (want_no rfl) rfl rfl (rd_field rfl fld24_1 K rfl) ?_; clear K; intro a K
  refine R_rd 3 [4,5,6,7,8,9,10] (by kernel_rfl) rfl K (want_no rfl) rfl rfl (rd_ldC rfl sc3 K rfl (inM 3 rfl) rfl) ?_; clear K; intro a K
  refine R_rd 4 [5,6,7,8,9,10] (by kernel_rfl) rfl K (want_no rfl) rfl rfl (rd_field rfl fld24_2 K rfl) ?_; clear K; intro a K
  refine R_rd 5 [6,7,8,9,10] (by kernel_rfl) rfl K (want_no rfl) rfl rfl (rd_ldC rfl sc22 K rfl (inM 3 rfl) rfl) ?_; clear K; intro a K
  obtain ⟨x2, hx, h⟩ := olet h
  refine R_rd 6 [7,8,9,10] (by kernel_rfl) rfl K (want_no rfl) rfl rfl (rdi hx (rd_len rfl un22 K rfl)) ?_; clear K; intro a K
  refine R_br [7,9] (by kernel_rfl) ⟨?_, ?_, trivial⟩
  ·
    obtain ⟨l2, h_l2, h⟩ := obind h
    refine R_ac [8,9,10] (by kernel_rfl) rfl K (want_no rfl) rfl rfl (ac_make (C := cIII) (z := (0, 0, 0)) rfl sl22 rfl z34 rfl K rfl rfl M h_l2) ?_
    clear K M; rintro _ a w ⟨A2, c2, rfl, M⟩ K
    refine ⟨fun _ => M.pick [1,2,3,4] (by decide), ?_⟩
    refine R_rd 8 [9,10] (by kernel_rfl) rfl K (want_no rfl) rfl rfl (rd_build rfl K (vs := [(0, I q_W), (1, I q_H), (2, .slice A2 l2.length c2)]) (cs := [I q_W, I q_H, .slice A2 l2.length c2]) rfl (by kernel_rfl)) ?_; clear K; intro a K
    refine R_br [9] (by kernel_rfl) ⟨?_, trivial⟩
    refine R_ac [10] (by kernel_rfl) rfl K (want_no rfl) rfl rfl (ac_alloc rfl z24 M) ?_
    clear K M; rintro _ a w ⟨g_out, rfl, M⟩ K
    refine ⟨fun _ => M.pick [2,3,4,5] (by decide), ?_⟩
    refine R_br [10] (by kernel_rfl) ⟨?_, trivial⟩
    refine R_a0 [] (by kernel_rfl) rfl K (want_no rfl) rfl (ac_storeA rfl ty24 K rfl (ds := [I q_W, I q_H, .slice A2 l2.length c2]) rfl rfl 0 M rfl rfl rfl) ?_
    clear K M; rintro _ a w M K
    refine ⟨fun h => absurd h (by decide), ?_⟩
    refine R_end ?_
    refine then_n (wp_seq (wp_seq (X_reg ?_)))
    refine X_r K (rd_field rfl fld24_2 K rfl) M ?_; clear K
    refine Y_r (fun _ K => rd_ldC rfl sc22 K rfl (inM 5 rfl) rfl) M ?_
    refine Y_r (fun _ K => rd_len rfl un22 K rfl) M ?_
    refine Y_o M ?_; intro a K
    refine wpList_nil (then_n (wp_block ?_))
    refine X_lp (id := 0) (Rel := fun (⟨out_P, i⟩ : List (Int × Int × Int) × Int) a w => ∃ (A3 : Option Addr) (c3 : Nat), Kn a 54 [(1, .func (.func 61) #[] #[.pointer (some ⟨g_Bend_1_0, 0, none⟩)]), (2, .pointer (some ⟨g_q, 0, none⟩)), (4, .pointer (some ⟨g_x, 0, none⟩)), (8, .pointer (some ⟨g_out, 0, none⟩)), (30, .slice A_q_P q_P.length c_q_P), (31, I (q_P.length : Int)), (32, I i)] ∧ Mem w0.heap.size w0 w [.blk g_out 24 [I q_W, I q_H, .slice A3 out_P.length c3], .row 34 3 A3 out_P.length c3 (cIII.all out_P), .blk g_x 24 [I 0, I 0, .slice none (([] : List (Int × Int × Int))).length 0], .blk g_q 24 [I q_W, I q_H, .slice A_q_P q_P.length c_q_P]]) h (fun _ _ => rfl) ⟨A2, c2, K.pick [1,2,4,8,30,31,32], M.pick [0,1,4,5] (by decide)⟩ ?_ ?_
    · clear K M h
      rintro ⟨out_P2, i2⟩ a w ⟨A4, c4, K, M⟩ h
      try dsimp only at h
      refine inb_e ?_
      refine then_n (wp_seq (X_reg ?_))
      refine X_r K (rd_ldA rfl ty24 K rfl (inM 0 rfl) rfl rfl) M ?_; clear K; intro a K
      refine X_b K (ac_storeA rfl ty24 K rfl (ds := [I q_W, I q_H, .slice A4 out_P2.length c4]) rfl rfl 2 M rfl rfl rfl) ?_
      clear K M; rintro _ a w M K
      refine X_o K M ?_; clear K; intro a K
      refine wpList_nil (then_n (wp_ret ?_))
      cases h
      exact ret2 K rfl (res_cellA K rfl ty24 (M.blkAt (i := 2) rfl) rfl) (res_tmp K rfl) ⟨_, rfl, _, _, rfl, ((M).pick [1] (by decide))⟩
    clear K M h
    rintro kk fuel ⟨out_P, i⟩ a w hk1 ⟨A3, c3, K, M⟩ h
    unfold D_tone_each__tone_Bend_1_l1 at h
    refine wp_seq (X_reg ?_)
    refine X_o K M ?_; clear K; intro a K
    refine wpList_nil (then_n (wp_seq ?_))
    refine X_cond K rfl (fun hb => ?_) (fun hb => ?_)
    · have h := ctrue hb h
      refine wp_skip (then_n (wp_seq (wp_block (wp_seq (X_reg ?_)))))
      refine X_o K M ?_; clear K
      obtain ⟨e3, h_e3, h⟩ := obind h
      refine Y_r (fun _ K => rd_ix rfl sl22 K rfl rfl (inA R_q_P) h_e3) M ?_
      refine Y_r (fun _ K => rd_elA rfl ty34 K rfl rfl rfl (inA R_q_P) h_e3) M ?_; intro a K
      refine X_a K (ac_alloc rfl z34 M) ?_
      clear K M; rintro _ a w ⟨g_c2, rfl, M⟩ K
      refine X_o K M ?_; clear K; intro a K
      refine X_b K (ac_storeA rfl ty34 K rfl (ds := [I e3.1, I e3.2.1, I e3.2.2]) rfl rfl 0 M rfl rfl rfl) ?_
      clear K M; rintro _ a w M K
      refine wpList_nil (then_n ?_)
      refine wp_region_tl (fun w => Mem _ _ w _) [0,0,0,0,0,0,0,0,0,0,0,0,0,1,0,2] (by kernel_rfl) (by kernel_rfl) M.drew ?_
      replace M := M.drew
      refine T_r K (rd_field rfl fld24_2 K rfl) ?_; clear K
      refine U_r (fun _ K => rd_ldC rfl sc22 K rfl (inM 1 rfl) rfl) ?_
      iterate 2 (refine U_o ?_)
      refine U_r (fun _ K => rd_ldA rfl ty34 K rfl (inM 0 rfl) rfl rfl) ?_
      refine U_o ?_
      refine U_r (fun _ K => rd_field rfl fld24_0 K rfl) ?_
      refine U_r (fun _ K => rd_ldC rfl sc3 K rfl (inM 4 rfl) rfl) ?_; intro a K
      obtain ⟨_, h0, h⟩ := obind h
      have h0 := nz_spec h0
      refine T_r K (rd_rem rfl K rfl rfl h0) ?_; clear K
      refine U_o ?_
      refine U_r (fun _ K => rd_field rfl fld24_0 K rfl) ?_
      refine U_r (fun _ K => rd_ldC rfl sc3 K rfl (inM 4 rfl) rfl) ?_; intro a K
      obtain ⟨_, h0, h⟩ := obind h
      have h0 := nz_spec h0
      refine T_r K (rd_quo rfl K rfl rfl h0) ?_; clear K; intro a K
      obtain ⟨r4, h_r4, h⟩ := obind h
      refine T_a K (ac_call (vs := [.agg #[I e3.1, I e3.2.1, I e3.2.2], I (Int.tmod i q_W), I (IntKind.i64.wrap (Int.tdiv i q_W))]) (cap := [.pointer (some ⟨g_Bend_1_0, 0, none⟩)]) rfl fok61 K rfl rfl (W_tone_Bend_1 N e3.1 e3.2.1 e3.2.2 (Int.tmod i q_W) (IntKind.i64.wrap (Int.tdiv i q_W)) Bend_1_0 A_Bend_1_0 c_Bend_1_0 g_Bend_1_0 _ ((inA R_Bend_1_0) _ M) C_Bend_1_0 (inO B_g_Bend_1_0 _ M) r4 h_r4)) ?_
      have M0 := M; clear K M; rintro _ a w ⟨rfl, M⟩ K
      replace M := M0.call M; clear M0
      refine ⟨M.pick [0,1,2,3,4] (by decide), ?_⟩
      obtain ⟨e4, h_e4, h⟩ := obind h
      refine T_r K (rd_ix rfl sl22 K rfl rfl (inR (C := cIII) 2 rfl rfl) h_e4) ?_; clear K; intro a K
      obtain ⟨l4, h_l4, h⟩ := obind h
      refine T_b K (ac_rowset (el := (r4.1, r4.2.1, r4.2.2)) rfl sz34 rfl rfl K rfl rfl rfl 2 M rfl h_l4) ?_
      have M0 := M; clear K M; rintro _ a w M K
      have hl := setL_len h_l4
      try rw [hl] at M
      clear hl
      clear M0
      refine T_end ?_
      refine inb_n (then_n (X_reg ?_))
      refine X_o K M ?_; clear K
      refine Y_o M ?_; intro a K
      refine wpList_nil ?_
      exact then_n ⟨(l4, IntKind.i64.wrap (i + 1)), ⟨A3, c3, K.pick [1,2,4,8,30,31,32], M.pick [1,2,3,4] (by decide)⟩, h⟩
    have h := cfalse hb h
    refine wp_exit ?_
    refine then_e ?_
    exact then_e (hk1 (out_P, i) _ _ ⟨A3, c3, K.pick [1,2,4,8,30,31,32], M.pick [0,1,2,3] (by decide)⟩ h)
  ·
    refine R_ac [7,8,10] (by kernel_rfl) rfl K (want_no rfl) rfl rfl (ac_alloc rfl z24 M) ?_
    clear K M; rintro _ a w ⟨g_out2, rfl, M⟩ K
    refine ⟨fun _ => M.pick [1,2,3,4] (by decide), ?_⟩
    refine R_br [7] (by kernel_rfl) ⟨?_, trivial⟩
    obtain ⟨l5, h_l5, h⟩ := obind h
    refine R_ac [8,10] (by kernel_rfl) rfl K (want_no rfl) rfl rfl (ac_make (C := cIII) (z := (0, 0, 0)) rfl sl22 rfl z34 rfl K rfl rfl M h_l5) ?_
    clear K M; rintro _ a w ⟨A5, c5, rfl, M⟩ K
    refine ⟨fun _ => M.pick [2,3,4,5] (by decide), ?_⟩
    refine R_rd 8 [10] (by kernel_rfl) rfl K (want_no rfl) rfl rfl (rd_build rfl K (vs := [(0, I q_W), (1, I q_H), (2, .slice A5 l5.length c5)]) (cs := [I q_W, I q_H, .slice A5 l5.length c5]) rfl (by kernel_rfl)) ?_; clear K; intro a K
    refine R_br [10] (by kernel_rfl) ⟨?_, trivial⟩
    refine R_a0 [] (by kernel_rfl) rfl K (want_no rfl) rfl (ac_storeA rfl ty24 K rfl (ds := [I q_W, I q_H, .slice A5 l5.length c5]) rfl rfl 1 M rfl rfl rfl) ?_
    clear K M; rintro _ a w M K
    refine ⟨fun h => absurd h (by decide), ?_⟩
    refine R_end ?_
    refine then_n (wp_seq (wp_seq (X_reg ?_)))
    refine X_r K (rd_field rfl fld24_2 K rfl) M ?_; clear K
    refine Y_r (fun _ K => rd_ldC rfl sc22 K rfl (inM 5 rfl) rfl) M ?_
    refine Y_r (fun _ K => rd_len rfl un22 K rfl) M ?_
    refine Y_o M ?_; intro a K
    refine wpList_nil (then_n (wp_block ?_))
    refine X_lp (id := 0) (Rel := fun (⟨out_P3, i3⟩ : List (Int × Int × Int) × Int) a w => ∃ (A6 : Option Addr) (c6 : Nat), Kn a 54 [(1, .func (.func 61) #[] #[.pointer (some ⟨g_Bend_1_0, 0, none⟩)]), (2, .pointer (some ⟨g_q, 0, none⟩)), (4, .pointer (some ⟨g_x, 0, none⟩)), (8, .pointer (some ⟨g_out2, 0, none⟩)), (30, .slice A_q_P q_P.length c_q_P), (31, I (q_P.length : Int)), (32, I i3)] ∧ Mem w0.heap.size w0 w [.row 34 3 A6 out_P3.length c6 (cIII.all out_P3), .blk g_out2 24 [I q_W, I q_H, .slice A6 out_P3.length c6], .blk g_x 24 [I 0, I 0, .slice none (([] : List (Int × Int × Int))).length 0], .blk g_q 24 [I q_W, I q_H, .slice A_q_P q_P.length c_q_P]]) h (fun _ _ => rfl) ⟨A5, c5, K.pick [1,2,4,8,30,31,32], M.pick [0,1,4,5] (by decide)⟩ ?_ ?_
    · clear K M h
      rintro ⟨out_P4, i4⟩ a w ⟨A7, c7, K, M⟩ h
      try dsimp only at h
      refine inb_e ?_
      refine then_n (wp_seq (X_reg ?_))
      refine X_r K (rd_ldA rfl ty24 K rfl (inM 1 rfl) rfl rfl) M ?_; clear K; intro a K
      refine X_b K (ac_storeA rfl ty24 K rfl (ds := [I q_W, I q_H, .slice A7 out_P4.length c7]) rfl rfl 2 M rfl rfl rfl) ?_
      clear K M; rintro _ a w M K
      refine X_o K M ?_; clear K; intro a K
      refine wpList_nil (then_n (wp_ret ?_))
      cases h
      exact ret2 K rfl (res_cellA K rfl ty24 (M.blkAt (i := 2) rfl) rfl) (res_tmp K rfl) ⟨_, rfl, _, _, rfl, ((M).pick [0] (by decide))⟩
    clear K M h
    rintro kk fuel ⟨out_P3, i3⟩ a w hk1 ⟨A6, c6, K, M⟩ h
    unfold D_tone_each__tone_Bend_1_l1 at h
    refine wp_seq (X_reg ?_)
    refine X_o K M ?_; clear K; intro a K
    refine wpList_nil (then_n (wp_seq ?_))
    refine X_cond K rfl (fun hb => ?_) (fun hb => ?_)
    · have h := ctrue hb h
      refine wp_skip (then_n (wp_seq (wp_block (wp_seq (X_reg ?_)))))
      refine X_o K M ?_; clear K
      obtain ⟨e7, h_e7, h⟩ := obind h
      refine Y_r (fun _ K => rd_ix rfl sl22 K rfl rfl (inA R_q_P) h_e7) M ?_
      refine Y_r (fun _ K => rd_elA rfl ty34 K rfl rfl rfl (inA R_q_P) h_e7) M ?_; intro a K
      refine X_a K (ac_alloc rfl z34 M) ?_
      clear K M; rintro _ a w ⟨g_c4, rfl, M⟩ K
      refine X_o K M ?_; clear K; intro a K
      refine X_b K (ac_storeA rfl ty34 K rfl (ds := [I e7.1, I e7.2.1, I e7.2.2]) rfl rfl 0 M rfl rfl rfl) ?_
      clear K M; rintro _ a w M K
      refine wpList_nil (then_n ?_)
      refine wp_region_tl (fun w => Mem _ _ w _) [0,0,0,0,0,0,0,0,0,0,0,0,0,1,0,2] (by kernel_rfl) (by kernel_rfl) M.drew ?_
      replace M := M.drew
      refine T_r K (rd_field rfl fld24_2 K rfl) ?_; clear K
      refine U_r (fun _ K => rd_ldC rfl sc22 K rfl (inM 2 rfl) rfl) ?_
      iterate 2 (refine U_o ?_)
      refine U_r (fun _ K => rd_ldA rfl ty34 K rfl (inM 0 rfl) rfl rfl) ?_
      refine U_o ?_
      refine U_r (fun _ K => rd_field rfl fld24_0 K rfl) ?_
      refine U_r (fun _ K => rd_ldC rfl sc3 K rfl (inM 4 rfl) rfl) ?_; intro a K
      obtain ⟨_, h0, h⟩ := obind h
      have h0 := nz_spec h0
      refine T_r K (rd_rem rfl K rfl rfl h0) ?_; clear K
      refine U_o ?_
      refine U_r (fun _ K => rd_field rfl fld24_0 K rfl) ?_
      refine U_r (fun _ K => rd_ldC rfl sc3 K rfl (inM 4 rfl) rfl) ?_; intro a K
      obtain ⟨_, h0, h⟩ := obind h
      have h0 := nz_spec h0
      refine T_r K (rd_quo rfl K rfl rfl h0) ?_; clear K; intro a K
      obtain ⟨r6, h_r6, h⟩ := obind h
      refine T_a K (ac_call (vs := [.agg #[I e7.1, I e7.2.1, I e7.2.2], I (Int.tmod i3 q_W), I (IntKind.i64.wrap (Int.tdiv i3 q_W))]) (cap := [.pointer (some ⟨g_Bend_1_0, 0, none⟩)]) rfl fok61 K rfl rfl (W_tone_Bend_1 N e7.1 e7.2.1 e7.2.2 (Int.tmod i3 q_W) (IntKind.i64.wrap (Int.tdiv i3 q_W)) Bend_1_0 A_Bend_1_0 c_Bend_1_0 g_Bend_1_0 _ ((inA R_Bend_1_0) _ M) C_Bend_1_0 (inO B_g_Bend_1_0 _ M) r6 h_r6)) ?_
      have M0 := M; clear K M; rintro _ a w ⟨rfl, M⟩ K
      replace M := M0.call M; clear M0
      refine ⟨M.pick [0,1,2,3,4] (by decide), ?_⟩
      obtain ⟨e8, h_e8, h⟩ := obind h
      refine T_r K (rd_ix rfl sl22 K rfl rfl (inR (C := cIII) 1 rfl rfl) h_e8) ?_; clear K; intro a K
      obtain ⟨l7, h_l7, h⟩ := obind h
      refine T_b K (ac_rowset (el := (r6.1, r6.2.1, r6.2.2)) rfl sz34 rfl rfl K rfl rfl rfl 1 M rfl h_l7) ?_
      have M0 := M; clear K M; rintro _ a w M K
      have hl := setL_len h_l7
      try rw [hl] at M
      clear hl
      clear M0
      refine T_end ?_
      refine inb_n (then_n (X_reg ?_))
      refine X_o K M ?_; clear K
      refine Y_o M ?_; intro a K
      refine wpList_nil ?_
      exact then_n ⟨(l7, IntKind.i64.wrap (i3 + 1)), ⟨A6, c6, K.pick [1,2,4,8,30,31,32], M.pick [1,2,3,4] (by decide)⟩, h⟩
    have h := cfalse hb h
    refine wp_exit ?_
    refine then_e ?_
    exact then_e (hk1 (out_P3, i3) _ _ ⟨A6, c6, K.pick [1,2,4,8,30,31,32], M.pick [0,1,2,3] (by decide)⟩ h)
set_option maxRecDepth 100000 in
set_option maxHeartbeats 4000000 in
theorem W_tone_Bend (N : Nat) (q_W : Int) (q_H : Int) (q_P : List (Int × Int × Int)) (A_q_P : Option Addr) (c_q_P : Nat) (l2 : List (Int × Int)) (A_l2 : Option Addr) (c_l2 : Nat) (w0 : World) (R_q_P : SL w0 cIII A_q_P q_P) (C_q_P : q_P.length ≤ c_q_P) (R_l2 : SL w0 cII A_l2 l2) (C_l2 : l2.length ≤ c_l2) (r : Int × Int × List (Int × Int × Int) × Int) (h : D_tone_Bend N q_W q_H q_P l2 = some r) :
    Calls Try.prog 37 #[.agg #[I q_W, I q_H, .slice A_q_P q_P.length c_q_P], .slice A_l2 l2.length c_l2] w0 fun e w' => ∃ v, e = .returned v ∧ ∃ A2 c2, v = .tuple #[.agg #[I r.1, I r.2.1, .slice A2 r.2.2.1.length c2], I r.2.2.2] ∧ Mem w0.heap.size w0 w' [.row 34 3 A2 r.2.2.1.length c2 (cIII.all r.2.2.1)] := by
  refine X_enter Try.func37 rfl Try.ntmps37 rfl ?_
  intro a K
  have M := Mem.start w0
  have K : Kn a 15 [(0, .agg #[I q_W, I q_H, .slice A_q_P q_P.length c_q_P]), (1, .slice A_l2 l2.length c_l2)] := K
  unfold D_tone_Bend at h
  refine wp_seq (X_reg ?_)
  refine X_a K (ac_box rfl K rfl (cs := [I q_W, I q_H, .slice A_q_P q_P.length c_q_P]) rfl M) ?_
  clear K M; rintro _ a w ⟨g_q, rfl, M⟩ K
  refine X_a K (ac_box rfl K rfl (cs := [.slice A_l2 l2.length c_l2]) rfl M) ?_
  clear K M; rintro _ a w ⟨g_l, rfl, M⟩ K
  refine X_a K (ac_alloc rfl z24 M) ?_
  clear K M; rintro _ a w ⟨g_x, rfl, M⟩ K
  refine X_o K M ?_; clear K; intro a K
  refine wpList_nil (then_n (wp_seq (wp_seq (X_reg ?_))))
  refine X_r K (rd_ldC rfl sc40 K rfl (inM 1 rfl) rfl) M ?_; clear K; intro a K
  obtain ⟨r2, h_r2, h⟩ := obind h
  refine X_a K (ac_call (vs := [.slice A_l2 l2.length c_l2]) (cap := []) rfl fok59 K rfl rfl (W_tone_right N l2 A_l2 c_l2 _ ((inA R_l2) _ M) C_l2 r2 h_r2)) ?_
  have M0 := M; clear K M; rintro _ a w ⟨rfl, M⟩ K
  replace M := M0.call M; clear M0
  refine X_o K M ?_; clear K; intro a K
  refine wpList_nil (then_n ?_)
  refine X_cond K rfl (fun hb => ?_) (fun hb => ?_)
  · have h := ctrue hb h
    refine wp_seq (X_reg ?_)
    refine X_r K (rd_build rfl K (vs := []) (cs := [I 0, I 0, .slice none (([] : List (Int × Int × Int))).length 0]) rfl (by kernel_rfl)) M ?_; clear K; intro a K
    refine X_b K (ac_storeA rfl ty24 K rfl (ds := [I 0, I 0, .slice none (([] : List (Int × Int × Int))).length 0]) rfl rfl 0 M rfl rfl rfl) ?_
    clear K M; rintro _ a w M K
    refine X_o K M ?_; clear K; intro a K
    refine wpList_nil (then_n (wp_ret (then_r ?_)))
    cases h
    exact ret2 K rfl (res_cellA K rfl ty24 (M.blkAt (i := 0) rfl) rfl) (res_tmp K rfl) ⟨_, rfl, _, _, rfl, (((Mem.nilrow 34 3 cIII M)).pick [0] (by decide))⟩
  have h := cfalse hb h
  refine wp_skip (then_n (wp_seq (X_reg ?_)))
  refine X_r K (rd_ldA rfl ty24 K rfl (inM 2 rfl) rfl rfl) M ?_; clear K
  refine Y_r (fun _ K => rd_func rfl K (vs := [.pointer (some ⟨g_l, 0, none⟩)]) rfl) M ?_; intro a K
  obtain ⟨r3, h_r3, h⟩ := obind h
  refine X_a K (ac_call (vs := [.agg #[I q_W, I q_H, .slice A_q_P q_P.length c_q_P], .func (.func 61) #[] #[.pointer (some ⟨g_l, 0, none⟩)]]) (cap := []) rfl fok28 K rfl rfl (W_tone_each__tone_Bend_1 N q_W q_H q_P A_q_P c_q_P l2 A_l2 c_l2 g_l _ ((inA R_q_P) _ M) C_q_P ((inA R_l2) _ M) C_l2 (M.blkAt (i := 1) rfl) r3 h_r3)) ?_
  have M0 := M; clear K M; rintro _ a w ⟨A, c, rfl, M⟩ K
  replace M := M0.call M; clear M0
  refine X_o K M ?_; clear K
  refine Y_o M ?_; intro a K
  refine X_b K (ac_storeA rfl ty24 K rfl (ds := [I r3.1, I r3.2.1, .slice A r3.2.2.1.length c]) rfl rfl 1 M rfl rfl rfl) ?_
  clear K M; rintro _ a w M K
  refine X_o K M ?_; clear K; intro a K
  refine wpList_nil (then_n (wp_ret ?_))
  cases h
  exact ret2 K rfl (res_cellA K rfl ty24 (M.blkAt (i := 1) rfl) rfl) (res_tmp K rfl) ⟨_, rfl, _, _, rfl, ((M).pick [0] (by decide))⟩
set_option maxRecDepth 100000 in
set_option maxHeartbeats 4000000 in
theorem W_tone_Sharpen_1 (N : Nat) (v : Int) (blur : Int) (v0 : Int) (g_v0 : Nat) (w0 : World) (B_g_v0 : Blk w0 g_v0 3 #[I v0]) (r : Int) (h : D_tone_Sharpen_1 N v blur v0 = some r) :
    Calls Try.prog 26 #[I v, I blur, .pointer (some ⟨g_v0, 0, none⟩)] w0 fun e w' => ∃ v, e = .returned v ∧ v = I r ∧ Mem w0.heap.size w0 w' [] := by
  refine X_enter Try.func26 rfl Try.ntmps26 rfl ?_
  intro a K
  have M := Mem.start w0
  have K : Kn a 16 [(0, I v), (1, I blur), (2, .pointer (some ⟨g_v0, 0, none⟩))] := K
  unfold D_tone_Sharpen_1 at h
  refine wp_seq (X_reg ?_)
  refine X_o K M ?_; clear K; intro a K
  refine wpList_nil (then_n (wp_seq (X_reg ?_)))
  refine X_o K M ?_; clear K
  iterate 2 (refine Y_o M ?_)
  refine Y_r (fun _ K => rd_shr rfl K rfl rfl (by decide)) M ?_
  refine Y_o M ?_
  refine Y_r (fun _ K => rd_ldC rfl sc3 K rfl (inO B_g_v0) rfl) M ?_
  refine Y_o M ?_
  refine Y_r (fun _ K => rd_shr rfl K rfl rfl (by decide)) M ?_
  refine Y_o M ?_; intro a K
  obtain ⟨r2, h_r2, h⟩ := obind h
  refine X_a K (ac_call (vs := [I (IntKind.i64.wrap (v + (shrI .i64 (IntKind.i64.wrap ((IntKind.i64.wrap (v - (shrI .i64 blur 4))) * v0)) 8)))]) (cap := []) rfl fok27 K rfl rfl (W_tone_clamp N (IntKind.i64.wrap (v + (shrI .i64 (IntKind.i64.wrap ((IntKind.i64.wrap (v - (shrI .i64 blur 4))) * v0)) 8))) _  r2 h_r2)) ?_
  have M0 := M; clear K M; rintro _ a w ⟨rfl, M⟩ K
  replace M := M0.call M; clear M0
  refine X_o K M ?_; clear K; intro a K
  refine wpList_nil (then_n (wp_ret ?_))
  cases h
  exact ret1 K rfl (res_tmp K rfl) ⟨_, rfl, rfl, ((M).pick [] (by decide))⟩
set_option maxRecDepth 100000 in
set_option maxHeartbeats 4000000 in
theorem W_tone_Sharpen_2 (N : Nat) (d_R : Int) (d_G : Int) (d_B : Int) (o : Int) (p2 : Int) (v0_W : Int) (v0_H : Int) (v0_P : List (Int × Int × Int)) (A_v0_P : Option Addr) (c_v0_P : Nat) (v1_0 : Int) (g_v0 : Nat) (g_v1_0 : Nat) (g_v1 : Nat) (w0 : World) (R_v0_P : SL w0 cIII A_v0_P v0_P) (C_v0_P : v0_P.length ≤ c_v0_P) (B_g_v0 : Blk w0 g_v0 24 #[I v0_W, I v0_H, .slice A_v0_P v0_P.length c_v0_P]) (B_g_v1_0 : Blk w0 g_v1_0 3 #[I v1_0]) (B_g_v1 : Blk w0 g_v1 58 #[.func (.func 26) #[] #[.pointer (some ⟨g_v1_0, 0, none⟩)]]) (r : Int × Int × Int) (h : D_tone_Sharpen_2 N d_R d_G d_B o p2 v0_W v0_H v0_P v1_0 = some r) :
    Calls Try.prog 29 #[.agg #[I d_R, I d_G, I d_B], I o, I p2, .pointer (some ⟨g_v0, 0, none⟩), .pointer (some ⟨g_v1, 0, none⟩)] w0 fun e w' => ∃ v, e = .returned v ∧ v = .agg #[I r.1, I r.2.1, I r.2.2] ∧ Mem w0.heap.size w0 w' [] := by
  refine X_enter Try.func29 rfl Try.ntmps29 rfl ?_
  intro a K
  have M := Mem.start w0
  have K : Kn a 98 [(0, .agg #[I d_R, I d_G, I d_B]), (1, I o), (2, I p2), (3, .pointer (some ⟨g_v0, 0, none⟩)), (4, .pointer (some ⟨g_v1, 0, none⟩))] := K
  unfold D_tone_Sharpen_2 at h
  refine wp_seq (X_reg ?_)
  refine X_a K (ac_box rfl K rfl (cs := [I d_R, I d_G, I d_B]) rfl M) ?_
  clear K M; rintro _ a w ⟨g_x, rfl, M⟩ K
  refine X_a K (ac_alloc rfl z34 M) ?_
  clear K M; rintro _ a w ⟨g_x2, rfl, M⟩ K
  refine wpList_nil (then_n (wp_seq (X_reg ?_)))
  refine X_a K (ac_alloc rfl z34 M) ?_
  clear K M; rintro _ a w ⟨g_x3, rfl, M⟩ K
  refine wpList_nil (then_n (wp_seq (wp_seq (X_reg ?_))))
  refine X_o K M ?_; clear K; intro a K
  refine wpList_nil (then_n (wp_block ?_))
  refine X_lp (id := 0) (Rel := fun (⟨x_R, x_G, x_B, i⟩ : Int × Int × Int × Int) a w => Kn a 98 [(1, I o), (2, I p2), (3, .pointer (some ⟨g_v0, 0, none⟩)), (4, .pointer (some ⟨g_v1, 0, none⟩)), (5, .pointer (some ⟨g_x, 0, none⟩)), (8, .pointer (some ⟨g_x2, 0, none⟩)), (9, .pointer (some ⟨g_x3, 0, none⟩)), (10, I i)] ∧ Mem w0.heap.size w0 w [.blk g_x3 34 [I x_R, I x_G, I x_B], .blk g_x2 34 [I 0, I 0, I 0], .blk g_x 34 [I d_R, I d_G, I d_B]]) h (fun _ _ => rfl) ⟨K.pick [1,2,3,4,5,8,9,10], M.pick [0,1,2] (by decide)⟩ ?_ ?_
  · clear K M h
    rintro ⟨x_R5, x_G5, x_B5, i5⟩ a w ⟨K, M⟩ h
    try dsimp only at h
    refine inb_e ?_
    refine then_n (wp_seq ?_)
    refine wp_region_tl (fun w => Mem _ _ w _) [0,0,0,0,0,1,0,0,0,0,0,1,0,0,0,0,0,1,0,2] (by kernel_rfl) (by kernel_rfl) M.drew ?_
    replace M := M.drew
    refine T_r K (rd_ldC rfl sc58 K rfl (inO B_g_v1) rfl) ?_; clear K
    refine U_r (fun _ K => rd_field rfl fld34_0 K rfl) ?_
    refine U_r (fun _ K => rd_ldC rfl sc3 K rfl (inM 2 rfl) rfl) ?_
    refine U_r (fun _ K => rd_field rfl fld34_0 K rfl) ?_
    refine U_r (fun _ K => rd_ldC rfl sc3 K rfl (inM 0 rfl) rfl) ?_; intro a K
    obtain ⟨r2, h_r2, h⟩ := obind h
    refine T_a K (ac_call (vs := [I d_R, I x_R5]) (cap := [.pointer (some ⟨g_v1_0, 0, none⟩)]) rfl fok26 K rfl rfl (W_tone_Sharpen_1 N d_R x_R5 v1_0 g_v1_0 _ (inO B_g_v1_0 _ M) r2 h_r2)) ?_
    have M0 := M; clear K M; rintro _ a w ⟨rfl, M⟩ K
    replace M := M0.call M; clear M0
    refine ⟨M.pick [0,1,2] (by decide), ?_⟩
    refine T_r K (rd_ldC rfl sc58 K rfl (inO B_g_v1) rfl) ?_; clear K
    refine U_r (fun _ K => rd_field rfl fld34_1 K rfl) ?_
    refine U_r (fun _ K => rd_ldC rfl sc3 K rfl (inM 2 rfl) rfl) ?_
    refine U_r (fun _ K => rd_field rfl fld34_1 K rfl) ?_
    refine U_r (fun _ K => rd_ldC rfl sc3 K rfl (inM 0 rfl) rfl) ?_; intro a K
    obtain ⟨r3, h_r3, h⟩ := obind h
    refine T_a K (ac_call (vs := [I d_G, I x_G5]) (cap := [.pointer (some ⟨g_v1_0, 0, none⟩)]) rfl fok26 K rfl rfl (W_tone_Sharpen_1 N d_G x_G5 v1_0 g_v1_0 _ (inO B_g_v1_0 _ M) r3 h_r3)) ?_
    have M0 := M; clear K M; rintro _ a w ⟨rfl, M⟩ K
    replace M := M0.call M; clear M0
    refine ⟨M.pick [0,1,2] (by decide), ?_⟩
    refine T_r K (rd_ldC rfl sc58 K rfl (inO B_g_v1) rfl) ?_; clear K
    refine U_r (fun _ K => rd_field rfl fld34_2 K rfl) ?_
    refine U_r (fun _ K => rd_ldC rfl sc3 K rfl (inM 2 rfl) rfl) ?_
    refine U_r (fun _ K => rd_field rfl fld34_2 K rfl) ?_
    refine U_r (fun _ K => rd_ldC rfl sc3 K rfl (inM 0 rfl) rfl) ?_; intro a K
    obtain ⟨r4, h_r4, h⟩ := obind h
    refine T_a K (ac_call (vs := [I d_B, I x_B5]) (cap := [.pointer (some ⟨g_v1_0, 0, none⟩)]) rfl fok26 K rfl rfl (W_tone_Sharpen_1 N d_B x_B5 v1_0 g_v1_0 _ (inO B_g_v1_0 _ M) r4 h_r4)) ?_
    have M0 := M; clear K M; rintro _ a w ⟨rfl, M⟩ K
    replace M := M0.call M; clear M0
    refine ⟨M.pick [0,1,2] (by decide), ?_⟩
    refine T_r K (rd_build rfl K (vs := [(0, I r2), (1, I r3), (2, I r4)]) (cs := [I r2, I r3, I r4]) rfl (by kernel_rfl)) ?_; clear K; intro a K
    refine T_b K (ac_storeA rfl ty34 K rfl (ds := [I r2, I r3, I r4]) rfl rfl 1 M rfl rfl rfl) ?_
    clear K M; rintro _ a w M K
    refine T_end ?_
    refine then_n (wp_ret ?_)
    cases h
    exact ret1 K rfl (res_cellA K rfl ty34 (M.blkAt (i := 1) rfl) rfl) ⟨_, rfl, rfl, ((M).pick [] (by decide))⟩
  clear K M h
  rintro kk fuel ⟨x_R, x_G, x_B, i⟩ a w hk1 ⟨K, M⟩ h
  unfold D_tone_Sharpen_2_l1 at h
  refine wp_seq (wp_seq (X_reg ?_))
  refine X_o K M ?_; clear K
  refine Y_o M ?_; intro a K
  refine wpList_nil (then_n ?_)
  refine X_cond K rfl (fun hb => ?_) (fun hb => ?_)
  · have h := ctrue hb h
    refine wp_skip (then_n (wp_seq (wp_block (wp_seq (X_reg ?_)))))
    refine X_o K M ?_; clear K; intro a K
    refine wpList_nil (then_n (wp_block ?_))
    refine X_lp (id := 2) (Rel := fun (⟨x_R3, x_G3, x_B3, i3⟩ : Int × Int × Int × Int) a w => Kn a 98 [(1, I o), (2, I p2), (3, .pointer (some ⟨g_v0, 0, none⟩)), (4, .pointer (some ⟨g_v1, 0, none⟩)), (5, .pointer (some ⟨g_x, 0, none⟩)), (8, .pointer (some ⟨g_x2, 0, none⟩)), (9, .pointer (some ⟨g_x3, 0, none⟩)), (10, I i), (11, I i3)] ∧ Mem w0.heap.size w0 w [.blk g_x3 34 [I x_R3, I x_G3, I x_B3], .blk g_x2 34 [I 0, I 0, I 0], .blk g_x 34 [I d_R, I d_G, I d_B]]) h (fun _ _ => rfl) ⟨K.pick [1,2,3,4,5,8,9,10,11], M.pick [0,1,2] (by decide)⟩ ?_ ?_
    · clear K M h
      rintro ⟨x_R4, x_G4, x_B4, i4⟩ a w ⟨K, M⟩ h
      try dsimp only at h
      refine inb_e ?_
      refine inb_n (then_n (X_reg ?_))
      refine X_o K M ?_; clear K
      refine Y_o M ?_
      obtain ⟨x12, hx, h⟩ := olet h
      refine Y_r (fun _ K => rdi hx (rd_assign rfl K rfl)) M ?_; intro a K
      refine wpList_nil ?_
      exact then_n ⟨(x_R4, x_G4, x_B4, x12), ⟨K.pick [1,2,3,4,5,8,9,10], M.pick [0,1,2] (by decide)⟩, h⟩
    clear K M h
    rintro kk fuel ⟨x_R3, x_G3, x_B3, i3⟩ a w hk2 ⟨K, M⟩ h
    unfold D_tone_Sharpen_2_l2 at h
    refine wp_seq (wp_seq (X_reg ?_))
    refine X_o K M ?_; clear K
    refine Y_o M ?_; intro a K
    refine wpList_nil (then_n ?_)
    refine X_cond K rfl (fun hb => ?_) (fun hb => ?_)
    · have h := ctrue hb h
      refine wp_skip (then_n (wp_seq (wp_block (wp_seq (X_reg ?_)))))
      refine X_r K (rd_field rfl fld24_2 K rfl) M ?_; clear K
      refine Y_r (fun _ K => rd_ldC rfl sc22 K rfl (inO B_g_v0) rfl) M ?_
      iterate 4 (refine Y_o M ?_)
      refine Y_r (fun _ K => rd_field rfl fld24_1 K rfl) M ?_
      refine Y_r (fun _ K => rd_ldC rfl sc3 K rfl (inO B_g_v0) rfl) M ?_
      iterate 2 (refine Y_o M ?_)
      refine Y_r (fun _ K => rd_field rfl fld24_0 K rfl) M ?_
      refine Y_r (fun _ K => rd_ldC rfl sc3 K rfl (inO B_g_v0) rfl) M ?_
      iterate 5 (refine Y_o M ?_)
      refine Y_r (fun _ K => rd_field rfl fld24_0 K rfl) M ?_
      refine Y_r (fun _ K => rd_ldC rfl sc3 K rfl (inO B_g_v0) rfl) M ?_
      iterate 2 (refine Y_o M ?_)
      obtain ⟨x9, hx, h⟩ := olet h
      refine Y_r (fun _ K => rdi hx (rd_add rfl K rfl rfl)) M ?_
      obtain ⟨e3, h_e3, h⟩ := obind h
      refine Y_r (fun _ K => rd_ix rfl sl22 K rfl rfl (inA R_v0_P) h_e3) M ?_
      refine Y_r (fun _ K => rd_elA rfl ty34 K rfl rfl rfl (inA R_v0_P) h_e3) M ?_; intro a K
      refine X_a K (ac_alloc rfl z34 M) ?_
      clear K M; rintro _ a w ⟨g_x6, rfl, M⟩ K
      refine X_b K (ac_storeA rfl ty34 K rfl (ds := [I e3.1, I e3.2.1, I e3.2.2]) rfl rfl 0 M rfl rfl rfl) ?_
      clear K M; rintro _ a w M K
      refine wpList_nil (then_n (wp_seq (X_reg ?_)))
      refine X_o K M ?_; clear K
      iterate 8 (refine Y_o M ?_)
      obtain ⟨x10, hx, h⟩ := olet h
      refine Y_r (fun _ K => rdi hx (rd_assign rfl K rfl)) M ?_; intro a K
      refine wpList_nil (then_n (wp_seq (X_reg ?_)))
      refine X_r K (rd_field rfl fld34_0 K rfl) M ?_; clear K
      refine Y_r (fun _ K => rd_ldC rfl sc3 K rfl (inM 1 rfl) rfl) M ?_
      refine Y_o M ?_
      refine Y_r (fun _ K => rd_field rfl fld34_0 K rfl) M ?_
      refine Y_r (fun _ K => rd_ldC rfl sc3 K rfl (inM 0 rfl) rfl) M ?_
      iterate 2 (refine Y_o M ?_)
      refine Y_r (fun _ K => rd_field rfl fld34_0 K rfl) M ?_; intro a K
      refine X_b K (ac_storeC rfl sc3 K rfl rfl rfl 1 M rfl rfl) ?_
      clear K M; rintro _ a w M K
      refine wpList_nil (then_n (wp_seq (X_reg ?_)))
      refine X_r K (rd_field rfl fld34_1 K rfl) M ?_; clear K
      refine Y_r (fun _ K => rd_ldC rfl sc3 K rfl (inM 1 rfl) rfl) M ?_
      refine Y_o M ?_
      refine Y_r (fun _ K => rd_field rfl fld34_1 K rfl) M ?_
      refine Y_r (fun _ K => rd_ldC rfl sc3 K rfl (inM 0 rfl) rfl) M ?_
      iterate 2 (refine Y_o M ?_)
      refine Y_r (fun _ K => rd_field rfl fld34_1 K rfl) M ?_; intro a K
      refine X_b K (ac_storeC rfl sc3 K rfl rfl rfl 1 M rfl rfl) ?_
      clear K M; rintro _ a w M K
      refine wpList_nil (then_n (X_reg ?_))
      refine X_r K (rd_field rfl fld34_2 K rfl) M ?_; clear K
      refine Y_r (fun _ K => rd_ldC rfl sc3 K rfl (inM 1 rfl) rfl) M ?_
      refine Y_o M ?_
      refine Y_r (fun _ K => rd_field rfl fld34_2 K rfl) M ?_
      refine Y_r (fun _ K => rd_ldC rfl sc3 K rfl (inM 0 rfl) rfl) M ?_
      iterate 2 (refine Y_o M ?_)
      refine Y_r (fun _ K => rd_field rfl fld34_2 K rfl) M ?_; intro a K
      refine X_b K (ac_storeC rfl sc3 K rfl rfl rfl 1 M rfl rfl) ?_
      clear K M; rintro _ a w M K
      refine wpList_nil (inb_n (then_n (X_reg ?_)))
      refine X_o K M ?_; clear K
      refine Y_o M ?_
      obtain ⟨x11, hx, h⟩ := olet h
      refine Y_r (fun _ K => rdi hx (rd_assign rfl K rfl)) M ?_; intro a K
      refine wpList_nil ?_
      exact then_n ⟨(IntKind.i64.wrap (x_R3 + (IntKind.i64.wrap (x10 * e3.1))), IntKind.i64.wrap (x_G3 + (IntKind.i64.wrap (x10 * e3.2.1))), IntKind.i64.wrap (x_B3 + (IntKind.i64.wrap (x10 * e3.2.2))), x11), ⟨K.pick [1,2,3,4,5,8,9,10,11], M.pick [1,2,3] (by decide)⟩, h⟩
    have h := cfalse hb h
    refine wp_exit ?_
    refine then_e ?_
    exact then_e (hk2 (x_R3, x_G3, x_B3, i3) _ _ ⟨K.pick [1,2,3,4,5,8,9,10,11], M.pick [0,1,2] (by decide)⟩ h)
  have h := cfalse hb h
  refine wp_exit ?_
  refine then_e ?_
  exact then_e (hk1 (x_R, x_G, x_B, i) _ _ ⟨K.pick [1,2,3,4,5,8,9,10], M.pick [0,1,2] (by decide)⟩ h)
set_option maxRecDepth 100000 in
set_option maxHeartbeats 4000000 in
theorem W_tone_each__tone_Sharpen_2 (N : Nat) (q_W : Int) (q_H : Int) (q_P : List (Int × Int × Int)) (A_q_P : Option Addr) (c_q_P : Nat) (Sharpen_2_0_W : Int) (Sharpen_2_0_H : Int) (Sharpen_2_0_P : List (Int × Int × Int)) (A_Sharpen_2_0_P : Option Addr) (c_Sharpen_2_0_P : Nat) (Sharpen_2_1_0 : Int) (g_Sharpen_2_0 : Nat) (g_Sharpen_2_1_0 : Nat) (g_Sharpen_2_1 : Nat) (w0 : World) (R_q_P : SL w0 cIII A_q_P q_P) (C_q_P : q_P.length ≤ c_q_P) (R_Sharpen_2_0_P : SL w0 cIII A_Sharpen_2_0_P Sharpen_2_0_P) (C_Sharpen_2_0_P : Sharpen_2_0_P.length ≤ c_Sharpen_2_0_P) (B_g_Sharpen_2_0 : Blk w0 g_Sharpen_2_0 24 #[I Sharpen_2_0_W, I Sharpen_2_0_H, .slice A_Sharpen_2_0_P Sharpen_2_0_P.length c_Sharpen_2_0_P]) (B_g_Sharpen_2_1_0 : Blk w0 g_Sharpen_2_1_0 3 #[I Sharpen_2_1_0]) (B_g_Sharpen_2_1 : Blk w0 g_Sharpen_2_1 58 #[.func (.func 26) #[] #[.pointer (some ⟨g_Sharpen_2_1_0, 0, none⟩)]]) (r : Int × Int × List (Int × Int × Int) × Int) (h : D_tone_each__tone_Sharpen_2 N q_W q_H q_P Sharpen_2_0_W Sharpen_2_0_H Sharpen_2_0_P Sharpen_2_1_0 = some r) :
    Calls Try.prog 28 #[.agg #[I q_W, I q_H, .slice A_q_P q_P.length c_q_P], .func (.func 29) #[] #[.pointer (some ⟨g_Sharpen_2_0, 0, none⟩), .pointer (some ⟨g_Sharpen_2_1, 0, none⟩)]] w0 fun e w' => ∃ v, e = .returned v ∧ ∃ A2 c2, v = .tuple #[.agg #[I r.1, I r.2.1, .slice A2 r.2.2.1.length c2], I r.2.2.2] ∧ Mem w0.heap.size w0 w' [.row 34 3 A2 r.2.2.1.length c2 (cIII.all r.2.2.1)] := by
  refine X_enter Try.func28 rfl Try.ntmps28 rfl ?_
  intro a K
  have M := Mem.start w0
  have K : Kn a 54 [(0, .agg #[I q_W, I q_H, .slice A_q_P q_P.length c_q_P]), (1, .func (.func 29) #[] #[.pointer (some ⟨g_Sharpen_2_0, 0, none⟩), .pointer (some ⟨g_Sharpen_2_1, 0, none⟩)])] := K
  unfold D_tone_each__tone_Sharpen_2 at h
  refine wp_seq (X_reg ?_)
  refine X_a K (ac_box rfl K rfl (cs := [I q_W, I q_H, .slice A_q_P q_P.length c_q_P]) rfl M) ?_
  clear K M; rintro _ a w ⟨g_q, rfl, M⟩ K
  refine X_a K (ac_alloc rfl z24 M) ?_
  clear K M; rintro _ a w ⟨g_x, rfl, M⟩ K
  refine X_o K M ?_; clear K; intro a K
  refine wpList_nil (then_n (wp_seq (wp_seq (X_reg ?_))))
  refine X_r K (rd_ldA rfl ty24 K rfl (inM 1 rfl) rfl rfl) M ?_; clear K; intro a K
  obtain ⟨r2, h_r2, h⟩ := obind h
  refine X_a K (ac_call (vs := [.agg #[I q_W, I q_H, .slice A_q_P q_P.length c_q_P], I 0]) (cap := []) rfl fok56 K rfl rfl (W_mosaic_Take N q_W q_H q_P A_q_P c_q_P 0 _ ((inA R_q_P) _ M) C_q_P r2 h_r2)) ?_
  have M0 := M; clear K M; rintro _ a w ⟨A, c, rfl, M⟩ K
  replace M := M0.call M; clear M0
  refine X_o K M ?_; clear K
  iterate 2 (refine Y_o M ?_)
  intro a K
  refine X_a K (ac_alloc rfl z45 M) ?_
  clear K M; rintro _ a w ⟨g__, rfl, M⟩ K
  refine X_b K (ac_storeA rfl ty45 K rfl (ds := [I r2.1, I r2.2.1, .slice A r2.2.2.1.length c]) rfl rfl 0 M rfl rfl rfl) ?_
  clear K M; rintro _ a w M K
  refine X_o K M ?_; clear K; intro a K
  refine wpList_nil (then_n (wp_seq (X_reg ?_)))
  refine X_o K M ?_; clear K
  refine Y_o M ?_; intro a K
  refine wpList_nil (then_n ?_)
  refine X_cond K rfl (fun hb => ?_) (fun hb => ?_)
  · have h := ctrue hb h
    refine wp_seq (X_reg ?_)
    refine X_r K (rd_build rfl K (vs := []) (cs := [I 0, I 0, .slice none (([] : List (Int × Int × Int))).length 0]) rfl (by kernel_rfl)) M ?_; clear K
    refine Y_o M ?_; intro a K
    refine X_b K (ac_storeA rfl ty24 K rfl (ds := [I 0, I 0, .slice none (([] : List (Int × Int × Int))).length 0]) rfl rfl 2 M rfl rfl rfl) ?_
    clear K M; rintro _ a w M K
    refine X_o K M ?_; clear K; intro a K
    refine wpList_nil (then_n (wp_ret (then_r ?_)))
    cases h
    exact ret2 K rfl (res_cellA K rfl ty24 (M.blkAt (i := 2) rfl) rfl) (res_tmp K rfl) ⟨_, rfl, _, _, rfl, (((Mem.nilrow 34 3 cIII M)).pick [0] (by decide))⟩
  have h := cfalse hb h
  refine wp_skip (then_n (wp_seq ?_))
  refine wp_region_tr (fun w => Mem _ _ w _) [0,0,0,0,0,0,0,1,0,1,2] 11 [0,1,2,3,4,5,6,7,8,9,10] (by kernel_rfl) (by kernel_rfl) (by kernel_rfl) rfl M.drew ?_
  replace M := M.drew
  refine R_rd 0 [1,2,3,4,5,6,7,8,9,10] (by kernel_rfl) rfl K (want_no rfl) rfl rfl (rd_field rfl fld24_0 K rfl) ?_; clear K; intro a K
  refine R_rd 1 [2,3,4,5,6,7,8,9,10] (by kernel_rfl) rfl K (want_no rfl) rfl rfl (rd_ldC rfl sc3 K rfl (inM 3 rfl) rfl) ?_; clear K; intro a K
  refine R_rd 2 [3,4,5,6,7,8,9,10] (by kernel_rfl) rfl K (want_no rfl) rfl rfl (rd_field rfl fld24_1 K rfl) ?_; clear K; intro a K
  refine R_rd 3 [4,5,6,7,8,9,10] (by kernel_rfl) rfl K (want_no rfl) rfl rfl (rd_ldC rfl sc3 K rfl (inM 3 rfl) rfl) ?_; clear K; intro a K
  refine R_rd 4 [5,6,7,8,9,10] (by kernel_rfl) rfl K (want_no rfl) rfl rfl (rd_field rfl fld24_2 K rfl) ?_; clear K; intro a K
  refine R_rd 5 [6,7,8,9,10] (by kernel_rfl) rfl K (want_no rfl) rfl rfl (rd_ldC rfl sc22 K rfl (inM 3 rfl) rfl) ?_; clear K; intro a K
  obtain ⟨x2, hx, h⟩ := olet h
  refine R_rd 6 [7,8,9,10] (by kernel_rfl) rfl K (want_no rfl) rfl rfl (rdi hx (rd_len rfl un22 K rfl)) ?_; clear K; intro a K
  refine R_br [7,9] (by kernel_rfl) ⟨?_, ?_, trivial⟩
  ·
    obtain ⟨l2, h_l2, h⟩ := obind h
    refine R_ac [8,9,10] (by kernel_rfl) rfl K (want_no rfl) rfl rfl (ac_make (C := cIII) (z := (0, 0, 0)) rfl sl22 rfl z34 rfl K rfl rfl M h_l2) ?_
    clear K M; rintro _ a w ⟨A2, c2, rfl, M⟩ K
    refine ⟨fun _ => M.pick [1,2,3,4] (by decide), ?_⟩
    refine R_rd 8 [9,10] (by kernel_rfl) rfl K (want_no rfl) rfl rfl (rd_build rfl K (vs := [(0, I q_W), (1, I q_H), (2, .slice A2 l2.length c2)]) (cs := [I q_W, I q_H, .slice A2 l2.length c2]) rfl (by kernel_rfl)) ?_; clear K; intro a K
    refine R_br [9] (by kernel_rfl) ⟨?_, trivial⟩
    refine R_ac [10] (by kernel_rfl) rfl K (want_no rfl) rfl rfl (ac_alloc rfl z24 M) ?_
    clear K M; rintro _ a w ⟨g_out, rfl, M⟩ K
    refine ⟨fun _ => M.pick [2,3,4,5] (by decide), ?_⟩
    refine R_br [10] (by kernel_rfl) ⟨?_, trivial⟩
    refine R_a0 [] (by kernel_rfl) rfl K (want_no rfl) rfl (ac_storeA rfl ty24 K rfl (ds := [I q_W, I q_H, .slice A2 l2.length c2]) rfl rfl 0 M rfl rfl rfl) ?_
    clear K M; rintro _ a w M K
    refine ⟨fun h => absurd h (by decide), ?_⟩
    refine R_end ?_
    refine then_n (wp_seq (wp_seq (X_reg ?_)))
    refine X_r K (rd_field rfl fld24_2 K rfl) M ?_; clear K
    refine Y_r (fun _ K => rd_ldC rfl sc22 K rfl (inM 5 rfl) rfl) M ?_
    refine Y_r (fun _ K => rd_len rfl un22 K rfl) M ?_
    refine Y_o M ?_; intro a K
    refine wpList_nil (then_n (wp_block ?_))
    refine X_lp (id := 0) (Rel := fun (⟨out_P, i⟩ : List (Int × Int × Int) × Int) a w => ∃ (A3 : Option Addr) (c3 : Nat), Kn a 54 [(1, .func (.func 29) #[] #[.pointer (some ⟨g_Sharpen_2_0, 0, none⟩), .pointer (some ⟨g_Sharpen_2_1, 0, none⟩)]), (2, .pointer (some ⟨g_q, 0, none⟩)), (4, .pointer (some ⟨g_x, 0, none⟩)), (8, .pointer (some ⟨g_out, 0, none⟩)), (30, .slice A_q_P q_P.length c_q_P), (31, I (q_P.length : Int)), (32, I i)] ∧ Mem w0.heap.size w0 w [.blk g_out 24 [I q_W, I q_H, .slice A3 out_P.length c3], .row 34 3 A3 out_P.length c3 (cIII.all out_P), .blk g_x 24 [I 0, I 0, .slice none (([] : List (Int × Int × Int))).length 0], .blk g_q 24 [I q_W, I q_H, .slice A_q_P q_P.length c_q_P]]) h (fun _ _ => rfl) ⟨A2, c2, K.pick [1,2,4,8,30,31,32], M.pick [0,1,4,5] (by decide)⟩ ?_ ?_
    · clear K M h
      rintro ⟨out_P2, i2⟩ a w ⟨A4, c4, K, M⟩ h
      try dsimp only at h
      refine inb_e ?_
      refine then_n (wp_seq (X_reg ?_))
      refine X_r K (rd_ldA rfl ty24 K rfl (inM 0 rfl) rfl rfl) M ?_; clear K; intro a K
      refine X_b K (ac_storeA rfl ty24 K rfl (ds := [I q_W, I q_H, .slice A4 out_P2.length c4]) rfl rfl 2 M rfl rfl rfl) ?_
      clear K M; rintro _ a w M K
      refine X_o K M ?_; clear K; intro a K
      refine wpList_nil (then_n (wp_ret ?_))
      cases h
      exact ret2 K rfl (res_cellA K rfl ty24 (M.blkAt (i := 2) rfl) rfl) (res_tmp K rfl) ⟨_, rfl, _, _, rfl, ((M).pick [1] (by decide))⟩
    clear K M h
    rintro kk fuel ⟨out_P, i⟩ a w hk1 ⟨A3, c3, K, M⟩ h
    unfold D_tone_each__tone_Sharpen_2_l1 at h
    refine wp_seq (X_reg ?_)
    refine X_o K M ?_; clear K; intro a K
    refine wpList_nil (then_n (wp_seq ?_))
    refine X_cond K rfl (fun hb => ?_) (fun hb => ?_)
    · have h := ctrue hb h
      refine wp_skip (then_n (wp_seq (wp_block (wp_seq (X_reg ?_)))))
      refine X_o K M ?_; clear K
      obtain ⟨e3, h_e3, h⟩ := obind h
      refine Y_r (fun _ K => rd_ix rfl sl22 K rfl rfl (inA R_q_P) h_e3) M ?_
      refine Y_r (fun _ K => rd_elA rfl ty34 K rfl rfl rfl (inA R_q_P) h_e3) M ?_; intro a K
      refine X_a K (ac_alloc rfl z34 M) ?_
      clear K M; rintro _ a w ⟨g_c2, rfl, M⟩ K
      refine X_o K M ?_; clear K; intro a K
      refine X_b K (ac_storeA rfl ty34 K rfl (ds := [I e3.1, I e3.2.1, I e3.2.2]) rfl rfl 0 M rfl rfl rfl) ?_
      clear K M; rintro _ a w M K
      refine wpList_nil (then_n ?_)
      refine wp_region_tl (fun w => Mem _ _ w _) [0,0,0,0,0,0,0,0,0,0,0,0,0,1,0,2] (by kernel_rfl) (by kernel_rfl) M.drew ?_
      replace M := M.drew
      refine T_r K (rd_field rfl fld24_2 K rfl) ?_; clear K
      refine U_r (fun _ K => rd_ldC rfl sc22 K rfl (inM 1 rfl) rfl) ?_
      iterate 2 (refine U_o ?_)
      refine U_r (fun _ K => rd_ldA rfl ty34 K rfl (inM 0 rfl) rfl rfl) ?_
      refine U_o ?_
      refine U_r (fun _ K => rd_field rfl fld24_0 K rfl) ?_
      refine U_r (fun _ K => rd_ldC rfl sc3 K rfl (inM 4 rfl) rfl) ?_; intro a K
      obtain ⟨_, h0, h⟩ := obind h
      have h0 := nz_spec h0
      refine T_r K (rd_rem rfl K rfl rfl h0) ?_; clear K
      refine U_o ?_
      refine U_r (fun _ K => rd_field rfl fld24_0 K rfl) ?_
      refine U_r (fun _ K => rd_ldC rfl sc3 K rfl (inM 4 rfl) rfl) ?_; intro a K
      obtain ⟨_, h0, h⟩ := obind h
      have h0 := nz_spec h0
      refine T_r K (rd_quo rfl K rfl rfl h0) ?_; clear K; intro a K
      obtain ⟨r4, h_r4, h⟩ := obind h
      refine T_a K (ac_call (vs := [.agg #[I e3.1, I e3.2.1, I e3.2.2], I (Int.tmod i q_W), I (IntKind.i64.wrap (Int.tdiv i q_W))]) (cap := [.pointer (some ⟨g_Sharpen_2_0, 0, none⟩), .pointer (some ⟨g_Sharpen_2_1, 0, none⟩)]) rfl fok29 K rfl rfl (W_tone_Sharpen_2 N e3.1 e3.2.1 e3.2.2 (Int.tmod i q_W) (IntKind.i64.wrap (Int.tdiv i q_W)) Sharpen_2_0_W Sharpen_2_0_H Sharpen_2_0_P A_Sharpen_2_0_P c_Sharpen_2_0_P Sharpen_2_1_0 g_Sharpen_2_0 g_Sharpen_2_1_0 g_Sharpen_2_1 _ ((inA R_Sharpen_2_0_P) _ M) C_Sharpen_2_0_P (inO B_g_Sharpen_2_0 _ M) (inO B_g_Sharpen_2_1_0 _ M) (inO B_g_Sharpen_2_1 _ M) r4 h_r4)) ?_
      have M0 := M; clear K M; rintro _ a w ⟨rfl, M⟩ K
      replace M := M0.call M; clear M0
      refine ⟨M.pick [0,1,2,3,4] (by decide), ?_⟩
      obtain ⟨e4, h_e4, h⟩ := obind h
      refine T_r K (rd_ix rfl sl22 K rfl rfl (inR (C := cIII) 2 rfl rfl) h_e4) ?_; clear K; intro a K
      obtain ⟨l4, h_l4, h⟩ := obind h
      refine T_b K (ac_rowset (el := (r4.1, r4.2.1, r4.2.2)) rfl sz34 rfl rfl K rfl rfl rfl 2 M rfl h_l4) ?_
      have M0 := M; clear K M; rintro _ a w M K
      have hl := setL_len h_l4
      try rw [hl] at M
      clear hl
      clear M0
      refine T_end ?_
      refine inb_n (then_n (X_reg ?_))
      refine X_o K M ?_; clear K
      refine Y_o M ?_; intro a K
      refine wpList_nil ?_
      exact then_n ⟨(l4, IntKind.i64.wrap (i + 1)), ⟨A3, c3, K.pick [1,2,4,8,30,31,32], M.pick [1,2,3,4] (by decide)⟩, h⟩
    have h := cfalse hb h
    refine wp_exit ?_
    refine then_e ?_
    exact then_e (hk1 (out_P, i) _ _ ⟨A3, c3, K.pick [1,2,4,8,30,31,32], M.pick [0,1,2,3] (by decide)⟩ h)
  ·
    refine R_ac [7,8,10] (by kernel_rfl) rfl K (want_no rfl) rfl rfl (ac_alloc rfl z24 M) ?_
    clear K M; rintro _ a w ⟨g_out2, rfl, M⟩ K
    refine ⟨fun _ => M.pick [1,2,3,4] (by decide), ?_⟩
    refine R_br [7] (by kernel_rfl) ⟨?_, trivial⟩
    obtain ⟨l5, h_l5, h⟩ := obind h
    refine R_ac [8,10] (by kernel_rfl) rfl K (want_no rfl) rfl rfl (ac_make (C := cIII) (z := (0, 0, 0)) rfl sl22 rfl z34 rfl K rfl rfl M h_l5) ?_
    clear K M; rintro _ a w ⟨A5, c5, rfl, M⟩ K
    refine ⟨fun _ => M.pick [2,3,4,5] (by decide), ?_⟩
    refine R_rd 8 [10] (by kernel_rfl) rfl K (want_no rfl) rfl rfl (rd_build rfl K (vs := [(0, I q_W), (1, I q_H), (2, .slice A5 l5.length c5)]) (cs := [I q_W, I q_H, .slice A5 l5.length c5]) rfl (by kernel_rfl)) ?_; clear K; intro a K
    refine R_br [10] (by kernel_rfl) ⟨?_, trivial⟩
    refine R_a0 [] (by kernel_rfl) rfl K (want_no rfl) rfl (ac_storeA rfl ty24 K rfl (ds := [I q_W, I q_H, .slice A5 l5.length c5]) rfl rfl 1 M rfl rfl rfl) ?_
    clear K M; rintro _ a w M K
    refine ⟨fun h => absurd h (by decide), ?_⟩
    refine R_end ?_
    refine then_n (wp_seq (wp_seq (X_reg ?_)))
    refine X_r K (rd_field rfl fld24_2 K rfl) M ?_; clear K
    refine Y_r (fun _ K => rd_ldC rfl sc22 K rfl (inM 5 rfl) rfl) M ?_
    refine Y_r (fun _ K => rd_len rfl un22 K rfl) M ?_
    refine Y_o M ?_; intro a K
    refine wpList_nil (then_n (wp_block ?_))
    refine X_lp (id := 0) (Rel := fun (⟨out_P3, i3⟩ : List (Int × Int × Int) × Int) a w => ∃ (A6 : Option Addr) (c6 : Nat), Kn a 54 [(1, .func (.func 29) #[] #[.pointer (some ⟨g_Sharpen_2_0, 0, none⟩), .pointer (some ⟨g_Sharpen_2_1, 0, none⟩)]), (2, .pointer (some ⟨g_q, 0, none⟩)), (4, .pointer (some ⟨g_x, 0, none⟩)), (8, .pointer (some ⟨g_out2, 0, none⟩)), (30, .slice A_q_P q_P.length c_q_P), (31, I (q_P.length : Int)), (32, I i3)] ∧ Mem w0.heap.size w0 w [.row 34 3 A6 out_P3.length c6 (cIII.all out_P3), .blk g_out2 24 [I q_W, I q_H, .slice A6 out_P3.length c6], .blk g_x 24 [I 0, I 0, .slice none (([] : List (Int × Int × Int))).length 0], .blk g_q 24 [I q_W, I q_H, .slice A_q_P q_P.length c_q_P]]) h (fun _ _ => rfl) ⟨A5, c5, K.pick [1,2,4,8,30,31,32], M.pick [0,1,4,5] (by decide)⟩ ?_ ?_
    · clear K M h
      rintro ⟨out_P4, i4⟩ a w ⟨A7, c7, K, M⟩ h
      try dsimp only at h
      refine inb_e ?_
      refine then_n (wp_seq (X_reg ?_))
      refine X_r K (rd_ldA rfl ty24 K rfl (inM 1 rfl) rfl rfl) M ?_; clear K; intro a K
      refine X_b K (ac_storeA rfl ty24 K rfl (ds := [I q_W, I q_H, .slice A7 out_P4.length c7]) rfl rfl 2 M rfl rfl rfl) ?_
      clear K M; rintro _ a w M K
      refine X_o K M ?_; clear K; intro a K
      refine wpList_nil (then_n (wp_ret ?_))
      cases h
      exact ret2 K rfl (res_cellA K rfl ty24 (M.blkAt (i := 2) rfl) rfl) (res_tmp K rfl) ⟨_, rfl, _, _, rfl, ((M).pick [0] (by decide))⟩
    clear K M h
    rintro kk fuel ⟨out_P3, i3⟩ a w hk1 ⟨A6, c6, K, M⟩ h
    unfold D_tone_each__tone_Sharpen_2_l1 at h
    refine wp_seq (X_reg ?_)
    refine X_o K M ?_; clear K; intro a K
    refine wpList_nil (then_n (wp_seq ?_))
    refine X_cond K rfl (fun hb => ?_) (fun hb => ?_)
    · have h := ctrue hb h
      refine wp_skip (then_n (wp_seq (wp_block (wp_seq (X_reg ?_)))))
      refine X_o K M ?_; clear K
      obtain ⟨e7, h_e7, h⟩ := obind h
      refine Y_r (fun _ K => rd_ix rfl sl22 K rfl rfl (inA R_q_P) h_e7) M ?_
      refine Y_r (fun _ K => rd_elA rfl ty34 K rfl rfl rfl (inA R_q_P) h_e7) M ?_; intro a K
      refine X_a K (ac_alloc rfl z34 M) ?_
      clear K M; rintro _ a w ⟨g_c4, rfl, M⟩ K
      refine X_o K M ?_; clear K; intro a K
      refine X_b K (ac_storeA rfl ty34 K rfl (ds := [I e7.1, I e7.2.1, I e7.2.2]) rfl rfl 0 M rfl rfl rfl) ?_
      clear K M; rintro _ a w M K
      refine wpList_nil (then_n ?_)
      refine wp_region_tl (fun w => Mem _ _ w _) [0,0,0,0,0,0,0,0,0,0,0,0,0,1,0,2] (by kernel_rfl) (by kernel_rfl) M.drew ?_
      replace M := M.drew
      refine T_r K (rd_field rfl fld24_2 K rfl) ?_; clear K
      refine U_r (fun _ K => rd_ldC rfl sc22 K rfl (inM 2 rfl) rfl) ?_
      iterate 2 (refine U_o ?_)
      refine U_r (fun _ K => rd_ldA rfl ty34 K rfl (inM 0 rfl) rfl rfl) ?_
      refine U_o ?_
      refine U_r (fun _ K => rd_field rfl fld24_0 K rfl) ?_
      refine U_r (fun _ K => rd_ldC rfl sc3 K rfl (inM 4 rfl) rfl) ?_; intro a K
      obtain ⟨_, h0, h⟩ := obind h
      have h0 := nz_spec h0
      refine T_r K (rd_rem rfl K rfl rfl h0) ?_; clear K
      refine U_o ?_
      refine U_r (fun _ K => rd_field rfl fld24_0 K rfl) ?_
      refine U_r (fun _ K => rd_ldC rfl sc3 K rfl (inM 4 rfl) rfl) ?_; intro a K
      obtain ⟨_, h0, h⟩ := obind h
      have h0 := nz_spec h0
      refine T_r K (rd_quo rfl K rfl rfl h0) ?_; clear K; intro a K
      obtain ⟨r6, h_r6, h⟩ := obind h
      refine T_a K (ac_call (vs := [.agg #[I e7.1, I e7.2.1, I e7.2.2], I (Int.tmod i3 q_W), I (IntKind.i64.wrap (Int.tdiv i3 q_W))]) (cap := [.pointer (some ⟨g_Sharpen_2_0, 0, none⟩), .pointer (some ⟨g_Sharpen_2_1, 0, none⟩)]) rfl fok29 K rfl rfl (W_tone_Sharpen_2 N e7.1 e7.2.1 e7.2.2 (Int.tmod i3 q_W) (IntKind.i64.wrap (Int.tdiv i3 q_W)) Sharpen_2_0_W Sharpen_2_0_H Sharpen_2_0_P A_Sharpen_2_0_P c_Sharpen_2_0_P Sharpen_2_1_0 g_Sharpen_2_0 g_Sharpen_2_1_0 g_Sharpen_2_1 _ ((inA R_Sharpen_2_0_P) _ M) C_Sharpen_2_0_P (inO B_g_Sharpen_2_0 _ M) (inO B_g_Sharpen_2_1_0 _ M) (inO B_g_Sharpen_2_1 _ M) r6 h_r6)) ?_
      have M0 := M; clear K M; rintro _ a w ⟨rfl, M⟩ K
      replace M := M0.call M; clear M0
      refine ⟨M.pick [0,1,2,3,4] (by decide), ?_⟩
      obtain ⟨e8, h_e8, h⟩ := obind h
      refine T_r K (rd_ix rfl sl22 K rfl rfl (inR (C := cIII) 1 rfl rfl) h_e8) ?_; clear K; intro a K
      obtain ⟨l7, h_l7, h⟩ := obind h
      refine T_b K (ac_rowset (el := (r6.1, r6.2.1, r6.2.2)) rfl sz34 rfl rfl K rfl rfl rfl 1 M rfl h_l7) ?_
      have M0 := M; clear K M; rintro _ a w M K
      have hl := setL_len h_l7
      try rw [hl] at M
      clear hl
      clear M0
      refine T_end ?_
      refine inb_n (then_n (X_reg ?_))
      refine X_o K M ?_; clear K
      refine Y_o M ?_; intro a K
      refine wpList_nil ?_
      exact then_n ⟨(l7, IntKind.i64.wrap (i3 + 1)), ⟨A6, c6, K.pick [1,2,4,8,30,31,32], M.pick [1,2,3,4] (by decide)⟩, h⟩
    have h := cfalse hb h
    refine wp_exit ?_
    refine then_e ?_
    exact then_e (hk1 (out_P3, i3) _ _ ⟨A6, c6, K.pick [1,2,4,8,30,31,32], M.pick [0,1,2,3] (by decide)⟩ h)
set_option maxRecDepth 100000 in
set_option maxHeartbeats 4000000 in
theorem W_tone_Sharpen (N : Nat) (q_W : Int) (q_H : Int) (q_P : List (Int × Int × Int)) (A_q_P : Option Addr) (c_q_P : Nat) (amount : Int) (w0 : World) (R_q_P : SL w0 cIII A_q_P q_P) (C_q_P : q_P.length ≤ c_q_P) (r : Int × Int × List (Int × Int × Int) × Int) (h : D_tone_Sharpen N q_W q_H q_P amount = some r) :
    Calls Try.prog 10 #[.agg #[I q_W, I q_H, .slice A_q_P q_P.length c_q_P], I amount] w0 fun e w' => ∃ v, e = .returned v ∧ ∃ A2 c2, v = .tuple #[.agg #[I r.1, I r.2.1, .slice A2 r.2.2.1.length c2], I r.2.2.2] ∧ Mem w0.heap.size w0 w' [.row 34 3 A2 r.2.2.1.length c2 (cIII.all r.2.2.1)] := by
  refine X_enter Try.func10 rfl Try.ntmps10 rfl ?_
  intro a K
  have M := Mem.start w0
  have K : Kn a 29 [(0, .agg #[I q_W, I q_H, .slice A_q_P q_P.length c_q_P]), (1, I amount)] := K
  unfold D_tone_Sharpen at h
  refine wp_seq (X_reg ?_)
  refine X_a K (ac_box rfl K rfl (cs := [I q_W, I q_H, .slice A_q_P q_P.length c_q_P]) rfl M) ?_
  clear K M; rintro _ a w ⟨g_q, rfl, M⟩ K
  refine X_a K (ac_box rfl K rfl (cs := [I amount]) rfl M) ?_
  clear K M; rintro _ a w ⟨g_amount, rfl, M⟩ K
  refine X_a K (ac_alloc rfl z24 M) ?_
  clear K M; rintro _ a w ⟨g_x, rfl, M⟩ K
  refine X_o K M ?_; clear K; intro a K
  refine wpList_nil (then_n (wp_seq (X_reg ?_)))
  refine X_r K (rd_func rfl K (vs := [.pointer (some ⟨g_amount, 0, none⟩)]) rfl) M ?_; clear K; intro a K
  refine X_a K (ac_alloc rfl z58 M) ?_
  clear K M; rintro _ a w ⟨g_one, rfl, M⟩ K
  refine X_b K (ac_storeC rfl sc58 K rfl rfl rfl 0 M rfl rfl) ?_
  clear K M; rintro _ a w M K
  refine wpList_nil (then_n (wp_seq (X_reg ?_)))
  refine X_r K (rd_ldA rfl ty24 K rfl (inM 3 rfl) rfl rfl) M ?_; clear K
  refine Y_r (fun _ K => rd_func rfl K (vs := [.pointer (some ⟨g_q, 0, none⟩), .pointer (some ⟨g_one, 0, none⟩)]) rfl) M ?_; intro a K
  obtain ⟨r2, h_r2, h⟩ := obind h
  refine X_a K (ac_call (vs := [.agg #[I q_W, I q_H, .slice A_q_P q_P.length c_q_P], .func (.func 29) #[] #[.pointer (some ⟨g_q, 0, none⟩), .pointer (some ⟨g_one, 0, none⟩)]]) (cap := []) rfl fok28 K rfl rfl (W_tone_each__tone_Sharpen_2 N q_W q_H q_P A_q_P c_q_P q_W q_H q_P A_q_P c_q_P amount g_q g_amount g_one _ ((inA R_q_P) _ M) C_q_P ((inA R_q_P) _ M) C_q_P (M.blkAt (i := 3) rfl) (M.blkAt (i := 2) rfl) (M.blkAt (i := 0) rfl) r2 h_r2)) ?_
  have M0 := M; clear K M; rintro _ a w ⟨A, c, rfl, M⟩ K
  replace M := M0.call M; clear M0
  refine X_o K M ?_; clear K
  iterate 2 (refine Y_o M ?_)
  intro a K
  refine X_a K (ac_alloc rfl z24 M) ?_
  clear K M; rintro _ a w ⟨g_out, rfl, M⟩ K
  refine X_b K (ac_storeA rfl ty24 K rfl (ds := [I r2.1, I r2.2.1, .slice A r2.2.2.1.length c]) rfl rfl 0 M rfl rfl rfl) ?_
  clear K M; rintro _ a w M K
  refine X_o K M ?_; clear K; intro a K
  refine wpList_nil (then_n (wp_seq (wp_seq (X_reg ?_))))
  refine X_o K M ?_; clear K
  iterate 2 (refine Y_o M ?_)
  intro a K
  rcases Bool.eq_false_or_eq_true (decide (r2.2.2.2 = 0)) with hb | hb
  · have h := ctrue hb h
    have K := K.reb (s := 18) rfl hb
    refine X_r K (rd_ldC rfl sc3 K rfl (inM 4 rfl) rfl) M ?_; clear K
    iterate 2 (refine Y_o M ?_)
    intro a K
    rcases Bool.eq_false_or_eq_true (decide (amount < 0)) with hb | hb
    · have h := ctrue hb h
      have K := K.reb (s := 21) rfl hb
      refine X_o K M ?_; clear K
      iterate 3 (refine Y_o M ?_)
      intro a K
      refine wpList_nil (then_n ?_)
      refine X_condT K rfl ?_
      refine wp_seq (X_reg ?_)
      refine X_r K (rd_build rfl K (vs := []) (cs := [I 0, I 0, .slice none (([] : List (Int × Int × Int))).length 0]) rfl (by kernel_rfl)) M ?_; clear K; intro a K
      refine X_b K (ac_storeA rfl ty24 K rfl (ds := [I 0, I 0, .slice none (([] : List (Int × Int × Int))).length 0]) rfl rfl 3 M rfl rfl rfl) ?_
      clear K M; rintro _ a w M K
      refine X_o K M ?_; clear K; intro a K
      refine wpList_nil (then_n (wp_ret (then_r ?_)))
      cases h
      exact ret2 K rfl (res_cellA K rfl ty24 (M.blkAt (i := 3) rfl) rfl) (res_tmp K rfl) ⟨_, rfl, _, _, rfl, (((Mem.nilrow 34 3 cIII M)).pick [0] (by decide))⟩
    have h := cfalse hb h
    have K := K.reb (s := 21) rfl hb
    refine X_r K (rd_ldC rfl sc3 K rfl (inM 4 rfl) rfl) M ?_; clear K
    iterate 3 (refine Y_o M ?_)
    intro a K
    refine wpList_nil (then_n ?_)
    refine X_cond K rfl (fun hb => ?_) (fun hb => ?_)
    · have h := ctrue hb h
      refine wp_seq (X_reg ?_)
      refine X_r K (rd_build rfl K (vs := []) (cs := [I 0, I 0, .slice none (([] : List (Int × Int × Int))).length 0]) rfl (by kernel_rfl)) M ?_; clear K; intro a K
      refine X_b K (ac_storeA rfl ty24 K rfl (ds := [I 0, I 0, .slice none (([] : List (Int × Int × Int))).length 0]) rfl rfl 3 M rfl rfl rfl) ?_
      clear K M; rintro _ a w M K
      refine X_o K M ?_; clear K; intro a K
      refine wpList_nil (then_n (wp_ret (then_r ?_)))
      cases h
      exact ret2 K rfl (res_cellA K rfl ty24 (M.blkAt (i := 3) rfl) rfl) (res_tmp K rfl) ⟨_, rfl, _, _, rfl, (((Mem.nilrow 34 3 cIII M)).pick [0] (by decide))⟩
    have h := cfalse hb h
    refine wp_skip (then_n (wp_seq (X_reg ?_)))
    refine X_r K (rd_ldA rfl ty24 K rfl (inM 0 rfl) rfl rfl) M ?_; clear K
    refine Y_o M ?_; intro a K
    refine X_b K (ac_storeA rfl ty24 K rfl (ds := [I r2.1, I r2.2.1, .slice A r2.2.2.1.length c]) rfl rfl 3 M rfl rfl rfl) ?_
    clear K M; rintro _ a w M K
    refine X_o K M ?_; clear K; intro a K
    refine wpList_nil (then_n (wp_ret ?_))
    cases h
    exact ret2 K rfl (res_cellA K rfl ty24 (M.blkAt (i := 3) rfl) rfl) (res_tmp K rfl) ⟨_, rfl, _, _, rfl, ((M).pick [1] (by decide))⟩
  have h := cfalse hb h
  have K := K.reb (s := 18) rfl hb
  refine X_o K M ?_; clear K
  iterate 6 (refine Y_o M ?_)
  intro a K
  refine wpList_nil (then_n ?_)
  refine X_condF K rfl ?_
  refine wp_skip (then_n (wp_seq (X_reg ?_)))
  refine X_r K (rd_ldA rfl ty24 K rfl (inM 0 rfl) rfl rfl) M ?_; clear K
  refine Y_o M ?_; intro a K
  refine X_b K (ac_storeA rfl ty24 K rfl (ds := [I r2.1, I r2.2.1, .slice A r2.2.2.1.length c]) rfl rfl 3 M rfl rfl rfl) ?_
  clear K M; rintro _ a w M K
  refine X_o K M ?_; clear K; intro a K
  refine wpList_nil (then_n (wp_ret ?_))
  cases h
  exact ret2 K rfl (res_cellA K rfl ty24 (M.blkAt (i := 3) rfl) rfl) (res_tmp K rfl) ⟨_, rfl, _, _, rfl, ((M).pick [1] (by decide))⟩
end Go.Proofs.Ytpmnfhifmmfglab
