/- Texts of the claim BitsPacks, joined: WBits, WRefSameints, WLawBitsbegun, WRefBytes, WRefNumber, WRefPacked, WRefWithin, WRefPackerror, WRefRow, WRefValue, WRefUnpacked, WLawBitspacks. -/
import Derived.Test.YtpmnfhifmmfglabDoorBitsPacksK1
import Derived.Test.YtpmnfhifmmfglabDoorBitsPacksK2
set_option linter.unusedVariables false
set_option linter.unusedSimpArgs false
set_option linter.unusedSectionVars false
namespace Go.Proofs.YtpmnfhifmmfglabDoor
open Go.RowKit
set_option maxRecDepth 100000 in
set_option maxHeartbeats 4000000 in
theorem W_bits_depths (N : Nat) (n : Int) (w0 : World)  (r : Bool) (h : D_bits_depths N n = some r) :
    Calls Tryd.prog 35 #[I n] w0 fun e w' => ∃ v, e = .returned v ∧ v = .bool r ∧ Mem w0.heap.size w0 w' [] := by
  refine X_enter Tryd.func35 rfl Tryd.ntmps35 rfl ?_
  intro a K
  have M := Mem.start w0
  have K : Kn a 9 [(0, I n)] := K
  unfold D_bits_depths at h
  refine wp_seq (X_reg ?_)
  refine X_o K M ?_; clear K; intro a K
  refine wpList_nil (then_n (wp_seq (X_reg ?_)))
  refine X_o K M ?_; clear K
  iterate 2 (refine Y_o M ?_)
  intro a K
  rcases Bool.eq_false_or_eq_true (decide (1 ≤ n)) with hb | hb
  · have h := ctrue hb h
    have K := K.reb (s := 5) rfl hb
    refine X_o K M ?_; clear K
    iterate 3 (refine Y_o M ?_)
    intro a K
    refine wpList_nil (then_n (wp_ret ?_))
    cases h
    exact ret1 K rfl (res_tmp K rfl) ⟨_, rfl, rfl, ((M).pick [] (by decide))⟩
  have h := cfalse hb h
  have K := K.reb (s := 5) rfl hb
  refine X_o K M ?_; clear K
  iterate 3 (refine Y_o M ?_)
  intro a K
  refine wpList_nil (then_n (wp_ret ?_))
  cases h
  exact ret1 K rfl (res_tmp K rfl) ⟨_, rfl, rfl, ((M).pick [] (by decide))⟩
set_option maxRecDepth 100000 in
set_option maxHeartbeats 4000000 in
theorem W_bits_Pack (N : Nat) (d : List Int) (A_d : Option Addr) (c_d : Nat) (o : Int) (w0 : World) (R_d : SL w0 (cI .i64) A_d d) (C_d : d.length ≤ c_d) (r : List UInt8 × Int) (h : D_bits_Pack N d o = some r) :
    Calls Tryd.prog 18 #[.slice A_d d.length c_d, I o] w0 fun e w' => ∃ v, e = .returned v ∧ v = .tuple #[.string (bs r.1), I r.2] ∧ Mem w0.heap.size w0 w' [] := by
  refine X_enter Tryd.func18 rfl Tryd.ntmps18 rfl ?_
  intro a K
  have M := Mem.start w0
  have K : Kn a 75 [(0, .slice A_d d.length c_d), (1, I o)] := K
  unfold D_bits_Pack at h
  refine wp_seq (X_reg ?_)
  refine X_o K M ?_; clear K
  refine Y_o M ?_; intro a K
  refine wpList_nil (then_n (wp_seq (wp_seq (X_reg ?_))))
  refine X_o K M ?_; clear K; intro a K
  obtain ⟨r2, h_r2, h⟩ := obind h
  refine X_a K (ac_call (vs := [I o]) (cap := []) rfl fok35 K rfl rfl (W_bits_depths N o _  r2 h_r2)) ?_
  have M0 := M; clear K M; rintro _ a w ⟨rfl, M⟩ K
  replace M := M0.call M; clear M0
  refine X_o K M ?_; clear K; intro a K
  refine wpList_nil (then_n ?_)
  refine X_cond K rfl (fun hb => ?_) (fun hb => ?_)
  · have h := ctrue hb h
    refine wp_seq (X_reg ?_)
    refine X_o K M ?_; clear K
    refine Y_o M ?_; intro a K
    refine wpList_nil (then_n (wp_ret (then_r ?_)))
    cases h
    exact ret2 K rfl (res_tmp K rfl) (res_tmp K rfl) ⟨_, rfl, rfl, ((M).pick [] (by decide))⟩
  have h := cfalse hb h
  refine wp_skip (then_n (wp_seq (wp_seq (X_reg ?_))))
  refine X_o K M ?_; clear K
  refine Y_r (fun _ K => rd_len rfl un35 K rfl) M ?_
  refine Y_o M ?_; intro a K
  refine wpList_nil (then_n ?_)
  refine X_cond K rfl (fun hb => ?_) (fun hb => ?_)
  · have h := ctrue hb h
    refine wp_seq (X_reg ?_)
    refine X_o K M ?_; clear K
    refine Y_o M ?_; intro a K
    refine wpList_nil (then_n (wp_ret (then_r ?_)))
    cases h
    exact ret2 K rfl (res_tmp K rfl) (res_tmp K rfl) ⟨_, rfl, rfl, ((M).pick [] (by decide))⟩
  have h := cfalse hb h
  refine wp_skip (then_n (wp_seq (X_reg ?_)))
  refine X_o K M ?_; clear K
  refine Y_r (fun _ K => rd_len rfl un35 K rfl) M ?_
  iterate 3 (refine Y_o M ?_)
  refine Y_r (fun _ K => rd_quo rfl K rfl rfl (by decide)) M ?_; intro a K
  obtain ⟨_, h0, h⟩ := obind h
  have h0 := mok_spec h0
  refine X_a K (ac_make0 (C := (cI .u8)) rfl sl50 rfl (by rw [z5]; rfl) rfl K rfl rfl M h0) ?_
  clear K M; rintro _ a w ⟨A, c, rfl, M⟩ K
  refine X_o K M ?_; clear K; intro a K
  refine wpList_nil (then_n (wp_seq (X_reg ?_)))
  refine X_o K M ?_; clear K
  refine Y_o M ?_; intro a K
  refine wpList_nil (then_n (wp_seq (wp_seq (X_reg ?_))))
  refine X_o K M ?_; clear K
  refine Y_r (fun _ K => rd_len rfl un35 K rfl) M ?_
  refine Y_o M ?_; intro a K
  refine wpList_nil (then_n (wp_block ?_))
  refine X_lp (id := 0) (Rel := fun (⟨l2, i, i2, i3⟩ : List Int × Int × Int × Int) a w => ∃ (A2 : Option Addr) (c2 : Nat), Kn a 75 [(1, I o), (6, .slice A2 l2.length c2), (7, I i), (8, I i2), (24, .slice A_d d.length c_d), (25, I (d.length : Int)), (26, I i3)] ∧ Mem w0.heap.size w0 w [.row 5 1 A2 l2.length c2 ((cI .u8).all l2)]) h (fun _ _ => rfl) ⟨A, c, K.pick [1,6,7,8,24,25,26], M.pick [0] (by decide)⟩ ?_ ?_
  · clear K M h
    rintro ⟨l9, i7, i8, i9⟩ a w ⟨A9, c9, K, M⟩ h
    try dsimp only at h
    refine inb_e ?_
    refine then_n (wp_seq (wp_seq (X_reg ?_)))
    refine X_o K M ?_; clear K
    refine Y_o M ?_; intro a K
    refine wpList_nil (then_n ?_)
    refine X_cond K rfl (fun hb => ?_) (fun hb => ?_)
    · have h := ctrue hb h
      refine X_reg ?_
      refine X_o K M ?_; clear K
      iterate 3 (refine Y_o M ?_)
      intro a K
      obtain ⟨_, h0, h⟩ := obind h
      have h0 := nn_spec h0
      refine X_r K (rd_shl rfl K rfl rfl h0) M ?_; clear K
      refine Y_r (fun _ K => rd_conv rfl rfl ik5 K rfl) M ?_; intro a K
      refine X_a K (ac_bslice rfl sl50 z5 K (vs := [(0, .int .u8 (IntKind.u8.wrap (shlI .i64 i7 (IntKind.i64.wrap (8 - i8)))))]) (cs := [.int .u8 (IntKind.u8.wrap (shlI .i64 i7 (IntKind.i64.wrap (8 - i8))))]) rfl (by kernel_rfl) rfl rfl M) ?_
      have M0 := M; clear K M; rintro _ a w ⟨gs4, rfl, M⟩ K
      replace M := M.asRow 0 rfl (cI .u8) ([IntKind.u8.wrap (shlI .i64 i7 (IntKind.i64.wrap (8 - i8)))] : List Int) (n := 1) rfl rfl rfl
      clear M0
      obtain ⟨l10, h_l10, h⟩ := obind h
      refine X_a K (ac_app (C := (cI .u8)) (xs := l9) (ys := ([IntKind.u8.wrap (shlI .i64 i7 (IntKind.i64.wrap (8 - i8)))] : List Int)) rfl sl50 rfl z5 rfl rfl K rfl rfl 1 M rfl ((inR (C := (cI .u8)) 0 rfl rfl) _ M) h_l10) ?_
      clear K M; rintro _ a w ⟨A10, c10, rfl, M⟩ K
      refine X_o K M ?_; clear K; intro a K
      refine wpList_nil (then_n (wp_seq (X_reg ?_)))
      refine X_o K M ?_; clear K
      refine Y_r (fun _ K => rd_convBS rfl sl50 ik5 st9 K rfl (inR (C := (cI .u8)) 1 rfl rfl)) M ?_
      iterate 2 (refine Y_o M ?_)
      intro a K
      refine wpList_nil (then_n (wp_ret ?_))
      cases h
      exact ret2 K rfl (res_tmp K rfl) (res_tmp K rfl) ⟨_, rfl, rfl, ((M).pick [] (by decide))⟩
    have h := cfalse hb h
    refine wp_skip (then_n (wp_seq (X_reg ?_)))
    refine X_o K M ?_; clear K
    refine Y_r (fun _ K => rd_convBS rfl sl50 ik5 st9 K rfl (inR (C := (cI .u8)) 0 rfl rfl)) M ?_
    iterate 2 (refine Y_o M ?_)
    intro a K
    refine wpList_nil (then_n (wp_ret ?_))
    cases h
    exact ret2 K rfl (res_tmp K rfl) (res_tmp K rfl) ⟨_, rfl, rfl, ((M).pick [] (by decide))⟩
  clear K M h
  rintro kk fuel ⟨l2, i, i2, i3⟩ a w hk1 ⟨A2, c2, K, M⟩ h
  unfold D_bits_Pack_l1 at h
  refine wp_seq (X_reg ?_)
  refine X_o K M ?_; clear K; intro a K
  refine wpList_nil (then_n (wp_seq ?_))
  refine X_cond K rfl (fun hb => ?_) (fun hb => ?_)
  · have h := ctrue hb h
    refine wp_skip (then_n (wp_seq (wp_block (wp_seq (X_reg ?_)))))
    obtain ⟨e2, h_e2, h⟩ := obind h
    refine X_r K (rd_ix rfl sl35 K rfl rfl (inA R_d) h_e2) M ?_; clear K
    refine Y_r (fun _ K => rd_elC rfl sc3 K rfl rfl (inA R_d) h_e2 rfl) M ?_
    refine Y_o M ?_; intro a K
    refine wpList_nil (then_n (wp_seq (wp_seq (X_reg ?_))))
    refine X_o K M ?_; clear K
    iterate 2 (refine Y_o M ?_)
    intro a K
    rcases Bool.eq_false_or_eq_true (decide (e2 < 0)) with hb | hb
    · have h := ctrue hb h
      have K := K.reb (s := 32) rfl hb
      refine X_o K M ?_; clear K
      iterate 4 (refine Y_o M ?_)
      intro a K
      refine wpList_nil (then_n ?_)
      refine X_condT K rfl ?_
      refine wp_seq (X_reg ?_)
      refine X_o K M ?_; clear K
      refine Y_o M ?_; intro a K
      refine wpList_nil (then_n (wp_ret (then_r (inb_r (then_r (then_r (inb_r (then_r ?_))))))))
      cases h
      exact ret2 K rfl (res_tmp K rfl) (res_tmp K rfl) ⟨_, rfl, rfl, ((M).pick [] (by decide))⟩
    have h := cfalse hb h
    have K := K.reb (s := 32) rfl hb
    refine X_o K M ?_; clear K
    refine Y_o M ?_; intro a K
    obtain ⟨_, h0, h⟩ := obind h
    have h0 := nn_spec h0
    refine X_r K (rd_shl rfl K rfl rfl h0) M ?_; clear K
    iterate 2 (refine Y_o M ?_)
    intro a K
    refine wpList_nil (then_n ?_)
    refine X_cond K rfl (fun hb => ?_) (fun hb => ?_)
    · have h := ctrue hb h
      refine wp_seq (X_reg ?_)
      refine X_o K M ?_; clear K
      refine Y_o M ?_; intro a K
      refine wpList_nil (then_n (wp_ret (then_r (inb_r (then_r (then_r (inb_r (then_r ?_))))))))
      cases h
      exact ret2 K rfl (res_tmp K rfl) (res_tmp K rfl) ⟨_, rfl, rfl, ((M).pick [] (by decide))⟩
    have h := cfalse hb h
    refine wp_skip (then_n (wp_seq (X_reg ?_)))
    refine X_o K M ?_; clear K
    refine Y_o M ?_; intro a K
    obtain ⟨_, h0, h⟩ := obind h
    have h0 := nn_spec h0
    refine X_r K (rd_shl rfl K rfl rfl h0) M ?_; clear K
    refine Y_o M ?_
    refine Y_r (fun _ K => rd_or rfl K rfl rfl) M ?_
    iterate 3 (refine Y_o M ?_)
    obtain ⟨x6, hx, h⟩ := olet h
    refine Y_r (fun _ K => rdi hx (rd_assign rfl K rfl)) M ?_
    obtain ⟨x7, hx, h⟩ := olet h
    refine Y_r (fun _ K => rdi hx (rd_assign rfl K rfl)) M ?_; intro a K
    refine wpList_nil (then_n (wp_seq (wp_block ?_)))
    refine X_lp (id := 2) (Rel := fun (⟨l5, i5⟩ : List Int × Int) a w => ∃ (A5 : Option Addr) (c5 : Nat), Kn a 75 [(1, I o), (6, .slice A5 l5.length c5), (7, I x6), (8, I i5), (24, .slice A_d d.length c_d), (25, I (d.length : Int)), (26, I i3), (33, I e2), (34, I o), (35, I (shlI .i64 1 o)), (36, .bool (decide ((shlI .i64 1 o) ≤ e2)))] ∧ Mem w0.heap.size w0 w [.row 5 1 A5 l5.length c5 ((cI .u8).all l5)]) h (fun _ _ => rfl) ⟨A2, c2, K.pick [1,6,7,8,24,25,26,33,34,35,36], M.pick [0] (by decide)⟩ ?_ ?_
    · clear K M h
      rintro ⟨l8, i6⟩ a w ⟨A8, c8, K, M⟩ h
      try dsimp only at h
      refine inb_e ?_
      refine then_n (X_reg ?_)
      refine X_o K M ?_; clear K
      refine Y_o M ?_; intro a K
      obtain ⟨_, h0, h⟩ := obind h
      have h0 := nn_spec h0
      refine X_r K (rd_shl rfl K rfl rfl h0) M ?_; clear K
      iterate 2 (refine Y_o M ?_)
      obtain ⟨x10, hx, h⟩ := olet h
      refine Y_r (fun _ K => rdi hx (rd_assign rfl K rfl)) M ?_; intro a K
      refine wpList_nil (inb_n (then_n (X_reg ?_)))
      refine X_o K M ?_; clear K
      refine Y_o M ?_; intro a K
      refine wpList_nil ?_
      exact then_n ⟨(l8, x10, i6, IntKind.i64.wrap (i3 + 1)), ⟨A8, c8, K.pick [1,6,7,8,24,25,26], M.pick [0] (by decide)⟩, h⟩
    clear K M h
    rintro kk fuel ⟨l5, i5⟩ a w hk2 ⟨A5, c5, K, M⟩ h
    unfold D_bits_Pack_l2 at h
    refine wp_seq (wp_seq (X_reg ?_))
    refine X_o K M ?_; clear K
    refine Y_o M ?_; intro a K
    refine wpList_nil (then_n ?_)
    refine X_cond K rfl (fun hb => ?_) (fun hb => ?_)
    · have h := ctrue hb h
      refine wp_skip (then_n (wp_block (wp_seq (X_reg ?_))))
      refine X_o K M ?_; clear K
      refine Y_o M ?_
      obtain ⟨x9, hx, h⟩ := olet h
      refine Y_r (fun _ K => rdi hx (rd_assign rfl K rfl)) M ?_; intro a K
      refine wpList_nil (then_n (X_reg ?_))
      refine X_o K M ?_; clear K
      iterate 2 (refine Y_o M ?_)
      intro a K
      obtain ⟨_, h0, h⟩ := obind h
      have h0 := nn_spec h0
      refine X_r K (rd_shr rfl K rfl rfl h0) M ?_; clear K
      refine Y_r (fun _ K => rd_conv rfl rfl ik5 K rfl) M ?_; intro a K
      refine X_a K (ac_bslice rfl sl50 z5 K (vs := [(0, .int .u8 (IntKind.u8.wrap (shrI .i64 x6 x9)))]) (cs := [.int .u8 (IntKind.u8.wrap (shrI .i64 x6 x9))]) rfl (by kernel_rfl) rfl rfl M) ?_
      have M0 := M; clear K M; rintro _ a w ⟨gs3, rfl, M⟩ K
      replace M := M.asRow 0 rfl (cI .u8) ([IntKind.u8.wrap (shrI .i64 x6 x9)] : List Int) (n := 1) rfl rfl rfl
      clear M0
      obtain ⟨l7, h_l7, h⟩ := obind h
      refine X_a K (ac_app (C := (cI .u8)) (xs := l5) (ys := ([IntKind.u8.wrap (shrI .i64 x6 x9)] : List Int)) rfl sl50 rfl z5 rfl rfl K rfl rfl 1 M rfl ((inR (C := (cI .u8)) 0 rfl rfl) _ M) h_l7) ?_
      clear K M; rintro _ a w ⟨A7, c7, rfl, M⟩ K
      refine X_o K M ?_; clear K; intro a K
      refine wpList_nil (inb_n ?_)
      exact then_n ⟨(l7, x9), ⟨A7, c7, K.pick [1,6,7,8,24,25,26,33,34,35,36], M.pick [1] (by decide)⟩, h⟩
    have h := cfalse hb h
    refine wp_exit ?_
    refine then_e ?_
    exact then_e (hk2 (l5, i5) _ _ ⟨A5, c5, K.pick [1,6,7,8,24,25,26,33,34,35,36], M.pick [0] (by decide)⟩ h)
  have h := cfalse hb h
  refine wp_exit ?_
  refine then_e ?_
  exact then_e (hk1 (l2, i, i2, i3) _ _ ⟨A2, c2, K.pick [1,6,7,8,24,25,26], M.pick [0] (by decide)⟩ h)
set_option maxRecDepth 100000 in
set_option maxHeartbeats 4000000 in
theorem W_bits_Unpack (N : Nat) (d : List UInt8) (o : Int) (p2 : Int) (w0 : World)  (r : List Int × Int) (h : D_bits_Unpack N d o p2 = some r) :
    Calls Tryd.prog 21 #[.string (bs d), I o, I p2] w0 fun e w' => ∃ v, e = .returned v ∧ ∃ A0 c0, v = .tuple #[.slice A0 r.1.length c0, I r.2] ∧ Mem w0.heap.size w0 w' [.row 3 1 A0 r.1.length c0 ((cI .i64).all r.1)] := by
  refine X_enter Tryd.func21 rfl Tryd.ntmps21 rfl ?_
  intro a K
  have M := Mem.start w0
  have K : Kn a 70 [(0, .string (bs d)), (1, I o), (2, I p2)] := K
  unfold D_bits_Unpack at h
  refine wp_seq (X_reg ?_)
  refine X_o K M ?_; clear K
  refine Y_o M ?_; intro a K
  refine wpList_nil (then_n (wp_seq (wp_seq (X_reg ?_))))
  refine X_o K M ?_; clear K; intro a K
  obtain ⟨r2, h_r2, h⟩ := obind h
  refine X_a K (ac_call (vs := [I o]) (cap := []) rfl fok35 K rfl rfl (W_bits_depths N o _  r2 h_r2)) ?_
  have M0 := M; clear K M; rintro _ a w ⟨rfl, M⟩ K
  replace M := M0.call M; clear M0
  refine X_o K M ?_; clear K
  refine Y_o M ?_; intro a K
  rcases Bool.eq_false_or_eq_true (!(r2)) with hb | hb
  · have h := ctrue hb h
    have K := K.reb (s := 15) rfl hb
    refine X_o K M ?_; clear K
    iterate 2 (refine Y_o M ?_)
    intro a K
    refine wpList_nil (then_n ?_)
    refine X_condT K rfl ?_
    refine wp_seq (X_reg ?_)
    refine X_o K M ?_; clear K
    refine Y_o M ?_; intro a K
    refine wpList_nil (then_n (wp_ret (then_r ?_)))
    cases h
    exact ret2 K rfl (res_tmp K rfl) (res_tmp K rfl) ⟨_, rfl, _, _, rfl, (((Mem.nilrow 3 1 (cI .i64) M)).pick [0] (by decide))⟩
  have h := cfalse hb h
  have K := K.reb (s := 15) rfl hb
  refine X_o K M ?_; clear K
  iterate 2 (refine Y_o M ?_)
  intro a K
  refine wpList_nil (then_n ?_)
  refine X_cond K rfl (fun hb => ?_) (fun hb => ?_)
  · have h := ctrue hb h
    refine wp_seq (X_reg ?_)
    refine X_o K M ?_; clear K
    refine Y_o M ?_; intro a K
    refine wpList_nil (then_n (wp_ret (then_r ?_)))
    cases h
    exact ret2 K rfl (res_tmp K rfl) (res_tmp K rfl) ⟨_, rfl, _, _, rfl, (((Mem.nilrow 3 1 (cI .i64) M)).pick [0] (by decide))⟩
  have h := cfalse hb h
  refine wp_skip (then_n (wp_seq (wp_seq (X_reg ?_))))
  refine X_o K M ?_; clear K
  refine Y_o M ?_; intro a K
  refine wpList_nil (then_n ?_)
  refine X_cond K rfl (fun hb => ?_) (fun hb => ?_)
  · have h := ctrue hb h
    refine wp_seq (X_reg ?_)
    refine X_o K M ?_; clear K
    refine Y_o M ?_; intro a K
    refine wpList_nil (then_n (wp_ret (then_r ?_)))
    cases h
    exact ret2 K rfl (res_tmp K rfl) (res_tmp K rfl) ⟨_, rfl, _, _, rfl, (((Mem.nilrow 3 1 (cI .i64) M)).pick [0] (by decide))⟩
  have h := cfalse hb h
  refine wp_skip (then_n (wp_seq (wp_seq (X_reg ?_))))
  refine X_o K M ?_; clear K
  refine Y_r (fun _ K => rd_lenT rfl st9 K rfl) M ?_
  iterate 4 (refine Y_o M ?_)
  refine Y_r (fun _ K => rd_quo rfl K rfl rfl (by decide)) M ?_
  refine Y_o M ?_; intro a K
  refine wpList_nil (then_n ?_)
  refine X_cond K rfl (fun hb => ?_) (fun hb => ?_)
  · have h := ctrue hb h
    refine wp_seq (X_reg ?_)
    refine X_o K M ?_; clear K
    refine Y_o M ?_; intro a K
    refine wpList_nil (then_n (wp_ret (then_r ?_)))
    cases h
    exact ret2 K rfl (res_tmp K rfl) (res_tmp K rfl) ⟨_, rfl, _, _, rfl, (((Mem.nilrow 3 1 (cI .i64) M)).pick [0] (by decide))⟩
  have h := cfalse hb h
  refine wp_skip (then_n (wp_seq (X_reg ?_)))
  refine X_o K M ?_; clear K; intro a K
  refine wpList_nil (then_n (wp_seq (X_reg ?_)))
  refine X_o K M ?_; clear K
  refine Y_o M ?_; intro a K
  refine wpList_nil (then_n (wp_seq (wp_seq (X_reg ?_))))
  refine X_o K M ?_; clear K
  refine Y_r (fun _ K => rd_lenT rfl st9 K rfl) M ?_
  refine Y_o M ?_; intro a K
  refine wpList_nil (then_n (wp_block ?_))
  replace M := Mem.nilrow 3 1 (cI .i64) M
  refine X_lp (id := 0) (Rel := fun (⟨l5, i3, i4, i5⟩ : List Int × Int × Int × Int) a w => ∃ (A4 : Option Addr) (c4 : Nat), Kn a 70 [(0, .string (bs d)), (1, I o), (2, I p2), (8, .slice A4 l5.length c4), (9, I i3), (10, I i4), (30, I (d.length : Int)), (31, I i5)] ∧ Mem w0.heap.size w0 w [.row 3 1 A4 l5.length c4 ((cI .i64).all l5)]) h (fun _ _ => rfl) ⟨none, 0, K.pick [0,1,2,8,9,10,30,31], M.pick [0] (by decide)⟩ ?_ ?_
  · clear K M h
    rintro ⟨l12, i12, i13, i14⟩ a w ⟨A11, c11, K, M⟩ h
    try dsimp only at h
    refine inb_e ?_
    refine then_n (wp_seq (wp_seq (X_reg ?_)))
    refine X_o K M ?_; clear K
    refine Y_o M ?_; intro a K
    refine wpList_nil (then_n ?_)
    refine X_cond K rfl (fun hb => ?_) (fun hb => ?_)
    · have h := ctrue hb h
      refine wp_seq (X_reg ?_)
      refine X_o K M ?_; clear K
      refine Y_o M ?_; intro a K
      refine wpList_nil (then_n (wp_ret (then_r ?_)))
      cases h
      exact ret2 K rfl (res_tmp K rfl) (res_tmp K rfl) ⟨_, rfl, _, _, rfl, (((Mem.nilrow 3 1 (cI .i64) M)).pick [0] (by decide))⟩
    have h := cfalse hb h
    refine wp_skip (then_n (wp_seq (X_reg ?_)))
    refine X_o K M ?_; clear K
    iterate 2 (refine Y_o M ?_)
    intro a K
    refine wpList_nil (then_n (wp_ret ?_))
    cases h
    exact ret2 K rfl (res_tmp K rfl) (res_tmp K rfl) ⟨_, rfl, _, _, rfl, ((M).pick [0] (by decide))⟩
  clear K M h
  rintro kk fuel ⟨l5, i3, i4, i5⟩ a w hk1 ⟨A4, c4, K, M⟩ h
  unfold D_bits_Unpack_l1 at h
  refine wp_seq (X_reg ?_)
  refine X_o K M ?_; clear K; intro a K
  refine wpList_nil (then_n (wp_seq ?_))
  refine X_cond K rfl (fun hb => ?_) (fun hb => ?_)
  · have h := ctrue hb h
    refine wp_skip (then_n (wp_seq (wp_block (wp_seq (X_reg ?_)))))
    refine X_o K M ?_; clear K
    refine Y_o M ?_; intro a K
    refine wpList_nil (then_n (wp_seq (X_reg ?_)))
    refine X_o K M ?_; clear K
    refine Y_r (fun _ K => rd_shl rfl K rfl rfl (by decide)) M ?_
    iterate 2 (refine Y_o M ?_)
    obtain ⟨b3, h_b3, h⟩ := obind h
    refine Y_r (fun _ K => rd_ixT rfl st9 K rfl rfl h_b3) M ?_
    refine Y_r (fun _ K => rd_conv rfl rfl ik3 K rfl) M ?_
    refine Y_r (fun _ K => rd_or rfl K rfl rfl) M ?_
    iterate 2 (refine Y_o M ?_)
    obtain ⟨x12, hx, h⟩ := olet h
    refine Y_r (fun _ K => rdi hx (rd_assign rfl K rfl)) M ?_
    obtain ⟨x13, hx, h⟩ := olet h
    refine Y_r (fun _ K => rdi hx (rd_assign rfl K rfl)) M ?_; intro a K
    refine wpList_nil (then_n (wp_block ?_))
    refine X_lp (id := 2) (Rel := fun (⟨l8, i8, i9⟩ : List Int × Int × Int) a w => ∃ (A7 : Option Addr) (c7 : Nat), Kn a 70 [(0, .string (bs d)), (1, I o), (2, I p2), (8, .slice A7 l8.length c7), (9, I i8), (10, I i9), (30, I (d.length : Int)), (31, I i5)] ∧ Mem w0.heap.size w0 w [.row 3 1 A7 l8.length c7 ((cI .i64).all l8)]) h (fun _ _ => rfl) ⟨A4, c4, K.pick [0,1,2,8,9,10,30,31], M.pick [0] (by decide)⟩ ?_ ?_
    · clear K M h
      rintro ⟨l11, i10, i11⟩ a w ⟨A10, c10, K, M⟩ h
      try dsimp only at h
      refine inb_e ?_
      refine inb_n (then_n (X_reg ?_))
      refine X_o K M ?_; clear K
      refine Y_o M ?_; intro a K
      refine wpList_nil ?_
      exact then_n ⟨(l11, i10, i11, IntKind.i64.wrap (i5 + 1)), ⟨A10, c10, K.pick [0,1,2,8,9,10,30,31], M.pick [0] (by decide)⟩, h⟩
    clear K M h
    rintro kk fuel ⟨l8, i8, i9⟩ a w hk2 ⟨A7, c7, K, M⟩ h
    unfold D_bits_Unpack_l2 at h
    refine wp_seq (wp_seq (X_reg ?_))
    refine X_o K M ?_; clear K
    iterate 3 (refine Y_o M ?_)
    intro a K
    rcases Bool.eq_false_or_eq_true (decide (o ≤ i9)) with hb | hb
    · have h := ctrue hb h
      have K := K.reb (s := 46) rfl hb
      refine X_o K M ?_; clear K
      refine Y_r (fun _ K => rd_len rfl un35 K rfl) M ?_
      iterate 3 (refine Y_o M ?_)
      intro a K
      refine wpList_nil (then_n ?_)
      refine X_cond K rfl (fun hb => ?_) (fun hb => ?_)
      · have h := ctrue hb h
        refine wp_skip (then_n (wp_block (wp_seq (X_reg ?_))))
        refine X_o K M ?_; clear K
        iterate 2 (refine Y_o M ?_)
        obtain ⟨x16, hx, h⟩ := olet h
        refine Y_r (fun _ K => rdi hx (rd_assign rfl K rfl)) M ?_; intro a K
        refine wpList_nil (then_n (wp_seq (X_reg ?_)))
        refine X_o K M ?_; clear K
        iterate 2 (refine Y_o M ?_)
        intro a K
        obtain ⟨_, h0, h⟩ := obind h
        have h0 := nn_spec h0
        refine X_r K (rd_shr rfl K rfl rfl h0) M ?_; clear K; intro a K
        refine X_a K (ac_bslice rfl sl35 z3 K (vs := [(0, I (shrI .i64 i8 x16))]) (cs := [I (shrI .i64 i8 x16)]) rfl (by kernel_rfl) rfl rfl M) ?_
        have M0 := M; clear K M; rintro _ a w ⟨gs5, rfl, M⟩ K
        replace M := M.asRow 0 rfl (cI .i64) ([shrI .i64 i8 x16] : List Int) (n := 1) rfl rfl rfl
        clear M0
        obtain ⟨l10, h_l10, h⟩ := obind h
        refine X_a K (ac_app (C := (cI .i64)) (xs := l8) (ys := ([shrI .i64 i8 x16] : List Int)) rfl sl35 rfl z3 rfl rfl K rfl rfl 1 M rfl ((inR (C := (cI .i64)) 0 rfl rfl) _ M) h_l10) ?_
        clear K M; rintro _ a w ⟨A9, c9, rfl, M⟩ K
        refine X_o K M ?_; clear K; intro a K
        refine wpList_nil (then_n (X_reg ?_))
        refine X_o K M ?_; clear K
        refine Y_o M ?_; intro a K
        obtain ⟨_, h0, h⟩ := obind h
        have h0 := nn_spec h0
        refine X_r K (rd_shl rfl K rfl rfl h0) M ?_; clear K
        iterate 2 (refine Y_o M ?_)
        obtain ⟨x17, hx, h⟩ := olet h
        refine Y_r (fun _ K => rdi hx (rd_assign rfl K rfl)) M ?_; intro a K
        refine wpList_nil (inb_n ?_)
        exact then_n ⟨(l10, x17, x16), ⟨A9, c9, K.pick [0,1,2,8,9,10,30,31], M.pick [1] (by decide)⟩, h⟩
      have h := cfalse hb h
      refine wp_exit ?_
      refine then_e ?_
      exact then_e (hk2 (l8, i8, i9) _ _ ⟨A7, c7, K.pick [0,1,2,8,9,10,30,31], M.pick [0] (by decide)⟩ h)
    have h := cfalse hb h
    have K := K.reb (s := 46) rfl hb
    refine X_o K M ?_; clear K
    iterate 4 (refine Y_o M ?_)
    intro a K
    refine wpList_nil (then_n ?_)
    refine X_condF K rfl ?_
    refine wp_exit ?_
    refine then_e ?_
    exact then_e (hk2 (l8, i8, i9) _ _ ⟨A7, c7, K.pick [0,1,2,8,9,10,30,31], M.pick [0] (by decide)⟩ h)
  have h := cfalse hb h
  refine wp_exit ?_
  refine then_e ?_
  exact then_e (hk1 (l5, i3, i4, i5) _ _ ⟨A4, c4, K.pick [0,1,2,8,9,10,30,31], M.pick [0] (by decide)⟩ h)
set_option maxRecDepth 100000 in
set_option maxHeartbeats 4000000 in
theorem W_bits_all (N : Nat) (b : List UInt8) (w0 : World)  (r : Bool) (h : D_bits_all N b = some r) :
    Calls Tryd.prog 30 #[.string (bs b)] w0 fun e w' => ∃ v, e = .returned v ∧ v = .bool r ∧ Mem w0.heap.size w0 w' [] := by
  refine X_enter Tryd.func30 rfl Tryd.ntmps30 rfl ?_
  intro a K
  have M := Mem.start w0
  have K : Kn a 16 [(0, .string (bs b))] := K
  unfold D_bits_all at h
  refine wp_seq (X_reg ?_)
  refine X_o K M ?_; clear K; intro a K
  refine wpList_nil (then_n (wp_seq (X_reg ?_)))
  refine X_o K M ?_; clear K; intro a K
  obtain ⟨r2, h_r2, h⟩ := obind h
  refine X_a K (ac_call (vs := [.string (bs b), .string (bs ([48, 49] : List UInt8))]) (cap := []) rfl fok42 K rfl rfl (W_strings_Trim N b ([48, 49] : List UInt8) _  r2 h_r2)) ?_
  have M0 := M; clear K M; rintro _ a w ⟨rfl, M⟩ K
  replace M := M0.call M; clear M0
  refine X_r K (rd_eqlS rfl K rfl rfl) M ?_; clear K
  refine Y_o M ?_; intro a K
  rcases Bool.eq_false_or_eq_true (decide (r2 = ([] : List UInt8))) with hb | hb
  · have h := ctrue hb h
    have K := K.reb (s := 6) rfl hb
    refine X_o K M ?_; clear K; intro a K
    obtain ⟨r3, h_r3, h⟩ := obind h
    refine X_a K (ac_call (vs := [.string (bs b), .string (bs ([48] : List UInt8))]) (cap := []) rfl fok43 K rfl rfl (W_strings_Count N b ([48] : List UInt8) _  r3 h_r3)) ?_
    have M0 := M; clear K M; rintro _ a w ⟨rfl, M⟩ K
    replace M := M0.call M; clear M0
    refine X_o K M ?_; clear K; intro a K
    obtain ⟨r4, h_r4, h⟩ := obind h
    refine X_a K (ac_call (vs := [.string (bs b), .string (bs ([49] : List UInt8))]) (cap := []) rfl fok43 K rfl rfl (W_strings_Count N b ([49] : List UInt8) _  r4 h_r4)) ?_
    have M0 := M; clear K M; rintro _ a w ⟨rfl, M⟩ K
    replace M := M0.call M; clear M0
    refine X_o K M ?_; clear K
    refine Y_o M ?_
    refine Y_r (fun _ K => rd_lenT rfl st9 K rfl) M ?_
    iterate 3 (refine Y_o M ?_)
    intro a K
    refine wpList_nil (then_n (wp_ret ?_))
    cases h
    exact ret1 K rfl (res_tmp K rfl) ⟨_, rfl, rfl, ((M).pick [] (by decide))⟩
  have h := cfalse hb h
  have K := K.reb (s := 6) rfl hb
  refine X_o K M ?_; clear K
  iterate 9 (refine Y_o M ?_)
  intro a K
  refine wpList_nil (then_n (wp_ret ?_))
  cases h
  exact ret1 K rfl (res_tmp K rfl) ⟨_, rfl, rfl, ((M).pick [] (by decide))⟩
set_option maxRecDepth 100000 in
set_option maxHeartbeats 4000000 in
theorem W_bits_Bytes (N : Nat) (b : List UInt8) (w0 : World)  (r : List UInt8 × Int) (h : D_bits_Bytes N b = some r) :
    Calls Tryd.prog 7 #[.string (bs b)] w0 fun e w' => ∃ v, e = .returned v ∧ v = .tuple #[.string (bs r.1), I r.2] ∧ Mem w0.heap.size w0 w' [] := by
  refine X_enter Tryd.func7 rfl Tryd.ntmps7 rfl ?_
  intro a K
  have M := Mem.start w0
  have K : Kn a 37 [(0, .string (bs b))] := K
  unfold D_bits_Bytes at h
  refine wp_seq (X_reg ?_)
  refine X_o K M ?_; clear K
  refine Y_o M ?_; intro a K
  refine wpList_nil (then_n (wp_seq (wp_seq (X_reg ?_))))
  refine X_o K M ?_; clear K; intro a K
  obtain ⟨r2, h_r2, h⟩ := obind h
  refine X_a K (ac_call (vs := [.string (bs b)]) (cap := []) rfl fok30 K rfl rfl (W_bits_all N b _  r2 h_r2)) ?_
  have M0 := M; clear K M; rintro _ a w ⟨rfl, M⟩ K
  replace M := M0.call M; clear M0
  refine X_o K M ?_; clear K; intro a K
  refine wpList_nil (then_n ?_)
  refine X_cond K rfl (fun hb => ?_) (fun hb => ?_)
  · have h := ctrue hb h
    refine wp_seq (X_reg ?_)
    refine X_o K M ?_; clear K
    refine Y_o M ?_; intro a K
    refine wpList_nil (then_n (wp_ret (then_r ?_)))
    cases h
    exact ret2 K rfl (res_tmp K rfl) (res_tmp K rfl) ⟨_, rfl, rfl, ((M).pick [] (by decide))⟩
  have h := cfalse hb h
  refine wp_skip (then_n (wp_seq (X_reg ?_)))
  refine X_o K M ?_; clear K
  refine Y_r (fun _ K => rd_lenT rfl st9 K rfl) M ?_
  refine Y_o M ?_
  obtain ⟨x2, hx, h⟩ := olet h
  refine Y_r (fun _ K => rdi hx (rd_quo rfl K rfl rfl (by decide))) M ?_; intro a K
  obtain ⟨l2, h_l2, h⟩ := obind h
  refine X_a K (ac_make (C := (cI .u8)) (z := 0) rfl sl50 rfl z5 rfl K rfl rfl M h_l2) ?_
  clear K M; rintro _ a w ⟨A, c, rfl, M⟩ K
  refine X_o K M ?_; clear K; intro a K
  refine wpList_nil (then_n (wp_seq (wp_seq (X_reg ?_))))
  refine X_o K M ?_; clear K
  refine Y_r (fun _ K => rd_lenT rfl st9 K rfl) M ?_
  refine Y_o M ?_; intro a K
  refine wpList_nil (then_n (wp_block ?_))
  refine X_lp (id := 0) (Rel := fun (⟨l3, i⟩ : List Int × Int) a w => ∃ (A2 : Option Addr) (c2 : Nat), Kn a 37 [(0, .string (bs b)), (4, .slice A2 l3.length c2), (15, I (b.length : Int)), (16, I i)] ∧ Mem w0.heap.size w0 w [.row 5 1 A2 l3.length c2 ((cI .u8).all l3)]) h (fun _ _ => rfl) ⟨A, c, K.pick [0,4,15,16], M.pick [0] (by decide)⟩ ?_ ?_
  · clear K M h
    rintro ⟨l6, i2⟩ a w ⟨A3, c3, K, M⟩ h
    try dsimp only at h
    refine inb_e ?_
    refine then_n (wp_seq (X_reg ?_))
    refine X_o K M ?_; clear K
    refine Y_r (fun _ K => rd_convBS rfl sl50 ik5 st9 K rfl (inR (C := (cI .u8)) 0 rfl rfl)) M ?_
    iterate 2 (refine Y_o M ?_)
    intro a K
    refine wpList_nil (then_n (wp_ret ?_))
    cases h
    exact ret2 K rfl (res_tmp K rfl) (res_tmp K rfl) ⟨_, rfl, rfl, ((M).pick [] (by decide))⟩
  clear K M h
  rintro kk fuel ⟨l3, i⟩ a w hk1 ⟨A2, c2, K, M⟩ h
  unfold D_bits_Bytes_l1 at h
  refine wp_seq (X_reg ?_)
  refine X_o K M ?_; clear K; intro a K
  refine wpList_nil (then_n (wp_seq ?_))
  refine X_cond K rfl (fun hb => ?_) (fun hb => ?_)
  · have h := ctrue hb h
    refine wp_skip (then_n (wp_seq (wp_block (wp_seq (X_reg ?_)))))
    refine X_o K M ?_; clear K
    refine Y_o M ?_; intro a K
    refine wpList_nil (then_n ?_)
    refine wp_region_tl (fun w => Mem _ _ w _) [0,0,0,0,0,0,0,0,0,0,0,0,0,0,0,2] (by kernel_rfl) (by kernel_rfl) M.drew ?_
    replace M := M.drew
    refine T_o K ?_; clear K
    refine U_o ?_
    obtain ⟨x4, hx, h⟩ := olet h
    refine U_r (fun _ K => rdi hx (rd_quo rfl K rfl rfl (by decide))) ?_
    obtain ⟨e3, h_e3, h⟩ := obind h
    refine U_r (fun _ K => rd_ix rfl sl50 K rfl rfl (inR (C := (cI .u8)) 0 rfl rfl) h_e3) ?_
    refine U_r (fun _ K => rd_elC rfl sc5 K rfl rfl (inR (C := (cI .u8)) 0 rfl rfl) h_e3 rfl) ?_
    iterate 2 (refine U_o ?_)
    obtain ⟨b3, h_b3, h⟩ := obind h
    refine U_r (fun _ K => rd_ixT rfl st9 K rfl rfl h_b3) ?_
    iterate 2 (refine U_o ?_)
    refine U_r (fun _ K => rd_rem rfl K rfl rfl (by decide)) ?_
    refine U_o ?_; intro a K
    obtain ⟨_, h0, h⟩ := obind h
    have h0 := nn_spec h0
    refine T_r K (rd_shl rfl K rfl rfl h0) ?_; clear K
    refine U_r (fun _ K => rd_or rfl K rfl rfl) ?_
    obtain ⟨e4, h_e4, h⟩ := obind h
    refine U_r (fun _ K => rd_ix rfl sl50 K rfl rfl (inR (C := (cI .u8)) 0 rfl rfl) h_e4) ?_; intro a K
    obtain ⟨l5, h_l5, h⟩ := obind h
    refine T_b K (ac_rowset (el := orI .u8 e3 (shlI .u8 (IntKind.u8.wrap ((b3.toNat : Int) - 48)) (IntKind.i64.wrap (7 - (Int.tmod i 8))))) rfl sz5 rfl rfl K rfl rfl rfl 0 M rfl h_l5) ?_
    have M0 := M; clear K M; rintro _ a w M K
    have hl := setL_len h_l5
    try rw [hl] at M
    try rw [hl] at K
    clear hl
    clear M0
    refine T_end ?_
    refine inb_n (then_n (X_reg ?_))
    refine X_o K M ?_; clear K
    refine Y_o M ?_; intro a K
    refine wpList_nil ?_
    exact then_n ⟨(l5, IntKind.i64.wrap (i + 1)), ⟨A2, c2, K.pick [0,4,15,16], M.pick [0] (by decide)⟩, h⟩
  have h := cfalse hb h
  refine wp_exit ?_
  refine then_e ?_
  exact then_e (hk1 (l3, i) _ _ ⟨A2, c2, K.pick [0,4,15,16], M.pick [0] (by decide)⟩ h)
set_option maxRecDepth 100000 in
set_option maxHeartbeats 4000000 in
theorem W_bits_Value (N : Nat) (b : List UInt8) (w0 : World)  (r : Int × Int) (h : D_bits_Value N b = some r) :
    Calls Tryd.prog 11 #[.string (bs b)] w0 fun e w' => ∃ v, e = .returned v ∧ v = .tuple #[I r.1, I r.2] ∧ Mem w0.heap.size w0 w' [] := by
  refine X_enter Tryd.func11 rfl Tryd.ntmps11 rfl ?_
  intro a K
  have M := Mem.start w0
  have K : Kn a 27 [(0, .string (bs b))] := K
  unfold D_bits_Value at h
  refine wp_seq (X_reg ?_)
  refine X_o K M ?_; clear K
  refine Y_o M ?_; intro a K
  refine wpList_nil (then_n (wp_seq (wp_seq (X_reg ?_))))
  refine X_o K M ?_; clear K; intro a K
  obtain ⟨r2, h_r2, h⟩ := obind h
  refine X_a K (ac_call (vs := [.string (bs b)]) (cap := []) rfl fok30 K rfl rfl (W_bits_all N b _  r2 h_r2)) ?_
  have M0 := M; clear K M; rintro _ a w ⟨rfl, M⟩ K
  replace M := M0.call M; clear M0
  refine X_o K M ?_; clear K; intro a K
  refine wpList_nil (then_n ?_)
  refine X_cond K rfl (fun hb => ?_) (fun hb => ?_)
  · have h := ctrue hb h
    refine wp_seq (X_reg ?_)
    refine X_o K M ?_; clear K
    refine Y_o M ?_; intro a K
    refine wpList_nil (then_n (wp_ret (then_r ?_)))
    cases h
    exact ret2 K rfl (res_tmp K rfl) (res_tmp K rfl) ⟨_, rfl, rfl, ((M).pick [] (by decide))⟩
  have h := cfalse hb h
  refine wp_skip (then_n (wp_seq (wp_seq (X_reg ?_))))
  refine X_o K M ?_; clear K
  refine Y_r (fun _ K => rd_lenT rfl st9 K rfl) M ?_
  refine Y_o M ?_; intro a K
  refine wpList_nil (then_n ?_)
  refine X_cond K rfl (fun hb => ?_) (fun hb => ?_)
  · have h := ctrue hb h
    refine wp_seq (X_reg ?_)
    refine X_o K M ?_; clear K
    refine Y_o M ?_; intro a K
    refine wpList_nil (then_n (wp_ret (then_r ?_)))
    cases h
    exact ret2 K rfl (res_tmp K rfl) (res_tmp K rfl) ⟨_, rfl, rfl, ((M).pick [] (by decide))⟩
  have h := cfalse hb h
  refine wp_skip (then_n (wp_seq (X_reg ?_)))
  refine X_o K M ?_; clear K; intro a K
  refine wpList_nil (then_n (wp_seq (wp_seq (X_reg ?_))))
  refine X_o K M ?_; clear K
  refine Y_r (fun _ K => rd_lenT rfl st9 K rfl) M ?_
  refine Y_o M ?_; intro a K
  refine wpList_nil (then_n (wp_block ?_))
  refine X_lp (id := 0) (Rel := fun (⟨n, i⟩ : Int × Int) a w => Kn a 27 [(0, .string (bs b)), (4, I n), (13, I (b.length : Int)), (14, I i)] ∧ Mem w0.heap.size w0 w []) h (fun _ _ => rfl) ⟨K.pick [0,4,13,14], M.pick [] (by decide)⟩ ?_ ?_
  · clear K M h
    rintro ⟨n4, i2⟩ a w ⟨K, M⟩ h
    try dsimp only at h
    refine inb_e ?_
    refine then_n (wp_seq (X_reg ?_))
    refine X_o K M ?_; clear K
    iterate 2 (refine Y_o M ?_)
    intro a K
    refine wpList_nil (then_n (wp_ret ?_))
    cases h
    exact ret2 K rfl (res_tmp K rfl) (res_tmp K rfl) ⟨_, rfl, rfl, ((M).pick [] (by decide))⟩
  clear K M h
  rintro kk fuel ⟨n, i⟩ a w hk1 ⟨K, M⟩ h
  unfold D_bits_Value_l1 at h
  refine wp_seq (X_reg ?_)
  refine X_o K M ?_; clear K; intro a K
  refine wpList_nil (then_n (wp_seq ?_))
  refine X_cond K rfl (fun hb => ?_) (fun hb => ?_)
  · have h := ctrue hb h
    refine wp_skip (then_n (wp_seq (wp_block (wp_seq (X_reg ?_)))))
    refine X_o K M ?_; clear K
    refine Y_o M ?_; intro a K
    refine wpList_nil (then_n (X_reg ?_))
    refine X_o K M ?_; clear K
    refine Y_r (fun _ K => rd_shl rfl K rfl rfl (by decide)) M ?_
    iterate 2 (refine Y_o M ?_)
    obtain ⟨b3, h_b3, h⟩ := obind h
    refine Y_r (fun _ K => rd_ixT rfl st9 K rfl rfl h_b3) M ?_
    refine Y_o M ?_
    refine Y_r (fun _ K => rd_conv rfl rfl ik3 K rfl) M ?_
    refine Y_o M ?_
    obtain ⟨n3, hx, h⟩ := olet h
    refine Y_r (fun _ K => rdi hx (rd_assign rfl K rfl)) M ?_; intro a K
    refine wpList_nil (inb_n (then_n (X_reg ?_)))
    refine X_o K M ?_; clear K
    refine Y_o M ?_; intro a K
    refine wpList_nil ?_
    exact then_n ⟨(n3, IntKind.i64.wrap (i + 1)), ⟨K.pick [0,4,13,14], M.pick [] (by decide)⟩, h⟩
  have h := cfalse hb h
  refine wp_exit ?_
  refine then_e ?_
  exact then_e (hk1 (n, i) _ _ ⟨K.pick [0,4,13,14], M.pick [] (by decide)⟩ h)
set_option maxRecDepth 100000 in
set_option maxHeartbeats 4000000 in
theorem W_bits_digits (N : Nat) (n : Int) (size : Int) (w0 : World)  (r : List UInt8) (h : D_bits_digits N n size = some r) :
    Calls Tryd.prog 31 #[I n, I size] w0 fun e w' => ∃ v, e = .returned v ∧ v = .string (bs r) ∧ Mem w0.heap.size w0 w' [] := by
  refine X_enter Tryd.func31 rfl Tryd.ntmps31 rfl ?_
  intro a K
  have M := Mem.start w0
  have K : Kn a 28 [(0, I n), (1, I size)] := K
  unfold D_bits_digits at h
  refine wp_seq (X_reg ?_)
  refine X_o K M ?_; clear K; intro a K
  refine wpList_nil (then_n (wp_seq (X_reg ?_)))
  refine X_o K M ?_; clear K; intro a K
  obtain ⟨l2, h_l2, h⟩ := obind h
  refine X_a K (ac_make (C := (cI .u8)) (z := 0) rfl sl50 rfl z5 rfl K rfl rfl M h_l2) ?_
  clear K M; rintro _ a w ⟨A, c, rfl, M⟩ K
  refine X_o K M ?_; clear K; intro a K
  refine wpList_nil (then_n (wp_seq (wp_seq (X_reg ?_))))
  refine X_o K M ?_; clear K
  refine Y_r (fun _ K => rd_len rfl un50 K rfl) M ?_
  refine Y_o M ?_; intro a K
  refine wpList_nil (then_n (wp_block ?_))
  refine X_lp (id := 0) (Rel := fun (⟨l3, i, i2⟩ : List Int × Int × Int) a w => ∃ (A2 : Option Addr) (c2 : Nat), Kn a 28 [(0, I n), (1, I size), (5, .slice A2 l3.length c2), (10, I i), (11, I i2)] ∧ Mem w0.heap.size w0 w [.row 5 1 A2 l3.length c2 ((cI .u8).all l3)]) h (fun _ _ => rfl) ⟨A, c, K.pick [0,1,5,10,11], M.pick [0] (by decide)⟩ ?_ ?_
  · clear K M h
    rintro ⟨l6, i3, i4⟩ a w ⟨A3, c3, K, M⟩ h
    try dsimp only at h
    refine inb_e ?_
    refine then_n (wp_seq (X_reg ?_))
    refine X_o K M ?_; clear K
    refine Y_r (fun _ K => rd_convBS rfl sl50 ik5 st9 K rfl (inR (C := (cI .u8)) 0 rfl rfl)) M ?_
    refine Y_o M ?_; intro a K
    refine wpList_nil (then_n (wp_ret ?_))
    cases h
    exact ret1 K rfl (res_tmp K rfl) ⟨_, rfl, rfl, ((M).pick [] (by decide))⟩
  clear K M h
  rintro kk fuel ⟨l3, i, i2⟩ a w hk1 ⟨A2, c2, K, M⟩ h
  unfold D_bits_digits_l1 at h
  refine wp_seq (X_reg ?_)
  refine X_o K M ?_; clear K; intro a K
  refine wpList_nil (then_n (wp_seq ?_))
  refine X_cond K rfl (fun hb => ?_) (fun hb => ?_)
  · have h := ctrue hb h
    refine wp_skip (then_n (wp_seq (wp_block (wp_seq (X_reg ?_)))))
    refine X_o K M ?_; clear K
    refine Y_o M ?_; intro a K
    refine wpList_nil (then_n (X_reg ?_))
    refine X_o K M ?_; clear K
    iterate 6 (refine Y_o M ?_)
    intro a K
    obtain ⟨_, h0, h⟩ := obind h
    have h0 := nn_spec h0
    refine X_r K (rd_shr rfl K rfl rfl h0) M ?_; clear K
    refine Y_o M ?_
    obtain ⟨b2, h_b2, h⟩ := obind h
    refine Y_r (fun _ K => rd_ixT rfl st9 K rfl rfl h_b2) M ?_
    obtain ⟨e2, h_e2, h⟩ := obind h
    refine Y_r (fun _ K => rd_ix rfl sl50 K rfl rfl (inR (C := (cI .u8)) 0 rfl rfl) h_e2) M ?_; intro a K
    obtain ⟨l5, h_l5, h⟩ := obind h
    refine X_b K (ac_rowset (el := (b2.toNat : Int)) rfl sz5 rfl rfl K rfl rfl rfl 0 M rfl h_l5) ?_
    have M0 := M; clear K M; rintro _ a w M K
    have hl := setL_len h_l5
    try rw [hl] at M
    try rw [hl] at K
    clear hl
    clear M0
    refine wpList_nil (inb_n (then_n (X_reg ?_)))
    refine X_o K M ?_; clear K
    refine Y_o M ?_; intro a K
    refine wpList_nil ?_
    exact then_n ⟨(l5, i, IntKind.i64.wrap (i2 + 1)), ⟨A2, c2, K.pick [0,1,5,10,11], M.pick [0] (by decide)⟩, h⟩
  have h := cfalse hb h
  refine wp_exit ?_
  refine then_e ?_
  exact then_e (hk1 (l3, i, i2) _ _ ⟨A2, c2, K.pick [0,1,5,10,11], M.pick [0] (by decide)⟩ h)
set_option maxRecDepth 100000 in
set_option maxHeartbeats 4000000 in
theorem W_bits_Number (N : Nat) (n : Int) (size : Int) (w0 : World)  (r : List UInt8 × Int) (h : D_bits_Number N n size = some r) :
    Calls Tryd.prog 12 #[I n, I size] w0 fun e w' => ∃ v, e = .returned v ∧ v = .tuple #[.string (bs r.1), I r.2] ∧ Mem w0.heap.size w0 w' [] := by
  refine X_enter Tryd.func12 rfl Tryd.ntmps12 rfl ?_
  intro a K
  have M := Mem.start w0
  have K : Kn a 25 [(0, I n), (1, I size)] := K
  unfold D_bits_Number at h
  refine wp_seq (X_reg ?_)
  refine X_o K M ?_; clear K
  refine Y_o M ?_; intro a K
  refine wpList_nil (then_n (wp_seq (wp_seq (X_reg ?_))))
  refine X_o K M ?_; clear K
  iterate 2 (refine Y_o M ?_)
  intro a K
  rcases Bool.eq_false_or_eq_true (decide (size < 0)) with hb | hb
  · have h := ctrue hb h
    have K := K.reb (s := 8) rfl hb
    refine X_o K M ?_; clear K
    iterate 12 (refine Y_o M ?_)
    intro a K
    refine wpList_nil (then_n ?_)
    refine X_condT K rfl ?_
    refine wp_seq (X_reg ?_)
    refine X_o K M ?_; clear K
    refine Y_o M ?_; intro a K
    refine wpList_nil (then_n (wp_ret (then_r ?_)))
    cases h
    exact ret2 K rfl (res_tmp K rfl) (res_tmp K rfl) ⟨_, rfl, rfl, ((M).pick [] (by decide))⟩
  have h := cfalse hb h
  have K := K.reb (s := 8) rfl hb
  refine X_o K M ?_; clear K
  iterate 3 (refine Y_o M ?_)
  intro a K
  rcases Bool.eq_false_or_eq_true (decide (16 < size)) with hb | hb
  · have h := ctrue hb h
    have K := K.reb (s := 12) rfl hb
    refine X_o K M ?_; clear K
    iterate 8 (refine Y_o M ?_)
    intro a K
    refine wpList_nil (then_n ?_)
    refine X_condT K rfl ?_
    refine wp_seq (X_reg ?_)
    refine X_o K M ?_; clear K
    refine Y_o M ?_; intro a K
    refine wpList_nil (then_n (wp_ret (then_r ?_)))
    cases h
    exact ret2 K rfl (res_tmp K rfl) (res_tmp K rfl) ⟨_, rfl, rfl, ((M).pick [] (by decide))⟩
  have h := cfalse hb h
  have K := K.reb (s := 12) rfl hb
  refine X_o K M ?_; clear K
  iterate 3 (refine Y_o M ?_)
  intro a K
  rcases Bool.eq_false_or_eq_true (decide (n < 0)) with hb | hb
  · have h := ctrue hb h
    have K := K.reb (s := 16) rfl hb
    refine X_o K M ?_; clear K
    iterate 4 (refine Y_o M ?_)
    intro a K
    refine wpList_nil (then_n ?_)
    refine X_condT K rfl ?_
    refine wp_seq (X_reg ?_)
    refine X_o K M ?_; clear K
    refine Y_o M ?_; intro a K
    refine wpList_nil (then_n (wp_ret (then_r ?_)))
    cases h
    exact ret2 K rfl (res_tmp K rfl) (res_tmp K rfl) ⟨_, rfl, rfl, ((M).pick [] (by decide))⟩
  have h := cfalse hb h
  have K := K.reb (s := 16) rfl hb
  refine X_o K M ?_; clear K
  refine Y_o M ?_; intro a K
  obtain ⟨_, h0, h⟩ := obind h
  have h0 := nn_spec h0
  refine X_r K (rd_shl rfl K rfl rfl h0) M ?_; clear K
  iterate 2 (refine Y_o M ?_)
  intro a K
  refine wpList_nil (then_n ?_)
  refine X_cond K rfl (fun hb => ?_) (fun hb => ?_)
  · have h := ctrue hb h
    refine wp_seq (X_reg ?_)
    refine X_o K M ?_; clear K
    refine Y_o M ?_; intro a K
    refine wpList_nil (then_n (wp_ret (then_r ?_)))
    cases h
    exact ret2 K rfl (res_tmp K rfl) (res_tmp K rfl) ⟨_, rfl, rfl, ((M).pick [] (by decide))⟩
  have h := cfalse hb h
  refine wp_skip (then_n (wp_seq (X_reg ?_)))
  refine X_o K M ?_; clear K
  refine Y_o M ?_; intro a K
  obtain ⟨r2, h_r2, h⟩ := obind h
  refine X_a K (ac_call (vs := [I n, I size]) (cap := []) rfl fok31 K rfl rfl (W_bits_digits N n size _  r2 h_r2)) ?_
  have M0 := M; clear K M; rintro _ a w ⟨rfl, M⟩ K
  replace M := M0.call M; clear M0
  refine X_o K M ?_; clear K
  refine Y_o M ?_; intro a K
  refine wpList_nil (then_n (wp_ret ?_))
  cases h
  exact ret2 K rfl (res_tmp K rfl) (res_tmp K rfl) ⟨_, rfl, rfl, ((M).pick [] (by decide))⟩
set_option maxRecDepth 100000 in
set_option maxHeartbeats 4000000 in
theorem W_bits_Bits (N : Nat) (s : List UInt8) (w0 : World) (r : List UInt8) (h : D_bits_Bits N s = some r) :
    Calls Tryd.prog 16 #[.string (bs s)] w0 fun e w' => ∃ v, e = .returned v ∧ v = .string (bs r) ∧ Mem w0.heap.size w0 w' [] := by
  refine X_enter Tryd.func16 rfl Tryd.ntmps16 rfl ?_
  intro a K
  have M := Mem.start w0
  have K : Kn a 18 [(0, .string (bs s))] := K
  unfold D_bits_Bits at h
  refine wp_seq (X_reg ?_)
  refine X_o K M ?_; clear K; intro a K
  refine wpList_nil (then_n (wp_seq (X_reg ?_)))
  refine X_a K (ac_alloc rfl (show zeroT Tryd.prog 55 = some [.pointer none, .slice none 0 0] by kernel_rfl) M) ?_
  clear K M; rintro _ a w ⟨g, rfl, M⟩ K
  have hB := bld_new (e := 5) (M.up 0 _ g rfl rfl) (M.has 0 _ rfl)
  replace M := M.pick [] (by decide)
  refine wpList_nil (then_n (wp_seq (wp_seq (X_reg ?_))))
  refine X_o K M ?_; clear K; intro a K
  refine wpList_nil (then_n (wp_block ?_))
  refine X_lp (id := 0) (Rel := fun (⟨b, i⟩ : List UInt8 × Int) a w => (Kn a 18 [(0, .string (bs s)), (3, .pointer (some ⟨g, 0, none⟩)), (4, I i)] ∧ Mem w0.heap.size w0 w []) ∧ Lib.IsBuilder 55 5 w0.heap.size g (Lib.byteCells b) w) h (fun _ _ => rfl) ⟨⟨K.pick [0,3,4], M.pick [] (by decide)⟩, hB⟩ ?_ ?_
  · clear K M h hB
    rintro ⟨b, i⟩ a w ⟨⟨K, M⟩, hB⟩ h
    try dsimp only at h
    refine inb_e ?_
    refine then_n (wp_seq (X_reg ?_))
    refine X_a K (ac_call (vs := [.pointer (some ⟨g, 0, none⟩)]) (cap := []) rfl fok34 K rfl rfl (W_bld_string hB M.sz)) ?_
    have M0 := M; clear K M; rintro _ a w ⟨rfl, hb⟩ K
    have M := fin_trans M0 rfl hb; clear M0
    refine X_o K M ?_; clear K; intro a K
    refine wpList_nil (then_n (wp_ret ?_))
    cases h
    exact ret1 K rfl (res_tmp K rfl) ⟨_, rfl, rfl, ((M).pick [] (by decide))⟩
  clear K M h hB
  rintro kk fuel ⟨b, i⟩ a w hk1 ⟨⟨K, M⟩, hB⟩ h
  unfold D_bits_Bits_l1 at h
  refine wp_seq (wp_seq (X_reg ?_))
  refine X_o K M ?_; clear K
  refine Y_o M ?_
  refine Y_r (fun _ K => rd_lenT rfl st9 K rfl) M ?_
  refine Y_o M ?_; intro a K
  refine wpList_nil (then_n ?_)
  refine X_cond K rfl (fun hb => ?_) (fun hb => ?_)
  · have h := ctrue hb h
    refine wp_skip (then_n (wp_seq (wp_block (X_reg ?_))))
    refine X_o K M ?_; clear K
    refine Y_o M ?_
    obtain ⟨c, h_c, h⟩ := obind h
    refine Y_r (fun _ K => rd_ixT rfl st9 K rfl rfl h_c) M ?_
    refine Y_r (fun _ K => rd_conv rfl rfl ik3 K rfl) M ?_; intro a K
    obtain ⟨d, h_d, h⟩ := obind h
    refine X_a K (ac_call (vs := [I (IntKind.i64.wrap (c.toNat : Int)), I 8]) (cap := []) rfl fok31 K rfl rfl (W_bits_digits N (IntKind.i64.wrap (c.toNat : Int)) 8 _ d h_d)) ?_
    have M0 := M; clear K M; rintro _ a w ⟨rfl, M⟩ K
    replace hB := bld_keep hB M.low
    replace M := M0.call M; clear M0
    obtain ⟨b2, h_b2, h⟩ := obind h
    refine X_a K (ac_call (vs := [.pointer (some ⟨g, 0, none⟩), .string (bs d)]) (cap := []) rfl fok33 K rfl rfl (W_bld_write hB h_b2 M.sz)) ?_
    have M0 := M; clear K M hB; rintro _ a w ⟨hB, hb2⟩ K
    have M := fin_trans M0 rfl hb2; clear M0
    refine wpList_nil (inb_n (then_n (X_reg ?_)))
    refine X_o K M ?_; clear K
    iterate 2 (refine Y_o M ?_)
    intro a K
    refine wpList_nil ?_
    exact then_n ⟨(b2, IntKind.i64.wrap (i + 1)), ⟨⟨K.pick [0,3,4], M.pick [] (by decide)⟩, hB⟩, h⟩
  have h := cfalse hb h
  refine wp_exit ?_
  refine then_e ?_
  exact then_e (hk1 (b, i) _ _ ⟨⟨K.pick [0,3,4], M.pick [] (by decide)⟩, hB⟩ h)
end Go.Proofs.YtpmnfhifmmfglabDoor

namespace Go.Proofs.YtpmnfhifmmfglabDoor
open Go.RowKit
set_option maxRecDepth 100000 in
set_option maxHeartbeats 4000000 in
theorem W_darkslideref_SameInts (N : Nat) (a2 : List Int) (A_a2 : Option Addr) (c_a2 : Nat) (b : List Int) (A_b : Option Addr) (c_b : Nat) (w0 : World) (R_a2 : SL w0 (cI .i64) A_a2 a2) (C_a2 : a2.length ≤ c_a2) (R_b : SL w0 (cI .i64) A_b b) (C_b : b.length ≤ c_b) (r : Bool) (h : D_darkslideref_SameInts N a2 b = some r) :
    Calls Tryd.prog 23 #[.slice A_a2 a2.length c_a2, .slice A_b b.length c_b] w0 fun e w' => ∃ v, e = .returned v ∧ v = .bool r ∧ Mem w0.heap.size w0 w' [] := by
  refine X_enter Tryd.func23 rfl Tryd.ntmps23 rfl ?_
  intro a K
  have M := Mem.start w0
  have K : Kn a 26 [(0, .slice A_a2 a2.length c_a2), (1, .slice A_b b.length c_b)] := K
  unfold D_darkslideref_SameInts at h
  refine wp_seq (X_reg ?_)
  refine X_o K M ?_; clear K; intro a K
  refine wpList_nil (then_n (wp_seq (wp_seq (X_reg ?_))))
  refine X_o K M ?_; clear K
  refine Y_r (fun _ K => rd_len rfl un35 K rfl) M ?_
  refine Y_o M ?_
  refine Y_r (fun _ K => rd_len rfl un35 K rfl) M ?_
  refine Y_o M ?_; intro a K
  refine wpList_nil (then_n ?_)
  refine X_cond K rfl (fun hb => ?_) (fun hb => ?_)
  · have h := ctrue hb h
    refine wp_seq (X_reg ?_)
    refine X_o K M ?_; clear K; intro a K
    refine wpList_nil (then_n (wp_ret (then_r ?_)))
    cases h
    exact ret1 K rfl (res_tmp K rfl) ⟨_, rfl, rfl, ((M).pick [] (by decide))⟩
  have h := cfalse hb h
  refine wp_skip (then_n (wp_seq (wp_seq (X_reg ?_))))
  refine X_o K M ?_; clear K; intro a K
  refine wpList_nil (then_n (wp_block ?_))
  refine X_lp (id := 0) (Rel := fun (i : Int) a w => Kn a 26 [(0, .slice A_a2 a2.length c_a2), (1, .slice A_b b.length c_b), (5, I i)] ∧ Mem w0.heap.size w0 w []) h (fun _ _ => rfl) ⟨K.pick [0,1,5], M.pick [] (by decide)⟩ ?_ ?_
  · clear K M h
    rintro i4 a w ⟨K, M⟩ h
    try dsimp only at h
    refine inb_e ?_
    refine then_n (wp_seq (X_reg ?_))
    refine X_o K M ?_; clear K; intro a K
    refine wpList_nil (then_n (wp_ret ?_))
    cases h
    exact ret1 K rfl (res_tmp K rfl) ⟨_, rfl, rfl, ((M).pick [] (by decide))⟩
  clear K M h
  rintro kk fuel i a w hk1 ⟨K, M⟩ h
  unfold D_darkslideref_SameInts_l1 at h
  refine wp_seq (wp_seq (X_reg ?_))
  refine X_o K M ?_; clear K
  refine Y_o M ?_
  refine Y_r (fun _ K => rd_len rfl un35 K rfl) M ?_
  refine Y_o M ?_; intro a K
  refine wpList_nil (then_n ?_)
  refine X_cond K rfl (fun hb => ?_) (fun hb => ?_)
  · have h := ctrue hb h
    refine wp_skip (then_n (wp_seq (wp_block (wp_seq ?_))))
    refine wp_region_tl (fun w => Mem _ _ w _) [0,0,0,0,0,0,0,0,0] (by kernel_rfl) (by kernel_rfl) M.drew ?_
    replace M := M.drew
    refine T_o K ?_; clear K
    refine U_o ?_
    obtain ⟨e3, h_e3, h⟩ := obind h
    refine U_r (fun _ K => rd_ix rfl sl35 K rfl rfl (inA R_a2) h_e3) ?_
    refine U_r (fun _ K => rd_elC rfl sc3 K rfl rfl (inA R_a2) h_e3 rfl) ?_
    iterate 2 (refine U_o ?_)
    obtain ⟨e4, h_e4, h⟩ := obind h
    refine U_r (fun _ K => rd_ix rfl sl35 K rfl rfl (inA R_b) h_e4) ?_
    refine U_r (fun _ K => rd_elC rfl sc3 K rfl rfl (inA R_b) h_e4 rfl) ?_
    refine U_o ?_; intro a K
    refine T_end ?_
    refine then_n ?_
    refine X_cond K rfl (fun hb => ?_) (fun hb => ?_)
    · have h := ctrue hb h
      refine wp_seq (X_reg ?_)
      refine X_o K M ?_; clear K; intro a K
      refine wpList_nil (then_n (wp_ret (inb_r (then_r (then_r (inb_r (then_r ?_)))))))
      cases h
      exact ret1 K rfl (res_tmp K rfl) ⟨_, rfl, rfl, ((M).pick [] (by decide))⟩
    have h := cfalse hb h
    refine wp_skip (inb_n (then_n (X_reg ?_)))
    refine X_o K M ?_; clear K
    refine Y_o M ?_
    obtain ⟨i3, hx, h⟩ := olet h
    refine Y_r (fun _ K => rdi hx (rd_assign rfl K rfl)) M ?_; intro a K
    refine wpList_nil ?_
    exact then_n ⟨i3, ⟨K.pick [0,1,5], M.pick [] (by decide)⟩, h⟩
  have h := cfalse hb h
  refine wp_exit ?_
  refine then_e ?_
  exact then_e (hk1 i _ _ ⟨K.pick [0,1,5], M.pick [] (by decide)⟩ h)
end Go.Proofs.YtpmnfhifmmfglabDoor

namespace Go.Proofs.YtpmnfhifmmfglabDoor
open Go.RowKit
set_option maxRecDepth 100000 in
set_option maxHeartbeats 4000000 in
theorem W_darkslidelaw_bitsBegun (N : Nat)  (w0 : World)  (r : Bool) (h : D_darkslidelaw_bitsBegun N  = some r) :
    Calls Tryd.prog 15 #[] w0 fun e w' => ∃ v, e = .returned v ∧ v = .bool r ∧ Mem w0.heap.size w0 w' [] := by
  refine X_enter Tryd.func15 rfl Tryd.ntmps15 rfl ?_
  intro a K
  have M := Mem.start w0
  have K : Kn a 76 [] := K
  unfold D_darkslidelaw_bitsBegun at h
  refine wp_seq (X_reg ?_)
  refine X_o K M ?_; clear K; intro a K
  refine wpList_nil (then_n (wp_seq (X_reg ?_)))
  refine X_a K (ac_bslice rfl sl35 z3 K (vs := [(0, I 1), (1, I 2), (2, I 3)]) (cs := [I 1, I 2, I 3]) rfl (by kernel_rfl) rfl rfl M) ?_
  have M0 := M; clear K M; rintro _ a w ⟨gs, rfl, M⟩ K
  replace M := M.asRow 0 rfl (cI .i64) ([1, 2, 3] : List Int) (n := 3) rfl rfl rfl
  clear M0
  obtain ⟨r2, h_r2, h⟩ := obind h
  refine X_a K (ac_call (vs := [.slice (some ⟨gs, 0, none⟩) ([1, 2, 3] : List Int).length 3, I 3]) (cap := []) rfl fok18 K rfl rfl (W_bits_Pack N ([1, 2, 3] : List Int) (some ⟨gs, 0, none⟩) 3 3 _ ((inR (C := (cI .i64)) 0 rfl rfl) _ M) (M.cap 0 rfl) r2 h_r2)) ?_
  have M0 := M; clear K M; rintro _ a w ⟨rfl, M⟩ K
  replace M := M0.call M; clear M0
  refine X_o K M ?_; clear K
  iterate 4 (refine Y_o M ?_)
  intro a K
  refine wpList_nil (then_n (wp_seq (X_reg ?_)))
  refine X_o K M ?_; clear K; intro a K
  obtain ⟨r3, h_r3, h⟩ := obind h
  refine X_a K (ac_call (vs := [.string (bs r2.1), I 3, I 3]) (cap := []) rfl fok21 K rfl rfl (W_bits_Unpack N r2.1 3 3 _  r3 h_r3)) ?_
  have M0 := M; clear K M; rintro _ a w ⟨A, c, rfl, M⟩ K
  replace M := M0.call M; clear M0
  refine X_o K M ?_; clear K
  iterate 4 (refine Y_o M ?_)
  intro a K
  refine wpList_nil (then_n (wp_seq (X_reg ?_)))
  obtain ⟨r4, h_r4, h⟩ := obind h
  refine X_a K (ac_call (vs := [.string (bs ([48, 49, 49, 48, 48, 48, 48, 49, 48, 49] : List UInt8))]) (cap := []) rfl fok7 K rfl rfl (W_bits_Bytes N ([48, 49, 49, 48, 48, 48, 48, 49, 48, 49] : List UInt8) _  r4 h_r4)) ?_
  have M0 := M; clear K M; rintro _ a w ⟨rfl, M⟩ K
  replace M := M0.call M; clear M0
  refine X_o K M ?_; clear K
  iterate 4 (refine Y_o M ?_)
  intro a K
  refine wpList_nil (then_n (wp_seq (X_reg ?_)))
  obtain ⟨r5, h_r5, h⟩ := obind h
  refine X_a K (ac_call (vs := [.string (bs ([49, 48, 49] : List UInt8))]) (cap := []) rfl fok11 K rfl rfl (W_bits_Value N ([49, 48, 49] : List UInt8) _  r5 h_r5)) ?_
  have M0 := M; clear K M; rintro _ a w ⟨rfl, M⟩ K
  replace M := M0.call M; clear M0
  refine X_o K M ?_; clear K
  iterate 4 (refine Y_o M ?_)
  intro a K
  refine wpList_nil (then_n (wp_seq (X_reg ?_)))
  obtain ⟨r6, h_r6, h⟩ := obind h
  refine X_a K (ac_call (vs := [I 5, I 4]) (cap := []) rfl fok12 K rfl rfl (W_bits_Number N 5 4 _  r6 h_r6)) ?_
  have M0 := M; clear K M; rintro _ a w ⟨rfl, M⟩ K
  replace M := M0.call M; clear M0
  refine X_o K M ?_; clear K
  iterate 4 (refine Y_o M ?_)
  intro a K
  refine wpList_nil (then_n (wp_seq (X_reg ?_)))
  refine X_o K M ?_; clear K
  iterate 2 (refine Y_o M ?_)
  intro a K
  rcases Bool.eq_false_or_eq_true (decide (r2.2 = 0)) with hb | hb
  · have h := ctrue hb h
    have K := K.reb (s := 35) rfl hb
    refine X_o K M ?_; clear K
    iterate 3 (refine Y_o M ?_)
    intro a K
    rcases Bool.eq_false_or_eq_true (decide (r3.2 = 0)) with hb | hb
    · have h := ctrue hb h
      have K := K.reb (s := 39) rfl hb
      refine X_o K M ?_; clear K
      iterate 3 (refine Y_o M ?_)
      intro a K
      rcases Bool.eq_false_or_eq_true (decide (r4.2 = 0)) with hb | hb
      · have h := ctrue hb h
        have K := K.reb (s := 43) rfl hb
        refine X_o K M ?_; clear K
        iterate 3 (refine Y_o M ?_)
        intro a K
        rcases Bool.eq_false_or_eq_true (decide (r5.2 = 0)) with hb | hb
        · have h := ctrue hb h
          have K := K.reb (s := 47) rfl hb
          refine X_o K M ?_; clear K
          iterate 3 (refine Y_o M ?_)
          intro a K
          rcases Bool.eq_false_or_eq_true (decide (r6.2 = 0)) with hb | hb
          · have h := ctrue hb h
            have K := K.reb (s := 51) rfl hb
            refine X_o K M ?_; clear K
            refine Y_r (fun _ K => rd_eqlS rfl K rfl rfl) M ?_
            iterate 2 (refine Y_o M ?_)
            intro a K
            rcases Bool.eq_false_or_eq_true (decide (r2.1 = ([41, 128] : List UInt8))) with hb | hb
            · have h := ctrue hb h
              have K := K.reb (s := 55) rfl hb
              refine X_o K M ?_; clear K; intro a K
              refine X_a K (ac_bslice rfl sl35 z3 K (vs := [(0, I 1), (1, I 2), (2, I 3)]) (cs := [I 1, I 2, I 3]) rfl (by kernel_rfl) rfl rfl M) ?_
              have M0 := M; clear K M; rintro _ a w ⟨gs2, rfl, M⟩ K
              replace M := M.asRow 0 rfl (cI .i64) ([1, 2, 3] : List Int) (n := 3) rfl rfl rfl
              clear M0
              obtain ⟨r7, h_r7, h⟩ := obind h
              refine X_a K (ac_call (vs := [.slice A r3.1.length c, .slice (some ⟨gs2, 0, none⟩) ([1, 2, 3] : List Int).length 3]) (cap := []) rfl fok23 K rfl rfl (W_darkslideref_SameInts N r3.1 A c ([1, 2, 3] : List Int) (some ⟨gs2, 0, none⟩) 3 _ ((inR (C := (cI .i64)) 1 rfl rfl) _ M) (M.cap 1 rfl) ((inR (C := (cI .i64)) 0 rfl rfl) _ M) (M.cap 0 rfl) r7 h_r7)) ?_
              have M0 := M; clear K M; rintro _ a w ⟨rfl, M⟩ K
              replace M := M0.call M; clear M0
              refine X_o K M ?_; clear K
              refine Y_o M ?_; intro a K
              rcases Bool.eq_false_or_eq_true (r7) with hb | hb
              · have h := ctrue hb h
                have K := K.reb (s := 60) rfl hb
                refine X_o K M ?_; clear K
                refine Y_r (fun _ K => rd_eqlS rfl K rfl rfl) M ?_
                iterate 2 (refine Y_o M ?_)
                intro a K
                rcases Bool.eq_false_or_eq_true (decide (r4.1 = ([97, 64] : List UInt8))) with hb | hb
                · have h := ctrue hb h
                  have K := K.reb (s := 64) rfl hb
                  refine X_o K M ?_; clear K
                  iterate 3 (refine Y_o M ?_)
                  intro a K
                  rcases Bool.eq_false_or_eq_true (decide (r5.1 = 5)) with hb | hb
                  · have h := ctrue hb h
                    have K := K.reb (s := 68) rfl hb
                    refine X_o K M ?_; clear K
                    refine Y_r (fun _ K => rd_eqlS rfl K rfl rfl) M ?_
                    iterate 2 (refine Y_o M ?_)
                    intro a K
                    rcases Bool.eq_false_or_eq_true (decide (r6.1 = ([48, 49, 48, 49] : List UInt8))) with hb | hb
                    · have h := ctrue hb h
                      have K := K.reb (s := 72) rfl hb
                      obtain ⟨r8, h_r8, h⟩ := obind h
                      refine X_a K (ac_call (vs := [.string (bs ([97] : List UInt8))]) (cap := []) rfl fok16 K rfl rfl (W_bits_Bits N ([97] : List UInt8) _  r8 h_r8)) ?_
                      have M0 := M; clear K M; rintro _ a w ⟨rfl, M⟩ K
                      replace M := M0.call M; clear M0
                      refine X_r K (rd_eqlS rfl K rfl rfl) M ?_; clear K
                      iterate 2 (refine Y_o M ?_)
                      intro a K
                      refine wpList_nil (then_n (wp_ret ?_))
                      cases h
                      exact ret1 K rfl (res_tmp K rfl) ⟨_, rfl, rfl, ((M).pick [] (by decide))⟩
                    have h := cfalse hb h
                    have K := K.reb (s := 72) rfl hb
                    refine X_o K M ?_; clear K
                    iterate 3 (refine Y_o M ?_)
                    intro a K
                    refine wpList_nil (then_n (wp_ret ?_))
                    cases h
                    exact ret1 K rfl (res_tmp K rfl) ⟨_, rfl, rfl, ((M).pick [] (by decide))⟩
                  have h := cfalse hb h
                  have K := K.reb (s := 68) rfl hb
                  refine X_o K M ?_; clear K
                  iterate 7 (refine Y_o M ?_)
                  intro a K
                  refine wpList_nil (then_n (wp_ret ?_))
                  cases h
                  exact ret1 K rfl (res_tmp K rfl) ⟨_, rfl, rfl, ((M).pick [] (by decide))⟩
                have h := cfalse hb h
                have K := K.reb (s := 64) rfl hb
                refine X_o K M ?_; clear K
                iterate 11 (refine Y_o M ?_)
                intro a K
                refine wpList_nil (then_n (wp_ret ?_))
                cases h
                exact ret1 K rfl (res_tmp K rfl) ⟨_, rfl, rfl, ((M).pick [] (by decide))⟩
              have h := cfalse hb h
              have K := K.reb (s := 60) rfl hb
              refine X_o K M ?_; clear K
              iterate 15 (refine Y_o M ?_)
              intro a K
              refine wpList_nil (then_n (wp_ret ?_))
              cases h
              exact ret1 K rfl (res_tmp K rfl) ⟨_, rfl, rfl, ((M).pick [] (by decide))⟩
            have h := cfalse hb h
            have K := K.reb (s := 55) rfl hb
            refine X_o K M ?_; clear K
            iterate 20 (refine Y_o M ?_)
            intro a K
            refine wpList_nil (then_n (wp_ret ?_))
            cases h
            exact ret1 K rfl (res_tmp K rfl) ⟨_, rfl, rfl, ((M).pick [] (by decide))⟩
          have h := cfalse hb h
          have K := K.reb (s := 51) rfl hb
          refine X_o K M ?_; clear K
          iterate 24 (refine Y_o M ?_)
          intro a K
          refine wpList_nil (then_n (wp_ret ?_))
          cases h
          exact ret1 K rfl (res_tmp K rfl) ⟨_, rfl, rfl, ((M).pick [] (by decide))⟩
        have h := cfalse hb h
        have K := K.reb (s := 47) rfl hb
        refine X_o K M ?_; clear K
        iterate 28 (refine Y_o M ?_)
        intro a K
        refine wpList_nil (then_n (wp_ret ?_))
        cases h
        exact ret1 K rfl (res_tmp K rfl) ⟨_, rfl, rfl, ((M).pick [] (by decide))⟩
      have h := cfalse hb h
      have K := K.reb (s := 43) rfl hb
      refine X_o K M ?_; clear K
      iterate 32 (refine Y_o M ?_)
      intro a K
      refine wpList_nil (then_n (wp_ret ?_))
      cases h
      exact ret1 K rfl (res_tmp K rfl) ⟨_, rfl, rfl, ((M).pick [] (by decide))⟩
    have h := cfalse hb h
    have K := K.reb (s := 39) rfl hb
    refine X_o K M ?_; clear K
    iterate 36 (refine Y_o M ?_)
    intro a K
    refine wpList_nil (then_n (wp_ret ?_))
    cases h
    exact ret1 K rfl (res_tmp K rfl) ⟨_, rfl, rfl, ((M).pick [] (by decide))⟩
  have h := cfalse hb h
  have K := K.reb (s := 35) rfl hb
  refine X_o K M ?_; clear K
  iterate 40 (refine Y_o M ?_)
  intro a K
  refine wpList_nil (then_n (wp_ret ?_))
  cases h
  exact ret1 K rfl (res_tmp K rfl) ⟨_, rfl, rfl, ((M).pick [] (by decide))⟩
end Go.Proofs.YtpmnfhifmmfglabDoor

namespace Go.Proofs.YtpmnfhifmmfglabDoor
open Go.RowKit
set_option maxRecDepth 100000 in
set_option maxHeartbeats 4000000 in
theorem W_darkslideref_Bytes (N : Nat) (b : List UInt8) (w0 : World)  (r : List UInt8) (h : D_darkslideref_Bytes N b = some r) :
    Calls Tryd.prog 9 #[.string (bs b)] w0 fun e w' => ∃ v, e = .returned v ∧ v = .string (bs r) ∧ Mem w0.heap.size w0 w' [] := by
  refine X_enter Tryd.func9 rfl Tryd.ntmps9 rfl ?_
  intro a K
  have M := Mem.start w0
  have K : Kn a 46 [(0, .string (bs b))] := K
  unfold D_darkslideref_Bytes at h
  refine wp_seq (X_reg ?_)
  refine X_o K M ?_; clear K; intro a K
  refine wpList_nil (then_n (wp_seq (X_reg ?_)))
  refine X_o K M ?_; clear K
  refine Y_r (fun _ K => rd_lenT rfl st9 K rfl) M ?_
  refine Y_r (fun _ K => rd_quo rfl K rfl rfl (by decide)) M ?_
  refine Y_o M ?_; intro a K
  obtain ⟨_, h0, h⟩ := obind h
  have h0 := mok_spec h0
  refine X_a K (ac_make0 (C := (cI .u8)) rfl sl50 rfl (by rw [z5]; rfl) rfl K rfl rfl M h0) ?_
  clear K M; rintro _ a w ⟨A, c, rfl, M⟩ K
  refine X_o K M ?_; clear K; intro a K
  refine wpList_nil (then_n (wp_seq (wp_seq (X_reg ?_))))
  refine X_o K M ?_; clear K; intro a K
  refine wpList_nil (then_n (wp_block ?_))
  refine X_lp (id := 0) (Rel := fun (⟨l2, i⟩ : List Int × Int) a w => ∃ (A2 : Option Addr) (c2 : Nat), Kn a 46 [(0, .string (bs b)), (3, .slice A2 l2.length c2), (4, I i)] ∧ Mem w0.heap.size w0 w [.row 5 1 A2 l2.length c2 ((cI .u8).all l2)]) h (fun _ _ => rfl) ⟨A, c, K.pick [0,3,4], M.pick [0] (by decide)⟩ ?_ ?_
  · clear K M h
    rintro ⟨l5, i4⟩ a w ⟨A5, c5, K, M⟩ h
    try dsimp only at h
    refine inb_e ?_
    refine then_n (wp_seq (X_reg ?_))
    refine X_o K M ?_; clear K
    refine Y_r (fun _ K => rd_convBS rfl sl50 ik5 st9 K rfl (inR (C := (cI .u8)) 0 rfl rfl)) M ?_
    refine Y_o M ?_; intro a K
    refine wpList_nil (then_n (wp_ret ?_))
    cases h
    exact ret1 K rfl (res_tmp K rfl) ⟨_, rfl, rfl, ((M).pick [] (by decide))⟩
  clear K M h
  rintro kk fuel ⟨l2, i⟩ a w hk1 ⟨A2, c2, K, M⟩ h
  unfold D_darkslideref_Bytes_l1 at h
  refine wp_seq (wp_seq (X_reg ?_))
  refine X_o K M ?_; clear K
  refine Y_o M ?_
  refine Y_r (fun _ K => rd_lenT rfl st9 K rfl) M ?_
  refine Y_o M ?_; intro a K
  refine wpList_nil (then_n ?_)
  refine X_cond K rfl (fun hb => ?_) (fun hb => ?_)
  · have h := ctrue hb h
    refine wp_skip (then_n (wp_seq (wp_block (wp_seq (X_reg ?_)))))
    refine X_o K M ?_; clear K; intro a K
    refine wpList_nil (then_n (wp_seq (wp_seq (X_reg ?_))))
    refine X_o K M ?_; clear K
    refine Y_o M ?_; intro a K
    refine wpList_nil (then_n (wp_block ?_))
    refine X_lp (id := 2) (Rel := fun (⟨n4, k5⟩ : Int × Int) a w => Kn a 46 [(0, .string (bs b)), (3, .slice A2 l2.length c2), (4, I i), (5, I n4), (6, I k5)] ∧ Mem w0.heap.size w0 w [.row 5 1 A2 l2.length c2 ((cI .u8).all l2)]) h (fun _ _ => rfl) ⟨K.pick [0,3,4,5,6], M.pick [0] (by decide)⟩ ?_ ?_
    · clear K M h
      rintro ⟨n9, k12⟩ a w ⟨K, M⟩ h
      try dsimp only at h
      refine inb_e ?_
      refine then_n (X_reg ?_)
      refine X_o K M ?_; clear K
      refine Y_o M ?_
      refine Y_r (fun _ K => rd_conv rfl rfl ik5 K rfl) M ?_; intro a K
      refine X_a K (ac_bslice rfl sl50 z5 K (vs := [(0, .int .u8 (IntKind.u8.wrap n9))]) (cs := [.int .u8 (IntKind.u8.wrap n9)]) rfl (by kernel_rfl) rfl rfl M) ?_
      have M0 := M; clear K M; rintro _ a w ⟨gs2, rfl, M⟩ K
      replace M := M.asRow 0 rfl (cI .u8) ([IntKind.u8.wrap n9] : List Int) (n := 1) rfl rfl rfl
      clear M0
      obtain ⟨l4, h_l4, h⟩ := obind h
      refine X_a K (ac_app (C := (cI .u8)) (xs := l2) (ys := ([IntKind.u8.wrap n9] : List Int)) rfl sl50 rfl z5 rfl rfl K rfl rfl 1 M rfl ((inR (C := (cI .u8)) 0 rfl rfl) _ M) h_l4) ?_
      clear K M; rintro _ a w ⟨A4, c4, rfl, M⟩ K
      refine X_o K M ?_; clear K; intro a K
      refine wpList_nil (inb_n (then_n (X_reg ?_)))
      refine X_o K M ?_; clear K
      refine Y_o M ?_
      obtain ⟨i3, hx, h⟩ := olet h
      refine Y_r (fun _ K => rdi hx (rd_assign rfl K rfl)) M ?_; intro a K
      refine wpList_nil ?_
      exact then_n ⟨(l4, i3), ⟨A4, c4, K.pick [0,3,4], M.pick [1] (by decide)⟩, h⟩
    clear K M h
    rintro kk fuel ⟨n4, k5⟩ a w hk2 ⟨K, M⟩ h
    unfold D_darkslideref_Bytes_l2 at h
    refine wp_seq (wp_seq (X_reg ?_))
    refine X_o K M ?_; clear K
    iterate 3 (refine Y_o M ?_)
    intro a K
    refine wpList_nil (then_n ?_)
    refine X_cond K rfl (fun hb => ?_) (fun hb => ?_)
    · have h := ctrue hb h
      refine wp_skip (then_n (wp_seq (wp_block (wp_seq (X_reg ?_)))))
      refine X_o K M ?_; clear K
      refine Y_o M ?_
      obtain ⟨n7, hx, h⟩ := olet h
      refine Y_r (fun _ K => rdi hx (rd_assign rfl K rfl)) M ?_; intro a K
      refine wpList_nil (then_n (wp_seq (X_reg ?_)))
      refine X_o K M ?_; clear K
      refine Y_o M ?_
      refine Y_r (fun _ K => rd_lenT rfl st9 K rfl) M ?_
      iterate 2 (refine Y_o M ?_)
      intro a K
      rcases Bool.eq_false_or_eq_true (decide (k5 < (b.length : Int))) with hb | hb
      · have h := ctrue hb h
        have K := K.reb (s := 31) rfl hb
        refine X_o K M ?_; clear K
        refine Y_o M ?_
        obtain ⟨b4, h_b4, h⟩ := obind h
        refine Y_r (fun _ K => rd_ixT rfl st9 K rfl rfl h_b4) M ?_
        iterate 2 (refine Y_o M ?_)
        intro a K
        refine wpList_nil (then_n ?_)
        refine X_cond K rfl (fun hb => ?_) (fun hb => ?_)
        · have h := ctrue hb h
          refine X_reg ?_
          refine X_o K M ?_; clear K
          refine Y_o M ?_
          obtain ⟨n8, hx, h⟩ := olet h
          refine Y_r (fun _ K => rdi hx (rd_assign rfl K rfl)) M ?_; intro a K
          refine wpList_nil (inb_n (then_n (X_reg ?_)))
          refine X_o K M ?_; clear K
          refine Y_o M ?_
          obtain ⟨k9, hx, h⟩ := olet h
          refine Y_r (fun _ K => rdi hx (rd_assign rfl K rfl)) M ?_; intro a K
          refine wpList_nil ?_
          exact then_n ⟨(n8, k9), ⟨K.pick [0,3,4,5,6], M.pick [0] (by decide)⟩, h⟩
        have h := cfalse hb h
        refine wp_skip (inb_n (then_n (X_reg ?_)))
        refine X_o K M ?_; clear K
        refine Y_o M ?_
        obtain ⟨k10, hx, h⟩ := olet h
        refine Y_r (fun _ K => rdi hx (rd_assign rfl K rfl)) M ?_; intro a K
        refine wpList_nil ?_
        exact then_n ⟨(n7, k10), ⟨K.pick [0,3,4,5,6], M.pick [0] (by decide)⟩, h⟩
      have h := cfalse hb h
      have K := K.reb (s := 31) rfl hb
      refine X_o K M ?_; clear K
      iterate 4 (refine Y_o M ?_)
      intro a K
      refine wpList_nil (then_n ?_)
      refine X_condF K rfl ?_
      refine wp_skip (inb_n (then_n (X_reg ?_)))
      refine X_o K M ?_; clear K
      refine Y_o M ?_
      obtain ⟨k11, hx, h⟩ := olet h
      refine Y_r (fun _ K => rdi hx (rd_assign rfl K rfl)) M ?_; intro a K
      refine wpList_nil ?_
      exact then_n ⟨(n7, k11), ⟨K.pick [0,3,4,5,6], M.pick [0] (by decide)⟩, h⟩
    have h := cfalse hb h
    refine wp_exit ?_
    refine then_e ?_
    exact then_e (hk2 (n4, k5) _ _ ⟨K.pick [0,3,4,5,6], M.pick [0] (by decide)⟩ h)
  have h := cfalse hb h
  refine wp_exit ?_
  refine then_e ?_
  exact then_e (hk1 (l2, i) _ _ ⟨A2, c2, K.pick [0,3,4], M.pick [0] (by decide)⟩ h)
end Go.Proofs.YtpmnfhifmmfglabDoor

namespace Go.Proofs.YtpmnfhifmmfglabDoor
open Go.RowKit
set_option maxRecDepth 100000 in
set_option maxHeartbeats 4000000 in
theorem W_darkslideref_Number_r (N : Nat) : ∀ (fu : Nat) (n : Int) (size : Int) (w0 : World)  (r : List UInt8) (h : D_darkslideref_Number_r N fu n size = some r),
    Calls Tryd.prog 14 #[I n, I size] w0 fun e w' => ∃ v, e = .returned v ∧ v = .string (bs r) ∧ Mem w0.heap.size w0 w' [] := by
  intro fu
  induction fu with
  | zero => intros; rename_i h; unfold D_darkslideref_Number_r at h; cases h
  | succ fu ih =>
    intro n size w0 r h
    refine X_enter Tryd.func14 rfl Tryd.ntmps14 rfl ?_
    intro a K
    have M := Mem.start w0
    have K : Kn a 19 [(0, I n), (1, I size)] := K
    unfold D_darkslideref_Number_r at h
    refine wp_seq (X_reg ?_)
    refine X_o K M ?_; clear K; intro a K
    refine wpList_nil (then_n (wp_seq (wp_seq (X_reg ?_))))
    refine X_o K M ?_; clear K
    refine Y_o M ?_; intro a K
    refine wpList_nil (then_n ?_)
    refine X_cond K rfl (fun hb => ?_) (fun hb => ?_)
    · have h := ctrue hb h
      refine wp_seq (X_reg ?_)
      refine X_o K M ?_; clear K; intro a K
      refine wpList_nil (then_n (wp_ret (then_r ?_)))
      cases h
      exact ret1 K rfl (res_tmp K rfl) ⟨_, rfl, rfl, ((M).pick [] (by decide))⟩
    have h := cfalse hb h
    refine wp_skip (then_n (wp_seq ?_))
    refine wp_region_tr (fun w => Mem _ _ w _) [0,0,0,0,1,0,0,0,0,1,1,0,0] 13 [0,1,2,3,4,5,6,7,8,9,10,11,12] (by kernel_rfl) (by kernel_rfl) (by kernel_rfl) rfl M.drew ?_
    replace M := M.drew
    refine R_rd 0 [1,2,3,4,5,6,7,8,9,10,11,12] (by kernel_rfl) rfl K (want_no rfl) rfl rfl (rd_move rfl K rfl) ?_; clear K; intro a K
    refine R_rd 1 [2,3,4,5,6,7,8,9,10,11,12] (by kernel_rfl) rfl K (want_no rfl) rfl rfl (rd_quo rfl K rfl rfl (by decide)) ?_; clear K; intro a K
    refine R_rd 2 [3,4,5,6,7,8,9,10,11,12] (by kernel_rfl) rfl K (want_no rfl) rfl rfl (rd_move rfl K rfl) ?_; clear K; intro a K
    refine R_rd 3 [4,5,6,7,8,9,10,11,12] (by kernel_rfl) rfl K (want_no rfl) rfl rfl (rd_sub rfl K rfl rfl) ?_; clear K; intro a K
    refine R_rd 5 [4,6,7,8,9,10,11,12] (by kernel_rfl) rfl K (want_no rfl) rfl rfl (rd_move rfl K rfl) ?_; clear K; intro a K
    refine R_rd 6 [4,7,8,9,10,11,12] (by kernel_rfl) rfl K (want_no rfl) rfl rfl (rd_rem rfl K rfl rfl (by decide)) ?_; clear K; intro a K
    refine R_rd 7 [4,8,9,10,11,12] (by kernel_rfl) rfl K (want_no rfl) rfl rfl (rd_conv rfl rfl ik5 K rfl) ?_; clear K; intro a K
    refine R_rd 8 [4,9,10,11,12] (by kernel_rfl) rfl K (want_no rfl) rfl rfl (rd_add rfl K rfl rfl) ?_; clear K; intro a K
    refine R_br [4,9] (by kernel_rfl) ⟨?_, ?_, trivial⟩
    ·
      obtain ⟨r2, h_r2, h⟩ := obind h
      refine R_ac [9,10,11,12] (by kernel_rfl) rfl K (want_no rfl) rfl rfl (ac_call (vs := [I (IntKind.i64.wrap (Int.tdiv n 2)), I (IntKind.i64.wrap (size - 1))]) (cap := []) rfl fok14 K rfl rfl (ih (IntKind.i64.wrap (Int.tdiv n 2)) (IntKind.i64.wrap (size - 1)) _  r2 h_r2)) ?_
      have M0 := M; clear K M; rintro _ a w ⟨rfl, M⟩ K
      replace M := M0.call M; clear M0
      refine ⟨fun _ => M.pick [] (by decide), ?_⟩
      refine R_br [9] (by kernel_rfl) ⟨?_, trivial⟩
      refine R_ac [10,11,12] (by kernel_rfl) rfl K (want_no rfl) rfl rfl (ac_bslice rfl sl50 z5 K (vs := [(0, .int .u8 (IntKind.u8.wrap (48 + (IntKind.u8.wrap (Int.tmod n 2)))))]) (cs := [.int .u8 (IntKind.u8.wrap (48 + (IntKind.u8.wrap (Int.tmod n 2))))]) rfl (by kernel_rfl) rfl rfl M) ?_
      have M0 := M; clear K M; rintro _ a w ⟨gs, rfl, M⟩ K
      replace M := M.asRow 0 rfl (cI .u8) ([IntKind.u8.wrap (48 + (IntKind.u8.wrap (Int.tmod n 2)))] : List Int) (n := 1) rfl rfl rfl
      clear M0
      refine ⟨fun _ => M.pick [] (by decide), ?_⟩
      refine R_br [10] (by kernel_rfl) ⟨?_, trivial⟩
      refine R_ac [11,12] (by kernel_rfl) rfl K (want_no rfl) rfl rfl (ac_convBS rfl sl50 ik5 st9 K rfl M ((inR (C := (cI .u8)) 0 rfl rfl) _ M)) ?_
      clear K M; rintro _ a w ⟨rfl, M⟩ K
      refine ⟨fun _ => M.pick [] (by decide), ?_⟩
      obtain ⟨s, h_s, h⟩ := obind h
      refine R_rd 11 [12] (by kernel_rfl) rfl K (want_no rfl) rfl rfl (rd_addS rfl K rfl rfl h_s) ?_; clear K; intro a K
      refine R_rd 12 [] (by kernel_rfl) rfl K (want_no rfl) rfl rfl (rd_assign rfl K rfl) ?_; clear K; intro a K
      refine R_end ?_
      refine then_n (wp_ret ?_)
      cases h
      exact ret1 K rfl (res_tmp K rfl) ⟨_, rfl, rfl, ((M).pick [] (by decide))⟩
    ·
      refine R_ac [4,10,11,12] (by kernel_rfl) rfl K (want_no rfl) rfl rfl (ac_bslice rfl sl50 z5 K (vs := [(0, .int .u8 (IntKind.u8.wrap (48 + (IntKind.u8.wrap (Int.tmod n 2)))))]) (cs := [.int .u8 (IntKind.u8.wrap (48 + (IntKind.u8.wrap (Int.tmod n 2))))]) rfl (by kernel_rfl) rfl rfl M) ?_
      have M0 := M; clear K M; rintro _ a w ⟨gs2, rfl, M⟩ K
      replace M := M.asRow 0 rfl (cI .u8) ([IntKind.u8.wrap (48 + (IntKind.u8.wrap (Int.tmod n 2)))] : List Int) (n := 1) rfl rfl rfl
      clear M0
      refine ⟨fun _ => M.pick [] (by decide), ?_⟩
      refine R_br [4,10] (by kernel_rfl) ⟨?_, ?_, trivial⟩
      ·
        obtain ⟨r3, h_r3, h⟩ := obind h
        refine R_ac [10,11,12] (by kernel_rfl) rfl K (want_no rfl) rfl rfl (ac_call (vs := [I (IntKind.i64.wrap (Int.tdiv n 2)), I (IntKind.i64.wrap (size - 1))]) (cap := []) rfl fok14 K rfl rfl (ih (IntKind.i64.wrap (Int.tdiv n 2)) (IntKind.i64.wrap (size - 1)) _  r3 h_r3)) ?_
        have M0 := M; clear K M; rintro _ a w ⟨rfl, M⟩ K
        replace M := M0.call M; clear M0
        refine ⟨fun _ => M.pick [] (by decide), ?_⟩
        refine R_br [10] (by kernel_rfl) ⟨?_, trivial⟩
        refine R_ac [11,12] (by kernel_rfl) rfl K (want_no rfl) rfl rfl (ac_convBS rfl sl50 ik5 st9 K rfl M ((inR (C := (cI .u8)) 0 rfl rfl) _ M)) ?_
        clear K M; rintro _ a w ⟨rfl, M⟩ K
        refine ⟨fun _ => M.pick [] (by decide), ?_⟩
        obtain ⟨s2, h_s2, h⟩ := obind h
        refine R_rd 11 [12] (by kernel_rfl) rfl K (want_no rfl) rfl rfl (rd_addS rfl K rfl rfl h_s2) ?_; clear K; intro a K
        refine R_rd 12 [] (by kernel_rfl) rfl K (want_no rfl) rfl rfl (rd_assign rfl K rfl) ?_; clear K; intro a K
        refine R_end ?_
        refine then_n (wp_ret ?_)
        cases h
        exact ret1 K rfl (res_tmp K rfl) ⟨_, rfl, rfl, ((M).pick [] (by decide))⟩
      ·
        refine R_ac [4,11,12] (by kernel_rfl) rfl K (want_no rfl) rfl rfl (ac_convBS rfl sl50 ik5 st9 K rfl M ((inR (C := (cI .u8)) 0 rfl rfl) _ M)) ?_
        clear K M; rintro _ a w ⟨rfl, M⟩ K
        refine ⟨fun _ => M.pick [] (by decide), ?_⟩
        refine R_br [4] (by kernel_rfl) ⟨?_, trivial⟩
        obtain ⟨r4, h_r4, h⟩ := obind h
        refine R_ac [11,12] (by kernel_rfl) rfl K (want_no rfl) rfl rfl (ac_call (vs := [I (IntKind.i64.wrap (Int.tdiv n 2)), I (IntKind.i64.wrap (size - 1))]) (cap := []) rfl fok14 K rfl rfl (ih (IntKind.i64.wrap (Int.tdiv n 2)) (IntKind.i64.wrap (size - 1)) _  r4 h_r4)) ?_
        have M0 := M; clear K M; rintro _ a w ⟨rfl, M⟩ K
        replace M := M0.call M; clear M0
        refine ⟨fun _ => M.pick [] (by decide), ?_⟩
        obtain ⟨s3, h_s3, h⟩ := obind h
        refine R_rd 11 [12] (by kernel_rfl) rfl K (want_no rfl) rfl rfl (rd_addS rfl K rfl rfl h_s3) ?_; clear K; intro a K
        refine R_rd 12 [] (by kernel_rfl) rfl K (want_no rfl) rfl rfl (rd_assign rfl K rfl) ?_; clear K; intro a K
        refine R_end ?_
        refine then_n (wp_ret ?_)
        cases h
        exact ret1 K rfl (res_tmp K rfl) ⟨_, rfl, rfl, ((M).pick [] (by decide))⟩
theorem W_darkslideref_Number (N : Nat) (n : Int) (size : Int) (w0 : World)  (r : List UInt8) (h : D_darkslideref_Number N n size = some r) :
    Calls Tryd.prog 14 #[I n, I size] w0 fun e w' => ∃ v, e = .returned v ∧ v = .string (bs r) ∧ Mem w0.heap.size w0 w' [] := W_darkslideref_Number_r N N n size w0 r h
end Go.Proofs.YtpmnfhifmmfglabDoor

namespace Go.Proofs.YtpmnfhifmmfglabDoor
open Go.RowKit
set_option maxRecDepth 100000 in
set_option maxHeartbeats 4000000 in
theorem W_darkslideref_Packed (N : Nat) (l2 : List Int) (A_l2 : Option Addr) (c_l2 : Nat) (depth : Int) (w0 : World) (R_l2 : SL w0 (cI .i64) A_l2 l2) (C_l2 : l2.length ≤ c_l2) (r : List UInt8) (h : D_darkslideref_Packed N l2 depth = some r) :
    Calls Tryd.prog 20 #[.slice A_l2 l2.length c_l2, I depth] w0 fun e w' => ∃ v, e = .returned v ∧ v = .string (bs r) ∧ Mem w0.heap.size w0 w' [] := by
  refine X_enter Tryd.func20 rfl Tryd.ntmps20 rfl ?_
  intro a K
  have M := Mem.start w0
  have K : Kn a 24 [(0, .slice A_l2 l2.length c_l2), (1, I depth)] := K
  unfold D_darkslideref_Packed at h
  refine wp_seq (X_reg ?_)
  refine X_o K M ?_; clear K; intro a K
  refine wpList_nil (then_n (wp_seq (X_reg ?_)))
  refine X_o K M ?_; clear K; intro a K
  refine wpList_nil (then_n (wp_seq (wp_seq (X_reg ?_))))
  refine X_o K M ?_; clear K; intro a K
  refine wpList_nil (then_n (wp_block ?_))
  replace M := Mem.nilrow 5 1 (cI .u8) M
  refine X_lp (id := 0) (Rel := fun (⟨l4, i2⟩ : List Int × Int) a w => ∃ (A2 : Option Addr) (c2 : Nat), Kn a 24 [(0, .slice A_l2 l2.length c_l2), (1, I depth), (5, .slice A2 l4.length c2), (6, I i2)] ∧ Mem w0.heap.size w0 w [.row 5 1 A2 l4.length c2 ((cI .u8).all l4)]) h (fun _ _ => rfl) ⟨none, 0, K.pick [0,1,5,6], M.pick [0] (by decide)⟩ ?_ ?_
  · clear K M h
    rintro ⟨l7, i5⟩ a w ⟨A5, c5, K, M⟩ h
    try dsimp only at h
    refine inb_e ?_
    refine then_n (wp_seq (X_reg ?_))
    refine X_o K M ?_; clear K
    refine Y_r (fun _ K => rd_convBS rfl sl50 ik5 st9 K rfl (inR (C := (cI .u8)) 0 rfl rfl)) M ?_; intro a K
    obtain ⟨r5, h_r5, h⟩ := obind h
    refine X_a K (ac_call (vs := [.string (bs (toB l7))]) (cap := []) rfl fok9 K rfl rfl (W_darkslideref_Bytes N (toB l7) _  r5 h_r5)) ?_
    have M0 := M; clear K M; rintro _ a w ⟨rfl, M⟩ K
    replace M := M0.call M; clear M0
    refine X_o K M ?_; clear K; intro a K
    refine wpList_nil (then_n (wp_ret ?_))
    cases h
    exact ret1 K rfl (res_tmp K rfl) ⟨_, rfl, rfl, ((M).pick [] (by decide))⟩
  clear K M h
  rintro kk fuel ⟨l4, i2⟩ a w hk1 ⟨A2, c2, K, M⟩ h
  unfold D_darkslideref_Packed_l1 at h
  refine wp_seq (wp_seq (X_reg ?_))
  refine X_o K M ?_; clear K
  refine Y_o M ?_
  refine Y_r (fun _ K => rd_len rfl un35 K rfl) M ?_
  refine Y_o M ?_; intro a K
  refine wpList_nil (then_n ?_)
  refine X_cond K rfl (fun hb => ?_) (fun hb => ?_)
  · have h := ctrue hb h
    refine wp_skip (then_n (wp_seq (wp_block (X_reg ?_))))
    refine X_o K M ?_; clear K
    iterate 2 (refine Y_o M ?_)
    obtain ⟨e3, h_e3, h⟩ := obind h
    refine Y_r (fun _ K => rd_ix rfl sl35 K rfl rfl (inA R_l2) h_e3) M ?_
    refine Y_r (fun _ K => rd_elC rfl sc3 K rfl rfl (inA R_l2) h_e3 rfl) M ?_
    refine Y_o M ?_; intro a K
    obtain ⟨r4, h_r4, h⟩ := obind h
    refine X_a K (ac_call (vs := [I e3, I depth]) (cap := []) rfl fok14 K rfl rfl (W_darkslideref_Number N e3 depth _  r4 h_r4)) ?_
    have M0 := M; clear K M; rintro _ a w ⟨rfl, M⟩ K
    replace M := M0.call M; clear M0
    obtain ⟨l6, h_l6, h⟩ := obind h
    refine X_a K (ac_appS rfl sl50 st9 zu5 K rfl rfl 0 M rfl h_l6) ?_
    clear K M; rintro _ a w ⟨A4, c4, rfl, M⟩ K
    refine X_o K M ?_; clear K; intro a K
    refine wpList_nil (inb_n (then_n (X_reg ?_)))
    refine X_o K M ?_; clear K
    refine Y_o M ?_
    obtain ⟨i4, hx, h⟩ := olet h
    refine Y_r (fun _ K => rdi hx (rd_assign rfl K rfl)) M ?_; intro a K
    refine wpList_nil ?_
    exact then_n ⟨(l6, i4), ⟨A4, c4, K.pick [0,1,5,6], M.pick [0] (by decide)⟩, h⟩
  have h := cfalse hb h
  refine wp_exit ?_
  refine then_e ?_
  exact then_e (hk1 (l4, i2) _ _ ⟨A2, c2, K.pick [0,1,5,6], M.pick [0] (by decide)⟩ h)
end Go.Proofs.YtpmnfhifmmfglabDoor

namespace Go.Proofs.YtpmnfhifmmfglabDoor
open Go.RowKit
set_option maxRecDepth 100000 in
set_option maxHeartbeats 4000000 in
theorem W_darkslideref_within (N : Nat) (n : Int) (low : Int) (high : Int) (w0 : World)  (r : Bool) (h : D_darkslideref_within N n low high = some r) :
    Calls Tryd.prog 32 #[I n, I low, I high] w0 fun e w' => ∃ v, e = .returned v ∧ v = .bool r ∧ Mem w0.heap.size w0 w' [] := by
  refine X_enter Tryd.func32 rfl Tryd.ntmps32 rfl ?_
  intro a K
  have M := Mem.start w0
  have K : Kn a 15 [(0, I n), (1, I low), (2, I high)] := K
  unfold D_darkslideref_within at h
  refine wp_seq (X_reg ?_)
  refine X_o K M ?_; clear K; intro a K
  refine wpList_nil (then_n (wp_seq (X_reg ?_)))
  refine X_o K M ?_; clear K
  iterate 3 (refine Y_o M ?_)
  intro a K
  rcases Bool.eq_false_or_eq_true (decide (low ≤ n)) with hb | hb
  · have h := ctrue hb h
    have K := K.reb (s := 10) rfl hb
    refine X_o K M ?_; clear K
    iterate 4 (refine Y_o M ?_)
    intro a K
    refine wpList_nil (then_n (wp_ret ?_))
    cases h
    exact ret1 K rfl (res_tmp K rfl) ⟨_, rfl, rfl, ((M).pick [] (by decide))⟩
  have h := cfalse hb h
  have K := K.reb (s := 10) rfl hb
  refine X_o K M ?_; clear K
  iterate 4 (refine Y_o M ?_)
  intro a K
  refine wpList_nil (then_n (wp_ret ?_))
  cases h
  exact ret1 K rfl (res_tmp K rfl) ⟨_, rfl, rfl, ((M).pick [] (by decide))⟩
end Go.Proofs.YtpmnfhifmmfglabDoor

namespace Go.Proofs.YtpmnfhifmmfglabDoor
open Go.RowKit
set_option maxRecDepth 100000 in
set_option maxHeartbeats 4000000 in
theorem W_darkslideref_PackError (N : Nat) (l2 : List Int) (A_l2 : Option Addr) (c_l2 : Nat) (depth : Int) (w0 : World) (R_l2 : SL w0 (cI .i64) A_l2 l2) (C_l2 : l2.length ≤ c_l2) (r : Int) (h : D_darkslideref_PackError N l2 depth = some r) :
    Calls Tryd.prog 19 #[.slice A_l2 l2.length c_l2, I depth] w0 fun e w' => ∃ v, e = .returned v ∧ v = I r ∧ Mem w0.heap.size w0 w' [] := by
  refine X_enter Tryd.func19 rfl Tryd.ntmps19 rfl ?_
  intro a K
  have M := Mem.start w0
  have K : Kn a 27 [(0, .slice A_l2 l2.length c_l2), (1, I depth)] := K
  unfold D_darkslideref_PackError at h
  refine wp_seq (X_reg ?_)
  refine X_o K M ?_; clear K; intro a K
  refine wpList_nil (then_n (wp_seq (wp_seq (X_reg ?_))))
  refine X_o K M ?_; clear K; intro a K
  obtain ⟨r2, h_r2, h⟩ := obind h
  refine X_a K (ac_call (vs := [I depth, I 1, I 16]) (cap := []) rfl fok32 K rfl rfl (W_darkslideref_within N depth 1 16 _  r2 h_r2)) ?_
  have M0 := M; clear K M; rintro _ a w ⟨rfl, M⟩ K
  replace M := M0.call M; clear M0
  refine X_o K M ?_; clear K; intro a K
  refine wpList_nil (then_n ?_)
  refine X_cond K rfl (fun hb => ?_) (fun hb => ?_)
  · have h := ctrue hb h
    refine wp_seq (X_reg ?_)
    refine X_o K M ?_; clear K; intro a K
    refine wpList_nil (then_n (wp_ret (then_r ?_)))
    cases h
    exact ret1 K rfl (res_tmp K rfl) ⟨_, rfl, rfl, ((M).pick [] (by decide))⟩
  have h := cfalse hb h
  refine wp_skip (then_n (wp_seq (wp_seq (X_reg ?_))))
  refine X_o K M ?_; clear K
  refine Y_r (fun _ K => rd_len rfl un35 K rfl) M ?_
  refine Y_o M ?_; intro a K
  refine wpList_nil (then_n ?_)
  refine X_cond K rfl (fun hb => ?_) (fun hb => ?_)
  · have h := ctrue hb h
    refine wp_seq (X_reg ?_)
    refine X_o K M ?_; clear K; intro a K
    refine wpList_nil (then_n (wp_ret (then_r ?_)))
    cases h
    exact ret1 K rfl (res_tmp K rfl) ⟨_, rfl, rfl, ((M).pick [] (by decide))⟩
  have h := cfalse hb h
  refine wp_skip (then_n (wp_seq (wp_seq (X_reg ?_))))
  refine X_o K M ?_; clear K; intro a K
  refine wpList_nil (then_n (wp_block ?_))
  refine X_lp (id := 0) (Rel := fun (i : Int) a w => Kn a 27 [(0, .slice A_l2 l2.length c_l2), (1, I depth), (5, I i)] ∧ Mem w0.heap.size w0 w []) h (fun _ _ => rfl) ⟨K.pick [0,1,5], M.pick [] (by decide)⟩ ?_ ?_
  · clear K M h
    rintro i4 a w ⟨K, M⟩ h
    try dsimp only at h
    refine inb_e ?_
    refine then_n (wp_seq (X_reg ?_))
    refine X_o K M ?_; clear K; intro a K
    refine wpList_nil (then_n (wp_ret ?_))
    cases h
    exact ret1 K rfl (res_tmp K rfl) ⟨_, rfl, rfl, ((M).pick [] (by decide))⟩
  clear K M h
  rintro kk fuel i a w hk1 ⟨K, M⟩ h
  unfold D_darkslideref_PackError_l1 at h
  refine wp_seq (wp_seq (X_reg ?_))
  refine X_o K M ?_; clear K
  refine Y_o M ?_
  refine Y_r (fun _ K => rd_len rfl un35 K rfl) M ?_
  refine Y_o M ?_; intro a K
  refine wpList_nil (then_n ?_)
  refine X_cond K rfl (fun hb => ?_) (fun hb => ?_)
  · have h := ctrue hb h
    refine wp_skip (then_n (wp_seq (wp_block (wp_seq ?_))))
    refine wp_region_tl (fun w => Mem _ _ w _) [0,0,0,0,0,0,0,1,0] (by kernel_rfl) (by kernel_rfl) M.drew ?_
    replace M := M.drew
    refine T_o K ?_; clear K
    refine U_o ?_
    obtain ⟨e2, h_e2, h⟩ := obind h
    refine U_r (fun _ K => rd_ix rfl sl35 K rfl rfl (inA R_l2) h_e2) ?_
    refine U_r (fun _ K => rd_elC rfl sc3 K rfl rfl (inA R_l2) h_e2 rfl) ?_
    refine U_o ?_; intro a K
    obtain ⟨_, h0, h⟩ := obind h
    have h0 := nn_spec h0
    refine T_r K (rd_shl rfl K rfl rfl h0) ?_; clear K
    refine U_o ?_; intro a K
    obtain ⟨r4, h_r4, h⟩ := obind h
    refine T_a K (ac_call (vs := [I e2, I 0, I (IntKind.i64.wrap ((shlI .i64 1 depth) - 1))]) (cap := []) rfl fok32 K rfl rfl (W_darkslideref_within N e2 0 (IntKind.i64.wrap ((shlI .i64 1 depth) - 1)) _  r4 h_r4)) ?_
    have M0 := M; clear K M; rintro _ a w ⟨rfl, M⟩ K
    replace M := M0.call M; clear M0
    refine ⟨M.pick [] (by decide), ?_⟩
    refine T_o K ?_; clear K; intro a K
    refine T_end ?_
    refine then_n ?_
    refine X_cond K rfl (fun hb => ?_) (fun hb => ?_)
    · have h := ctrue hb h
      refine wp_seq (X_reg ?_)
      refine X_o K M ?_; clear K; intro a K
      refine wpList_nil (then_n (wp_ret (inb_r (then_r (then_r (inb_r (then_r ?_)))))))
      cases h
      exact ret1 K rfl (res_tmp K rfl) ⟨_, rfl, rfl, ((M).pick [] (by decide))⟩
    have h := cfalse hb h
    refine wp_skip (inb_n (then_n (X_reg ?_)))
    refine X_o K M ?_; clear K
    refine Y_o M ?_
    obtain ⟨i3, hx, h⟩ := olet h
    refine Y_r (fun _ K => rdi hx (rd_assign rfl K rfl)) M ?_; intro a K
    refine wpList_nil ?_
    exact then_n ⟨i3, ⟨K.pick [0,1,5], M.pick [] (by decide)⟩, h⟩
  have h := cfalse hb h
  refine wp_exit ?_
  refine then_e ?_
  exact then_e (hk1 i _ _ ⟨K.pick [0,1,5], M.pick [] (by decide)⟩ h)
end Go.Proofs.YtpmnfhifmmfglabDoor

namespace Go.Proofs.YtpmnfhifmmfglabDoor
open Go.RowKit
set_option maxRecDepth 100000 in
set_option maxHeartbeats 4000000 in
theorem W_darkslideref_Row (N : Nat) (s : List UInt8) (w0 : World)  (r : List UInt8) (h : D_darkslideref_Row N s = some r) :
    Calls Tryd.prog 17 #[.string (bs s)] w0 fun e w' => ∃ v, e = .returned v ∧ v = .string (bs r) ∧ Mem w0.heap.size w0 w' [] := by
  refine X_enter Tryd.func17 rfl Tryd.ntmps17 rfl ?_
  intro a K
  have M := Mem.start w0
  have K : Kn a 32 [(0, .string (bs s))] := K
  unfold D_darkslideref_Row at h
  refine wp_seq (X_reg ?_)
  refine X_o K M ?_; clear K; intro a K
  refine wpList_nil (then_n (wp_seq (X_reg ?_)))
  refine X_o K M ?_; clear K
  refine Y_r (fun _ K => rd_lenT rfl st9 K rfl) M ?_
  refine Y_o M ?_; intro a K
  obtain ⟨_, h0, h⟩ := obind h
  have h0 := mok_spec h0
  refine X_a K (ac_make0 (C := (cI .u8)) rfl sl50 rfl (by rw [z5]; rfl) rfl K rfl rfl M h0) ?_
  clear K M; rintro _ a w ⟨A, c, rfl, M⟩ K
  refine X_o K M ?_; clear K; intro a K
  refine wpList_nil (then_n (wp_seq (wp_seq (X_reg ?_))))
  refine X_o K M ?_; clear K; intro a K
  refine wpList_nil (then_n (wp_block ?_))
  refine X_lp (id := 0) (Rel := fun (⟨l2, i⟩ : List Int × Int) a w => ∃ (A2 : Option Addr) (c2 : Nat), Kn a 32 [(0, .string (bs s)), (3, .slice A2 l2.length c2), (4, I i)] ∧ Mem w0.heap.size w0 w [.row 5 1 A2 l2.length c2 ((cI .u8).all l2)]) h (fun _ _ => rfl) ⟨A, c, K.pick [0,3,4], M.pick [0] (by decide)⟩ ?_ ?_
  · clear K M h
    rintro ⟨l9, i4⟩ a w ⟨A9, c9, K, M⟩ h
    try dsimp only at h
    refine inb_e ?_
    refine then_n (wp_seq (X_reg ?_))
    refine X_o K M ?_; clear K
    refine Y_r (fun _ K => rd_convBS rfl sl50 ik5 st9 K rfl (inR (C := (cI .u8)) 0 rfl rfl)) M ?_
    refine Y_o M ?_; intro a K
    refine wpList_nil (then_n (wp_ret ?_))
    cases h
    exact ret1 K rfl (res_tmp K rfl) ⟨_, rfl, rfl, ((M).pick [] (by decide))⟩
  clear K M h
  rintro kk fuel ⟨l2, i⟩ a w hk1 ⟨A2, c2, K, M⟩ h
  unfold D_darkslideref_Row_l1 at h
  refine wp_seq (wp_seq (X_reg ?_))
  refine X_o K M ?_; clear K
  refine Y_o M ?_
  refine Y_r (fun _ K => rd_lenT rfl st9 K rfl) M ?_
  refine Y_o M ?_; intro a K
  refine wpList_nil (then_n ?_)
  refine X_cond K rfl (fun hb => ?_) (fun hb => ?_)
  · have h := ctrue hb h
    refine wp_skip (then_n (wp_seq (wp_block (wp_seq (X_reg ?_)))))
    refine X_o K M ?_; clear K; intro a K
    refine wpList_nil (then_n (wp_block ?_))
    refine X_lp (id := 2) (Rel := fun (⟨l5, k3⟩ : List Int × Int) a w => ∃ (A5 : Option Addr) (c5 : Nat), Kn a 32 [(0, .string (bs s)), (3, .slice A5 l5.length c5), (4, I i), (5, I k3)] ∧ Mem w0.heap.size w0 w [.row 5 1 A5 l5.length c5 ((cI .u8).all l5)]) h (fun _ _ => rfl) ⟨A2, c2, K.pick [0,3,4,5], M.pick [0] (by decide)⟩ ?_ ?_
    · clear K M h
      rintro ⟨l8, k6⟩ a w ⟨A8, c8, K, M⟩ h
      try dsimp only at h
      refine inb_e ?_
      refine inb_n (then_n (X_reg ?_))
      refine X_o K M ?_; clear K
      refine Y_o M ?_
      obtain ⟨i3, hx, h⟩ := olet h
      refine Y_r (fun _ K => rdi hx (rd_assign rfl K rfl)) M ?_; intro a K
      refine wpList_nil ?_
      exact then_n ⟨(l8, i3), ⟨A8, c8, K.pick [0,3,4], M.pick [0] (by decide)⟩, h⟩
    clear K M h
    rintro kk fuel ⟨l5, k3⟩ a w hk2 ⟨A5, c5, K, M⟩ h
    unfold D_darkslideref_Row_l2 at h
    refine wp_seq (wp_seq (X_reg ?_))
    refine X_o K M ?_; clear K
    refine Y_o M ?_; intro a K
    refine wpList_nil (then_n ?_)
    refine X_cond K rfl (fun hb => ?_) (fun hb => ?_)
    · have h := ctrue hb h
      refine wp_skip (then_n (wp_seq (wp_block (X_reg ?_))))
      refine X_o K M ?_; clear K
      iterate 2 (refine Y_o M ?_)
      obtain ⟨b3, h_b3, h⟩ := obind h
      refine Y_r (fun _ K => rd_ixT rfl st9 K rfl rfl h_b3) M ?_
      refine Y_o M ?_; intro a K
      obtain ⟨_, h0, h⟩ := obind h
      have h0 := nn_spec h0
      refine X_r K (rd_shr rfl K rfl rfl h0) M ?_; clear K
      iterate 2 (refine Y_o M ?_)
      intro a K
      refine X_a K (ac_bslice rfl sl50 z5 K (vs := [(0, .int .u8 (IntKind.u8.wrap (48 + (andI .u8 (shrI .u8 (b3.toNat : Int) k3) 1))))]) (cs := [.int .u8 (IntKind.u8.wrap (48 + (andI .u8 (shrI .u8 (b3.toNat : Int) k3) 1)))]) rfl (by kernel_rfl) rfl rfl M) ?_
      have M0 := M; clear K M; rintro _ a w ⟨gs3, rfl, M⟩ K
      replace M := M.asRow 0 rfl (cI .u8) ([IntKind.u8.wrap (48 + (andI .u8 (shrI .u8 (b3.toNat : Int) k3) 1))] : List Int) (n := 1) rfl rfl rfl
      clear M0
      obtain ⟨l7, h_l7, h⟩ := obind h
      refine X_a K (ac_app (C := (cI .u8)) (xs := l5) (ys := ([IntKind.u8.wrap (48 + (andI .u8 (shrI .u8 (b3.toNat : Int) k3) 1))] : List Int)) rfl sl50 rfl z5 rfl rfl K rfl rfl 1 M rfl ((inR (C := (cI .u8)) 0 rfl rfl) _ M) h_l7) ?_
      clear K M; rintro _ a w ⟨A7, c7, rfl, M⟩ K
      refine X_o K M ?_; clear K; intro a K
      refine wpList_nil (inb_n (then_n (X_reg ?_)))
      refine X_o K M ?_; clear K
      refine Y_o M ?_
      obtain ⟨k5, hx, h⟩ := olet h
      refine Y_r (fun _ K => rdi hx (rd_assign rfl K rfl)) M ?_; intro a K
      refine wpList_nil ?_
      exact then_n ⟨(l7, k5), ⟨A7, c7, K.pick [0,3,4,5], M.pick [1] (by decide)⟩, h⟩
    have h := cfalse hb h
    refine wp_exit ?_
    refine then_e ?_
    exact then_e (hk2 (l5, k3) _ _ ⟨A5, c5, K.pick [0,3,4,5], M.pick [0] (by decide)⟩ h)
  have h := cfalse hb h
  refine wp_exit ?_
  refine then_e ?_
  exact then_e (hk1 (l2, i) _ _ ⟨A2, c2, K.pick [0,3,4], M.pick [0] (by decide)⟩ h)
end Go.Proofs.YtpmnfhifmmfglabDoor

namespace Go.Proofs.YtpmnfhifmmfglabDoor
open Go.RowKit
set_option maxRecDepth 100000 in
set_option maxHeartbeats 4000000 in
theorem W_darkslideref_Value (N : Nat) (b : List UInt8) (w0 : World)  (r : Int) (h : D_darkslideref_Value N b = some r) :
    Calls Tryd.prog 10 #[.string (bs b)] w0 fun e w' => ∃ v, e = .returned v ∧ v = I r ∧ Mem w0.heap.size w0 w' [] := by
  refine X_enter Tryd.func10 rfl Tryd.ntmps10 rfl ?_
  intro a K
  have M := Mem.start w0
  have K : Kn a 20 [(0, .string (bs b))] := K
  unfold D_darkslideref_Value at h
  refine wp_seq (X_reg ?_)
  refine X_o K M ?_; clear K; intro a K
  refine wpList_nil (then_n (wp_seq (X_reg ?_)))
  refine X_o K M ?_; clear K; intro a K
  refine wpList_nil (then_n (wp_seq (wp_seq (X_reg ?_))))
  refine X_o K M ?_; clear K; intro a K
  refine wpList_nil (then_n (wp_block ?_))
  refine X_lp (id := 0) (Rel := fun (⟨n, i⟩ : Int × Int) a w => Kn a 20 [(0, .string (bs b)), (3, I n), (4, I i)] ∧ Mem w0.heap.size w0 w []) h (fun _ _ => rfl) ⟨K.pick [0,3,4], M.pick [] (by decide)⟩ ?_ ?_
  · clear K M h
    rintro ⟨n4, i4⟩ a w ⟨K, M⟩ h
    try dsimp only at h
    refine inb_e ?_
    refine then_n (wp_seq (X_reg ?_))
    refine X_o K M ?_; clear K
    refine Y_o M ?_; intro a K
    refine wpList_nil (then_n (wp_ret ?_))
    cases h
    exact ret1 K rfl (res_tmp K rfl) ⟨_, rfl, rfl, ((M).pick [] (by decide))⟩
  clear K M h
  rintro kk fuel ⟨n, i⟩ a w hk1 ⟨K, M⟩ h
  unfold D_darkslideref_Value_l1 at h
  refine wp_seq (wp_seq (X_reg ?_))
  refine X_o K M ?_; clear K
  refine Y_o M ?_
  refine Y_r (fun _ K => rd_lenT rfl st9 K rfl) M ?_
  refine Y_o M ?_; intro a K
  refine wpList_nil (then_n ?_)
  refine X_cond K rfl (fun hb => ?_) (fun hb => ?_)
  · have h := ctrue hb h
    refine wp_skip (then_n (wp_seq (wp_block (X_reg ?_))))
    refine X_o K M ?_; clear K
    iterate 3 (refine Y_o M ?_)
    obtain ⟨b3, h_b3, h⟩ := obind h
    refine Y_r (fun _ K => rd_ixT rfl st9 K rfl rfl h_b3) M ?_
    refine Y_o M ?_
    refine Y_r (fun _ K => rd_conv rfl rfl ik3 K rfl) M ?_
    refine Y_o M ?_
    obtain ⟨n3, hx, h⟩ := olet h
    refine Y_r (fun _ K => rdi hx (rd_assign rfl K rfl)) M ?_; intro a K
    refine wpList_nil (inb_n (then_n (X_reg ?_)))
    refine X_o K M ?_; clear K
    refine Y_o M ?_
    obtain ⟨i3, hx, h⟩ := olet h
    refine Y_r (fun _ K => rdi hx (rd_assign rfl K rfl)) M ?_; intro a K
    refine wpList_nil ?_
    exact then_n ⟨(n3, i3), ⟨K.pick [0,3,4], M.pick [] (by decide)⟩, h⟩
  have h := cfalse hb h
  refine wp_exit ?_
  refine then_e ?_
  exact then_e (hk1 (n, i) _ _ ⟨K.pick [0,3,4], M.pick [] (by decide)⟩ h)
end Go.Proofs.YtpmnfhifmmfglabDoor

namespace Go.Proofs.YtpmnfhifmmfglabDoor
open Go.RowKit
set_option maxRecDepth 100000 in
set_option maxHeartbeats 4000000 in
theorem W_darkslideref_Unpacked (N : Nat) (s : List UInt8) (depth : Int) (n : Int) (w0 : World)  (r : List Int × Int) (h : D_darkslideref_Unpacked N s depth n = some r) :
    Calls Tryd.prog 22 #[.string (bs s), I depth, I n] w0 fun e w' => ∃ v, e = .returned v ∧ ∃ A0 c0, v = .tuple #[.slice A0 r.1.length c0, I r.2] ∧ Mem w0.heap.size w0 w' [.row 3 1 A0 r.1.length c0 ((cI .i64).all r.1)] := by
  refine X_enter Tryd.func22 rfl Tryd.ntmps22 rfl ?_
  intro a K
  have M := Mem.start w0
  have K : Kn a 54 [(0, .string (bs s)), (1, I depth), (2, I n)] := K
  unfold D_darkslideref_Unpacked at h
  refine wp_seq (X_reg ?_)
  refine X_o K M ?_; clear K
  refine Y_o M ?_; intro a K
  refine wpList_nil (then_n (wp_seq (wp_seq (X_reg ?_))))
  refine X_o K M ?_; clear K; intro a K
  obtain ⟨r2, h_r2, h⟩ := obind h
  refine X_a K (ac_call (vs := [I depth, I 1, I 16]) (cap := []) rfl fok32 K rfl rfl (W_darkslideref_within N depth 1 16 _  r2 h_r2)) ?_
  have M0 := M; clear K M; rintro _ a w ⟨rfl, M⟩ K
  replace M := M0.call M; clear M0
  refine X_o K M ?_; clear K
  refine Y_o M ?_; intro a K
  rcases Bool.eq_false_or_eq_true (!(r2)) with hb | hb
  · have h := ctrue hb h
    have K := K.reb (s := 14) rfl hb
    refine X_o K M ?_; clear K
    iterate 2 (refine Y_o M ?_)
    intro a K
    refine wpList_nil (then_n ?_)
    refine X_condT K rfl ?_
    refine wp_seq (X_reg ?_)
    refine X_o K M ?_; clear K
    refine Y_o M ?_; intro a K
    refine wpList_nil (then_n (wp_ret (then_r ?_)))
    cases h
    exact ret2 K rfl (res_tmp K rfl) (res_tmp K rfl) ⟨_, rfl, _, _, rfl, (((Mem.nilrow 3 1 (cI .i64) M)).pick [0] (by decide))⟩
  have h := cfalse hb h
  have K := K.reb (s := 14) rfl hb
  refine X_o K M ?_; clear K
  iterate 2 (refine Y_o M ?_)
  intro a K
  refine wpList_nil (then_n ?_)
  refine X_cond K rfl (fun hb => ?_) (fun hb => ?_)
  · have h := ctrue hb h
    refine wp_seq (X_reg ?_)
    refine X_o K M ?_; clear K
    refine Y_o M ?_; intro a K
    refine wpList_nil (then_n (wp_ret (then_r ?_)))
    cases h
    exact ret2 K rfl (res_tmp K rfl) (res_tmp K rfl) ⟨_, rfl, _, _, rfl, (((Mem.nilrow 3 1 (cI .i64) M)).pick [0] (by decide))⟩
  have h := cfalse hb h
  refine wp_skip (then_n (wp_seq (wp_seq (X_reg ?_))))
  refine X_o K M ?_; clear K
  refine Y_o M ?_; intro a K
  refine wpList_nil (then_n ?_)
  refine X_cond K rfl (fun hb => ?_) (fun hb => ?_)
  · have h := ctrue hb h
    refine wp_seq (X_reg ?_)
    refine X_o K M ?_; clear K
    refine Y_o M ?_; intro a K
    refine wpList_nil (then_n (wp_ret (then_r ?_)))
    cases h
    exact ret2 K rfl (res_tmp K rfl) (res_tmp K rfl) ⟨_, rfl, _, _, rfl, (((Mem.nilrow 3 1 (cI .i64) M)).pick [0] (by decide))⟩
  have h := cfalse hb h
  refine wp_skip (then_n (wp_seq (wp_seq (X_reg ?_))))
  refine X_o K M ?_; clear K
  refine Y_r (fun _ K => rd_lenT rfl st9 K rfl) M ?_
  iterate 4 (refine Y_o M ?_)
  refine Y_r (fun _ K => rd_quo rfl K rfl rfl (by decide)) M ?_
  refine Y_o M ?_; intro a K
  refine wpList_nil (then_n ?_)
  refine X_cond K rfl (fun hb => ?_) (fun hb => ?_)
  · have h := ctrue hb h
    refine wp_seq (X_reg ?_)
    refine X_o K M ?_; clear K
    refine Y_o M ?_; intro a K
    refine wpList_nil (then_n (wp_ret (then_r ?_)))
    cases h
    exact ret2 K rfl (res_tmp K rfl) (res_tmp K rfl) ⟨_, rfl, _, _, rfl, (((Mem.nilrow 3 1 (cI .i64) M)).pick [0] (by decide))⟩
  have h := cfalse hb h
  refine wp_skip (then_n (wp_seq (X_reg ?_)))
  refine X_o K M ?_; clear K; intro a K
  obtain ⟨r3, h_r3, h⟩ := obind h
  refine X_a K (ac_call (vs := [.string (bs s)]) (cap := []) rfl fok17 K rfl rfl (W_darkslideref_Row N s _  r3 h_r3)) ?_
  have M0 := M; clear K M; rintro _ a w ⟨rfl, M⟩ K
  replace M := M0.call M; clear M0
  refine X_o K M ?_; clear K; intro a K
  refine wpList_nil (then_n (wp_seq (X_reg ?_)))
  refine X_o K M ?_; clear K; intro a K
  refine wpList_nil (then_n (wp_seq (wp_seq (X_reg ?_))))
  refine X_o K M ?_; clear K; intro a K
  refine wpList_nil (then_n (wp_block ?_))
  replace M := Mem.nilrow 3 1 (cI .i64) M
  refine X_lp (id := 0) (Rel := fun (⟨l3, i2⟩ : List Int × Int) a w => ∃ (A2 : Option Addr) (c2 : Nat), Kn a 54 [(0, .string (bs s)), (1, I depth), (2, I n), (8, .string (bs r3)), (9, .slice A2 l3.length c2), (10, I i2)] ∧ Mem w0.heap.size w0 w [.row 3 1 A2 l3.length c2 ((cI .i64).all l3)]) h (fun _ _ => rfl) ⟨none, 0, K.pick [0,1,2,8,9,10], M.pick [0] (by decide)⟩ ?_ ?_
  · clear K M h
    rintro ⟨l6, i5⟩ a w ⟨A5, c5, K, M⟩ h
    try dsimp only at h
    refine inb_e ?_
    refine then_n (wp_seq (wp_seq (X_reg ?_)))
    refine X_o K M ?_; clear K
    refine Y_o M ?_; intro a K
    obtain ⟨r7, h_r7, h⟩ := obind h
    refine X_a K (ac_call (vs := [.slice A5 l6.length c5, I depth]) (cap := []) rfl fok20 K rfl rfl (W_darkslideref_Packed N l6 A5 c5 depth _ ((inR (C := (cI .i64)) 0 rfl rfl) _ M) (M.cap 0 rfl) r7 h_r7)) ?_
    have M0 := M; clear K M; rintro _ a w ⟨rfl, M⟩ K
    replace M := M0.call M; clear M0
    refine X_o K M ?_; clear K
    refine Y_r (fun _ K => rd_neqS rfl K rfl rfl) M ?_; intro a K
    refine wpList_nil (then_n ?_)
    refine X_cond K rfl (fun hb => ?_) (fun hb => ?_)
    · have h := ctrue hb h
      refine wp_seq (X_reg ?_)
      refine X_o K M ?_; clear K
      refine Y_o M ?_; intro a K
      refine wpList_nil (then_n (wp_ret (then_r ?_)))
      cases h
      exact ret2 K rfl (res_tmp K rfl) (res_tmp K rfl) ⟨_, rfl, _, _, rfl, (((Mem.nilrow 3 1 (cI .i64) M)).pick [0] (by decide))⟩
    have h := cfalse hb h
    refine wp_skip (then_n (wp_seq (X_reg ?_)))
    refine X_o K M ?_; clear K
    iterate 2 (refine Y_o M ?_)
    intro a K
    refine wpList_nil (then_n (wp_ret ?_))
    cases h
    exact ret2 K rfl (res_tmp K rfl) (res_tmp K rfl) ⟨_, rfl, _, _, rfl, ((M).pick [0] (by decide))⟩
  clear K M h
  rintro kk fuel ⟨l3, i2⟩ a w hk1 ⟨A2, c2, K, M⟩ h
  unfold D_darkslideref_Unpacked_l1 at h
  refine wp_seq (wp_seq (X_reg ?_))
  refine X_o K M ?_; clear K
  iterate 2 (refine Y_o M ?_)
  intro a K
  refine wpList_nil (then_n ?_)
  refine X_cond K rfl (fun hb => ?_) (fun hb => ?_)
  · have h := ctrue hb h
    refine wp_skip (then_n (wp_seq (wp_block (X_reg ?_))))
    refine X_o K M ?_; clear K
    iterate 8 (refine Y_o M ?_)
    obtain ⟨s4, h_s4, h⟩ := obind h
    refine Y_r (fun _ K => rd_sliceS (k := .i64) (k' := .i64) rfl st9 K rfl rfl rfl h_s4) M ?_; intro a K
    obtain ⟨r6, h_r6, h⟩ := obind h
    refine X_a K (ac_call (vs := [.string (bs s4)]) (cap := []) rfl fok10 K rfl rfl (W_darkslideref_Value N s4 _  r6 h_r6)) ?_
    have M0 := M; clear K M; rintro _ a w ⟨rfl, M⟩ K
    replace M := M0.call M; clear M0
    refine X_a K (ac_bslice rfl sl35 z3 K (vs := [(0, I r6)]) (cs := [I r6]) rfl (by kernel_rfl) rfl rfl M) ?_
    have M0 := M; clear K M; rintro _ a w ⟨gs3, rfl, M⟩ K
    replace M := M.asRow 0 rfl (cI .i64) ([r6] : List Int) (n := 1) rfl rfl rfl
    clear M0
    obtain ⟨l5, h_l5, h⟩ := obind h
    refine X_a K (ac_app (C := (cI .i64)) (xs := l3) (ys := ([r6] : List Int)) rfl sl35 rfl z3 rfl rfl K rfl rfl 1 M rfl ((inR (C := (cI .i64)) 0 rfl rfl) _ M) h_l5) ?_
    clear K M; rintro _ a w ⟨A4, c4, rfl, M⟩ K
    refine X_o K M ?_; clear K; intro a K
    refine wpList_nil (inb_n (then_n (X_reg ?_)))
    refine X_o K M ?_; clear K
    refine Y_o M ?_
    obtain ⟨i4, hx, h⟩ := olet h
    refine Y_r (fun _ K => rdi hx (rd_assign rfl K rfl)) M ?_; intro a K
    refine wpList_nil ?_
    exact then_n ⟨(l5, i4), ⟨A4, c4, K.pick [0,1,2,8,9,10], M.pick [1] (by decide)⟩, h⟩
  have h := cfalse hb h
  refine wp_exit ?_
  refine then_e ?_
  exact then_e (hk1 (l3, i2) _ _ ⟨A2, c2, K.pick [0,1,2,8,9,10], M.pick [0] (by decide)⟩ h)
end Go.Proofs.YtpmnfhifmmfglabDoor

namespace Go.Proofs.YtpmnfhifmmfglabDoor
open Go.RowKit
set_option maxRecDepth 100000 in
set_option maxHeartbeats 4000000 in
theorem W_darkslidelaw_BitsPacks (N : Nat) (d : List Int) (A_d : Option Addr) (c_d : Nat) (o : Int) (p2 : List UInt8) (p3 : Int) (w0 : World) (R_d : SL w0 (cI .i64) A_d d) (C_d : d.length ≤ c_d) (r : Bool) (h : D_darkslidelaw_BitsPacks N d o p2 p3 = some r) :
    Calls Tryd.prog 4 #[.slice A_d d.length c_d, I o, .string (bs p2), I p3] w0 fun e w' => ∃ v, e = .returned v ∧ v = .bool r ∧ Mem w0.heap.size w0 w' [] := by
  refine X_enter Tryd.func4 rfl Tryd.ntmps4 rfl ?_
  intro a K
  have M := Mem.start w0
  have K : Kn a 66 [(0, .slice A_d d.length c_d), (1, I o), (2, .string (bs p2)), (3, I p3)] := K
  unfold D_darkslidelaw_BitsPacks at h
  refine wp_seq (X_reg ?_)
  refine X_o K M ?_; clear K; intro a K
  refine wpList_nil (then_n (wp_seq (X_reg ?_)))
  refine X_o K M ?_; clear K
  refine Y_o M ?_; intro a K
  obtain ⟨r2, h_r2, h⟩ := obind h
  refine X_a K (ac_call (vs := [.slice A_d d.length c_d, I o]) (cap := []) rfl fok18 K rfl rfl (W_bits_Pack N d A_d c_d o _ ((inA R_d) _ M) C_d r2 h_r2)) ?_
  have M0 := M; clear K M; rintro _ a w ⟨rfl, M⟩ K
  replace M := M0.call M; clear M0
  refine X_o K M ?_; clear K
  iterate 4 (refine Y_o M ?_)
  intro a K
  refine wpList_nil (then_n (wp_seq (X_reg ?_)))
  refine X_o K M ?_; clear K
  refine Y_o M ?_; intro a K
  obtain ⟨r3, h_r3, h⟩ := obind h
  refine X_a K (ac_call (vs := [.slice A_d d.length c_d, I o]) (cap := []) rfl fok19 K rfl rfl (W_darkslideref_PackError N d A_d c_d o _ ((inA R_d) _ M) C_d r3 h_r3)) ?_
  have M0 := M; clear K M; rintro _ a w ⟨rfl, M⟩ K
  replace M := M0.call M; clear M0
  refine X_o K M ?_; clear K
  refine Y_o M ?_; intro a K
  refine wpList_nil (then_n (wp_seq (wp_seq (X_reg ?_))))
  refine X_o K M ?_; clear K
  refine Y_o M ?_; intro a K
  refine wpList_nil (then_n ?_)
  refine X_cond K rfl (fun hb => ?_) (fun hb => ?_)
  · have h := ctrue hb h
    refine X_reg ?_
    refine X_o K M ?_; clear K
    refine Y_o M ?_; intro a K
    obtain ⟨r4, h_r4, h⟩ := obind h
    refine X_a K (ac_call (vs := [.slice A_d d.length c_d, I o]) (cap := []) rfl fok20 K rfl rfl (W_darkslideref_Packed N d A_d c_d o _ ((inA R_d) _ M) C_d r4 h_r4)) ?_
    have M0 := M; clear K M; rintro _ a w ⟨rfl, M⟩ K
    replace M := M0.call M; clear M0
    refine X_o K M ?_; clear K; intro a K
    refine wpList_nil (then_n (wp_seq (X_reg ?_)))
    refine X_o K M ?_; clear K
    iterate 2 (refine Y_o M ?_)
    intro a K
    obtain ⟨r5, h_r5, h⟩ := obind h
    refine X_a K (ac_call (vs := [.string (bs p2), I o, I p3]) (cap := []) rfl fok21 K rfl rfl (W_bits_Unpack N p2 o p3 _  r5 h_r5)) ?_
    have M0 := M; clear K M; rintro _ a w ⟨A, c, rfl, M⟩ K
    replace M := M0.call M; clear M0
    refine X_o K M ?_; clear K
    iterate 4 (refine Y_o M ?_)
    intro a K
    refine wpList_nil (then_n (wp_seq (X_reg ?_)))
    refine X_o K M ?_; clear K
    iterate 2 (refine Y_o M ?_)
    intro a K
    obtain ⟨r6, h_r6, h⟩ := obind h
    refine X_a K (ac_call (vs := [.string (bs p2), I o, I p3]) (cap := []) rfl fok22 K rfl rfl (W_darkslideref_Unpacked N p2 o p3 _  r6 h_r6)) ?_
    have M0 := M; clear K M; rintro _ a w ⟨A2, c2, rfl, M⟩ K
    replace M := M0.call M; clear M0
    refine X_o K M ?_; clear K
    iterate 4 (refine Y_o M ?_)
    intro a K
    refine wpList_nil (then_n (wp_seq (X_reg ?_)))
    obtain ⟨r7, h_r7, h⟩ := obind h
    refine X_a K (ac_call (vs := []) (cap := []) rfl fok15 K rfl rfl (W_darkslidelaw_bitsBegun N  _  r7 h_r7)) ?_
    have M0 := M; clear K M; rintro _ a w ⟨rfl, M⟩ K
    replace M := M0.call M; clear M0
    refine X_o K M ?_; clear K; intro a K
    rcases Bool.eq_false_or_eq_true (r7) with hb | hb
    · have h := ctrue hb h
      have K := K.reb (s := 46) rfl hb
      refine X_o K M ?_; clear K
      refine Y_o M ?_
      refine Y_r (fun _ K => rd_eqlS rfl K rfl rfl) M ?_
      iterate 2 (refine Y_o M ?_)
      intro a K
      rcases Bool.eq_false_or_eq_true (decide (r2.1 = r4)) with hb | hb
      · have h := ctrue hb h
        have K := K.reb (s := 51) rfl hb
        refine X_o K M ?_; clear K
        iterate 4 (refine Y_o M ?_)
        intro a K
        rcases Bool.eq_false_or_eq_true (decide (r2.2 = r3)) with hb | hb
        · have h := ctrue hb h
          have K := K.reb (s := 56) rfl hb
          refine X_o K M ?_; clear K
          iterate 4 (refine Y_o M ?_)
          intro a K
          rcases Bool.eq_false_or_eq_true (decide (r5.2 = r6.2)) with hb | hb
          · have h := ctrue hb h
            have K := K.reb (s := 61) rfl hb
            refine X_o K M ?_; clear K
            refine Y_o M ?_; intro a K
            obtain ⟨r8, h_r8, h⟩ := obind h
            refine X_a K (ac_call (vs := [.slice A r5.1.length c, .slice A2 r6.1.length c2]) (cap := []) rfl fok23 K rfl rfl (W_darkslideref_SameInts N r5.1 A c r6.1 A2 c2 _ ((inR (C := (cI .i64)) 1 rfl rfl) _ M) (M.cap 1 rfl) ((inR (C := (cI .i64)) 0 rfl rfl) _ M) (M.cap 0 rfl) r8 h_r8)) ?_
            have M0 := M; clear K M; rintro _ a w ⟨rfl, M⟩ K
            replace M := M0.call M; clear M0
            refine X_o K M ?_; clear K
            refine Y_o M ?_; intro a K
            refine wpList_nil (then_n (wp_ret ?_))
            cases h
            exact ret1 K rfl (res_tmp K rfl) ⟨_, rfl, rfl, ((M).pick [] (by decide))⟩
          have h := cfalse hb h
          have K := K.reb (s := 61) rfl hb
          refine X_o K M ?_; clear K
          iterate 4 (refine Y_o M ?_)
          intro a K
          refine wpList_nil (then_n (wp_ret ?_))
          cases h
          exact ret1 K rfl (res_tmp K rfl) ⟨_, rfl, rfl, ((M).pick [] (by decide))⟩
        have h := cfalse hb h
        have K := K.reb (s := 56) rfl hb
        refine X_o K M ?_; clear K
        iterate 9 (refine Y_o M ?_)
        intro a K
        refine wpList_nil (then_n (wp_ret ?_))
        cases h
        exact ret1 K rfl (res_tmp K rfl) ⟨_, rfl, rfl, ((M).pick [] (by decide))⟩
      have h := cfalse hb h
      have K := K.reb (s := 51) rfl hb
      refine X_o K M ?_; clear K
      iterate 14 (refine Y_o M ?_)
      intro a K
      refine wpList_nil (then_n (wp_ret ?_))
      cases h
      exact ret1 K rfl (res_tmp K rfl) ⟨_, rfl, rfl, ((M).pick [] (by decide))⟩
    have h := cfalse hb h
    have K := K.reb (s := 46) rfl hb
    refine X_o K M ?_; clear K
    iterate 19 (refine Y_o M ?_)
    intro a K
    refine wpList_nil (then_n (wp_ret ?_))
    cases h
    exact ret1 K rfl (res_tmp K rfl) ⟨_, rfl, rfl, ((M).pick [] (by decide))⟩
  have h := cfalse hb h
  refine wp_skip (then_n (wp_seq (X_reg ?_)))
  refine X_o K M ?_; clear K
  iterate 2 (refine Y_o M ?_)
  intro a K
  obtain ⟨r9, h_r9, h⟩ := obind h
  refine X_a K (ac_call (vs := [.string (bs p2), I o, I p3]) (cap := []) rfl fok21 K rfl rfl (W_bits_Unpack N p2 o p3 _  r9 h_r9)) ?_
  have M0 := M; clear K M; rintro _ a w ⟨A3, c3, rfl, M⟩ K
  replace M := M0.call M; clear M0
  refine X_o K M ?_; clear K
  iterate 4 (refine Y_o M ?_)
  intro a K
  refine wpList_nil (then_n (wp_seq (X_reg ?_)))
  refine X_o K M ?_; clear K
  iterate 2 (refine Y_o M ?_)
  intro a K
  obtain ⟨r10, h_r10, h⟩ := obind h
  refine X_a K (ac_call (vs := [.string (bs p2), I o, I p3]) (cap := []) rfl fok22 K rfl rfl (W_darkslideref_Unpacked N p2 o p3 _  r10 h_r10)) ?_
  have M0 := M; clear K M; rintro _ a w ⟨A4, c4, rfl, M⟩ K
  replace M := M0.call M; clear M0
  refine X_o K M ?_; clear K
  iterate 4 (refine Y_o M ?_)
  intro a K
  refine wpList_nil (then_n (wp_seq (X_reg ?_)))
  obtain ⟨r11, h_r11, h⟩ := obind h
  refine X_a K (ac_call (vs := []) (cap := []) rfl fok15 K rfl rfl (W_darkslidelaw_bitsBegun N  _  r11 h_r11)) ?_
  have M0 := M; clear K M; rintro _ a w ⟨rfl, M⟩ K
  replace M := M0.call M; clear M0
  refine X_o K M ?_; clear K; intro a K
  rcases Bool.eq_false_or_eq_true (r11) with hb | hb
  · have h := ctrue hb h
    have K := K.reb (s := 46) rfl hb
    refine X_o K M ?_; clear K
    refine Y_o M ?_
    refine Y_r (fun _ K => rd_eqlS rfl K rfl rfl) M ?_
    iterate 2 (refine Y_o M ?_)
    intro a K
    rcases Bool.eq_false_or_eq_true (decide (r2.1 = ([] : List UInt8))) with hb | hb
    · have h := ctrue hb h
      have K := K.reb (s := 51) rfl hb
      refine X_o K M ?_; clear K
      iterate 4 (refine Y_o M ?_)
      intro a K
      rcases Bool.eq_false_or_eq_true (decide (r2.2 = r3)) with hb | hb
      · have h := ctrue hb h
        have K := K.reb (s := 56) rfl hb
        refine X_o K M ?_; clear K
        iterate 4 (refine Y_o M ?_)
        intro a K
        rcases Bool.eq_false_or_eq_true (decide (r9.2 = r10.2)) with hb | hb
        · have h := ctrue hb h
          have K := K.reb (s := 61) rfl hb
          refine X_o K M ?_; clear K
          refine Y_o M ?_; intro a K
          obtain ⟨r12, h_r12, h⟩ := obind h
          refine X_a K (ac_call (vs := [.slice A3 r9.1.length c3, .slice A4 r10.1.length c4]) (cap := []) rfl fok23 K rfl rfl (W_darkslideref_SameInts N r9.1 A3 c3 r10.1 A4 c4 _ ((inR (C := (cI .i64)) 1 rfl rfl) _ M) (M.cap 1 rfl) ((inR (C := (cI .i64)) 0 rfl rfl) _ M) (M.cap 0 rfl) r12 h_r12)) ?_
          have M0 := M; clear K M; rintro _ a w ⟨rfl, M⟩ K
          replace M := M0.call M; clear M0
          refine X_o K M ?_; clear K
          refine Y_o M ?_; intro a K
          refine wpList_nil (then_n (wp_ret ?_))
          cases h
          exact ret1 K rfl (res_tmp K rfl) ⟨_, rfl, rfl, ((M).pick [] (by decide))⟩
        have h := cfalse hb h
        have K := K.reb (s := 61) rfl hb
        refine X_o K M ?_; clear K
        iterate 4 (refine Y_o M ?_)
        intro a K
        refine wpList_nil (then_n (wp_ret ?_))
        cases h
        exact ret1 K rfl (res_tmp K rfl) ⟨_, rfl, rfl, ((M).pick [] (by decide))⟩
      have h := cfalse hb h
      have K := K.reb (s := 56) rfl hb
      refine X_o K M ?_; clear K
      iterate 9 (refine Y_o M ?_)
      intro a K
      refine wpList_nil (then_n (wp_ret ?_))
      cases h
      exact ret1 K rfl (res_tmp K rfl) ⟨_, rfl, rfl, ((M).pick [] (by decide))⟩
    have h := cfalse hb h
    have K := K.reb (s := 51) rfl hb
    refine X_o K M ?_; clear K
    iterate 14 (refine Y_o M ?_)
    intro a K
    refine wpList_nil (then_n (wp_ret ?_))
    cases h
    exact ret1 K rfl (res_tmp K rfl) ⟨_, rfl, rfl, ((M).pick [] (by decide))⟩
  have h := cfalse hb h
  have K := K.reb (s := 46) rfl hb
  refine X_o K M ?_; clear K
  iterate 19 (refine Y_o M ?_)
  intro a K
  refine wpList_nil (then_n (wp_ret ?_))
  cases h
  exact ret1 K rfl (res_tmp K rfl) ⟨_, rfl, rfl, ((M).pick [] (by decide))⟩
end Go.Proofs.YtpmnfhifmmfglabDoor
