/- Texts of the claim BitsRows, joined: WRefBytes, WRefIsrow, WRefNumber, WRefWithin, WRefNumbererror, WRefRow, WRefValue, WLawBitsrows. -/
import Derived.Test.YtpmnfhifmmfglabDoorBitsRowsK1
import Derived.Test.YtpmnfhifmmfglabDoorBitsRowsK2
set_option linter.unusedVariables false
set_option linter.unusedSimpArgs false
set_option linter.unusedSectionVars false
namespace Go.Proofs.YtpmnfhifmmfglabDoor
open Go.RowKit
set_option maxRecDepth 100000 in
set_option maxHeartbeats 4000000 in
theorem W_darkslideref_Bytes (N : Nat) (b : List UInt8) (w0 : World)  (r : List UInt8) (h : D_darkslideref_Bytes N b = some r) :
    Calls Tryd.prog 9 #[.string (bs b)] w0 fun e w' => ∃ v, e = .returned v ∧ v = .string (bs r) ∧ Mem w0.heap.size w0 w' [] := by
  refine X_enter Tryd.func9 rfl Tryd.ntmps9 rfl ?_
  intro a K
  have M := Mem.start w0
  have K : Kn a 46 [(0, .string (bs b))] := K
  unfold D_darkslideref_Bytes at h
  refine wp_seq (X_reg ?_)
  refine X_o K M ?_; clear K; intro a K
  refine wpList_nil (then_n (wp_seq (X_reg ?_)))
  refine X_o K M ?_; clear K
  refine Y_r (fun _ K => rd_lenT rfl st9 K rfl) M ?_
  refine Y_r (fun _ K => rd_quo rfl K rfl rfl (by decide)) M ?_
  refine Y_o M ?_; intro a K
  obtain ⟨_, h0, h⟩ := obind h
  have h0 := mok_spec h0
  refine X_a K (ac_make0 (C := (cI .u8)) rfl sl50 rfl (by rw [z5]; rfl) rfl K rfl rfl M h0) ?_
  clear K M; rintro _ a w ⟨A, c, rfl, M⟩ K
  refine X_o K M ?_; clear K; intro a K
  refine wpList_nil (then_n (wp_seq (wp_seq (X_reg ?_))))
  refine X_o K M ?_; clear K; intro a K
  refine wpList_nil (then_n (wp_block ?_))
  refine X_lp (id := 0) (Rel := fun (⟨l2, i⟩ : List Int × Int) a w => ∃ (A2 : Option Addr) (c2 : Nat), Kn a 46 [(0, .string (bs b)), (3, .slice A2 l2.length c2), (4, I i)] ∧ Mem w0.heap.size w0 w [.row 5 1 A2 l2.length c2 ((cI .u8).all l2)]) h (fun _ _ => rfl) ⟨A, c, K.pick [0,3,4], M.pick [0] (by decide)⟩ ?_ ?_
  · clear K M h
    rintro ⟨l5, i4⟩ a w ⟨A5, c5, K, M⟩ h
    try dsimp only at h
    refine inb_e ?_
    refine then_n (wp_seq (X_reg ?_))
    refine X_o K M ?_; clear K
    refine Y_r (fun _ K => rd_convBS rfl sl50 ik5 st9 K rfl (inR (C := (cI .u8)) 0 rfl rfl)) M ?_
    refine Y_o M ?_; intro a K
    refine wpList_nil (then_n (wp_ret ?_))
    cases h
    exact ret1 K rfl (res_tmp K rfl) ⟨_, rfl, rfl, ((M).pick [] (by decide))⟩
  clear K M h
  rintro kk fuel ⟨l2, i⟩ a w hk1 ⟨A2, c2, K, M⟩ h
  unfold D_darkslideref_Bytes_l1 at h
  refine wp_seq (wp_seq (X_reg ?_))
  refine X_o K M ?_; clear K
  refine Y_o M ?_
  refine Y_r (fun _ K => rd_lenT rfl st9 K rfl) M ?_
  refine Y_o M ?_; intro a K
  refine wpList_nil (then_n ?_)
  refine X_cond K rfl (fun hb => ?_) (fun hb => ?_)
  · have h := ctrue hb h
    refine wp_skip (then_n (wp_seq (wp_block (wp_seq (X_reg ?_)))))
    refine X_o K M ?_; clear K; intro a K
    refine wpList_nil (then_n (wp_seq (wp_seq (X_reg ?_))))
    refine X_o K M ?_; clear K
    refine Y_o M ?_; intro a K
    refine wpList_nil (then_n (wp_block ?_))
    refine X_lp (id := 2) (Rel := fun (⟨n4, k5⟩ : Int × Int) a w => Kn a 46 [(0, .string (bs b)), (3, .slice A2 l2.length c2), (4, I i), (5, I n4), (6, I k5)] ∧ Mem w0.heap.size w0 w [.row 5 1 A2 l2.length c2 ((cI .u8).all l2)]) h (fun _ _ => rfl) ⟨K.pick [0,3,4,5,6], M.pick [0] (by decide)⟩ ?_ ?_
    · clear K M h
      rintro ⟨n9, k12⟩ a w ⟨K, M⟩ h
      try dsimp only at h
      refine inb_e ?_
      refine then_n (X_reg ?_)
      refine X_o K M ?_; clear K
      refine Y_o M ?_
      refine Y_r (fun _ K => rd_conv rfl rfl ik5 K rfl) M ?_; intro a K
      refine X_a K (ac_bslice rfl sl50 z5 K (vs := [(0, .int .u8 (IntKind.u8.wrap n9))]) (cs := [.int .u8 (IntKind.u8.wrap n9)]) rfl (by kernel_rfl) rfl rfl M) ?_
      have M0 := M; clear K M; rintro _ a w ⟨gs2, rfl, M⟩ K
      replace M := M.asRow 0 rfl (cI .u8) ([IntKind.u8.wrap n9] : List Int) (n := 1) rfl rfl rfl
      clear M0
      obtain ⟨l4, h_l4, h⟩ := obind h
      refine X_a K (ac_app (C := (cI .u8)) (xs := l2) (ys := ([IntKind.u8.wrap n9] : List Int)) rfl sl50 rfl z5 rfl rfl K rfl rfl 1 M rfl ((inR (C := (cI .u8)) 0 rfl rfl) _ M) h_l4) ?_
      clear K M; rintro _ a w ⟨A4, c4, rfl, M⟩ K
      refine X_o K M ?_; clear K; intro a K
      refine wpList_nil (inb_n (then_n (X_reg ?_)))
      refine X_o K M ?_; clear K
      refine Y_o M ?_
      obtain ⟨i3, hx, h⟩ := olet h
      refine Y_r (fun _ K => rdi hx (rd_assign rfl K rfl)) M ?_; intro a K
      refine wpList_nil ?_
      exact then_n ⟨(l4, i3), ⟨A4, c4, K.pick [0,3,4], M.pick [1] (by decide)⟩, h⟩
    clear K M h
    rintro kk fuel ⟨n4, k5⟩ a w hk2 ⟨K, M⟩ h
    unfold D_darkslideref_Bytes_l2 at h
    refine wp_seq (wp_seq (X_reg ?_))
    refine X_o K M ?_; clear K
    iterate 3 (refine Y_o M ?_)
    intro a K
    refine wpList_nil (then_n ?_)
    refine X_cond K rfl (fun hb => ?_) (fun hb => ?_)
    · have h := ctrue hb h
      refine wp_skip (then_n (wp_seq (wp_block (wp_seq (X_reg ?_)))))
      refine X_o K M ?_; clear K
      refine Y_o M ?_
      obtain ⟨n7, hx, h⟩ := olet h
      refine Y_r (fun _ K => rdi hx (rd_assign rfl K rfl)) M ?_; intro a K
      refine wpList_nil (then_n (wp_seq (X_reg ?_)))
      refine X_o K M ?_; clear K
      refine Y_o M ?_
      refine Y_r (fun _ K => rd_lenT rfl st9 K rfl) M ?_
      iterate 2 (refine Y_o M ?_)
      intro a K
      rcases Bool.eq_false_or_eq_true (decide (k5 < (b.length : Int))) with hb | hb
      · have h := ctrue hb h
        have K := K.reb (s := 31) rfl hb
        refine X_o K M ?_; clear K
        refine Y_o M ?_
        obtain ⟨b4, h_b4, h⟩ := obind h
        refine Y_r (fun _ K => rd_ixT rfl st9 K rfl rfl h_b4) M ?_
        iterate 2 (refine Y_o M ?_)
        intro a K
        refine wpList_nil (then_n ?_)
        refine X_cond K rfl (fun hb => ?_) (fun hb => ?_)
        · have h := ctrue hb h
          refine X_reg ?_
          refine X_o K M ?_; clear K
          refine Y_o M ?_
          obtain ⟨n8, hx, h⟩ := olet h
          refine Y_r (fun _ K => rdi hx (rd_assign rfl K rfl)) M ?_; intro a K
          refine wpList_nil (inb_n (then_n (X_reg ?_)))
          refine X_o K M ?_; clear K
          refine Y_o M ?_
          obtain ⟨k9, hx, h⟩ := olet h
          refine Y_r (fun _ K => rdi hx (rd_assign rfl K rfl)) M ?_; intro a K
          refine wpList_nil ?_
          exact then_n ⟨(n8, k9), ⟨K.pick [0,3,4,5,6], M.pick [0] (by decide)⟩, h⟩
        have h := cfalse hb h
        refine wp_skip (inb_n (then_n (X_reg ?_)))
        refine X_o K M ?_; clear K
        refine Y_o M ?_
        obtain ⟨k10, hx, h⟩ := olet h
        refine Y_r (fun _ K => rdi hx (rd_assign rfl K rfl)) M ?_; intro a K
        refine wpList_nil ?_
        exact then_n ⟨(n7, k10), ⟨K.pick [0,3,4,5,6], M.pick [0] (by decide)⟩, h⟩
      have h := cfalse hb h
      have K := K.reb (s := 31) rfl hb
      refine X_o K M ?_; clear K
      iterate 4 (refine Y_o M ?_)
      intro a K
      refine wpList_nil (then_n ?_)
      refine X_condF K rfl ?_
      refine wp_skip (inb_n (then_n (X_reg ?_)))
      refine X_o K M ?_; clear K
      refine Y_o M ?_
      obtain ⟨k11, hx, h⟩ := olet h
      refine Y_r (fun _ K => rdi hx (rd_assign rfl K rfl)) M ?_; intro a K
      refine wpList_nil ?_
      exact then_n ⟨(n7, k11), ⟨K.pick [0,3,4,5,6], M.pick [0] (by decide)⟩, h⟩
    have h := cfalse hb h
    refine wp_exit ?_
    refine then_e ?_
    exact then_e (hk2 (n4, k5) _ _ ⟨K.pick [0,3,4,5,6], M.pick [0] (by decide)⟩ h)
  have h := cfalse hb h
  refine wp_exit ?_
  refine then_e ?_
  exact then_e (hk1 (l2, i) _ _ ⟨A2, c2, K.pick [0,3,4], M.pick [0] (by decide)⟩ h)
end Go.Proofs.YtpmnfhifmmfglabDoor

namespace Go.Proofs.YtpmnfhifmmfglabDoor
open Go.RowKit
set_option maxRecDepth 100000 in
set_option maxHeartbeats 4000000 in
theorem W_darkslideref_IsRow (N : Nat) (b : List UInt8) (w0 : World)  (r : Bool) (h : D_darkslideref_IsRow N b = some r) :
    Calls Tryd.prog 8 #[.string (bs b)] w0 fun e w' => ∃ v, e = .returned v ∧ v = .bool r ∧ Mem w0.heap.size w0 w' [] := by
  refine X_enter Tryd.func8 rfl Tryd.ntmps8 rfl ?_
  intro a K
  have M := Mem.start w0
  have K : Kn a 20 [(0, .string (bs b))] := K
  unfold D_darkslideref_IsRow at h
  refine wp_seq (X_reg ?_)
  refine X_o K M ?_; clear K; intro a K
  refine wpList_nil (then_n (wp_seq (wp_seq (X_reg ?_))))
  refine X_o K M ?_; clear K; intro a K
  refine wpList_nil (then_n (wp_block ?_))
  refine X_lp (id := 0) (Rel := fun (i : Int) a w => Kn a 20 [(0, .string (bs b)), (3, I i)] ∧ Mem w0.heap.size w0 w []) h (fun _ _ => rfl) ⟨K.pick [0,3], M.pick [] (by decide)⟩ ?_ ?_
  · clear K M h
    rintro i6 a w ⟨K, M⟩ h
    try dsimp only at h
    refine inb_e ?_
    refine then_n (wp_seq (X_reg ?_))
    refine X_o K M ?_; clear K; intro a K
    refine wpList_nil (then_n (wp_ret ?_))
    cases h
    exact ret1 K rfl (res_tmp K rfl) ⟨_, rfl, rfl, ((M).pick [] (by decide))⟩
  clear K M h
  rintro kk fuel i a w hk1 ⟨K, M⟩ h
  unfold D_darkslideref_IsRow_l1 at h
  refine wp_seq (wp_seq (X_reg ?_))
  refine X_o K M ?_; clear K
  refine Y_o M ?_
  refine Y_r (fun _ K => rd_lenT rfl st9 K rfl) M ?_
  refine Y_o M ?_; intro a K
  refine wpList_nil (then_n ?_)
  refine X_cond K rfl (fun hb => ?_) (fun hb => ?_)
  · have h := ctrue hb h
    refine wp_skip (then_n (wp_seq (wp_block (wp_seq (X_reg ?_)))))
    refine X_o K M ?_; clear K
    refine Y_o M ?_
    obtain ⟨b4, h_b4, h⟩ := obind h
    refine Y_r (fun _ K => rd_ixT rfl st9 K rfl rfl h_b4) M ?_
    iterate 2 (refine Y_o M ?_)
    intro a K
    rcases Bool.eq_false_or_eq_true (!decide ((b4.toNat : Int) = 48)) with hb | hb
    · have h := ctrue hb h
      have K := K.reb (s := 14) rfl hb
      refine X_o K M ?_; clear K
      refine Y_o M ?_
      obtain ⟨b5, h_b5, h⟩ := obind h
      refine Y_r (fun _ K => rd_ixT rfl st9 K rfl rfl h_b5) M ?_
      iterate 2 (refine Y_o M ?_)
      intro a K
      refine wpList_nil (then_n ?_)
      refine X_cond K rfl (fun hb => ?_) (fun hb => ?_)
      · have h := ctrue hb h
        refine wp_seq (X_reg ?_)
        refine X_o K M ?_; clear K; intro a K
        refine wpList_nil (then_n (wp_ret (inb_r (then_r (then_r (inb_r (then_r ?_)))))))
        cases h
        exact ret1 K rfl (res_tmp K rfl) ⟨_, rfl, rfl, ((M).pick [] (by decide))⟩
      have h := cfalse hb h
      refine wp_skip (inb_n (then_n (X_reg ?_)))
      refine X_o K M ?_; clear K
      refine Y_o M ?_
      obtain ⟨i4, hx, h⟩ := olet h
      refine Y_r (fun _ K => rdi hx (rd_assign rfl K rfl)) M ?_; intro a K
      refine wpList_nil ?_
      exact then_n ⟨i4, ⟨K.pick [0,3], M.pick [] (by decide)⟩, h⟩
    have h := cfalse hb h
    have K := K.reb (s := 14) rfl hb
    refine X_o K M ?_; clear K
    iterate 4 (refine Y_o M ?_)
    intro a K
    refine wpList_nil (then_n ?_)
    refine X_condF K rfl ?_
    refine wp_skip (inb_n (then_n (X_reg ?_)))
    refine X_o K M ?_; clear K
    refine Y_o M ?_
    obtain ⟨i5, hx, h⟩ := olet h
    refine Y_r (fun _ K => rdi hx (rd_assign rfl K rfl)) M ?_; intro a K
    refine wpList_nil ?_
    exact then_n ⟨i5, ⟨K.pick [0,3], M.pick [] (by decide)⟩, h⟩
  have h := cfalse hb h
  refine wp_exit ?_
  refine then_e ?_
  exact then_e (hk1 i _ _ ⟨K.pick [0,3], M.pick [] (by decide)⟩ h)
end Go.Proofs.YtpmnfhifmmfglabDoor

namespace Go.Proofs.YtpmnfhifmmfglabDoor
open Go.RowKit
set_option maxRecDepth 100000 in
set_option maxHeartbeats 4000000 in
theorem W_darkslideref_Number_r (N : Nat) : ∀ (fu : Nat) (n : Int) (size : Int) (w0 : World)  (r : List UInt8) (h : D_darkslideref_Number_r N fu n size = some r),
    Calls Tryd.prog 14 #[I n, I size] w0 fun e w' => ∃ v, e = .returned v ∧ v = .string (bs r) ∧ Mem w0.heap.size w0 w' [] := by
  intro fu
  induction fu with
  | zero => intros; rename_i h; unfold D_darkslideref_Number_r at h; cases h
  | succ fu ih =>
    intro n size w0 r h
    refine X_enter Tryd.func14 rfl Tryd.ntmps14 rfl ?_
    intro a K
    have M := Mem.start w0
    have K : Kn a 19 [(0, I n), (1, I size)] := K
    unfold D_darkslideref_Number_r at h
    refine wp_seq (X_reg ?_)
    refine X_o K M ?_; clear K; intro a K
    refine wpList_nil (then_n (wp_seq (wp_seq (X_reg ?_))))
    refine X_o K M ?_; clear K
    refine Y_o M ?_; intro a K
    refine wpList_nil (then_n ?_)
    refine X_cond K rfl (fun hb => ?_) (fun hb => ?_)
    · have h := ctrue hb h
      refine wp_seq (X_reg ?_)
      refine X_o K M ?_; clear K; intro a K
      refine wpList_nil (then_n (wp_ret (then_r ?_)))
      cases h
      exact ret1 K rfl (res_tmp K rfl) ⟨_, rfl, rfl, ((M).pick [] (by decide))⟩
    have h := cfalse hb h
    refine wp_skip (then_n (wp_seq ?_))
    refine wp_region_tr (fun w => Mem _ _ w _) [0,0,0,0,1,0,0,0,0,1,1,0,0] 13 [0,1,2,3,4,5,6,7,8,9,10,11,12] (by kernel_rfl) (by kernel_rfl) (by kernel_rfl) rfl M.drew ?_
    replace M := M.drew
    refine R_rd 0 [1,2,3,4,5,6,7,8,9,10,11,12] (by kernel_rfl) rfl K (want_no rfl) rfl rfl (rd_move rfl K rfl) ?_; clear K; intro a K
    refine R_rd 1 [2,3,4,5,6,7,8,9,10,11,12] (by kernel_rfl) rfl K (want_no rfl) rfl rfl (rd_quo rfl K rfl rfl (by decide)) ?_; clear K; intro a K
    refine R_rd 2 [3,4,5,6,7,8,9,10,11,12] (by kernel_rfl) rfl K (want_no rfl) rfl rfl (rd_move rfl K rfl) ?_; clear K; intro a K
    refine R_rd 3 [4,5,6,7,8,9,10,11,12] (by kernel_rfl) rfl K (want_no rfl) rfl rfl (rd_sub rfl K rfl rfl) ?_; clear K; intro a K
    refine R_rd 5 [4,6,7,8,9,10,11,12] (by kernel_rfl) rfl K (want_no rfl) rfl rfl (rd_move rfl K rfl) ?_; clear K; intro a K
    refine R_rd 6 [4,7,8,9,10,11,12] (by kernel_rfl) rfl K (want_no rfl) rfl rfl (rd_rem rfl K rfl rfl (by decide)) ?_; clear K; intro a K
    refine R_rd 7 [4,8,9,10,11,12] (by kernel_rfl) rfl K (want_no rfl) rfl rfl (rd_conv rfl rfl ik5 K rfl) ?_; clear K; intro a K
    refine R_rd 8 [4,9,10,11,12] (by kernel_rfl) rfl K (want_no rfl) rfl rfl (rd_add rfl K rfl rfl) ?_; clear K; intro a K
    refine R_br [4,9] (by kernel_rfl) ⟨?_, ?_, trivial⟩
    ·
      obtain ⟨r2, h_r2, h⟩ := obind h
      refine R_ac [9,10,11,12] (by kernel_rfl) rfl K (want_no rfl) rfl rfl (ac_call (vs := [I (IntKind.i64.wrap (Int.tdiv n 2)), I (IntKind.i64.wrap (size - 1))]) (cap := []) rfl fok14 K rfl rfl (ih (IntKind.i64.wrap (Int.tdiv n 2)) (IntKind.i64.wrap (size - 1)) _  r2 h_r2)) ?_
      have M0 := M; clear K M; rintro _ a w ⟨rfl, M⟩ K
      replace M := M0.call M; clear M0
      refine ⟨fun _ => M.pick [] (by decide), ?_⟩
      refine R_br [9] (by kernel_rfl) ⟨?_, trivial⟩
      refine R_ac [10,11,12] (by kernel_rfl) rfl K (want_no rfl) rfl rfl (ac_bslice rfl sl50 z5 K (vs := [(0, .int .u8 (IntKind.u8.wrap (48 + (IntKind.u8.wrap (Int.tmod n 2)))))]) (cs := [.int .u8 (IntKind.u8.wrap (48 + (IntKind.u8.wrap (Int.tmod n 2))))]) rfl (by kernel_rfl) rfl rfl M) ?_
      have M0 := M; clear K M; rintro _ a w ⟨gs, rfl, M⟩ K
      replace M := M.asRow 0 rfl (cI .u8) ([IntKind.u8.wrap (48 + (IntKind.u8.wrap (Int.tmod n 2)))] : List Int) (n := 1) rfl rfl rfl
      clear M0
      refine ⟨fun _ => M.pick [] (by decide), ?_⟩
      refine R_br [10] (by kernel_rfl) ⟨?_, trivial⟩
      refine R_ac [11,12] (by kernel_rfl) rfl K (want_no rfl) rfl rfl (ac_convBS rfl sl50 ik5 st9 K rfl M ((inR (C := (cI .u8)) 0 rfl rfl) _ M)) ?_
      clear K M; rintro _ a w ⟨rfl, M⟩ K
      refine ⟨fun _ => M.pick [] (by decide), ?_⟩
      obtain ⟨s, h_s, h⟩ := obind h
      refine R_rd 11 [12] (by kernel_rfl) rfl K (want_no rfl) rfl rfl (rd_addS rfl K rfl rfl h_s) ?_; clear K; intro a K
      refine R_rd 12 [] (by kernel_rfl) rfl K (want_no rfl) rfl rfl (rd_assign rfl K rfl) ?_; clear K; intro a K
      refine R_end ?_
      refine then_n (wp_ret ?_)
      cases h
      exact ret1 K rfl (res_tmp K rfl) ⟨_, rfl, rfl, ((M).pick [] (by decide))⟩
    ·
      refine R_ac [4,10,11,12] (by kernel_rfl) rfl K (want_no rfl) rfl rfl (ac_bslice rfl sl50 z5 K (vs := [(0, .int .u8 (IntKind.u8.wrap (48 + (IntKind.u8.wrap (Int.tmod n 2)))))]) (cs := [.int .u8 (IntKind.u8.wrap (48 + (IntKind.u8.wrap (Int.tmod n 2))))]) rfl (by kernel_rfl) rfl rfl M) ?_
      have M0 := M; clear K M; rintro _ a w ⟨gs2, rfl, M⟩ K
      replace M := M.asRow 0 rfl (cI .u8) ([IntKind.u8.wrap (48 + (IntKind.u8.wrap (Int.tmod n 2)))] : List Int) (n := 1) rfl rfl rfl
      clear M0
      refine ⟨fun _ => M.pick [] (by decide), ?_⟩
      refine R_br [4,10] (by kernel_rfl) ⟨?_, ?_, trivial⟩
      ·
        obtain ⟨r3, h_r3, h⟩ := obind h
        refine R_ac [10,11,12] (by kernel_rfl) rfl K (want_no rfl) rfl rfl (ac_call (vs := [I (IntKind.i64.wrap (Int.tdiv n 2)), I (IntKind.i64.wrap (size - 1))]) (cap := []) rfl fok14 K rfl rfl (ih (IntKind.i64.wrap (Int.tdiv n 2)) (IntKind.i64.wrap (size - 1)) _  r3 h_r3)) ?_
        have M0 := M; clear K M; rintro _ a w ⟨rfl, M⟩ K
        replace M := M0.call M; clear M0
        refine ⟨fun _ => M.pick [] (by decide), ?_⟩
        refine R_br [10] (by kernel_rfl) ⟨?_, trivial⟩
        refine R_ac [11,12] (by kernel_rfl) rfl K (want_no rfl) rfl rfl (ac_convBS rfl sl50 ik5 st9 K rfl M ((inR (C := (cI .u8)) 0 rfl rfl) _ M)) ?_
        clear K M; rintro _ a w ⟨rfl, M⟩ K
        refine ⟨fun _ => M.pick [] (by decide), ?_⟩
        obtain ⟨s2, h_s2, h⟩ := obind h
        refine R_rd 11 [12] (by kernel_rfl) rfl K (want_no rfl) rfl rfl (rd_addS rfl K rfl rfl h_s2) ?_; clear K; intro a K
        refine R_rd 12 [] (by kernel_rfl) rfl K (want_no rfl) rfl rfl (rd_assign rfl K rfl) ?_; clear K; intro a K
        refine R_end ?_
        refine then_n (wp_ret ?_)
        cases h
        exact ret1 K rfl (res_tmp K rfl) ⟨_, rfl, rfl, ((M).pick [] (by decide))⟩
      ·
        refine R_ac [4,11,12] (by kernel_rfl) rfl K (want_no rfl) rfl rfl (ac_convBS rfl sl50 ik5 st9 K rfl M ((inR (C := (cI .u8)) 0 rfl rfl) _ M)) ?_
        clear K M; rintro _ a w ⟨rfl, M⟩ K
        refine ⟨fun _ => M.pick [] (by decide), ?_⟩
        refine R_br [4] (by kernel_rfl) ⟨?_, trivial⟩
        obtain ⟨r4, h_r4, h⟩ := obind h
        refine R_ac [11,12] (by kernel_rfl) rfl K (want_no rfl) rfl rfl (ac_call (vs := [I (IntKind.i64.wrap (Int.tdiv n 2)), I (IntKind.i64.wrap (size - 1))]) (cap := []) rfl fok14 K rfl rfl (ih (IntKind.i64.wrap (Int.tdiv n 2)) (IntKind.i64.wrap (size - 1)) _  r4 h_r4)) ?_
        have M0 := M; clear K M; rintro _ a w ⟨rfl, M⟩ K
        replace M := M0.call M; clear M0
        refine ⟨fun _ => M.pick [] (by decide), ?_⟩
        obtain ⟨s3, h_s3, h⟩ := obind h
        refine R_rd 11 [12] (by kernel_rfl) rfl K (want_no rfl) rfl rfl (rd_addS rfl K rfl rfl h_s3) ?_; clear K; intro a K
        refine R_rd 12 [] (by kernel_rfl) rfl K (want_no rfl) rfl rfl (rd_assign rfl K rfl) ?_; clear K; intro a K
        refine R_end ?_
        refine then_n (wp_ret ?_)
        cases h
        exact ret1 K rfl (res_tmp K rfl) ⟨_, rfl, rfl, ((M).pick [] (by decide))⟩
theorem W_darkslideref_Number (N : Nat) (n : Int) (size : Int) (w0 : World)  (r : List UInt8) (h : D_darkslideref_Number N n size = some r) :
    Calls Tryd.prog 14 #[I n, I size] w0 fun e w' => ∃ v, e = .returned v ∧ v = .string (bs r) ∧ Mem w0.heap.size w0 w' [] := W_darkslideref_Number_r N N n size w0 r h
end Go.Proofs.YtpmnfhifmmfglabDoor

namespace Go.Proofs.YtpmnfhifmmfglabDoor
open Go.RowKit
set_option maxRecDepth 100000 in
set_option maxHeartbeats 4000000 in
theorem W_darkslideref_within (N : Nat) (n : Int) (low : Int) (high : Int) (w0 : World)  (r : Bool) (h : D_darkslideref_within N n low high = some r) :
    Calls Tryd.prog 32 #[I n, I low, I high] w0 fun e w' => ∃ v, e = .returned v ∧ v = .bool r ∧ Mem w0.heap.size w0 w' [] := by
  refine X_enter Tryd.func32 rfl Tryd.ntmps32 rfl ?_
  intro a K
  have M := Mem.start w0
  have K : Kn a 15 [(0, I n), (1, I low), (2, I high)] := K
  unfold D_darkslideref_within at h
  refine wp_seq (X_reg ?_)
  refine X_o K M ?_; clear K; intro a K
  refine wpList_nil (then_n (wp_seq (X_reg ?_)))
  refine X_o K M ?_; clear K
  iterate 3 (refine Y_o M ?_)
  intro a K
  rcases Bool.eq_false_or_eq_true (decide (low ≤ n)) with hb | hb
  · have h := ctrue hb h
    have K := K.reb (s := 10) rfl hb
    refine X_o K M ?_; clear K
    iterate 4 (refine Y_o M ?_)
    intro a K
    refine wpList_nil (then_n (wp_ret ?_))
    cases h
    exact ret1 K rfl (res_tmp K rfl) ⟨_, rfl, rfl, ((M).pick [] (by decide))⟩
  have h := cfalse hb h
  have K := K.reb (s := 10) rfl hb
  refine X_o K M ?_; clear K
  iterate 4 (refine Y_o M ?_)
  intro a K
  refine wpList_nil (then_n (wp_ret ?_))
  cases h
  exact ret1 K rfl (res_tmp K rfl) ⟨_, rfl, rfl, ((M).pick [] (by decide))⟩
end Go.Proofs.YtpmnfhifmmfglabDoor

namespace Go.Proofs.YtpmnfhifmmfglabDoor
open Go.RowKit
set_option maxRecDepth 100000 in
set_option maxHeartbeats 4000000 in
theorem W_darkslideref_NumberError (N : Nat) (n : Int) (size : Int) (w0 : World)  (r : Int) (h : D_darkslideref_NumberError N n size = some r) :
    Calls Tryd.prog 13 #[I n, I size] w0 fun e w' => ∃ v, e = .returned v ∧ v = I r ∧ Mem w0.heap.size w0 w' [] := by
  refine X_enter Tryd.func13 rfl Tryd.ntmps13 rfl ?_
  intro a K
  have M := Mem.start w0
  have K : Kn a 16 [(0, I n), (1, I size)] := K
  unfold D_darkslideref_NumberError at h
  refine wp_seq (X_reg ?_)
  refine X_o K M ?_; clear K; intro a K
  refine wpList_nil (then_n (wp_seq (wp_seq (X_reg ?_))))
  refine X_o K M ?_; clear K; intro a K
  obtain ⟨r2, h_r2, h⟩ := obind h
  refine X_a K (ac_call (vs := [I size, I 0, I 16]) (cap := []) rfl fok32 K rfl rfl (W_darkslideref_within N size 0 16 _  r2 h_r2)) ?_
  have M0 := M; clear K M; rintro _ a w ⟨rfl, M⟩ K
  replace M := M0.call M; clear M0
  refine X_o K M ?_; clear K
  refine Y_o M ?_; intro a K
  rcases Bool.eq_false_or_eq_true (!(r2)) with hb | hb
  · have h := ctrue hb h
    have K := K.reb (s := 8) rfl hb
    refine X_o K M ?_; clear K
    iterate 6 (refine Y_o M ?_)
    intro a K
    refine wpList_nil (then_n ?_)
    refine X_condT K rfl ?_
    refine wp_seq (X_reg ?_)
    refine X_o K M ?_; clear K; intro a K
    refine wpList_nil (then_n (wp_ret (then_r ?_)))
    cases h
    exact ret1 K rfl (res_tmp K rfl) ⟨_, rfl, rfl, ((M).pick [] (by decide))⟩
  have h := cfalse hb h
  have K := K.reb (s := 8) rfl hb
  refine X_o K M ?_; clear K
  refine Y_o M ?_; intro a K
  obtain ⟨_, h0, h⟩ := obind h
  have h0 := nn_spec h0
  refine X_r K (rd_shl rfl K rfl rfl h0) M ?_; clear K
  refine Y_o M ?_; intro a K
  obtain ⟨r3, h_r3, h⟩ := obind h
  refine X_a K (ac_call (vs := [I n, I 0, I (IntKind.i64.wrap ((shlI .i64 1 size) - 1))]) (cap := []) rfl fok32 K rfl rfl (W_darkslideref_within N n 0 (IntKind.i64.wrap ((shlI .i64 1 size) - 1)) _  r3 h_r3)) ?_
  have M0 := M; clear K M; rintro _ a w ⟨rfl, M⟩ K
  replace M := M0.call M; clear M0
  refine X_o K M ?_; clear K
  refine Y_o M ?_; intro a K
  refine wpList_nil (then_n ?_)
  refine X_cond K rfl (fun hb => ?_) (fun hb => ?_)
  · have h := ctrue hb h
    refine wp_seq (X_reg ?_)
    refine X_o K M ?_; clear K; intro a K
    refine wpList_nil (then_n (wp_ret (then_r ?_)))
    cases h
    exact ret1 K rfl (res_tmp K rfl) ⟨_, rfl, rfl, ((M).pick [] (by decide))⟩
  have h := cfalse hb h
  refine wp_skip (then_n (wp_seq (X_reg ?_)))
  refine X_o K M ?_; clear K; intro a K
  refine wpList_nil (then_n (wp_ret ?_))
  cases h
  exact ret1 K rfl (res_tmp K rfl) ⟨_, rfl, rfl, ((M).pick [] (by decide))⟩
end Go.Proofs.YtpmnfhifmmfglabDoor

namespace Go.Proofs.YtpmnfhifmmfglabDoor
open Go.RowKit
set_option maxRecDepth 100000 in
set_option maxHeartbeats 4000000 in
theorem W_darkslideref_Row (N : Nat) (s : List UInt8) (w0 : World)  (r : List UInt8) (h : D_darkslideref_Row N s = some r) :
    Calls Tryd.prog 17 #[.string (bs s)] w0 fun e w' => ∃ v, e = .returned v ∧ v = .string (bs r) ∧ Mem w0.heap.size w0 w' [] := by
  refine X_enter Tryd.func17 rfl Tryd.ntmps17 rfl ?_
  intro a K
  have M := Mem.start w0
  have K : Kn a 32 [(0, .string (bs s))] := K
  unfold D_darkslideref_Row at h
  refine wp_seq (X_reg ?_)
  refine X_o K M ?_; clear K; intro a K
  refine wpList_nil (then_n (wp_seq (X_reg ?_)))
  refine X_o K M ?_; clear K
  refine Y_r (fun _ K => rd_lenT rfl st9 K rfl) M ?_
  refine Y_o M ?_; intro a K
  obtain ⟨_, h0, h⟩ := obind h
  have h0 := mok_spec h0
  refine X_a K (ac_make0 (C := (cI .u8)) rfl sl50 rfl (by rw [z5]; rfl) rfl K rfl rfl M h0) ?_
  clear K M; rintro _ a w ⟨A, c, rfl, M⟩ K
  refine X_o K M ?_; clear K; intro a K
  refine wpList_nil (then_n (wp_seq (wp_seq (X_reg ?_))))
  refine X_o K M ?_; clear K; intro a K
  refine wpList_nil (then_n (wp_block ?_))
  refine X_lp (id := 0) (Rel := fun (⟨l2, i⟩ : List Int × Int) a w => ∃ (A2 : Option Addr) (c2 : Nat), Kn a 32 [(0, .string (bs s)), (3, .slice A2 l2.length c2), (4, I i)] ∧ Mem w0.heap.size w0 w [.row 5 1 A2 l2.length c2 ((cI .u8).all l2)]) h (fun _ _ => rfl) ⟨A, c, K.pick [0,3,4], M.pick [0] (by decide)⟩ ?_ ?_
  · clear K M h
    rintro ⟨l9, i4⟩ a w ⟨A9, c9, K, M⟩ h
    try dsimp only at h
    refine inb_e ?_
    refine then_n (wp_seq (X_reg ?_))
    refine X_o K M ?_; clear K
    refine Y_r (fun _ K => rd_convBS rfl sl50 ik5 st9 K rfl (inR (C := (cI .u8)) 0 rfl rfl)) M ?_
    refine Y_o M ?_; intro a K
    refine wpList_nil (then_n (wp_ret ?_))
    cases h
    exact ret1 K rfl (res_tmp K rfl) ⟨_, rfl, rfl, ((M).pick [] (by decide))⟩
  clear K M h
  rintro kk fuel ⟨l2, i⟩ a w hk1 ⟨A2, c2, K, M⟩ h
  unfold D_darkslideref_Row_l1 at h
  refine wp_seq (wp_seq (X_reg ?_))
  refine X_o K M ?_; clear K
  refine Y_o M ?_
  refine Y_r (fun _ K => rd_lenT rfl st9 K rfl) M ?_
  refine Y_o M ?_; intro a K
  refine wpList_nil (then_n ?_)
  refine X_cond K rfl (fun hb => ?_) (fun hb => ?_)
  · have h := ctrue hb h
    refine wp_skip (then_n (wp_seq (wp_block (wp_seq (X_reg ?_)))))
    refine X_o K M ?_; clear K; intro a K
    refine wpList_nil (then_n (wp_block ?_))
    refine X_lp (id := 2) (Rel := fun (⟨l5, k3⟩ : List Int × Int) a w => ∃ (A5 : Option Addr) (c5 : Nat), Kn a 32 [(0, .string (bs s)), (3, .slice A5 l5.length c5), (4, I i), (5, I k3)] ∧ Mem w0.heap.size w0 w [.row 5 1 A5 l5.length c5 ((cI .u8).all l5)]) h (fun _ _ => rfl) ⟨A2, c2, K.pick [0,3,4,5], M.pick [0] (by decide)⟩ ?_ ?_
    · clear K M h
      rintro ⟨l8, k6⟩ a w ⟨A8, c8, K, M⟩ h
      try dsimp only at h
      refine inb_e ?_
      refine inb_n (then_n (X_reg ?_))
      refine X_o K M ?_; clear K
      refine Y_o M ?_
      obtain ⟨i3, hx, h⟩ := olet h
      refine Y_r (fun _ K => rdi hx (rd_assign rfl K rfl)) M ?_; intro a K
      refine wpList_nil ?_
      exact then_n ⟨(l8, i3), ⟨A8, c8, K.pick [0,3,4], M.pick [0] (by decide)⟩, h⟩
    clear K M h
    rintro kk fuel ⟨l5, k3⟩ a w hk2 ⟨A5, c5, K, M⟩ h
    unfold D_darkslideref_Row_l2 at h
    refine wp_seq (wp_seq (X_reg ?_))
    refine X_o K M ?_; clear K
    refine Y_o M ?_; intro a K
    refine wpList_nil (then_n ?_)
    refine X_cond K rfl (fun hb => ?_) (fun hb => ?_)
    · have h := ctrue hb h
      refine wp_skip (then_n (wp_seq (wp_block (X_reg ?_))))
      refine X_o K M ?_; clear K
      iterate 2 (refine Y_o M ?_)
      obtain ⟨b3, h_b3, h⟩ := obind h
      refine Y_r (fun _ K => rd_ixT rfl st9 K rfl rfl h_b3) M ?_
      refine Y_o M ?_; intro a K
      obtain ⟨_, h0, h⟩ := obind h
      have h0 := nn_spec h0
      refine X_r K (rd_shr rfl K rfl rfl h0) M ?_; clear K
      iterate 2 (refine Y_o M ?_)
      intro a K
      refine X_a K (ac_bslice rfl sl50 z5 K (vs := [(0, .int .u8 (IntKind.u8.wrap (48 + (andI .u8 (shrI .u8 (b3.toNat : Int) k3) 1))))]) (cs := [.int .u8 (IntKind.u8.wrap (48 + (andI .u8 (shrI .u8 (b3.toNat : Int) k3) 1)))]) rfl (by kernel_rfl) rfl rfl M) ?_
      have M0 := M; clear K M; rintro _ a w ⟨gs3, rfl, M⟩ K
      replace M := M.asRow 0 rfl (cI .u8) ([IntKind.u8.wrap (48 + (andI .u8 (shrI .u8 (b3.toNat : Int) k3) 1))] : List Int) (n := 1) rfl rfl rfl
      clear M0
      obtain ⟨l7, h_l7, h⟩ := obind h
      refine X_a K (ac_app (C := (cI .u8)) (xs := l5) (ys := ([IntKind.u8.wrap (48 + (andI .u8 (shrI .u8 (b3.toNat : Int) k3) 1))] : List Int)) rfl sl50 rfl z5 rfl rfl K rfl rfl 1 M rfl ((inR (C := (cI .u8)) 0 rfl rfl) _ M) h_l7) ?_
      clear K M; rintro _ a w ⟨A7, c7, rfl, M⟩ K
      refine X_o K M ?_; clear K; intro a K
      refine wpList_nil (inb_n (then_n (X_reg ?_)))
      refine X_o K M ?_; clear K
      refine Y_o M ?_
      obtain ⟨k5, hx, h⟩ := olet h
      refine Y_r (fun _ K => rdi hx (rd_assign rfl K rfl)) M ?_; intro a K
      refine wpList_nil ?_
      exact then_n ⟨(l7, k5), ⟨A7, c7, K.pick [0,3,4,5], M.pick [1] (by decide)⟩, h⟩
    have h := cfalse hb h
    refine wp_exit ?_
    refine then_e ?_
    exact then_e (hk2 (l5, k3) _ _ ⟨A5, c5, K.pick [0,3,4,5], M.pick [0] (by decide)⟩ h)
  have h := cfalse hb h
  refine wp_exit ?_
  refine then_e ?_
  exact then_e (hk1 (l2, i) _ _ ⟨A2, c2, K.pick [0,3,4], M.pick [0] (by decide)⟩ h)
end Go.Proofs.YtpmnfhifmmfglabDoor

namespace Go.Proofs.YtpmnfhifmmfglabDoor
open Go.RowKit
set_option maxRecDepth 100000 in
set_option maxHeartbeats 4000000 in
theorem W_darkslideref_Value (N : Nat) (b : List UInt8) (w0 : World)  (r : Int) (h : D_darkslideref_Value N b = some r) :
    Calls Tryd.prog 10 #[.string (bs b)] w0 fun e w' => ∃ v, e = .returned v ∧ v = I r ∧ Mem w0.heap.size w0 w' [] := by
  refine X_enter Tryd.func10 rfl Tryd.ntmps10 rfl ?_
  intro a K
  have M := Mem.start w0
  have K : Kn a 20 [(0, .string (bs b))] := K
  unfold D_darkslideref_Value at h
  refine wp_seq (X_reg ?_)
  refine X_o K M ?_; clear K; intro a K
  refine wpList_nil (then_n (wp_seq (X_reg ?_)))
  refine X_o K M ?_; clear K; intro a K
  refine wpList_nil (then_n (wp_seq (wp_seq (X_reg ?_))))
  refine X_o K M ?_; clear K; intro a K
  refine wpList_nil (then_n (wp_block ?_))
  refine X_lp (id := 0) (Rel := fun (⟨n, i⟩ : Int × Int) a w => Kn a 20 [(0, .string (bs b)), (3, I n), (4, I i)] ∧ Mem w0.heap.size w0 w []) h (fun _ _ => rfl) ⟨K.pick [0,3,4], M.pick [] (by decide)⟩ ?_ ?_
  · clear K M h
    rintro ⟨n4, i4⟩ a w ⟨K, M⟩ h
    try dsimp only at h
    refine inb_e ?_
    refine then_n (wp_seq (X_reg ?_))
    refine X_o K M ?_; clear K
    refine Y_o M ?_; intro a K
    refine wpList_nil (then_n (wp_ret ?_))
    cases h
    exact ret1 K rfl (res_tmp K rfl) ⟨_, rfl, rfl, ((M).pick [] (by decide))⟩
  clear K M h
  rintro kk fuel ⟨n, i⟩ a w hk1 ⟨K, M⟩ h
  unfold D_darkslideref_Value_l1 at h
  refine wp_seq (wp_seq (X_reg ?_))
  refine X_o K M ?_; clear K
  refine Y_o M ?_
  refine Y_r (fun _ K => rd_lenT rfl st9 K rfl) M ?_
  refine Y_o M ?_; intro a K
  refine wpList_nil (then_n ?_)
  refine X_cond K rfl (fun hb => ?_) (fun hb => ?_)
  · have h := ctrue hb h
    refine wp_skip (then_n (wp_seq (wp_block (X_reg ?_))))
    refine X_o K M ?_; clear K
    iterate 3 (refine Y_o M ?_)
    obtain ⟨b3, h_b3, h⟩ := obind h
    refine Y_r (fun _ K => rd_ixT rfl st9 K rfl rfl h_b3) M ?_
    refine Y_o M ?_
    refine Y_r (fun _ K => rd_conv rfl rfl ik3 K rfl) M ?_
    refine Y_o M ?_
    obtain ⟨n3, hx, h⟩ := olet h
    refine Y_r (fun _ K => rdi hx (rd_assign rfl K rfl)) M ?_; intro a K
    refine wpList_nil (inb_n (then_n (X_reg ?_)))
    refine X_o K M ?_; clear K
    refine Y_o M ?_
    obtain ⟨i3, hx, h⟩ := olet h
    refine Y_r (fun _ K => rdi hx (rd_assign rfl K rfl)) M ?_; intro a K
    refine wpList_nil ?_
    exact then_n ⟨(n3, i3), ⟨K.pick [0,3,4], M.pick [] (by decide)⟩, h⟩
  have h := cfalse hb h
  refine wp_exit ?_
  refine then_e ?_
  exact then_e (hk1 (n, i) _ _ ⟨K.pick [0,3,4], M.pick [] (by decide)⟩ h)
end Go.Proofs.YtpmnfhifmmfglabDoor

namespace Go.Proofs.YtpmnfhifmmfglabDoor
open Go.RowKit
set_option maxRecDepth 100000 in
set_option maxHeartbeats 4000000 in
theorem W_darkslidelaw_BitsRows (N : Nat) (d : List UInt8) (o : List UInt8) (p2 : Int) (p3 : Int) (w0 : World)  (r : Bool) (h : D_darkslidelaw_BitsRows N d o p2 p3 = some r) :
    Calls Tryd.prog 3 #[.string (bs d), .string (bs o), I p2, I p3] w0 fun e w' => ∃ v, e = .returned v ∧ v = .bool r ∧ Mem w0.heap.size w0 w' [] := by
  refine X_enter Tryd.func3 rfl Tryd.ntmps3 rfl ?_
  intro a K
  have M := Mem.start w0
  have K : Kn a 92 [(0, .string (bs d)), (1, .string (bs o)), (2, I p2), (3, I p3)] := K
  unfold D_darkslidelaw_BitsRows at h
  refine wp_seq (X_reg ?_)
  refine X_o K M ?_; clear K; intro a K
  refine wpList_nil (then_n (wp_seq (X_reg ?_)))
  refine X_o K M ?_; clear K; intro a K
  obtain ⟨r2, h_r2, h⟩ := obind h
  refine X_a K (ac_call (vs := [.string (bs o)]) (cap := []) rfl fok7 K rfl rfl (W_bits_Bytes N o _  r2 h_r2)) ?_
  have M0 := M; clear K M; rintro _ a w ⟨rfl, M⟩ K
  replace M := M0.call M; clear M0
  refine X_o K M ?_; clear K
  iterate 4 (refine Y_o M ?_)
  intro a K
  refine wpList_nil (then_n (wp_seq (X_reg ?_)))
  refine X_o K M ?_; clear K
  refine Y_o M ?_; intro a K
  refine wpList_nil (then_n (wp_seq (X_reg ?_)))
  refine X_o K M ?_; clear K
  refine Y_o M ?_; intro a K
  refine wpList_nil (then_n (wp_seq (wp_seq (X_reg ?_))))
  refine X_o K M ?_; clear K; intro a K
  obtain ⟨r3, h_r3, h⟩ := obind h
  refine X_a K (ac_call (vs := [.string (bs o)]) (cap := []) rfl fok8 K rfl rfl (W_darkslideref_IsRow N o _  r3 h_r3)) ?_
  have M0 := M; clear K M; rintro _ a w ⟨rfl, M⟩ K
  replace M := M0.call M; clear M0
  refine wpList_nil (then_n ?_)
  refine X_join (Rel := fun (⟨i, i2, i3, i4⟩ : List UInt8 × Int × Int × Int) a w => Kn a 92 [(0, .string (bs d)), (1, .string (bs o)), (2, I p2), (3, I p3), (9, .string (bs r2.1)), (10, I r2.2), (11, .string (bs i)), (12, I i2), (13, I i3), (14, I i4)] ∧ Mem w0.heap.size w0 w []) h ?_ ?_
  · clear K M h
    rintro ⟨i5, i6, i7, i8⟩ a w ⟨K, M⟩ h
    try dsimp only at h
    refine then_n (wp_seq (X_reg ?_))
    refine X_o K M ?_; clear K; intro a K
    obtain ⟨r6, h_r6, h⟩ := obind h
    refine X_a K (ac_call (vs := [.string (bs o)]) (cap := []) rfl fok11 K rfl rfl (W_bits_Value N o _  r6 h_r6)) ?_
    have M0 := M; clear K M; rintro _ a w ⟨rfl, M⟩ K
    replace M := M0.call M; clear M0
    refine X_o K M ?_; clear K
    iterate 4 (refine Y_o M ?_)
    intro a K
    refine wpList_nil (then_n (wp_seq (X_reg ?_)))
    refine X_o K M ?_; clear K
    refine Y_o M ?_; intro a K
    obtain ⟨r7, h_r7, h⟩ := obind h
    refine X_a K (ac_call (vs := [I p2, I p3]) (cap := []) rfl fok12 K rfl rfl (W_bits_Number N p2 p3 _  r7 h_r7)) ?_
    have M0 := M; clear K M; rintro _ a w ⟨rfl, M⟩ K
    replace M := M0.call M; clear M0
    refine X_o K M ?_; clear K
    iterate 4 (refine Y_o M ?_)
    intro a K
    refine wpList_nil (then_n (wp_seq (X_reg ?_)))
    refine X_o K M ?_; clear K
    refine Y_o M ?_; intro a K
    obtain ⟨r8, h_r8, h⟩ := obind h
    refine X_a K (ac_call (vs := [I p2, I p3]) (cap := []) rfl fok13 K rfl rfl (W_darkslideref_NumberError N p2 p3 _  r8 h_r8)) ?_
    have M0 := M; clear K M; rintro _ a w ⟨rfl, M⟩ K
    replace M := M0.call M; clear M0
    refine X_o K M ?_; clear K
    refine Y_o M ?_; intro a K
    refine wpList_nil (then_n (wp_seq (wp_seq (X_reg ?_))))
    refine X_o K M ?_; clear K
    refine Y_o M ?_; intro a K
    refine wpList_nil (then_n ?_)
    refine X_join (Rel := fun (i13 : List UInt8) a w => Kn a 92 [(0, .string (bs d)), (9, .string (bs r2.1)), (10, I r2.2), (11, .string (bs i5)), (12, I i6), (13, I i7), (14, I i8), (15, I r6.1), (16, I r6.2), (17, .string (bs r7.1)), (18, I r7.2), (19, .string (bs i13)), (20, I r8)] ∧ Mem w0.heap.size w0 w []) h ?_ ?_
    · clear K M h
      rintro i14 a w ⟨K, M⟩ h
      try dsimp only at h
      refine then_n (wp_seq ?_)
      refine X_join (Rel := fun (i15 : Bool) a w => Kn a 92 [(8, .bool i15)] ∧ Mem w0.heap.size w0 w []) h ?_ ?_
      · clear K M h
        rintro i16 a w ⟨K, M⟩ h
        try dsimp only at h
        refine then_n (wp_ret ?_)
        cases h
        exact ret1 K rfl (res_tmp K rfl) ⟨_, rfl, rfl, ((M).pick [] (by decide))⟩
      clear h; rintro kk_darkslidelaw_BitsRows_j4 hj4 h
      unfold D_darkslidelaw_BitsRows_j4 at h
      refine X_reg ?_
      obtain ⟨r10, h_r10, h⟩ := obind h
      refine X_a K (ac_call (vs := []) (cap := []) rfl fok15 K rfl rfl (W_darkslidelaw_bitsBegun N  _  r10 h_r10)) ?_
      have M0 := M; clear K M; rintro _ a w ⟨rfl, M⟩ K
      replace M := M0.call M; clear M0
      refine X_o K M ?_; clear K; intro a K
      rcases Bool.eq_false_or_eq_true (r10) with hb | hb
      · have h := ctrue hb h
        have K := K.reb (s := 55) rfl hb
        refine X_o K M ?_; clear K; intro a K
        obtain ⟨r11, h_r11, h⟩ := obind h
        refine X_a K (ac_call (vs := [.string (bs d)]) (cap := []) rfl fok16 K rfl rfl (W_bits_Bits N d _  r11 h_r11)) ?_
        have M0 := M; clear K M; rintro _ a w ⟨rfl, M⟩ K
        replace M := M0.call M; clear M0
        refine X_o K M ?_; clear K; intro a K
        obtain ⟨r12, h_r12, h⟩ := obind h
        refine X_a K (ac_call (vs := [.string (bs d)]) (cap := []) rfl fok17 K rfl rfl (W_darkslideref_Row N d _  r12 h_r12)) ?_
        have M0 := M; clear K M; rintro _ a w ⟨rfl, M⟩ K
        replace M := M0.call M; clear M0
        refine X_r K (rd_eqlS rfl K rfl rfl) M ?_; clear K
        iterate 2 (refine Y_o M ?_)
        intro a K
        rcases Bool.eq_false_or_eq_true (decide (r11 = r12)) with hb | hb
        · have h := ctrue hb h
          have K := K.reb (s := 62) rfl hb
          refine X_o K M ?_; clear K
          refine Y_o M ?_
          refine Y_r (fun _ K => rd_eqlS rfl K rfl rfl) M ?_
          iterate 2 (refine Y_o M ?_)
          intro a K
          rcases Bool.eq_false_or_eq_true (decide (r2.1 = i5)) with hb | hb
          · have h := ctrue hb h
            have K := K.reb (s := 67) rfl hb
            refine X_o K M ?_; clear K
            iterate 4 (refine Y_o M ?_)
            intro a K
            rcases Bool.eq_false_or_eq_true (decide (r2.2 = i6)) with hb | hb
            · have h := ctrue hb h
              have K := K.reb (s := 72) rfl hb
              refine X_o K M ?_; clear K
              iterate 4 (refine Y_o M ?_)
              intro a K
              rcases Bool.eq_false_or_eq_true (decide (r6.1 = i7)) with hb | hb
              · have h := ctrue hb h
                have K := K.reb (s := 77) rfl hb
                refine X_o K M ?_; clear K
                iterate 4 (refine Y_o M ?_)
                intro a K
                rcases Bool.eq_false_or_eq_true (decide (r6.2 = i8)) with hb | hb
                · have h := ctrue hb h
                  have K := K.reb (s := 82) rfl hb
                  refine X_o K M ?_; clear K
                  refine Y_o M ?_
                  refine Y_r (fun _ K => rd_eqlS rfl K rfl rfl) M ?_
                  iterate 2 (refine Y_o M ?_)
                  intro a K
                  rcases Bool.eq_false_or_eq_true (decide (r7.1 = i14)) with hb | hb
                  · have h := ctrue hb h
                    have K := K.reb (s := 87) rfl hb
                    refine X_o K M ?_; clear K
                    iterate 4 (refine Y_o M ?_)
                    intro a K
                    refine wpList_nil ?_
                    exact hj4 (decide (r7.2 = r8)) _ _ ⟨K.pick [8], M.pick [] (by decide)⟩ h
                  have h := cfalse hb h
                  have K := K.reb (s := 87) rfl hb
                  refine X_o K M ?_; clear K
                  iterate 4 (refine Y_o M ?_)
                  intro a K
                  refine wpList_nil ?_
                  exact hj4 false _ _ ⟨K.pick [8], M.pick [] (by decide)⟩ h
                have h := cfalse hb h
                have K := K.reb (s := 82) rfl hb
                refine X_o K M ?_; clear K
                iterate 9 (refine Y_o M ?_)
                intro a K
                refine wpList_nil ?_
                exact hj4 false _ _ ⟨K.pick [8], M.pick [] (by decide)⟩ h
              have h := cfalse hb h
              have K := K.reb (s := 77) rfl hb
              refine X_o K M ?_; clear K
              iterate 14 (refine Y_o M ?_)
              intro a K
              refine wpList_nil ?_
              exact hj4 false _ _ ⟨K.pick [8], M.pick [] (by decide)⟩ h
            have h := cfalse hb h
            have K := K.reb (s := 72) rfl hb
            refine X_o K M ?_; clear K
            iterate 19 (refine Y_o M ?_)
            intro a K
            refine wpList_nil ?_
            exact hj4 false _ _ ⟨K.pick [8], M.pick [] (by decide)⟩ h
          have h := cfalse hb h
          have K := K.reb (s := 67) rfl hb
          refine X_o K M ?_; clear K
          iterate 24 (refine Y_o M ?_)
          intro a K
          refine wpList_nil ?_
          exact hj4 false _ _ ⟨K.pick [8], M.pick [] (by decide)⟩ h
        have h := cfalse hb h
        have K := K.reb (s := 62) rfl hb
        refine X_o K M ?_; clear K
        iterate 29 (refine Y_o M ?_)
        intro a K
        refine wpList_nil ?_
        exact hj4 false _ _ ⟨K.pick [8], M.pick [] (by decide)⟩ h
      have h := cfalse hb h
      have K := K.reb (s := 55) rfl hb
      refine X_o K M ?_; clear K
      iterate 36 (refine Y_o M ?_)
      intro a K
      refine wpList_nil ?_
      exact hj4 false _ _ ⟨K.pick [8], M.pick [] (by decide)⟩ h
    clear h; rintro kk_darkslidelaw_BitsRows_j3 hj3 h
    unfold D_darkslidelaw_BitsRows_j3 at h
    refine X_cond K rfl (fun hb => ?_) (fun hb => ?_)
    · have h := ctrue hb h
      refine X_reg ?_
      refine X_o K M ?_; clear K
      refine Y_o M ?_; intro a K
      obtain ⟨r9, h_r9, h⟩ := obind h
      refine X_a K (ac_call (vs := [I p2, I p3]) (cap := []) rfl fok14 K rfl rfl (W_darkslideref_Number N p2 p3 _  r9 h_r9)) ?_
      have M0 := M; clear K M; rintro _ a w ⟨rfl, M⟩ K
      replace M := M0.call M; clear M0
      refine X_o K M ?_; clear K; intro a K
      refine wpList_nil ?_
      exact hj3 r9 _ _ ⟨K.pick [0,9,10,11,12,13,14,15,16,17,18,19,20], M.pick [] (by decide)⟩ h
    have h := cfalse hb h
    refine wp_skip ?_
    exact hj3 ([] : List UInt8) _ _ ⟨K.pick [0,9,10,11,12,13,14,15,16,17,18,19,20], M.pick [] (by decide)⟩ h
  clear h; rintro kk_darkslidelaw_BitsRows_j1 hj1 h
  unfold D_darkslidelaw_BitsRows_j1 at h
  refine X_cond K rfl (fun hb => ?_) (fun hb => ?_)
  · have h := ctrue hb h
    refine wp_seq (X_reg ?_)
    refine X_o K M ?_; clear K; intro a K
    obtain ⟨r4, h_r4, h⟩ := obind h
    refine X_a K (ac_call (vs := [.string (bs o)]) (cap := []) rfl fok9 K rfl rfl (W_darkslideref_Bytes N o _  r4 h_r4)) ?_
    have M0 := M; clear K M; rintro _ a w ⟨rfl, M⟩ K
    replace M := M0.call M; clear M0
    refine X_o K M ?_; clear K
    refine Y_o M ?_; intro a K
    refine wpList_nil (then_n (wp_seq (X_reg ?_)))
    refine X_o K M ?_; clear K; intro a K
    refine wpList_nil (then_n (wp_seq (X_reg ?_)))
    refine X_o K M ?_; clear K
    refine Y_r (fun _ K => rd_lenT rfl st9 K rfl) M ?_
    refine Y_o M ?_; intro a K
    refine wpList_nil (then_n ?_)
    refine X_join (Rel := fun (⟨i9, i10⟩ : Int × Int) a w => Kn a 92 [(0, .string (bs d)), (1, .string (bs o)), (2, I p2), (3, I p3), (9, .string (bs r2.1)), (10, I r2.2), (11, .string (bs r4)), (12, I 0), (13, I i9), (14, I i10)] ∧ Mem w0.heap.size w0 w []) h ?_ ?_
    · clear K M h
      rintro ⟨i11, i12⟩ a w ⟨K, M⟩ h
      try dsimp only at h
      exact hj1 (r4, 0, i11, i12) _ _ ⟨K.pick [0,1,2,3,9,10,11,12,13,14], M.pick [] (by decide)⟩ h
    clear h; rintro kk_darkslidelaw_BitsRows_j2 hj2 h
    unfold D_darkslidelaw_BitsRows_j2 at h
    refine X_cond K rfl (fun hb => ?_) (fun hb => ?_)
    · have h := ctrue hb h
      refine X_reg ?_
      refine X_o K M ?_; clear K; intro a K
      obtain ⟨r5, h_r5, h⟩ := obind h
      refine X_a K (ac_call (vs := [.string (bs o)]) (cap := []) rfl fok10 K rfl rfl (W_darkslideref_Value N o _  r5 h_r5)) ?_
      have M0 := M; clear K M; rintro _ a w ⟨rfl, M⟩ K
      replace M := M0.call M; clear M0
      refine X_o K M ?_; clear K
      refine Y_o M ?_; intro a K
      refine wpList_nil ?_
      exact hj2 (r5, 0) _ _ ⟨K.pick [0,1,2,3,9,10,11,12,13,14], M.pick [] (by decide)⟩ h
    have h := cfalse hb h
    refine wp_skip ?_
    exact hj2 (0, 3) _ _ ⟨K.pick [0,1,2,3,9,10,11,12,13,14], M.pick [] (by decide)⟩ h
  have h := cfalse hb h
  refine wp_skip ?_
  exact hj1 (([] : List UInt8), 1, 0, 1) _ _ ⟨K.pick [0,1,2,3,9,10,11,12,13,14], M.pick [] (by decide)⟩ h
end Go.Proofs.YtpmnfhifmmfglabDoor
