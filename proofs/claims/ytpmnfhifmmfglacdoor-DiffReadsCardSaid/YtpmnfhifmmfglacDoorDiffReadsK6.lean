/- Texts of the claim DiffReads, joined: WRefRow, WRefValue, WRefNumber, WRefWordsof, WRefBytes, WRefClassof, WRefDifference, WRefDifferences, WRefMore, WRefPlanefine, WRefWritediff, WRefReaddiff, WLawDiffreads. -/
import Derived.Test.YtpmnfhifmmfglacDoorDiffReadsK2
import Derived.Test.YtpmnfhifmmfglacDoorDiffReadsK4
import Derived.Test.YtpmnfhifmmfglacDoorDiffReadsK5
set_option linter.unusedVariables false
set_option linter.unusedSimpArgs false
set_option linter.unusedSectionVars false
namespace Go.Proofs.YtpmnfhifmmfglacDoor
open Go.RowKit
set_option maxRecDepth 100000 in
set_option maxHeartbeats 4000000 in
theorem W_darkslideref_Row (N : Nat) (s : List UInt8) (w0 : World)  (r : List UInt8) (h : D_darkslideref_Row N s = some r) :
    Calls Tryd.prog 58 #[.string (bs s)] w0 fun e w' => ∃ v, e = .returned v ∧ v = .string (bs r) ∧ Mem w0.heap.size w0 w' [] := by
  refine X_enter Tryd.func58 rfl Tryd.ntmps58 rfl ?_
  intro a K
  have M := Mem.start w0
  have K : Kn a 32 [(0, .string (bs s))] := K
  unfold D_darkslideref_Row at h
  refine wp_seq (X_reg ?_)
  refine X_o K M ?_; clear K; intro a K
  refine wpList_nil (then_n (wp_seq (X_reg ?_)))
  refine X_o K M ?_; clear K
  refine Y_r (fun _ K => rd_lenT rfl st9 K rfl) M ?_
  refine Y_o M ?_; intro a K
  obtain ⟨_, h0, h⟩ := obind h
  have h0 := mok_spec h0
  refine X_a K (ac_make0 (C := (cI .u8)) rfl sl52 rfl (by rw [z5]; rfl) rfl K rfl rfl M h0) ?_
  clear K M; rintro _ a w ⟨A, c, rfl, M⟩ K
  refine X_o K M ?_; clear K; intro a K
  refine wpList_nil (then_n (wp_seq (wp_seq (X_reg ?_))))
  refine X_o K M ?_; clear K; intro a K
  refine wpList_nil (then_n (wp_block ?_))
  refine X_lp (id := 0) (Rel := fun (⟨l2, i⟩ : List Int × Int) a w => ∃ (A2 : Option Addr) (c2 : Nat), Kn a 32 [(0, .string (bs s)), (3, .slice A2 l2.length c2), (4, I i)] ∧ Mem w0.heap.size w0 w [.row 5 1 A2 l2.length c2 ((cI .u8).all l2)]) h (fun _ _ => rfl) ⟨A, c, K.pick [0,3,4], M.pick [0] (by decide)⟩ ?_ ?_
  · clear K M h
    rintro ⟨l9, i4⟩ a w ⟨A9, c9, K, M⟩ h
    try dsimp only at h
    refine inb_e ?_
    refine then_n (wp_seq (X_reg ?_))
    refine X_o K M ?_; clear K
    refine Y_r (fun _ K => rd_convBS rfl sl52 ik5 st9 K rfl (inR (C := (cI .u8)) 0 rfl rfl)) M ?_
    refine Y_o M ?_; intro a K
    refine wpList_nil (then_n (wp_ret ?_))
    cases h
    exact ret1 K rfl (res_tmp K rfl) ⟨_, rfl, rfl, ((M).pick [] (by decide))⟩
  clear K M h
  rintro kk fuel ⟨l2, i⟩ a w hk1 ⟨A2, c2, K, M⟩ h
  unfold D_darkslideref_Row_l1 at h
  refine wp_seq (wp_seq (X_reg ?_))
  refine X_o K M ?_; clear K
  refine Y_o M ?_
  refine Y_r (fun _ K => rd_lenT rfl st9 K rfl) M ?_
  refine Y_o M ?_; intro a K
  refine wpList_nil (then_n ?_)
  refine X_cond K rfl (fun hb => ?_) (fun hb => ?_)
  · have h := ctrue hb h
    refine wp_skip (then_n (wp_seq (wp_block (wp_seq (X_reg ?_)))))
    refine X_o K M ?_; clear K; intro a K
    refine wpList_nil (then_n (wp_block ?_))
    refine X_lp (id := 2) (Rel := fun (⟨l5, k3⟩ : List Int × Int) a w => ∃ (A5 : Option Addr) (c5 : Nat), Kn a 32 [(0, .string (bs s)), (3, .slice A5 l5.length c5), (4, I i), (5, I k3)] ∧ Mem w0.heap.size w0 w [.row 5 1 A5 l5.length c5 ((cI .u8).all l5)]) h (fun _ _ => rfl) ⟨A2, c2, K.pick [0,3,4,5], M.pick [0] (by decide)⟩ ?_ ?_
    · clear K M h
      rintro ⟨l8, k6⟩ a w ⟨A8, c8, K, M⟩ h
      try dsimp only at h
      refine inb_e ?_
      refine inb_n (then_n (X_reg ?_))
      refine X_o K M ?_; clear K
      refine Y_o M ?_
      obtain ⟨i3, hx, h⟩ := olet h
      refine Y_r (fun _ K => rdi hx (rd_assign rfl K rfl)) M ?_; intro a K
      refine wpList_nil ?_
      exact then_n ⟨(l8, i3), ⟨A8, c8, K.pick [0,3,4], M.pick [0] (by decide)⟩, h⟩
    clear K M h
    rintro kk fuel ⟨l5, k3⟩ a w hk2 ⟨A5, c5, K, M⟩ h
    unfold D_darkslideref_Row_l2 at h
    refine wp_seq (wp_seq (X_reg ?_))
    refine X_o K M ?_; clear K
    refine Y_o M ?_; intro a K
    refine wpList_nil (then_n ?_)
    refine X_cond K rfl (fun hb => ?_) (fun hb => ?_)
    · have h := ctrue hb h
      refine wp_skip (then_n (wp_seq (wp_block (X_reg ?_))))
      refine X_o K M ?_; clear K
      iterate 2 (refine Y_o M ?_)
      obtain ⟨b3, h_b3, h⟩ := obind h
      refine Y_r (fun _ K => rd_ixT rfl st9 K rfl rfl h_b3) M ?_
      refine Y_o M ?_; intro a K
      obtain ⟨_, h0, h⟩ := obind h
      have h0 := nn_spec h0
      refine X_r K (rd_shr rfl K rfl rfl h0) M ?_; clear K
      iterate 2 (refine Y_o M ?_)
      intro a K
      refine X_a K (ac_bslice rfl sl52 z5 K (vs := [(0, .int .u8 (IntKind.u8.wrap (48 + (andI .u8 (shrI .u8 (b3.toNat : Int) k3) 1))))]) (cs := [.int .u8 (IntKind.u8.wrap (48 + (andI .u8 (shrI .u8 (b3.toNat : Int) k3) 1)))]) rfl (by kernel_rfl) rfl rfl M) ?_
      have M0 := M; clear K M; rintro _ a w ⟨gs3, rfl, M⟩ K
      replace M := M.asRow 0 rfl (cI .u8) ([IntKind.u8.wrap (48 + (andI .u8 (shrI .u8 (b3.toNat : Int) k3) 1))] : List Int) (n := 1) rfl rfl rfl
      clear M0
      obtain ⟨l7, h_l7, h⟩ := obind h
      refine X_a K (ac_app (C := (cI .u8)) (xs := l5) (ys := ([IntKind.u8.wrap (48 + (andI .u8 (shrI .u8 (b3.toNat : Int) k3) 1))] : List Int)) rfl sl52 rfl z5 rfl rfl K rfl rfl 1 M rfl ((inR (C := (cI .u8)) 0 rfl rfl) _ M) h_l7) ?_
      clear K M; rintro _ a w ⟨A7, c7, rfl, M⟩ K
      refine X_o K M ?_; clear K; intro a K
      refine wpList_nil (inb_n (then_n (X_reg ?_)))
      refine X_o K M ?_; clear K
      refine Y_o M ?_
      obtain ⟨k5, hx, h⟩ := olet h
      refine Y_r (fun _ K => rdi hx (rd_assign rfl K rfl)) M ?_; intro a K
      refine wpList_nil ?_
      exact then_n ⟨(l7, k5), ⟨A7, c7, K.pick [0,3,4,5], M.pick [1] (by decide)⟩, h⟩
    have h := cfalse hb h
    refine wp_exit ?_
    refine then_e ?_
    exact then_e (hk2 (l5, k3) _ _ ⟨A5, c5, K.pick [0,3,4,5], M.pick [0] (by decide)⟩ h)
  have h := cfalse hb h
  refine wp_exit ?_
  refine then_e ?_
  exact then_e (hk1 (l2, i) _ _ ⟨A2, c2, K.pick [0,3,4], M.pick [0] (by decide)⟩ h)
end Go.Proofs.YtpmnfhifmmfglacDoor

namespace Go.Proofs.YtpmnfhifmmfglacDoor
open Go.RowKit
set_option maxRecDepth 100000 in
set_option maxHeartbeats 4000000 in
theorem W_darkslideref_Value (N : Nat) (b : List UInt8) (w0 : World)  (r : Int) (h : D_darkslideref_Value N b = some r) :
    Calls Tryd.prog 59 #[.string (bs b)] w0 fun e w' => ∃ v, e = .returned v ∧ v = I r ∧ Mem w0.heap.size w0 w' [] := by
  refine X_enter Tryd.func59 rfl Tryd.ntmps59 rfl ?_
  intro a K
  have M := Mem.start w0
  have K : Kn a 20 [(0, .string (bs b))] := K
  unfold D_darkslideref_Value at h
  refine wp_seq (X_reg ?_)
  refine X_o K M ?_; clear K; intro a K
  refine wpList_nil (then_n (wp_seq (X_reg ?_)))
  refine X_o K M ?_; clear K; intro a K
  refine wpList_nil (then_n (wp_seq (wp_seq (X_reg ?_))))
  refine X_o K M ?_; clear K; intro a K
  refine wpList_nil (then_n (wp_block ?_))
  refine X_lp (id := 0) (Rel := fun (⟨n, i⟩ : Int × Int) a w => Kn a 20 [(0, .string (bs b)), (3, I n), (4, I i)] ∧ Mem w0.heap.size w0 w []) h (fun _ _ => rfl) ⟨K.pick [0,3,4], M.pick [] (by decide)⟩ ?_ ?_
  · clear K M h
    rintro ⟨n4, i4⟩ a w ⟨K, M⟩ h
    try dsimp only at h
    refine inb_e ?_
    refine then_n (wp_seq (X_reg ?_))
    refine X_o K M ?_; clear K
    refine Y_o M ?_; intro a K
    refine wpList_nil (then_n (wp_ret ?_))
    cases h
    exact ret1 K rfl (res_tmp K rfl) ⟨_, rfl, rfl, ((M).pick [] (by decide))⟩
  clear K M h
  rintro kk fuel ⟨n, i⟩ a w hk1 ⟨K, M⟩ h
  unfold D_darkslideref_Value_l1 at h
  refine wp_seq (wp_seq (X_reg ?_))
  refine X_o K M ?_; clear K
  refine Y_o M ?_
  refine Y_r (fun _ K => rd_lenT rfl st9 K rfl) M ?_
  refine Y_o M ?_; intro a K
  refine wpList_nil (then_n ?_)
  refine X_cond K rfl (fun hb => ?_) (fun hb => ?_)
  · have h := ctrue hb h
    refine wp_skip (then_n (wp_seq (wp_block (X_reg ?_))))
    refine X_o K M ?_; clear K
    iterate 3 (refine Y_o M ?_)
    obtain ⟨b3, h_b3, h⟩ := obind h
    refine Y_r (fun _ K => rd_ixT rfl st9 K rfl rfl h_b3) M ?_
    refine Y_o M ?_
    refine Y_r (fun _ K => rd_conv rfl rfl ik3 K rfl) M ?_
    refine Y_o M ?_
    obtain ⟨n3, hx, h⟩ := olet h
    refine Y_r (fun _ K => rdi hx (rd_assign rfl K rfl)) M ?_; intro a K
    refine wpList_nil (inb_n (then_n (X_reg ?_)))
    refine X_o K M ?_; clear K
    refine Y_o M ?_
    obtain ⟨i3, hx, h⟩ := olet h
    refine Y_r (fun _ K => rdi hx (rd_assign rfl K rfl)) M ?_; intro a K
    refine wpList_nil ?_
    exact then_n ⟨(n3, i3), ⟨K.pick [0,3,4], M.pick [] (by decide)⟩, h⟩
  have h := cfalse hb h
  refine wp_exit ?_
  refine then_e ?_
  exact then_e (hk1 (n, i) _ _ ⟨K.pick [0,3,4], M.pick [] (by decide)⟩ h)
end Go.Proofs.YtpmnfhifmmfglacDoor

namespace Go.Proofs.YtpmnfhifmmfglacDoor
open Go.RowKit
set_option maxRecDepth 100000 in
set_option maxHeartbeats 4000000 in
theorem W_darkslideref_Number_r (N : Nat) : ∀ (fu : Nat) (n : Int) (size : Int) (w0 : World)  (r : List UInt8) (h : D_darkslideref_Number_r N fu n size = some r),
    Calls Tryd.prog 61 #[I n, I size] w0 fun e w' => ∃ v, e = .returned v ∧ v = .string (bs r) ∧ Mem w0.heap.size w0 w' [] := by
  intro fu
  induction fu with
  | zero => intros; rename_i h; unfold D_darkslideref_Number_r at h; cases h
  | succ fu ih =>
    intro n size w0 r h
    refine X_enter Tryd.func61 rfl Tryd.ntmps61 rfl ?_
    intro a K
    have M := Mem.start w0
    have K : Kn a 19 [(0, I n), (1, I size)] := K
    unfold D_darkslideref_Number_r at h
    refine wp_seq (X_reg ?_)
    refine X_o K M ?_; clear K; intro a K
    refine wpList_nil (then_n (wp_seq (wp_seq (X_reg ?_))))
    refine X_o K M ?_; clear K
    refine Y_o M ?_; intro a K
    refine wpList_nil (then_n ?_)
    refine X_cond K rfl (fun hb => ?_) (fun hb => ?_)
    · have h := ctrue hb h
      refine wp_seq (X_reg ?_)
      refine X_o K M ?_; clear K; intro a K
      refine wpList_nil (then_n (wp_ret (then_r ?_)))
      cases h
      exact ret1 K rfl (res_tmp K rfl) ⟨_, rfl, rfl, ((M).pick [] (by decide))⟩
    have h := cfalse hb h
    refine wp_skip (then_n (wp_seq ?_))
    refine wp_region_tr (fun w => Mem _ _ w _) [0,0,0,0,1,0,0,0,0,1,1,0,0] 13 [0,1,2,3,4,5,6,7,8,9,10,11,12] (by kernel_rfl) (by kernel_rfl) (by kernel_rfl) rfl M.drew ?_
    replace M := M.drew
    refine R_rd 0 [1,2,3,4,5,6,7,8,9,10,11,12] (by kernel_rfl) rfl K (want_no rfl) rfl rfl (rd_move rfl K rfl) ?_; clear K; intro a K
    refine R_rd 1 [2,3,4,5,6,7,8,9,10,11,12] (by kernel_rfl) rfl K (want_no rfl) rfl rfl (rd_quo rfl K rfl rfl (by decide)) ?_; clear K; intro a K
    refine R_rd 2 [3,4,5,6,7,8,9,10,11,12] (by kernel_rfl) rfl K (want_no rfl) rfl rfl (rd_move rfl K rfl) ?_; clear K; intro a K
    refine R_rd 3 [4,5,6,7,8,9,10,11,12] (by kernel_rfl) rfl K (want_no rfl) rfl rfl (rd_sub rfl K rfl rfl) ?_; clear K; intro a K
    refine R_rd 5 [4,6,7,8,9,10,11,12] (by kernel_rfl) rfl K (want_no rfl) rfl rfl (rd_move rfl K rfl) ?_; clear K; intro a K
    refine R_rd 6 [4,7,8,9,10,11,12] (by kernel_rfl) rfl K (want_no rfl) rfl rfl (rd_rem rfl K rfl rfl (by decide)) ?_; clear K; intro a K
    refine R_rd 7 [4,8,9,10,11,12] (by kernel_rfl) rfl K (want_no rfl) rfl rfl (rd_conv rfl rfl ik5 K rfl) ?_; clear K; intro a K
    refine R_rd 8 [4,9,10,11,12] (by kernel_rfl) rfl K (want_no rfl) rfl rfl (rd_add rfl K rfl rfl) ?_; clear K; intro a K
    refine R_br [4,9] (by kernel_rfl) ⟨?_, ?_, trivial⟩
    ·
      obtain ⟨r2, h_r2, h⟩ := obind h
      refine R_ac [9,10,11,12] (by kernel_rfl) rfl K (want_no rfl) rfl rfl (ac_call (vs := [I (IntKind.i64.wrap (Int.tdiv n 2)), I (IntKind.i64.wrap (size - 1))]) (cap := []) rfl fok61 K rfl rfl (ih (IntKind.i64.wrap (Int.tdiv n 2)) (IntKind.i64.wrap (size - 1)) _  r2 h_r2)) ?_
      have M0 := M; clear K M; rintro _ a w ⟨rfl, M⟩ K
      replace M := M0.call M; clear M0
      refine ⟨fun _ => M.pick [] (by decide), ?_⟩
      refine R_br [9] (by kernel_rfl) ⟨?_, trivial⟩
      refine R_ac [10,11,12] (by kernel_rfl) rfl K (want_no rfl) rfl rfl (ac_bslice rfl sl52 z5 K (vs := [(0, .int .u8 (IntKind.u8.wrap (48 + (IntKind.u8.wrap (Int.tmod n 2)))))]) (cs := [.int .u8 (IntKind.u8.wrap (48 + (IntKind.u8.wrap (Int.tmod n 2))))]) rfl (by kernel_rfl) rfl rfl M) ?_
      have M0 := M; clear K M; rintro _ a w ⟨gs, rfl, M⟩ K
      replace M := M.asRow 0 rfl (cI .u8) ([IntKind.u8.wrap (48 + (IntKind.u8.wrap (Int.tmod n 2)))] : List Int) (n := 1) rfl rfl rfl
      clear M0
      refine ⟨fun _ => M.pick [] (by decide), ?_⟩
      refine R_br [10] (by kernel_rfl) ⟨?_, trivial⟩
      refine R_ac [11,12] (by kernel_rfl) rfl K (want_no rfl) rfl rfl (ac_convBS rfl sl52 ik5 st9 K rfl M ((inR (C := (cI .u8)) 0 rfl rfl) _ M)) ?_
      clear K M; rintro _ a w ⟨rfl, M⟩ K
      refine ⟨fun _ => M.pick [] (by decide), ?_⟩
      obtain ⟨s, h_s, h⟩ := obind h
      refine R_rd 11 [12] (by kernel_rfl) rfl K (want_no rfl) rfl rfl (rd_addS rfl K rfl rfl h_s) ?_; clear K; intro a K
      refine R_rd 12 [] (by kernel_rfl) rfl K (want_no rfl) rfl rfl (rd_assign rfl K rfl) ?_; clear K; intro a K
      refine R_end ?_
      refine then_n (wp_ret ?_)
      cases h
      exact ret1 K rfl (res_tmp K rfl) ⟨_, rfl, rfl, ((M).pick [] (by decide))⟩
    ·
      refine R_ac [4,10,11,12] (by kernel_rfl) rfl K (want_no rfl) rfl rfl (ac_bslice rfl sl52 z5 K (vs := [(0, .int .u8 (IntKind.u8.wrap (48 + (IntKind.u8.wrap (Int.tmod n 2)))))]) (cs := [.int .u8 (IntKind.u8.wrap (48 + (IntKind.u8.wrap (Int.tmod n 2))))]) rfl (by kernel_rfl) rfl rfl M) ?_
      have M0 := M; clear K M; rintro _ a w ⟨gs2, rfl, M⟩ K
      replace M := M.asRow 0 rfl (cI .u8) ([IntKind.u8.wrap (48 + (IntKind.u8.wrap (Int.tmod n 2)))] : List Int) (n := 1) rfl rfl rfl
      clear M0
      refine ⟨fun _ => M.pick [] (by decide), ?_⟩
      refine R_br [4,10] (by kernel_rfl) ⟨?_, ?_, trivial⟩
      ·
        obtain ⟨r3, h_r3, h⟩ := obind h
        refine R_ac [10,11,12] (by kernel_rfl) rfl K (want_no rfl) rfl rfl (ac_call (vs := [I (IntKind.i64.wrap (Int.tdiv n 2)), I (IntKind.i64.wrap (size - 1))]) (cap := []) rfl fok61 K rfl rfl (ih (IntKind.i64.wrap (Int.tdiv n 2)) (IntKind.i64.wrap (size - 1)) _  r3 h_r3)) ?_
        have M0 := M; clear K M; rintro _ a w ⟨rfl, M⟩ K
        replace M := M0.call M; clear M0
        refine ⟨fun _ => M.pick [] (by decide), ?_⟩
        refine R_br [10] (by kernel_rfl) ⟨?_, trivial⟩
        refine R_ac [11,12] (by kernel_rfl) rfl K (want_no rfl) rfl rfl (ac_convBS rfl sl52 ik5 st9 K rfl M ((inR (C := (cI .u8)) 0 rfl rfl) _ M)) ?_
        clear K M; rintro _ a w ⟨rfl, M⟩ K
        refine ⟨fun _ => M.pick [] (by decide), ?_⟩
        obtain ⟨s2, h_s2, h⟩ := obind h
        refine R_rd 11 [12] (by kernel_rfl) rfl K (want_no rfl) rfl rfl (rd_addS rfl K rfl rfl h_s2) ?_; clear K; intro a K
        refine R_rd 12 [] (by kernel_rfl) rfl K (want_no rfl) rfl rfl (rd_assign rfl K rfl) ?_; clear K; intro a K
        refine R_end ?_
        refine then_n (wp_ret ?_)
        cases h
        exact ret1 K rfl (res_tmp K rfl) ⟨_, rfl, rfl, ((M).pick [] (by decide))⟩
      ·
        refine R_ac [4,11,12] (by kernel_rfl) rfl K (want_no rfl) rfl rfl (ac_convBS rfl sl52 ik5 st9 K rfl M ((inR (C := (cI .u8)) 0 rfl rfl) _ M)) ?_
        clear K M; rintro _ a w ⟨rfl, M⟩ K
        refine ⟨fun _ => M.pick [] (by decide), ?_⟩
        refine R_br [4] (by kernel_rfl) ⟨?_, trivial⟩
        obtain ⟨r4, h_r4, h⟩ := obind h
        refine R_ac [11,12] (by kernel_rfl) rfl K (want_no rfl) rfl rfl (ac_call (vs := [I (IntKind.i64.wrap (Int.tdiv n 2)), I (IntKind.i64.wrap (size - 1))]) (cap := []) rfl fok61 K rfl rfl (ih (IntKind.i64.wrap (Int.tdiv n 2)) (IntKind.i64.wrap (size - 1)) _  r4 h_r4)) ?_
        have M0 := M; clear K M; rintro _ a w ⟨rfl, M⟩ K
        replace M := M0.call M; clear M0
        refine ⟨fun _ => M.pick [] (by decide), ?_⟩
        obtain ⟨s3, h_s3, h⟩ := obind h
        refine R_rd 11 [12] (by kernel_rfl) rfl K (want_no rfl) rfl rfl (rd_addS rfl K rfl rfl h_s3) ?_; clear K; intro a K
        refine R_rd 12 [] (by kernel_rfl) rfl K (want_no rfl) rfl rfl (rd_assign rfl K rfl) ?_; clear K; intro a K
        refine R_end ?_
        refine then_n (wp_ret ?_)
        cases h
        exact ret1 K rfl (res_tmp K rfl) ⟨_, rfl, rfl, ((M).pick [] (by decide))⟩
theorem W_darkslideref_Number (N : Nat) (n : Int) (size : Int) (w0 : World)  (r : List UInt8) (h : D_darkslideref_Number N n size = some r) :
    Calls Tryd.prog 61 #[I n, I size] w0 fun e w' => ∃ v, e = .returned v ∧ v = .string (bs r) ∧ Mem w0.heap.size w0 w' [] := W_darkslideref_Number_r N N n size w0 r h
end Go.Proofs.YtpmnfhifmmfglacDoor

namespace Go.Proofs.YtpmnfhifmmfglacDoor
open Go.RowKit
set_option maxRecDepth 100000 in
set_option maxHeartbeats 4000000 in
theorem W_darkslideref_WordsOf (N : Nat) (lens : List Int) (A_lens : Option Addr) (c_lens : Nat) (w0 : World) (R_lens : SL w0 (cI .i64) A_lens lens) (C_lens : lens.length ≤ c_lens) (r : List (List UInt8)) (h : D_darkslideref_WordsOf N lens = some r) :
    Calls Tryd.prog 30 #[.slice A_lens lens.length c_lens] w0 fun e w' => ∃ v, e = .returned v ∧ ∃ A0 c0, v = .slice A0 r.length c0 ∧ Mem w0.heap.size w0 w' [.row 9 1 A0 r.length c0 (cS.all r)] := by
  refine X_enter Tryd.func30 rfl Tryd.ntmps30 rfl ?_
  intro a K
  have M := Mem.start w0
  have K : Kn a 42 [(0, .slice A_lens lens.length c_lens)] := K
  unfold D_darkslideref_WordsOf at h
  refine wp_seq (X_reg ?_)
  refine X_o K M ?_; clear K; intro a K
  refine wpList_nil (then_n (wp_seq (X_reg ?_)))
  refine X_o K M ?_; clear K
  obtain ⟨x2, hx, h⟩ := olet h
  refine Y_r (fun _ K => rdi hx (rd_len rfl un22 K rfl)) M ?_; intro a K
  obtain ⟨l2, h_l2, h⟩ := obind h
  refine X_a K (ac_make (C := cS) (z := ([] : List UInt8)) rfl sl31 rfl z9 rfl K rfl rfl M h_l2) ?_
  clear K M; rintro _ a w ⟨A, c, rfl, M⟩ K
  refine X_o K M ?_; clear K; intro a K
  refine wpList_nil (then_n (wp_seq (X_reg ?_)))
  refine X_o K M ?_; clear K
  refine Y_o M ?_; intro a K
  refine wpList_nil (then_n (wp_seq (wp_seq (X_reg ?_))))
  refine X_o K M ?_; clear K; intro a K
  refine wpList_nil (then_n (wp_block ?_))
  refine X_lp (id := 0) (Rel := fun (⟨l3, next, last, size⟩ : List (List UInt8) × Int × Int × Int) a w => Kn a 42 [(0, .slice A_lens lens.length c_lens), (3, .slice A l3.length c), (4, I next), (5, I last), (6, I size)] ∧ Mem w0.heap.size w0 w [.row 9 1 A l3.length c (cS.all l3)]) h (fun _ _ => rfl) ⟨K.pick [0,3,4,5,6], M.pick [0] (by decide)⟩ ?_ ?_
  · clear K M h
    rintro ⟨l10, next11, last5, size4⟩ a w ⟨K, M⟩ h
    try dsimp only at h
    refine inb_e ?_
    refine then_n (wp_seq (X_reg ?_))
    refine X_o K M ?_; clear K
    refine Y_o M ?_; intro a K
    refine wpList_nil (then_n (wp_ret ?_))
    cases h
    exact ret1 K rfl (res_tmp K rfl) ⟨_, rfl, _, _, rfl, ((M).pick [0] (by decide))⟩
  clear K M h
  rintro kk fuel ⟨l3, next, last, size⟩ a w hk1 ⟨K, M⟩ h
  unfold D_darkslideref_WordsOf_l1 at h
  refine wp_seq (wp_seq (X_reg ?_))
  refine X_o K M ?_; clear K
  refine Y_o M ?_; intro a K
  refine wpList_nil (then_n ?_)
  refine X_cond K rfl (fun hb => ?_) (fun hb => ?_)
  · have h := ctrue hb h
    refine wp_skip (then_n (wp_seq (wp_block (wp_seq (X_reg ?_)))))
    refine X_o K M ?_; clear K; intro a K
    refine wpList_nil (then_n (wp_block ?_))
    refine X_lp (id := 2) (Rel := fun (⟨l6, next5, last3, i4⟩ : List (List UInt8) × Int × Int × Int) a w => Kn a 42 [(0, .slice A_lens lens.length c_lens), (3, .slice A l6.length c), (4, I next5), (5, I last3), (6, I size), (7, I i4)] ∧ Mem w0.heap.size w0 w [.row 9 1 A l6.length c (cS.all l6)]) h (fun _ _ => rfl) ⟨K.pick [0,3,4,5,6,7], M.pick [0] (by decide)⟩ ?_ ?_
    · clear K M h
      rintro ⟨l9, next10, last4, i9⟩ a w ⟨K, M⟩ h
      try dsimp only at h
      refine inb_e ?_
      refine inb_n (then_n (X_reg ?_))
      refine X_o K M ?_; clear K
      refine Y_o M ?_
      obtain ⟨size3, hx, h⟩ := olet h
      refine Y_r (fun _ K => rdi hx (rd_assign rfl K rfl)) M ?_; intro a K
      refine wpList_nil ?_
      exact then_n ⟨(l9, next10, last4, size3), ⟨K.pick [0,3,4,5,6], M.pick [0] (by decide)⟩, h⟩
    clear K M h
    rintro kk fuel ⟨l6, next5, last3, i4⟩ a w hk2 ⟨K, M⟩ h
    unfold D_darkslideref_WordsOf_l2 at h
    refine wp_seq (wp_seq (X_reg ?_))
    refine X_o K M ?_; clear K
    refine Y_o M ?_
    refine Y_r (fun _ K => rd_len rfl un22 K rfl) M ?_
    refine Y_o M ?_; intro a K
    refine wpList_nil (then_n ?_)
    refine X_cond K rfl (fun hb => ?_) (fun hb => ?_)
    · have h := ctrue hb h
      refine wp_skip (then_n (wp_seq (wp_block (wp_seq (wp_seq (X_reg ?_))))))
      refine X_o K M ?_; clear K
      refine Y_o M ?_
      obtain ⟨e5, h_e5, h⟩ := obind h
      refine Y_r (fun _ K => rd_ix rfl sl22 K rfl rfl (inA R_lens) h_e5) M ?_
      refine Y_r (fun _ K => rd_elC rfl sc3 K rfl rfl (inA R_lens) h_e5 rfl) M ?_
      iterate 2 (refine Y_o M ?_)
      intro a K
      refine wpList_nil (then_n ?_)
      refine X_cond K rfl (fun hb => ?_) (fun hb => ?_)
      · have h := ctrue hb h
        refine wp_exit ?_
        refine then_e ?_
        refine inb_e ?_
        refine then_n (X_reg ?_)
        refine X_o K M ?_; clear K
        refine Y_o M ?_
        obtain ⟨i7, hx, h⟩ := olet h
        refine Y_r (fun _ K => rdi hx (rd_assign rfl K rfl)) M ?_; intro a K
        refine wpList_nil ?_
        exact then_n ⟨(l6, next5, last3, i7), ⟨K.pick [0,3,4,5,6,7], M.pick [0] (by decide)⟩, h⟩
      have h := cfalse hb h
      refine wp_skip (then_n (wp_seq (X_reg ?_)))
      refine X_o K M ?_; clear K
      iterate 3 (refine Y_o M ?_)
      intro a K
      obtain ⟨_, h0, h⟩ := obind h
      have h0 := nn_spec h0
      refine X_r K (rd_shl rfl K rfl rfl h0) M ?_; clear K
      obtain ⟨next8, hx, h⟩ := olet h
      refine Y_r (fun _ K => rdi hx (rd_assign rfl K rfl)) M ?_; intro a K
      refine wpList_nil (then_n (wp_seq (X_reg ?_)))
      refine X_o K M ?_; clear K
      refine Y_o M ?_; intro a K
      refine wpList_nil (then_n (wp_seq (X_reg ?_)))
      refine X_o K M ?_; clear K
      iterate 3 (refine Y_o M ?_)
      intro a K
      obtain ⟨r4, h_r4, h⟩ := obind h
      refine X_a K (ac_call (vs := [I next8, I size]) (cap := []) rfl fok61 K rfl rfl (W_darkslideref_Number N next8 size _  r4 h_r4)) ?_
      have M0 := M; clear K M; rintro _ a w ⟨rfl, M⟩ K
      replace M := M0.call M; clear M0
      obtain ⟨e6, h_e6, h⟩ := obind h
      refine X_r K (rd_ix rfl sl31 K rfl rfl (inR (C := cS) 0 rfl rfl) h_e6) M ?_; clear K; intro a K
      obtain ⟨l8, h_l8, h⟩ := obind h
      refine X_b K (ac_rowset (el := r4) rfl sz9 rfl rfl K rfl rfl rfl 0 M rfl h_l8) ?_
      have M0 := M; clear K M; rintro _ a w M K
      have hl := setL_len h_l8
      try rw [hl] at M
      try rw [hl] at K
      clear hl
      clear M0
      refine wpList_nil (then_n (X_reg ?_))
      refine X_o K M ?_; clear K
      refine Y_o M ?_
      obtain ⟨next9, hx, h⟩ := olet h
      refine Y_r (fun _ K => rdi hx (rd_assign rfl K rfl)) M ?_; intro a K
      refine wpList_nil (inb_n (then_n (X_reg ?_)))
      refine X_o K M ?_; clear K
      refine Y_o M ?_
      obtain ⟨i8, hx, h⟩ := olet h
      refine Y_r (fun _ K => rdi hx (rd_assign rfl K rfl)) M ?_; intro a K
      refine wpList_nil ?_
      exact then_n ⟨(l8, next9, size, i8), ⟨K.pick [0,3,4,5,6,7], M.pick [0] (by decide)⟩, h⟩
    have h := cfalse hb h
    refine wp_exit ?_
    refine then_e ?_
    exact then_e (hk2 (l6, next5, last3, i4) _ _ ⟨K.pick [0,3,4,5,6,7], M.pick [0] (by decide)⟩ h)
  have h := cfalse hb h
  refine wp_exit ?_
  refine then_e ?_
  exact then_e (hk1 (l3, next, last, size) _ _ ⟨K.pick [0,3,4,5,6], M.pick [0] (by decide)⟩ h)
end Go.Proofs.YtpmnfhifmmfglacDoor

namespace Go.Proofs.YtpmnfhifmmfglacDoor
open Go.RowKit
set_option maxRecDepth 100000 in
set_option maxHeartbeats 4000000 in
theorem W_darkslideref_Bytes (N : Nat) (b : List UInt8) (w0 : World)  (r : List UInt8) (h : D_darkslideref_Bytes N b = some r) :
    Calls Tryd.prog 52 #[.string (bs b)] w0 fun e w' => ∃ v, e = .returned v ∧ v = .string (bs r) ∧ Mem w0.heap.size w0 w' [] := by
  refine X_enter Tryd.func52 rfl Tryd.ntmps52 rfl ?_
  intro a K
  have M := Mem.start w0
  have K : Kn a 46 [(0, .string (bs b))] := K
  unfold D_darkslideref_Bytes at h
  refine wp_seq (X_reg ?_)
  refine X_o K M ?_; clear K; intro a K
  refine wpList_nil (then_n (wp_seq (X_reg ?_)))
  refine X_o K M ?_; clear K
  refine Y_r (fun _ K => rd_lenT rfl st9 K rfl) M ?_
  refine Y_r (fun _ K => rd_quo rfl K rfl rfl (by decide)) M ?_
  refine Y_o M ?_; intro a K
  obtain ⟨_, h0, h⟩ := obind h
  have h0 := mok_spec h0
  refine X_a K (ac_make0 (C := (cI .u8)) rfl sl52 rfl (by rw [z5]; rfl) rfl K rfl rfl M h0) ?_
  clear K M; rintro _ a w ⟨A, c, rfl, M⟩ K
  refine X_o K M ?_; clear K; intro a K
  refine wpList_nil (then_n (wp_seq (wp_seq (X_reg ?_))))
  refine X_o K M ?_; clear K; intro a K
  refine wpList_nil (then_n (wp_block ?_))
  refine X_lp (id := 0) (Rel := fun (⟨l2, i⟩ : List Int × Int) a w => ∃ (A2 : Option Addr) (c2 : Nat), Kn a 46 [(0, .string (bs b)), (3, .slice A2 l2.length c2), (4, I i)] ∧ Mem w0.heap.size w0 w [.row 5 1 A2 l2.length c2 ((cI .u8).all l2)]) h (fun _ _ => rfl) ⟨A, c, K.pick [0,3,4], M.pick [0] (by decide)⟩ ?_ ?_
  · clear K M h
    rintro ⟨l5, i4⟩ a w ⟨A5, c5, K, M⟩ h
    try dsimp only at h
    refine inb_e ?_
    refine then_n (wp_seq (X_reg ?_))
    refine X_o K M ?_; clear K
    refine Y_r (fun _ K => rd_convBS rfl sl52 ik5 st9 K rfl (inR (C := (cI .u8)) 0 rfl rfl)) M ?_
    refine Y_o M ?_; intro a K
    refine wpList_nil (then_n (wp_ret ?_))
    cases h
    exact ret1 K rfl (res_tmp K rfl) ⟨_, rfl, rfl, ((M).pick [] (by decide))⟩
  clear K M h
  rintro kk fuel ⟨l2, i⟩ a w hk1 ⟨A2, c2, K, M⟩ h
  unfold D_darkslideref_Bytes_l1 at h
  refine wp_seq (wp_seq (X_reg ?_))
  refine X_o K M ?_; clear K
  refine Y_o M ?_
  refine Y_r (fun _ K => rd_lenT rfl st9 K rfl) M ?_
  refine Y_o M ?_; intro a K
  refine wpList_nil (then_n ?_)
  refine X_cond K rfl (fun hb => ?_) (fun hb => ?_)
  · have h := ctrue hb h
    refine wp_skip (then_n (wp_seq (wp_block (wp_seq (X_reg ?_)))))
    refine X_o K M ?_; clear K; intro a K
    refine wpList_nil (then_n (wp_seq (wp_seq (X_reg ?_))))
    refine X_o K M ?_; clear K
    refine Y_o M ?_; intro a K
    refine wpList_nil (then_n (wp_block ?_))
    refine X_lp (id := 2) (Rel := fun (⟨n4, k5⟩ : Int × Int) a w => Kn a 46 [(0, .string (bs b)), (3, .slice A2 l2.length c2), (4, I i), (5, I n4), (6, I k5)] ∧ Mem w0.heap.size w0 w [.row 5 1 A2 l2.length c2 ((cI .u8).all l2)]) h (fun _ _ => rfl) ⟨K.pick [0,3,4,5,6], M.pick [0] (by decide)⟩ ?_ ?_
    · clear K M h
      rintro ⟨n9, k12⟩ a w ⟨K, M⟩ h
      try dsimp only at h
      refine inb_e ?_
      refine then_n (X_reg ?_)
      refine X_o K M ?_; clear K
      refine Y_o M ?_
      refine Y_r (fun _ K => rd_conv rfl rfl ik5 K rfl) M ?_; intro a K
      refine X_a K (ac_bslice rfl sl52 z5 K (vs := [(0, .int .u8 (IntKind.u8.wrap n9))]) (cs := [.int .u8 (IntKind.u8.wrap n9)]) rfl (by kernel_rfl) rfl rfl M) ?_
      have M0 := M; clear K M; rintro _ a w ⟨gs2, rfl, M⟩ K
      replace M := M.asRow 0 rfl (cI .u8) ([IntKind.u8.wrap n9] : List Int) (n := 1) rfl rfl rfl
      clear M0
      obtain ⟨l4, h_l4, h⟩ := obind h
      refine X_a K (ac_app (C := (cI .u8)) (xs := l2) (ys := ([IntKind.u8.wrap n9] : List Int)) rfl sl52 rfl z5 rfl rfl K rfl rfl 1 M rfl ((inR (C := (cI .u8)) 0 rfl rfl) _ M) h_l4) ?_
      clear K M; rintro _ a w ⟨A4, c4, rfl, M⟩ K
      refine X_o K M ?_; clear K; intro a K
      refine wpList_nil (inb_n (then_n (X_reg ?_)))
      refine X_o K M ?_; clear K
      refine Y_o M ?_
      obtain ⟨i3, hx, h⟩ := olet h
      refine Y_r (fun _ K => rdi hx (rd_assign rfl K rfl)) M ?_; intro a K
      refine wpList_nil ?_
      exact then_n ⟨(l4, i3), ⟨A4, c4, K.pick [0,3,4], M.pick [1] (by decide)⟩, h⟩
    clear K M h
    rintro kk fuel ⟨n4, k5⟩ a w hk2 ⟨K, M⟩ h
    unfold D_darkslideref_Bytes_l2 at h
    refine wp_seq (wp_seq (X_reg ?_))
    refine X_o K M ?_; clear K
    iterate 3 (refine Y_o M ?_)
    intro a K
    refine wpList_nil (then_n ?_)
    refine X_cond K rfl (fun hb => ?_) (fun hb => ?_)
    · have h := ctrue hb h
      refine wp_skip (then_n (wp_seq (wp_block (wp_seq (X_reg ?_)))))
      refine X_o K M ?_; clear K
      refine Y_o M ?_
      obtain ⟨n7, hx, h⟩ := olet h
      refine Y_r (fun _ K => rdi hx (rd_assign rfl K rfl)) M ?_; intro a K
      refine wpList_nil (then_n (wp_seq (X_reg ?_)))
      refine X_o K M ?_; clear K
      refine Y_o M ?_
      refine Y_r (fun _ K => rd_lenT rfl st9 K rfl) M ?_
      iterate 2 (refine Y_o M ?_)
      intro a K
      rcases Bool.eq_false_or_eq_true (decide (k5 < (b.length : Int))) with hb | hb
      · have h := ctrue hb h
        have K := K.reb (s := 31) rfl hb
        refine X_o K M ?_; clear K
        refine Y_o M ?_
        obtain ⟨b4, h_b4, h⟩ := obind h
        refine Y_r (fun _ K => rd_ixT rfl st9 K rfl rfl h_b4) M ?_
        iterate 2 (refine Y_o M ?_)
        intro a K
        refine wpList_nil (then_n ?_)
        refine X_cond K rfl (fun hb => ?_) (fun hb => ?_)
        · have h := ctrue hb h
          refine X_reg ?_
          refine X_o K M ?_; clear K
          refine Y_o M ?_
          obtain ⟨n8, hx, h⟩ := olet h
          refine Y_r (fun _ K => rdi hx (rd_assign rfl K rfl)) M ?_; intro a K
          refine wpList_nil (inb_n (then_n (X_reg ?_)))
          refine X_o K M ?_; clear K
          refine Y_o M ?_
          obtain ⟨k9, hx, h⟩ := olet h
          refine Y_r (fun _ K => rdi hx (rd_assign rfl K rfl)) M ?_; intro a K
          refine wpList_nil ?_
          exact then_n ⟨(n8, k9), ⟨K.pick [0,3,4,5,6], M.pick [0] (by decide)⟩, h⟩
        have h := cfalse hb h
        refine wp_skip (inb_n (then_n (X_reg ?_)))
        refine X_o K M ?_; clear K
        refine Y_o M ?_
        obtain ⟨k10, hx, h⟩ := olet h
        refine Y_r (fun _ K => rdi hx (rd_assign rfl K rfl)) M ?_; intro a K
        refine wpList_nil ?_
        exact then_n ⟨(n7, k10), ⟨K.pick [0,3,4,5,6], M.pick [0] (by decide)⟩, h⟩
      have h := cfalse hb h
      have K := K.reb (s := 31) rfl hb
      refine X_o K M ?_; clear K
      iterate 4 (refine Y_o M ?_)
      intro a K
      refine wpList_nil (then_n ?_)
      refine X_condF K rfl ?_
      refine wp_skip (inb_n (then_n (X_reg ?_)))
      refine X_o K M ?_; clear K
      refine Y_o M ?_
      obtain ⟨k11, hx, h⟩ := olet h
      refine Y_r (fun _ K => rdi hx (rd_assign rfl K rfl)) M ?_; intro a K
      refine wpList_nil ?_
      exact then_n ⟨(n7, k11), ⟨K.pick [0,3,4,5,6], M.pick [0] (by decide)⟩, h⟩
    have h := cfalse hb h
    refine wp_exit ?_
    refine then_e ?_
    exact then_e (hk2 (n4, k5) _ _ ⟨K.pick [0,3,4,5,6], M.pick [0] (by decide)⟩ h)
  have h := cfalse hb h
  refine wp_exit ?_
  refine then_e ?_
  exact then_e (hk1 (l2, i) _ _ ⟨A2, c2, K.pick [0,3,4], M.pick [0] (by decide)⟩ h)
end Go.Proofs.YtpmnfhifmmfglacDoor

namespace Go.Proofs.YtpmnfhifmmfglacDoor
open Go.RowKit
set_option maxRecDepth 100000 in
set_option maxHeartbeats 4000000 in
theorem W_darkslideref_classOf (N : Nat) (d : Int) (w0 : World)  (r : Int) (h : D_darkslideref_classOf N d = some r) :
    Calls Tryd.prog 50 #[I d] w0 fun e w' => ∃ v, e = .returned v ∧ v = I r ∧ Mem w0.heap.size w0 w' [] := by
  refine X_enter Tryd.func50 rfl Tryd.ntmps50 rfl ?_
  intro a K
  have M := Mem.start w0
  have K : Kn a 16 [(0, I d)] := K
  unfold D_darkslideref_classOf at h
  refine wp_seq (X_reg ?_)
  refine X_o K M ?_; clear K; intro a K
  refine wpList_nil (then_n (wp_seq (X_reg ?_)))
  refine X_o K M ?_; clear K; intro a K
  refine wpList_nil (then_n (wp_seq (wp_seq (X_reg ?_))))
  refine X_o K M ?_; clear K
  refine Y_o M ?_
  refine Y_r (fun _ K => rd_neg rfl K rfl) M ?_
  refine Y_o M ?_
  obtain ⟨k, hx, h⟩ := olet h
  refine Y_r (fun _ K => rdi hx (rd_assign rfl K rfl)) M ?_; intro a K
  refine wpList_nil (then_n (wp_block ?_))
  refine X_lp (id := 0) (Rel := fun (⟨n, k2⟩ : Int × Int) a w => Kn a 16 [(3, I n), (4, I k2)] ∧ Mem w0.heap.size w0 w []) h (fun _ _ => rfl) ⟨K.pick [3,4], M.pick [] (by decide)⟩ ?_ ?_
  · clear K M h
    rintro ⟨n4, k5⟩ a w ⟨K, M⟩ h
    try dsimp only at h
    refine inb_e ?_
    refine then_n (wp_seq (X_reg ?_))
    refine X_o K M ?_; clear K
    refine Y_o M ?_; intro a K
    refine wpList_nil (then_n (wp_ret ?_))
    cases h
    exact ret1 K rfl (res_tmp K rfl) ⟨_, rfl, rfl, ((M).pick [] (by decide))⟩
  clear K M h
  rintro kk fuel ⟨n, k2⟩ a w hk1 ⟨K, M⟩ h
  unfold D_darkslideref_classOf_l1 at h
  refine wp_seq (wp_seq (X_reg ?_))
  refine X_o K M ?_; clear K
  refine Y_o M ?_; intro a K
  refine wpList_nil (then_n ?_)
  refine X_cond K rfl (fun hb => ?_) (fun hb => ?_)
  · have h := ctrue hb h
    refine wp_skip (then_n (wp_seq (wp_block (X_reg ?_))))
    refine X_o K M ?_; clear K
    refine Y_o M ?_
    obtain ⟨n3, hx, h⟩ := olet h
    refine Y_r (fun _ K => rdi hx (rd_assign rfl K rfl)) M ?_; intro a K
    refine wpList_nil (inb_n (then_n (X_reg ?_)))
    refine X_o K M ?_; clear K
    refine Y_r (fun _ K => rd_quo rfl K rfl rfl (by decide)) M ?_
    obtain ⟨k4, hx, h⟩ := olet h
    refine Y_r (fun _ K => rdi hx (rd_assign rfl K rfl)) M ?_; intro a K
    refine wpList_nil ?_
    exact then_n ⟨(n3, k4), ⟨K.pick [3,4], M.pick [] (by decide)⟩, h⟩
  have h := cfalse hb h
  refine wp_exit ?_
  refine then_e ?_
  exact then_e (hk1 (n, k2) _ _ ⟨K.pick [3,4], M.pick [] (by decide)⟩ h)
end Go.Proofs.YtpmnfhifmmfglacDoor

namespace Go.Proofs.YtpmnfhifmmfglacDoor
open Go.RowKit
set_option maxRecDepth 100000 in
set_option maxHeartbeats 4000000 in
theorem W_darkslideref_difference (N : Nat) (sample : Int) (guess : Int) (w0 : World)  (r : Int) (h : D_darkslideref_difference N sample guess = some r) :
    Calls Tryd.prog 69 #[I sample, I guess] w0 fun e w' => ∃ v, e = .returned v ∧ v = I r ∧ Mem w0.heap.size w0 w' [] := by
  refine X_enter Tryd.func69 rfl Tryd.ntmps69 rfl ?_
  intro a K
  have M := Mem.start w0
  have K : Kn a 18 [(0, I sample), (1, I guess)] := K
  unfold D_darkslideref_difference at h
  refine wp_seq (X_reg ?_)
  refine X_o K M ?_; clear K; intro a K
  refine wpList_nil (then_n (wp_seq (X_reg ?_)))
  refine X_o K M ?_; clear K
  iterate 2 (refine Y_o M ?_)
  obtain ⟨d, hx, h⟩ := olet h
  refine Y_r (fun _ K => rdi hx (rd_assign rfl K rfl)) M ?_; intro a K
  refine wpList_nil (then_n (wp_seq (wp_block ?_)))
  refine X_lp (id := 0) (Rel := fun (d2 : Int) a w => Kn a 18 [(5, I d2)] ∧ Mem w0.heap.size w0 w []) h (fun _ _ => rfl) ⟨K.pick [5], M.pick [] (by decide)⟩ ?_ ?_
  · clear K M h
    rintro d5 a w ⟨K, M⟩ h
    try dsimp only at h
    refine inb_e ?_
    refine then_n (wp_seq (wp_block ?_))
    refine X_lp (id := 2) (Rel := fun (d6 : Int) a w => Kn a 18 [(5, I d6)] ∧ Mem w0.heap.size w0 w []) h (fun _ _ => rfl) ⟨K.pick [5], M.pick [] (by decide)⟩ ?_ ?_
    · clear K M h
      rintro d9 a w ⟨K, M⟩ h
      try dsimp only at h
      refine inb_e ?_
      refine then_n (wp_seq (X_reg ?_))
      refine X_o K M ?_; clear K
      refine Y_o M ?_; intro a K
      refine wpList_nil (then_n (wp_ret ?_))
      cases h
      exact ret1 K rfl (res_tmp K rfl) ⟨_, rfl, rfl, ((M).pick [] (by decide))⟩
    clear K M h
    rintro kk fuel d6 a w hk2 ⟨K, M⟩ h
    unfold D_darkslideref_difference_l2 at h
    refine wp_seq (wp_seq (X_reg ?_))
    refine X_o K M ?_; clear K
    refine Y_o M ?_; intro a K
    refine wpList_nil (then_n ?_)
    refine X_cond K rfl (fun hb => ?_) (fun hb => ?_)
    · have h := ctrue hb h
      refine wp_skip (then_n (wp_block (X_reg ?_)))
      refine X_o K M ?_; clear K
      refine Y_o M ?_
      obtain ⟨d8, hx, h⟩ := olet h
      refine Y_r (fun _ K => rdi hx (rd_assign rfl K rfl)) M ?_; intro a K
      refine wpList_nil (inb_n ?_)
      exact then_n ⟨d8, ⟨K.pick [5], M.pick [] (by decide)⟩, h⟩
    have h := cfalse hb h
    refine wp_exit ?_
    refine then_e ?_
    exact then_e (hk2 d6 _ _ ⟨K.pick [5], M.pick [] (by decide)⟩ h)
  clear K M h
  rintro kk fuel d2 a w hk1 ⟨K, M⟩ h
  unfold D_darkslideref_difference_l1 at h
  refine wp_seq (wp_seq (X_reg ?_))
  refine X_o K M ?_; clear K
  refine Y_o M ?_; intro a K
  refine wpList_nil (then_n ?_)
  refine X_cond K rfl (fun hb => ?_) (fun hb => ?_)
  · have h := ctrue hb h
    refine wp_skip (then_n (wp_block (X_reg ?_)))
    refine X_o K M ?_; clear K
    refine Y_o M ?_
    obtain ⟨d4, hx, h⟩ := olet h
    refine Y_r (fun _ K => rdi hx (rd_assign rfl K rfl)) M ?_; intro a K
    refine wpList_nil (inb_n ?_)
    exact then_n ⟨d4, ⟨K.pick [5], M.pick [] (by decide)⟩, h⟩
  have h := cfalse hb h
  refine wp_exit ?_
  refine then_e ?_
  exact then_e (hk1 d2 _ _ ⟨K.pick [5], M.pick [] (by decide)⟩ h)
end Go.Proofs.YtpmnfhifmmfglacDoor

namespace Go.Proofs.YtpmnfhifmmfglacDoor
open Go.RowKit
set_option maxRecDepth 100000 in
set_option maxHeartbeats 4000000 in
theorem W_darkslideref_differences (N : Nat) (p_W : Int) (p_H : Int) (p_P : List Int) (A_p_P : Option Addr) (c_p_P : Nat) (kind : Int) (w0 : World) (R_p_P : SL w0 (cI .i64) A_p_P p_P) (C_p_P : p_P.length ≤ c_p_P) (r : List Int) (h : D_darkslideref_differences N p_W p_H p_P kind = some r) :
    Calls Tryd.prog 49 #[.agg #[I p_W, I p_H, .slice A_p_P p_P.length c_p_P], I kind] w0 fun e w' => ∃ v, e = .returned v ∧ ∃ A0 c0, v = .slice A0 r.length c0 ∧ Mem w0.heap.size w0 w' [.row 3 1 A0 r.length c0 ((cI .i64).all r)] := by
  refine X_enter Tryd.func49 rfl Tryd.ntmps49 rfl ?_
  intro a K
  have M := Mem.start w0
  have K : Kn a 34 [(0, .agg #[I p_W, I p_H, .slice A_p_P p_P.length c_p_P]), (1, I kind)] := K
  unfold D_darkslideref_differences at h
  refine wp_seq (X_reg ?_)
  refine X_a K (ac_box rfl K rfl (cs := [I p_W, I p_H, .slice A_p_P p_P.length c_p_P]) rfl M) ?_
  clear K M; rintro _ a w ⟨g_p, rfl, M⟩ K
  refine X_o K M ?_; clear K; intro a K
  refine wpList_nil (then_n (wp_seq (X_reg ?_)))
  refine X_o K M ?_; clear K; intro a K
  refine wpList_nil (then_n (wp_seq (wp_seq (X_reg ?_))))
  refine X_o K M ?_; clear K; intro a K
  refine wpList_nil (then_n (wp_block ?_))
  replace M := Mem.nilrow 3 1 (cI .i64) M
  refine X_lp (id := 0) (Rel := fun (⟨l5, y2⟩ : List Int × Int) a w => ∃ (A4 : Option Addr) (c4 : Nat), Kn a 34 [(1, I kind), (2, .pointer (some ⟨g_p, 0, none⟩)), (5, .slice A4 l5.length c4), (6, I y2)] ∧ Mem w0.heap.size w0 w [.row 3 1 A4 l5.length c4 ((cI .i64).all l5), .blk g_p 38 [I p_W, I p_H, .slice A_p_P p_P.length c_p_P]]) h (fun _ _ => rfl) ⟨none, 0, K.pick [1,2,5,6], M.pick [0,1] (by decide)⟩ ?_ ?_
  · clear K M h
    rintro ⟨l12, y5⟩ a w ⟨A11, c11, K, M⟩ h
    try dsimp only at h
    refine inb_e ?_
    refine then_n (wp_seq (X_reg ?_))
    refine X_o K M ?_; clear K
    refine Y_o M ?_; intro a K
    refine wpList_nil (then_n (wp_ret ?_))
    cases h
    exact ret1 K rfl (res_tmp K rfl) ⟨_, rfl, _, _, rfl, ((M).pick [0] (by decide))⟩
  clear K M h
  rintro kk fuel ⟨l5, y2⟩ a w hk1 ⟨A4, c4, K, M⟩ h
  unfold D_darkslideref_differences_l1 at h
  refine wp_seq (wp_seq (X_reg ?_))
  refine X_o K M ?_; clear K
  refine Y_r (fun _ K => rd_field rfl fld38_1 K rfl) M ?_
  refine Y_r (fun _ K => rd_ldC rfl sc3 K rfl (inM 1 rfl) rfl) M ?_
  refine Y_o M ?_; intro a K
  refine wpList_nil (then_n ?_)
  refine X_cond K rfl (fun hb => ?_) (fun hb => ?_)
  · have h := ctrue hb h
    refine wp_skip (then_n (wp_seq (wp_block (wp_seq (X_reg ?_)))))
    refine X_o K M ?_; clear K; intro a K
    refine wpList_nil (then_n (wp_block ?_))
    refine X_lp (id := 2) (Rel := fun (⟨l8, x7⟩ : List Int × Int) a w => ∃ (A7 : Option Addr) (c7 : Nat), Kn a 34 [(1, I kind), (2, .pointer (some ⟨g_p, 0, none⟩)), (5, .slice A7 l8.length c7), (6, I y2), (7, I x7)] ∧ Mem w0.heap.size w0 w [.row 3 1 A7 l8.length c7 ((cI .i64).all l8), .blk g_p 38 [I p_W, I p_H, .slice A_p_P p_P.length c_p_P]]) h (fun _ _ => rfl) ⟨A4, c4, K.pick [1,2,5,6,7], M.pick [0,1] (by decide)⟩ ?_ ?_
    · clear K M h
      rintro ⟨l11, x10⟩ a w ⟨A10, c10, K, M⟩ h
      try dsimp only at h
      refine inb_e ?_
      refine inb_n (then_n (X_reg ?_))
      refine X_o K M ?_; clear K
      refine Y_o M ?_
      obtain ⟨y4, hx, h⟩ := olet h
      refine Y_r (fun _ K => rdi hx (rd_assign rfl K rfl)) M ?_; intro a K
      refine wpList_nil ?_
      exact then_n ⟨(l11, y4), ⟨A10, c10, K.pick [1,2,5,6], M.pick [0,1] (by decide)⟩, h⟩
    clear K M h
    rintro kk fuel ⟨l8, x7⟩ a w hk2 ⟨A7, c7, K, M⟩ h
    unfold D_darkslideref_differences_l2 at h
    refine wp_seq (wp_seq (X_reg ?_))
    refine X_o K M ?_; clear K
    refine Y_r (fun _ K => rd_field rfl fld38_0 K rfl) M ?_
    refine Y_r (fun _ K => rd_ldC rfl sc3 K rfl (inM 1 rfl) rfl) M ?_
    refine Y_o M ?_; intro a K
    refine wpList_nil (then_n ?_)
    refine X_cond K rfl (fun hb => ?_) (fun hb => ?_)
    · have h := ctrue hb h
      refine wp_skip (then_n (wp_seq (wp_block ?_)))
      refine wp_region_tl (fun w => Mem _ _ w _) [0,0,0,0,1,0,0,0,0,1,1,1,1,0] (by kernel_rfl) (by kernel_rfl) (M.pick [1] (by decide)).drew ?_
      replace M := M.drew
      refine T_o K ?_; clear K
      refine U_r (fun _ K => rd_ldA rfl ty38 K rfl (inM 0 rfl) rfl rfl) ?_
      iterate 2 (refine U_o ?_)
      intro a K
      obtain ⟨r14, h_r14, h⟩ := obind h
      refine T_a K (ac_call (vs := [.agg #[I p_W, I p_H, .slice A_p_P p_P.length c_p_P], I x7, I y2]) (cap := []) rfl fok46 K rfl rfl (W_darkslideref_At N p_W p_H p_P A_p_P c_p_P x7 y2 _ ((inA R_p_P) _ M) C_p_P r14 h_r14)) ?_
      have M0 := M; clear K M; rintro _ a w ⟨rfl, M⟩ K
      replace M := M0.call M; clear M0
      refine ⟨M.pick [1] (by decide), ?_⟩
      refine T_r K (rd_ldA rfl ty38 K rfl (inM 0 rfl) rfl rfl) ?_; clear K
      iterate 3 (refine U_o ?_)
      intro a K
      obtain ⟨r15, h_r15, h⟩ := obind h
      refine T_a K (ac_call (vs := [.agg #[I p_W, I p_H, .slice A_p_P p_P.length c_p_P], I kind, I x7, I y2]) (cap := []) rfl fok21 K rfl rfl (W_darkslideref_GuessOf N p_W p_H p_P A_p_P c_p_P kind x7 y2 _ ((inA R_p_P) _ M) C_p_P r15 h_r15)) ?_
      have M0 := M; clear K M; rintro _ a w ⟨rfl, M⟩ K
      replace M := M0.call M; clear M0
      refine ⟨M.pick [1] (by decide), ?_⟩
      obtain ⟨r16, h_r16, h⟩ := obind h
      refine T_a K (ac_call (vs := [I r14, I r15]) (cap := []) rfl fok69 K rfl rfl (W_darkslideref_difference N r14 r15 _  r16 h_r16)) ?_
      have M0 := M; clear K M; rintro _ a w ⟨rfl, M⟩ K
      replace M := M0.call M; clear M0
      refine ⟨M.pick [1] (by decide), ?_⟩
      refine T_a K (ac_bslice rfl sl22 z3 K (vs := [(0, I r16)]) (cs := [I r16]) rfl (by kernel_rfl) rfl rfl M) ?_
      have M0 := M; clear K M; rintro _ a w ⟨gs5, rfl, M⟩ K
      replace M := M.asRow 0 rfl (cI .i64) ([r16] : List Int) (n := 1) rfl rfl rfl
      clear M0
      refine ⟨M.pick [2] (by decide), ?_⟩
      obtain ⟨l10, h_l10, h⟩ := obind h
      refine T_a K (ac_app (C := (cI .i64)) (xs := l8) (ys := ([r16] : List Int)) rfl sl22 rfl z3 rfl rfl K rfl rfl 1 M rfl ((inR (C := (cI .i64)) 0 rfl rfl) _ M) h_l10) ?_
      clear K M; rintro _ a w ⟨A9, c9, rfl, M⟩ K
      refine ⟨M.pick [2] (by decide), ?_⟩
      refine T_o K ?_; clear K; intro a K
      refine T_end ?_
      refine inb_n (then_n (X_reg ?_))
      refine X_o K M ?_; clear K
      refine Y_o M ?_
      obtain ⟨x9, hx, h⟩ := olet h
      refine Y_r (fun _ K => rdi hx (rd_assign rfl K rfl)) M ?_; intro a K
      refine wpList_nil ?_
      exact then_n ⟨(l10, x9), ⟨A9, c9, K.pick [1,2,5,6,7], M.pick [1,2] (by decide)⟩, h⟩
    have h := cfalse hb h
    refine wp_exit ?_
    refine then_e ?_
    exact then_e (hk2 (l8, x7) _ _ ⟨A7, c7, K.pick [1,2,5,6,7], M.pick [0,1] (by decide)⟩ h)
  have h := cfalse hb h
  refine wp_exit ?_
  refine then_e ?_
  exact then_e (hk1 (l5, y2) _ _ ⟨A4, c4, K.pick [1,2,5,6], M.pick [0,1] (by decide)⟩ h)
end Go.Proofs.YtpmnfhifmmfglacDoor

namespace Go.Proofs.YtpmnfhifmmfglacDoor
open Go.RowKit
set_option maxRecDepth 100000 in
set_option maxHeartbeats 4000000 in
theorem W_darkslideref_more (N : Nat) (d : Int) (w0 : World)  (r : List UInt8) (h : D_darkslideref_more N d = some r) :
    Calls Tryd.prog 51 #[I d] w0 fun e w' => ∃ v, e = .returned v ∧ v = .string (bs r) ∧ Mem w0.heap.size w0 w' [] := by
  refine X_enter Tryd.func51 rfl Tryd.ntmps51 rfl ?_
  intro a K
  have M := Mem.start w0
  have K : Kn a 26 [(0, I d)] := K
  unfold D_darkslideref_more at h
  refine wp_seq (X_reg ?_)
  refine X_o K M ?_; clear K; intro a K
  refine wpList_nil (then_n (wp_seq (X_reg ?_)))
  refine X_o K M ?_; clear K; intro a K
  obtain ⟨r2, h_r2, h⟩ := obind h
  refine X_a K (ac_call (vs := [I d]) (cap := []) rfl fok50 K rfl rfl (W_darkslideref_classOf N d _  r2 h_r2)) ?_
  have M0 := M; clear K M; rintro _ a w ⟨rfl, M⟩ K
  replace M := M0.call M; clear M0
  refine X_o K M ?_; clear K; intro a K
  refine wpList_nil (then_n (wp_seq (wp_block (wp_seq (X_reg ?_)))))
  refine X_o K M ?_; clear K
  iterate 2 (refine Y_o M ?_)
  intro a K
  rcases Bool.eq_false_or_eq_true (decide (r2 = 0)) with hb | hb
  · have h := ctrue hb h
    have K := K.reb (s := 9) rfl hb
    refine X_o K M ?_; clear K
    iterate 3 (refine Y_o M ?_)
    intro a K
    refine wpList_nil (then_n ?_)
    refine X_condT K rfl ?_
    refine wp_seq (X_reg ?_)
    refine X_o K M ?_; clear K; intro a K
    refine wpList_nil (then_n (wp_ret (inb_r (then_r ?_))))
    cases h
    exact ret1 K rfl (res_tmp K rfl) ⟨_, rfl, rfl, ((M).pick [] (by decide))⟩
  have h := cfalse hb h
  have K := K.reb (s := 9) rfl hb
  refine X_o K M ?_; clear K
  iterate 3 (refine Y_o M ?_)
  intro a K
  refine wpList_nil (then_n ?_)
  refine X_cond K rfl (fun hb => ?_) (fun hb => ?_)
  · have h := ctrue hb h
    refine wp_seq (X_reg ?_)
    refine X_o K M ?_; clear K; intro a K
    refine wpList_nil (then_n (wp_ret (inb_r (then_r ?_))))
    cases h
    exact ret1 K rfl (res_tmp K rfl) ⟨_, rfl, rfl, ((M).pick [] (by decide))⟩
  have h := cfalse hb h
  refine wp_seq (X_reg ?_)
  refine X_o K M ?_; clear K
  iterate 2 (refine Y_o M ?_)
  intro a K
  refine wpList_nil (then_n ?_)
  refine X_cond K rfl (fun hb => ?_) (fun hb => ?_)
  · have h := ctrue hb h
    refine wp_seq (X_reg ?_)
    refine X_o K M ?_; clear K
    refine Y_o M ?_; intro a K
    obtain ⟨r3, h_r3, h⟩ := obind h
    refine X_a K (ac_call (vs := [I d, I r2]) (cap := []) rfl fok61 K rfl rfl (W_darkslideref_Number N d r2 _  r3 h_r3)) ?_
    have M0 := M; clear K M; rintro _ a w ⟨rfl, M⟩ K
    replace M := M0.call M; clear M0
    refine X_o K M ?_; clear K; intro a K
    refine wpList_nil (then_n (wp_ret (inb_r (then_r ?_))))
    cases h
    exact ret1 K rfl (res_tmp K rfl) ⟨_, rfl, rfl, ((M).pick [] (by decide))⟩
  have h := cfalse hb h
  refine wp_skip (inb_n (then_n (wp_seq (X_reg ?_))))
  refine X_o K M ?_; clear K
  refine Y_o M ?_; intro a K
  obtain ⟨_, h0, h⟩ := obind h
  have h0 := nn_spec h0
  refine X_r K (rd_shl rfl K rfl rfl h0) M ?_; clear K
  iterate 3 (refine Y_o M ?_)
  intro a K
  obtain ⟨r4, h_r4, h⟩ := obind h
  refine X_a K (ac_call (vs := [I (IntKind.i64.wrap ((IntKind.i64.wrap (d + (shlI .i64 1 r2))) - 1)), I r2]) (cap := []) rfl fok61 K rfl rfl (W_darkslideref_Number N (IntKind.i64.wrap ((IntKind.i64.wrap (d + (shlI .i64 1 r2))) - 1)) r2 _  r4 h_r4)) ?_
  have M0 := M; clear K M; rintro _ a w ⟨rfl, M⟩ K
  replace M := M0.call M; clear M0
  refine X_o K M ?_; clear K; intro a K
  refine wpList_nil (then_n (wp_ret ?_))
  cases h
  exact ret1 K rfl (res_tmp K rfl) ⟨_, rfl, rfl, ((M).pick [] (by decide))⟩
end Go.Proofs.YtpmnfhifmmfglacDoor

namespace Go.Proofs.YtpmnfhifmmfglacDoor
open Go.RowKit
set_option maxRecDepth 100000 in
set_option maxHeartbeats 4000000 in
theorem W_darkslideref_PlaneFine (N : Nat) (p_W : Int) (p_H : Int) (p_P : List Int) (A_p_P : Option Addr) (c_p_P : Nat) (w0 : World) (R_p_P : SL w0 (cI .i64) A_p_P p_P) (C_p_P : p_P.length ≤ c_p_P) (r : Bool) (h : D_darkslideref_PlaneFine N p_W p_H p_P = some r) :
    Calls Tryd.prog 19 #[.agg #[I p_W, I p_H, .slice A_p_P p_P.length c_p_P]] w0 fun e w' => ∃ v, e = .returned v ∧ v = .bool r ∧ Mem w0.heap.size w0 w' [] := by
  refine X_enter Tryd.func19 rfl Tryd.ntmps19 rfl ?_
  intro a K
  have M := Mem.start w0
  have K : Kn a 39 [(0, .agg #[I p_W, I p_H, .slice A_p_P p_P.length c_p_P])] := K
  unfold D_darkslideref_PlaneFine at h
  refine wp_seq (X_reg ?_)
  refine X_a K (ac_box rfl K rfl (cs := [I p_W, I p_H, .slice A_p_P p_P.length c_p_P]) rfl M) ?_
  clear K M; rintro _ a w ⟨g_p, rfl, M⟩ K
  refine X_o K M ?_; clear K; intro a K
  refine wpList_nil (then_n (wp_seq (wp_seq (X_reg ?_))))
  refine X_r K (rd_field rfl fld38_0 K rfl) M ?_; clear K
  refine Y_r (fun _ K => rd_ldC rfl sc3 K rfl (inM 0 rfl) rfl) M ?_; intro a K
  obtain ⟨r2, h_r2, h⟩ := obind h
  refine X_a K (ac_call (vs := [I p_W, I 1, I 64]) (cap := []) rfl fok34 K rfl rfl (W_darkslideref_within N p_W 1 64 _  r2 h_r2)) ?_
  have M0 := M; clear K M; rintro _ a w ⟨rfl, M⟩ K
  replace M := M0.call M; clear M0
  refine X_o K M ?_; clear K
  refine Y_o M ?_; intro a K
  rcases Bool.eq_false_or_eq_true (!(r2)) with hb | hb
  · have h := ctrue hb h
    have K := K.reb (s := 8) rfl hb
    refine X_o K M ?_; clear K
    iterate 15 (refine Y_o M ?_)
    intro a K
    refine wpList_nil (then_n ?_)
    refine X_condT K rfl ?_
    refine wp_seq (X_reg ?_)
    refine X_o K M ?_; clear K; intro a K
    refine wpList_nil (then_n (wp_ret (then_r ?_)))
    cases h
    exact ret1 K rfl (res_tmp K rfl) ⟨_, rfl, rfl, ((M).pick [] (by decide))⟩
  have h := cfalse hb h
  have K := K.reb (s := 8) rfl hb
  refine X_r K (rd_field rfl fld38_1 K rfl) M ?_; clear K
  refine Y_r (fun _ K => rd_ldC rfl sc3 K rfl (inM 0 rfl) rfl) M ?_; intro a K
  obtain ⟨r3, h_r3, h⟩ := obind h
  refine X_a K (ac_call (vs := [I p_H, I 1, I 64]) (cap := []) rfl fok34 K rfl rfl (W_darkslideref_within N p_H 1 64 _  r3 h_r3)) ?_
  have M0 := M; clear K M; rintro _ a w ⟨rfl, M⟩ K
  replace M := M0.call M; clear M0
  refine X_o K M ?_; clear K
  iterate 2 (refine Y_o M ?_)
  intro a K
  rcases Bool.eq_false_or_eq_true (!(r3)) with hb | hb
  · have h := ctrue hb h
    have K := K.reb (s := 14) rfl hb
    refine X_o K M ?_; clear K
    iterate 9 (refine Y_o M ?_)
    intro a K
    refine wpList_nil (then_n ?_)
    refine X_condT K rfl ?_
    refine wp_seq (X_reg ?_)
    refine X_o K M ?_; clear K; intro a K
    refine wpList_nil (then_n (wp_ret (then_r ?_)))
    cases h
    exact ret1 K rfl (res_tmp K rfl) ⟨_, rfl, rfl, ((M).pick [] (by decide))⟩
  have h := cfalse hb h
  have K := K.reb (s := 14) rfl hb
  refine X_r K (rd_field rfl fld38_2 K rfl) M ?_; clear K
  refine Y_r (fun _ K => rd_ldC rfl sc22 K rfl (inM 0 rfl) rfl) M ?_
  refine Y_r (fun _ K => rd_len rfl un22 K rfl) M ?_
  refine Y_r (fun _ K => rd_field rfl fld38_0 K rfl) M ?_
  refine Y_r (fun _ K => rd_ldC rfl sc3 K rfl (inM 0 rfl) rfl) M ?_
  refine Y_r (fun _ K => rd_field rfl fld38_1 K rfl) M ?_
  refine Y_r (fun _ K => rd_ldC rfl sc3 K rfl (inM 0 rfl) rfl) M ?_
  iterate 3 (refine Y_o M ?_)
  intro a K
  refine wpList_nil (then_n ?_)
  refine X_cond K rfl (fun hb => ?_) (fun hb => ?_)
  · have h := ctrue hb h
    refine wp_seq (X_reg ?_)
    refine X_o K M ?_; clear K; intro a K
    refine wpList_nil (then_n (wp_ret (then_r ?_)))
    cases h
    exact ret1 K rfl (res_tmp K rfl) ⟨_, rfl, rfl, ((M).pick [] (by decide))⟩
  have h := cfalse hb h
  refine wp_skip (then_n (wp_seq (wp_seq (X_reg ?_))))
  refine X_o K M ?_; clear K; intro a K
  refine wpList_nil (then_n (wp_block ?_))
  refine X_lp (id := 0) (Rel := fun (i : Int) a w => Kn a 39 [(1, .pointer (some ⟨g_p, 0, none⟩)), (3, I i)] ∧ Mem w0.heap.size w0 w [.blk g_p 38 [I p_W, I p_H, .slice A_p_P p_P.length c_p_P]]) h (fun _ _ => rfl) ⟨K.pick [1,3], M.pick [0] (by decide)⟩ ?_ ?_
  · clear K M h
    rintro i4 a w ⟨K, M⟩ h
    try dsimp only at h
    refine inb_e ?_
    refine then_n (wp_seq (X_reg ?_))
    refine X_o K M ?_; clear K; intro a K
    refine wpList_nil (then_n (wp_ret ?_))
    cases h
    exact ret1 K rfl (res_tmp K rfl) ⟨_, rfl, rfl, ((M).pick [] (by decide))⟩
  clear K M h
  rintro kk fuel i a w hk1 ⟨K, M⟩ h
  unfold D_darkslideref_PlaneFine_l1 at h
  refine wp_seq (wp_seq (X_reg ?_))
  refine X_o K M ?_; clear K
  refine Y_r (fun _ K => rd_field rfl fld38_2 K rfl) M ?_
  refine Y_r (fun _ K => rd_ldC rfl sc22 K rfl (inM 0 rfl) rfl) M ?_
  refine Y_r (fun _ K => rd_len rfl un22 K rfl) M ?_
  refine Y_o M ?_; intro a K
  refine wpList_nil (then_n ?_)
  refine X_cond K rfl (fun hb => ?_) (fun hb => ?_)
  · have h := ctrue hb h
    refine wp_skip (then_n (wp_seq (wp_block (wp_seq (X_reg ?_)))))
    refine X_r K (rd_field rfl fld38_2 K rfl) M ?_; clear K
    refine Y_r (fun _ K => rd_ldC rfl sc22 K rfl (inM 0 rfl) rfl) M ?_
    refine Y_o M ?_
    obtain ⟨e2, h_e2, h⟩ := obind h
    refine Y_r (fun _ K => rd_ix rfl sl22 K rfl rfl (inA R_p_P) h_e2) M ?_
    refine Y_r (fun _ K => rd_elC rfl sc3 K rfl rfl (inA R_p_P) h_e2 rfl) M ?_; intro a K
    obtain ⟨r5, h_r5, h⟩ := obind h
    refine X_a K (ac_call (vs := [I e2, I 0, I 65535]) (cap := []) rfl fok34 K rfl rfl (W_darkslideref_within N e2 0 65535 _  r5 h_r5)) ?_
    have M0 := M; clear K M; rintro _ a w ⟨rfl, M⟩ K
    replace M := M0.call M; clear M0
    refine X_o K M ?_; clear K; intro a K
    refine wpList_nil (then_n ?_)
    refine X_cond K rfl (fun hb => ?_) (fun hb => ?_)
    · have h := ctrue hb h
      refine wp_seq (X_reg ?_)
      refine X_o K M ?_; clear K; intro a K
      refine wpList_nil (then_n (wp_ret (inb_r (then_r (then_r (inb_r (then_r ?_)))))))
      cases h
      exact ret1 K rfl (res_tmp K rfl) ⟨_, rfl, rfl, ((M).pick [] (by decide))⟩
    have h := cfalse hb h
    refine wp_skip (inb_n (then_n (X_reg ?_)))
    refine X_o K M ?_; clear K
    refine Y_o M ?_
    obtain ⟨i3, hx, h⟩ := olet h
    refine Y_r (fun _ K => rdi hx (rd_assign rfl K rfl)) M ?_; intro a K
    refine wpList_nil ?_
    exact then_n ⟨i3, ⟨K.pick [1,3], M.pick [0] (by decide)⟩, h⟩
  have h := cfalse hb h
  refine wp_exit ?_
  refine then_e ?_
  exact then_e (hk1 i _ _ ⟨K.pick [1,3], M.pick [0] (by decide)⟩ h)
end Go.Proofs.YtpmnfhifmmfglacDoor

namespace Go.Proofs.YtpmnfhifmmfglacDoor
open Go.RowKit
set_option maxRecDepth 100000 in
set_option maxHeartbeats 4000000 in
theorem W_darkslideref_WriteDiff (N : Nat) (d_W : Int) (d_H : Int) (d_P : List Int) (A_d_P : Option Addr) (c_d_P : Nat) (o : Int) (p2 : List Int) (A_p2 : Option Addr) (c_p2 : Nat) (w0 : World) (R_d_P : SL w0 (cI .i64) A_d_P d_P) (C_d_P : d_P.length ≤ c_d_P) (R_p2 : SL w0 (cI .i64) A_p2 p2) (C_p2 : p2.length ≤ c_p2) (r : List UInt8 × Int) (h : D_darkslideref_WriteDiff N d_W d_H d_P o p2 = some r) :
    Calls Tryd.prog 23 #[.agg #[I d_W, I d_H, .slice A_d_P d_P.length c_d_P], I o, .slice A_p2 p2.length c_p2] w0 fun e w' => ∃ v, e = .returned v ∧ v = .tuple #[.string (bs r.1), I r.2] ∧ Mem w0.heap.size w0 w' [] := by
  refine X_enter Tryd.func23 rfl Tryd.ntmps23 rfl ?_
  intro a K
  have M := Mem.start w0
  have K : Kn a 68 [(0, .agg #[I d_W, I d_H, .slice A_d_P d_P.length c_d_P]), (1, I o), (2, .slice A_p2 p2.length c_p2)] := K
  unfold D_darkslideref_WriteDiff at h
  refine wp_seq (X_reg ?_)
  refine X_a K (ac_box rfl K rfl (cs := [I d_W, I d_H, .slice A_d_P d_P.length c_d_P]) rfl M) ?_
  clear K M; rintro _ a w ⟨g_x, rfl, M⟩ K
  refine X_o K M ?_; clear K
  refine Y_o M ?_; intro a K
  refine wpList_nil (then_n (wp_seq (wp_seq (X_reg ?_))))
  refine X_r K (rd_ldA rfl ty38 K rfl (inM 0 rfl) rfl rfl) M ?_; clear K; intro a K
  obtain ⟨r2, h_r2, h⟩ := obind h
  refine X_a K (ac_call (vs := [.agg #[I d_W, I d_H, .slice A_d_P d_P.length c_d_P]]) (cap := []) rfl fok19 K rfl rfl (W_darkslideref_PlaneFine N d_W d_H d_P A_d_P c_d_P _ ((inA R_d_P) _ M) C_d_P r2 h_r2)) ?_
  have M0 := M; clear K M; rintro _ a w ⟨rfl, M⟩ K
  replace M := M0.call M; clear M0
  refine X_o K M ?_; clear K; intro a K
  refine wpList_nil (then_n ?_)
  refine X_cond K rfl (fun hb => ?_) (fun hb => ?_)
  · have h := ctrue hb h
    refine wp_seq (X_reg ?_)
    refine X_o K M ?_; clear K
    refine Y_o M ?_; intro a K
    refine wpList_nil (then_n (wp_ret (then_r ?_)))
    cases h
    exact ret2 K rfl (res_tmp K rfl) (res_tmp K rfl) ⟨_, rfl, rfl, ((M).pick [] (by decide))⟩
  have h := cfalse hb h
  refine wp_skip (then_n (wp_seq (wp_seq (X_reg ?_))))
  refine X_o K M ?_; clear K; intro a K
  obtain ⟨r3, h_r3, h⟩ := obind h
  refine X_a K (ac_call (vs := [I o, I 1, I 7]) (cap := []) rfl fok34 K rfl rfl (W_darkslideref_within N o 1 7 _  r3 h_r3)) ?_
  have M0 := M; clear K M; rintro _ a w ⟨rfl, M⟩ K
  replace M := M0.call M; clear M0
  refine X_o K M ?_; clear K; intro a K
  refine wpList_nil (then_n ?_)
  refine X_cond K rfl (fun hb => ?_) (fun hb => ?_)
  · have h := ctrue hb h
    refine wp_seq (X_reg ?_)
    refine X_o K M ?_; clear K
    refine Y_o M ?_; intro a K
    refine wpList_nil (then_n (wp_ret (then_r ?_)))
    cases h
    exact ret2 K rfl (res_tmp K rfl) (res_tmp K rfl) ⟨_, rfl, rfl, ((M).pick [] (by decide))⟩
  have h := cfalse hb h
  refine wp_skip (then_n (wp_seq (wp_seq (X_reg ?_))))
  refine X_o K M ?_; clear K; intro a K
  obtain ⟨r4, h_r4, h⟩ := obind h
  refine X_a K (ac_call (vs := [.slice A_p2 p2.length c_p2]) (cap := []) rfl fok29 K rfl rfl (W_darkslideref_CheckCode N p2 A_p2 c_p2 _ ((inA R_p2) _ M) C_p2 r4 h_r4)) ?_
  have M0 := M; clear K M; rintro _ a w ⟨rfl, M⟩ K
  replace M := M0.call M; clear M0
  refine X_o K M ?_; clear K; intro a K
  refine wpList_nil (then_n (wp_seq (X_reg ?_)))
  refine X_o K M ?_; clear K
  refine Y_o M ?_; intro a K
  refine wpList_nil (then_n ?_)
  refine X_cond K rfl (fun hb => ?_) (fun hb => ?_)
  · have h := ctrue hb h
    refine wp_seq (X_reg ?_)
    refine X_o K M ?_; clear K
    iterate 2 (refine Y_o M ?_)
    intro a K
    refine wpList_nil (then_n (wp_ret (then_r ?_)))
    cases h
    exact ret2 K rfl (res_tmp K rfl) (res_tmp K rfl) ⟨_, rfl, rfl, ((M).pick [] (by decide))⟩
  have h := cfalse hb h
  refine wp_skip (then_n (wp_seq (X_reg ?_)))
  refine X_o K M ?_; clear K; intro a K
  obtain ⟨r5, h_r5, h⟩ := obind h
  refine X_a K (ac_call (vs := [.slice A_p2 p2.length c_p2]) (cap := []) rfl fok30 K rfl rfl (W_darkslideref_WordsOf N p2 A_p2 c_p2 _ ((inA R_p2) _ M) C_p2 r5 h_r5)) ?_
  have M0 := M; clear K M; rintro _ a w ⟨A, c, rfl, M⟩ K
  replace M := M0.call M; clear M0
  refine X_o K M ?_; clear K; intro a K
  refine wpList_nil (then_n (wp_seq (X_reg ?_)))
  refine X_r K (rd_ldA rfl ty38 K rfl (inM 1 rfl) rfl rfl) M ?_; clear K
  refine Y_o M ?_; intro a K
  obtain ⟨r6, h_r6, h⟩ := obind h
  refine X_a K (ac_call (vs := [.agg #[I d_W, I d_H, .slice A_d_P d_P.length c_d_P], I o]) (cap := []) rfl fok49 K rfl rfl (W_darkslideref_differences N d_W d_H d_P A_d_P c_d_P o _ ((inA R_d_P) _ M) C_d_P r6 h_r6)) ?_
  have M0 := M; clear K M; rintro _ a w ⟨A2, c2, rfl, M⟩ K
  replace M := M0.call M; clear M0
  refine X_o K M ?_; clear K; intro a K
  refine wpList_nil (then_n (wp_seq (X_reg ?_)))
  refine X_o K M ?_; clear K; intro a K
  refine wpList_nil (then_n (wp_seq (wp_seq (X_reg ?_))))
  refine X_o K M ?_; clear K; intro a K
  refine wpList_nil (then_n (wp_block ?_))
  replace M := Mem.nilrow 5 1 (cI .u8) M
  refine X_lp (id := 0) (Rel := fun (⟨l4, i⟩ : List Int × Int) a w => ∃ (A5 : Option Addr) (c5 : Nat), Kn a 68 [(9, .slice A r5.length c), (10, .slice A2 r6.length c2), (11, .slice A5 l4.length c5), (12, I i)] ∧ Mem w0.heap.size w0 w [.row 5 1 A5 l4.length c5 ((cI .u8).all l4), .row 3 1 A2 r6.length c2 ((cI .i64).all r6), .row 9 1 A r5.length c (cS.all r5)]) h (fun _ _ => rfl) ⟨none, 0, K.pick [9,10,11,12], M.pick [0,1,2] (by decide)⟩ ?_ ?_
  · clear K M h
    rintro ⟨l9, i2⟩ a w ⟨A10, c10, K, M⟩ h
    try dsimp only at h
    refine inb_e ?_
    refine then_n (wp_seq (X_reg ?_))
    refine X_o K M ?_; clear K
    refine Y_r (fun _ K => rd_convBS rfl sl52 ik5 st9 K rfl (inR (C := (cI .u8)) 0 rfl rfl)) M ?_; intro a K
    obtain ⟨r13, h_r13, h⟩ := obind h
    refine X_a K (ac_call (vs := [.string (bs (toB l9))]) (cap := []) rfl fok52 K rfl rfl (W_darkslideref_Bytes N (toB l9) _  r13 h_r13)) ?_
    have M0 := M; clear K M; rintro _ a w ⟨rfl, M⟩ K
    replace M := M0.call M; clear M0
    refine X_o K M ?_; clear K
    refine Y_o M ?_; intro a K
    refine wpList_nil (then_n (wp_ret ?_))
    cases h
    exact ret2 K rfl (res_tmp K rfl) (res_tmp K rfl) ⟨_, rfl, rfl, ((M).pick [] (by decide))⟩
  clear K M h
  rintro kk fuel ⟨l4, i⟩ a w hk1 ⟨A5, c5, K, M⟩ h
  unfold D_darkslideref_WriteDiff_l1 at h
  refine wp_seq (wp_seq (X_reg ?_))
  refine X_o K M ?_; clear K
  refine Y_o M ?_
  refine Y_r (fun _ K => rd_len rfl un22 K rfl) M ?_
  refine Y_o M ?_; intro a K
  refine wpList_nil (then_n ?_)
  refine X_cond K rfl (fun hb => ?_) (fun hb => ?_)
  · have h := ctrue hb h
    refine wp_skip (then_n (wp_seq (wp_block (wp_seq (X_reg ?_)))))
    refine X_o K M ?_; clear K
    refine Y_o M ?_
    obtain ⟨e9, h_e9, h⟩ := obind h
    refine Y_r (fun _ K => rd_ix rfl sl22 K rfl rfl (inR (C := (cI .i64)) 1 rfl rfl) h_e9) M ?_
    refine Y_r (fun _ K => rd_elC rfl sc3 K rfl rfl (inR (C := (cI .i64)) 1 rfl rfl) h_e9 rfl) M ?_; intro a K
    obtain ⟨r11, h_r11, h⟩ := obind h
    refine X_a K (ac_call (vs := [I e9]) (cap := []) rfl fok50 K rfl rfl (W_darkslideref_classOf N e9 _  r11 h_r11)) ?_
    have M0 := M; clear K M; rintro _ a w ⟨rfl, M⟩ K
    replace M := M0.call M; clear M0
    refine X_o K M ?_; clear K; intro a K
    refine wpList_nil (then_n (wp_seq (wp_seq (X_reg ?_))))
    refine X_o K M ?_; clear K
    refine Y_o M ?_
    refine Y_r (fun _ K => rd_len rfl un31 K rfl) M ?_
    iterate 2 (refine Y_o M ?_)
    intro a K
    rcases Bool.eq_false_or_eq_true (decide ((r5.length : Int) ≤ r11)) with hb | hb
    · have h := ctrue hb h
      have K := K.reb (s := 45) rfl hb
      refine X_o K M ?_; clear K
      iterate 5 (refine Y_o M ?_)
      intro a K
      refine wpList_nil (then_n ?_)
      refine X_condT K rfl ?_
      refine wp_seq (X_reg ?_)
      refine X_o K M ?_; clear K
      refine Y_o M ?_; intro a K
      refine wpList_nil (then_n (wp_ret (then_r (inb_r (then_r (then_r (inb_r (then_r ?_))))))))
      cases h
      exact ret2 K rfl (res_tmp K rfl) (res_tmp K rfl) ⟨_, rfl, rfl, ((M).pick [] (by decide))⟩
    have h := cfalse hb h
    have K := K.reb (s := 45) rfl hb
    refine X_o K M ?_; clear K
    refine Y_o M ?_
    obtain ⟨e10, h_e10, h⟩ := obind h
    refine Y_r (fun _ K => rd_ix rfl sl31 K rfl rfl (inR (C := cS) 2 rfl rfl) h_e10) M ?_
    refine Y_r (fun _ K => rd_elC rfl sc9 K rfl rfl (inR (C := cS) 2 rfl rfl) h_e10 rfl) M ?_
    refine Y_r (fun _ K => rd_eqlS rfl K rfl rfl) M ?_
    refine Y_o M ?_; intro a K
    refine wpList_nil (then_n ?_)
    refine X_cond K rfl (fun hb => ?_) (fun hb => ?_)
    · have h := ctrue hb h
      refine wp_seq (X_reg ?_)
      refine X_o K M ?_; clear K
      refine Y_o M ?_; intro a K
      refine wpList_nil (then_n (wp_ret (then_r (inb_r (then_r (then_r (inb_r (then_r ?_))))))))
      cases h
      exact ret2 K rfl (res_tmp K rfl) (res_tmp K rfl) ⟨_, rfl, rfl, ((M).pick [] (by decide))⟩
    have h := cfalse hb h
    refine wp_skip (then_n (wp_seq (X_reg ?_)))
    refine X_o K M ?_; clear K
    iterate 2 (refine Y_o M ?_)
    obtain ⟨e11, h_e11, h⟩ := obind h
    refine Y_r (fun _ K => rd_ix rfl sl31 K rfl rfl (inR (C := cS) 2 rfl rfl) h_e11) M ?_
    refine Y_r (fun _ K => rd_elC rfl sc9 K rfl rfl (inR (C := cS) 2 rfl rfl) h_e11 rfl) M ?_; intro a K
    obtain ⟨l7, h_l7, h⟩ := obind h
    refine X_a K (ac_appS rfl sl52 st9 zu5 K rfl rfl 0 M rfl h_l7) ?_
    clear K M; rintro _ a w ⟨A8, c8, rfl, M⟩ K
    refine X_o K M ?_; clear K; intro a K
    refine wpList_nil (then_n (X_reg ?_))
    refine X_o K M ?_; clear K
    iterate 2 (refine Y_o M ?_)
    obtain ⟨e12, h_e12, h⟩ := obind h
    refine Y_r (fun _ K => rd_ix rfl sl22 K rfl rfl (inR (C := (cI .i64)) 1 rfl rfl) h_e12) M ?_
    refine Y_r (fun _ K => rd_elC rfl sc3 K rfl rfl (inR (C := (cI .i64)) 1 rfl rfl) h_e12 rfl) M ?_; intro a K
    obtain ⟨r12, h_r12, h⟩ := obind h
    refine X_a K (ac_call (vs := [I e12]) (cap := []) rfl fok51 K rfl rfl (W_darkslideref_more N e12 _  r12 h_r12)) ?_
    have M0 := M; clear K M; rintro _ a w ⟨rfl, M⟩ K
    replace M := M0.call M; clear M0
    obtain ⟨l8, h_l8, h⟩ := obind h
    refine X_a K (ac_appS rfl sl52 st9 zu5 K rfl rfl 0 M rfl h_l8) ?_
    clear K M; rintro _ a w ⟨A9, c9, rfl, M⟩ K
    refine X_o K M ?_; clear K; intro a K
    refine wpList_nil (inb_n (then_n (X_reg ?_)))
    refine X_o K M ?_; clear K
    refine Y_o M ?_
    obtain ⟨x4, hx, h⟩ := olet h
    refine Y_r (fun _ K => rdi hx (rd_assign rfl K rfl)) M ?_; intro a K
    refine wpList_nil ?_
    exact then_n ⟨(l8, x4), ⟨A9, c9, K.pick [9,10,11,12], M.pick [0,1,2] (by decide)⟩, h⟩
  have h := cfalse hb h
  refine wp_exit ?_
  refine then_e ?_
  exact then_e (hk1 (l4, i) _ _ ⟨A5, c5, K.pick [9,10,11,12], M.pick [0,1,2] (by decide)⟩ h)
end Go.Proofs.YtpmnfhifmmfglacDoor

namespace Go.Proofs.YtpmnfhifmmfglacDoor
open Go.RowKit
set_option maxRecDepth 100000 in
set_option maxHeartbeats 4000000 in
theorem W_darkslideref_ReadDiff (N : Nat) (d : List UInt8) (o : Int) (p2 : Int) (p3 : Int) (p4 : List Int) (A_p4 : Option Addr) (c_p4 : Nat) (w0 : World) (R_p4 : SL w0 (cI .i64) A_p4 p4) (C_p4 : p4.length ≤ c_p4) (r : Int × Int × List Int × Int) (h : D_darkslideref_ReadDiff N d o p2 p3 p4 = some r) :
    Calls Tryd.prog 25 #[.string (bs d), I o, I p2, I p3, .slice A_p4 p4.length c_p4] w0 fun e w' => ∃ v, e = .returned v ∧ ∃ A2 c2, v = .tuple #[.agg #[I r.1, I r.2.1, .slice A2 r.2.2.1.length c2], I r.2.2.2] ∧ Mem w0.heap.size w0 w' [.row 3 1 A2 r.2.2.1.length c2 ((cI .i64).all r.2.2.1)] := by
  refine X_enter Tryd.func25 rfl Tryd.ntmps25 rfl ?_
  intro a K
  have M := Mem.start w0
  have K : Kn a 142 [(0, .string (bs d)), (1, I o), (2, I p2), (3, I p3), (4, .slice A_p4 p4.length c_p4)] := K
  unfold D_darkslideref_ReadDiff at h
  refine wp_seq (X_reg ?_)
  refine X_a K (ac_alloc rfl z38 M) ?_
  clear K M; rintro _ a w ⟨g_x, rfl, M⟩ K
  refine X_o K M ?_; clear K; intro a K
  refine wpList_nil (then_n (wp_seq (wp_seq (X_reg ?_))))
  refine X_o K M ?_; clear K; intro a K
  obtain ⟨r2, h_r2, h⟩ := obind h
  refine X_a K (ac_call (vs := [I o, I 1, I 64]) (cap := []) rfl fok34 K rfl rfl (W_darkslideref_within N o 1 64 _  r2 h_r2)) ?_
  have M0 := M; clear K M; rintro _ a w ⟨rfl, M⟩ K
  replace M := M0.call M; clear M0
  refine X_o K M ?_; clear K
  refine Y_o M ?_; intro a K
  rcases Bool.eq_false_or_eq_true (!(r2)) with hb | hb
  · have h := ctrue hb h
    have K := K.reb (s := 26) rfl hb
    refine X_o K M ?_; clear K
    iterate 3 (refine Y_o M ?_)
    intro a K
    refine wpList_nil (then_n ?_)
    refine X_condT K rfl ?_
    refine wp_seq (X_reg ?_)
    refine X_r K (rd_build rfl K (vs := []) (cs := [I 0, I 0, .slice none ([] : List Int).length 0]) rfl (by kernel_rfl)) M ?_; clear K; intro a K
    refine X_b K (ac_storeA rfl ty38 K rfl (ds := [I 0, I 0, .slice none ([] : List Int).length 0]) rfl rfl 0 M rfl rfl rfl) ?_
    clear K M; rintro _ a w M K
    refine X_o K M ?_; clear K; intro a K
    refine wpList_nil (then_n (wp_ret (then_r ?_)))
    cases h
    exact ret2 K rfl (res_cellA K rfl ty38 (M.blkAt (i := 0) rfl) rfl) (res_tmp K rfl) ⟨_, rfl, _, _, rfl, (((Mem.nilrow 3 1 (cI .i64) M)).pick [0] (by decide))⟩
  have h := cfalse hb h
  have K := K.reb (s := 26) rfl hb
  refine X_o K M ?_; clear K; intro a K
  obtain ⟨r3, h_r3, h⟩ := obind h
  refine X_a K (ac_call (vs := [I p2, I 1, I 64]) (cap := []) rfl fok34 K rfl rfl (W_darkslideref_within N p2 1 64 _  r3 h_r3)) ?_
  have M0 := M; clear K M; rintro _ a w ⟨rfl, M⟩ K
  replace M := M0.call M; clear M0
  refine X_o K M ?_; clear K
  refine Y_o M ?_; intro a K
  refine wpList_nil (then_n ?_)
  refine X_cond K rfl (fun hb => ?_) (fun hb => ?_)
  · have h := ctrue hb h
    refine wp_seq (X_reg ?_)
    refine X_r K (rd_build rfl K (vs := []) (cs := [I 0, I 0, .slice none ([] : List Int).length 0]) rfl (by kernel_rfl)) M ?_; clear K; intro a K
    refine X_b K (ac_storeA rfl ty38 K rfl (ds := [I 0, I 0, .slice none ([] : List Int).length 0]) rfl rfl 0 M rfl rfl rfl) ?_
    clear K M; rintro _ a w M K
    refine X_o K M ?_; clear K; intro a K
    refine wpList_nil (then_n (wp_ret (then_r ?_)))
    cases h
    exact ret2 K rfl (res_cellA K rfl ty38 (M.blkAt (i := 0) rfl) rfl) (res_tmp K rfl) ⟨_, rfl, _, _, rfl, (((Mem.nilrow 3 1 (cI .i64) M)).pick [0] (by decide))⟩
  have h := cfalse hb h
  refine wp_skip (then_n (wp_seq (wp_seq (X_reg ?_))))
  refine X_o K M ?_; clear K; intro a K
  obtain ⟨r4, h_r4, h⟩ := obind h
  refine X_a K (ac_call (vs := [I p3, I 1, I 7]) (cap := []) rfl fok34 K rfl rfl (W_darkslideref_within N p3 1 7 _  r4 h_r4)) ?_
  have M0 := M; clear K M; rintro _ a w ⟨rfl, M⟩ K
  replace M := M0.call M; clear M0
  refine X_o K M ?_; clear K; intro a K
  refine wpList_nil (then_n ?_)
  refine X_cond K rfl (fun hb => ?_) (fun hb => ?_)
  · have h := ctrue hb h
    refine wp_seq (X_reg ?_)
    refine X_r K (rd_build rfl K (vs := []) (cs := [I 0, I 0, .slice none ([] : List Int).length 0]) rfl (by kernel_rfl)) M ?_; clear K; intro a K
    refine X_b K (ac_storeA rfl ty38 K rfl (ds := [I 0, I 0, .slice none ([] : List Int).length 0]) rfl rfl 0 M rfl rfl rfl) ?_
    clear K M; rintro _ a w M K
    refine X_o K M ?_; clear K; intro a K
    refine wpList_nil (then_n (wp_ret (then_r ?_)))
    cases h
    exact ret2 K rfl (res_cellA K rfl ty38 (M.blkAt (i := 0) rfl) rfl) (res_tmp K rfl) ⟨_, rfl, _, _, rfl, (((Mem.nilrow 3 1 (cI .i64) M)).pick [0] (by decide))⟩
  have h := cfalse hb h
  refine wp_skip (then_n (wp_seq (wp_seq (X_reg ?_))))
  refine X_o K M ?_; clear K; intro a K
  obtain ⟨r5, h_r5, h⟩ := obind h
  refine X_a K (ac_call (vs := [.slice A_p4 p4.length c_p4]) (cap := []) rfl fok29 K rfl rfl (W_darkslideref_CheckCode N p4 A_p4 c_p4 _ ((inA R_p4) _ M) C_p4 r5 h_r5)) ?_
  have M0 := M; clear K M; rintro _ a w ⟨rfl, M⟩ K
  replace M := M0.call M; clear M0
  refine X_o K M ?_; clear K; intro a K
  refine wpList_nil (then_n (wp_seq (X_reg ?_)))
  refine X_o K M ?_; clear K
  refine Y_o M ?_; intro a K
  refine wpList_nil (then_n ?_)
  refine X_cond K rfl (fun hb => ?_) (fun hb => ?_)
  · have h := ctrue hb h
    refine wp_seq (X_reg ?_)
    refine X_r K (rd_build rfl K (vs := []) (cs := [I 0, I 0, .slice none ([] : List Int).length 0]) rfl (by kernel_rfl)) M ?_; clear K
    refine Y_o M ?_; intro a K
    refine X_b K (ac_storeA rfl ty38 K rfl (ds := [I 0, I 0, .slice none ([] : List Int).length 0]) rfl rfl 0 M rfl rfl rfl) ?_
    clear K M; rintro _ a w M K
    refine X_o K M ?_; clear K; intro a K
    refine wpList_nil (then_n (wp_ret (then_r ?_)))
    cases h
    exact ret2 K rfl (res_cellA K rfl ty38 (M.blkAt (i := 0) rfl) rfl) (res_tmp K rfl) ⟨_, rfl, _, _, rfl, (((Mem.nilrow 3 1 (cI .i64) M)).pick [0] (by decide))⟩
  have h := cfalse hb h
  refine wp_skip (then_n (wp_seq (X_reg ?_)))
  refine X_o K M ?_; clear K; intro a K
  obtain ⟨r6, h_r6, h⟩ := obind h
  refine X_a K (ac_call (vs := [.slice A_p4 p4.length c_p4]) (cap := []) rfl fok30 K rfl rfl (W_darkslideref_WordsOf N p4 A_p4 c_p4 _ ((inA R_p4) _ M) C_p4 r6 h_r6)) ?_
  have M0 := M; clear K M; rintro _ a w ⟨A, c, rfl, M⟩ K
  replace M := M0.call M; clear M0
  refine X_o K M ?_; clear K; intro a K
  refine wpList_nil (then_n (wp_seq (wp_seq (X_reg ?_))))
  refine X_o K M ?_; clear K
  refine Y_r (fun _ K => rd_lenT rfl st9 K rfl) M ?_
  refine Y_o M ?_; intro a K
  refine wpList_nil (then_n ?_)
  refine X_cond K rfl (fun hb => ?_) (fun hb => ?_)
  · have h := ctrue hb h
    refine wp_seq (X_reg ?_)
    refine X_r K (rd_build rfl K (vs := []) (cs := [I 0, I 0, .slice none ([] : List Int).length 0]) rfl (by kernel_rfl)) M ?_; clear K; intro a K
    refine X_b K (ac_storeA rfl ty38 K rfl (ds := [I 0, I 0, .slice none ([] : List Int).length 0]) rfl rfl 1 M rfl rfl rfl) ?_
    clear K M; rintro _ a w M K
    refine X_o K M ?_; clear K; intro a K
    refine wpList_nil (then_n (wp_ret (then_r ?_)))
    cases h
    exact ret2 K rfl (res_cellA K rfl ty38 (M.blkAt (i := 1) rfl) rfl) (res_tmp K rfl) ⟨_, rfl, _, _, rfl, (((Mem.nilrow 3 1 (cI .i64) M)).pick [0] (by decide))⟩
  have h := cfalse hb h
  refine wp_skip (then_n (wp_seq (X_reg ?_)))
  refine X_o K M ?_; clear K; intro a K
  obtain ⟨r7, h_r7, h⟩ := obind h
  refine X_a K (ac_call (vs := [.string (bs d)]) (cap := []) rfl fok58 K rfl rfl (W_darkslideref_Row N d _  r7 h_r7)) ?_
  have M0 := M; clear K M; rintro _ a w ⟨rfl, M⟩ K
  replace M := M0.call M; clear M0
  refine X_o K M ?_; clear K; intro a K
  refine wpList_nil (then_n (wp_seq (X_reg ?_)))
  refine X_o K M ?_; clear K
  iterate 3 (refine Y_o M ?_)
  obtain ⟨x2, hx, h⟩ := olet h
  refine Y_r (fun _ K => rdi hx (rd_mul rfl K rfl rfl)) M ?_; intro a K
  obtain ⟨l2, h_l2, h⟩ := obind h
  refine X_a K (ac_make (C := (cI .i64)) (z := 0) rfl sl22 rfl z3 rfl K rfl rfl M h_l2) ?_
  clear K M; rintro _ a w ⟨A2, c2, rfl, M⟩ K
  refine X_r K (rd_build rfl K (vs := [(0, I o), (1, I p2), (2, .slice A2 l2.length c2)]) (cs := [I o, I p2, .slice A2 l2.length c2]) rfl (by kernel_rfl)) M ?_; clear K; intro a K
  refine X_a K (ac_alloc rfl z38 M) ?_
  clear K M; rintro _ a w ⟨g_x2, rfl, M⟩ K
  refine X_b K (ac_storeA rfl ty38 K rfl (ds := [I o, I p2, .slice A2 l2.length c2]) rfl rfl 0 M rfl rfl rfl) ?_
  clear K M; rintro _ a w M K
  refine wpList_nil (then_n (wp_seq (wp_seq (X_reg ?_))))
  refine X_o K M ?_; clear K; intro a K
  refine wpList_nil (then_n (wp_block ?_))
  refine X_lp (id := 0) (Rel := fun (⟨x_P, i, i2⟩ : List Int × List UInt8 × Int) a w => Kn a 142 [(0, .string (bs d)), (1, I o), (2, I p2), (3, I p3), (4, .slice A_p4 p4.length c_p4), (10, .pointer (some ⟨g_x, 0, none⟩)), (13, .slice A r6.length c), (14, .string (bs i)), (15, .pointer (some ⟨g_x2, 0, none⟩)), (16, I i2)] ∧ Mem w0.heap.size w0 w [.blk g_x2 38 [I o, I p2, .slice A2 x_P.length c2], .row 3 1 A2 x_P.length c2 ((cI .i64).all x_P), .row 9 1 A r6.length c (cS.all r6), .blk g_x 38 [I 0, I 0, .slice none ([] : List Int).length 0]]) h (fun _ _ => rfl) ⟨K.pick [0,1,2,3,4,10,13,14,15,16], M.pick [0,1,2,3] (by decide)⟩ ?_ ?_
  · clear K M h
    rintro ⟨x_P2, i3, i4⟩ a w ⟨K, M⟩ h
    try dsimp only at h
    refine inb_e ?_
    refine then_n (wp_seq (wp_seq (X_reg ?_)))
    refine X_r K (rd_ldA rfl ty38 K rfl (inM 0 rfl) rfl rfl) M ?_; clear K
    iterate 2 (refine Y_o M ?_)
    intro a K
    obtain ⟨r24, h_r24, h⟩ := obind h
    refine X_a K (ac_call (vs := [.agg #[I o, I p2, .slice A2 x_P2.length c2], I p3, .slice A_p4 p4.length c_p4]) (cap := []) rfl fok23 K rfl rfl (W_darkslideref_WriteDiff N o p2 x_P2 A2 c2 p3 p4 A_p4 c_p4 _ ((inR (C := (cI .i64)) 1 rfl rfl) _ M) (M.cap 1 rfl) ((inA R_p4) _ M) C_p4 r24 h_r24)) ?_
    have M0 := M; clear K M; rintro _ a w ⟨rfl, M⟩ K
    replace M := M0.call M; clear M0
    refine X_o K M ?_; clear K
    iterate 4 (refine Y_o M ?_)
    intro a K
    refine wpList_nil (then_n (wp_seq (X_reg ?_)))
    refine X_o K M ?_; clear K
    iterate 2 (refine Y_o M ?_)
    intro a K
    rcases Bool.eq_false_or_eq_true (!decide (r24.2 = 0)) with hb | hb
    · have h := ctrue hb h
      have K := K.reb (s := 135) rfl hb
      refine X_o K M ?_; clear K
      iterate 3 (refine Y_o M ?_)
      intro a K
      refine wpList_nil (then_n ?_)
      refine X_condT K rfl ?_
      refine wp_seq (X_reg ?_)
      refine X_r K (rd_build rfl K (vs := []) (cs := [I 0, I 0, .slice none ([] : List Int).length 0]) rfl (by kernel_rfl)) M ?_; clear K; intro a K
      refine X_b K (ac_storeA rfl ty38 K rfl (ds := [I 0, I 0, .slice none ([] : List Int).length 0]) rfl rfl 3 M rfl rfl rfl) ?_
      clear K M; rintro _ a w M K
      refine X_o K M ?_; clear K; intro a K
      refine wpList_nil (then_n (wp_ret (then_r ?_)))
      cases h
      exact ret2 K rfl (res_cellA K rfl ty38 (M.blkAt (i := 3) rfl) rfl) (res_tmp K rfl) ⟨_, rfl, _, _, rfl, (((Mem.nilrow 3 1 (cI .i64) M)).pick [0] (by decide))⟩
    have h := cfalse hb h
    have K := K.reb (s := 135) rfl hb
    refine X_o K M ?_; clear K
    refine Y_o M ?_
    refine Y_r (fun _ K => rd_neqS rfl K rfl rfl) M ?_
    refine Y_o M ?_; intro a K
    refine wpList_nil (then_n ?_)
    refine X_cond K rfl (fun hb => ?_) (fun hb => ?_)
    · have h := ctrue hb h
      refine wp_seq (X_reg ?_)
      refine X_r K (rd_build rfl K (vs := []) (cs := [I 0, I 0, .slice none ([] : List Int).length 0]) rfl (by kernel_rfl)) M ?_; clear K; intro a K
      refine X_b K (ac_storeA rfl ty38 K rfl (ds := [I 0, I 0, .slice none ([] : List Int).length 0]) rfl rfl 3 M rfl rfl rfl) ?_
      clear K M; rintro _ a w M K
      refine X_o K M ?_; clear K; intro a K
      refine wpList_nil (then_n (wp_ret (then_r ?_)))
      cases h
      exact ret2 K rfl (res_cellA K rfl ty38 (M.blkAt (i := 3) rfl) rfl) (res_tmp K rfl) ⟨_, rfl, _, _, rfl, (((Mem.nilrow 3 1 (cI .i64) M)).pick [0] (by decide))⟩
    have h := cfalse hb h
    refine wp_skip (then_n (wp_seq (X_reg ?_)))
    refine X_r K (rd_ldA rfl ty38 K rfl (inM 0 rfl) rfl rfl) M ?_; clear K; intro a K
    refine X_b K (ac_storeA rfl ty38 K rfl (ds := [I o, I p2, .slice A2 x_P2.length c2]) rfl rfl 3 M rfl rfl rfl) ?_
    clear K M; rintro _ a w M K
    refine X_o K M ?_; clear K; intro a K
    refine wpList_nil (then_n (wp_ret ?_))
    cases h
    exact ret2 K rfl (res_cellA K rfl ty38 (M.blkAt (i := 3) rfl) rfl) (res_tmp K rfl) ⟨_, rfl, _, _, rfl, ((M).pick [1] (by decide))⟩
  clear K M h
  rintro kk fuel ⟨x_P, i, i2⟩ a w hk1 ⟨K, M⟩ h
  unfold D_darkslideref_ReadDiff_l1 at h
  refine wp_seq (wp_seq (X_reg ?_))
  refine X_o K M ?_; clear K
  iterate 4 (refine Y_o M ?_)
  intro a K
  refine wpList_nil (then_n ?_)
  refine X_cond K rfl (fun hb => ?_) (fun hb => ?_)
  · have h := ctrue hb h
    refine wp_skip (then_n (wp_seq (wp_block (wp_seq (X_reg ?_)))))
    refine X_o K M ?_; clear K
    refine Y_o M ?_; intro a K
    obtain ⟨r16, h_r16, h⟩ := obind h
    refine X_a K (ac_call (vs := [.slice A r6.length c, .string (bs i)]) (cap := []) rfl fok35 K rfl rfl (W_darkslideref_front N r6 A c i _ ((inR (C := cS) 2 rfl rfl) _ M) (M.cap 2 rfl) r16 h_r16)) ?_
    have M0 := M; clear K M; rintro _ a w ⟨rfl, M⟩ K
    replace M := M0.call M; clear M0
    refine X_o K M ?_; clear K
    iterate 4 (refine Y_o M ?_)
    intro a K
    refine wpList_nil (then_n (wp_seq (wp_seq (X_reg ?_))))
    refine X_o K M ?_; clear K
    refine Y_o M ?_; intro a K
    refine wpList_nil (then_n ?_)
    refine X_cond K rfl (fun hb => ?_) (fun hb => ?_)
    · have h := ctrue hb h
      refine wp_seq (X_reg ?_)
      refine X_r K (rd_build rfl K (vs := []) (cs := [I 0, I 0, .slice none ([] : List Int).length 0]) rfl (by kernel_rfl)) M ?_; clear K; intro a K
      refine X_b K (ac_storeA rfl ty38 K rfl (ds := [I 0, I 0, .slice none ([] : List Int).length 0]) rfl rfl 3 M rfl rfl rfl) ?_
      clear K M; rintro _ a w M K
      refine X_o K M ?_; clear K; intro a K
      refine wpList_nil (then_n (wp_ret (then_r (inb_r (then_r (then_r (inb_r (then_r ?_))))))))
      cases h
      exact ret2 K rfl (res_cellA K rfl ty38 (M.blkAt (i := 3) rfl) rfl) (res_tmp K rfl) ⟨_, rfl, _, _, rfl, (((Mem.nilrow 3 1 (cI .i64) M)).pick [0] (by decide))⟩
    have h := cfalse hb h
    refine wp_skip (then_n (wp_seq (X_reg ?_)))
    refine X_o K M ?_; clear K
    iterate 2 (refine Y_o M ?_)
    obtain ⟨e5, h_e5, h⟩ := obind h
    refine Y_r (fun _ K => rd_ix rfl sl31 K rfl rfl (inR (C := cS) 2 rfl rfl) h_e5) M ?_
    refine Y_r (fun _ K => rd_elC rfl sc9 K rfl rfl (inR (C := cS) 2 rfl rfl) h_e5 rfl) M ?_
    refine Y_r (fun _ K => rd_lenT rfl st9 K rfl) M ?_
    obtain ⟨s5, h_s5, h⟩ := obind h
    refine Y_r (fun _ K => rd_sliceS (k := .i64) (k' := .i64) rfl st9 K rfl rfl rfl h_s5) M ?_
    refine Y_o M ?_; intro a K
    refine wpList_nil (then_n (wp_seq (X_reg ?_)))
    refine X_o K M ?_; clear K; intro a K
    refine wpList_nil (then_n (wp_seq (wp_block (wp_seq (X_reg ?_)))))
    refine X_o K M ?_; clear K
    iterate 2 (refine Y_o M ?_)
    intro a K
    refine wpList_nil (then_n ?_)
    refine X_cond K rfl (fun hb => ?_) (fun hb => ?_)
    · have h := ctrue hb h
      refine X_reg ?_
      refine X_o K M ?_; clear K; intro a K
      refine wpList_nil (inb_n (then_n (wp_seq ?_)))
      refine wp_region_tl (fun w => Mem _ _ w _) [0,0,0,0,0,0,0,0,1,0,0,0] (by kernel_rfl) (by kernel_rfl) M.drew ?_
      replace M := M.drew
      refine T_r K (rd_ldA rfl ty38 K rfl (inM 0 rfl) rfl rfl) ?_; clear K
      iterate 3 (refine U_o ?_)
      intro a K
      obtain ⟨_, h0, h⟩ := obind h
      have h0 := nz_spec h0
      refine T_r K (rd_rem rfl K rfl rfl h0) ?_; clear K
      iterate 2 (refine U_o ?_)
      intro a K
      obtain ⟨_, h0, h⟩ := obind h
      have h0 := nz_spec h0
      refine T_r K (rd_quo rfl K rfl rfl h0) ?_; clear K; intro a K
      obtain ⟨r17, h_r17, h⟩ := obind h
      refine T_a K (ac_call (vs := [.agg #[I o, I p2, .slice A2 x_P.length c2], I p3, I (Int.tmod i2 o), I (IntKind.i64.wrap (Int.tdiv i2 o))]) (cap := []) rfl fok21 K rfl rfl (W_darkslideref_GuessOf N o p2 x_P A2 c2 p3 (Int.tmod i2 o) (IntKind.i64.wrap (Int.tdiv i2 o)) _ ((inR (C := (cI .i64)) 1 rfl rfl) _ M) (M.cap 1 rfl) r17 h_r17)) ?_
      have M0 := M; clear K M; rintro _ a w ⟨rfl, M⟩ K
      replace M := M0.call M; clear M0
      refine ⟨M.pick [0,1,2,3] (by decide), ?_⟩
      refine T_o K ?_; clear K
      refine U_o ?_
      obtain ⟨x10, hx, h⟩ := olet h
      refine U_r (fun _ K => rdi hx (rd_assign rfl K rfl)) ?_; intro a K
      refine T_end ?_
      refine then_n ?_
      refine wp_region_tl (fun w => Mem _ _ w _) [0,0,0,0,0,1,0,0,0,2] (by kernel_rfl) (by kernel_rfl) M.drew ?_
      replace M := M.drew
      refine T_r K (rd_field rfl fld38_2 K rfl) ?_; clear K
      refine U_r (fun _ K => rd_ldC rfl sc22 K rfl (inM 0 rfl) rfl) ?_
      iterate 3 (refine U_o ?_)
      intro a K
      obtain ⟨r18, h_r18, h⟩ := obind h
      refine T_a K (ac_call (vs := [I x10, I 65536]) (cap := []) rfl fok47 K rfl rfl (W_darkslideref_down N x10 65536 _  r18 h_r18)) ?_
      have M0 := M; clear K M; rintro _ a w ⟨rfl, M⟩ K
      replace M := M0.call M; clear M0
      refine ⟨M.pick [0,1,2,3] (by decide), ?_⟩
      refine T_o K ?_; clear K
      refine U_o ?_
      obtain ⟨e6, h_e6, h⟩ := obind h
      refine U_r (fun _ K => rd_ixP rfl sl22 K rfl rfl ((inR (C := (cI .i64)) 1 rfl rfl) _ M) h_e6) ?_; intro a K
      obtain ⟨l6, h_l6, h⟩ := obind h
      refine T_b K (ac_rowset (el := IntKind.i64.wrap (x10 - (IntKind.i64.wrap (65536 * r18)))) rfl sz3 rfl rfl K rfl rfl rfl 1 M rfl h_l6) ?_
      have M0 := M; clear K M; rintro _ a w M K
      have hl := setL_len h_l6
      try rw [hl] at M
      try rw [hl] at K
      clear hl
      clear M0
      refine T_end ?_
      refine inb_n (then_n (X_reg ?_))
      refine X_o K M ?_; clear K
      refine Y_o M ?_
      obtain ⟨x11, hx, h⟩ := olet h
      refine Y_r (fun _ K => rdi hx (rd_assign rfl K rfl)) M ?_; intro a K
      refine wpList_nil ?_
      exact then_n ⟨(l6, s5, x11), ⟨K.pick [0,1,2,3,4,10,13,14,15,16], M.pick [0,1,2,3] (by decide)⟩, h⟩
    have h := cfalse hb h
    refine wp_seq (X_reg ?_)
    refine X_o K M ?_; clear K
    refine Y_r (fun _ K => rd_lenT rfl st9 K rfl) M ?_
    iterate 3 (refine Y_o M ?_)
    intro a K
    refine wpList_nil (then_n ?_)
    refine X_cond K rfl (fun hb => ?_) (fun hb => ?_)
    · have h := ctrue hb h
      refine wp_seq (X_reg ?_)
      refine X_r K (rd_build rfl K (vs := []) (cs := [I 0, I 0, .slice none ([] : List Int).length 0]) rfl (by kernel_rfl)) M ?_; clear K; intro a K
      refine X_b K (ac_storeA rfl ty38 K rfl (ds := [I 0, I 0, .slice none ([] : List Int).length 0]) rfl rfl 3 M rfl rfl rfl) ?_
      clear K M; rintro _ a w M K
      refine X_o K M ?_; clear K; intro a K
      refine wpList_nil (then_n (wp_ret (inb_r (then_r (inb_r (then_r (then_r (inb_r (then_r ?_)))))))))
      cases h
      exact ret2 K rfl (res_cellA K rfl ty38 (M.blkAt (i := 3) rfl) rfl) (res_tmp K rfl) ⟨_, rfl, _, _, rfl, (((Mem.nilrow 3 1 (cI .i64) M)).pick [0] (by decide))⟩
    have h := cfalse hb h
    refine wp_seq (X_reg ?_)
    refine X_o K M ?_; clear K
    refine Y_o M ?_
    obtain ⟨s6, h_s6, h⟩ := obind h
    refine Y_r (fun _ K => rd_sliceS (k := .i64) (k' := .i64) rfl st9 K rfl rfl rfl h_s6) M ?_; intro a K
    obtain ⟨r19, h_r19, h⟩ := obind h
    refine X_a K (ac_call (vs := [.string (bs s6)]) (cap := []) rfl fok59 K rfl rfl (W_darkslideref_Value N s6 _  r19 h_r19)) ?_
    have M0 := M; clear K M; rintro _ a w ⟨rfl, M⟩ K
    replace M := M0.call M; clear M0
    refine X_o K M ?_; clear K; intro a K
    refine wpList_nil (then_n (wp_seq (wp_seq (X_reg ?_))))
    refine X_o K M ?_; clear K
    refine Y_o M ?_; intro a K
    obtain ⟨_, h0, h⟩ := obind h
    have h0 := nn_spec h0
    refine X_r K (rd_shl rfl K rfl rfl h0) M ?_; clear K
    refine Y_r (fun _ K => rd_quo rfl K rfl rfl (by decide)) M ?_
    refine Y_o M ?_; intro a K
    refine wpList_nil (then_n ?_)
    refine X_cond K rfl (fun hb => ?_) (fun hb => ?_)
    · have h := ctrue hb h
      refine X_reg ?_
      refine X_o K M ?_; clear K
      refine Y_o M ?_; intro a K
      obtain ⟨_, h0, h⟩ := obind h
      have h0 := nn_spec h0
      refine X_r K (rd_shl rfl K rfl rfl h0) M ?_; clear K
      iterate 2 (refine Y_o M ?_)
      obtain ⟨x12, hx, h⟩ := olet h
      refine Y_r (fun _ K => rdi hx (rd_assign rfl K rfl)) M ?_; intro a K
      refine wpList_nil (then_n (X_reg ?_))
      refine X_o K M ?_; clear K
      refine Y_o M ?_
      obtain ⟨s7, h_s7, h⟩ := obind h
      refine Y_r (fun _ K => rd_sliceS (k := .i64) (k' := .i64) rfl st9 K rfl rfl rfl h_s7) M ?_
      refine Y_o M ?_; intro a K
      refine wpList_nil (inb_n (then_n (wp_seq ?_)))
      refine wp_region_tl (fun w => Mem _ _ w _) [0,0,0,0,0,0,0,0,1,0,0,0] (by kernel_rfl) (by kernel_rfl) M.drew ?_
      replace M := M.drew
      refine T_r K (rd_ldA rfl ty38 K rfl (inM 0 rfl) rfl rfl) ?_; clear K
      iterate 3 (refine U_o ?_)
      intro a K
      obtain ⟨_, h0, h⟩ := obind h
      have h0 := nz_spec h0
      refine T_r K (rd_rem rfl K rfl rfl h0) ?_; clear K
      iterate 2 (refine U_o ?_)
      intro a K
      obtain ⟨_, h0, h⟩ := obind h
      have h0 := nz_spec h0
      refine T_r K (rd_quo rfl K rfl rfl h0) ?_; clear K; intro a K
      obtain ⟨r20, h_r20, h⟩ := obind h
      refine T_a K (ac_call (vs := [.agg #[I o, I p2, .slice A2 x_P.length c2], I p3, I (Int.tmod i2 o), I (IntKind.i64.wrap (Int.tdiv i2 o))]) (cap := []) rfl fok21 K rfl rfl (W_darkslideref_GuessOf N o p2 x_P A2 c2 p3 (Int.tmod i2 o) (IntKind.i64.wrap (Int.tdiv i2 o)) _ ((inR (C := (cI .i64)) 1 rfl rfl) _ M) (M.cap 1 rfl) r20 h_r20)) ?_
      have M0 := M; clear K M; rintro _ a w ⟨rfl, M⟩ K
      replace M := M0.call M; clear M0
      refine ⟨M.pick [0,1,2,3] (by decide), ?_⟩
      refine T_o K ?_; clear K
      refine U_o ?_
      obtain ⟨x13, hx, h⟩ := olet h
      refine U_r (fun _ K => rdi hx (rd_assign rfl K rfl)) ?_; intro a K
      refine T_end ?_
      refine then_n ?_
      refine wp_region_tl (fun w => Mem _ _ w _) [0,0,0,0,0,1,0,0,0,2] (by kernel_rfl) (by kernel_rfl) M.drew ?_
      replace M := M.drew
      refine T_r K (rd_field rfl fld38_2 K rfl) ?_; clear K
      refine U_r (fun _ K => rd_ldC rfl sc22 K rfl (inM 0 rfl) rfl) ?_
      iterate 3 (refine U_o ?_)
      intro a K
      obtain ⟨r21, h_r21, h⟩ := obind h
      refine T_a K (ac_call (vs := [I x13, I 65536]) (cap := []) rfl fok47 K rfl rfl (W_darkslideref_down N x13 65536 _  r21 h_r21)) ?_
      have M0 := M; clear K M; rintro _ a w ⟨rfl, M⟩ K
      replace M := M0.call M; clear M0
      refine ⟨M.pick [0,1,2,3] (by decide), ?_⟩
      refine T_o K ?_; clear K
      refine U_o ?_
      obtain ⟨e7, h_e7, h⟩ := obind h
      refine U_r (fun _ K => rd_ixP rfl sl22 K rfl rfl ((inR (C := (cI .i64)) 1 rfl rfl) _ M) h_e7) ?_; intro a K
      obtain ⟨l7, h_l7, h⟩ := obind h
      refine T_b K (ac_rowset (el := IntKind.i64.wrap (x13 - (IntKind.i64.wrap (65536 * r21)))) rfl sz3 rfl rfl K rfl rfl rfl 1 M rfl h_l7) ?_
      have M0 := M; clear K M; rintro _ a w M K
      have hl := setL_len h_l7
      try rw [hl] at M
      try rw [hl] at K
      clear hl
      clear M0
      refine T_end ?_
      refine inb_n (then_n (X_reg ?_))
      refine X_o K M ?_; clear K
      refine Y_o M ?_
      obtain ⟨x14, hx, h⟩ := olet h
      refine Y_r (fun _ K => rdi hx (rd_assign rfl K rfl)) M ?_; intro a K
      refine wpList_nil ?_
      exact then_n ⟨(l7, s7, x14), ⟨K.pick [0,1,2,3,4,10,13,14,15,16], M.pick [0,1,2,3] (by decide)⟩, h⟩
    have h := cfalse hb h
    refine wp_skip (then_n (X_reg ?_))
    refine X_o K M ?_; clear K
    refine Y_o M ?_
    obtain ⟨s8, h_s8, h⟩ := obind h
    refine Y_r (fun _ K => rd_sliceS (k := .i64) (k' := .i64) rfl st9 K rfl rfl rfl h_s8) M ?_
    refine Y_o M ?_; intro a K
    refine wpList_nil (inb_n (then_n (wp_seq ?_)))
    refine wp_region_tl (fun w => Mem _ _ w _) [0,0,0,0,0,0,0,0,1,0,0,0] (by kernel_rfl) (by kernel_rfl) M.drew ?_
    replace M := M.drew
    refine T_r K (rd_ldA rfl ty38 K rfl (inM 0 rfl) rfl rfl) ?_; clear K
    iterate 3 (refine U_o ?_)
    intro a K
    obtain ⟨_, h0, h⟩ := obind h
    have h0 := nz_spec h0
    refine T_r K (rd_rem rfl K rfl rfl h0) ?_; clear K
    iterate 2 (refine U_o ?_)
    intro a K
    obtain ⟨_, h0, h⟩ := obind h
    have h0 := nz_spec h0
    refine T_r K (rd_quo rfl K rfl rfl h0) ?_; clear K; intro a K
    obtain ⟨r22, h_r22, h⟩ := obind h
    refine T_a K (ac_call (vs := [.agg #[I o, I p2, .slice A2 x_P.length c2], I p3, I (Int.tmod i2 o), I (IntKind.i64.wrap (Int.tdiv i2 o))]) (cap := []) rfl fok21 K rfl rfl (W_darkslideref_GuessOf N o p2 x_P A2 c2 p3 (Int.tmod i2 o) (IntKind.i64.wrap (Int.tdiv i2 o)) _ ((inR (C := (cI .i64)) 1 rfl rfl) _ M) (M.cap 1 rfl) r22 h_r22)) ?_
    have M0 := M; clear K M; rintro _ a w ⟨rfl, M⟩ K
    replace M := M0.call M; clear M0
    refine ⟨M.pick [0,1,2,3] (by decide), ?_⟩
    refine T_o K ?_; clear K
    refine U_o ?_
    obtain ⟨x15, hx, h⟩ := olet h
    refine U_r (fun _ K => rdi hx (rd_assign rfl K rfl)) ?_; intro a K
    refine T_end ?_
    refine then_n ?_
    refine wp_region_tl (fun w => Mem _ _ w _) [0,0,0,0,0,1,0,0,0,2] (by kernel_rfl) (by kernel_rfl) M.drew ?_
    replace M := M.drew
    refine T_r K (rd_field rfl fld38_2 K rfl) ?_; clear K
    refine U_r (fun _ K => rd_ldC rfl sc22 K rfl (inM 0 rfl) rfl) ?_
    iterate 3 (refine U_o ?_)
    intro a K
    obtain ⟨r23, h_r23, h⟩ := obind h
    refine T_a K (ac_call (vs := [I x15, I 65536]) (cap := []) rfl fok47 K rfl rfl (W_darkslideref_down N x15 65536 _  r23 h_r23)) ?_
    have M0 := M; clear K M; rintro _ a w ⟨rfl, M⟩ K
    replace M := M0.call M; clear M0
    refine ⟨M.pick [0,1,2,3] (by decide), ?_⟩
    refine T_o K ?_; clear K
    refine U_o ?_
    obtain ⟨e8, h_e8, h⟩ := obind h
    refine U_r (fun _ K => rd_ixP rfl sl22 K rfl rfl ((inR (C := (cI .i64)) 1 rfl rfl) _ M) h_e8) ?_; intro a K
    obtain ⟨l8, h_l8, h⟩ := obind h
    refine T_b K (ac_rowset (el := IntKind.i64.wrap (x15 - (IntKind.i64.wrap (65536 * r23)))) rfl sz3 rfl rfl K rfl rfl rfl 1 M rfl h_l8) ?_
    have M0 := M; clear K M; rintro _ a w M K
    have hl := setL_len h_l8
    try rw [hl] at M
    try rw [hl] at K
    clear hl
    clear M0
    refine T_end ?_
    refine inb_n (then_n (X_reg ?_))
    refine X_o K M ?_; clear K
    refine Y_o M ?_
    obtain ⟨x16, hx, h⟩ := olet h
    refine Y_r (fun _ K => rdi hx (rd_assign rfl K rfl)) M ?_; intro a K
    refine wpList_nil ?_
    exact then_n ⟨(l8, s8, x16), ⟨K.pick [0,1,2,3,4,10,13,14,15,16], M.pick [0,1,2,3] (by decide)⟩, h⟩
  have h := cfalse hb h
  refine wp_exit ?_
  refine then_e ?_
  exact then_e (hk1 (x_P, i, i2) _ _ ⟨K.pick [0,1,2,3,4,10,13,14,15,16], M.pick [0,1,2,3] (by decide)⟩ h)
end Go.Proofs.YtpmnfhifmmfglacDoor

namespace Go.Proofs.YtpmnfhifmmfglacDoor
open Go.RowKit
set_option maxRecDepth 100000 in
set_option maxHeartbeats 4000000 in
theorem W_darkslidelaw_DiffReads (N : Nat) (s : List UInt8) (w2 : Int) (h2 : Int) (kind : Int) (c : List Int) (A_c : Option Addr) (c_c : Nat) (w0 : World) (R_c : SL w0 (cI .i64) A_c c) (C_c : c.length ≤ c_c) (r : Bool) (h : D_darkslidelaw_DiffReads N s w2 h2 kind c = some r) :
    Calls Tryd.prog 7 #[.string (bs s), I w2, I h2, I kind, .slice A_c c.length c_c] w0 fun e w' => ∃ v, e = .returned v ∧ v = .bool r ∧ Mem w0.heap.size w0 w' [] := by
  refine X_enter Tryd.func7 rfl Tryd.ntmps7 rfl ?_
  intro a K
  have M := Mem.start w0
  have K : Kn a 44 [(0, .string (bs s)), (1, I w2), (2, I h2), (3, I kind), (4, .slice A_c c.length c_c)] := K
  unfold D_darkslidelaw_DiffReads at h
  refine wp_seq (X_reg ?_)
  refine X_o K M ?_; clear K; intro a K
  refine wpList_nil (then_n (wp_seq (X_reg ?_)))
  refine X_o K M ?_; clear K
  iterate 4 (refine Y_o M ?_)
  intro a K
  obtain ⟨r2, h_r2, h⟩ := obind h
  refine X_a K (ac_call (vs := [.string (bs s), I w2, I h2, I kind, .slice A_c c.length c_c]) (cap := []) rfl fok24 K rfl rfl (W_diff_Read N s w2 h2 kind c A_c c_c _ ((inA R_c) _ M) C_c r2 h_r2)) ?_
  have M0 := M; clear K M; rintro _ a w ⟨A, c2, rfl, M⟩ K
  replace M := M0.call M; clear M0
  refine X_o K M ?_; clear K
  iterate 2 (refine Y_o M ?_)
  intro a K
  refine X_a K (ac_alloc rfl z38 M) ?_
  clear K M; rintro _ a w ⟨g_p, rfl, M⟩ K
  refine X_b K (ac_storeA rfl ty38 K rfl (ds := [I r2.1, I r2.2.1, .slice A r2.2.2.1.length c2]) rfl rfl 0 M rfl rfl rfl) ?_
  clear K M; rintro _ a w M K
  refine X_o K M ?_; clear K; intro a K
  refine wpList_nil (then_n (wp_seq (X_reg ?_)))
  refine X_o K M ?_; clear K
  iterate 4 (refine Y_o M ?_)
  intro a K
  obtain ⟨r3, h_r3, h⟩ := obind h
  refine X_a K (ac_call (vs := [.string (bs s), I w2, I h2, I kind, .slice A_c c.length c_c]) (cap := []) rfl fok25 K rfl rfl (W_darkslideref_ReadDiff N s w2 h2 kind c A_c c_c _ ((inA R_c) _ M) C_c r3 h_r3)) ?_
  have M0 := M; clear K M; rintro _ a w ⟨A2, c3, rfl, M⟩ K
  replace M := M0.call M; clear M0
  refine X_o K M ?_; clear K
  iterate 2 (refine Y_o M ?_)
  intro a K
  refine X_a K (ac_alloc rfl z38 M) ?_
  clear K M; rintro _ a w ⟨g_want, rfl, M⟩ K
  refine X_b K (ac_storeA rfl ty38 K rfl (ds := [I r3.1, I r3.2.1, .slice A2 r3.2.2.1.length c3]) rfl rfl 0 M rfl rfl rfl) ?_
  clear K M; rintro _ a w M K
  refine X_o K M ?_; clear K; intro a K
  refine wpList_nil (then_n (wp_seq (X_reg ?_)))
  obtain ⟨r4, h_r4, h⟩ := obind h
  refine X_a K (ac_call (vs := []) (cap := []) rfl fok20 K rfl rfl (W_darkslidelaw_diffBegun N  _  r4 h_r4)) ?_
  have M0 := M; clear K M; rintro _ a w ⟨rfl, M⟩ K
  replace M := M0.call M; clear M0
  refine X_o K M ?_; clear K; intro a K
  rcases Bool.eq_false_or_eq_true (r4) with hb | hb
  · have h := ctrue hb h
    have K := K.reb (s := 34) rfl hb
    refine X_o K M ?_; clear K
    iterate 4 (refine Y_o M ?_)
    intro a K
    rcases Bool.eq_false_or_eq_true (decide (r2.2.2.2 = r3.2.2.2)) with hb | hb
    · have h := ctrue hb h
      have K := K.reb (s := 39) rfl hb
      refine X_r K (rd_ldA rfl ty38 K rfl (inM 2 rfl) rfl rfl) M ?_; clear K
      refine Y_r (fun _ K => rd_ldA rfl ty38 K rfl (inM 0 rfl) rfl rfl) M ?_; intro a K
      obtain ⟨r5, h_r5, h⟩ := obind h
      refine X_a K (ac_call (vs := [.agg #[I r2.1, I r2.2.1, .slice A r2.2.2.1.length c2], .agg #[I r3.1, I r3.2.1, .slice A2 r3.2.2.1.length c3]]) (cap := []) rfl fok26 K rfl rfl (W_darkslideref_SamePlanes N r2.1 r2.2.1 r2.2.2.1 A c2 r3.1 r3.2.1 r3.2.2.1 A2 c3 _ ((inR (C := (cI .i64)) 3 rfl rfl) _ M) (M.cap 3 rfl) ((inR (C := (cI .i64)) 1 rfl rfl) _ M) (M.cap 1 rfl) r5 h_r5)) ?_
      have M0 := M; clear K M; rintro _ a w ⟨rfl, M⟩ K
      replace M := M0.call M; clear M0
      refine X_o K M ?_; clear K
      refine Y_o M ?_; intro a K
      refine wpList_nil (then_n (wp_ret ?_))
      cases h
      exact ret1 K rfl (res_tmp K rfl) ⟨_, rfl, rfl, ((M).pick [] (by decide))⟩
    have h := cfalse hb h
    have K := K.reb (s := 39) rfl hb
    refine X_o K M ?_; clear K
    iterate 4 (refine Y_o M ?_)
    intro a K
    refine wpList_nil (then_n (wp_ret ?_))
    cases h
    exact ret1 K rfl (res_tmp K rfl) ⟨_, rfl, rfl, ((M).pick [] (by decide))⟩
  have h := cfalse hb h
  have K := K.reb (s := 34) rfl hb
  refine X_o K M ?_; clear K
  iterate 9 (refine Y_o M ?_)
  intro a K
  refine wpList_nil (then_n (wp_ret ?_))
  cases h
  exact ret1 K rfl (res_tmp K rfl) ⟨_, rfl, rfl, ((M).pick [] (by decide))⟩
end Go.Proofs.YtpmnfhifmmfglacDoor
