/- Texts of the claim LineFar, joined: WSensor, Around, Round, Plane, OEach, Map, ORepair1, ORepair. -/
import Derived.Deep.DeepCutAuto
import Derived.Deep.OwnRows
import Derived.DeepKeys4
import Derived.KernelRfl
import Derived.LoopIn
import Derived.LoopNIn
import Derived.Maps.OwnOps
import Derived.OwnWalkIn
import Derived.RangeFuncBound
import Derived.RangeFuncCalls
import Derived.RangeFuncFrom
import Derived.RangeFuncLeaves
import Derived.RangeFuncNested
import Derived.Shelf.Abstract
import Derived.Shelf.RegionOpen
import Derived.TacticsInMore
import Derived.Test.YtpmnfhifmmfglabRows
import Derived.WalkKit
import Derived.WideKeyEntry
import Derived.Test.YtpmnfhifmmfglabLineFarK1
import Derived.Test.YtpmnfhifmmfglabLineFarK2
import Derived.Test.YtpmnfhifmmfglabLineFarK3
set_option linter.unusedVariables false
set_option linter.unusedSimpArgs false
set_option linter.unusedSectionVars false
namespace Go.Proofs.Ytpmnfhifmmfglab
open Go.RowKit
set_option maxRecDepth 100000 in
set_option maxHeartbeats 4000000 in
theorem W_sensor_fine (N : Nat) (p_W : Int) (p_H : Int) (p_P : List Int) (A_p_P : Option Addr) (c_p_P : Nat) (w0 : World) (R_p_P : SL w0 (cI .i64) A_p_P p_P) (C_p_P : p_P.length ≤ c_p_P) (r : Bool) (h : D_sensor_fine N p_W p_H p_P = some r) :
    Calls Try.prog 70 #[.agg #[I p_W, I p_H, .slice A_p_P p_P.length c_p_P]] w0 fun e w' => ∃ v, e = .returned v ∧ v = .bool r ∧ Mem w0.heap.size w0 w' [] := by
  refine X_enter Try.func70 rfl Try.ntmps70 rfl ?_
  intro a K
  have M := Mem.start w0
  have K : Kn a 48 [(0, .agg #[I p_W, I p_H, .slice A_p_P p_P.length c_p_P])] := K
  unfold D_sensor_fine at h
  refine wp_seq (X_reg ?_)
  refine X_a K (ac_box rfl K rfl (cs := [I p_W, I p_H, .slice A_p_P p_P.length c_p_P]) rfl M) ?_
  clear K M; rintro _ a w ⟨g_p, rfl, M⟩ K
  refine X_o K M ?_; clear K; intro a K
  refine wpList_nil (then_n (wp_seq (wp_seq (X_reg ?_))))
  refine X_r K (rd_field rfl fld45_0 K rfl) M ?_; clear K
  refine Y_r (fun _ K => rd_ldC rfl sc3 K rfl (inM 0 rfl) rfl) M ?_
  iterate 2 (refine Y_o M ?_)
  intro a K
  rcases Bool.eq_false_or_eq_true (decide (p_W < 1)) with hb | hb
  · have h := ctrue hb h
    have K := K.reb (s := 8) rfl hb
    refine X_o K M ?_; clear K
    iterate 24 (refine Y_o M ?_)
    intro a K
    refine wpList_nil (then_n ?_)
    refine X_condT K rfl ?_
    refine wp_seq (X_reg ?_)
    refine X_o K M ?_; clear K; intro a K
    refine wpList_nil (then_n (wp_ret (then_r ?_)))
    cases h
    exact ret1 K rfl (res_tmp K rfl) ⟨_, rfl, rfl, ((M).pick [] (by decide))⟩
  have h := cfalse hb h
  have K := K.reb (s := 8) rfl hb
  refine X_r K (rd_field rfl fld45_0 K rfl) M ?_; clear K
  refine Y_r (fun _ K => rd_ldC rfl sc3 K rfl (inM 0 rfl) rfl) M ?_
  iterate 3 (refine Y_o M ?_)
  intro a K
  rcases Bool.eq_false_or_eq_true (decide (64 < p_W)) with hb | hb
  · have h := ctrue hb h
    have K := K.reb (s := 13) rfl hb
    refine X_o K M ?_; clear K
    iterate 19 (refine Y_o M ?_)
    intro a K
    refine wpList_nil (then_n ?_)
    refine X_condT K rfl ?_
    refine wp_seq (X_reg ?_)
    refine X_o K M ?_; clear K; intro a K
    refine wpList_nil (then_n (wp_ret (then_r ?_)))
    cases h
    exact ret1 K rfl (res_tmp K rfl) ⟨_, rfl, rfl, ((M).pick [] (by decide))⟩
  have h := cfalse hb h
  have K := K.reb (s := 13) rfl hb
  refine X_r K (rd_field rfl fld45_1 K rfl) M ?_; clear K
  refine Y_r (fun _ K => rd_ldC rfl sc3 K rfl (inM 0 rfl) rfl) M ?_
  iterate 3 (refine Y_o M ?_)
  intro a K
  rcases Bool.eq_false_or_eq_true (decide (p_H < 1)) with hb | hb
  · have h := ctrue hb h
    have K := K.reb (s := 18) rfl hb
    refine X_o K M ?_; clear K
    iterate 14 (refine Y_o M ?_)
    intro a K
    refine wpList_nil (then_n ?_)
    refine X_condT K rfl ?_
    refine wp_seq (X_reg ?_)
    refine X_o K M ?_; clear K; intro a K
    refine wpList_nil (then_n (wp_ret (then_r ?_)))
    cases h
    exact ret1 K rfl (res_tmp K rfl) ⟨_, rfl, rfl, ((M).pick [] (by decide))⟩
  have h := cfalse hb h
  have K := K.reb (s := 18) rfl hb
  refine X_r K (rd_field rfl fld45_1 K rfl) M ?_; clear K
  refine Y_r (fun _ K => rd_ldC rfl sc3 K rfl (inM 0 rfl) rfl) M ?_
  iterate 3 (refine Y_o M ?_)
  intro a K
  rcases Bool.eq_false_or_eq_true (decide (64 < p_H)) with hb | hb
  · have h := ctrue hb h
    have K := K.reb (s := 23) rfl hb
    refine X_o K M ?_; clear K
    iterate 9 (refine Y_o M ?_)
    intro a K
    refine wpList_nil (then_n ?_)
    refine X_condT K rfl ?_
    refine wp_seq (X_reg ?_)
    refine X_o K M ?_; clear K; intro a K
    refine wpList_nil (then_n (wp_ret (then_r ?_)))
    cases h
    exact ret1 K rfl (res_tmp K rfl) ⟨_, rfl, rfl, ((M).pick [] (by decide))⟩
  have h := cfalse hb h
  have K := K.reb (s := 23) rfl hb
  refine X_r K (rd_field rfl fld45_2 K rfl) M ?_; clear K
  refine Y_r (fun _ K => rd_ldC rfl sc43 K rfl (inM 0 rfl) rfl) M ?_
  refine Y_r (fun _ K => rd_len rfl un43 K rfl) M ?_
  refine Y_r (fun _ K => rd_field rfl fld45_0 K rfl) M ?_
  refine Y_r (fun _ K => rd_ldC rfl sc3 K rfl (inM 0 rfl) rfl) M ?_
  refine Y_r (fun _ K => rd_field rfl fld45_1 K rfl) M ?_
  refine Y_r (fun _ K => rd_ldC rfl sc3 K rfl (inM 0 rfl) rfl) M ?_
  iterate 3 (refine Y_o M ?_)
  intro a K
  refine wpList_nil (then_n ?_)
  refine X_cond K rfl (fun hb => ?_) (fun hb => ?_)
  · have h := ctrue hb h
    refine wp_seq (X_reg ?_)
    refine X_o K M ?_; clear K; intro a K
    refine wpList_nil (then_n (wp_ret (then_r ?_)))
    cases h
    exact ret1 K rfl (res_tmp K rfl) ⟨_, rfl, rfl, ((M).pick [] (by decide))⟩
  have h := cfalse hb h
  refine wp_skip (then_n (wp_seq (wp_seq (X_reg ?_))))
  refine X_r K (rd_field rfl fld45_2 K rfl) M ?_; clear K
  refine Y_r (fun _ K => rd_ldC rfl sc43 K rfl (inM 0 rfl) rfl) M ?_
  refine Y_r (fun _ K => rd_len rfl un43 K rfl) M ?_
  refine Y_o M ?_; intro a K
  refine wpList_nil (then_n (wp_block ?_))
  refine X_lp (id := 0) (Rel := fun (i : Int) a w => Kn a 48 [(35, .slice A_p_P p_P.length c_p_P), (36, I (p_P.length : Int)), (37, I i)] ∧ Mem w0.heap.size w0 w []) h (fun _ _ => rfl) ⟨K.pick [35,36,37], M.pick [] (by decide)⟩ ?_ ?_
  · clear K M h
    rintro i2 a w ⟨K, M⟩ h
    try dsimp only at h
    refine inb_e ?_
    refine then_n (wp_seq (X_reg ?_))
    refine X_o K M ?_; clear K; intro a K
    refine wpList_nil (then_n (wp_ret ?_))
    cases h
    exact ret1 K rfl (res_tmp K rfl) ⟨_, rfl, rfl, ((M).pick [] (by decide))⟩
  clear K M h
  rintro kk fuel i a w hk1 ⟨K, M⟩ h
  unfold D_sensor_fine_l1 at h
  refine wp_seq (X_reg ?_)
  refine X_o K M ?_; clear K; intro a K
  refine wpList_nil (then_n (wp_seq ?_))
  refine X_cond K rfl (fun hb => ?_) (fun hb => ?_)
  · have h := ctrue hb h
    refine wp_skip (then_n (wp_seq (wp_block (wp_seq (X_reg ?_)))))
    obtain ⟨e2, h_e2, h⟩ := obind h
    refine X_r K (rd_ix rfl sl43 K rfl rfl (inA R_p_P) h_e2) M ?_; clear K
    refine Y_r (fun _ K => rd_elC rfl sc3 K rfl rfl (inA R_p_P) h_e2 rfl) M ?_
    refine Y_o M ?_; intro a K
    refine wpList_nil (then_n (wp_seq (X_reg ?_)))
    refine X_o K M ?_; clear K
    iterate 2 (refine Y_o M ?_)
    intro a K
    rcases Bool.eq_false_or_eq_true (decide (e2 < 0)) with hb | hb
    · have h := ctrue hb h
      have K := K.reb (s := 43) rfl hb
      refine X_o K M ?_; clear K
      iterate 2 (refine Y_o M ?_)
      intro a K
      refine wpList_nil (then_n ?_)
      refine X_condT K rfl ?_
      refine wp_seq (X_reg ?_)
      refine X_o K M ?_; clear K; intro a K
      refine wpList_nil (then_n (wp_ret (inb_r (then_r (then_r (inb_r (then_r ?_)))))))
      cases h
      exact ret1 K rfl (res_tmp K rfl) ⟨_, rfl, rfl, ((M).pick [] (by decide))⟩
    have h := cfalse hb h
    have K := K.reb (s := 43) rfl hb
    refine X_o K M ?_; clear K
    iterate 2 (refine Y_o M ?_)
    intro a K
    refine wpList_nil (then_n ?_)
    refine X_cond K rfl (fun hb => ?_) (fun hb => ?_)
    · have h := ctrue hb h
      refine wp_seq (X_reg ?_)
      refine X_o K M ?_; clear K; intro a K
      refine wpList_nil (then_n (wp_ret (inb_r (then_r (then_r (inb_r (then_r ?_)))))))
      cases h
      exact ret1 K rfl (res_tmp K rfl) ⟨_, rfl, rfl, ((M).pick [] (by decide))⟩
    have h := cfalse hb h
    refine wp_skip (inb_n (then_n (X_reg ?_)))
    refine X_o K M ?_; clear K
    refine Y_o M ?_; intro a K
    refine wpList_nil ?_
    exact then_n ⟨(IntKind.i64.wrap (i + 1)), ⟨K.pick [35,36,37], M.pick [] (by decide)⟩, h⟩
  have h := cfalse hb h
  refine wp_exit ?_
  refine then_e ?_
  exact then_e (hk1 i _ _ ⟨K.pick [35,36,37], M.pick [] (by decide)⟩ h)
set_option maxRecDepth 100000 in
set_option maxHeartbeats 4000000 in
theorem W_sensor_Level_1 (N : Nat) (n : Int) (x2 : Int) (y : Int) (v00 : Int) (v01 : Int) (v02 : Int) (v03 : Int) (v1 : Int) (g_v0 : Nat) (g_v1 : Nat) (w0 : World) (B_g_v0 : Blk w0 g_v0 36 #[I v00, I v01, I v02, I v03]) (B_g_v1 : Blk w0 g_v1 3 #[I v1]) (r : Int) (h : D_sensor_Level_1 N n x2 y v00 v01 v02 v03 v1 = some r) :
    Calls Try.prog 98 #[I n, I x2, I y, .pointer (some ⟨g_v0, 0, none⟩), .pointer (some ⟨g_v1, 0, none⟩)] w0 fun e w' => ∃ v, e = .returned v ∧ v = I r ∧ Mem w0.heap.size w0 w' [] := by
  refine X_enter Try.func98 rfl Try.ntmps98 rfl ?_
  intro a K
  have M := Mem.start w0
  have K : Kn a 27 [(0, I n), (1, I x2), (2, I y), (3, .pointer (some ⟨g_v0, 0, none⟩)), (4, .pointer (some ⟨g_v1, 0, none⟩))] := K
  unfold D_sensor_Level_1 at h
  refine wp_seq (X_reg ?_)
  refine X_o K M ?_; clear K; intro a K
  refine wpList_nil (then_n (wp_seq (X_reg ?_)))
  refine X_o K M ?_; clear K
  refine Y_o M ?_
  refine Y_r (fun _ K => rd_shl rfl K rfl rfl (by decide)) M ?_
  iterate 2 (refine Y_o M ?_)
  refine Y_r (fun _ K => rd_or rfl K rfl rfl) M ?_; intro a K
  obtain ⟨_, h0, h⟩ := obind h
  have h0 := inr_spec h0
  refine X_r K (rd_ixA rfl ar36 sz3 K rfl rfl h0.1 h0.2) M ?_; clear K
  obtain ⟨e, h_e, h⟩ := obind h
  refine Y_r (fun _ K => rd_ldIa rfl sc3 K rfl (inO B_g_v0) rfl rfl h_e) M ?_
  refine Y_o M ?_; intro a K
  refine wpList_nil (then_n (wp_seq (X_reg ?_)))
  refine X_o K M ?_; clear K
  iterate 4 (refine Y_o M ?_)
  refine Y_r (fun _ K => rd_ldC rfl sc3 K rfl (inO B_g_v1) rfl) M ?_
  iterate 2 (refine Y_o M ?_)
  intro a K
  obtain ⟨_, h0, h⟩ := obind h
  have h0 := nz_spec h0
  refine X_r K (rd_quo rfl K rfl rfl h0) M ?_; clear K
  refine Y_o M ?_; intro a K
  refine wpList_nil (then_n (wp_ret ?_))
  cases h
  exact ret1 K rfl (res_tmp K rfl) ⟨_, rfl, rfl, ((M).pick [] (by decide))⟩
set_option maxRecDepth 100000 in
set_option maxHeartbeats 4000000 in
theorem W_sensor_each__sensor_Level_1 (N : Nat) (p_W : Int) (p_H : Int) (p_P : List Int) (A_p_P : Option Addr) (c_p_P : Nat) (Level_1_00 : Int) (Level_1_01 : Int) (Level_1_02 : Int) (Level_1_03 : Int) (Level_1_1 : Int) (g_Level_1_0 : Nat) (g_Level_1_1 : Nat) (w0 : World) (R_p_P : SL w0 (cI .i64) A_p_P p_P) (C_p_P : p_P.length ≤ c_p_P) (B_g_Level_1_0 : Blk w0 g_Level_1_0 36 #[I Level_1_00, I Level_1_01, I Level_1_02, I Level_1_03]) (B_g_Level_1_1 : Blk w0 g_Level_1_1 3 #[I Level_1_1]) (r : Int × Int × List Int) (h : D_sensor_each__sensor_Level_1 N p_W p_H p_P Level_1_00 Level_1_01 Level_1_02 Level_1_03 Level_1_1 = some r) :
    Calls Try.prog 71 #[.agg #[I p_W, I p_H, .slice A_p_P p_P.length c_p_P], .func (.func 98) #[] #[.pointer (some ⟨g_Level_1_0, 0, none⟩), .pointer (some ⟨g_Level_1_1, 0, none⟩)]] w0 fun e w' => ∃ v, e = .returned v ∧ ∃ A2 c2, v = .agg #[I r.1, I r.2.1, .slice A2 r.2.2.length c2] ∧ Mem w0.heap.size w0 w' [.row 3 1 A2 r.2.2.length c2 ((cI .i64).all r.2.2)] := by
  refine X_enter Try.func71 rfl Try.ntmps71 rfl ?_
  intro a K
  have M := Mem.start w0
  have K : Kn a 43 [(0, .agg #[I p_W, I p_H, .slice A_p_P p_P.length c_p_P]), (1, .func (.func 98) #[] #[.pointer (some ⟨g_Level_1_0, 0, none⟩), .pointer (some ⟨g_Level_1_1, 0, none⟩)])] := K
  unfold D_sensor_each__sensor_Level_1 at h
  refine wp_seq (X_reg ?_)
  refine X_a K (ac_box rfl K rfl (cs := [I p_W, I p_H, .slice A_p_P p_P.length c_p_P]) rfl M) ?_
  clear K M; rintro _ a w ⟨g_p, rfl, M⟩ K
  refine X_a K (ac_alloc rfl z45 M) ?_
  clear K M; rintro _ a w ⟨g_x, rfl, M⟩ K
  refine wpList_nil (then_n (wp_seq ?_))
  refine wp_region_tr (fun w => Mem _ _ w _) [0,0,0,0,0,0,0,1,0,1,2] 11 [0,1,2,3,4,5,6,7,8,9,10] (by kernel_rfl) (by kernel_rfl) (by kernel_rfl) rfl M.drew ?_
  replace M := M.drew
  refine R_rd 0 [1,2,3,4,5,6,7,8,9,10] (by kernel_rfl) rfl K (want_no rfl) rfl rfl (rd_field rfl fld45_0 K rfl) ?_; clear K; intro a K
  refine R_rd 1 [2,3,4,5,6,7,8,9,10] (by kernel_rfl) rfl K (want_no rfl) rfl rfl (rd_ldC rfl sc3 K rfl (inM 1 rfl) rfl) ?_; clear K; intro a K
  refine R_rd 2 [3,4,5,6,7,8,9,10] (by kernel_rfl) rfl K (want_no rfl) rfl rfl (rd_field rfl fld45_1 K rfl) ?_; clear K; intro a K
  refine R_rd 3 [4,5,6,7,8,9,10] (by kernel_rfl) rfl K (want_no rfl) rfl rfl (rd_ldC rfl sc3 K rfl (inM 1 rfl) rfl) ?_; clear K; intro a K
  refine R_rd 4 [5,6,7,8,9,10] (by kernel_rfl) rfl K (want_no rfl) rfl rfl (rd_field rfl fld45_2 K rfl) ?_; clear K; intro a K
  refine R_rd 5 [6,7,8,9,10] (by kernel_rfl) rfl K (want_no rfl) rfl rfl (rd_ldC rfl sc43 K rfl (inM 1 rfl) rfl) ?_; clear K; intro a K
  obtain ⟨x2, hx, h⟩ := olet h
  refine R_rd 6 [7,8,9,10] (by kernel_rfl) rfl K (want_no rfl) rfl rfl (rdi hx (rd_len rfl un43 K rfl)) ?_; clear K; intro a K
  refine R_br [7,9] (by kernel_rfl) ⟨?_, ?_, trivial⟩
  ·
    obtain ⟨l2, h_l2, h⟩ := obind h
    refine R_ac [8,9,10] (by kernel_rfl) rfl K (want_no rfl) rfl rfl (ac_make (C := (cI .i64)) (z := 0) rfl sl43 rfl z3 rfl K rfl rfl M h_l2) ?_
    clear K M; rintro _ a w ⟨A, c, rfl, M⟩ K
    refine ⟨fun _ => M.pick [1,2] (by decide), ?_⟩
    refine R_rd 8 [9,10] (by kernel_rfl) rfl K (want_no rfl) rfl rfl (rd_build rfl K (vs := [(0, I p_W), (1, I p_H), (2, .slice A l2.length c)]) (cs := [I p_W, I p_H, .slice A l2.length c]) rfl (by kernel_rfl)) ?_; clear K; intro a K
    refine R_br [9] (by kernel_rfl) ⟨?_, trivial⟩
    refine R_ac [10] (by kernel_rfl) rfl K (want_no rfl) rfl rfl (ac_alloc rfl z45 M) ?_
    clear K M; rintro _ a w ⟨g_out, rfl, M⟩ K
    refine ⟨fun _ => M.pick [2,3] (by decide), ?_⟩
    refine R_br [10] (by kernel_rfl) ⟨?_, trivial⟩
    refine R_a0 [] (by kernel_rfl) rfl K (want_no rfl) rfl (ac_storeA rfl ty45 K rfl (ds := [I p_W, I p_H, .slice A l2.length c]) rfl rfl 0 M rfl rfl rfl) ?_
    clear K M; rintro _ a w M K
    refine ⟨fun h => absurd h (by decide), ?_⟩
    refine R_end ?_
    refine then_n (wp_seq (wp_seq (X_reg ?_)))
    refine X_r K (rd_field rfl fld45_2 K rfl) M ?_; clear K
    refine Y_r (fun _ K => rd_ldC rfl sc43 K rfl (inM 3 rfl) rfl) M ?_
    refine Y_r (fun _ K => rd_len rfl un43 K rfl) M ?_
    refine Y_o M ?_; intro a K
    refine wpList_nil (then_n (wp_block ?_))
    refine X_lp (id := 0) (Rel := fun (⟨out_P, i⟩ : List Int × Int) a w => ∃ (A2 : Option Addr) (c2 : Nat), Kn a 43 [(1, .func (.func 98) #[] #[.pointer (some ⟨g_Level_1_0, 0, none⟩), .pointer (some ⟨g_Level_1_1, 0, none⟩)]), (2, .pointer (some ⟨g_p, 0, none⟩)), (4, .pointer (some ⟨g_x, 0, none⟩)), (5, .pointer (some ⟨g_out, 0, none⟩)), (18, .slice A_p_P p_P.length c_p_P), (19, I (p_P.length : Int)), (20, I i)] ∧ Mem w0.heap.size w0 w [.blk g_out 45 [I p_W, I p_H, .slice A2 out_P.length c2], .row 3 1 A2 out_P.length c2 ((cI .i64).all out_P), .blk g_x 45 [I 0, I 0, .slice none ([] : List Int).length 0], .blk g_p 45 [I p_W, I p_H, .slice A_p_P p_P.length c_p_P]]) h (fun _ _ => rfl) ⟨A, c, K.pick [1,2,4,5,18,19,20], M.pick [0,1,2,3] (by decide)⟩ ?_ ?_
    · clear K M h
      rintro ⟨out_P2, i2⟩ a w ⟨A3, c3, K, M⟩ h
      try dsimp only at h
      refine inb_e ?_
      refine then_n (wp_seq (X_reg ?_))
      refine X_r K (rd_ldA rfl ty45 K rfl (inM 0 rfl) rfl rfl) M ?_; clear K; intro a K
      refine X_b K (ac_storeA rfl ty45 K rfl (ds := [I p_W, I p_H, .slice A3 out_P2.length c3]) rfl rfl 2 M rfl rfl rfl) ?_
      clear K M; rintro _ a w M K
      refine wpList_nil (then_n (wp_ret ?_))
      cases h
      exact ret1 K rfl (res_cellA K rfl ty45 (M.blkAt (i := 2) rfl) rfl) ⟨_, rfl, _, _, rfl, ((M).pick [1] (by decide))⟩
    clear K M h
    rintro kk fuel ⟨out_P, i⟩ a w hk1 ⟨A2, c2, K, M⟩ h
    unfold D_sensor_each__sensor_Level_1_l1 at h
    refine wp_seq (X_reg ?_)
    refine X_o K M ?_; clear K; intro a K
    refine wpList_nil (then_n (wp_seq ?_))
    refine X_cond K rfl (fun hb => ?_) (fun hb => ?_)
    · have h := ctrue hb h
      refine wp_skip (then_n (wp_seq (wp_block (wp_seq (X_reg ?_)))))
      refine X_o K M ?_; clear K
      obtain ⟨e3, h_e3, h⟩ := obind h
      refine Y_r (fun _ K => rd_ix rfl sl43 K rfl rfl (inA R_p_P) h_e3) M ?_
      refine Y_r (fun _ K => rd_elC rfl sc3 K rfl rfl (inA R_p_P) h_e3 rfl) M ?_
      iterate 2 (refine Y_o M ?_)
      intro a K
      refine wpList_nil (then_n ?_)
      refine wp_region_tl (fun w => Mem _ _ w _) [0,0,0,0,0,0,0,0,0,0,0,0,0,1,0,0,2] (by kernel_rfl) (by kernel_rfl) M.drew ?_
      replace M := M.drew
      refine T_r K (rd_field rfl fld45_2 K rfl) ?_; clear K
      refine U_r (fun _ K => rd_ldC rfl sc43 K rfl (inM 0 rfl) rfl) ?_
      iterate 4 (refine U_o ?_)
      refine U_r (fun _ K => rd_field rfl fld45_0 K rfl) ?_
      refine U_r (fun _ K => rd_ldC rfl sc3 K rfl (inM 3 rfl) rfl) ?_; intro a K
      obtain ⟨_, h0, h⟩ := obind h
      have h0 := nz_spec h0
      refine T_r K (rd_rem rfl K rfl rfl h0) ?_; clear K
      refine U_o ?_
      refine U_r (fun _ K => rd_field rfl fld45_0 K rfl) ?_
      refine U_r (fun _ K => rd_ldC rfl sc3 K rfl (inM 3 rfl) rfl) ?_; intro a K
      obtain ⟨_, h0, h⟩ := obind h
      have h0 := nz_spec h0
      refine T_r K (rd_quo rfl K rfl rfl h0) ?_; clear K; intro a K
      obtain ⟨r3, h_r3, h⟩ := obind h
      refine T_a K (ac_call (vs := [I e3, I (Int.tmod i p_W), I (IntKind.i64.wrap (Int.tdiv i p_W))]) (cap := [.pointer (some ⟨g_Level_1_0, 0, none⟩), .pointer (some ⟨g_Level_1_1, 0, none⟩)]) rfl fok98 K rfl rfl (W_sensor_Level_1 N e3 (Int.tmod i p_W) (IntKind.i64.wrap (Int.tdiv i p_W)) Level_1_00 Level_1_01 Level_1_02 Level_1_03 Level_1_1 g_Level_1_0 g_Level_1_1 _ (inO B_g_Level_1_0 _ M) (inO B_g_Level_1_1 _ M) r3 h_r3)) ?_
      have M0 := M; clear K M; rintro _ a w ⟨rfl, M⟩ K
      replace M := M0.call M; clear M0
      refine ⟨M.pick [0,1,2,3] (by decide), ?_⟩
      refine T_o K ?_; clear K
      obtain ⟨e4, h_e4, h⟩ := obind h
      refine U_r (fun _ K => rd_ix rfl sl43 K rfl rfl (inR (C := (cI .i64)) 1 rfl rfl) h_e4) ?_; intro a K
      obtain ⟨l4, h_l4, h⟩ := obind h
      refine T_b K (ac_rowset (el := min r3 65535) rfl sz3 rfl rfl K rfl rfl rfl 1 M rfl h_l4) ?_
      have M0 := M; clear K M; rintro _ a w M K
      have hl := setL_len h_l4
      try rw [hl] at M
      clear hl
      clear M0
      refine T_end ?_
      refine inb_n (then_n (X_reg ?_))
      refine X_o K M ?_; clear K
      refine Y_o M ?_; intro a K
      refine wpList_nil ?_
      exact then_n ⟨(l4, IntKind.i64.wrap (i + 1)), ⟨A2, c2, K.pick [1,2,4,5,18,19,20], M.pick [0,1,2,3] (by decide)⟩, h⟩
    have h := cfalse hb h
    refine wp_exit ?_
    refine then_e ?_
    exact then_e (hk1 (out_P, i) _ _ ⟨A2, c2, K.pick [1,2,4,5,18,19,20], M.pick [0,1,2,3] (by decide)⟩ h)
  ·
    refine R_ac [7,8,10] (by kernel_rfl) rfl K (want_no rfl) rfl rfl (ac_alloc rfl z45 M) ?_
    clear K M; rintro _ a w ⟨g_out2, rfl, M⟩ K
    refine ⟨fun _ => M.pick [1,2] (by decide), ?_⟩
    refine R_br [7] (by kernel_rfl) ⟨?_, trivial⟩
    obtain ⟨l5, h_l5, h⟩ := obind h
    refine R_ac [8,10] (by kernel_rfl) rfl K (want_no rfl) rfl rfl (ac_make (C := (cI .i64)) (z := 0) rfl sl43 rfl z3 rfl K rfl rfl M h_l5) ?_
    clear K M; rintro _ a w ⟨A4, c4, rfl, M⟩ K
    refine ⟨fun _ => M.pick [2,3] (by decide), ?_⟩
    refine R_rd 8 [10] (by kernel_rfl) rfl K (want_no rfl) rfl rfl (rd_build rfl K (vs := [(0, I p_W), (1, I p_H), (2, .slice A4 l5.length c4)]) (cs := [I p_W, I p_H, .slice A4 l5.length c4]) rfl (by kernel_rfl)) ?_; clear K; intro a K
    refine R_br [10] (by kernel_rfl) ⟨?_, trivial⟩
    refine R_a0 [] (by kernel_rfl) rfl K (want_no rfl) rfl (ac_storeA rfl ty45 K rfl (ds := [I p_W, I p_H, .slice A4 l5.length c4]) rfl rfl 1 M rfl rfl rfl) ?_
    clear K M; rintro _ a w M K
    refine ⟨fun h => absurd h (by decide), ?_⟩
    refine R_end ?_
    refine then_n (wp_seq (wp_seq (X_reg ?_)))
    refine X_r K (rd_field rfl fld45_2 K rfl) M ?_; clear K
    refine Y_r (fun _ K => rd_ldC rfl sc43 K rfl (inM 3 rfl) rfl) M ?_
    refine Y_r (fun _ K => rd_len rfl un43 K rfl) M ?_
    refine Y_o M ?_; intro a K
    refine wpList_nil (then_n (wp_block ?_))
    refine X_lp (id := 0) (Rel := fun (⟨out_P3, i3⟩ : List Int × Int) a w => ∃ (A5 : Option Addr) (c5 : Nat), Kn a 43 [(1, .func (.func 98) #[] #[.pointer (some ⟨g_Level_1_0, 0, none⟩), .pointer (some ⟨g_Level_1_1, 0, none⟩)]), (2, .pointer (some ⟨g_p, 0, none⟩)), (4, .pointer (some ⟨g_x, 0, none⟩)), (5, .pointer (some ⟨g_out2, 0, none⟩)), (18, .slice A_p_P p_P.length c_p_P), (19, I (p_P.length : Int)), (20, I i3)] ∧ Mem w0.heap.size w0 w [.row 3 1 A5 out_P3.length c5 ((cI .i64).all out_P3), .blk g_out2 45 [I p_W, I p_H, .slice A5 out_P3.length c5], .blk g_x 45 [I 0, I 0, .slice none ([] : List Int).length 0], .blk g_p 45 [I p_W, I p_H, .slice A_p_P p_P.length c_p_P]]) h (fun _ _ => rfl) ⟨A4, c4, K.pick [1,2,4,5,18,19,20], M.pick [0,1,2,3] (by decide)⟩ ?_ ?_
    · clear K M h
      rintro ⟨out_P4, i4⟩ a w ⟨A6, c6, K, M⟩ h
      try dsimp only at h
      refine inb_e ?_
      refine then_n (wp_seq (X_reg ?_))
      refine X_r K (rd_ldA rfl ty45 K rfl (inM 1 rfl) rfl rfl) M ?_; clear K; intro a K
      refine X_b K (ac_storeA rfl ty45 K rfl (ds := [I p_W, I p_H, .slice A6 out_P4.length c6]) rfl rfl 2 M rfl rfl rfl) ?_
      clear K M; rintro _ a w M K
      refine wpList_nil (then_n (wp_ret ?_))
      cases h
      exact ret1 K rfl (res_cellA K rfl ty45 (M.blkAt (i := 2) rfl) rfl) ⟨_, rfl, _, _, rfl, ((M).pick [0] (by decide))⟩
    clear K M h
    rintro kk fuel ⟨out_P3, i3⟩ a w hk1 ⟨A5, c5, K, M⟩ h
    unfold D_sensor_each__sensor_Level_1_l1 at h
    refine wp_seq (X_reg ?_)
    refine X_o K M ?_; clear K; intro a K
    refine wpList_nil (then_n (wp_seq ?_))
    refine X_cond K rfl (fun hb => ?_) (fun hb => ?_)
    · have h := ctrue hb h
      refine wp_skip (then_n (wp_seq (wp_block (wp_seq (X_reg ?_)))))
      refine X_o K M ?_; clear K
      obtain ⟨e7, h_e7, h⟩ := obind h
      refine Y_r (fun _ K => rd_ix rfl sl43 K rfl rfl (inA R_p_P) h_e7) M ?_
      refine Y_r (fun _ K => rd_elC rfl sc3 K rfl rfl (inA R_p_P) h_e7 rfl) M ?_
      iterate 2 (refine Y_o M ?_)
      intro a K
      refine wpList_nil (then_n ?_)
      refine wp_region_tl (fun w => Mem _ _ w _) [0,0,0,0,0,0,0,0,0,0,0,0,0,1,0,0,2] (by kernel_rfl) (by kernel_rfl) M.drew ?_
      replace M := M.drew
      refine T_r K (rd_field rfl fld45_2 K rfl) ?_; clear K
      refine U_r (fun _ K => rd_ldC rfl sc43 K rfl (inM 1 rfl) rfl) ?_
      iterate 4 (refine U_o ?_)
      refine U_r (fun _ K => rd_field rfl fld45_0 K rfl) ?_
      refine U_r (fun _ K => rd_ldC rfl sc3 K rfl (inM 3 rfl) rfl) ?_; intro a K
      obtain ⟨_, h0, h⟩ := obind h
      have h0 := nz_spec h0
      refine T_r K (rd_rem rfl K rfl rfl h0) ?_; clear K
      refine U_o ?_
      refine U_r (fun _ K => rd_field rfl fld45_0 K rfl) ?_
      refine U_r (fun _ K => rd_ldC rfl sc3 K rfl (inM 3 rfl) rfl) ?_; intro a K
      obtain ⟨_, h0, h⟩ := obind h
      have h0 := nz_spec h0
      refine T_r K (rd_quo rfl K rfl rfl h0) ?_; clear K; intro a K
      obtain ⟨r5, h_r5, h⟩ := obind h
      refine T_a K (ac_call (vs := [I e7, I (Int.tmod i3 p_W), I (IntKind.i64.wrap (Int.tdiv i3 p_W))]) (cap := [.pointer (some ⟨g_Level_1_0, 0, none⟩), .pointer (some ⟨g_Level_1_1, 0, none⟩)]) rfl fok98 K rfl rfl (W_sensor_Level_1 N e7 (Int.tmod i3 p_W) (IntKind.i64.wrap (Int.tdiv i3 p_W)) Level_1_00 Level_1_01 Level_1_02 Level_1_03 Level_1_1 g_Level_1_0 g_Level_1_1 _ (inO B_g_Level_1_0 _ M) (inO B_g_Level_1_1 _ M) r5 h_r5)) ?_
      have M0 := M; clear K M; rintro _ a w ⟨rfl, M⟩ K
      replace M := M0.call M; clear M0
      refine ⟨M.pick [0,1,2,3] (by decide), ?_⟩
      refine T_o K ?_; clear K
      obtain ⟨e8, h_e8, h⟩ := obind h
      refine U_r (fun _ K => rd_ix rfl sl43 K rfl rfl (inR (C := (cI .i64)) 0 rfl rfl) h_e8) ?_; intro a K
      obtain ⟨l7, h_l7, h⟩ := obind h
      refine T_b K (ac_rowset (el := min r5 65535) rfl sz3 rfl rfl K rfl rfl rfl 0 M rfl h_l7) ?_
      have M0 := M; clear K M; rintro _ a w M K
      have hl := setL_len h_l7
      try rw [hl] at M
      clear hl
      clear M0
      refine T_end ?_
      refine inb_n (then_n (X_reg ?_))
      refine X_o K M ?_; clear K
      refine Y_o M ?_; intro a K
      refine wpList_nil ?_
      exact then_n ⟨(l7, IntKind.i64.wrap (i3 + 1)), ⟨A5, c5, K.pick [1,2,4,5,18,19,20], M.pick [0,1,2,3] (by decide)⟩, h⟩
    have h := cfalse hb h
    refine wp_exit ?_
    refine then_e ?_
    exact then_e (hk1 (out_P3, i3) _ _ ⟨A5, c5, K.pick [1,2,4,5,18,19,20], M.pick [0,1,2,3] (by decide)⟩ h)
set_option maxRecDepth 100000 in
set_option maxHeartbeats 4000000 in
theorem W_sensor_Level (N : Nat) (p_W : Int) (p_H : Int) (p_P : List Int) (A_p_P : Option Addr) (c_p_P : Nat) (black0 : Int) (black1 : Int) (black2 : Int) (black3 : Int) (white : Int) (w0 : World) (R_p_P : SL w0 (cI .i64) A_p_P p_P) (C_p_P : p_P.length ≤ c_p_P) (r : Int × Int × List Int × Int) (h : D_sensor_Level N p_W p_H p_P black0 black1 black2 black3 white = some r) :
    Calls Try.prog 97 #[.agg #[I p_W, I p_H, .slice A_p_P p_P.length c_p_P], .agg #[I black0, I black1, I black2, I black3], I white] w0 fun e w' => ∃ v, e = .returned v ∧ ∃ A2 c2, v = .tuple #[.agg #[I r.1, I r.2.1, .slice A2 r.2.2.1.length c2], I r.2.2.2] ∧ Mem w0.heap.size w0 w' [.row 3 1 A2 r.2.2.1.length c2 ((cI .i64).all r.2.2.1)] := by
  refine X_enter Try.func97 rfl Try.ntmps97 rfl ?_
  intro a K
  have M := Mem.start w0
  have K : Kn a 34 [(0, .agg #[I p_W, I p_H, .slice A_p_P p_P.length c_p_P]), (1, .agg #[I black0, I black1, I black2, I black3]), (2, I white)] := K
  unfold D_sensor_Level at h
  refine wp_seq (X_reg ?_)
  refine X_a K (ac_box rfl K rfl (cs := [I p_W, I p_H, .slice A_p_P p_P.length c_p_P]) rfl M) ?_
  clear K M; rintro _ a w ⟨g_p, rfl, M⟩ K
  refine X_a K (ac_box rfl K rfl (cs := [I black0, I black1, I black2, I black3]) rfl M) ?_
  clear K M; rintro _ a w ⟨g_black, rfl, M⟩ K
  refine X_a K (ac_box rfl K rfl (cs := [I white]) rfl M) ?_
  clear K M; rintro _ a w ⟨g_white, rfl, M⟩ K
  refine X_a K (ac_alloc rfl z45 M) ?_
  clear K M; rintro _ a w ⟨g_x, rfl, M⟩ K
  refine X_o K M ?_; clear K; intro a K
  refine wpList_nil (then_n (wp_seq (wp_seq (X_reg ?_))))
  refine X_r K (rd_ldA rfl ty45 K rfl (inM 3 rfl) rfl rfl) M ?_; clear K; intro a K
  obtain ⟨r2, h_r2, h⟩ := obind h
  refine X_a K (ac_call (vs := [.agg #[I p_W, I p_H, .slice A_p_P p_P.length c_p_P]]) (cap := []) rfl fok70 K rfl rfl (W_sensor_fine N p_W p_H p_P A_p_P c_p_P _ ((inA R_p_P) _ M) C_p_P r2 h_r2)) ?_
  have M0 := M; clear K M; rintro _ a w ⟨rfl, M⟩ K
  replace M := M0.call M; clear M0
  refine X_o K M ?_; clear K; intro a K
  refine wpList_nil (then_n ?_)
  refine X_cond K rfl (fun hb => ?_) (fun hb => ?_)
  · have h := ctrue hb h
    refine wp_seq (X_reg ?_)
    refine X_r K (rd_build rfl K (vs := []) (cs := [I 0, I 0, .slice none ([] : List Int).length 0]) rfl (by kernel_rfl)) M ?_; clear K; intro a K
    refine X_b K (ac_storeA rfl ty45 K rfl (ds := [I 0, I 0, .slice none ([] : List Int).length 0]) rfl rfl 0 M rfl rfl rfl) ?_
    clear K M; rintro _ a w M K
    refine X_o K M ?_; clear K; intro a K
    refine wpList_nil (then_n (wp_ret (then_r ?_)))
    cases h
    exact ret2 K rfl (res_cellA K rfl ty45 (M.blkAt (i := 0) rfl) rfl) (res_tmp K rfl) ⟨_, rfl, _, _, rfl, (((Mem.nilrow 3 1 (cI .i64) M)).pick [0] (by decide))⟩
  have h := cfalse hb h
  refine wp_skip (then_n (wp_seq (wp_seq (X_reg ?_))))
  refine X_r K (rd_ldA rfl ty36 K rfl (inM 2 rfl) rfl rfl) M ?_; clear K
  refine Y_o M ?_; intro a K
  refine wpList_nil (then_n (wp_block ?_))
  refine X_lp (id := 0) (Rel := fun (i : Int) a w => Kn a 34 [(3, .pointer (some ⟨g_p, 0, none⟩)), (4, .pointer (some ⟨g_black, 0, none⟩)), (5, .pointer (some ⟨g_white, 0, none⟩)), (6, .pointer (some ⟨g_x, 0, none⟩)), (14, .agg #[I black0, I black1, I black2, I black3]), (15, I i)] ∧ Mem w0.heap.size w0 w [.blk g_x 45 [I 0, I 0, .slice none ([] : List Int).length 0], .blk g_white 3 [I white], .blk g_black 36 [I black0, I black1, I black2, I black3], .blk g_p 45 [I p_W, I p_H, .slice A_p_P p_P.length c_p_P]]) h (fun _ _ => rfl) ⟨K.pick [3,4,5,6,14,15], M.pick [0,1,2,3] (by decide)⟩ ?_ ?_
  · clear K M h
    rintro i2 a w ⟨K, M⟩ h
    try dsimp only at h
    refine inb_e ?_
    refine then_n (wp_seq (X_reg ?_))
    refine X_r K (rd_ldA rfl ty45 K rfl (inM 3 rfl) rfl rfl) M ?_; clear K
    refine Y_r (fun _ K => rd_func rfl K (vs := [.pointer (some ⟨g_black, 0, none⟩), .pointer (some ⟨g_white, 0, none⟩)]) rfl) M ?_; intro a K
    obtain ⟨r3, h_r3, h⟩ := obind h
    refine X_a K (ac_call (vs := [.agg #[I p_W, I p_H, .slice A_p_P p_P.length c_p_P], .func (.func 98) #[] #[.pointer (some ⟨g_black, 0, none⟩), .pointer (some ⟨g_white, 0, none⟩)]]) (cap := []) rfl fok71 K rfl rfl (W_sensor_each__sensor_Level_1 N p_W p_H p_P A_p_P c_p_P black0 black1 black2 black3 white g_black g_white _ ((inA R_p_P) _ M) C_p_P (M.blkAt (i := 2) rfl) (M.blkAt (i := 1) rfl) r3 h_r3)) ?_
    have M0 := M; clear K M; rintro _ a w ⟨A, c, rfl, M⟩ K
    replace M := M0.call M; clear M0
    refine X_b K (ac_storeA rfl ty45 K rfl (ds := [I r3.1, I r3.2.1, .slice A r3.2.2.length c]) rfl rfl 1 M rfl rfl rfl) ?_
    clear K M; rintro _ a w M K
    refine X_o K M ?_; clear K; intro a K
    refine wpList_nil (then_n (wp_ret ?_))
    cases h
    exact ret2 K rfl (res_cellA K rfl ty45 (M.blkAt (i := 1) rfl) rfl) (res_tmp K rfl) ⟨_, rfl, _, _, rfl, ((M).pick [0] (by decide))⟩
  clear K M h
  rintro kk fuel i a w hk1 ⟨K, M⟩ h
  unfold D_sensor_Level_l1 at h
  refine wp_seq (X_reg ?_)
  refine X_o K M ?_; clear K; intro a K
  refine wpList_nil (then_n (wp_seq ?_))
  refine X_cond K rfl (fun hb => ?_) (fun hb => ?_)
  · have h := ctrue hb h
    refine wp_skip (then_n (wp_seq (wp_block (wp_seq (X_reg ?_)))))
    obtain ⟨e2, h_e2, h⟩ := obind h
    refine X_r K (rd_ixV (C := (cI .i64)) (es := [black0, black1, black2, black3]) rfl ar36 sc3 K rfl rfl rfl h_e2 rfl) M ?_; clear K
    refine Y_o M ?_; intro a K
    refine wpList_nil (then_n (wp_seq (X_reg ?_)))
    refine X_o K M ?_; clear K
    iterate 2 (refine Y_o M ?_)
    intro a K
    rcases Bool.eq_false_or_eq_true (decide (e2 < 0)) with hb | hb
    · have h := ctrue hb h
      have K := K.reb (s := 20) rfl hb
      refine X_o K M ?_; clear K
      iterate 7 (refine Y_o M ?_)
      intro a K
      refine wpList_nil (then_n ?_)
      refine X_condT K rfl ?_
      refine wp_seq (X_reg ?_)
      refine X_r K (rd_build rfl K (vs := []) (cs := [I 0, I 0, .slice none ([] : List Int).length 0]) rfl (by kernel_rfl)) M ?_; clear K; intro a K
      refine X_b K (ac_storeA rfl ty45 K rfl (ds := [I 0, I 0, .slice none ([] : List Int).length 0]) rfl rfl 0 M rfl rfl rfl) ?_
      clear K M; rintro _ a w M K
      refine X_o K M ?_; clear K; intro a K
      refine wpList_nil (then_n (wp_ret (inb_r (then_r (then_r (inb_r (then_r ?_)))))))
      cases h
      exact ret2 K rfl (res_cellA K rfl ty45 (M.blkAt (i := 0) rfl) rfl) (res_tmp K rfl) ⟨_, rfl, _, _, rfl, (((Mem.nilrow 3 1 (cI .i64) M)).pick [0] (by decide))⟩
    have h := cfalse hb h
    have K := K.reb (s := 20) rfl hb
    refine X_o K M ?_; clear K
    refine Y_r (fun _ K => rd_ldC rfl sc3 K rfl (inM 1 rfl) rfl) M ?_
    iterate 3 (refine Y_o M ?_)
    intro a K
    rcases Bool.eq_false_or_eq_true (decide (white ≤ e2)) with hb | hb
    · have h := ctrue hb h
      have K := K.reb (s := 25) rfl hb
      refine X_o K M ?_; clear K
      iterate 2 (refine Y_o M ?_)
      intro a K
      refine wpList_nil (then_n ?_)
      refine X_condT K rfl ?_
      refine wp_seq (X_reg ?_)
      refine X_r K (rd_build rfl K (vs := []) (cs := [I 0, I 0, .slice none ([] : List Int).length 0]) rfl (by kernel_rfl)) M ?_; clear K; intro a K
      refine X_b K (ac_storeA rfl ty45 K rfl (ds := [I 0, I 0, .slice none ([] : List Int).length 0]) rfl rfl 0 M rfl rfl rfl) ?_
      clear K M; rintro _ a w M K
      refine X_o K M ?_; clear K; intro a K
      refine wpList_nil (then_n (wp_ret (inb_r (then_r (then_r (inb_r (then_r ?_)))))))
      cases h
      exact ret2 K rfl (res_cellA K rfl ty45 (M.blkAt (i := 0) rfl) rfl) (res_tmp K rfl) ⟨_, rfl, _, _, rfl, (((Mem.nilrow 3 1 (cI .i64) M)).pick [0] (by decide))⟩
    have h := cfalse hb h
    have K := K.reb (s := 25) rfl hb
    refine X_r K (rd_ldC rfl sc3 K rfl (inM 1 rfl) rfl) M ?_; clear K
    iterate 2 (refine Y_o M ?_)
    intro a K
    refine wpList_nil (then_n ?_)
    refine X_cond K rfl (fun hb => ?_) (fun hb => ?_)
    · have h := ctrue hb h
      refine wp_seq (X_reg ?_)
      refine X_r K (rd_build rfl K (vs := []) (cs := [I 0, I 0, .slice none ([] : List Int).length 0]) rfl (by kernel_rfl)) M ?_; clear K; intro a K
      refine X_b K (ac_storeA rfl ty45 K rfl (ds := [I 0, I 0, .slice none ([] : List Int).length 0]) rfl rfl 0 M rfl rfl rfl) ?_
      clear K M; rintro _ a w M K
      refine X_o K M ?_; clear K; intro a K
      refine wpList_nil (then_n (wp_ret (inb_r (then_r (then_r (inb_r (then_r ?_)))))))
      cases h
      exact ret2 K rfl (res_cellA K rfl ty45 (M.blkAt (i := 0) rfl) rfl) (res_tmp K rfl) ⟨_, rfl, _, _, rfl, (((Mem.nilrow 3 1 (cI .i64) M)).pick [0] (by decide))⟩
    have h := cfalse hb h
    refine wp_skip (inb_n (then_n (X_reg ?_)))
    refine X_o K M ?_; clear K
    refine Y_o M ?_; intro a K
    refine wpList_nil ?_
    exact then_n ⟨(IntKind.i64.wrap (i + 1)), ⟨K.pick [3,4,5,6,14,15], M.pick [0,1,2,3] (by decide)⟩, h⟩
  have h := cfalse hb h
  refine wp_exit ?_
  refine then_e ?_
  exact then_e (hk1 i _ _ ⟨K.pick [3,4,5,6,14,15], M.pick [0,1,2,3] (by decide)⟩ h)
set_option maxRecDepth 100000 in
set_option maxHeartbeats 4000000 in
theorem W_sensor_colour (N : Nat) (phase : Int) (x2 : Int) (y : Int) (w0 : World)  (r : Int) (h : D_sensor_colour N phase x2 y = some r) :
    Calls Try.prog 80 #[I phase, I x2, I y] w0 fun e w' => ∃ v, e = .returned v ∧ v = I r ∧ Mem w0.heap.size w0 w' [] := by
  refine X_enter Try.func80 rfl Try.ntmps80 rfl ?_
  intro a K
  have M := Mem.start w0
  have K : Kn a 17 [(0, I phase), (1, I x2), (2, I y)] := K
  unfold D_sensor_colour at h
  refine wp_seq (X_reg ?_)
  refine X_o K M ?_; clear K; intro a K
  refine wpList_nil (then_n (wp_seq (X_reg ?_)))
  refine X_o K M ?_; clear K
  iterate 5 (refine Y_o M ?_)
  refine Y_r (fun _ K => rd_shr rfl K rfl rfl (by decide)) M ?_
  iterate 4 (refine Y_o M ?_)
  intro a K
  refine wpList_nil (then_n (wp_ret ?_))
  cases h
  exact ret1 K rfl (res_tmp K rfl) ⟨_, rfl, rfl, ((M).pick [] (by decide))⟩
set_option maxRecDepth 100000 in
set_option maxHeartbeats 4000000 in
theorem W_sensor_Gain_1 (N : Nat) (n : Int) (x2 : Int) (y : Int) (v00 : Int) (v01 : Int) (v02 : Int) (v1 : Int) (g_v0 : Nat) (g_v1 : Nat) (w0 : World) (B_g_v0 : Blk w0 g_v0 38 #[I v00, I v01, I v02]) (B_g_v1 : Blk w0 g_v1 3 #[I v1]) (r : Int) (h : D_sensor_Gain_1 N n x2 y v00 v01 v02 v1 = some r) :
    Calls Try.prog 102 #[I n, I x2, I y, .pointer (some ⟨g_v0, 0, none⟩), .pointer (some ⟨g_v1, 0, none⟩)] w0 fun e w' => ∃ v, e = .returned v ∧ v = I r ∧ Mem w0.heap.size w0 w' [] := by
  refine X_enter Try.func102 rfl Try.ntmps102 rfl ?_
  intro a K
  have M := Mem.start w0
  have K : Kn a 18 [(0, I n), (1, I x2), (2, I y), (3, .pointer (some ⟨g_v0, 0, none⟩)), (4, .pointer (some ⟨g_v1, 0, none⟩))] := K
  unfold D_sensor_Gain_1 at h
  refine wp_seq (X_reg ?_)
  refine X_o K M ?_; clear K; intro a K
  refine wpList_nil (then_n (wp_seq (X_reg ?_)))
  refine X_o K M ?_; clear K
  refine Y_r (fun _ K => rd_ldC rfl sc3 K rfl (inO B_g_v1) rfl) M ?_
  iterate 2 (refine Y_o M ?_)
  intro a K
  obtain ⟨r2, h_r2, h⟩ := obind h
  refine X_a K (ac_call (vs := [I v1, I x2, I y]) (cap := []) rfl fok80 K rfl rfl (W_sensor_colour N v1 x2 y _  r2 h_r2)) ?_
  have M0 := M; clear K M; rintro _ a w ⟨rfl, M⟩ K
  replace M := M0.call M; clear M0
  obtain ⟨_, h0, h⟩ := obind h
  have h0 := inr_spec h0
  refine X_r K (rd_ixA rfl ar38 sz3 K rfl rfl h0.1 h0.2) M ?_; clear K
  obtain ⟨e, h_e, h⟩ := obind h
  refine Y_r (fun _ K => rd_ldIa rfl sc3 K rfl (inO B_g_v0) rfl rfl h_e) M ?_
  refine Y_o M ?_
  refine Y_r (fun _ K => rd_shr rfl K rfl rfl (by decide)) M ?_
  refine Y_o M ?_; intro a K
  refine wpList_nil (then_n (wp_ret ?_))
  cases h
  exact ret1 K rfl (res_tmp K rfl) ⟨_, rfl, rfl, ((M).pick [] (by decide))⟩
set_option maxRecDepth 100000 in
set_option maxHeartbeats 4000000 in
theorem W_sensor_each__sensor_Gain_1 (N : Nat) (p_W : Int) (p_H : Int) (p_P : List Int) (A_p_P : Option Addr) (c_p_P : Nat) (Gain_1_00 : Int) (Gain_1_01 : Int) (Gain_1_02 : Int) (Gain_1_1 : Int) (g_Gain_1_0 : Nat) (g_Gain_1_1 : Nat) (w0 : World) (R_p_P : SL w0 (cI .i64) A_p_P p_P) (C_p_P : p_P.length ≤ c_p_P) (B_g_Gain_1_0 : Blk w0 g_Gain_1_0 38 #[I Gain_1_00, I Gain_1_01, I Gain_1_02]) (B_g_Gain_1_1 : Blk w0 g_Gain_1_1 3 #[I Gain_1_1]) (r : Int × Int × List Int) (h : D_sensor_each__sensor_Gain_1 N p_W p_H p_P Gain_1_00 Gain_1_01 Gain_1_02 Gain_1_1 = some r) :
    Calls Try.prog 71 #[.agg #[I p_W, I p_H, .slice A_p_P p_P.length c_p_P], .func (.func 102) #[] #[.pointer (some ⟨g_Gain_1_0, 0, none⟩), .pointer (some ⟨g_Gain_1_1, 0, none⟩)]] w0 fun e w' => ∃ v, e = .returned v ∧ ∃ A2 c2, v = .agg #[I r.1, I r.2.1, .slice A2 r.2.2.length c2] ∧ Mem w0.heap.size w0 w' [.row 3 1 A2 r.2.2.length c2 ((cI .i64).all r.2.2)] := by
  refine X_enter Try.func71 rfl Try.ntmps71 rfl ?_
  intro a K
  have M := Mem.start w0
  have K : Kn a 43 [(0, .agg #[I p_W, I p_H, .slice A_p_P p_P.length c_p_P]), (1, .func (.func 102) #[] #[.pointer (some ⟨g_Gain_1_0, 0, none⟩), .pointer (some ⟨g_Gain_1_1, 0, none⟩)])] := K
  unfold D_sensor_each__sensor_Gain_1 at h
  refine wp_seq (X_reg ?_)
  refine X_a K (ac_box rfl K rfl (cs := [I p_W, I p_H, .slice A_p_P p_P.length c_p_P]) rfl M) ?_
  clear K M; rintro _ a w ⟨g_p, rfl, M⟩ K
  refine X_a K (ac_alloc rfl z45 M) ?_
  clear K M; rintro _ a w ⟨g_x, rfl, M⟩ K
  refine wpList_nil (then_n (wp_seq ?_))
  refine wp_region_tr (fun w => Mem _ _ w _) [0,0,0,0,0,0,0,1,0,1,2] 11 [0,1,2,3,4,5,6,7,8,9,10] (by kernel_rfl) (by kernel_rfl) (by kernel_rfl) rfl M.drew ?_
  replace M := M.drew
  refine R_rd 0 [1,2,3,4,5,6,7,8,9,10] (by kernel_rfl) rfl K (want_no rfl) rfl rfl (rd_field rfl fld45_0 K rfl) ?_; clear K; intro a K
  refine R_rd 1 [2,3,4,5,6,7,8,9,10] (by kernel_rfl) rfl K (want_no rfl) rfl rfl (rd_ldC rfl sc3 K rfl (inM 1 rfl) rfl) ?_; clear K; intro a K
  refine R_rd 2 [3,4,5,6,7,8,9,10] (by kernel_rfl) rfl K (want_no rfl) rfl rfl (rd_field rfl fld45_1 K rfl) ?_; clear K; intro a K
  refine R_rd 3 [4,5,6,7,8,9,10] (by kernel_rfl) rfl K (want_no rfl) rfl rfl (rd_ldC rfl sc3 K rfl (inM 1 rfl) rfl) ?_; clear K; intro a K
  refine R_rd 4 [5,6,7,8,9,10] (by kernel_rfl) rfl K (want_no rfl) rfl rfl (rd_field rfl fld45_2 K rfl) ?_; clear K; intro a K
  refine R_rd 5 [6,7,8,9,10] (by kernel_rfl) rfl K (want_no rfl) rfl rfl (rd_ldC rfl sc43 K rfl (inM 1 rfl) rfl) ?_; clear K; intro a K
  obtain ⟨x2, hx, h⟩ := olet h
  refine R_rd 6 [7,8,9,10] (by kernel_rfl) rfl K (want_no rfl) rfl rfl (rdi hx (rd_len rfl un43 K rfl)) ?_; clear K; intro a K
  refine R_br [7,9] (by kernel_rfl) ⟨?_, ?_, trivial⟩
  ·
    obtain ⟨l2, h_l2, h⟩ := obind h
    refine R_ac [8,9,10] (by kernel_rfl) rfl K (want_no rfl) rfl rfl (ac_make (C := (cI .i64)) (z := 0) rfl sl43 rfl z3 rfl K rfl rfl M h_l2) ?_
    clear K M; rintro _ a w ⟨A, c, rfl, M⟩ K
    refine ⟨fun _ => M.pick [1,2] (by decide), ?_⟩
    refine R_rd 8 [9,10] (by kernel_rfl) rfl K (want_no rfl) rfl rfl (rd_build rfl K (vs := [(0, I p_W), (1, I p_H), (2, .slice A l2.length c)]) (cs := [I p_W, I p_H, .slice A l2.length c]) rfl (by kernel_rfl)) ?_; clear K; intro a K
    refine R_br [9] (by kernel_rfl) ⟨?_, trivial⟩
    refine R_ac [10] (by kernel_rfl) rfl K (want_no rfl) rfl rfl (ac_alloc rfl z45 M) ?_
    clear K M; rintro _ a w ⟨g_out, rfl, M⟩ K
    refine ⟨fun _ => M.pick [2,3] (by decide), ?_⟩
    refine R_br [10] (by kernel_rfl) ⟨?_, trivial⟩
    refine R_a0 [] (by kernel_rfl) rfl K (want_no rfl) rfl (ac_storeA rfl ty45 K rfl (ds := [I p_W, I p_H, .slice A l2.length c]) rfl rfl 0 M rfl rfl rfl) ?_
    clear K M; rintro _ a w M K
    refine ⟨fun h => absurd h (by decide), ?_⟩
    refine R_end ?_
    refine then_n (wp_seq (wp_seq (X_reg ?_)))
    refine X_r K (rd_field rfl fld45_2 K rfl) M ?_; clear K
    refine Y_r (fun _ K => rd_ldC rfl sc43 K rfl (inM 3 rfl) rfl) M ?_
    refine Y_r (fun _ K => rd_len rfl un43 K rfl) M ?_
    refine Y_o M ?_; intro a K
    refine wpList_nil (then_n (wp_block ?_))
    refine X_lp (id := 0) (Rel := fun (⟨out_P, i⟩ : List Int × Int) a w => ∃ (A2 : Option Addr) (c2 : Nat), Kn a 43 [(1, .func (.func 102) #[] #[.pointer (some ⟨g_Gain_1_0, 0, none⟩), .pointer (some ⟨g_Gain_1_1, 0, none⟩)]), (2, .pointer (some ⟨g_p, 0, none⟩)), (4, .pointer (some ⟨g_x, 0, none⟩)), (5, .pointer (some ⟨g_out, 0, none⟩)), (18, .slice A_p_P p_P.length c_p_P), (19, I (p_P.length : Int)), (20, I i)] ∧ Mem w0.heap.size w0 w [.blk g_out 45 [I p_W, I p_H, .slice A2 out_P.length c2], .row 3 1 A2 out_P.length c2 ((cI .i64).all out_P), .blk g_x 45 [I 0, I 0, .slice none ([] : List Int).length 0], .blk g_p 45 [I p_W, I p_H, .slice A_p_P p_P.length c_p_P]]) h (fun _ _ => rfl) ⟨A, c, K.pick [1,2,4,5,18,19,20], M.pick [0,1,2,3] (by decide)⟩ ?_ ?_
    · clear K M h
      rintro ⟨out_P2, i2⟩ a w ⟨A3, c3, K, M⟩ h
      try dsimp only at h
      refine inb_e ?_
      refine then_n (wp_seq (X_reg ?_))
      refine X_r K (rd_ldA rfl ty45 K rfl (inM 0 rfl) rfl rfl) M ?_; clear K; intro a K
      refine X_b K (ac_storeA rfl ty45 K rfl (ds := [I p_W, I p_H, .slice A3 out_P2.length c3]) rfl rfl 2 M rfl rfl rfl) ?_
      clear K M; rintro _ a w M K
      refine wpList_nil (then_n (wp_ret ?_))
      cases h
      exact ret1 K rfl (res_cellA K rfl ty45 (M.blkAt (i := 2) rfl) rfl) ⟨_, rfl, _, _, rfl, ((M).pick [1] (by decide))⟩
    clear K M h
    rintro kk fuel ⟨out_P, i⟩ a w hk1 ⟨A2, c2, K, M⟩ h
    unfold D_sensor_each__sensor_Gain_1_l1 at h
    refine wp_seq (X_reg ?_)
    refine X_o K M ?_; clear K; intro a K
    refine wpList_nil (then_n (wp_seq ?_))
    refine X_cond K rfl (fun hb => ?_) (fun hb => ?_)
    · have h := ctrue hb h
      refine wp_skip (then_n (wp_seq (wp_block (wp_seq (X_reg ?_)))))
      refine X_o K M ?_; clear K
      obtain ⟨e3, h_e3, h⟩ := obind h
      refine Y_r (fun _ K => rd_ix rfl sl43 K rfl rfl (inA R_p_P) h_e3) M ?_
      refine Y_r (fun _ K => rd_elC rfl sc3 K rfl rfl (inA R_p_P) h_e3 rfl) M ?_
      iterate 2 (refine Y_o M ?_)
      intro a K
      refine wpList_nil (then_n ?_)
      refine wp_region_tl (fun w => Mem _ _ w _) [0,0,0,0,0,0,0,0,0,0,0,0,0,1,0,0,2] (by kernel_rfl) (by kernel_rfl) M.drew ?_
      replace M := M.drew
      refine T_r K (rd_field rfl fld45_2 K rfl) ?_; clear K
      refine U_r (fun _ K => rd_ldC rfl sc43 K rfl (inM 0 rfl) rfl) ?_
      iterate 4 (refine U_o ?_)
      refine U_r (fun _ K => rd_field rfl fld45_0 K rfl) ?_
      refine U_r (fun _ K => rd_ldC rfl sc3 K rfl (inM 3 rfl) rfl) ?_; intro a K
      obtain ⟨_, h0, h⟩ := obind h
      have h0 := nz_spec h0
      refine T_r K (rd_rem rfl K rfl rfl h0) ?_; clear K
      refine U_o ?_
      refine U_r (fun _ K => rd_field rfl fld45_0 K rfl) ?_
      refine U_r (fun _ K => rd_ldC rfl sc3 K rfl (inM 3 rfl) rfl) ?_; intro a K
      obtain ⟨_, h0, h⟩ := obind h
      have h0 := nz_spec h0
      refine T_r K (rd_quo rfl K rfl rfl h0) ?_; clear K; intro a K
      obtain ⟨r3, h_r3, h⟩ := obind h
      refine T_a K (ac_call (vs := [I e3, I (Int.tmod i p_W), I (IntKind.i64.wrap (Int.tdiv i p_W))]) (cap := [.pointer (some ⟨g_Gain_1_0, 0, none⟩), .pointer (some ⟨g_Gain_1_1, 0, none⟩)]) rfl fok102 K rfl rfl (W_sensor_Gain_1 N e3 (Int.tmod i p_W) (IntKind.i64.wrap (Int.tdiv i p_W)) Gain_1_00 Gain_1_01 Gain_1_02 Gain_1_1 g_Gain_1_0 g_Gain_1_1 _ (inO B_g_Gain_1_0 _ M) (inO B_g_Gain_1_1 _ M) r3 h_r3)) ?_
      have M0 := M; clear K M; rintro _ a w ⟨rfl, M⟩ K
      replace M := M0.call M; clear M0
      refine ⟨M.pick [0,1,2,3] (by decide), ?_⟩
      refine T_o K ?_; clear K
      obtain ⟨e4, h_e4, h⟩ := obind h
      refine U_r (fun _ K => rd_ix rfl sl43 K rfl rfl (inR (C := (cI .i64)) 1 rfl rfl) h_e4) ?_; intro a K
      obtain ⟨l4, h_l4, h⟩ := obind h
      refine T_b K (ac_rowset (el := min r3 65535) rfl sz3 rfl rfl K rfl rfl rfl 1 M rfl h_l4) ?_
      have M0 := M; clear K M; rintro _ a w M K
      have hl := setL_len h_l4
      try rw [hl] at M
      clear hl
      clear M0
      refine T_end ?_
      refine inb_n (then_n (X_reg ?_))
      refine X_o K M ?_; clear K
      refine Y_o M ?_; intro a K
      refine wpList_nil ?_
      exact then_n ⟨(l4, IntKind.i64.wrap (i + 1)), ⟨A2, c2, K.pick [1,2,4,5,18,19,20], M.pick [0,1,2,3] (by decide)⟩, h⟩
    have h := cfalse hb h
    refine wp_exit ?_
    refine then_e ?_
    exact then_e (hk1 (out_P, i) _ _ ⟨A2, c2, K.pick [1,2,4,5,18,19,20], M.pick [0,1,2,3] (by decide)⟩ h)
  ·
    refine R_ac [7,8,10] (by kernel_rfl) rfl K (want_no rfl) rfl rfl (ac_alloc rfl z45 M) ?_
    clear K M; rintro _ a w ⟨g_out2, rfl, M⟩ K
    refine ⟨fun _ => M.pick [1,2] (by decide), ?_⟩
    refine R_br [7] (by kernel_rfl) ⟨?_, trivial⟩
    obtain ⟨l5, h_l5, h⟩ := obind h
    refine R_ac [8,10] (by kernel_rfl) rfl K (want_no rfl) rfl rfl (ac_make (C := (cI .i64)) (z := 0) rfl sl43 rfl z3 rfl K rfl rfl M h_l5) ?_
    clear K M; rintro _ a w ⟨A4, c4, rfl, M⟩ K
    refine ⟨fun _ => M.pick [2,3] (by decide), ?_⟩
    refine R_rd 8 [10] (by kernel_rfl) rfl K (want_no rfl) rfl rfl (rd_build rfl K (vs := [(0, I p_W), (1, I p_H), (2, .slice A4 l5.length c4)]) (cs := [I p_W, I p_H, .slice A4 l5.length c4]) rfl (by kernel_rfl)) ?_; clear K; intro a K
    refine R_br [10] (by kernel_rfl) ⟨?_, trivial⟩
    refine R_a0 [] (by kernel_rfl) rfl K (want_no rfl) rfl (ac_storeA rfl ty45 K rfl (ds := [I p_W, I p_H, .slice A4 l5.length c4]) rfl rfl 1 M rfl rfl rfl) ?_
    clear K M; rintro _ a w M K
    refine ⟨fun h => absurd h (by decide), ?_⟩
    refine R_end ?_
    refine then_n (wp_seq (wp_seq (X_reg ?_)))
    refine X_r K (rd_field rfl fld45_2 K rfl) M ?_; clear K
    refine Y_r (fun _ K => rd_ldC rfl sc43 K rfl (inM 3 rfl) rfl) M ?_
    refine Y_r (fun _ K => rd_len rfl un43 K rfl) M ?_
    refine Y_o M ?_; intro a K
    refine wpList_nil (then_n (wp_block ?_))
    refine X_lp (id := 0) (Rel := fun (⟨out_P3, i3⟩ : List Int × Int) a w => ∃ (A5 : Option Addr) (c5 : Nat), Kn a 43 [(1, .func (.func 102) #[] #[.pointer (some ⟨g_Gain_1_0, 0, none⟩), .pointer (some ⟨g_Gain_1_1, 0, none⟩)]), (2, .pointer (some ⟨g_p, 0, none⟩)), (4, .pointer (some ⟨g_x, 0, none⟩)), (5, .pointer (some ⟨g_out2, 0, none⟩)), (18, .slice A_p_P p_P.length c_p_P), (19, I (p_P.length : Int)), (20, I i3)] ∧ Mem w0.heap.size w0 w [.row 3 1 A5 out_P3.length c5 ((cI .i64).all out_P3), .blk g_out2 45 [I p_W, I p_H, .slice A5 out_P3.length c5], .blk g_x 45 [I 0, I 0, .slice none ([] : List Int).length 0], .blk g_p 45 [I p_W, I p_H, .slice A_p_P p_P.length c_p_P]]) h (fun _ _ => rfl) ⟨A4, c4, K.pick [1,2,4,5,18,19,20], M.pick [0,1,2,3] (by decide)⟩ ?_ ?_
    · clear K M h
      rintro ⟨out_P4, i4⟩ a w ⟨A6, c6, K, M⟩ h
      try dsimp only at h
      refine inb_e ?_
      refine then_n (wp_seq (X_reg ?_))
      refine X_r K (rd_ldA rfl ty45 K rfl (inM 1 rfl) rfl rfl) M ?_; clear K; intro a K
      refine X_b K (ac_storeA rfl ty45 K rfl (ds := [I p_W, I p_H, .slice A6 out_P4.length c6]) rfl rfl 2 M rfl rfl rfl) ?_
      clear K M; rintro _ a w M K
      refine wpList_nil (then_n (wp_ret ?_))
      cases h
      exact ret1 K rfl (res_cellA K rfl ty45 (M.blkAt (i := 2) rfl) rfl) ⟨_, rfl, _, _, rfl, ((M).pick [0] (by decide))⟩
    clear K M h
    rintro kk fuel ⟨out_P3, i3⟩ a w hk1 ⟨A5, c5, K, M⟩ h
    unfold D_sensor_each__sensor_Gain_1_l1 at h
    refine wp_seq (X_reg ?_)
    refine X_o K M ?_; clear K; intro a K
    refine wpList_nil (then_n (wp_seq ?_))
    refine X_cond K rfl (fun hb => ?_) (fun hb => ?_)
    · have h := ctrue hb h
      refine wp_skip (then_n (wp_seq (wp_block (wp_seq (X_reg ?_)))))
      refine X_o K M ?_; clear K
      obtain ⟨e7, h_e7, h⟩ := obind h
      refine Y_r (fun _ K => rd_ix rfl sl43 K rfl rfl (inA R_p_P) h_e7) M ?_
      refine Y_r (fun _ K => rd_elC rfl sc3 K rfl rfl (inA R_p_P) h_e7 rfl) M ?_
      iterate 2 (refine Y_o M ?_)
      intro a K
      refine wpList_nil (then_n ?_)
      refine wp_region_tl (fun w => Mem _ _ w _) [0,0,0,0,0,0,0,0,0,0,0,0,0,1,0,0,2] (by kernel_rfl) (by kernel_rfl) M.drew ?_
      replace M := M.drew
      refine T_r K (rd_field rfl fld45_2 K rfl) ?_; clear K
      refine U_r (fun _ K => rd_ldC rfl sc43 K rfl (inM 1 rfl) rfl) ?_
      iterate 4 (refine U_o ?_)
      refine U_r (fun _ K => rd_field rfl fld45_0 K rfl) ?_
      refine U_r (fun _ K => rd_ldC rfl sc3 K rfl (inM 3 rfl) rfl) ?_; intro a K
      obtain ⟨_, h0, h⟩ := obind h
      have h0 := nz_spec h0
      refine T_r K (rd_rem rfl K rfl rfl h0) ?_; clear K
      refine U_o ?_
      refine U_r (fun _ K => rd_field rfl fld45_0 K rfl) ?_
      refine U_r (fun _ K => rd_ldC rfl sc3 K rfl (inM 3 rfl) rfl) ?_; intro a K
      obtain ⟨_, h0, h⟩ := obind h
      have h0 := nz_spec h0
      refine T_r K (rd_quo rfl K rfl rfl h0) ?_; clear K; intro a K
      obtain ⟨r5, h_r5, h⟩ := obind h
      refine T_a K (ac_call (vs := [I e7, I (Int.tmod i3 p_W), I (IntKind.i64.wrap (Int.tdiv i3 p_W))]) (cap := [.pointer (some ⟨g_Gain_1_0, 0, none⟩), .pointer (some ⟨g_Gain_1_1, 0, none⟩)]) rfl fok102 K rfl rfl (W_sensor_Gain_1 N e7 (Int.tmod i3 p_W) (IntKind.i64.wrap (Int.tdiv i3 p_W)) Gain_1_00 Gain_1_01 Gain_1_02 Gain_1_1 g_Gain_1_0 g_Gain_1_1 _ (inO B_g_Gain_1_0 _ M) (inO B_g_Gain_1_1 _ M) r5 h_r5)) ?_
      have M0 := M; clear K M; rintro _ a w ⟨rfl, M⟩ K
      replace M := M0.call M; clear M0
      refine ⟨M.pick [0,1,2,3] (by decide), ?_⟩
      refine T_o K ?_; clear K
      obtain ⟨e8, h_e8, h⟩ := obind h
      refine U_r (fun _ K => rd_ix rfl sl43 K rfl rfl (inR (C := (cI .i64)) 0 rfl rfl) h_e8) ?_; intro a K
      obtain ⟨l7, h_l7, h⟩ := obind h
      refine T_b K (ac_rowset (el := min r5 65535) rfl sz3 rfl rfl K rfl rfl rfl 0 M rfl h_l7) ?_
      have M0 := M; clear K M; rintro _ a w M K
      have hl := setL_len h_l7
      try rw [hl] at M
      clear hl
      clear M0
      refine T_end ?_
      refine inb_n (then_n (X_reg ?_))
      refine X_o K M ?_; clear K
      refine Y_o M ?_; intro a K
      refine wpList_nil ?_
      exact then_n ⟨(l7, IntKind.i64.wrap (i3 + 1)), ⟨A5, c5, K.pick [1,2,4,5,18,19,20], M.pick [0,1,2,3] (by decide)⟩, h⟩
    have h := cfalse hb h
    refine wp_exit ?_
    refine then_e ?_
    exact then_e (hk1 (out_P3, i3) _ _ ⟨A5, c5, K.pick [1,2,4,5,18,19,20], M.pick [0,1,2,3] (by decide)⟩ h)
set_option maxRecDepth 100000 in
set_option maxHeartbeats 4000000 in
theorem W_sensor_Gain (N : Nat) (p_W : Int) (p_H : Int) (p_P : List Int) (A_p_P : Option Addr) (c_p_P : Nat) (phase : Int) (gains0 : Int) (gains1 : Int) (gains2 : Int) (w0 : World) (R_p_P : SL w0 (cI .i64) A_p_P p_P) (C_p_P : p_P.length ≤ c_p_P) (r : Int × Int × List Int × Int) (h : D_sensor_Gain N p_W p_H p_P phase gains0 gains1 gains2 = some r) :
    Calls Try.prog 101 #[.agg #[I p_W, I p_H, .slice A_p_P p_P.length c_p_P], I phase, .agg #[I gains0, I gains1, I gains2]] w0 fun e w' => ∃ v, e = .returned v ∧ ∃ A2 c2, v = .tuple #[.agg #[I r.1, I r.2.1, .slice A2 r.2.2.1.length c2], I r.2.2.2] ∧ Mem w0.heap.size w0 w' [.row 3 1 A2 r.2.2.1.length c2 ((cI .i64).all r.2.2.1)] := by
  refine X_enter Try.func101 rfl Try.ntmps101 rfl ?_
  intro a K
  have M := Mem.start w0
  have K : Kn a 37 [(0, .agg #[I p_W, I p_H, .slice A_p_P p_P.length c_p_P]), (1, I phase), (2, .agg #[I gains0, I gains1, I gains2])] := K
  unfold D_sensor_Gain at h
  refine wp_seq (X_reg ?_)
  refine X_a K (ac_box rfl K rfl (cs := [I p_W, I p_H, .slice A_p_P p_P.length c_p_P]) rfl M) ?_
  clear K M; rintro _ a w ⟨g_p, rfl, M⟩ K
  refine X_a K (ac_box rfl K rfl (cs := [I phase]) rfl M) ?_
  clear K M; rintro _ a w ⟨g_phase, rfl, M⟩ K
  refine X_a K (ac_box rfl K rfl (cs := [I gains0, I gains1, I gains2]) rfl M) ?_
  clear K M; rintro _ a w ⟨g_gains, rfl, M⟩ K
  refine X_a K (ac_alloc rfl z45 M) ?_
  clear K M; rintro _ a w ⟨g_x, rfl, M⟩ K
  refine X_o K M ?_; clear K; intro a K
  refine wpList_nil (then_n (wp_seq (wp_seq (X_reg ?_))))
  refine X_r K (rd_ldA rfl ty45 K rfl (inM 3 rfl) rfl rfl) M ?_; clear K; intro a K
  obtain ⟨r2, h_r2, h⟩ := obind h
  refine X_a K (ac_call (vs := [.agg #[I p_W, I p_H, .slice A_p_P p_P.length c_p_P]]) (cap := []) rfl fok70 K rfl rfl (W_sensor_fine N p_W p_H p_P A_p_P c_p_P _ ((inA R_p_P) _ M) C_p_P r2 h_r2)) ?_
  have M0 := M; clear K M; rintro _ a w ⟨rfl, M⟩ K
  replace M := M0.call M; clear M0
  refine X_o K M ?_; clear K; intro a K
  refine wpList_nil (then_n ?_)
  refine X_cond K rfl (fun hb => ?_) (fun hb => ?_)
  · have h := ctrue hb h
    refine wp_seq (X_reg ?_)
    refine X_r K (rd_build rfl K (vs := []) (cs := [I 0, I 0, .slice none ([] : List Int).length 0]) rfl (by kernel_rfl)) M ?_; clear K; intro a K
    refine X_b K (ac_storeA rfl ty45 K rfl (ds := [I 0, I 0, .slice none ([] : List Int).length 0]) rfl rfl 0 M rfl rfl rfl) ?_
    clear K M; rintro _ a w M K
    refine X_o K M ?_; clear K; intro a K
    refine wpList_nil (then_n (wp_ret (then_r ?_)))
    cases h
    exact ret2 K rfl (res_cellA K rfl ty45 (M.blkAt (i := 0) rfl) rfl) (res_tmp K rfl) ⟨_, rfl, _, _, rfl, (((Mem.nilrow 3 1 (cI .i64) M)).pick [0] (by decide))⟩
  have h := cfalse hb h
  refine wp_skip (then_n (wp_seq (wp_seq (X_reg ?_))))
  refine X_r K (rd_ldA rfl ty38 K rfl (inM 1 rfl) rfl rfl) M ?_; clear K
  refine Y_o M ?_; intro a K
  refine wpList_nil (then_n (wp_block ?_))
  refine X_lp (id := 0) (Rel := fun (i : Int) a w => Kn a 37 [(3, .pointer (some ⟨g_p, 0, none⟩)), (4, .pointer (some ⟨g_phase, 0, none⟩)), (5, .pointer (some ⟨g_gains, 0, none⟩)), (6, .pointer (some ⟨g_x, 0, none⟩)), (14, .agg #[I gains0, I gains1, I gains2]), (15, I i)] ∧ Mem w0.heap.size w0 w [.blk g_x 45 [I 0, I 0, .slice none ([] : List Int).length 0], .blk g_gains 38 [I gains0, I gains1, I gains2], .blk g_phase 3 [I phase], .blk g_p 45 [I p_W, I p_H, .slice A_p_P p_P.length c_p_P]]) h (fun _ _ => rfl) ⟨K.pick [3,4,5,6,14,15], M.pick [0,1,2,3] (by decide)⟩ ?_ ?_
  · clear K M h
    rintro i2 a w ⟨K, M⟩ h
    try dsimp only at h
    refine inb_e ?_
    refine then_n (wp_seq (X_reg ?_))
    refine X_r K (rd_ldA rfl ty45 K rfl (inM 3 rfl) rfl rfl) M ?_; clear K
    refine Y_r (fun _ K => rd_func rfl K (vs := [.pointer (some ⟨g_gains, 0, none⟩), .pointer (some ⟨g_phase, 0, none⟩)]) rfl) M ?_; intro a K
    obtain ⟨r3, h_r3, h⟩ := obind h
    refine X_a K (ac_call (vs := [.agg #[I p_W, I p_H, .slice A_p_P p_P.length c_p_P], .func (.func 102) #[] #[.pointer (some ⟨g_gains, 0, none⟩), .pointer (some ⟨g_phase, 0, none⟩)]]) (cap := []) rfl fok71 K rfl rfl (W_sensor_each__sensor_Gain_1 N p_W p_H p_P A_p_P c_p_P gains0 gains1 gains2 phase g_gains g_phase _ ((inA R_p_P) _ M) C_p_P (M.blkAt (i := 1) rfl) (M.blkAt (i := 2) rfl) r3 h_r3)) ?_
    have M0 := M; clear K M; rintro _ a w ⟨A, c, rfl, M⟩ K
    replace M := M0.call M; clear M0
    refine X_b K (ac_storeA rfl ty45 K rfl (ds := [I r3.1, I r3.2.1, .slice A r3.2.2.length c]) rfl rfl 1 M rfl rfl rfl) ?_
    clear K M; rintro _ a w M K
    refine X_o K M ?_; clear K; intro a K
    refine wpList_nil (then_n (wp_ret ?_))
    cases h
    exact ret2 K rfl (res_cellA K rfl ty45 (M.blkAt (i := 1) rfl) rfl) (res_tmp K rfl) ⟨_, rfl, _, _, rfl, ((M).pick [0] (by decide))⟩
  clear K M h
  rintro kk fuel i a w hk1 ⟨K, M⟩ h
  unfold D_sensor_Gain_l1 at h
  refine wp_seq (X_reg ?_)
  refine X_o K M ?_; clear K; intro a K
  refine wpList_nil (then_n (wp_seq ?_))
  refine X_cond K rfl (fun hb => ?_) (fun hb => ?_)
  · have h := ctrue hb h
    refine wp_skip (then_n (wp_seq (wp_block (wp_seq (X_reg ?_)))))
    obtain ⟨e2, h_e2, h⟩ := obind h
    refine X_r K (rd_ixV (C := (cI .i64)) (es := [gains0, gains1, gains2]) rfl ar38 sc3 K rfl rfl rfl h_e2 rfl) M ?_; clear K
    refine Y_o M ?_; intro a K
    refine wpList_nil (then_n (wp_seq (X_reg ?_)))
    refine X_o K M ?_; clear K
    iterate 2 (refine Y_o M ?_)
    intro a K
    rcases Bool.eq_false_or_eq_true (decide (e2 < 0)) with hb | hb
    · have h := ctrue hb h
      have K := K.reb (s := 20) rfl hb
      refine X_o K M ?_; clear K
      iterate 10 (refine Y_o M ?_)
      intro a K
      refine wpList_nil (then_n ?_)
      refine X_condT K rfl ?_
      refine wp_seq (X_reg ?_)
      refine X_r K (rd_build rfl K (vs := []) (cs := [I 0, I 0, .slice none ([] : List Int).length 0]) rfl (by kernel_rfl)) M ?_; clear K; intro a K
      refine X_b K (ac_storeA rfl ty45 K rfl (ds := [I 0, I 0, .slice none ([] : List Int).length 0]) rfl rfl 0 M rfl rfl rfl) ?_
      clear K M; rintro _ a w M K
      refine X_o K M ?_; clear K; intro a K
      refine wpList_nil (then_n (wp_ret (inb_r (then_r (then_r (inb_r (then_r ?_)))))))
      cases h
      exact ret2 K rfl (res_cellA K rfl ty45 (M.blkAt (i := 0) rfl) rfl) (res_tmp K rfl) ⟨_, rfl, _, _, rfl, (((Mem.nilrow 3 1 (cI .i64) M)).pick [0] (by decide))⟩
    have h := cfalse hb h
    have K := K.reb (s := 20) rfl hb
    refine X_o K M ?_; clear K
    iterate 3 (refine Y_o M ?_)
    intro a K
    rcases Bool.eq_false_or_eq_true (decide (65535 < e2)) with hb | hb
    · have h := ctrue hb h
      have K := K.reb (s := 24) rfl hb
      refine X_o K M ?_; clear K
      iterate 6 (refine Y_o M ?_)
      intro a K
      refine wpList_nil (then_n ?_)
      refine X_condT K rfl ?_
      refine wp_seq (X_reg ?_)
      refine X_r K (rd_build rfl K (vs := []) (cs := [I 0, I 0, .slice none ([] : List Int).length 0]) rfl (by kernel_rfl)) M ?_; clear K; intro a K
      refine X_b K (ac_storeA rfl ty45 K rfl (ds := [I 0, I 0, .slice none ([] : List Int).length 0]) rfl rfl 0 M rfl rfl rfl) ?_
      clear K M; rintro _ a w M K
      refine X_o K M ?_; clear K; intro a K
      refine wpList_nil (then_n (wp_ret (inb_r (then_r (then_r (inb_r (then_r ?_)))))))
      cases h
      exact ret2 K rfl (res_cellA K rfl ty45 (M.blkAt (i := 0) rfl) rfl) (res_tmp K rfl) ⟨_, rfl, _, _, rfl, (((Mem.nilrow 3 1 (cI .i64) M)).pick [0] (by decide))⟩
    have h := cfalse hb h
    have K := K.reb (s := 24) rfl hb
    refine X_r K (rd_ldC rfl sc3 K rfl (inM 2 rfl) rfl) M ?_; clear K
    iterate 3 (refine Y_o M ?_)
    intro a K
    rcases Bool.eq_false_or_eq_true (decide (phase < 0)) with hb | hb
    · have h := ctrue hb h
      have K := K.reb (s := 28) rfl hb
      refine X_o K M ?_; clear K
      iterate 2 (refine Y_o M ?_)
      intro a K
      refine wpList_nil (then_n ?_)
      refine X_condT K rfl ?_
      refine wp_seq (X_reg ?_)
      refine X_r K (rd_build rfl K (vs := []) (cs := [I 0, I 0, .slice none ([] : List Int).length 0]) rfl (by kernel_rfl)) M ?_; clear K; intro a K
      refine X_b K (ac_storeA rfl ty45 K rfl (ds := [I 0, I 0, .slice none ([] : List Int).length 0]) rfl rfl 0 M rfl rfl rfl) ?_
      clear K M; rintro _ a w M K
      refine X_o K M ?_; clear K; intro a K
      refine wpList_nil (then_n (wp_ret (inb_r (then_r (then_r (inb_r (then_r ?_)))))))
      cases h
      exact ret2 K rfl (res_cellA K rfl ty45 (M.blkAt (i := 0) rfl) rfl) (res_tmp K rfl) ⟨_, rfl, _, _, rfl, (((Mem.nilrow 3 1 (cI .i64) M)).pick [0] (by decide))⟩
    have h := cfalse hb h
    have K := K.reb (s := 28) rfl hb
    refine X_r K (rd_ldC rfl sc3 K rfl (inM 2 rfl) rfl) M ?_; clear K
    iterate 2 (refine Y_o M ?_)
    intro a K
    refine wpList_nil (then_n ?_)
    refine X_cond K rfl (fun hb => ?_) (fun hb => ?_)
    · have h := ctrue hb h
      refine wp_seq (X_reg ?_)
      refine X_r K (rd_build rfl K (vs := []) (cs := [I 0, I 0, .slice none ([] : List Int).length 0]) rfl (by kernel_rfl)) M ?_; clear K; intro a K
      refine X_b K (ac_storeA rfl ty45 K rfl (ds := [I 0, I 0, .slice none ([] : List Int).length 0]) rfl rfl 0 M rfl rfl rfl) ?_
      clear K M; rintro _ a w M K
      refine X_o K M ?_; clear K; intro a K
      refine wpList_nil (then_n (wp_ret (inb_r (then_r (then_r (inb_r (then_r ?_)))))))
      cases h
      exact ret2 K rfl (res_cellA K rfl ty45 (M.blkAt (i := 0) rfl) rfl) (res_tmp K rfl) ⟨_, rfl, _, _, rfl, (((Mem.nilrow 3 1 (cI .i64) M)).pick [0] (by decide))⟩
    have h := cfalse hb h
    refine wp_skip (inb_n (then_n (X_reg ?_)))
    refine X_o K M ?_; clear K
    refine Y_o M ?_; intro a K
    refine wpList_nil ?_
    exact then_n ⟨(IntKind.i64.wrap (i + 1)), ⟨K.pick [3,4,5,6,14,15], M.pick [0,1,2,3] (by decide)⟩, h⟩
  have h := cfalse hb h
  refine wp_exit ?_
  refine then_e ?_
  exact then_e (hk1 i _ _ ⟨K.pick [3,4,5,6,14,15], M.pick [0,1,2,3] (by decide)⟩ h)
set_option maxRecDepth 100000 in
set_option maxHeartbeats 4000000 in
theorem W_sensor_Colour (N : Nat) (phase : Int) (x2 : Int) (y : Int) (w0 : World)  (r : Int × Int) (h : D_sensor_Colour N phase x2 y = some r) :
    Calls Try.prog 74 #[I phase, I x2, I y] w0 fun e w' => ∃ v, e = .returned v ∧ v = .tuple #[I r.1, I r.2] ∧ Mem w0.heap.size w0 w' [] := by
  refine X_enter Try.func74 rfl Try.ntmps74 rfl ?_
  intro a K
  have M := Mem.start w0
  have K : Kn a 28 [(0, I phase), (1, I x2), (2, I y)] := K
  unfold D_sensor_Colour at h
  refine wp_seq (X_reg ?_)
  refine X_o K M ?_; clear K
  refine Y_o M ?_; intro a K
  refine wpList_nil (then_n (wp_seq (wp_seq (X_reg ?_))))
  refine X_o K M ?_; clear K
  iterate 2 (refine Y_o M ?_)
  intro a K
  rcases Bool.eq_false_or_eq_true (decide (phase < 0)) with hb | hb
  · have h := ctrue hb h
    have K := K.reb (s := 10) rfl hb
    refine X_o K M ?_; clear K
    iterate 10 (refine Y_o M ?_)
    intro a K
    refine wpList_nil (then_n ?_)
    refine X_condT K rfl ?_
    refine wp_seq (X_reg ?_)
    refine X_o K M ?_; clear K
    refine Y_o M ?_; intro a K
    refine wpList_nil (then_n (wp_ret (then_r ?_)))
    cases h
    exact ret2 K rfl (res_tmp K rfl) (res_tmp K rfl) ⟨_, rfl, rfl, ((M).pick [] (by decide))⟩
  have h := cfalse hb h
  have K := K.reb (s := 10) rfl hb
  refine X_o K M ?_; clear K
  iterate 3 (refine Y_o M ?_)
  intro a K
  rcases Bool.eq_false_or_eq_true (decide (3 < phase)) with hb | hb
  · have h := ctrue hb h
    have K := K.reb (s := 14) rfl hb
    refine X_o K M ?_; clear K
    iterate 6 (refine Y_o M ?_)
    intro a K
    refine wpList_nil (then_n ?_)
    refine X_condT K rfl ?_
    refine wp_seq (X_reg ?_)
    refine X_o K M ?_; clear K
    refine Y_o M ?_; intro a K
    refine wpList_nil (then_n (wp_ret (then_r ?_)))
    cases h
    exact ret2 K rfl (res_tmp K rfl) (res_tmp K rfl) ⟨_, rfl, rfl, ((M).pick [] (by decide))⟩
  have h := cfalse hb h
  have K := K.reb (s := 14) rfl hb
  refine X_o K M ?_; clear K
  iterate 3 (refine Y_o M ?_)
  intro a K
  rcases Bool.eq_false_or_eq_true (decide (x2 < 0)) with hb | hb
  · have h := ctrue hb h
    have K := K.reb (s := 18) rfl hb
    refine X_o K M ?_; clear K
    iterate 2 (refine Y_o M ?_)
    intro a K
    refine wpList_nil (then_n ?_)
    refine X_condT K rfl ?_
    refine wp_seq (X_reg ?_)
    refine X_o K M ?_; clear K
    refine Y_o M ?_; intro a K
    refine wpList_nil (then_n (wp_ret (then_r ?_)))
    cases h
    exact ret2 K rfl (res_tmp K rfl) (res_tmp K rfl) ⟨_, rfl, rfl, ((M).pick [] (by decide))⟩
  have h := cfalse hb h
  have K := K.reb (s := 18) rfl hb
  refine X_o K M ?_; clear K
  iterate 2 (refine Y_o M ?_)
  intro a K
  refine wpList_nil (then_n ?_)
  refine X_cond K rfl (fun hb => ?_) (fun hb => ?_)
  · have h := ctrue hb h
    refine wp_seq (X_reg ?_)
    refine X_o K M ?_; clear K
    refine Y_o M ?_; intro a K
    refine wpList_nil (then_n (wp_ret (then_r ?_)))
    cases h
    exact ret2 K rfl (res_tmp K rfl) (res_tmp K rfl) ⟨_, rfl, rfl, ((M).pick [] (by decide))⟩
  have h := cfalse hb h
  refine wp_skip (then_n (wp_seq (X_reg ?_)))
  refine X_o K M ?_; clear K
  iterate 4 (refine Y_o M ?_)
  intro a K
  obtain ⟨r2, h_r2, h⟩ := obind h
  refine X_a K (ac_call (vs := [I phase, I (andI .i64 x2 1), I (andI .i64 y 1)]) (cap := []) rfl fok80 K rfl rfl (W_sensor_colour N phase (andI .i64 x2 1) (andI .i64 y 1) _  r2 h_r2)) ?_
  have M0 := M; clear K M; rintro _ a w ⟨rfl, M⟩ K
  replace M := M0.call M; clear M0
  refine X_o K M ?_; clear K
  refine Y_o M ?_; intro a K
  refine wpList_nil (then_n (wp_ret ?_))
  cases h
  exact ret2 K rfl (res_tmp K rfl) (res_tmp K rfl) ⟨_, rfl, rfl, ((M).pick [] (by decide))⟩
end Go.Proofs.Ytpmnfhifmmfglab

namespace Go.Proofs.Ytpmnfhifmmfglab
open Go.RowKit Go.Shelf
attribute [local go_sem] Oper.semAt_some
abbrev encP (W H : Int) (q : InP W H) : Array Value := #[.int .i64 q.1.1, .int .i64 q.1.2]
def keepB (L : List Nat) (A B : World) : Prop := ∀ k ∈ L, k < A.heap.size → B.heap[k]? = A.heap[k]?
set_option maxRecDepth 100000 in
set_option maxHeartbeats 4000000 in
theorem around1_stops (n : Nat) (hn : 1 ≤ n) (W H x y : Int) (A : Option Addr) (m c : Nat) (gp gx gy : Nat) (hW : W ≤ 64) (hH : H ≤ 64) (hx : 0 ≤ x ∧ x < W) (hy : 0 ≤ y ∧ y < H) (w : World)
    (bp : Blk w gp 45 #[.int .i64 W, .int .i64 H, .slice A m c]) (bx : Blk w gx 3 #[.int .i64 x]) (by_ : Blk w gy 3 #[.int .i64 y]) :
    SeqStopsK Fence.wide n Try.prog 107 #[.pointer (some ⟨gy, 0, none⟩), .pointer (some ⟨gp, 0, none⟩), .pointer (some ⟨gx, 0, none⟩)] (encP W H) (keepB [gp, gx, gy])
      (fun xs => xs.map (·.1) = aroundL W H x y) (fun _ => True) (aroundL W H x y).length w := fun l J Jx W0 hb0 hJ hJx hY h0 => by
  have bp0 : Blk W0 gp 45 #[.int .i64 W, .int .i64 H, .slice A m c] := bp.below hb0 bp.lt
  have bx0 : Blk W0 gx 3 #[.int .i64 x] := bx.below hb0 bx.lt
  have by0 : Blk W0 gy 3 #[.int .i64 y] := by_.below hb0 by_.lt
  refine callsIn_of_wp Try.func107 rfl trivial ?_ rfl
  simp only [Try.ntmps107, List.size_toArray, List.length_cons, List.length_nil, Nat.reduceAdd, Nat.reduceSub, Array.replicate_succ, Array.replicate_zero, List.push_toArray, List.append_toArray, List.nil_append, List.cons_append]
  have cy0 : W0.cell? ⟨gy, 0, none⟩ = some (.int .i64 y) := by0.c1.1
  have m1 : IntKind.i64.wrap (y - 1) = y - 1 := IntWalk.i64_in _ (by omega)
  have m2 : IntKind.i64.wrap (x - 1) = x - 1 := IntWalk.i64_in _ (by omega)
  have m3 : IntKind.i64.wrap (y + 1) = y + 1 := IntWalk.i64_in _ (by omega)
  have m4 : IntKind.i64.wrap (x + 1) = x + 1 := IntWalk.i64_in _ (by omega)
  have hst : ∀ v : Int, v = max (y - 1) 0 → ∃ (pre : List (InP W H)) (k : Nat), pre.map (·.1) ++ arV W H x y k v = aroundL W H x y ∧ y + 1 - v < k ∧ 0 ≤ v ∧ v ≤ 64 ∧ J pre W0 := fun v hv => ⟨[], 4, by subst hv; rfl, by omega, by omega, by omega, h0⟩
  clear hb0 bp bx by_ h0
  gi_wp2
  all_goals
    gi_loopw [5] (fun a wr => ∃ (v : Int) (pre : List (InP W H)) (k : Nat), a = .int .i64 v ∧ pre.map (·.1) ++ arV W H x y k v = aroundL W H x y ∧ y + 1 - v < k ∧ 0 ≤ v ∧ v ≤ 64 ∧ J pre wr ∧
        Blk wr gp 45 #[.int .i64 W, .int .i64 H, .slice A m c] ∧ Blk wr gx 3 #[.int .i64 x] ∧ Blk wr gy 3 #[.int .i64 y]) (fun a _ => 70 - (intOf a).toNat)
    case atStart =>
      obtain ⟨pre, k, h1, h2, h3, h4, h5⟩ := hst _ rfl
      exact ⟨max (y - 1) 0, pre, k, congrArg (Value.int .i64) (by omega), h1, h2, h3, h4, h5, bp0, bx0, by0⟩
    case round =>
      obtain ⟨v, pre, k, rfl, h1, h2, h3, h4, hJs, bp1, bx1, by1⟩ := hrel
      have cy1 : wr.cell? ⟨gy, 0, none⟩ = some (.int .i64 y) := by1.c1.1
      have cx1 : wr.cell? ⟨gx, 0, none⟩ = some (.int .i64 x) := bx1.c1.1
      obtain ⟨cp0, cp1, cp2⟩ := bp1.c3
      have m5 : IntKind.i64.wrap (v + 1) = v + 1 := IntWalk.i64_in _ (by omega)
      by_cases hv : v ≤ y + 1 ∧ v < H
      · obtain ⟨k, rfl⟩ : ∃ q, k = q + 1 := ⟨k - 1, by omega⟩
        rw [arV, if_pos hv] at h1
        obtain ⟨hv1, hv2⟩ := hv
        have hst2 : ∃ (pre2 : List (InP W H)) (j : Nat), pre2.map (·.1) ++ (arU W x y v j (max (x - 1) 0) ++ arV W H x y k (v + 1)) = aroundL W H x y ∧ x + 1 - max (x - 1) 0 < j ∧ J pre2 wr := ⟨pre, 4, h1, by omega, hJs⟩
        clear h1 hJs hst cy0 bp0 bx0 by0
        gi_wp2
        all_goals
          gi_loopw [6] (fun b wr2 => ∃ (u : Int) (pre2 : List (InP W H)) (j : Nat), b = .int .i64 u ∧ pre2.map (·.1) ++ (arU W x y v j u ++ arV W H x y k (v + 1)) = aroundL W H x y ∧ x + 1 - u < j ∧ 0 ≤ u ∧ u ≤ 64 ∧ J pre2 wr2 ∧
              Blk wr2 gp 45 #[.int .i64 W, .int .i64 H, .slice A m c] ∧ Blk wr2 gx 3 #[.int .i64 x] ∧ Blk wr2 gy 3 #[.int .i64 y]) (fun b _ => 70 - (intOf b).toNat)
          case atStart =>
            obtain ⟨pre2, j, h5, h6, h7⟩ := hst2
            exact ⟨max (x - 1) 0, pre2, j, congrArg (Value.int .i64) (by omega), h5, h6, by omega, by omega, h7, bp1, bx1, by1⟩
          case round =>
            clear hst2 cy1 cx1 cp0 cp1 cp2 bp1 bx1 by1
            obtain ⟨u, pre2, j, rfl, h5, h6, h7, h8, hJ2, bp2, bx2, by2⟩ := hrel
            have cy2 := by2.c1.1
            have cx2 := bx2.c1.1
            obtain ⟨cp0, cp1, cp2⟩ := bp2.c3
            have m6 : IntKind.i64.wrap (u + 1) = u + 1 := IntWalk.i64_in _ (by omega)
            by_cases hu : u ≤ x + 1 ∧ u < W
            · obtain ⟨j, rfl⟩ : ∃ q, j = q + 1 := ⟨j - 1, by omega⟩
              rw [arU, if_pos hu] at h5
              obtain ⟨hu1, hu2⟩ := hu
              by_cases hne : u ≠ x ∨ v ≠ y
              · rw [if_pos hne] at h5
                have hlen : pre2.length < (aroundL W H x y).length := by rw [← h5]; simp
                obtain ⟨fn, tmps, assign, body, hyl, hR⟩ := hY pre2 ⟨(u, v), h7, hu2, h3, hv2⟩ _ hJ2 hlen
                dsimp only [encP] at hyl
                have h5' : (pre2 ++ [(⟨(u, v), h7, hu2, h3, hv2⟩ : InP W H)]).map (·.1) ++ (arU W x y v j (u + 1) ++ arV W H x y k (v + 1)) = aroundL W H x y := by rw [← h5]; simp
                clear h5 hJ2
                by_cases hux : u = x
                · have hvy : ¬ v = y := by omega
                  subst hux
                  gi_wp2
                  all_goals
                    refine hR.mono ?_
                    rintro e W3 (⟨rfl, hJ3, hk3⟩ | ⟨rfl, hJx3⟩)
                    · have bp3 : Blk W3 gp 45 _ := (hk3 gp (by simp) bp2.lt).trans bp2
                      have bx3 : Blk W3 gx 3 _ := (hk3 gx (by simp) bx2.lt).trans bx2
                      have by3 : Blk W3 gy 3 _ := (hk3 gy (by simp) by2.lt).trans by2
                      clear cy2 cx2 cp0 cp1 cp2 bp2 bx2 by2 hk3
                      gi_wp2
                      refine ⟨⟨_, _, j, rfl, h5', by omega, by omega, by omega, hJ3, bp3, bx3, by3⟩, by simp [intOf]; omega⟩
                    · gi_wp2
                      refine bodyPost_ret (results_none rfl _ _ _) rfl ?_
                      exact ⟨⟨_, rfl⟩, .inr ⟨_, trivial, hJx3⟩⟩
                · gi_wp2
                  all_goals
                    refine hR.mono ?_
                    rintro e W3 (⟨rfl, hJ3, hk3⟩ | ⟨rfl, hJx3⟩)
                    · have bp3 : Blk W3 gp 45 _ := (hk3 gp (by simp) bp2.lt).trans bp2
                      have bx3 : Blk W3 gx 3 _ := (hk3 gx (by simp) bx2.lt).trans bx2
                      have by3 : Blk W3 gy 3 _ := (hk3 gy (by simp) by2.lt).trans by2
                      clear cy2 cx2 cp0 cp1 cp2 bp2 bx2 by2 hk3
                      gi_wp2
                      refine ⟨⟨_, _, j, rfl, h5', by omega, by omega, by omega, hJ3, bp3, bx3, by3⟩, by simp [intOf]; omega⟩
                    · gi_wp2
                      refine bodyPost_ret (results_none rfl _ _ _) rfl ?_
                      exact ⟨⟨_, rfl⟩, .inr ⟨_, trivial, hJx3⟩⟩
              · rw [if_neg hne] at h5
                obtain ⟨rfl, rfl⟩ : u = x ∧ v = y := by omega
                gi_wp2
                all_goals
                  refine ⟨fun _ h => (by cases h), ?_⟩
                  gi_wp2
                  refine ⟨⟨_, pre2, j, rfl, h5, by omega, by omega, by omega, hJ2, bp2, bx2, by2⟩, by simp [intOf]; omega⟩
            · have hend : pre2.map (·.1) ++ arV W H x y k (v + 1) = aroundL W H x y := by
                cases j with
                | zero => simpa [arU] using h5
                | succ j => rw [arU, if_neg hu] at h5; simpa using h5
              clear h5
              gi_wp2
              all_goals exact ⟨⟨_, pre2, k, rfl, hend, by omega, by omega, by omega, hJ2, bp2, bx2, by2⟩, by simp [intOf]; omega⟩
      · have hend : pre.map (·.1) = aroundL W H x y := by
          cases k with
          | zero => simpa [arV] using h1
          | succ k => rw [arV, if_neg hv] at h1; simpa using h1
        clear h1
        gi_wp2
        all_goals
          go_end0
          exact ⟨⟨_, rfl⟩, .inl ⟨pre, hend, hJs⟩⟩
end Go.Proofs.Ytpmnfhifmmfglab

namespace Go.Proofs.Ytpmnfhifmmfglab
open Go.RowKit
section
variable {P : Program} {ops : Array Oper} {Q : Exit → Act → World → Prop} {a : Act} {w : World} {o : Oper} {lp n : Nat}
def noDefer (ops : Array Oper) : Bool := ops.all fun o => match o.op with | .defer _ => false | _ => true
theorem rowsI {row : String} {args : Array Value} {R : Value → World → Prop} (h : Rows P row args w R) : RowsIn (Fence.wide.inRound lp) n P row args w R :=
  fun c cs _ => let ⟨v, w', r, s⟩ := h c cs; ⟨v, w', r, stepsIn_wide.2 s⟩
theorem wpI_op (hnd : ∀ c, o.op ≠ .defer c) {nx nx' : Act → World → Prop} (hn : ∀ a w, nx a w → nx' a w) (h : o.wp P a w nx Q) : o.wpIn (Fence.wide.inRound lp) n P a w nx' Q := by
  refine ⟨fun f _ => trivial, ?_⟩
  have hs : Oper.semAt (Fence.wide.inRound lp).round a.eval o = execOp a.eval o := Oper.semAt_some lp _ _ hnd
  rw [hs]
  unfold Oper.wp at h
  generalize (execOp a.eval o).run P w = res at h
  have hd : ∀ k : Nat, (Fence.wide.inRound lp).depth.isSome = true → 1 ≤ k := fun _ h => by simp [Fence.wide] at h
  match res, h with
  | .ok (.value v) w', h => exact hn _ _ h
  | .ok .skip w', h => exact hn _ _ h
  | .ok (.defer d) w', h => exact hn _ _ h
  | .ok (.enter f args) w', h =>
    refine ⟨hd _, CallsIn.inRound lp (callsIn_wide.2 (Calls.mono h ?_))⟩
    intro e w'' he
    cases e with
    | returned v => exact hn _ _ he
    | panicked c => exact he
    | outgrown => exact he
  | .ok (.row row args) w', h =>
    refine ⟨hd _, ?_⟩
    have := rowsI (lp := lp) (n := n - 1) h
    exact this.mono fun v w'' hv => hn _ _ hv
  | .halt (.panic v) w', h => exact h
  | .ok (.round ..) w', h => exact h.elim
/-- Operation by operation. -/
theorem wpI_ops (hnd : ∀ (i : Nat) (o : Oper), ops[i]? = some o → ∀ c, o.op ≠ .defer c) (hq : ¬ LetsOut Q) : ∀ (l : List Nat) (a : Act) (w : World), wpOps P ops Q l a w → wpOpsIn (Fence.wide.inRound lp) n P ops Q l a w
  | [], a, w, h => h
  | i :: rest, a, w, h => by
    unfold wpOps at h
    unfold wpOpsIn
    cases ho : ops[i]? with
    | none => simp only [ho] at h ⊢; exact wpI_ops hnd hq rest a w h
    | some o =>
      simp only [ho] at h ⊢
      by_cases hw : Region.wanted o (yielded ops a.tmps) = true
      · rw [if_pos hw] at h ⊢
        rcases h with h | ⟨_, h⟩
        · exact wpI_op (hnd i o ho) (fun a w h => wpI_ops hnd hq rest a w h) h
        · exact absurd h hq
      · rw [if_neg hw] at h ⊢
        exact ⟨fun f _ => trivial, wpI_ops hnd hq rest _ w h⟩
theorem noDefer_spec {ops : Array Oper} (h : noDefer ops = true) (i : Nat) (o : Oper) (ho : ops[i]? = some o) : ∀ c, o.op ≠ .defer c := by
  intro c e
  unfold noDefer at h
  obtain ⟨hi, he⟩ := Array.getElem?_eq_some_iff.1 ho
  have := Array.all_eq_true.1 h i hi
  rw [he, e] at this
  cases this
theorem X_regI {id : Nat} {ol : List Oper} (hnd : noDefer ol.toArray = true) (hq : ¬ LetsOut Q) (h : wpList P ol.toArray Q ol a w) : (Code.region id ol.toArray false).wpIn (Fence.wide.inRound lp) n P Q a w := by
  refine wpIn_region (wpI_ops (noDefer_spec hnd) hq _ a w ?_)
  have := wpOps_eq_wpList (P := P) (ops := ol.toArray) (Q := Q) ol 0 (by simp)
  rw [List.range_eq_range', show ol.toArray.size = ol.length by simp, this]
  exact h
theorem XI_region_tl {id : Nat} {l : List Oper} (S : World → Prop) (f : List Nat) (hm : P.follows .mixedOrders = true) (hok : txtOK l.toArray (robOf f) (needOf f) = true) (hnd : noDefer l.toArray = true) (hq : ¬ LetsOut Q)
    (hS : S w.drew) (h : wpTl P l.toArray S (Q .normal) (marked f l) a w.drew) : (Code.region id l.toArray true).wpIn (Fence.wide.inRound lp) n P Q a w := by
  refine wpIn_region_draw fun t => wpI_ops (noDefer_spec hnd) hq _ a _ ?_
  simp only [Region.schedule, hm, Bool.true_or, if_true]
  refine wpAny_sound l.toArray.size t _ a _ ?_
  have h2 := wpTx_of_tl (ops := l.toArray) (robOf f) (needOf f) (marked f l) 0 a w.drew (fun j x hj => by simpa using marked_get f l j x hj) h
  rw [marked_len] at h2
  have h3 : wpTx P l.toArray S (robOf f) (needOf f) (Q .normal) (List.range l.toArray.size) a w.drew := by simpa [List.range_eq_range'] using h2
  have hrem : remOf l.toArray (Array.replicate l.toArray.size false) = List.range l.toArray.size := by
    unfold remOf
    refine List.filter_eq_self.2 fun i hi => ?_
    have := List.mem_range.1 hi
    simp at this
    simp [this]
  refine wpAny_of_tx hok l.toArray.size (Array.replicate l.toArray.size false) a _ (by simp) ?_ (by rw [hrem]; simp) (fun _ _ _ => hS) (by rw [hrem]; exact h3)
  intro i hi
  rw [getD_replicate_f] at hi
  cases hi
theorem inA2 {α : Type} {C : Cod α} {W0 W : World} {L : List Ent} {A : Option Addr} {xs : List α} (hb : Below W0.heap.size W0 W) (h : SL W0 C A xs) : ∀ w, Mem W0.heap.size W w L → SL w C A xs := fun _ M => h.below (hb.trans M.low)
theorem Mem.back {b : Nat} {W V w : World} {L L' : List Ent} (M : Mem b W V L) (M' : Mem b V w L') : Mem b W w L' := ⟨M.low.trans M'.low, M.oth.trans M'.oth, M.bs, M'.has, M'.up, M'.one⟩
theorem objC_eq (o : Obj) : objC o = o.isCells := by cases o <;> rfl
theorem Mem.others {b : Nat} {W w : World} {L : List Ent} (M : Mem b W w L) : KeepsOthers W w := ⟨M.low.size, fun k o hk ho => M.oth k o hk (by rw [objC_eq]; exact ho)⟩
theorem foot_of {L L' : List Ent} (hf : L'.map Ent.foot = L.map Ent.foot) {i : Nat} {e : Ent} (h : L'[i]? = some e) : ∃ e0, L[i]? = some e0 ∧ e0.foot = e.foot := by
  have h1 : (L'.map Ent.foot)[i]? = some e.foot := by rw [List.getElem?_map, h]; rfl
  rw [hf, List.getElem?_map, Option.map_eq_some_iff] at h1
  exact h1
theorem Mem.round {b : Nat} {W w V : World} {L L' : List Ent} (M : Mem b W w L) (hf : L'.map Ent.foot = L.map Ent.foot) (hb : Below b W V) (has : ∀ (i : Nat) (e : Ent), L'[i]? = some e → Ent.holds V e) : Mem b V V L' :=
  ⟨Below.refl _ _, KeepO.refl _, Nat.le_trans M.bs hb.size, has,
   fun i e g h hg => by obtain ⟨e0, h0, h1⟩ := foot_of hf h; exact M.up i e0 g h0 (h1.trans hg),
   fun i j e e' g h h' hg hg' => by
     obtain ⟨e0, h0, h1⟩ := foot_of hf h
     obtain ⟨e0', h0', h1'⟩ := foot_of hf h'
     exact M.one i j e0 e0' g h0 h0' (h1.trans hg) (h1'.trans hg')⟩
/-- What is said of one's own cells abides the turn of an object that is none, and lies beyond. -/
theorem holds_own {β : Type} {b B : Nat} {W w : World} (f : β → List Ent) {L : List Ent} (M : Mem b W w L) (hB : w.heap.size = B) (hf : ∀ s, (f s).map Ent.foot = L.map Ent.foot) :
    OwnFrom B (fun (s : β) V => Below b W V ∧ ∀ (i : Nat) (e : Ent), (f s)[i]? = some e → Ent.holds V e) := fun s V V' row hs hg hr => by
  obtain ⟨h1, h2⟩ := hs
  refine ⟨h1.grown hg (Nat.le_trans M.bs h1.size) (fun k hk => by have := (hr k hk).1; have := M.sz; omega), fun i e h => Ent.keep (h2 i e h) fun g hg' => hg.block g ?_ fun e2 => ?_⟩
  · exact Ent.lt (h2 i e h) hg'
  · have h3 := (hr g e2.symm).1
    obtain ⟨e0, h0, h1'⟩ := foot_of (hf s) h
    have := M.feet i e0 g h0 (h1'.trans hg')
    omega
theorem Kd.ps2 {D : List Deferred} {N : Nat} {l : List (Nat × Value)} {i j : Nat} {u v : Value} (K : Kd D a N l) (hi : Nat.blt i N = true) (hj : Nat.blt j N = true) :
    Kn { tmps := (#[i, j].zip #[u, v]).foldl (fun t (p, v) => t.setIfInBounds p v) a.tmps, defers := [] } N ((j, v) :: (i, u) :: l) := by
  have h1 := (K.put (d := some i) (by simpa [dstOK] using hi) u).put (d := some j) (by simpa [dstOK] using hj) v
  have e : (#[i, j].zip #[u, v]).foldl (fun t (p, v) => t.setIfInBounds p v) a.tmps = ((a.put (some i) u).put (some j) v).tmps := by simp [Act.put]
  exact ⟨rfl, by show Array.size _ = N; rw [e]; exact h1.size, fun s v hs => by show Array.getD _ s undef = v; rw [e]; exact h1.get s v hs⟩
theorem Kd.mark {N : Nat} {l : List (Nat × Value)} (K : Kn a N l) (d : Deferred) : Kd [d] { a with defers := d :: a.defers } N l := ⟨by show d :: a.defers = [d]; rw [K.defs], K.size, K.get⟩
theorem A_asg {ol : List Oper} {x : Operand} (ho : o.op = .assign x) (hg : o.guard = none) (h : wpList P ops Q ol (a.put o.dst (a.eval x)) w) : wpList P ops Q (o :: ol) a w := by
  have hw : Region.wanted o (yielded ops a.tmps) = true := by simp [Region.wanted, hg]
  simp only [wpList, hw, if_true]
  refine .inl ?_
  show o.upon P a _ Q ((execOp a.eval o).run P w)
  have : (execOp a.eval o).run P w = .ok (.value (a.eval x)) w := by unfold execOp; simp [ho]
  rw [this]
  exact h
theorem retM1 {fn : Func} {Rp : Ending → World → Prop} {D N : Nat} {l : List (Nat × Value)} {r1 : ResultVar} {v1 : Value} (K : Kd [{ target := .collected D, args := #[] }] a N l) (hK : w.heap[D]? = some (.deferred (some []))) (hr : fn.results = #[r1])
    (h1 : ResOK P a (w.putObj D (.deferred none)) r1 v1) (h : Rp (.returned v1) (w.putObj D (.deferred none))) : bodyPostM Fence.wide n P fn Rp .ret a w := by
  show LeavesInM Fence.wide n P fn a.tmps Rp a.defers .returning w
  rw [K.defs]
  refine ⟨by simp, .inl ⟨_, _, rfl, run_takeDeferred hK, ?_⟩⟩
  refine ⟨v1, ?_, h⟩
  unfold ResOK at h1
  rw [results_def, hr]; simp [h1]
theorem Mem.putD {b : Nat} {W w : World} {L : List Ent} (M : Mem b W w L) {D : Nat} (hb : b ≤ D) (hK : w.heap[D]? = some (.deferred (some []))) {i g : Nat} {t : TypeId} {cs : List Value} (h : L[i]? = some (.blk g t cs)) : Blk (w.putObj D (.deferred none)) g t cs.toArray := by
  have hne : g ≠ D := fun e => by
    have h1 : w.heap[g]? = some (.cells cs.toArray t) := M.blkAt h
    rw [e, hK] at h1; cases h1
  exact (World.putObj_heap_other hne).trans (M.blkAt h)
theorem below_putD {b : Nat} {W w : World} (h : Below b W w) {D : Nat} (hb : b ≤ D) (o : Obj) : Below b W (w.putObj D o) :=
  ⟨h.os, h.tape, h.output, by simpa using h.size, fun k hk => (World.putObj_heap_other (by omega)).trans (h.block k hk)⟩
theorem Mem.fin {W w : World} (h : Below W.heap.size W w) : Mem W.heap.size W w [] := ⟨h, KeepO.below h, Nat.le_refl _, fun i e he => by simp at he, fun i e g he => by simp at he, fun i j e e' g he => by simp at he⟩
theorem Calls_marks {fn : Func} {code : Code} {fid : FuncId} {args : Array Value} {N : Nat} {Rp : Ending → World → Prop} (hf : P.funcs[fid]? = some fn) (hb : fn.body = some code) (hN : fn.ntmps = N) (hs : Nat.ble args.size N = true)
    (h : ∀ a, Kn a N (kargs 0 args.toList) → code.wp P (bodyPostM Fence.wide 3 P fn Rp) a w) : Calls P fid args w Rp := by
  refine callsIn_wide.1 (callsIn_of_wp_marks (n := 3) hf hb trivial (wpIn_wide.2 ?_) rfl)
  rw [hN]
  exact h _ (Kd.start args N hs)
theorem enters_fok {f : FuncId} (hf : FnOK P f = true) (args : Array Value) (w : World) : (callFunc f args).run P w = .ok (.enter f args) w := by
  unfold FnOK at hf
  split at hf
  · rename_i fn hfn
    simp only [Bool.and_eq_true, bne_iff_ne, ne_eq] at hf
    obtain ⟨b, hb⟩ := Option.isSome_iff_exists.1 hf.1
    simp [callFunc, hfn, hb, hf.2]
  · cases hf
theorem keepB_trans {L : List Nat} {A B C : World} (h1 : keepB L A B) (h2 : keepB L B C) : keepB L A C := fun k hk hlt => by
  have e := h1 k hk hlt
  have hB : k < B.heap.size := by
    have hA : A.heap[k]? = some A.heap[k] := Array.getElem?_eq_getElem hlt
    rw [hA] at e
    exact (Array.getElem?_eq_some_iff.1 e).1
  exact (h2 k hk hB).trans e
theorem Kd.asg2 {D : List Deferred} {N : Nat} {l : List (Nat × Value)} {x1 x2 : Operand} {d1 d2 : Nat} {v1 v2 : Value} (K : Kd D a N l) (h1 : evo l x1 = some v1) (hd1 : Nat.blt d1 N = true) (h2 : evo ((d1, v1) :: l) x2 = some v2) (hd2 : Nat.blt d2 N = true) :
    Kd D ((a.put (some d1) (a.eval x1)).put (some d2) ((a.put (some d1) (a.eval x1)).eval x2)) N ((d2, v2) :: (d1, v1) :: l) := by
  have K1 := K.put (d := some d1) (by simpa [dstOK] using hd1) v1
  rw [K.ev h1]
  have K2 := K1.put (d := some d2) (by simpa [dstOK] using hd2) v2
  have e : (a.put (some d1) v1).eval x2 = v2 := K1.ev h2
  rw [e]
  exact K2
end
end Go.Proofs.Ytpmnfhifmmfglab

namespace Go.Proofs.Ytpmnfhifmmfglab
open Go.RowKit
/-- A plane, or a picture, that is nothing. -/
def noPlane : Value := .agg #[.int .i64 0, .int .i64 0, .slice none 0 0]
set_option maxHeartbeats 400000 in
theorem fine_any (W H : Int) (A : Option Addr) (n c : Nat) (xs : List Int) (w : World) (h : RI w 0 A n xs) (hn : n ≤ maxLen) :
    Calls Try.prog 70 #[.agg #[.int .i64 W, .int .i64 H, .slice A n c]] w fun e w' => e = .returned (.bool (planeFine W H xs)) ∧ Below w.heap.size w w' := by
  unfold maxLen at hn
  have hlen := h.len
  by_cases hs : sideOk W H
  · obtain ⟨hm1, hm2⟩ := mul_side hs
    by_cases hl : (n : Int) = W * H
    · have HP : Hid (∀ (k : Nat), n ≤ k → (xs.take k).all okS = true → planeFine W H xs = true) := fun k hk h0 => planeFine_iff.2 ⟨hs, by rw [hlen]; exact hl, all_take_full okS xs k (by omega) h0⟩
      have HF : Hid (∀ (k : Nat) (x : Int), xs[k]? = some x → okS x = false → planeFine W H xs = false) := fun k x hx h0 => by
        simp [planeFine, all_false_at okS xs k x hx h0]
      obtain ⟨h1, h2, h3, h4⟩ := hs
      have hb : ((n : Int) != W * H) = false := by simp [hl]
      clear hl hlen
      have HR := Lib.hid h
      clear h
      go_enter Try.func70, Try.ntmps70
      go_wp2
      go_loopw [37] (fun i wr => ∃ k : Nat, k ≤ n ∧ i = .int .i64 k ∧ (xs.take k).all okS = true ∧ Below w.heap.size w wr) (fun i _ => n - (intOf i).toNat)
      case atStart => exact ⟨0, Nat.zero_le _, rfl, rfl, (Below.refl _ _).alloc (Nat.le_refl _) _⟩
      case round =>
        obtain ⟨k, hk, rfl, hal, hbel⟩ := hrel
        have HA := Lib.hid hal
        clear hal
        by_cases hlt : k < n
        · obtain ⟨b, o, x, rfl, hbs, hx, hc⟩ := HR.out.at_ k hlt
          have hc' := (hbel.cell (p := ⟨b, o + k, none⟩) hbs).trans hc
          have HX := Lib.hid hx
          clear hc hx
          by_cases hok : 0 ≤ x ∧ x ≤ 65535
          · have HO : Hid (okS x = true) := by show okS x = true; simp [okS, hok]
            go_wp2
            go_roundw
            case rel => exact ⟨k + 1, by omega, by go_num, all_take_succ okS xs k x HX.out HA.out HO.out, hbel⟩
            case measure => simp [intOf]; omega
          · have HO : Hid (okS x = false) := by show okS x = false; simp [okS]; omega
            go_wp2
            all_goals go_ret
            all_goals exact ⟨ret_b (HF.out k x HX.out HO.out).symm, hbel⟩
        · go_wp2
          go_ret
          exact ⟨ret_b (HP.out k (by omega) HA.out).symm, hbel⟩
    · have HF : Hid (planeFine W H xs = false) := by show _ = _; simp [planeFine, hlen, hl]
      obtain ⟨h1, h2, h3, h4⟩ := hs
      have hb : ((n : Int) != W * H) = true := by simp [hl]
      clear hl hlen h
      go_enter Try.func70, Try.ntmps70
      go_wp2
      go_ret
      exact ⟨ret_b HF.out.symm, (Below.refl _ _).alloc (Nat.le_refl _) _⟩
  · have HF : Hid (planeFine W H xs = false) := by show _ = _; simp [planeFine, hs]
    unfold sideOk at hs
    clear hlen h
    go_enter Try.func70, Try.ntmps70
    go_wp2
    all_goals go_ret
    all_goals exact ⟨ret_b HF.out.symm, (Below.refl _ _).alloc (Nat.le_refl _) _⟩
end Go.Proofs.Ytpmnfhifmmfglab

namespace Go.Proofs.Ytpmnfhifmmfglab
open Go.RowKit
/-- The first k cells are filled by f, the others hold 0. -/
def fillA (f : Nat → Int) (n k : Nat) : Array Value := ((List.range n).map fun j => Value.int .i64 (if j < k then f j else 0)).toArray
theorem fillA_zero (f : Nat → Int) (n : Nat) : madeCells #[Value.int .i64 0] n = fillA f n 0 := by
  apply Array.ext
  · simp [madeCells, fillA]
  · intro i h1 h2
    simp [madeCells, fillA, Nat.mod_one]
theorem fillA_set (f : Nat → Int) (n k : Nat) (v : Int) (hv : f k = v) : fillA f n (k+1) = (fillA f n k).setIfInBounds k (.int .i64 v) := by
  subst hv
  simp only [fillA, List.setIfInBounds_toArray]
  congr 1
  apply List.ext_getElem
  · simp
  · intro i h1 h2
    rw [List.getElem_set]
    simp only [List.getElem_map, List.getElem_range]
    by_cases hik : k = i
    · subst hik; simp
    · have : (i < k + 1) ↔ (i < k) := by omega
      simp [hik, this]
theorem fillA_at (f : Nat → Int) (n k j : Nat) (h : j < n) : (fillA f n k)[j]? = some (.int .i64 (if j < k then f j else 0)) := by
  simp [fillA, h]
theorem fillA_full (f : Nat → Int) (n : Nat) : fillA f n n = (VI ((List.range n).map f)).toArray := by
  simp only [fillA, VI, List.map_map]
  congr 1
  refine List.map_congr_left fun j hj => ?_
  simp [List.mem_range.1 hj]
theorem RI_blk {w : World} {g : Nat} {t : TypeId} {xs : List Int} (h : Blk w g t (VI xs).toArray) (B : Nat) (hB : B ≤ g) : RI w B (some ⟨g, 0, none⟩) xs.length xs :=
  ⟨by simp [VI], fun _ => ⟨g, 0, rfl, hB, h.lt, fun j u hu => by rw [Nat.zero_add, h.cell j]; simpa using hu⟩⟩
theorem Try.info3 : (Try.prog.info? 3).map (fun i => (i.zero, i.size, i.bytes)) = some (some (.int .i64 0), 1, 8) := by kernel_rfl
/-- A row of integers, whole in a block of its own. -/
def OI (w : World) (B : Nat) (A : Option Addr) (n c : Nat) (xs : List Int) : Prop := ∃ g, A = some ⟨g, 0, none⟩ ∧ c = n ∧ B ≤ g ∧ xs.length = n ∧ Blk w g 3 (VI xs).toArray
theorem OI.set_ {w : World} {B n c : Nat} {A : Option Addr} {xs : List Int} (h : OI w B A n c xs) {p : Addr} (hp : p.block < B) (u : Value) : OI (w.setCell p u) B A n c xs := by
  obtain ⟨g, h1, h2, h3, h4, h5⟩ := h
  exact ⟨g, h1, h2, h3, h4, h5.far (by omega) u⟩
theorem OI.base {w : World} {B B' n c : Nat} {A : Option Addr} {xs : List Int} (h : OI w B A n c xs) (hB : B' ≤ B) : OI w B' A n c xs := by
  obtain ⟨g, h1, h2, h3, h4, h5⟩ := h
  exact ⟨g, h1, h2, by omega, h4, h5⟩
/-- What each does with place k. -/
def eachV (g : Int → Int → Int → Int) (W : Nat) (xs : List Int) (k : Nat) : Int := min (g (xs.getD k 0) ((k : Int) % W) ((k : Int) / W)) 65535
set_option maxRecDepth 100000 in
set_option maxHeartbeats 1000000 in
theorem each_any (fid : Nat) (p1 p2 : Addr) (g : Int → Int → Int → Int) (W : Nat) (H : Int) (A : Option Addr) (n c : Nat) (xs : List Int) (w : World) (h : RI w 0 A n xs) (hn : n ≤ 4096) (hW : 1 ≤ W) (hW2 : W ≤ 64)
    (hcf : ∀ (args : Array Value) (wx : World), (callFunc fid args).run Try.prog wx = .ok (.enter fid args) wx)
    (hcl : ∀ (k : Nat) (v : Int) (w1 : World), xs[k]? = some v → Below w.heap.size w w1 → Calls Try.prog fid #[.int .i64 v, .int .i64 ((k : Int) % W), .int .i64 ((k : Int) / W), .pointer (some p1), .pointer (some p2)] w1 fun e w2 => e = .returned (.int .i64 (g v ((k : Int) % W) ((k : Int) / W))) ∧ Below w1.heap.size w1 w2) :
    Calls Try.prog 71 #[.agg #[.int .i64 W, .int .i64 H, .slice A n c], .func (.func fid) #[] #[.pointer (some p1), .pointer (some p2)]] w fun e w' =>
      ∃ A' c', e = .returned (.agg #[.int .i64 W, .int .i64 H, .slice A' n c']) ∧ (RI w' w.heap.size A' n ((List.range n).map (eachV g W xs)) ∧ OI w' w.heap.size A' n c' ((List.range n).map (eachV g W xs))) ∧ Below w.heap.size w w' := by
  have HR := Lib.hid h
  have HC := Lib.hid hcl
  have HL := Lib.hid h.len
  clear h hcl
  have hmk : ∀ wx : World, (Instr.makeSlice 43 (.int .i64 (n : Int)) (.int .i64 (n : Int))).run Try.prog wx = .ok (.slice (some ⟨wx.heap.size, 0, none⟩) n n) (wx.alloc (.cells (fillA (eachV g W xs) n 0) 3)) := fun wx => by
    rw [← fillA_zero]
    exact run_make_row' 43 3 (.int .i64 0) 8 Try.underlying43 Try.info3 rfl .i64 .i64 n (by omega) (by omega) wx
  go_enter Try.func71, Try.ntmps71
  go_upto_region 1 with fail
  go_cut [5] (fun s5 wc => ∃ og om : Nat, s5 = .pointer (some ⟨og, 0, none⟩) ∧ w.heap.size + 2 ≤ og ∧ og < w.heap.size + 4 ∧ w.heap.size + 2 ≤ om ∧ om < w.heap.size + 4 ∧ og ≠ om ∧
      Blk wc w.heap.size 45 #[.int .i64 W, .int .i64 H, .slice A n c] ∧ Blk wc (w.heap.size + 1) 45 #[.int .i64 0, .int .i64 0, .slice none 0 0] ∧ Blk wc og 45 #[.int .i64 W, .int .i64 H, .slice (some ⟨om, 0, none⟩) n n] ∧
      Blk wc om 3 (fillA (eachV g W xs) n 0) ∧ wc.heap.size = w.heap.size + 4 ∧ Below w.heap.size w wc)
  case first =>
    go_region
    all_goals (go_wp2_with fail; go_meet)
    · refine ⟨w.heap.size+1+1+1, w.heap.size+1+1, rfl, by omega, by omega, by omega, by omega, by omega, ?_, ?_, ?_, ?_, by simp, ?_⟩
      rotate_right
      · exact (((((Below.refl _ _).alloc (Nat.le_refl _) _).alloc (by simp) _).alloc (by simp; omega) _).alloc (by simp; omega) _).drew
      all_goals (first | exact Blk.newAt (by simp) | exact (Blk.newAt (by simp)).alloc _ | exact ((Blk.newAt (by simp)).alloc _).alloc _ | exact (((Blk.newAt (by simp)).alloc _).alloc _).alloc _ | exact Blk.drew (Blk.newAt (by simp)) | exact Blk.drew ((Blk.newAt (by simp)).alloc _) | exact Blk.drew (((Blk.newAt (by simp)).alloc _).alloc _) | exact Blk.drew ((((Blk.newAt (by simp)).alloc _).alloc _).alloc _))
    · refine ⟨w.heap.size+1+1, w.heap.size+1+1+1, rfl, by omega, by omega, by omega, by omega, by omega, ?_, ?_, ?_, ?_, by simp, ?_⟩
      rotate_right
      · exact (((((Below.refl _ _).alloc (Nat.le_refl _) _).alloc (by simp) _).alloc (by simp; omega) _).alloc (by simp; omega) _).drew
      all_goals (first | exact Blk.newAt (by simp) | exact (Blk.newAt (by simp)).alloc _ | exact ((Blk.newAt (by simp)).alloc _).alloc _ | exact (((Blk.newAt (by simp)).alloc _).alloc _).alloc _ | exact Blk.drew (Blk.newAt (by simp)) | exact Blk.drew ((Blk.newAt (by simp)).alloc _) | exact Blk.drew (((Blk.newAt (by simp)).alloc _).alloc _) | exact Blk.drew ((((Blk.newAt (by simp)).alloc _).alloc _).alloc _))
  case rest =>
    obtain ⟨og, om, rfl, h1, h2, h3, h4, h5, k0, k1, k2, k3, hsz, hbel⟩ := hcut
    obtain ⟨c00, c01, c02⟩ := k0.c3
    have K0 := Lib.hid k0
    clear k0
    have KX := Lib.hid (show Blk wc (w.heap.size+1) 45 #[.int .i64 0, .int .i64 0, .slice none 0 0] ∧ Blk wc og 45 #[.int .i64 W, .int .i64 H, .slice (some ⟨om, 0, none⟩) n n] ∧ Blk wc om 3 (fillA (eachV g W xs) n 0) from ⟨k1, k2, k3⟩)
    clear k1 k2 k3
    go_wp2
    go_loopw [20] (fun i wr => ∃ k : Nat, k ≤ n ∧ i = .int .i64 k ∧ Blk wr w.heap.size 45 #[.int .i64 W, .int .i64 H, .slice A n c] ∧ Blk wr (w.heap.size + 1) 45 #[.int .i64 0, .int .i64 0, .slice none 0 0] ∧ Blk wr og 45 #[.int .i64 W, .int .i64 H, .slice (some ⟨om, 0, none⟩) n n] ∧
      Blk wr om 3 (fillA (eachV g W xs) n k) ∧ w.heap.size + 4 ≤ wr.heap.size ∧ Below w.heap.size w wr) (fun i _ => n - (intOf i).toNat)
    case atStart => exact ⟨0, Nat.zero_le _, rfl, K0.out, KX.out.1, KX.out.2.1, KX.out.2.2, by omega, hbel⟩
    case round =>
      clear c00 c01 c02 hbel hsz
      obtain ⟨k, hk, rfl, k0, k1, k2, k3, hsz, hbel⟩ := hrel
      obtain ⟨c00, c01, c02⟩ := k0.c3
      obtain ⟨d0, d1, d2⟩ := k2.c3
      have KX := Lib.hid (And.intro k0 (And.intro k1 (And.intro k2 k3)))
      by_cases hlt : k < n
      · obtain ⟨b, o, x, rfl, hbs, hx, hc⟩ := HR.out.at_ k hlt
        have hc' := (hbel.cell (p := ⟨b, o + k, none⟩) hbs).trans hc
        have HX := Lib.hid hx
        have e3 := (k3.cell k).trans (fillA_at _ n k k hlt)
        have f3 := k3.frozen k
        clear hc hx k0 k1 k2 k3
        have i1 : (0 : Int) ≤ (k : Int) := Int.natCast_nonneg _
        have i2 : (k : Int) < (n : Int) := by omega
        have hWne : W ≠ 0 := by omega
        have t1 : (k : Int).tmod (W : Int) = (k : Int) % (W : Int) := Int.tmod_eq_emod_of_nonneg (by omega)
        have t2 : (k : Int).tdiv (W : Int) = (k : Int) / (W : Int) := Int.tdiv_eq_ediv_of_nonneg (by omega)
        have t3 : IntKind.i64.wrap ((k : Int) / (W : Int)) = (k : Int) / (W : Int) := IntWalk.i64_in _ (by
          have g1 : 0 ≤ (k : Int) / (W : Int) := Int.ediv_nonneg (by omega) (by omega)
          have g2 : (k : Int) / (W : Int) ≤ k := Int.ediv_le_self _ (by omega)
          omega)
        have B0 := Lib.hid hbel
        go_wp2_with fail
        have L00 : ∀ w', Below (w.heap.size+4) wr w' → w'.cell? ⟨w.heap.size, 0, none⟩ = some (.int .i64 W) := fun w' h => cell_b h c00 (by simp)
        have L32 : ∀ w', Below (w.heap.size+4) wr w' → w'.cell? ⟨og, 2, none⟩ = some (.slice (some ⟨om, 0, none⟩) n n) := fun w' h => cell_b h d2 (by simp; omega)
        refine wp_region_tl (Below (w.heap.size+4) wr) [0,0,0,0,0,0,0,0,0,0,0,0,0,1,0,0,2] (by kernel_rfl) (by kernel_rfl) (Below.refl _ _).drew ?_
        simp only [marked, List.headD_cons, List.tail_cons, beq_self_eq_true, Nat.reduceBEq]
        (apply tl_rob (by rfl); (case hv => (intro w' hS; conv => lhs; simp [go_sem, *])); simp only [Act.put, List.setIfInBounds_toArray, List.set_cons_succ, List.set_cons_zero])
        (apply tl_rob (by rfl); (case hv => (intro w' hS; conv => lhs; simp [go_sem, *])); simp only [Act.put, List.setIfInBounds_toArray, List.set_cons_succ, List.set_cons_zero])
        (apply tl_rob (by rfl); (case hv => (intro w' hS; conv => lhs; simp [go_sem, *])); simp only [Act.put, List.setIfInBounds_toArray, List.set_cons_succ, List.set_cons_zero])
        (apply tl_rob (by rfl); (case hv => (intro w' hS; conv => lhs; simp [go_sem, *])); simp only [Act.put, List.setIfInBounds_toArray, List.set_cons_succ, List.set_cons_zero])
        (apply tl_rob (by rfl); (case hv => (intro w' hS; conv => lhs; simp [go_sem, *])); simp only [Act.put, List.setIfInBounds_toArray, List.set_cons_succ, List.set_cons_zero])
        (apply tl_rob (by rfl); (case hv => (intro w' hS; conv => lhs; simp [go_sem, *])); simp only [Act.put, List.setIfInBounds_toArray, List.set_cons_succ, List.set_cons_zero])
        (apply tl_rob (by rfl); (case hv => (intro w' hS; conv => lhs; simp [go_sem, *])); simp only [Act.put, List.setIfInBounds_toArray, List.set_cons_succ, List.set_cons_zero])
        (apply tl_rob (by rfl); (case hv => (intro w' hS; conv => lhs; simp [go_sem, *])); simp only [Act.put, List.setIfInBounds_toArray, List.set_cons_succ, List.set_cons_zero])
        (apply tl_rob (by rfl); (case hv => (intro w' hS; conv => lhs; simp [go_sem, *])); simp only [Act.put, List.setIfInBounds_toArray, List.set_cons_succ, List.set_cons_zero])
        (apply tl_rob (by rfl); (case hv => (intro w' hS; conv => lhs; simp [go_sem, *])); simp only [Act.put, List.setIfInBounds_toArray, List.set_cons_succ, List.set_cons_zero])
        (apply tl_rob (by rfl); (case hv => (intro w' hS; conv => lhs; simp [go_sem, *])); simp only [Act.put, List.setIfInBounds_toArray, List.set_cons_succ, List.set_cons_zero])
        (apply tl_rob (by rfl); (case hv => (intro w' hS; conv => lhs; simp [go_sem, *])); simp only [Act.put, List.setIfInBounds_toArray, List.set_cons_succ, List.set_cons_zero])
        (apply tl_rob (by rfl); (case hv => (intro w' hS; conv => lhs; simp [go_sem, *])); simp only [Act.put, List.setIfInBounds_toArray, List.set_cons_succ, List.set_cons_zero])
        (apply tl_act (by rfl); intro K hK)
        go_simp
        refine (HC.out k x _ HX.out (by exact B0.out.drew)).mono ?_
        rintro e w1 ⟨rfl, hb⟩
        have hB := ((Below.refl (w.heap.size+4) wr).drew).trans (hb.mono (by simp; omega))
        refine hK _ _ (fun _ => hB) ?_
        clear hK K
        (apply tl_rob (by rfl); (case hv => (intro w' hS; conv => lhs; simp [go_sem, *])); simp only [Act.put, List.setIfInBounds_toArray, List.set_cons_succ, List.set_cons_zero])
        (apply tl_rob (by rfl); (case hv => (intro w' hS; conv => lhs; simp [go_sem, *])); simp only [Act.put, List.setIfInBounds_toArray, List.set_cons_succ, List.set_cons_zero])
        (apply tl_act (by rfl); intro K hK)
        have e3' := cell_b hB e3 (by simp; omega)
        have f3' := froz_b hB f3 (by simp; omega)
        go_simp
        refine hK _ _ (fun h => by cases h) ?_
        clear hK K
        refine tl_nil ?_
        go_wp2
        go_roundw
        case rel =>
          have hv : eachV g W xs k = if 65535 < g x ((k : Int) % W) ((k : Int) / W) then 65535 else g x ((k : Int) % W) ((k : Int) / W) := by
            have hx : xs.getD k 0 = x := by simp [HX.out]
            rw [eachV, hx]
            split <;> omega
          obtain ⟨q0, q1, q2, q3⟩ := KX.out
          refine ⟨k + 1, by omega, by go_num, (q0.below hB (by omega)).far (by simp; omega) _, (q1.below hB (by omega)).far (by simp; omega) _, (q2.below hB (by omega)).far (by simp; omega) _, (q3.below hB (by omega)).set_ _ _ (fillA_set _ n k _ hv), ?_, (B0.out.trans (hB.mono (by omega))).setCell (by simp; omega) _⟩
          have := hB.size
          simp; omega
        case measure => simp [intOf]; omega
      · obtain ⟨d10, d11, d12⟩ := k1.c3
        obtain ⟨g0, g1, g2⟩ := k1.f3
        have K1 := Lib.hid k1
        obtain rfl : k = n := by omega
        clear k0 k1 k2 k3
        go_wp2
        refine bodyPost_ret (results_cell_row rfl _ _ (w.heap.size+1) 45 _ (0,0) _ (by rfl) (((K1.out.set_ 0 _ rfl).set_ 1 _ rfl).set_ 2 _ rfl) Try.underlying45 rfl (by kernel_rfl)) rfl ?_
        refine ⟨some ⟨om, 0, none⟩, k, rfl, ?_, ?_⟩
        · have k3 := KX.out.2.2.2
          rw [fillA_full] at k3
          have h7 := (((k3.far (p := ⟨w.heap.size+1, 0, none⟩) (by simp; omega) (.int .i64 W)).far (p := ⟨w.heap.size+1, 1, none⟩) (by simp; omega) (.int .i64 H)).far (p := ⟨w.heap.size+1, 2, none⟩) (by simp; omega) (.slice (some ⟨om, 0, none⟩) k k))
          have h6 := RI_blk (((k3.far (p := ⟨w.heap.size+1, 0, none⟩) (by simp; omega) (.int .i64 W)).far (p := ⟨w.heap.size+1, 1, none⟩) (by simp; omega) (.int .i64 H)).far (p := ⟨w.heap.size+1, 2, none⟩) (by simp; omega) (.slice (some ⟨om, 0, none⟩) k k)) w.heap.size (by omega)
          exact ⟨by simpa using h6, om, rfl, rfl, by omega, by simp, h7⟩
        · exact ((hbel.setCell (by simp) _).setCell (by simp) _).setCell (by simp) _
end Go.Proofs.Ytpmnfhifmmfglab

namespace Go.Proofs.Ytpmnfhifmmfglab
open Go.RowKit Go.WideMaps Go.ChangeMaps
def spotV (x y : Int) : Value := .agg #[.int .i64 x, .int .i64 y]
def wfI (x : Int) : Prop := -9223372036854775808 ≤ x ∧ x ≤ 9223372036854775807
theorem spotV_inj {x y x' y' : Int} (h : spotV x y = spotV x' y') : x = x' ∧ y = y' := by
  simpa [spotV] using h
theorem Try.laidOut : laidOutB Try.prog = true := by kernel_rfl
theorem Try.rowSpot : (106 : TypeId) < Try.prog.types.size := of_decide_eq_true (by kernel_rfl)
theorem Try.lawSpot : KeyLaw Try.prog 106 := deep_law_laid Try.laidOut (m := 2) (by omega) Try.rowSpot (by kernel_rfl) (by rw [Try.underlying106])
theorem Try.keySpot : Try.prog.keyType 106 = true := by kernel_rfl
theorem Try.cellsSpot : Try.prog.cellsOf 106 = 2 := by kernel_rfl
theorem Try.cellsInt : Try.prog.cellsOf 3 = 1 := by kernel_rfl
theorem Try.typesTwo : 2 ≤ Try.prog.types.size := of_decide_eq_true (by kernel_rfl)
theorem spot_key (x y : Int) (hx : wfI x) (hy : wfI y) : ∃ l, keyOf Try.prog 106 (spotV x y) = some l := by
  have wx : (Lit.int .i64 x).wf = true := WalkArith.wf_i64 hx
  have wy : (Lit.int .i64 y).wf = true := WalkArith.wf_i64 hy
  obtain ⟨m, hm⟩ : ∃ m, Try.prog.types.size = m + 2 := ⟨Try.prog.types.size - 2, by have := Try.typesTwo; omega⟩
  have hf : (spotV x y).formed Try.prog 106 = true := by
    simp [spotV, Value.formed, Try.underlying106, Try.cellsSpot]
  have hl : Try.prog.keyLits (Try.prog.types.size + 1) 106 (spotV x y).cells.toList = some [.int .i64 x, .int .i64 y] := by
    rw [hm]
    simp [spotV, Value.cells, Program.keyLits, Try.underlying106, Try.underlying3, Try.cellsSpot, Try.cellsInt, wx, wy]
  unfold keyOf
  simp only [Try.underlying106, Try.keySpot, hf, Bool.and_self, if_true, hl]
  exact ⟨_, rfl⟩
/-- Block B is a map of at most n entries; f: how often each spot counts. -/
def MapC (w : World) (B n : Nat) (f : Int → Int → Int) : Prop :=
  ∃ es clock, w.heap[B]? = some (.map es clock) ∧ es.size ≤ n ∧
    (∀ e ∈ es.toList, ∃ x y, wfI x ∧ wfI y ∧ e.key = spotV x y ∧ e.val = .int .i64 (f x y) ∧ e.born < clock) ∧
    (es.toList.map (·.born)).Nodup ∧ (es.toList.map (·.key)).Nodup ∧ ∀ x y, (∀ e ∈ es.toList, e.key ≠ spotV x y) → f x y = 0
section
variable {w : World} {B n : Nat} {f : Int → Int → Int}
theorem MapC.lt (h : MapC w B n f) : B < w.heap.size := by
  obtain ⟨es, clock, hb, _⟩ := h
  exact lt_of_block hb
theorem MapC.heap {w' : World} (h : MapC w B n f) (hb : w'.heap[B]? = w.heap[B]?) : MapC w' B n f := by
  obtain ⟨es, clock, h1, h2⟩ := h
  exact ⟨es, clock, hb.trans h1, h2⟩
theorem MapC.below {w' : World} {B' : Nat} (h : MapC w B n f) (hb : Below B' w w') (hB : B < B') : MapC w' B n f := h.heap (hb.block B hB)
theorem MapC.alloc (h : MapC w B n f) (o : Obj) : MapC (w.alloc o) B n f := h.heap (Below.heap_alloc w o B h.lt)
theorem MapC.drew (h : MapC w B n f) : MapC w.drew B n f := h
theorem MapC.set_ (h : MapC w B n f) {p : Addr} (hp : B ≠ p.block) (u : Value) : MapC (w.setCell p u) B n f := h.heap (Below.heap_setCell w p u B hp)
theorem MapC.mono {m : Nat} (h : MapC w B n f) (hn : n ≤ m) : MapC w B m f := by
  obtain ⟨es, clock, h1, h2, h3⟩ := h
  exact ⟨es, clock, h1, by omega, h3⟩
theorem MapC.made (w : World) : MapC (w.alloc (.map #[] 0)) w.heap.size 0 (fun _ _ => 0) :=
  ⟨#[], 0, heap_alloc_new w _, by simp, by simp, by simp, by simp, fun _ _ _ => rfl⟩
theorem keys_of {es : Array MapEntry} {clock : Nat} (h : ∀ e ∈ es.toList, ∃ x y, wfI x ∧ wfI y ∧ e.key = spotV x y ∧ e.val = .int .i64 (f x y) ∧ e.born < clock) :
    ∀ e ∈ es.toList, ∃ l, keyOf Try.prog 106 e.key = some l := fun e he => by
  obtain ⟨x, y, hx, hy, hk, _⟩ := h e he
  rw [hk]
  exact spot_key x y hx hy
theorem MapC.lookup (h : MapC w B n f) (x y : Int) (hx : wfI x) (hy : wfI y) :
    (Instr.lookup 113 (.map (some B)) (spotV x y) false).run Try.prog w = .ok (.int .i64 (f x y)) w := by
  obtain ⟨es, clock, hb, _, hes, _, _, h0⟩ := h
  obtain ⟨l, hl⟩ := spot_key x y hx hy
  rcases Try.lawSpot.find w hl es.toList (keys_of hes) with ⟨h1, h2⟩ | ⟨j, e0, h1, h2, h3⟩
  · rw [h0 x y h2]
    simp [Instr.lookup, run_underlying Try.underlying113, MapKept.run_getObj_map hb, Try.lawSpot.check w _ hl, h1, Result.andThen]
  · obtain ⟨x', y', _, _, hk, hv, _⟩ := hes e0 (List.mem_of_getElem? h2)
    obtain ⟨rfl, rfl⟩ := spotV_inj (hk.symm.trans h3)
    simp [Instr.lookup, run_underlying Try.underlying113, MapKept.run_getObj_map hb, Try.lawSpot.check w _ hl, h1, hv, Result.andThen]
def bumpF (f : Int → Int → Int) (x y v : Int) : Int → Int → Int := fun a b => if a = x ∧ b = y then v else f a b
/-- 'm[k] op= ..': the entry, then the store; the look-up reads the same ahead of the entry and behind it. -/
theorem MapC.bump (h : MapC w B n f) (x y : Int) (hx : wfI x) (hy : wfI y) :
    ∃ (v0 : Value) (st : Nat) (o1 : Obj), (Instr.mapEntry 113 (.map (some B)) (spotV x y)).run Try.prog w = .ok (.tuple #[v0, goInt st]) (setBlock w B o1) ∧
      (∀ w2 : World, w2.heap[B]? = some o1 → (Instr.lookup 113 (.map (some B)) (spotV x y) false).run Try.prog w2 = .ok (.int .i64 (f x y)) w2) ∧
      ∀ (w2 : World) (v : Int), w2.heap[B]? = some o1 → ∃ o2, (Instr.entryStore 113 (.map (some B)) (goInt st) (.int .i64 v)).run Try.prog w2 = .ok () (setBlock w2 B o2) ∧
        ∀ w3 : World, w3.heap[B]? = some o2 → MapC w3 B (n + 1) (bumpF f x y v) := by
  obtain ⟨es, clock, hb, hn, hes, hborn, hkey, h0⟩ := h
  obtain ⟨l, hl⟩ := spot_key x y hx hy
  have hkeys := keys_of hes
  rcases Try.lawSpot.find w hl es.toList hkeys with ⟨h1, h2⟩ | ⟨j, e0, h1, h2, h3⟩
  · have hf0 := h0 x y h2
    refine ⟨.int .i64 0, clock, .map (es.push ⟨spotV x y, .int .i64 0, clock⟩) (clock + 1), ?_, ?_, ?_⟩
    · simp [Instr.mapEntry, run_underlying Try.underlying113, MapKept.run_getObj_map hb, Try.lawSpot.check w false hl, h1, MapKept.run_setObj_map _ hb, Result.andThen, setBlock]
    · intro w2 hw2
      have hkeys2 : ∀ e ∈ (es.push ⟨spotV x y, .int .i64 0, clock⟩).toList, ∃ l, keyOf Try.prog 106 e.key = some l := fun e he => by
        rw [Array.toList_push] at he
        rcases List.mem_append.1 he with he | he
        · exact hkeys e he
        · rw [List.mem_singleton] at he; subst he; exact ⟨l, hl⟩
      rcases Try.lawSpot.find w2 hl _ hkeys2 with ⟨_, g2⟩ | ⟨j, e0, g1, g2, g3⟩
      · exact absurd rfl (g2 ⟨spotV x y, .int .i64 0, clock⟩ (by simp))
      · have he0 : e0.val = .int .i64 0 := by
          have hm := List.mem_of_getElem? g2
          rw [Array.toList_push] at hm
          rcases List.mem_append.1 hm with hm | hm
          · exact absurd g3 (h2 e0 hm)
          · rw [List.mem_singleton] at hm; subst hm; rfl
        rw [hf0]
        rw [Array.toList_push] at g1
        simp [Instr.lookup, run_underlying Try.underlying113, MapKept.run_getObj_map hw2, Try.lawSpot.check w2 _ hl, g1, he0, Result.andThen]
    · intro w2 v hw2
      have hidx : (es.push ⟨spotV x y, .int .i64 0, clock⟩).findIdx? (fun e => ((e.born : Nat) : Int) == ((clock : Nat) : Int)) = some es.size := by
        rw [WideElems.findIdx_arr]
        have := WideElems.findIdx_born (l := (es.push ⟨spotV x y, .int .i64 0, clock⟩).toList) (j := es.size) (e0 := ⟨spotV x y, .int .i64 0, clock⟩) (by
          simp only [Array.toList_push, List.map_append, List.map_cons, List.map_nil]
          refine List.nodup_append.2 ⟨hborn, by simp, fun a ha c hc e1 => ?_⟩
          simp only [List.mem_singleton] at hc
          obtain ⟨z, hz, rfl⟩ := List.mem_map.1 ha
          obtain ⟨_, _, _, _, _, _, hlt⟩ := hes z hz
          omega) (by simp)
        exact this
      have hmod : (es.push ⟨spotV x y, .int .i64 0, clock⟩).modify es.size (fun e => { e with val := .int .i64 v }) = es.push ⟨spotV x y, .int .i64 v, clock⟩ := by
        apply Array.ext'
        rw [Array.toList_modify, Array.toList_push, Array.toList_push, ← Array.length_toList, WideElems.modify_last]
      refine ⟨.map (es.push ⟨spotV x y, .int .i64 v, clock⟩) (clock + 1), ?_, ?_⟩
      · simp [Instr.entryStore, MapKept.run_getObj_map hw2, asInt, asIntOf, goInt, hidx, hmod, MapKept.run_setObj_map _ hw2, Result.andThen, setBlock]
      · intro w3 hw3
        refine ⟨_, _, hw3, by simp; omega, ?_, ?_, ?_, ?_⟩
        · intro e he
          rw [Array.toList_push] at he
          rcases List.mem_append.1 he with he1 | he
          · obtain ⟨a, b, ha, hb', hk, hv, hlt⟩ := hes e he1
            refine ⟨a, b, ha, hb', hk, ?_, by omega⟩
            have hne : ¬ (a = x ∧ b = y) := by rintro ⟨rfl, rfl⟩; exact h2 e he1 hk
            rw [hv, bumpF, if_neg hne]
          · rw [List.mem_singleton] at he; subst he
            exact ⟨x, y, hx, hy, rfl, by simp [bumpF], by simp⟩
        · simp only [Array.toList_push, List.map_append, List.map_cons, List.map_nil]
          refine List.nodup_append.2 ⟨hborn, by simp, fun a ha c hc e1 => ?_⟩
          simp only [List.mem_singleton] at hc
          obtain ⟨z, hz, rfl⟩ := List.mem_map.1 ha
          obtain ⟨_, _, _, _, _, _, hlt⟩ := hes z hz
          omega
        · simp only [Array.toList_push, List.map_append, List.map_cons, List.map_nil]
          refine List.nodup_append.2 ⟨hkey, by simp, fun a ha c hc e1 => ?_⟩
          simp only [List.mem_singleton] at hc
          obtain ⟨z, hz, rfl⟩ := List.mem_map.1 ha
          exact h2 z hz (e1.trans hc)
        · intro a b hab
          rw [Array.toList_push] at hab
          have hne : ¬ (a = x ∧ b = y) := by rintro ⟨rfl, rfl⟩; exact hab _ (List.mem_append_right _ (List.mem_singleton.2 rfl)) rfl
          rw [bumpF, if_neg hne]
          exact h0 a b fun e he => hab e (List.mem_append_left _ he)
  · have hj : es[j]? = some e0 := by simpa using h2
    have hm0 := List.mem_of_getElem? h2
    obtain ⟨x', y', _, _, hk, hv, hlt0⟩ := hes e0 hm0
    obtain ⟨rfl, rfl⟩ := spotV_inj (hk.symm.trans h3)
    have hsame : es.modify j (fun e => { e with key := spotV x' y' }) = es := by
      apply Array.ext'
      rw [Array.toList_modify, modify_eq_set _ _ _ _ h2]
      have : ({ e0 with key := spotV x' y' } : MapEntry) = e0 := by rw [← hk]
      rw [this]
      exact WideElems.set_self _ _ _ h2
    refine ⟨e0.val, e0.born, .map es clock, ?_, ?_, ?_⟩
    · simp [Instr.mapEntry, run_underlying Try.underlying113, MapKept.run_getObj_map hb, Try.lawSpot.check w false hl, h1, hj, h3, Try.lawSpot.stays w hl, hsame, MapKept.run_setObj_map _ hb, Result.andThen, setBlock]
    · intro w2 hw2
      exact MapC.lookup (n := n) ⟨es, clock, hw2, hn, hes, hborn, hkey, h0⟩ x' y' hx hy
    · intro w2 v hw2
      have hidx : es.findIdx? (fun e => ((e.born : Nat) : Int) == ((e0.born : Nat) : Int)) = some j := by
        rw [WideElems.findIdx_arr]
        exact WideElems.findIdx_born hborn h2
      refine ⟨.map (es.modify j fun e => { e with val := .int .i64 v }) clock, ?_, ?_⟩
      · simp [Instr.entryStore, MapKept.run_getObj_map hw2, asInt, asIntOf, goInt, hidx, MapKept.run_setObj_map _ hw2, Result.andThen, setBlock]
      · intro w3 hw3
        have hl3 : (es.modify j fun e => { e with val := .int .i64 v }).toList = es.toList.set j { e0 with val := .int .i64 v } := by
          rw [Array.toList_modify, modify_eq_set _ _ _ _ h2]
        have hjlt : j < es.toList.length := (List.getElem?_eq_some_iff.1 h2).1
        have hmapkey : (es.toList.set j { e0 with val := .int .i64 v }).map (·.key) = es.toList.map (·.key) := by
          rw [List.map_set]
          exact WideElems.set_self _ _ _ (by rw [List.getElem?_map, h2]; rfl)
        have hmapborn : (es.toList.set j { e0 with val := .int .i64 v }).map (·.born) = es.toList.map (·.born) := by
          rw [List.map_set]
          exact WideElems.set_self _ _ _ (by rw [List.getElem?_map, h2]; rfl)
        refine ⟨_, _, hw3, by simp; omega, ?_, ?_, ?_, ?_⟩
        · intro e he
          rw [hl3] at he
          obtain ⟨i, hi⟩ := List.mem_iff_getElem?.1 he
          rw [List.getElem?_set] at hi
          by_cases hij : j = i
          · subst hij
            rw [if_pos rfl, if_pos hjlt] at hi
            obtain rfl := Option.some.inj hi
            exact ⟨x', y', hx, hy, hk, by simp [bumpF], hlt0⟩
          · rw [if_neg hij] at hi
            obtain ⟨a, b, ha, hb', hka, hva, hlt⟩ := hes e (List.mem_of_getElem? hi)
            refine ⟨a, b, ha, hb', hka, ?_, hlt⟩
            have hne : ¬ (a = x' ∧ b = y') := by
              rintro ⟨rfl, rfl⟩
              have g1 : (es.toList.map (·.key))[j]? = some e0.key := by rw [List.getElem?_map, h2]; rfl
              have g2 : (es.toList.map (·.key))[i]? = some e0.key := by rw [List.getElem?_map, hi, hk, ← hka]; rfl
              exact hij ((List.getElem?_inj (by rw [List.length_map]; exact hjlt) hkey).1 (g1.trans g2.symm))
            rw [hva, bumpF, if_neg hne]
        · rw [hl3, hmapborn]; exact hborn
        · rw [hl3, hmapkey]; exact hkey
        · intro a b hab
          rw [hl3] at hab
          have hne : ¬ (a = x' ∧ b = y') := by
            rintro ⟨rfl, rfl⟩
            exact hab { e0 with val := .int .i64 v } (List.mem_iff_getElem?.2 ⟨j, by rw [List.getElem?_set, if_pos rfl, if_pos hjlt]⟩) hk
          rw [bumpF, if_neg hne]
          refine h0 a b fun e he hke => ?_
          obtain ⟨i, hi⟩ := List.mem_iff_getElem?.1 he
          have hij : j ≠ i := by
            rintro rfl
            rw [h2] at hi
            obtain rfl := Option.some.inj hi
            obtain ⟨rfl, rfl⟩ := spotV_inj (hk.symm.trans hke)
            exact hne ⟨rfl, rfl⟩
          exact hab e (List.mem_iff_getElem?.2 ⟨i, by rw [List.getElem?_set_ne hij]; exact hi⟩) hke
end
end Go.Proofs.Ytpmnfhifmmfglab

namespace Go.Proofs.Ytpmnfhifmmfglab
open Go.RowKit
theorem nbX_bd (x : Int) (k : Nat) (hk : k < 4) (h : 0 ≤ x ∧ x ≤ 64) : -2 ≤ nbX x k ∧ nbX x k ≤ 66 := by
  match k, hk with
  | 0, _ => simp [nbX]; omega
  | 1, _ => simp [nbX]; omega
  | 2, _ => simp [nbX]; omega
  | 3, _ => simp [nbX]; omega
theorem nbY_bd (y : Int) (k : Nat) (hk : k < 4) (h : 0 ≤ y ∧ y ≤ 64) : -2 ≤ nbY y k ∧ nbY y k ≤ 66 := by
  match k, hk with
  | 0, _ => simp [nbY]; omega
  | 1, _ => simp [nbY]; omega
  | 2, _ => simp [nbY]; omega
  | 3, _ => simp [nbY]; omega
theorem nb_index (x y : Int) (k : Nat) (hk : k < 4) (wx : World) :
    (Instr.index 115 (.agg #[.int .i64 (x - 2), .int .i64 y, .int .i64 (x + 2), .int .i64 y, .int .i64 x, .int .i64 (y - 2), .int .i64 x, .int .i64 (y + 2)]) (.int .i64 (k : Int))).run Try.prog wx = .ok (spotV (nbX x k) (nbY y k)) wx := by
  have h0 : (Instr.index 115 (.agg #[.int .i64 (x - 2), .int .i64 y, .int .i64 (x + 2), .int .i64 y, .int .i64 x, .int .i64 (y - 2), .int .i64 x, .int .i64 (y + 2)]) (.int .i64 0)).run Try.prog wx = .ok (spotV (x - 2) y) wx := by kernel_rfl
  have h1 : (Instr.index 115 (.agg #[.int .i64 (x - 2), .int .i64 y, .int .i64 (x + 2), .int .i64 y, .int .i64 x, .int .i64 (y - 2), .int .i64 x, .int .i64 (y + 2)]) (.int .i64 1)).run Try.prog wx = .ok (spotV (x + 2) y) wx := by kernel_rfl
  have h2 : (Instr.index 115 (.agg #[.int .i64 (x - 2), .int .i64 y, .int .i64 (x + 2), .int .i64 y, .int .i64 x, .int .i64 (y - 2), .int .i64 x, .int .i64 (y + 2)]) (.int .i64 2)).run Try.prog wx = .ok (spotV x (y - 2)) wx := by kernel_rfl
  have h3 : (Instr.index 115 (.agg #[.int .i64 (x - 2), .int .i64 y, .int .i64 (x + 2), .int .i64 y, .int .i64 x, .int .i64 (y - 2), .int .i64 x, .int .i64 (y + 2)]) (.int .i64 3)).run Try.prog wx = .ok (spotV x (y + 2)) wx := by kernel_rfl
  rcases (show k = 0 ∨ k = 1 ∨ k = 2 ∨ k = 3 by omega) with rfl | rfl | rfl | rfl
  · exact h0
  · exact h1
  · exact h2
  · exact h3
theorem nbVal_bd (W : Int) (xs : List Int) (x y : Int) (k : Nat) (hxs : ∀ (k : Nat) (v : Int), xs[k]? = some v → 0 ≤ v ∧ v ≤ 65535) : 0 ≤ nbVal W xs x y k ∧ nbVal W xs x y k ≤ 65535 := by
  unfold nbVal
  rw [List.getD_eq_getElem?_getD]
  cases h : xs[(nbY y k * W + nbX x k).toNat]? with
  | none => simp
  | some v => simpa using hxs _ v h
theorem nbSum_bd (W H : Int) (f : Int → Int → Int) (xs : List Int) (x y : Int) (hxs : ∀ (k : Nat) (v : Int), xs[k]? = some v → 0 ≤ v ∧ v ≤ 65535) : ∀ k : Nat, 0 ≤ nbSum W H f xs x y k ∧ nbSum W H f xs x y k ≤ 65535 * k
  | 0 => by simp [nbSum]
  | k + 1 => by
    have h1 := nbSum_bd W H f xs x y hxs k
    have h2 := nbVal_bd W xs x y k hxs
    simp only [nbSum]
    split <;> omega
theorem nbCnt_bd (W H : Int) (f : Int → Int → Int) (x y : Int) : ∀ k : Nat, 0 ≤ nbCnt W H f x y k ∧ nbCnt W H f x y k ≤ k
  | 0 => by simp [nbCnt]
  | k + 1 => by
    have h1 := nbCnt_bd W H f x y k
    simp only [nbCnt]
    split <;> omega
set_option maxRecDepth 100000 in
set_option maxHeartbeats 2000000 in
theorem repair1_any (W H v x y : Int) (A : Option Addr) (n c B mB mn : Nat) (gp : Nat) (f : Int → Int → Int) (xs : List Int) (w : World) (hR : RI w 0 A n xs) (hx : 0 ≤ x ∧ x ≤ 64) (hy : 0 ≤ y ∧ y ≤ 64)
    (hW : 1 ≤ W ∧ W ≤ 64) (hH : 1 ≤ H ∧ H ≤ 64) (hn : (n : Int) = W * H) (hxs : ∀ (k : Nat) (v : Int), xs[k]? = some v → 0 ≤ v ∧ v ≤ 65535)
    (kM : MapC w mB mn f) (kB : Blk w B 113 #[.map (some mB)]) (kP : Blk w gp 45 #[.int .i64 W, .int .i64 H, .slice A n c]) :
    Calls Try.prog 72 #[.int .i64 v, .int .i64 x, .int .i64 y, .pointer (some ⟨B, 0, none⟩), .pointer (some ⟨gp, 0, none⟩)] w fun e w' =>
      e = .returned (.int .i64 (repairV W H f xs v x y)) ∧ Below w.heap.size w w' := by
  have hlk := kM.lookup x y (by unfold wfI; omega) (by unfold wfI; omega)
  unfold spotV at hlk
  obtain ⟨b0, _⟩ := kB.c1
  by_cases h0 : f x y = 0
  · have HV : Hid (repairV W H f xs v x y = v) := by show _ = _; rw [repairV, if_pos h0]
    have hb : (f x y == 0) = true := by simp [h0]
    clear h0 hR hxs kM kB kP hn
    go_enter Try.func72, Try.ntmps72
    go_wp2
    go_ret
    exact ⟨ret_i HV.out.symm, Below.refl _ _⟩
  · have hb : (f x y == 0) = false := by simp [h0]
    have HV : Hid (repairV W H f xs v x y = if nbCnt W H f x y 4 = 0 then 0 else nbSum W H f xs x y 4 / nbCnt W H f x y 4) := by show _ = _; rw [repairV, if_neg h0]
    have KM := Lib.hid kM
    have KB := Lib.hid kB
    have KP := Lib.hid kP
    have HR := Lib.hid hR
    have HX := Lib.hid hxs
    have HN := Lib.hid hn
    clear h0 hR hxs kM kB kP hn
    go_enter Try.func72, Try.ntmps72
    go_wp2_with fail
    go_loopw [9, 10, 37] (fun s t i wr => ∃ k : Nat, k ≤ 4 ∧ i = .int .i64 k ∧ s = .int .i64 (nbSum W H f xs x y k) ∧ t = .int .i64 (nbCnt W H f x y k) ∧ Below w.heap.size w wr) (fun _ _ i _ => 4 - (intOf i).toNat)
    case atStart => exact ⟨0, by omega, rfl, rfl, rfl, Below.refl _ _⟩
    case round =>
      obtain ⟨k, hk, rfl, rfl, rfl, hbel⟩ := hrel
      have kM := KM.out.below hbel KM.out.lt
      have kB := KB.out.below hbel KB.out.lt
      have kP := KP.out.below hbel KP.out.lt
      obtain ⟨b1, _⟩ := kB.c1
      obtain ⟨p0, p1, p2⟩ := kP.c3
      have hgp := kP.lt
      have hBl := kB.lt
      have hsb := nbSum_bd W H f xs x y HX.out k
      have hcb := nbCnt_bd W H f x y k
      by_cases hlt : k < 4
      · have hix := nb_index x y k hlt
        unfold spotV at hix
        have hX := nbX_bd x k hlt hx
        have hY := nbY_bd y k hlt hy
        have hl : ∀ cs : Array Value, (Instr.lookup 113 (.map (some mB)) (.agg #[.int .i64 (nbX x k), .int .i64 (nbY y k)]) false).run Try.prog (wr.alloc (.cells cs 106)) = .ok (.int .i64 (f (nbX x k) (nbY y k))) (wr.alloc (.cells cs 106)) := fun cs =>
          (kM.alloc (.cells cs 106)).lookup (nbX x k) (nbY y k) (by unfold wfI; omega) (by unfold wfI; omega)
        have HS : Hid (nbSum W H f xs x y (k+1) = nbSum W H f xs x y k + if nbOk W H f x y k then nbVal W xs x y k else 0) := rfl
        have HC : Hid (nbCnt W H f x y (k+1) = nbCnt W H f x y k + if nbOk W H f x y k then 1 else 0) := rfl
        have HSZ := Lib.hid hbel
        clear kM kB kP hbel
        by_cases hok : nbOk W H f x y k
        · have HK := Lib.hid hok
          obtain ⟨o1, o2, o3, o4, o5⟩ := hok
          have o5' : (f (nbX x k) (nbY y k) == 0) = true := by simp [o5]
          clear o5
          obtain ⟨hW1, hW2⟩ := hW
          obtain ⟨hH1, hH2⟩ := hH
          have hm0 : 0 ≤ nbY y k * W := Int.mul_nonneg (by omega) (by omega)
          have hm1 : nbY y k * W + W ≤ H * W := by
            have : (nbY y k + 1) * W ≤ H * W := Int.mul_le_mul_of_nonneg_right (by omega) (by omega)
            rw [Int.add_mul] at this; omega
          have hm2 : H * W ≤ 64 * 64 := Int.mul_le_mul hH2 hW2 (by omega) (by omega)
          have hm3 : nbY y k * W + nbX x k < n := by rw [HN.out, Int.mul_comm W H]; omega
          obtain ⟨b, o, sv, rfl, hbs, hsv, hcc⟩ := HR.out.at_ (nbY y k * W + nbX x k).toNat (by omega)
          have hcc' := (HSZ.out.cell (p := ⟨b, o + (nbY y k * W + nbX x k).toNat, none⟩) hbs).trans hcc
          have hbl : b < wr.heap.size := Nat.lt_of_lt_of_le hbs HSZ.out.size
          have hsv2 := HX.out _ sv hsv
          have HSV : Hid (nbVal W xs x y k = sv) := by show _ = _; rw [nbVal, List.getD_eq_getElem?_getD, hsv]; rfl
          have hm4 : nbY y k * W ≤ 4096 := by omega
          clear hcc hsv hm1
          generalize hX0 : nbX x k = X at *
          generalize hY0 : nbY y k = Y at *
          clear hX0 hY0
          go_wp2
          go_roundw
          case rel => exact ⟨k + 1, by omega, by go_num, by rw [HS.out, if_pos HK.out, HSV.out], by rw [HC.out, if_pos HK.out], HSZ.out.alloc HSZ.out.size _⟩
          case measure => simp [intOf]; omega
        · have HK := Lib.hid hok
          unfold nbOk at hok
          generalize hX0 : nbX x k = X at *
          generalize hY0 : nbY y k = Y at *
          clear hX0 hY0
          by_cases hz : f X Y = 0
          · have o5' : (f X Y == 0) = true := by simp [hz]
            have hok' : ¬ (0 ≤ X ∧ X < W ∧ 0 ≤ Y ∧ Y < H) := fun hh => hok ⟨hh.1, hh.2.1, hh.2.2.1, hh.2.2.2, hz⟩
            clear hok hz
            go_wp2
            all_goals
              go_roundw
              case rel => exact ⟨k + 1, by omega, by go_num, by rw [HS.out, if_neg HK.out, Int.add_zero], by rw [HC.out, if_neg HK.out, Int.add_zero], HSZ.out.alloc HSZ.out.size _⟩
              case measure => simp [intOf]; omega
          · have o5' : (f X Y == 0) = false := by simp [hz]
            clear hok hz
            go_wp2
            all_goals
              go_roundw
              case rel => exact ⟨k + 1, by omega, by go_num, by rw [HS.out, if_neg HK.out, Int.add_zero], by rw [HC.out, if_neg HK.out, Int.add_zero], HSZ.out.alloc HSZ.out.size _⟩
              case measure => simp [intOf]; omega
      · obtain rfl : k = 4 := by omega
        have HSZ := Lib.hid hbel
        clear kM kB kP hbel
        by_cases hc0 : nbCnt W H f x y 4 = 0
        · have hc1 : (nbCnt W H f x y 4 == 0) = true := by simp [hc0]
          have HC0 := Lib.hid hc0
          clear hc0
          go_wp2
          go_ret
          exact ⟨ret_i (by rw [HV.out, if_pos HC0.out]), HSZ.out⟩
        · have hc1 : (nbCnt W H f x y 4 == 0) = false := by simp [hc0]
          have hc2 : 1 ≤ nbCnt W H f x y 4 := by omega
          have HC0 := Lib.hid hc0
          clear hc0
          go_wp2
          go_ret
          exact ⟨ret_i (by rw [HV.out, if_neg HC0.out]), HSZ.out⟩
end Go.Proofs.Ytpmnfhifmmfglab

namespace Go.Proofs.Ytpmnfhifmmfglab
open Go.RowKit Go.ChangeMaps
/-- A slice of spots (or points): two cells an element. -/
def RS (w : World) (B : Nat) (A : Option Addr) (n : Nat) (l : List (Int × Int)) : Prop :=
  l.length = n ∧ (0 < n → ∃ b o, A = some ⟨b, o, none⟩ ∧ B ≤ b ∧ b < w.heap.size ∧ ∀ (k : Nat) x y, l[k]? = some (x, y) → w.cell? ⟨b, o + k * 2, none⟩ = some (.int .i64 x) ∧ w.cell? ⟨b, o + k * 2 + 1, none⟩ = some (.int .i64 y))
theorem RS.below {w w' : World} {B B' n : Nat} {A : Option Addr} {l : List (Int × Int)} (h : RS w B A n l) (hb : Below B' w w') (hB : w.heap.size ≤ B') : RS w' B A n l :=
  ⟨h.1, fun hn => by
    obtain ⟨b, o, hA, h1, h2, hc⟩ := h.2 hn
    refine ⟨b, o, hA, h1, Nat.lt_of_lt_of_le h2 hb.size, fun k x y hu => ?_⟩
    obtain ⟨c1, c2⟩ := hc k x y hu
    exact ⟨(hb.cell (p := ⟨b, o + k * 2, none⟩) (by show b < B'; omega)).trans c1, (hb.cell (p := ⟨b, o + k * 2 + 1, none⟩) (by show b < B'; omega)).trans c2⟩⟩
theorem RS.at_ {w : World} {B n : Nat} {A : Option Addr} {l : List (Int × Int)} (h : RS w B A n l) (k : Nat) (hk : k < n) :
    ∃ b o x y, A = some ⟨b, o, none⟩ ∧ b < w.heap.size ∧ l[k]? = some (x, y) ∧ w.cell? ⟨b, o + k * 2, none⟩ = some (.int .i64 x) ∧ w.cell? ⟨b, o + k * 2 + 1, none⟩ = some (.int .i64 y) := by
  obtain ⟨b, o, hA, _, hb, hc⟩ := h.2 (by omega)
  have hl : k < l.length := by rw [h.1]; exact hk
  have e : l[k]? = some (l[k].1, l[k].2) := List.getElem?_eq_getElem hl
  obtain ⟨c1, c2⟩ := hc k _ _ e
  exact ⟨b, o, _, _, hA, hb, e, c1, c2⟩
theorem RS.nil {w : World} {B : Nat} {A : Option Addr} : RS w B A 0 [] := ⟨rfl, fun h => absurd h (by omega)⟩
theorem cntF_bd (l : List (Int × Int)) (x y : Int) : 0 ≤ cntF l x y ∧ cntF l x y ≤ l.length := by
  have := List.count_le_length (a := (x, y)) (l := l)
  unfold cntF; omega
theorem cntF_succ {l : List (Int × Int)} {k : Nat} {x y : Int} (h : l[k]? = some (x, y)) : cntF (l.take (k+1)) = bumpF (cntF (l.take k)) x y (cntF (l.take k) x y + 1) := by
  funext a b
  unfold bumpF cntF
  rw [List.take_add_one, h, List.count_append]
  by_cases hab : a = x ∧ b = y
  · obtain ⟨rfl, rfl⟩ := hab
    simp
  · rw [if_neg hab]
    have : (x, y) ≠ (a, b) := by intro e; injection e with e1 e2; exact hab ⟨e1.symm, e2.symm⟩
    simp [this]
theorem heapB_other {w : World} {b i : Nat} (o : Obj) (h : i ≠ b) : (setBlock w b o).heap[i]? = w.heap[i]? := by
  simp [setBlock, Array.getElem?_setIfInBounds_ne (Ne.symm h)]
theorem heapB_same {w : World} {b : Nat} (o : Obj) (h : b < w.heap.size) : (setBlock w b o).heap[b]? = some o := by
  simp [setBlock, h]
theorem below_setBlock {B : Nat} {a w : World} (h : Below B a w) {b : Nat} (hb : B ≤ b) (o : Obj) : Below B a (setBlock w b o) :=
  h.trans ⟨rfl, rfl, rfl, by simp [setBlock], fun k hk => heapB_other o (by omega)⟩
theorem cellB {w : World} {b : Nat} (o : Obj) {a : Addr} {v : Value} (h : a.block ≠ b) (hc : w.cell? a = some v) : (setBlock w b o).cell? a = some v :=
  (World.cell?_of_block (heapB_other o h)).trans hc
theorem Blk.setB {w : World} {g : Nat} {t : TypeId} {cs : Array Value} (h : Blk w g t cs) {b : Nat} (hb : g ≠ b) (o : Obj) : Blk (setBlock w b o) g t cs := (heapB_other o hb).trans h
theorem cf_repair1 (args : Array Value) (wx : World) : (callFunc 72 args).run Try.prog wx = .ok (.enter 72 args) wx := by kernel_rfl
/-- What Repair comes to where the plane is right and the spots are not too many. -/
def RepairPost (m : Nat) (H : Int) (n : Nat) (l : List (Int × Int)) (xs : List Int) (w : World) (e : Ending) (w' : World) : Prop :=
  if l.all (spotOk m H) = true then ∃ A' c', e = .returned (.tuple #[.agg #[.int .i64 m, .int .i64 H, .slice A' n c'], .int .i64 0]) ∧ (RI w' w.heap.size A' n ((List.range n).map (repairL m H l xs)) ∧ OI w' w.heap.size A' n c' ((List.range n).map (repairL m H l xs))) ∧ Below w.heap.size w w'
  else e = .returned (.tuple #[noPlane, .int .i64 3]) ∧ Below w.heap.size w w'
theorem RepairPost.no {m : Nat} {H : Int} {n : Nat} {l : List (Int × Int)} {xs : List Int} {w w' : World} (h : l.all (spotOk m H) = false) (hb : Below w.heap.size w w') : RepairPost m H n l xs w (.returned (.tuple #[noPlane, .int .i64 3])) w' := by
  unfold RepairPost
  rw [if_neg (by rw [h]; exact Bool.false_ne_true)]
  exact ⟨rfl, hb⟩
theorem RepairPost.yes {m : Nat} {H : Int} {n : Nat} {l : List (Int × Int)} {xs : List Int} {w w' : World} {A' : Option Addr} {c' : Nat} (h : l.all (spotOk m H) = true) (hr : RI w' w.heap.size A' n ((List.range n).map (repairL m H l xs))) (ho : OI w' w.heap.size A' n c' ((List.range n).map (repairL m H l xs))) (hb : Below w.heap.size w w') :
    RepairPost m H n l xs w (.returned (.tuple #[.agg #[.int .i64 m, .int .i64 H, .slice A' n c'], .int .i64 0])) w' := by
  unfold RepairPost
  rw [if_pos h]
  exact ⟨A', c', rfl, ⟨hr, ho⟩, hb⟩
section
variable (W H : Int) (A A2 : Option Addr) (n c n2 c2 : Nat) (xs : List Int) (l : List (Int × Int)) (w : World)
set_option maxHeartbeats 400000 in
theorem repair_form (h : RI w 0 A n xs) (hs : RS w 0 A2 n2 l) (hn : n ≤ maxLen) (hf : planeFine W H xs = false) :
    Calls Try.prog 53 #[.agg #[.int .i64 W, .int .i64 H, .slice A n c], .slice A2 n2 c2] w fun e w' =>
      e = .returned (.tuple #[noPlane, .int .i64 1]) ∧ Below w.heap.size w w' := by
  have HR := Lib.hid h
  have HS := Lib.hid hs
  have HF := Lib.hid hf
  have HN := Lib.hid hn
  clear h hs hf hn
  have hmm := @run_makeMap Try.prog
  go_enter Try.func53, Try.ntmps53
  go_wp2_with fail
  refine (fine_any _ _ _ _ _ _ _ (HR.out.below (B' := w.heap.size) (by go_grown) (Nat.le_refl _)) HN.out).mono ?_
  rintro e w1 ⟨rfl, hb⟩
  rw [HF.out]
  have r := (show Blk w1 (w.heap.size+1) 45 #[.int .i64 0, .int .i64 0, .slice none 0 0] from (Blk.newAt (by simp)).below hb (by simp))
  have p := (show Blk w1 w.heap.size 45 #[.int .i64 W, .int .i64 H, .slice A n c] from ((Blk.newAt (by simp)).alloc _).below hb (by simp <;> omega))
  obtain ⟨r0, r1, r2⟩ := r.c3
  obtain ⟨f0, f1, f2⟩ := r.f3
  obtain ⟨p0, p1, p2⟩ := p.c3
  have KR := Lib.hid r
  have KP := Lib.hid p
  have hB : Hid (Below w.heap.size w w1) := (show Below w.heap.size w _ by go_grown).trans (hb.mono (by simp <;> omega))
  have hsz : w.heap.size + 2 ≤ w1.heap.size := by have := hb.size; simp at this; omega
  clear r p hb
  clear HS
  go_wp2
  exact bodyPost_ret (results_row_tmp rfl _ _ (w.heap.size+1) 45 _ _ (by rfl) (((KR.out.set_ 0 _ rfl).set_ 1 _ rfl).set_ 2 _ rfl) Try.underlying45 rfl (by kernel_rfl)) rfl ⟨rfl, ((hB.out.setCell (by simp <;> omega) _).setCell (by simp <;> omega) _).setCell (by simp <;> omega) _⟩
set_option maxHeartbeats 400000 in
theorem repair_many (h : RI w 0 A n xs) (hs : RS w 0 A2 n2 l) (hn : n ≤ maxLen) (hf : planeFine W H xs = true) (hm : 64 < n2) :
    Calls Try.prog 53 #[.agg #[.int .i64 W, .int .i64 H, .slice A n c], .slice A2 n2 c2] w fun e w' =>
      e = .returned (.tuple #[noPlane, .int .i64 2]) ∧ Below w.heap.size w w' := by
  have HR := Lib.hid h
  have HS := Lib.hid hs
  have HF := Lib.hid hf
  have HN := Lib.hid hn
  clear h hs hf hn
  have hmm := @run_makeMap Try.prog
  go_enter Try.func53, Try.ntmps53
  go_wp2_with fail
  refine (fine_any _ _ _ _ _ _ _ (HR.out.below (B' := w.heap.size) (by go_grown) (Nat.le_refl _)) HN.out).mono ?_
  rintro e w1 ⟨rfl, hb⟩
  rw [HF.out]
  have r := (show Blk w1 (w.heap.size+1) 45 #[.int .i64 0, .int .i64 0, .slice none 0 0] from (Blk.newAt (by simp)).below hb (by simp))
  have p := (show Blk w1 w.heap.size 45 #[.int .i64 W, .int .i64 H, .slice A n c] from ((Blk.newAt (by simp)).alloc _).below hb (by simp <;> omega))
  obtain ⟨r0, r1, r2⟩ := r.c3
  obtain ⟨f0, f1, f2⟩ := r.f3
  obtain ⟨p0, p1, p2⟩ := p.c3
  have KR := Lib.hid r
  have KP := Lib.hid p
  have hB : Hid (Below w.heap.size w w1) := (show Below w.heap.size w _ by go_grown).trans (hb.mono (by simp <;> omega))
  have hsz : w.heap.size + 2 ≤ w1.heap.size := by have := hb.size; simp at this; omega
  clear r p hb
  clear HS
  go_wp2
  exact bodyPost_ret (results_row_tmp rfl _ _ (w.heap.size+1) 45 _ _ (by rfl) (((KR.out.set_ 0 _ rfl).set_ 1 _ rfl).set_ 2 _ rfl) Try.underlying45 rfl (by kernel_rfl)) rfl ⟨rfl, ((hB.out.setCell (by simp <;> omega) _).setCell (by simp <;> omega) _).setCell (by simp <;> omega) _⟩
set_option maxRecDepth 100000 in
set_option maxHeartbeats 800000 in
theorem repair_rest (m : Nat) (h : RI w 0 A n xs) (hs : RS w 0 A2 n2 l) (hn : n ≤ maxLen) (hf : planeFine m H xs = true) (hm : n2 ≤ 64) :
    Calls Try.prog 53 #[.agg #[.int .i64 m, .int .i64 H, .slice A n c], .slice A2 n2 c2] w fun e w' =>
      RepairPost m H n l xs w e w' := by
  obtain ⟨hside, hlen, hall⟩ := planeFine_iff.1 hf
  have HSD := Lib.hid hside
  have hmm1 : 1 ≤ m ∧ m ≤ 64 ∧ 1 ≤ H ∧ H ≤ 64 := by unfold sideOk at hside; omega
  have HLN := Lib.hid hlen
  have HAL := Lib.hid hall
  clear hside hlen hall
  have HR := Lib.hid h
  have HS := Lib.hid hs
  have HF := Lib.hid hf
  have HN := Lib.hid hn
  clear h hs hf hn
  have hmm := @run_makeMap Try.prog
  go_enter Try.func53, Try.ntmps53
  go_wp2_with fail
  refine (fine_any _ _ _ _ _ _ _ (HR.out.below (B' := w.heap.size) (by go_grown) (Nat.le_refl _)) HN.out).mono ?_
  rintro e w1 ⟨rfl, hb⟩
  rw [HF.out]
  have r := (show Blk w1 (w.heap.size+1) 45 #[.int .i64 0, .int .i64 0, .slice none 0 0] from (Blk.newAt (by simp)).below hb (by simp))
  have p := (show Blk w1 w.heap.size 45 #[.int .i64 m, .int .i64 H, .slice A n c] from ((Blk.newAt (by simp)).alloc _).below hb (by simp <;> omega))
  obtain ⟨r0, r1, r2⟩ := r.c3
  obtain ⟨f0, f1, f2⟩ := r.f3
  obtain ⟨p0, p1, p2⟩ := p.c3
  have KR := Lib.hid r
  have KP := Lib.hid p
  have hB : Hid (Below w.heap.size w w1) := (show Below w.heap.size w _ by go_grown).trans (hb.mono (by simp <;> omega))
  have hsz : w.heap.size + 2 ≤ w1.heap.size := by have := hb.size; simp at this; omega
  clear r p hb
  go_wp2_with fail
  go_loopw [20] (fun i wr => ∃ k : Nat, k ≤ n2 ∧ i = .int .i64 k ∧ Blk wr w.heap.size 45 #[.int .i64 m, .int .i64 H, .slice A n c] ∧ Blk wr (w.heap.size+1) 45 #[.int .i64 0, .int .i64 0, .slice none 0 0] ∧
    Blk wr (w1.heap.size+1) 113 #[.map (some w1.heap.size)] ∧ MapC wr w1.heap.size k (cntF (l.take k)) ∧ (l.take k).all (spotOk m H) = true ∧ Below w.heap.size w wr ∧ w1.heap.size + 2 ≤ wr.heap.size) (fun i _ => n2 - (intOf i).toNat)
  case atStart =>
    refine ⟨0, Nat.zero_le _, rfl, (KP.out.alloc _).alloc _, (KR.out.alloc _).alloc _, Blk.newAt (by simp), ?_, rfl, (hB.out.alloc (by omega) _).alloc (by simp; omega) _, by simp⟩
    have e : cntF (l.take 0) = fun _ _ => 0 := by funext a b; simp [cntF]
    rw [e]
    exact (MapC.made w1).alloc _
  case round =>
    clear p0 p1 p2 r0 r1 r2 f0 f1 f2
    obtain ⟨k, hk, rfl, q0, q1, q2, q3, hal, hbel, hsz2⟩ := hrel
    obtain ⟨p0, p1, p2⟩ := q0.c3
    obtain ⟨r0, r1, r2⟩ := q1.c3
    obtain ⟨f0, f1, f2⟩ := q1.f3
    obtain ⟨m0, _⟩ := q2.c1
    have Q0 := Lib.hid q0
    have Q1 := Lib.hid q1
    have Q2 := Lib.hid q2
    have Q3 := Lib.hid q3
    have HA := Lib.hid hal
    have HB := Lib.hid hbel
    by_cases hlt : k < n2
    · obtain ⟨b, o, x, y, rfl, hbs, hxy, d0, d1⟩ := HS.out.at_ k hlt
      have d0' := (hbel.cell (p := ⟨b, o + k * 2, none⟩) hbs).trans d0
      have d1' := (hbel.cell (p := ⟨b, o + k * 2 + 1, none⟩) hbs).trans d1
      have hbl : b < wr.heap.size := Nat.lt_of_lt_of_le hbs hbel.size
      have HXY := Lib.hid hxy
      have z0 : w.heap.size < wr.heap.size := by omega
      have z1 : w.heap.size + 1 < wr.heap.size := by omega
      have z2 : w1.heap.size < wr.heap.size := by omega
      have z3 : w1.heap.size + 1 < wr.heap.size := by omega
      clear q0 q1 q2 q3 hal hbel d0 d1 hxy
      by_cases hok : 0 ≤ x ∧ x < m ∧ 0 ≤ y ∧ y < H
      · have HYO : Hid (spotOk m H (x, y) = true) := by show _ = _; simp [spotOk, hok]
        obtain ⟨o1, o2, o3, o4⟩ := hok
        have hcb := cntF_bd (l.take k) x y
        have hcl : (l.take k).length ≤ k := List.length_take_le _ _
        obtain ⟨v0, st, ob1, hE, hL, hSt⟩ := MapC.bump (w := (wr.alloc (.cells #[.int .i64 x, .int .i64 y] 106)).drew) ((Q3.out.alloc _).drew) x y (by unfold wfI; omega) (by unfold wfI; omega)
        have hL0 := MapC.lookup (w := (wr.alloc (.cells #[.int .i64 x, .int .i64 y] 106)).drew) ((Q3.out.alloc _).drew) x y (by unfold wfI; omega) (by unfold wfI; omega)
        unfold spotV at hE hL hL0
        have HE := Lib.hid hE
        have HL := Lib.hid hL
        have HL0 := Lib.hid hL0
        have HST := Lib.hid hSt
        clear hE hL hL0 hSt
        have ew : IntKind.i64.wrap (cntF (l.take k) x y + 1) = cntF (l.take k) x y + 1 := IntWalk.i64_in _ (by omega)
        go_wp2_with fail
        have lt1 : w1.heap.size < (wr.alloc (.cells #[.int .i64 x, .int .i64 y] 106)).drew.heap.size := by simp; omega
        have M1 : ∀ w', (w' = (wr.alloc (.cells #[.int .i64 x, .int .i64 y] 106)).drew ∨ w' = setBlock (wr.alloc (.cells #[.int .i64 x, .int .i64 y] 106)).drew w1.heap.size ob1) → w'.cell? ⟨w1.heap.size + 1, 0, none⟩ = some (.map (some w1.heap.size)) := by
          rintro w' (rfl | rfl)
          · exact cell_al m0
          · exact cellB _ (by simp) (cell_al m0)
        have M2 : ∀ w', (w' = (wr.alloc (.cells #[.int .i64 x, .int .i64 y] 106)).drew ∨ w' = setBlock (wr.alloc (.cells #[.int .i64 x, .int .i64 y] 106)).drew w1.heap.size ob1) → w'.cell? ⟨wr.heap.size, 0, none⟩ = some (.int .i64 x) := by
          rintro w' (rfl | rfl)
          · exact (Blk.new wr 106 #[.int .i64 x, .int .i64 y]).c2.1
          · exact cellB _ (by simp; omega) (Blk.new wr 106 #[.int .i64 x, .int .i64 y]).c2.1
        have M3 : ∀ w', (w' = (wr.alloc (.cells #[.int .i64 x, .int .i64 y] 106)).drew ∨ w' = setBlock (wr.alloc (.cells #[.int .i64 x, .int .i64 y] 106)).drew w1.heap.size ob1) → w'.cell? ⟨wr.heap.size, 1, none⟩ = some (.int .i64 y) := by
          rintro w' (rfl | rfl)
          · exact (Blk.new wr 106 #[.int .i64 x, .int .i64 y]).c2.2
          · exact cellB _ (by simp; omega) (Blk.new wr 106 #[.int .i64 x, .int .i64 y]).c2.2
        have M4 : ∀ w', (w' = (wr.alloc (.cells #[.int .i64 x, .int .i64 y] 106)).drew ∨ w' = setBlock (wr.alloc (.cells #[.int .i64 x, .int .i64 y] 106)).drew w1.heap.size ob1) → (Instr.lookup 113 (.map (some w1.heap.size)) (.agg #[.int .i64 x, .int .i64 y]) false).run Try.prog w' = .ok (.int .i64 (cntF (l.take k) x y)) w' := by
          rintro w' (rfl | rfl)
          · exact HL0.out
          · exact HL.out _ (heapB_same _ lt1)
        refine wp_region_tl (fun w' => w' = (wr.alloc (.cells #[.int .i64 x, .int .i64 y] 106)).drew ∨ w' = setBlock (wr.alloc (.cells #[.int .i64 x, .int .i64 y] 106)).drew w1.heap.size ob1) [0,0,0,0,1,0,2] (by kernel_rfl) (by kernel_rfl) (Or.inl rfl) ?_
        simp only [marked, List.headD_cons, List.tail_cons, beq_self_eq_true, Nat.reduceBEq]
        (apply tl_rob (by rfl); (case hv => (intro w' hS; conv => lhs; simp [go_sem, *])); simp only [Act.put, List.setIfInBounds_toArray, List.set_cons_succ, List.set_cons_zero])
        (apply tl_rob (by rfl); (case hv => (intro w' hS; conv => lhs; simp [go_sem, *])); simp only [Act.put, List.setIfInBounds_toArray, List.set_cons_succ, List.set_cons_zero])
        (apply tl_rob (by rfl); (case hv => (intro w' hS; conv => lhs; simp [go_sem, *])); simp only [Act.put, List.setIfInBounds_toArray, List.set_cons_succ, List.set_cons_zero])
        (apply tl_rob (by rfl); (case hv => (intro w' hS; conv => lhs; simp [go_sem, *])); simp only [Act.put, List.setIfInBounds_toArray, List.set_cons_succ, List.set_cons_zero])
        (apply tl_act (by rfl); intro K hK)
        have hE := HE.out
        go_simp
        refine hK _ _ (fun _ => Or.inr rfl) ?_
        clear hK K hE
        (apply tl_rob (by rfl); (case hv => (intro w' hS; conv => lhs; simp [go_sem, *])); simp only [Act.put, List.setIfInBounds_toArray, List.set_cons_succ, List.set_cons_zero])
        (apply tl_act (by rfl); intro K hK)
        obtain ⟨ob2, hS2, hM2⟩ := HST.out (setBlock (wr.alloc (.cells #[.int .i64 x, .int .i64 y] 106)).drew w1.heap.size ob1) (cntF (l.take k) x y + 1) (heapB_same _ lt1)
        have hS3 : (Instr.entryStore 113 (.map (some w1.heap.size)) (.int .i64 (st : Int)) (.int .i64 (cntF (l.take k) x y + 1))).run Try.prog (setBlock (wr.alloc (.cells #[.int .i64 x, .int .i64 y] 106)).drew w1.heap.size ob1) = .ok () (setBlock (setBlock (wr.alloc (.cells #[.int .i64 x, .int .i64 y] 106)).drew w1.heap.size ob1) w1.heap.size ob2) := hS2
        have HM2 := Lib.hid hM2
        clear hS2 hM2
        go_simp
        refine hK _ _ (fun h => by cases h) ?_
        clear hK K
        refine tl_nil ?_
        clear M1 M2 M3 M4
        go_wp2
        go_roundw
        case rel =>
          refine ⟨k + 1, by omega, by go_num, ((Q0.out.alloc _).drew.setB (by omega) _).setB (by omega) _, ((Q1.out.alloc _).drew.setB (by omega) _).setB (by omega) _, ((Q2.out.alloc _).drew.setB (by omega) _).setB (by omega) _, ?_, all_take_succ _ l k (x, y) HXY.out HA.out HYO.out, below_setBlock (below_setBlock ((HB.out.alloc (by omega) _).drew) (by omega) _) (by omega) _, by simp [setBlock]; omega⟩
          rw [cntF_succ HXY.out]
          exact HM2.out _ (heapB_same _ (by simp [setBlock]; omega))
        case measure => simp [intOf]; omega
      · have HNO : Hid (l.all (spotOk m H) = false) := by
          refine all_false_at _ l k (x, y) HXY.out ?_
          simp only [spotOk, Bool.and_eq_false_iff, decide_eq_false_iff_not]
          omega
        go_wp2
        all_goals exact bodyPost_ret (results_row_tmp rfl _ _ (w.heap.size+1) 45 _ _ (by rfl) ((((Q1.out.set_ 0 _ rfl).set_ 1 _ rfl).set_ 2 _ rfl).alloc _) Try.underlying45 rfl (by kernel_rfl)) rfl (RepairPost.no HNO.out ((((HB.out.setCell (by simp <;> omega) _).setCell (by simp <;> omega) _).setCell (by simp <;> omega) _).alloc (by simp <;> omega) _))
    · obtain rfl : k = n2 := by omega
      have HYES : Hid (l.all (spotOk m H) = true) := all_take_full _ l k (by have := HS.out.1; omega) hal
      clear q0 q1 q2 q3 hal hbel
      have HQ : Hid (Below w.heap.size w wr ∧ MapC wr w1.heap.size k (cntF l)) := ⟨HB.out, by have := Q3.out; rwa [List.take_of_length_le (by have := HS.out.1; omega)] at this⟩
      have HKK : Hid (n ≤ 4096 ∧ (n : Int) = m * H ∧ ∀ j : Nat, j < n → 0 ≤ (j : Int) % m ∧ (j : Int) % m ≤ 64 ∧ 0 ≤ (j : Int) / m ∧ (j : Int) / m ≤ 64) := by
        have hl2 := HR.out.len
        have hl3 := HLN.out
        obtain ⟨g1, g2⟩ := mul_side HSD.out
        refine ⟨by omega, by omega, fun j hj => ?_⟩
        have g3 := Int.emod_nonneg (j : Int) (show (m : Int) ≠ 0 by omega)
        have g4 := Int.emod_lt_of_pos (j : Int) (show 0 < (m : Int) by omega)
        have g5 : 0 ≤ (j : Int) / m := Int.ediv_nonneg (by omega) (by omega)
        have g6 : (j : Int) / m < H := Int.ediv_lt_of_lt_mul (by omega) (by rw [Int.mul_comm]; omega)
        omega
      have HAV : Hid (∀ (j : Nat) (v : Int), xs[j]? = some v → 0 ≤ v ∧ v ≤ 65535) := fun j v hv => okS_of (List.all_eq_true.1 HAL.out v (List.mem_of_getElem? hv))
      go_wp2_with fail
      obtain ⟨hn4, hnm, hkk⟩ := HKK.out
      refine (each_any 72 ⟨w1.heap.size+1, 0, none⟩ ⟨w.heap.size, 0, none⟩ (repairV m H (cntF l) xs) m H A n c xs _ (HR.out.below HQ.out.1 (Nat.le_refl _)) hn4 (by omega) (by omega) cf_repair1 ?_).mono ?_
      · intro j v wx hv hbx
        have hj : j < n := by rw [← HR.out.len]; exact (List.getElem?_eq_some_iff.1 hv).1
        obtain ⟨x0, x1, y0, y1⟩ := hkk j hj
        exact repair1_any m H v _ _ A n c _ _ k _ (cntF l) xs wx ((HR.out.below HQ.out.1 (Nat.le_refl _)).below hbx (Nat.le_refl _)) ⟨x0, x1⟩ ⟨y0, y1⟩ (by omega) (by omega) hnm HAV.out (HQ.out.2.below hbx HQ.out.2.lt) (Q2.out.below hbx Q2.out.lt) (Q0.out.below hbx Q0.out.lt)
      · rintro e w2 ⟨A', c', rfl, ⟨hri, hoi⟩, hb2⟩
        have r' := Q1.out.below hb2 Q1.out.lt
        have HB2 := Lib.hid hb2
        have HRI := Lib.hid hri
        have HOI := Lib.hid hoi
        obtain ⟨r0', r1', r2'⟩ := r'.c3
        obtain ⟨f0', f1', f2'⟩ := r'.f3
        have KR' := Lib.hid r'
        clear r' hb2 hri hoi
        go_wp2
        refine bodyPost_ret (results_row_tmp rfl _ _ (w.heap.size+1) 45 _ _ (by rfl) (((KR'.out.set_ 0 _ rfl).set_ 1 _ rfl).set_ 2 _ rfl) Try.underlying45 rfl (by kernel_rfl)) rfl ?_
        exact (RepairPost.yes HYES.out ((((HRI.out.set_ (by simp <;> omega) _).set_ (by simp <;> omega) _).set_ (by simp <;> omega) _).base (by omega)) ((((HOI.out.set_ (by simp <;> omega) _).set_ (by simp <;> omega) _).set_ (by simp <;> omega) _).base (by omega)) ((((HQ.out.1.trans (HB2.out.mono (by omega))).setCell (by simp <;> omega) _).setCell (by simp <;> omega) _).setCell (by simp <;> omega) _))
end
end Go.Proofs.Ytpmnfhifmmfglab
