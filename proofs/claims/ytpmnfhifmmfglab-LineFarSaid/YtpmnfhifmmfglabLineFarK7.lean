/- Texts of the claim LineFar, joined: WLine. -/
import Derived.Test.YtpmnfhifmmfglabLineFarK2
import Derived.Test.YtpmnfhifmmfglabLineFarK3
import Derived.Test.YtpmnfhifmmfglabLineFarK4
import Derived.Test.YtpmnfhifmmfglabLineFarK5
import Derived.Test.YtpmnfhifmmfglabLineFarK6
set_option linter.unusedVariables false
set_option linter.unusedSimpArgs false
set_option linter.unusedSectionVars false
namespace Go.Proofs.Ytpmnfhifmmfglab
open Go.RowKit
set_option maxRecDepth 100000 in
set_option maxHeartbeats 4000000 in
theorem W_line_in_1 (N : Nat) (n : Int) (v0 : Int) (v1 : Int) (g_v0 : Nat) (g_v1 : Nat) (w0 : World) (B_g_v0 : Blk w0 g_v0 3 #[I v0]) (B_g_v1 : Blk w0 g_v1 3 #[I v1]) (r : Bool) (h : D_line_in_1 N n v0 v1 = some r) :
    Calls Try.prog 67 #[I n, .pointer (some ⟨g_v0, 0, none⟩), .pointer (some ⟨g_v1, 0, none⟩)] w0 fun e w' => ∃ v, e = .returned v ∧ v = .bool r ∧ Mem w0.heap.size w0 w' [] := by
  refine X_enter Try.func67 rfl Try.ntmps67 rfl ?_
  intro a K
  have M := Mem.start w0
  have K : Kn a 13 [(0, I n), (1, .pointer (some ⟨g_v0, 0, none⟩)), (2, .pointer (some ⟨g_v1, 0, none⟩))] := K
  unfold D_line_in_1 at h
  refine wp_seq (X_reg ?_)
  refine X_o K M ?_; clear K; intro a K
  refine wpList_nil (then_n (wp_seq (X_reg ?_)))
  refine X_o K M ?_; clear K
  refine Y_r (fun _ K => rd_ldC rfl sc3 K rfl (inO B_g_v0) rfl) M ?_
  iterate 2 (refine Y_o M ?_)
  intro a K
  rcases Bool.eq_false_or_eq_true (decide (n < v0)) with hb | hb
  · have h := ctrue hb h
    have K := K.reb (s := 8) rfl hb
    refine X_o K M ?_; clear K
    iterate 4 (refine Y_o M ?_)
    intro a K
    refine wpList_nil (then_n (wp_ret ?_))
    cases h
    exact ret1 K rfl (res_tmp K rfl) ⟨_, rfl, rfl, ((M).pick [] (by decide))⟩
  have h := cfalse hb h
  have K := K.reb (s := 8) rfl hb
  refine X_o K M ?_; clear K
  refine Y_r (fun _ K => rd_ldC rfl sc3 K rfl (inO B_g_v1) rfl) M ?_
  iterate 3 (refine Y_o M ?_)
  intro a K
  refine wpList_nil (then_n (wp_ret ?_))
  cases h
  exact ret1 K rfl (res_tmp K rfl) ⟨_, rfl, rfl, ((M).pick [] (by decide))⟩
set_option maxRecDepth 100000 in
set_option maxHeartbeats 4000000 in
theorem W_slices_IndexFunc__int_int__line_in_1 (N : Nat) (s : List Int) (A_s : Option Addr) (c_s : Nat) (in_1_0 : Int) (in_1_1 : Int) (g_in_1_0 : Nat) (g_in_1_1 : Nat) (w0 : World) (R_s : SL w0 (cI .i64) A_s s) (C_s : s.length ≤ c_s) (B_g_in_1_0 : Blk w0 g_in_1_0 3 #[I in_1_0]) (B_g_in_1_1 : Blk w0 g_in_1_1 3 #[I in_1_1]) (r : Int) (h : D_slices_IndexFunc__int_int__line_in_1 N s in_1_0 in_1_1 = some r) :
    Calls Try.prog 78 #[.slice A_s s.length c_s, .func (.func 67) #[] #[.pointer (some ⟨g_in_1_0, 0, none⟩), .pointer (some ⟨g_in_1_1, 0, none⟩)]] w0 fun e w' => ∃ v, e = .returned v ∧ v = I r ∧ Mem w0.heap.size w0 w' [] := by
  refine X_enter Try.func78 rfl Try.ntmps78 rfl ?_
  intro a K
  have M := Mem.start w0
  have K : Kn a 19 [(0, .slice A_s s.length c_s), (1, .func (.func 67) #[] #[.pointer (some ⟨g_in_1_0, 0, none⟩), .pointer (some ⟨g_in_1_1, 0, none⟩)])] := K
  unfold D_slices_IndexFunc__int_int__line_in_1 at h
  refine wp_seq (X_reg ?_)
  refine X_o K M ?_; clear K; intro a K
  refine wpList_nil (then_n (wp_seq (wp_seq (X_reg ?_))))
  refine X_o K M ?_; clear K
  refine Y_r (fun _ K => rd_len rfl un43 K rfl) M ?_
  refine Y_o M ?_; intro a K
  refine wpList_nil (then_n (wp_block ?_))
  refine X_lp (id := 0) (Rel := fun (i : Int) a w => Kn a 19 [(0, .slice A_s s.length c_s), (1, .func (.func 67) #[] #[.pointer (some ⟨g_in_1_0, 0, none⟩), .pointer (some ⟨g_in_1_1, 0, none⟩)]), (7, I (s.length : Int)), (8, I i)] ∧ Mem w0.heap.size w0 w []) h (fun _ _ => rfl) ⟨K.pick [0,1,7,8], M.pick [] (by decide)⟩ ?_ ?_
  · clear K M h
    rintro i2 a w ⟨K, M⟩ h
    try dsimp only at h
    refine inb_e ?_
    refine then_n (wp_seq (X_reg ?_))
    refine X_o K M ?_; clear K; intro a K
    refine wpList_nil (then_n (wp_ret ?_))
    cases h
    exact ret1 K rfl (res_tmp K rfl) ⟨_, rfl, rfl, ((M).pick [] (by decide))⟩
  clear K M h
  rintro kk fuel i a w hk1 ⟨K, M⟩ h
  unfold D_slices_IndexFunc__int_int__line_in_1_l1 at h
  refine wp_seq (X_reg ?_)
  refine X_o K M ?_; clear K; intro a K
  refine wpList_nil (then_n (wp_seq ?_))
  refine X_cond K rfl (fun hb => ?_) (fun hb => ?_)
  · have h := ctrue hb h
    refine wp_skip (then_n (wp_seq (wp_block (wp_seq (X_reg ?_)))))
    refine X_o K M ?_; clear K
    refine Y_o M ?_; intro a K
    refine wpList_nil (then_n (wp_seq (X_reg ?_)))
    refine X_o K M ?_; clear K
    iterate 2 (refine Y_o M ?_)
    obtain ⟨e2, h_e2, h⟩ := obind h
    refine Y_r (fun _ K => rd_ix rfl sl43 K rfl rfl (inA R_s) h_e2) M ?_
    refine Y_r (fun _ K => rd_elC rfl sc3 K rfl rfl (inA R_s) h_e2 rfl) M ?_; intro a K
    obtain ⟨r3, h_r3, h⟩ := obind h
    refine X_a K (ac_call (vs := [I e2]) (cap := [.pointer (some ⟨g_in_1_0, 0, none⟩), .pointer (some ⟨g_in_1_1, 0, none⟩)]) rfl fok67 K rfl rfl (W_line_in_1 N e2 in_1_0 in_1_1 g_in_1_0 g_in_1_1 _ (inO B_g_in_1_0 _ M) (inO B_g_in_1_1 _ M) r3 h_r3)) ?_
    have M0 := M; clear K M; rintro _ a w ⟨rfl, M⟩ K
    replace M := M0.call M; clear M0
    refine wpList_nil (then_n ?_)
    refine X_cond K rfl (fun hb => ?_) (fun hb => ?_)
    · have h := ctrue hb h
      refine wp_seq (X_reg ?_)
      refine X_o K M ?_; clear K
      refine Y_o M ?_; intro a K
      refine wpList_nil (then_n (wp_ret (inb_r (then_r (then_r (inb_r (then_r ?_)))))))
      cases h
      exact ret1 K rfl (res_tmp K rfl) ⟨_, rfl, rfl, ((M).pick [] (by decide))⟩
    have h := cfalse hb h
    refine wp_skip (inb_n (then_n (X_reg ?_)))
    refine X_o K M ?_; clear K
    refine Y_o M ?_; intro a K
    refine wpList_nil ?_
    exact then_n ⟨(IntKind.i64.wrap (i + 1)), ⟨K.pick [0,1,7,8], M.pick [] (by decide)⟩, h⟩
  have h := cfalse hb h
  refine wp_exit ?_
  refine then_e ?_
  exact then_e (hk1 i _ _ ⟨K.pick [0,1,7,8], M.pick [] (by decide)⟩ h)
set_option maxRecDepth 100000 in
set_option maxHeartbeats 4000000 in
theorem W_slices_ContainsFunc__int_int__line_in_1 (N : Nat) (s : List Int) (A_s : Option Addr) (c_s : Nat) (in_1_0 : Int) (in_1_1 : Int) (g_in_1_0 : Nat) (g_in_1_1 : Nat) (w0 : World) (R_s : SL w0 (cI .i64) A_s s) (C_s : s.length ≤ c_s) (B_g_in_1_0 : Blk w0 g_in_1_0 3 #[I in_1_0]) (B_g_in_1_1 : Blk w0 g_in_1_1 3 #[I in_1_1]) (r : Bool) (h : D_slices_ContainsFunc__int_int__line_in_1 N s in_1_0 in_1_1 = some r) :
    Calls Try.prog 66 #[.slice A_s s.length c_s, .func (.func 67) #[] #[.pointer (some ⟨g_in_1_0, 0, none⟩), .pointer (some ⟨g_in_1_1, 0, none⟩)]] w0 fun e w' => ∃ v, e = .returned v ∧ v = .bool r ∧ Mem w0.heap.size w0 w' [] := by
  refine X_enter Try.func66 rfl Try.ntmps66 rfl ?_
  intro a K
  have M := Mem.start w0
  have K : Kn a 9 [(0, .slice A_s s.length c_s), (1, .func (.func 67) #[] #[.pointer (some ⟨g_in_1_0, 0, none⟩), .pointer (some ⟨g_in_1_1, 0, none⟩)])] := K
  unfold D_slices_ContainsFunc__int_int__line_in_1 at h
  refine wp_seq (X_reg ?_)
  refine X_o K M ?_; clear K; intro a K
  refine wpList_nil (then_n (wp_seq (X_reg ?_)))
  refine X_o K M ?_; clear K
  refine Y_o M ?_; intro a K
  obtain ⟨r2, h_r2, h⟩ := obind h
  refine X_a K (ac_call (vs := [.slice A_s s.length c_s, .func (.func 67) #[] #[.pointer (some ⟨g_in_1_0, 0, none⟩), .pointer (some ⟨g_in_1_1, 0, none⟩)]]) (cap := []) rfl fok78 K rfl rfl (W_slices_IndexFunc__int_int__line_in_1 N s A_s c_s in_1_0 in_1_1 g_in_1_0 g_in_1_1 _ ((inA R_s) _ M) C_s (inO B_g_in_1_0 _ M) (inO B_g_in_1_1 _ M) r2 h_r2)) ?_
  have M0 := M; clear K M; rintro _ a w ⟨rfl, M⟩ K
  replace M := M0.call M; clear M0
  refine X_o K M ?_; clear K
  refine Y_o M ?_; intro a K
  refine wpList_nil (then_n (wp_ret ?_))
  cases h
  exact ret1 K rfl (res_tmp K rfl) ⟨_, rfl, rfl, ((M).pick [] (by decide))⟩
set_option maxRecDepth 100000 in
set_option maxHeartbeats 4000000 in
theorem W_line_in (N : Nat) (low : Int) (high : Int) (l2 : List Int) (A_l2 : Option Addr) (c_l2 : Nat) (w0 : World) (R_l2 : SL w0 (cI .i64) A_l2 l2) (C_l2 : l2.length ≤ c_l2) (r : Bool) (h : D_line_in N low high l2 = some r) :
    Calls Try.prog 49 #[I low, I high, .slice A_l2 l2.length c_l2] w0 fun e w' => ∃ v, e = .returned v ∧ v = .bool r ∧ Mem w0.heap.size w0 w' [] := by
  refine X_enter Try.func49 rfl Try.ntmps49 rfl ?_
  intro a K
  have M := Mem.start w0
  have K : Kn a 11 [(0, I low), (1, I high), (2, .slice A_l2 l2.length c_l2)] := K
  unfold D_line_in at h
  refine wp_seq (X_reg ?_)
  refine X_a K (ac_box rfl K rfl (cs := [I low]) rfl M) ?_
  clear K M; rintro _ a w ⟨g_low, rfl, M⟩ K
  refine X_a K (ac_box rfl K rfl (cs := [I high]) rfl M) ?_
  clear K M; rintro _ a w ⟨g_high, rfl, M⟩ K
  refine X_o K M ?_; clear K; intro a K
  refine wpList_nil (then_n (wp_seq (X_reg ?_)))
  refine X_o K M ?_; clear K
  refine Y_r (fun _ K => rd_func rfl K (vs := [.pointer (some ⟨g_low, 0, none⟩), .pointer (some ⟨g_high, 0, none⟩)]) rfl) M ?_; intro a K
  obtain ⟨r2, h_r2, h⟩ := obind h
  refine X_a K (ac_call (vs := [.slice A_l2 l2.length c_l2, .func (.func 67) #[] #[.pointer (some ⟨g_low, 0, none⟩), .pointer (some ⟨g_high, 0, none⟩)]]) (cap := []) rfl fok66 K rfl rfl (W_slices_ContainsFunc__int_int__line_in_1 N l2 A_l2 c_l2 low high g_low g_high _ ((inA R_l2) _ M) C_l2 (M.blkAt (i := 1) rfl) (M.blkAt (i := 0) rfl) r2 h_r2)) ?_
  have M0 := M; clear K M; rintro _ a w ⟨rfl, M⟩ K
  replace M := M0.call M; clear M0
  refine X_o K M ?_; clear K
  refine Y_o M ?_; intro a K
  refine wpList_nil (then_n (wp_ret ?_))
  cases h
  exact ret1 K rfl (res_tmp K rfl) ⟨_, rfl, rfl, ((M).pick [] (by decide))⟩
set_option maxRecDepth 100000 in
set_option maxHeartbeats 4000000 in
theorem W_line_spots_1 (N : Nat) (s_X : Int) (s_Y : Int) (v0 : Int) (v1 : Int) (g_v0 : Nat) (g_v1 : Nat) (w0 : World) (B_g_v0 : Blk w0 g_v0 3 #[I v0]) (B_g_v1 : Blk w0 g_v1 3 #[I v1]) (r : Bool) (h : D_line_spots_1 N s_X s_Y v0 v1 = some r) :
    Calls Try.prog 69 #[.agg #[I s_X, I s_Y], .pointer (some ⟨g_v0, 0, none⟩), .pointer (some ⟨g_v1, 0, none⟩)] w0 fun e w' => ∃ v, e = .returned v ∧ v = .bool r ∧ Mem w0.heap.size w0 w' [] := by
  refine X_enter Try.func69 rfl Try.ntmps69 rfl ?_
  intro a K
  have M := Mem.start w0
  have K : Kn a 21 [(0, .agg #[I s_X, I s_Y]), (1, .pointer (some ⟨g_v0, 0, none⟩)), (2, .pointer (some ⟨g_v1, 0, none⟩))] := K
  unfold D_line_spots_1 at h
  refine wp_seq (X_reg ?_)
  refine X_a K (ac_box rfl K rfl (cs := [I s_X, I s_Y]) rfl M) ?_
  clear K M; rintro _ a w ⟨g_s, rfl, M⟩ K
  refine X_o K M ?_; clear K; intro a K
  refine wpList_nil (then_n (wp_seq (X_reg ?_)))
  refine X_r K (rd_ldC rfl sc3 K rfl (inO B_g_v0) rfl) M ?_; clear K
  refine Y_o M ?_
  refine Y_r (fun _ K => rd_field rfl fld106_0 K rfl) M ?_
  refine Y_r (fun _ K => rd_ldC rfl sc3 K rfl (inM 0 rfl) rfl) M ?_; intro a K
  refine X_a K (ac_bslice rfl sl43 z3 K (vs := [(0, I s_X)]) (cs := [I s_X]) rfl (by kernel_rfl) rfl rfl M) ?_
  have M0 := M; clear K M; rintro _ a w ⟨gs, rfl, M⟩ K
  replace M := M.asRow 0 rfl (cI .i64) ([s_X] : List Int) (n := 1) rfl rfl rfl
  clear M0
  obtain ⟨r2, h_r2, h⟩ := obind h
  refine X_a K (ac_call (vs := [I 0, I (IntKind.i64.wrap (v0 - 1)), .slice (some ⟨gs, 0, none⟩) ([s_X] : List Int).length 1]) (cap := []) rfl fok49 K rfl rfl (W_line_in N 0 (IntKind.i64.wrap (v0 - 1)) ([s_X] : List Int) (some ⟨gs, 0, none⟩) 1 _ ((inR (C := (cI .i64)) 0 rfl rfl) _ M) (M.cap 0 rfl) r2 h_r2)) ?_
  have M0 := M; clear K M; rintro _ a w ⟨rfl, M⟩ K
  replace M := M0.call M; clear M0
  refine X_o K M ?_; clear K
  refine Y_o M ?_; intro a K
  rcases Bool.eq_false_or_eq_true (!(r2)) with hb | hb
  · have h := ctrue hb h
    have K := K.reb (s := 12) rfl hb
    refine X_o K M ?_; clear K
    iterate 8 (refine Y_o M ?_)
    intro a K
    refine wpList_nil (then_n (wp_ret ?_))
    cases h
    exact ret1 K rfl (res_tmp K rfl) ⟨_, rfl, rfl, ((M).pick [] (by decide))⟩
  have h := cfalse hb h
  have K := K.reb (s := 12) rfl hb
  refine X_r K (rd_ldC rfl sc3 K rfl (inO B_g_v1) rfl) M ?_; clear K
  refine Y_o M ?_
  refine Y_r (fun _ K => rd_field rfl fld106_1 K rfl) M ?_
  refine Y_r (fun _ K => rd_ldC rfl sc3 K rfl (inM 1 rfl) rfl) M ?_; intro a K
  refine X_a K (ac_bslice rfl sl43 z3 K (vs := [(0, I s_Y)]) (cs := [I s_Y]) rfl (by kernel_rfl) rfl rfl M) ?_
  have M0 := M; clear K M; rintro _ a w ⟨gs2, rfl, M⟩ K
  replace M := M.asRow 0 rfl (cI .i64) ([s_Y] : List Int) (n := 1) rfl rfl rfl
  clear M0
  obtain ⟨r3, h_r3, h⟩ := obind h
  refine X_a K (ac_call (vs := [I 0, I (IntKind.i64.wrap (v1 - 1)), .slice (some ⟨gs2, 0, none⟩) ([s_Y] : List Int).length 1]) (cap := []) rfl fok49 K rfl rfl (W_line_in N 0 (IntKind.i64.wrap (v1 - 1)) ([s_Y] : List Int) (some ⟨gs2, 0, none⟩) 1 _ ((inR (C := (cI .i64)) 0 rfl rfl) _ M) (M.cap 0 rfl) r3 h_r3)) ?_
  have M0 := M; clear K M; rintro _ a w ⟨rfl, M⟩ K
  replace M := M0.call M; clear M0
  refine X_o K M ?_; clear K
  iterate 2 (refine Y_o M ?_)
  intro a K
  refine wpList_nil (then_n (wp_ret ?_))
  cases h
  exact ret1 K rfl (res_tmp K rfl) ⟨_, rfl, rfl, ((M).pick [] (by decide))⟩
set_option maxRecDepth 100000 in
set_option maxHeartbeats 4000000 in
theorem W_slices_IndexFunc__api_Spot_api_Spot__line_spots_1 (N : Nat) (s : List (Int × Int)) (A_s : Option Addr) (c_s : Nat) (spots_1_0 : Int) (spots_1_1 : Int) (g_spots_1_0 : Nat) (g_spots_1_1 : Nat) (w0 : World) (R_s : SL w0 cII A_s s) (C_s : s.length ≤ c_s) (B_g_spots_1_0 : Blk w0 g_spots_1_0 3 #[I spots_1_0]) (B_g_spots_1_1 : Blk w0 g_spots_1_1 3 #[I spots_1_1]) (r : Int) (h : D_slices_IndexFunc__api_Spot_api_Spot__line_spots_1 N s spots_1_0 spots_1_1 = some r) :
    Calls Try.prog 79 #[.slice A_s s.length c_s, .func (.func 69) #[] #[.pointer (some ⟨g_spots_1_0, 0, none⟩), .pointer (some ⟨g_spots_1_1, 0, none⟩)]] w0 fun e w' => ∃ v, e = .returned v ∧ v = I r ∧ Mem w0.heap.size w0 w' [] := by
  refine X_enter Try.func79 rfl Try.ntmps79 rfl ?_
  intro a K
  have M := Mem.start w0
  have K : Kn a 19 [(0, .slice A_s s.length c_s), (1, .func (.func 69) #[] #[.pointer (some ⟨g_spots_1_0, 0, none⟩), .pointer (some ⟨g_spots_1_1, 0, none⟩)])] := K
  unfold D_slices_IndexFunc__api_Spot_api_Spot__line_spots_1 at h
  refine wp_seq (X_reg ?_)
  refine X_o K M ?_; clear K; intro a K
  refine wpList_nil (then_n (wp_seq (wp_seq (X_reg ?_))))
  refine X_o K M ?_; clear K
  refine Y_r (fun _ K => rd_len rfl un37 K rfl) M ?_
  refine Y_o M ?_; intro a K
  refine wpList_nil (then_n (wp_block ?_))
  refine X_lp (id := 0) (Rel := fun (i : Int) a w => Kn a 19 [(0, .slice A_s s.length c_s), (1, .func (.func 69) #[] #[.pointer (some ⟨g_spots_1_0, 0, none⟩), .pointer (some ⟨g_spots_1_1, 0, none⟩)]), (7, I (s.length : Int)), (8, I i)] ∧ Mem w0.heap.size w0 w []) h (fun _ _ => rfl) ⟨K.pick [0,1,7,8], M.pick [] (by decide)⟩ ?_ ?_
  · clear K M h
    rintro i2 a w ⟨K, M⟩ h
    try dsimp only at h
    refine inb_e ?_
    refine then_n (wp_seq (X_reg ?_))
    refine X_o K M ?_; clear K; intro a K
    refine wpList_nil (then_n (wp_ret ?_))
    cases h
    exact ret1 K rfl (res_tmp K rfl) ⟨_, rfl, rfl, ((M).pick [] (by decide))⟩
  clear K M h
  rintro kk fuel i a w hk1 ⟨K, M⟩ h
  unfold D_slices_IndexFunc__api_Spot_api_Spot__line_spots_1_l1 at h
  refine wp_seq (X_reg ?_)
  refine X_o K M ?_; clear K; intro a K
  refine wpList_nil (then_n (wp_seq ?_))
  refine X_cond K rfl (fun hb => ?_) (fun hb => ?_)
  · have h := ctrue hb h
    refine wp_skip (then_n (wp_seq (wp_block (wp_seq (X_reg ?_)))))
    refine X_o K M ?_; clear K
    refine Y_o M ?_; intro a K
    refine wpList_nil (then_n (wp_seq (X_reg ?_)))
    refine X_o K M ?_; clear K
    iterate 2 (refine Y_o M ?_)
    obtain ⟨e2, h_e2, h⟩ := obind h
    refine Y_r (fun _ K => rd_ix rfl sl37 K rfl rfl (inA R_s) h_e2) M ?_
    refine Y_r (fun _ K => rd_elA rfl ty106 K rfl rfl rfl (inA R_s) h_e2) M ?_; intro a K
    obtain ⟨r3, h_r3, h⟩ := obind h
    refine X_a K (ac_call (vs := [.agg #[I e2.1, I e2.2]]) (cap := [.pointer (some ⟨g_spots_1_0, 0, none⟩), .pointer (some ⟨g_spots_1_1, 0, none⟩)]) rfl fok69 K rfl rfl (W_line_spots_1 N e2.1 e2.2 spots_1_0 spots_1_1 g_spots_1_0 g_spots_1_1 _ (inO B_g_spots_1_0 _ M) (inO B_g_spots_1_1 _ M) r3 h_r3)) ?_
    have M0 := M; clear K M; rintro _ a w ⟨rfl, M⟩ K
    replace M := M0.call M; clear M0
    refine wpList_nil (then_n ?_)
    refine X_cond K rfl (fun hb => ?_) (fun hb => ?_)
    · have h := ctrue hb h
      refine wp_seq (X_reg ?_)
      refine X_o K M ?_; clear K
      refine Y_o M ?_; intro a K
      refine wpList_nil (then_n (wp_ret (inb_r (then_r (then_r (inb_r (then_r ?_)))))))
      cases h
      exact ret1 K rfl (res_tmp K rfl) ⟨_, rfl, rfl, ((M).pick [] (by decide))⟩
    have h := cfalse hb h
    refine wp_skip (inb_n (then_n (X_reg ?_)))
    refine X_o K M ?_; clear K
    refine Y_o M ?_; intro a K
    refine wpList_nil ?_
    exact then_n ⟨(IntKind.i64.wrap (i + 1)), ⟨K.pick [0,1,7,8], M.pick [] (by decide)⟩, h⟩
  have h := cfalse hb h
  refine wp_exit ?_
  refine then_e ?_
  exact then_e (hk1 i _ _ ⟨K.pick [0,1,7,8], M.pick [] (by decide)⟩ h)
set_option maxRecDepth 100000 in
set_option maxHeartbeats 4000000 in
theorem W_slices_ContainsFunc__api_Spot_api_Spot__line_spots_1 (N : Nat) (s : List (Int × Int)) (A_s : Option Addr) (c_s : Nat) (spots_1_0 : Int) (spots_1_1 : Int) (g_spots_1_0 : Nat) (g_spots_1_1 : Nat) (w0 : World) (R_s : SL w0 cII A_s s) (C_s : s.length ≤ c_s) (B_g_spots_1_0 : Blk w0 g_spots_1_0 3 #[I spots_1_0]) (B_g_spots_1_1 : Blk w0 g_spots_1_1 3 #[I spots_1_1]) (r : Bool) (h : D_slices_ContainsFunc__api_Spot_api_Spot__line_spots_1 N s spots_1_0 spots_1_1 = some r) :
    Calls Try.prog 68 #[.slice A_s s.length c_s, .func (.func 69) #[] #[.pointer (some ⟨g_spots_1_0, 0, none⟩), .pointer (some ⟨g_spots_1_1, 0, none⟩)]] w0 fun e w' => ∃ v, e = .returned v ∧ v = .bool r ∧ Mem w0.heap.size w0 w' [] := by
  refine X_enter Try.func68 rfl Try.ntmps68 rfl ?_
  intro a K
  have M := Mem.start w0
  have K : Kn a 9 [(0, .slice A_s s.length c_s), (1, .func (.func 69) #[] #[.pointer (some ⟨g_spots_1_0, 0, none⟩), .pointer (some ⟨g_spots_1_1, 0, none⟩)])] := K
  unfold D_slices_ContainsFunc__api_Spot_api_Spot__line_spots_1 at h
  refine wp_seq (X_reg ?_)
  refine X_o K M ?_; clear K; intro a K
  refine wpList_nil (then_n (wp_seq (X_reg ?_)))
  refine X_o K M ?_; clear K
  refine Y_o M ?_; intro a K
  obtain ⟨r2, h_r2, h⟩ := obind h
  refine X_a K (ac_call (vs := [.slice A_s s.length c_s, .func (.func 69) #[] #[.pointer (some ⟨g_spots_1_0, 0, none⟩), .pointer (some ⟨g_spots_1_1, 0, none⟩)]]) (cap := []) rfl fok79 K rfl rfl (W_slices_IndexFunc__api_Spot_api_Spot__line_spots_1 N s A_s c_s spots_1_0 spots_1_1 g_spots_1_0 g_spots_1_1 _ ((inA R_s) _ M) C_s (inO B_g_spots_1_0 _ M) (inO B_g_spots_1_1 _ M) r2 h_r2)) ?_
  have M0 := M; clear K M; rintro _ a w ⟨rfl, M⟩ K
  replace M := M0.call M; clear M0
  refine X_o K M ?_; clear K
  refine Y_o M ?_; intro a K
  refine wpList_nil (then_n (wp_ret ?_))
  cases h
  exact ret1 K rfl (res_tmp K rfl) ⟨_, rfl, rfl, ((M).pick [] (by decide))⟩
set_option maxRecDepth 100000 in
set_option maxHeartbeats 4000000 in
theorem W_line_spots (N : Nat) (l2 : List (Int × Int)) (A_l2 : Option Addr) (c_l2 : Nat) (w2 : Int) (h2 : Int) (w0 : World) (R_l2 : SL w0 cII A_l2 l2) (C_l2 : l2.length ≤ c_l2) (r : Bool) (h : D_line_spots N l2 w2 h2 = some r) :
    Calls Try.prog 50 #[.slice A_l2 l2.length c_l2, I w2, I h2] w0 fun e w' => ∃ v, e = .returned v ∧ v = .bool r ∧ Mem w0.heap.size w0 w' [] := by
  refine X_enter Try.func50 rfl Try.ntmps50 rfl ?_
  intro a K
  have M := Mem.start w0
  have K : Kn a 11 [(0, .slice A_l2 l2.length c_l2), (1, I w2), (2, I h2)] := K
  unfold D_line_spots at h
  refine wp_seq (X_reg ?_)
  refine X_a K (ac_box rfl K rfl (cs := [I w2]) rfl M) ?_
  clear K M; rintro _ a w ⟨g_w, rfl, M⟩ K
  refine X_a K (ac_box rfl K rfl (cs := [I h2]) rfl M) ?_
  clear K M; rintro _ a w ⟨g_h, rfl, M⟩ K
  refine X_o K M ?_; clear K; intro a K
  refine wpList_nil (then_n (wp_seq (X_reg ?_)))
  refine X_o K M ?_; clear K
  refine Y_r (fun _ K => rd_func rfl K (vs := [.pointer (some ⟨g_w, 0, none⟩), .pointer (some ⟨g_h, 0, none⟩)]) rfl) M ?_; intro a K
  obtain ⟨r2, h_r2, h⟩ := obind h
  refine X_a K (ac_call (vs := [.slice A_l2 l2.length c_l2, .func (.func 69) #[] #[.pointer (some ⟨g_w, 0, none⟩), .pointer (some ⟨g_h, 0, none⟩)]]) (cap := []) rfl fok68 K rfl rfl (W_slices_ContainsFunc__api_Spot_api_Spot__line_spots_1 N l2 A_l2 c_l2 w2 h2 g_w g_h _ ((inA R_l2) _ M) C_l2 (M.blkAt (i := 1) rfl) (M.blkAt (i := 0) rfl) r2 h_r2)) ?_
  have M0 := M; clear K M; rintro _ a w ⟨rfl, M⟩ K
  replace M := M0.call M; clear M0
  refine X_o K M ?_; clear K
  refine Y_o M ?_; intro a K
  refine wpList_nil (then_n (wp_ret ?_))
  cases h
  exact ret1 K rfl (res_tmp K rfl) ⟨_, rfl, rfl, ((M).pick [] (by decide))⟩
set_option maxRecDepth 100000 in
set_option maxHeartbeats 4000000 in
theorem W_line_Check (N : Nat) (na : Int) (nb0 : Int) (nb1 : Int) (nb2 : Int) (nb3 : Int) (nc : Int) (nd : List (Int × Int)) (And : Option Addr) (cnd : Nat) (ne0 : Int) (ne1 : Int) (ne2 : Int) (nf0 : Int) (nf1 : Int) (nf2 : Int) (nf3 : Int) (nf4 : Int) (nf5 : Int) (nf6 : Int) (nf7 : Int) (nf8 : Int) (ng : List (Int × Int)) (Ang : Option Addr) (cng : Nat) (nh : Int) (w0 : World) (Rnd : SL w0 cII And nd) (Cnd : nd.length ≤ cnd) (Rng : SL w0 cII Ang ng) (Cng : ng.length ≤ cng) (r : Int) (h : D_line_Check N na nb0 nb1 nb2 nb3 nc nd ne0 ne1 ne2 nf0 nf1 nf2 nf3 nf4 nf5 nf6 nf7 nf8 ng nh = some r) :
    Calls Try.prog 19 #[.agg #[I na, I nb0, I nb1, I nb2, I nb3, I nc, .slice And nd.length cnd, I ne0, I ne1, I ne2, I nf0, I nf1, I nf2, I nf3, I nf4, I nf5, I nf6, I nf7, I nf8, .slice Ang ng.length cng, I nh]] w0 fun e w' => ∃ v, e = .returned v ∧ v = I r ∧ Mem w0.heap.size w0 w' [] := by
  refine X_enter Try.func19 rfl Try.ntmps19 rfl ?_
  intro a K
  have M := Mem.start w0
  have K : Kn a 64 [(0, .agg #[I na, I nb0, I nb1, I nb2, I nb3, I nc, .slice And nd.length cnd, I ne0, I ne1, I ne2, I nf0, I nf1, I nf2, I nf3, I nf4, I nf5, I nf6, I nf7, I nf8, .slice Ang ng.length cng, I nh])] := K
  unfold D_line_Check at h
  refine wp_seq (X_reg ?_)
  refine X_a K (ac_box rfl K rfl (cs := [I na, I nb0, I nb1, I nb2, I nb3, I nc, .slice And nd.length cnd, I ne0, I ne1, I ne2, I nf0, I nf1, I nf2, I nf3, I nf4, I nf5, I nf6, I nf7, I nf8, .slice Ang ng.length cng, I nh]) rfl M) ?_
  clear K M; rintro _ a w ⟨g_n, rfl, M⟩ K
  refine X_o K M ?_; clear K; intro a K
  refine wpList_nil (then_n (wp_seq (wp_seq ?_)))
  refine wp_region_tl (fun w => Mem _ _ w _) [0,0,1,1,1,1,1,1,1,1,1,1,1,0,0,0,1,1,1,1,1,1,1,1,1,1,1,1,1,1,1,1,1,1,1,1,1,1,1,1,1,1,1,1,1,1,1,1,1,1,0,0] (by kernel_rfl) (by kernel_rfl) M.drew ?_
  replace M := M.drew
  refine T_r K (rd_field rfl fld42_0 K rfl) ?_; clear K
  refine U_r (fun _ K => rd_ldC rfl sc3 K rfl (inM 0 rfl) rfl) ?_; intro a K
  refine T_a K (ac_bslice rfl sl43 z3 K (vs := [(0, I na)]) (cs := [I na]) rfl (by kernel_rfl) rfl rfl M) ?_
  have M0 := M; clear K M; rintro _ a w ⟨gs, rfl, M⟩ K
  replace M := M.asRow 0 rfl (cI .i64) ([na] : List Int) (n := 1) rfl rfl rfl
  clear M0
  refine ⟨M.pick [1] (by decide), ?_⟩
  obtain ⟨r2, h_r2, h⟩ := obind h
  refine T_a K (ac_call (vs := [I 0, I 3, .slice (some ⟨gs, 0, none⟩) ([na] : List Int).length 1]) (cap := []) rfl fok49 K rfl rfl (W_line_in N 0 3 ([na] : List Int) (some ⟨gs, 0, none⟩) 1 _ ((inR (C := (cI .i64)) 0 rfl rfl) _ M) (M.cap 0 rfl) r2 h_r2)) ?_
  have M0 := M; clear K M; rintro _ a w ⟨rfl, M⟩ K
  replace M := M0.call M; clear M0
  refine ⟨M.pick [1] (by decide), ?_⟩
  refine T_rd1 K (want_no rfl) rfl rfl (rd_not rfl K rfl) M (M.pick [1] (by decide)) ?_; clear K; intro a K
  refine T_rd1 K (want_no rfl) rfl rfl (rd_move rfl K rfl) M (M.pick [1] (by decide)) ?_; clear K; intro a K
  rcases Bool.eq_false_or_eq_true (!(r2)) with hb | hb
  · have h := ctrue hb h
    have K := K.reb (s := 10) rfl hb
    iterate 5 (refine T_no1 K (K.no rfl rfl rfl rfl) rfl rfl (M.pick [1] (by decide)) ?_; clear K; intro a K)
    refine T_rd1 K (want_no rfl) rfl rfl (rd_pickT rfl K rfl rfl) M (M.pick [1] (by decide)) ?_; clear K; intro a K
    refine T_rd1 K (want_no rfl) rfl rfl (rd_move rfl K rfl) M (M.pick [1] (by decide)) ?_; clear K; intro a K
    refine T_o K ?_; clear K
    iterate 2 (refine U_o ?_)
    intro a K
    iterate 4 (refine T_no1 K (K.no rfl rfl rfl rfl) rfl rfl (M.pick [1] (by decide)) ?_; clear K; intro a K)
    refine T_rd1 K (want_no rfl) rfl rfl (rd_pickT rfl K rfl rfl) M (M.pick [1] (by decide)) ?_; clear K; intro a K
    refine T_rd1 K (want_no rfl) rfl rfl (rd_move rfl K rfl) M (M.pick [1] (by decide)) ?_; clear K; intro a K
    iterate 4 (refine T_no1 K (K.no rfl rfl rfl rfl) rfl rfl (M.pick [1] (by decide)) ?_; clear K; intro a K)
    refine T_rd1 K (want_no rfl) rfl rfl (rd_pickT rfl K rfl rfl) M (M.pick [1] (by decide)) ?_; clear K; intro a K
    refine T_rd1 K (want_no rfl) rfl rfl (rd_move rfl K rfl) M (M.pick [1] (by decide)) ?_; clear K; intro a K
    iterate 4 (refine T_no1 K (K.no rfl rfl rfl rfl) rfl rfl (M.pick [1] (by decide)) ?_; clear K; intro a K)
    refine T_rd1 K (want_no rfl) rfl rfl (rd_pickT rfl K rfl rfl) M (M.pick [1] (by decide)) ?_; clear K; intro a K
    refine T_rd1 K (want_no rfl) rfl rfl (rd_move rfl K rfl) M (M.pick [1] (by decide)) ?_; clear K; intro a K
    iterate 4 (refine T_no1 K (K.no rfl rfl rfl rfl) rfl rfl (M.pick [1] (by decide)) ?_; clear K; intro a K)
    refine T_rd1 K (want_no rfl) rfl rfl (rd_pickT rfl K rfl rfl) M (M.pick [1] (by decide)) ?_; clear K; intro a K
    refine T_rd1 K (want_no rfl) rfl rfl (rd_move rfl K rfl) M (M.pick [1] (by decide)) ?_; clear K; intro a K
    iterate 4 (refine T_no1 K (K.no rfl rfl rfl rfl) rfl rfl (M.pick [1] (by decide)) ?_; clear K; intro a K)
    refine T_rd1 K (want_no rfl) rfl rfl (rd_pickT rfl K rfl rfl) M (M.pick [1] (by decide)) ?_; clear K; intro a K
    refine T_rd1 K (want_no rfl) rfl rfl (rd_move rfl K rfl) M (M.pick [1] (by decide)) ?_; clear K; intro a K
    iterate 4 (refine T_no1 K (K.no rfl rfl rfl rfl) rfl rfl (M.pick [1] (by decide)) ?_; clear K; intro a K)
    refine T_o K ?_; clear K
    refine U_o ?_; intro a K
    refine T_end ?_
    refine then_n ?_
    refine X_condT K rfl ?_
    refine wp_seq (X_reg ?_)
    refine X_o K M ?_; clear K; intro a K
    refine wpList_nil (then_n (wp_ret (then_r ?_)))
    cases h
    exact ret1 K rfl (res_tmp K rfl) ⟨_, rfl, rfl, ((M).pick [] (by decide))⟩
  have h := cfalse hb h
  have K := K.reb (s := 10) rfl hb
  refine T_rd1 K (K.yes rfl rfl rfl) rfl rfl (rd_field rfl fld42_2 K rfl) M (M.pick [1] (by decide)) ?_; clear K; intro a K
  refine T_rd1 K (K.yes rfl rfl rfl) rfl rfl (rd_ldC rfl sc3 K rfl (inM 1 rfl) rfl) M (M.pick [1] (by decide)) ?_; clear K; intro a K
  refine T_a K (ac_bslice rfl sl43 z3 K (vs := [(0, I nc)]) (cs := [I nc]) rfl (by kernel_rfl) rfl rfl M) ?_
  have M0 := M; clear K M; rintro _ a w ⟨gs2, rfl, M⟩ K
  replace M := M.asRow 0 rfl (cI .i64) ([nc] : List Int) (n := 1) rfl rfl rfl
  clear M0
  refine ⟨M.pick [2] (by decide), ?_⟩
  obtain ⟨r3, h_r3, h⟩ := obind h
  refine T_a K (ac_call (vs := [I 1, I 65535, .slice (some ⟨gs2, 0, none⟩) ([nc] : List Int).length 1]) (cap := []) rfl fok49 K rfl rfl (W_line_in N 1 65535 ([nc] : List Int) (some ⟨gs2, 0, none⟩) 1 _ ((inR (C := (cI .i64)) 0 rfl rfl) _ M) (M.cap 0 rfl) r3 h_r3)) ?_
  have M0 := M; clear K M; rintro _ a w ⟨rfl, M⟩ K
  replace M := M0.call M; clear M0
  refine ⟨M.pick [2] (by decide), ?_⟩
  refine T_rd1 K (K.yes rfl rfl rfl) rfl rfl (rd_not rfl K rfl) M (M.pick [2] (by decide)) ?_; clear K; intro a K
  refine T_rd1 K (want_no rfl) rfl rfl (rd_pickF rfl K rfl rfl) M (M.pick [2] (by decide)) ?_; clear K; intro a K
  refine T_rd1 K (want_no rfl) rfl rfl (rd_move rfl K rfl) M (M.pick [2] (by decide)) ?_; clear K; intro a K
  rcases Bool.eq_false_or_eq_true (!(r3)) with hb | hb
  · have h := ctrue hb h
    have K := K.reb (s := 17) rfl hb
    refine T_o K ?_; clear K
    iterate 2 (refine U_o ?_)
    intro a K
    iterate 4 (refine T_no1 K (K.no rfl rfl rfl rfl) rfl rfl (M.pick [2] (by decide)) ?_; clear K; intro a K)
    refine T_rd1 K (want_no rfl) rfl rfl (rd_pickT rfl K rfl rfl) M (M.pick [2] (by decide)) ?_; clear K; intro a K
    refine T_rd1 K (want_no rfl) rfl rfl (rd_move rfl K rfl) M (M.pick [2] (by decide)) ?_; clear K; intro a K
    iterate 4 (refine T_no1 K (K.no rfl rfl rfl rfl) rfl rfl (M.pick [2] (by decide)) ?_; clear K; intro a K)
    refine T_rd1 K (want_no rfl) rfl rfl (rd_pickT rfl K rfl rfl) M (M.pick [2] (by decide)) ?_; clear K; intro a K
    refine T_rd1 K (want_no rfl) rfl rfl (rd_move rfl K rfl) M (M.pick [2] (by decide)) ?_; clear K; intro a K
    iterate 4 (refine T_no1 K (K.no rfl rfl rfl rfl) rfl rfl (M.pick [2] (by decide)) ?_; clear K; intro a K)
    refine T_rd1 K (want_no rfl) rfl rfl (rd_pickT rfl K rfl rfl) M (M.pick [2] (by decide)) ?_; clear K; intro a K
    refine T_rd1 K (want_no rfl) rfl rfl (rd_move rfl K rfl) M (M.pick [2] (by decide)) ?_; clear K; intro a K
    iterate 4 (refine T_no1 K (K.no rfl rfl rfl rfl) rfl rfl (M.pick [2] (by decide)) ?_; clear K; intro a K)
    refine T_rd1 K (want_no rfl) rfl rfl (rd_pickT rfl K rfl rfl) M (M.pick [2] (by decide)) ?_; clear K; intro a K
    refine T_rd1 K (want_no rfl) rfl rfl (rd_move rfl K rfl) M (M.pick [2] (by decide)) ?_; clear K; intro a K
    iterate 4 (refine T_no1 K (K.no rfl rfl rfl rfl) rfl rfl (M.pick [2] (by decide)) ?_; clear K; intro a K)
    refine T_rd1 K (want_no rfl) rfl rfl (rd_pickT rfl K rfl rfl) M (M.pick [2] (by decide)) ?_; clear K; intro a K
    refine T_rd1 K (want_no rfl) rfl rfl (rd_move rfl K rfl) M (M.pick [2] (by decide)) ?_; clear K; intro a K
    iterate 4 (refine T_no1 K (K.no rfl rfl rfl rfl) rfl rfl (M.pick [2] (by decide)) ?_; clear K; intro a K)
    refine T_o K ?_; clear K
    refine U_o ?_; intro a K
    refine T_end ?_
    refine then_n ?_
    refine X_condT K rfl ?_
    refine wp_seq (X_reg ?_)
    refine X_o K M ?_; clear K; intro a K
    refine wpList_nil (then_n (wp_ret (then_r ?_)))
    cases h
    exact ret1 K rfl (res_tmp K rfl) ⟨_, rfl, rfl, ((M).pick [] (by decide))⟩
  have h := cfalse hb h
  have K := K.reb (s := 17) rfl hb
  refine T_r K (rd_field rfl fld42_2 K rfl) ?_; clear K
  refine U_r (fun _ K => rd_ldC rfl sc3 K rfl (inM 0 rfl) rfl) ?_
  refine U_o ?_; intro a K
  refine T_rd1 K (K.yes rfl rfl rfl) rfl rfl (rd_field rfl fld42_1 K rfl) M (M.pick [2] (by decide)) ?_; clear K; intro a K
  refine T_rd1 K (K.yes rfl rfl rfl) rfl rfl (rd_sliceArr rfl ar36 sz3 K rfl) M (M.pick [2] (by decide)) ?_; clear K; intro a K
  obtain ⟨r4, h_r4, h⟩ := obind h
  refine T_a K (ac_call (vs := [I 0, I (IntKind.i64.wrap (nc - 1)), .slice (some ⟨g_n, 1, none⟩) ([nb0, nb1, nb2, nb3]).length 4]) (cap := []) rfl fok49 K rfl rfl (W_line_in N 0 (IntKind.i64.wrap (nc - 1)) ([nb0, nb1, nb2, nb3]) (some ⟨g_n, 1, none⟩) 4 _ ((fun w M => blkSL2 (C := (cI .i64)) (xs := [nb0, nb1, nb2, nb3]) rfl ((inM 2 rfl) w M)) _ M) (Nat.le_refl _) r4 h_r4)) ?_
  have M0 := M; clear K M; rintro _ a w ⟨rfl, M⟩ K
  replace M := M0.call M; clear M0
  refine ⟨M.pick [2] (by decide), ?_⟩
  refine T_rd1 K (K.yes rfl rfl rfl) rfl rfl (rd_not rfl K rfl) M (M.pick [2] (by decide)) ?_; clear K; intro a K
  refine T_rd1 K (want_no rfl) rfl rfl (rd_pickF rfl K rfl rfl) M (M.pick [2] (by decide)) ?_; clear K; intro a K
  refine T_rd1 K (want_no rfl) rfl rfl (rd_move rfl K rfl) M (M.pick [2] (by decide)) ?_; clear K; intro a K
  rcases Bool.eq_false_or_eq_true (!(r4)) with hb | hb
  · have h := ctrue hb h
    have K := K.reb (s := 26) rfl hb
    iterate 4 (refine T_no1 K (K.no rfl rfl rfl rfl) rfl rfl (M.pick [2] (by decide)) ?_; clear K; intro a K)
    refine T_rd1 K (want_no rfl) rfl rfl (rd_pickT rfl K rfl rfl) M (M.pick [2] (by decide)) ?_; clear K; intro a K
    refine T_rd1 K (want_no rfl) rfl rfl (rd_move rfl K rfl) M (M.pick [2] (by decide)) ?_; clear K; intro a K
    iterate 4 (refine T_no1 K (K.no rfl rfl rfl rfl) rfl rfl (M.pick [2] (by decide)) ?_; clear K; intro a K)
    refine T_rd1 K (want_no rfl) rfl rfl (rd_pickT rfl K rfl rfl) M (M.pick [2] (by decide)) ?_; clear K; intro a K
    refine T_rd1 K (want_no rfl) rfl rfl (rd_move rfl K rfl) M (M.pick [2] (by decide)) ?_; clear K; intro a K
    iterate 4 (refine T_no1 K (K.no rfl rfl rfl rfl) rfl rfl (M.pick [2] (by decide)) ?_; clear K; intro a K)
    refine T_rd1 K (want_no rfl) rfl rfl (rd_pickT rfl K rfl rfl) M (M.pick [2] (by decide)) ?_; clear K; intro a K
    refine T_rd1 K (want_no rfl) rfl rfl (rd_move rfl K rfl) M (M.pick [2] (by decide)) ?_; clear K; intro a K
    iterate 4 (refine T_no1 K (K.no rfl rfl rfl rfl) rfl rfl (M.pick [2] (by decide)) ?_; clear K; intro a K)
    refine T_rd1 K (want_no rfl) rfl rfl (rd_pickT rfl K rfl rfl) M (M.pick [2] (by decide)) ?_; clear K; intro a K
    refine T_rd1 K (want_no rfl) rfl rfl (rd_move rfl K rfl) M (M.pick [2] (by decide)) ?_; clear K; intro a K
    iterate 4 (refine T_no1 K (K.no rfl rfl rfl rfl) rfl rfl (M.pick [2] (by decide)) ?_; clear K; intro a K)
    refine T_o K ?_; clear K
    refine U_o ?_; intro a K
    refine T_end ?_
    refine then_n ?_
    refine X_condT K rfl ?_
    refine wp_seq (X_reg ?_)
    refine X_o K M ?_; clear K; intro a K
    refine wpList_nil (then_n (wp_ret (then_r ?_)))
    cases h
    exact ret1 K rfl (res_tmp K rfl) ⟨_, rfl, rfl, ((M).pick [] (by decide))⟩
  have h := cfalse hb h
  have K := K.reb (s := 26) rfl hb
  refine T_rd1 K (K.yes rfl rfl rfl) rfl rfl (rd_field rfl fld42_3 K rfl) M (M.pick [2] (by decide)) ?_; clear K; intro a K
  refine T_rd1 K (K.yes rfl rfl rfl) rfl rfl (rd_ldC rfl sc37 K rfl (inM 2 rfl) rfl) M (M.pick [2] (by decide)) ?_; clear K; intro a K
  refine T_rd1 K (K.yes rfl rfl rfl) rfl rfl (rd_len rfl un37 K rfl) M (M.pick [2] (by decide)) ?_; clear K; intro a K
  refine T_rd1 K (K.yes rfl rfl rfl) rfl rfl (rd_gtr rfl K rfl rfl) M (M.pick [2] (by decide)) ?_; clear K; intro a K
  refine T_rd1 K (want_no rfl) rfl rfl (rd_pickF rfl K rfl rfl) M (M.pick [2] (by decide)) ?_; clear K; intro a K
  refine T_rd1 K (want_no rfl) rfl rfl (rd_move rfl K rfl) M (M.pick [2] (by decide)) ?_; clear K; intro a K
  rcases Bool.eq_false_or_eq_true (decide (64 < (nd.length : Int))) with hb | hb
  · have h := ctrue hb h
    have K := K.reb (s := 32) rfl hb
    iterate 4 (refine T_no1 K (K.no rfl rfl rfl rfl) rfl rfl (M.pick [2] (by decide)) ?_; clear K; intro a K)
    refine T_rd1 K (want_no rfl) rfl rfl (rd_pickT rfl K rfl rfl) M (M.pick [2] (by decide)) ?_; clear K; intro a K
    refine T_rd1 K (want_no rfl) rfl rfl (rd_move rfl K rfl) M (M.pick [2] (by decide)) ?_; clear K; intro a K
    iterate 4 (refine T_no1 K (K.no rfl rfl rfl rfl) rfl rfl (M.pick [2] (by decide)) ?_; clear K; intro a K)
    refine T_rd1 K (want_no rfl) rfl rfl (rd_pickT rfl K rfl rfl) M (M.pick [2] (by decide)) ?_; clear K; intro a K
    refine T_rd1 K (want_no rfl) rfl rfl (rd_move rfl K rfl) M (M.pick [2] (by decide)) ?_; clear K; intro a K
    iterate 4 (refine T_no1 K (K.no rfl rfl rfl rfl) rfl rfl (M.pick [2] (by decide)) ?_; clear K; intro a K)
    refine T_rd1 K (want_no rfl) rfl rfl (rd_pickT rfl K rfl rfl) M (M.pick [2] (by decide)) ?_; clear K; intro a K
    refine T_rd1 K (want_no rfl) rfl rfl (rd_move rfl K rfl) M (M.pick [2] (by decide)) ?_; clear K; intro a K
    iterate 4 (refine T_no1 K (K.no rfl rfl rfl rfl) rfl rfl (M.pick [2] (by decide)) ?_; clear K; intro a K)
    refine T_o K ?_; clear K
    refine U_o ?_; intro a K
    refine T_end ?_
    refine then_n ?_
    refine X_condT K rfl ?_
    refine wp_seq (X_reg ?_)
    refine X_o K M ?_; clear K; intro a K
    refine wpList_nil (then_n (wp_ret (then_r ?_)))
    cases h
    exact ret1 K rfl (res_tmp K rfl) ⟨_, rfl, rfl, ((M).pick [] (by decide))⟩
  have h := cfalse hb h
  have K := K.reb (s := 32) rfl hb
  refine T_rd1 K (K.yes rfl rfl rfl) rfl rfl (rd_field rfl fld42_3 K rfl) M (M.pick [2] (by decide)) ?_; clear K; intro a K
  refine T_rd1 K (K.yes rfl rfl rfl) rfl rfl (rd_ldC rfl sc37 K rfl (inM 2 rfl) rfl) M (M.pick [2] (by decide)) ?_; clear K; intro a K
  obtain ⟨r5, h_r5, h⟩ := obind h
  refine T_a K (ac_call (vs := [.slice And nd.length cnd, I 64, I 64]) (cap := []) rfl fok50 K rfl rfl (W_line_spots N nd And cnd 64 64 _ ((inA Rnd) _ M) Cnd r5 h_r5)) ?_
  have M0 := M; clear K M; rintro _ a w ⟨rfl, M⟩ K
  replace M := M0.call M; clear M0
  refine ⟨M.pick [2] (by decide), ?_⟩
  refine T_rd1 K (K.yes rfl rfl rfl) rfl rfl (rd_not rfl K rfl) M (M.pick [2] (by decide)) ?_; clear K; intro a K
  refine T_rd1 K (want_no rfl) rfl rfl (rd_pickF rfl K rfl rfl) M (M.pick [2] (by decide)) ?_; clear K; intro a K
  refine T_rd1 K (want_no rfl) rfl rfl (rd_move rfl K rfl) M (M.pick [2] (by decide)) ?_; clear K; intro a K
  rcases Bool.eq_false_or_eq_true (!(r5)) with hb | hb
  · have h := ctrue hb h
    have K := K.reb (s := 38) rfl hb
    iterate 4 (refine T_no1 K (K.no rfl rfl rfl rfl) rfl rfl (M.pick [2] (by decide)) ?_; clear K; intro a K)
    refine T_rd1 K (want_no rfl) rfl rfl (rd_pickT rfl K rfl rfl) M (M.pick [2] (by decide)) ?_; clear K; intro a K
    refine T_rd1 K (want_no rfl) rfl rfl (rd_move rfl K rfl) M (M.pick [2] (by decide)) ?_; clear K; intro a K
    iterate 4 (refine T_no1 K (K.no rfl rfl rfl rfl) rfl rfl (M.pick [2] (by decide)) ?_; clear K; intro a K)
    refine T_rd1 K (want_no rfl) rfl rfl (rd_pickT rfl K rfl rfl) M (M.pick [2] (by decide)) ?_; clear K; intro a K
    refine T_rd1 K (want_no rfl) rfl rfl (rd_move rfl K rfl) M (M.pick [2] (by decide)) ?_; clear K; intro a K
    iterate 4 (refine T_no1 K (K.no rfl rfl rfl rfl) rfl rfl (M.pick [2] (by decide)) ?_; clear K; intro a K)
    refine T_o K ?_; clear K
    refine U_o ?_; intro a K
    refine T_end ?_
    refine then_n ?_
    refine X_condT K rfl ?_
    refine wp_seq (X_reg ?_)
    refine X_o K M ?_; clear K; intro a K
    refine wpList_nil (then_n (wp_ret (then_r ?_)))
    cases h
    exact ret1 K rfl (res_tmp K rfl) ⟨_, rfl, rfl, ((M).pick [] (by decide))⟩
  have h := cfalse hb h
  have K := K.reb (s := 38) rfl hb
  refine T_rd1 K (K.yes rfl rfl rfl) rfl rfl (rd_field rfl fld42_4 K rfl) M (M.pick [2] (by decide)) ?_; clear K; intro a K
  refine T_rd1 K (K.yes rfl rfl rfl) rfl rfl (rd_sliceArr rfl ar38 sz3 K rfl) M (M.pick [2] (by decide)) ?_; clear K; intro a K
  obtain ⟨r6, h_r6, h⟩ := obind h
  refine T_a K (ac_call (vs := [I 0, I 65535, .slice (some ⟨g_n, 7, none⟩) ([ne0, ne1, ne2]).length 3]) (cap := []) rfl fok49 K rfl rfl (W_line_in N 0 65535 ([ne0, ne1, ne2]) (some ⟨g_n, 7, none⟩) 3 _ ((fun w M => blkSL2 (C := (cI .i64)) (xs := [ne0, ne1, ne2]) rfl ((inM 2 rfl) w M)) _ M) (Nat.le_refl _) r6 h_r6)) ?_
  have M0 := M; clear K M; rintro _ a w ⟨rfl, M⟩ K
  replace M := M0.call M; clear M0
  refine ⟨M.pick [2] (by decide), ?_⟩
  refine T_rd1 K (K.yes rfl rfl rfl) rfl rfl (rd_not rfl K rfl) M (M.pick [2] (by decide)) ?_; clear K; intro a K
  refine T_rd1 K (want_no rfl) rfl rfl (rd_pickF rfl K rfl rfl) M (M.pick [2] (by decide)) ?_; clear K; intro a K
  refine T_rd1 K (want_no rfl) rfl rfl (rd_move rfl K rfl) M (M.pick [2] (by decide)) ?_; clear K; intro a K
  rcases Bool.eq_false_or_eq_true (!(r6)) with hb | hb
  · have h := ctrue hb h
    have K := K.reb (s := 44) rfl hb
    iterate 4 (refine T_no1 K (K.no rfl rfl rfl rfl) rfl rfl (M.pick [2] (by decide)) ?_; clear K; intro a K)
    refine T_rd1 K (want_no rfl) rfl rfl (rd_pickT rfl K rfl rfl) M (M.pick [2] (by decide)) ?_; clear K; intro a K
    refine T_rd1 K (want_no rfl) rfl rfl (rd_move rfl K rfl) M (M.pick [2] (by decide)) ?_; clear K; intro a K
    iterate 4 (refine T_no1 K (K.no rfl rfl rfl rfl) rfl rfl (M.pick [2] (by decide)) ?_; clear K; intro a K)
    refine T_o K ?_; clear K
    refine U_o ?_; intro a K
    refine T_end ?_
    refine then_n ?_
    refine X_condT K rfl ?_
    refine wp_seq (X_reg ?_)
    refine X_o K M ?_; clear K; intro a K
    refine wpList_nil (then_n (wp_ret (then_r ?_)))
    cases h
    exact ret1 K rfl (res_tmp K rfl) ⟨_, rfl, rfl, ((M).pick [] (by decide))⟩
  have h := cfalse hb h
  have K := K.reb (s := 44) rfl hb
  refine T_rd1 K (K.yes rfl rfl rfl) rfl rfl (rd_field rfl fld42_5 K rfl) M (M.pick [2] (by decide)) ?_; clear K; intro a K
  refine T_rd1 K (K.yes rfl rfl rfl) rfl rfl (rd_sliceArr rfl ar39 sz3 K rfl) M (M.pick [2] (by decide)) ?_; clear K; intro a K
  obtain ⟨r7, h_r7, h⟩ := obind h
  refine T_a K (ac_call (vs := [I (-32768), I 32768, .slice (some ⟨g_n, 10, none⟩) ([nf0, nf1, nf2, nf3, nf4, nf5, nf6, nf7, nf8]).length 9]) (cap := []) rfl fok49 K rfl rfl (W_line_in N (-32768) 32768 ([nf0, nf1, nf2, nf3, nf4, nf5, nf6, nf7, nf8]) (some ⟨g_n, 10, none⟩) 9 _ ((fun w M => blkSL2 (C := (cI .i64)) (xs := [nf0, nf1, nf2, nf3, nf4, nf5, nf6, nf7, nf8]) rfl ((inM 2 rfl) w M)) _ M) (Nat.le_refl _) r7 h_r7)) ?_
  have M0 := M; clear K M; rintro _ a w ⟨rfl, M⟩ K
  replace M := M0.call M; clear M0
  refine ⟨M.pick [2] (by decide), ?_⟩
  refine T_rd1 K (K.yes rfl rfl rfl) rfl rfl (rd_not rfl K rfl) M (M.pick [2] (by decide)) ?_; clear K; intro a K
  refine T_rd1 K (want_no rfl) rfl rfl (rd_pickF rfl K rfl rfl) M (M.pick [2] (by decide)) ?_; clear K; intro a K
  refine T_rd1 K (want_no rfl) rfl rfl (rd_move rfl K rfl) M (M.pick [2] (by decide)) ?_; clear K; intro a K
  rcases Bool.eq_false_or_eq_true (!(r7)) with hb | hb
  · have h := ctrue hb h
    have K := K.reb (s := 50) rfl hb
    iterate 4 (refine T_no1 K (K.no rfl rfl rfl rfl) rfl rfl (M.pick [2] (by decide)) ?_; clear K; intro a K)
    refine T_o K ?_; clear K
    refine U_o ?_; intro a K
    refine T_end ?_
    refine then_n ?_
    refine X_condT K rfl ?_
    refine wp_seq (X_reg ?_)
    refine X_o K M ?_; clear K; intro a K
    refine wpList_nil (then_n (wp_ret (then_r ?_)))
    cases h
    exact ret1 K rfl (res_tmp K rfl) ⟨_, rfl, rfl, ((M).pick [] (by decide))⟩
  have h := cfalse hb h
  have K := K.reb (s := 50) rfl hb
  refine T_rd1 K (K.yes rfl rfl rfl) rfl rfl (rd_field rfl fld42_7 K rfl) M (M.pick [2] (by decide)) ?_; clear K; intro a K
  refine T_rd1 K (K.yes rfl rfl rfl) rfl rfl (rd_ldC rfl sc3 K rfl (inM 2 rfl) rfl) M (M.pick [2] (by decide)) ?_; clear K; intro a K
  refine T_a K (ac_bslice rfl sl43 z3 K (vs := [(0, I nh)]) (cs := [I nh]) rfl (by kernel_rfl) rfl rfl M) ?_
  have M0 := M; clear K M; rintro _ a w ⟨gs3, rfl, M⟩ K
  replace M := M.asRow 0 rfl (cI .i64) ([nh] : List Int) (n := 1) rfl rfl rfl
  clear M0
  refine ⟨M.pick [3] (by decide), ?_⟩
  obtain ⟨r8, h_r8, h⟩ := obind h
  refine T_a K (ac_call (vs := [I 0, I 1024, .slice (some ⟨gs3, 0, none⟩) ([nh] : List Int).length 1]) (cap := []) rfl fok49 K rfl rfl (W_line_in N 0 1024 ([nh] : List Int) (some ⟨gs3, 0, none⟩) 1 _ ((inR (C := (cI .i64)) 0 rfl rfl) _ M) (M.cap 0 rfl) r8 h_r8)) ?_
  have M0 := M; clear K M; rintro _ a w ⟨rfl, M⟩ K
  replace M := M0.call M; clear M0
  refine ⟨M.pick [3] (by decide), ?_⟩
  refine T_o K ?_; clear K
  refine U_o ?_; intro a K
  refine T_end ?_
  refine then_n ?_
  refine X_cond K rfl (fun hb => ?_) (fun hb => ?_)
  · have h := ctrue hb h
    refine wp_seq (X_reg ?_)
    refine X_o K M ?_; clear K; intro a K
    refine wpList_nil (then_n (wp_ret (then_r ?_)))
    cases h
    exact ret1 K rfl (res_tmp K rfl) ⟨_, rfl, rfl, ((M).pick [] (by decide))⟩
  have h := cfalse hb h
  refine wp_skip (then_n (wp_seq (X_reg ?_)))
  refine X_r K (rd_field rfl fld42_6 K rfl) M ?_; clear K
  refine Y_r (fun _ K => rd_ldC rfl sc40 K rfl (inM 3 rfl) rfl) M ?_; intro a K
  obtain ⟨r9, h_r9, h⟩ := obind h
  refine X_a K (ac_call (vs := [.slice Ang ng.length cng, I 0]) (cap := []) rfl fok36 K rfl rfl (W_tone_Curve N ng Ang cng 0 _ ((inA Rng) _ M) Cng r9 h_r9)) ?_
  have M0 := M; clear K M; rintro _ a w ⟨rfl, M⟩ K
  replace M := M0.call M; clear M0
  refine X_o K M ?_; clear K
  iterate 4 (refine Y_o M ?_)
  intro a K
  refine wpList_nil (then_n (wp_seq (X_reg ?_)))
  refine X_o K M ?_; clear K
  refine Y_o M ?_; intro a K
  refine wpList_nil (then_n (wp_ret ?_))
  cases h
  exact ret1 K rfl (res_tmp K rfl) ⟨_, rfl, rfl, ((M).pick [] (by decide))⟩
set_option maxRecDepth 100000 in
set_option maxHeartbeats 4000000 in
theorem W_line_level_work (N : Nat) (sna : Int) (snb0 : Int) (snb1 : Int) (snb2 : Int) (snb3 : Int) (snc : Int) (snd : List (Int × Int)) (Asnd : Option Addr) (csnd : Nat) (sne0 : Int) (sne1 : Int) (sne2 : Int) (snf0 : Int) (snf1 : Int) (snf2 : Int) (snf3 : Int) (snf4 : Int) (snf5 : Int) (snf6 : Int) (snf7 : Int) (snf8 : Int) (sng : List (Int × Int)) (Asng : Option Addr) (csng : Nat) (snh : Int) (p_W : Int) (p_H : Int) (p_P : List Int) (A_p_P : Option Addr) (c_p_P : Nat) (q_W : Int) (q_H : Int) (q_P : List (Int × Int × Int)) (A_q_P : Option Addr) (c_q_P : Nat) (w0 : World) (Rsnd : SL w0 cII Asnd snd) (Csnd : snd.length ≤ csnd) (Rsng : SL w0 cII Asng sng) (Csng : sng.length ≤ csng) (R_p_P : SL w0 (cI .i64) A_p_P p_P) (C_p_P : p_P.length ≤ c_p_P) (R_q_P : SL w0 cIII A_q_P q_P) (C_q_P : q_P.length ≤ c_q_P) (r : Int × Int × List Int × Int × Int × List (Int × Int × Int) × Int) (h : D_line_level_work N sna snb0 snb1 snb2 snb3 snc snd sne0 sne1 sne2 snf0 snf1 snf2 snf3 snf4 snf5 snf6 snf7 snf8 sng snh p_W p_H p_P q_W q_H q_P = some r) :
    Calls Try.prog 96 #[.agg #[I sna, I snb0, I snb1, I snb2, I snb3, I snc, .slice Asnd snd.length csnd, I sne0, I sne1, I sne2, I snf0, I snf1, I snf2, I snf3, I snf4, I snf5, I snf6, I snf7, I snf8, .slice Asng sng.length csng, I snh], .agg #[I p_W, I p_H, .slice A_p_P p_P.length c_p_P], .agg #[I q_W, I q_H, .slice A_q_P q_P.length c_q_P]] w0 fun e w' => ∃ v, e = .returned v ∧ ∃ A2 c2, v = .tuple #[.agg #[I r.1, I r.2.1, .slice A2 r.2.2.1.length c2], .agg #[I r.2.2.2.1, I r.2.2.2.2.1, .slice A_q_P q_P.length c_q_P], I r.2.2.2.2.2.2] ∧ r.2.2.2.2.2.1 = q_P ∧ Mem w0.heap.size w0 w' [.row 3 1 A2 r.2.2.1.length c2 ((cI .i64).all r.2.2.1)] := by
  refine X_enter Try.func96 rfl Try.ntmps96 rfl ?_
  intro a K
  have M := Mem.start w0
  have K : Kn a 24 [(0, .agg #[I sna, I snb0, I snb1, I snb2, I snb3, I snc, .slice Asnd snd.length csnd, I sne0, I sne1, I sne2, I snf0, I snf1, I snf2, I snf3, I snf4, I snf5, I snf6, I snf7, I snf8, .slice Asng sng.length csng, I snh]), (1, .agg #[I p_W, I p_H, .slice A_p_P p_P.length c_p_P]), (2, .agg #[I q_W, I q_H, .slice A_q_P q_P.length c_q_P])] := K
  unfold D_line_level_work at h
  refine wp_seq (X_reg ?_)
  refine X_a K (ac_box rfl K rfl (cs := [I sna, I snb0, I snb1, I snb2, I snb3, I snc, .slice Asnd snd.length csnd, I sne0, I sne1, I sne2, I snf0, I snf1, I snf2, I snf3, I snf4, I snf5, I snf6, I snf7, I snf8, .slice Asng sng.length csng, I snh]) rfl M) ?_
  clear K M; rintro _ a w ⟨g_s, rfl, M⟩ K
  refine X_a K (ac_box rfl K rfl (cs := [I p_W, I p_H, .slice A_p_P p_P.length c_p_P]) rfl M) ?_
  clear K M; rintro _ a w ⟨g_p, rfl, M⟩ K
  refine X_a K (ac_box rfl K rfl (cs := [I q_W, I q_H, .slice A_q_P q_P.length c_q_P]) rfl M) ?_
  clear K M; rintro _ a w ⟨g_q, rfl, M⟩ K
  refine X_a K (ac_alloc rfl z45 M) ?_
  clear K M; rintro _ a w ⟨g_x, rfl, M⟩ K
  refine X_a K (ac_alloc rfl z24 M) ?_
  clear K M; rintro _ a w ⟨g_x2, rfl, M⟩ K
  refine X_o K M ?_; clear K; intro a K
  refine wpList_nil (then_n (wp_seq (X_reg ?_)))
  refine X_r K (rd_ldA rfl ty45 K rfl (inM 3 rfl) rfl rfl) M ?_; clear K
  refine Y_r (fun _ K => rd_field rfl fld74_0 K rfl) M ?_
  refine Y_r (fun _ K => rd_field rfl fld42_1 K rfl) M ?_
  refine Y_r (fun _ K => rd_ldA rfl ty36 K rfl (inM 4 rfl) rfl rfl) M ?_
  refine Y_r (fun _ K => rd_field rfl fld74_0 K rfl) M ?_
  refine Y_r (fun _ K => rd_field rfl fld42_2 K rfl) M ?_
  refine Y_r (fun _ K => rd_ldC rfl sc3 K rfl (inM 4 rfl) rfl) M ?_; intro a K
  obtain ⟨r2, h_r2, h⟩ := obind h
  refine X_a K (ac_call (vs := [.agg #[I p_W, I p_H, .slice A_p_P p_P.length c_p_P], .agg #[I snb0, I snb1, I snb2, I snb3], I snc]) (cap := []) rfl fok97 K rfl rfl (W_sensor_Level N p_W p_H p_P A_p_P c_p_P snb0 snb1 snb2 snb3 snc _ ((inA R_p_P) _ M) C_p_P r2 h_r2)) ?_
  have M0 := M; clear K M; rintro _ a w ⟨A, c, rfl, M⟩ K
  replace M := M0.call M; clear M0
  refine X_o K M ?_; clear K
  iterate 2 (refine Y_o M ?_)
  intro a K
  refine X_b K (ac_storeA rfl ty45 K rfl (ds := [I r2.1, I r2.2.1, .slice A r2.2.2.1.length c]) rfl rfl 4 M rfl rfl rfl) ?_
  clear K M; rintro _ a w M K
  refine X_o K M ?_; clear K; intro a K
  refine wpList_nil (then_n (wp_seq ?_))
  refine wp_region_tl (fun w => Mem _ _ w _) [0,0,0,1,1,0] (by kernel_rfl) (by kernel_rfl) (M.pick [0,3,4,5] (by decide)).drew ?_
  replace M := M.drew
  refine T_r K (rd_ldA rfl ty45 K rfl (inM 2 rfl) rfl rfl) ?_; clear K
  refine U_r (fun _ K => rd_ldA rfl ty24 K rfl (inM 1 rfl) rfl rfl) ?_
  refine U_o ?_; intro a K
  refine T_a0 K (want_no rfl) rfl (ac_storeA rfl ty45 K rfl (ds := [I r2.1, I r2.2.1, .slice A r2.2.2.1.length c]) rfl rfl 2 M rfl rfl rfl) ?_
  clear K M; rintro _ a w M K
  refine ⟨M.pick [0,3,4,5] (by decide), ?_⟩
  refine T_a0 K (want_no rfl) rfl (ac_storeA rfl ty24 K rfl (ds := [I q_W, I q_H, .slice A_q_P q_P.length c_q_P]) rfl rfl 1 M rfl rfl rfl) ?_
  clear K M; rintro _ a w M K
  refine ⟨M.pick [0,3,4,5] (by decide), ?_⟩
  refine T_o K ?_; clear K; intro a K
  refine T_end ?_
  refine then_n (wp_ret ?_)
  cases h
  exact ret3 K rfl (res_cellA K rfl ty45 (M.blkAt (i := 2) rfl) rfl) (res_cellA K rfl ty24 (M.blkAt (i := 1) rfl) rfl) (res_tmp K rfl) ⟨_, rfl, _, _, rfl, rfl, ((M).pick [0] (by decide))⟩
set_option maxRecDepth 100000 in
set_option maxHeartbeats 4000000 in
theorem W_line_repair_work (N : Nat) (sna : Int) (snb0 : Int) (snb1 : Int) (snb2 : Int) (snb3 : Int) (snc : Int) (snd : List (Int × Int)) (Asnd : Option Addr) (csnd : Nat) (sne0 : Int) (sne1 : Int) (sne2 : Int) (snf0 : Int) (snf1 : Int) (snf2 : Int) (snf3 : Int) (snf4 : Int) (snf5 : Int) (snf6 : Int) (snf7 : Int) (snf8 : Int) (sng : List (Int × Int)) (Asng : Option Addr) (csng : Nat) (snh : Int) (p_W : Int) (p_H : Int) (p_P : List Int) (A_p_P : Option Addr) (c_p_P : Nat) (q_W : Int) (q_H : Int) (q_P : List (Int × Int × Int)) (A_q_P : Option Addr) (c_q_P : Nat) (w0 : World) (Rsnd : SL w0 cII Asnd snd) (Csnd : snd.length ≤ csnd) (Rsng : SL w0 cII Asng sng) (Csng : sng.length ≤ csng) (R_p_P : SL w0 (cI .i64) A_p_P p_P) (C_p_P : p_P.length ≤ c_p_P) (R_q_P : SL w0 cIII A_q_P q_P) (C_q_P : q_P.length ≤ c_q_P) (r : Int × Int × List Int × Int × Int × List (Int × Int × Int) × Int) (h : D_line_repair_work N sna snb0 snb1 snb2 snb3 snc snd sne0 sne1 sne2 snf0 snf1 snf2 snf3 snf4 snf5 snf6 snf7 snf8 sng snh p_W p_H p_P q_W q_H q_P = some r) :
    Calls Try.prog 99 #[.agg #[I sna, I snb0, I snb1, I snb2, I snb3, I snc, .slice Asnd snd.length csnd, I sne0, I sne1, I sne2, I snf0, I snf1, I snf2, I snf3, I snf4, I snf5, I snf6, I snf7, I snf8, .slice Asng sng.length csng, I snh], .agg #[I p_W, I p_H, .slice A_p_P p_P.length c_p_P], .agg #[I q_W, I q_H, .slice A_q_P q_P.length c_q_P]] w0 fun e w' => ∃ v, e = .returned v ∧ ∃ A2 c2, v = .tuple #[.agg #[I r.1, I r.2.1, .slice A2 r.2.2.1.length c2], .agg #[I r.2.2.2.1, I r.2.2.2.2.1, .slice A_q_P q_P.length c_q_P], I r.2.2.2.2.2.2] ∧ r.2.2.2.2.2.1 = q_P ∧ Mem w0.heap.size w0 w' [.row 3 1 A2 r.2.2.1.length c2 ((cI .i64).all r.2.2.1)] := by
  refine X_enter Try.func99 rfl Try.ntmps99 rfl ?_
  intro a K
  have M := Mem.start w0
  have K : Kn a 21 [(0, .agg #[I sna, I snb0, I snb1, I snb2, I snb3, I snc, .slice Asnd snd.length csnd, I sne0, I sne1, I sne2, I snf0, I snf1, I snf2, I snf3, I snf4, I snf5, I snf6, I snf7, I snf8, .slice Asng sng.length csng, I snh]), (1, .agg #[I p_W, I p_H, .slice A_p_P p_P.length c_p_P]), (2, .agg #[I q_W, I q_H, .slice A_q_P q_P.length c_q_P])] := K
  unfold D_line_repair_work at h
  refine wp_seq (X_reg ?_)
  refine X_a K (ac_box rfl K rfl (cs := [I sna, I snb0, I snb1, I snb2, I snb3, I snc, .slice Asnd snd.length csnd, I sne0, I sne1, I sne2, I snf0, I snf1, I snf2, I snf3, I snf4, I snf5, I snf6, I snf7, I snf8, .slice Asng sng.length csng, I snh]) rfl M) ?_
  clear K M; rintro _ a w ⟨g_s, rfl, M⟩ K
  refine X_a K (ac_box rfl K rfl (cs := [I p_W, I p_H, .slice A_p_P p_P.length c_p_P]) rfl M) ?_
  clear K M; rintro _ a w ⟨g_p, rfl, M⟩ K
  refine X_a K (ac_box rfl K rfl (cs := [I q_W, I q_H, .slice A_q_P q_P.length c_q_P]) rfl M) ?_
  clear K M; rintro _ a w ⟨g_q, rfl, M⟩ K
  refine X_a K (ac_alloc rfl z45 M) ?_
  clear K M; rintro _ a w ⟨g_x, rfl, M⟩ K
  refine X_a K (ac_alloc rfl z24 M) ?_
  clear K M; rintro _ a w ⟨g_x2, rfl, M⟩ K
  refine X_o K M ?_; clear K; intro a K
  refine wpList_nil (then_n (wp_seq (X_reg ?_)))
  refine X_r K (rd_ldA rfl ty45 K rfl (inM 3 rfl) rfl rfl) M ?_; clear K
  refine Y_r (fun _ K => rd_field rfl fld75_0 K rfl) M ?_
  refine Y_r (fun _ K => rd_field rfl fld42_3 K rfl) M ?_
  refine Y_r (fun _ K => rd_ldC rfl sc37 K rfl (inM 4 rfl) rfl) M ?_; intro a K
  obtain ⟨r2, h_r2, h⟩ := obind h
  refine X_a K (ac_call (vs := [.agg #[I p_W, I p_H, .slice A_p_P p_P.length c_p_P], .slice Asnd snd.length csnd]) (cap := []) rfl fok53 K rfl rfl (W_sensor_Repair N p_W p_H p_P A_p_P c_p_P snd Asnd csnd _ ((inA R_p_P) _ M) C_p_P ((inA Rsnd) _ M) Csnd r2 h_r2)) ?_
  have M0 := M; clear K M; rintro _ a w ⟨A, c, rfl, M⟩ K
  replace M := M0.call M; clear M0
  refine X_o K M ?_; clear K
  iterate 2 (refine Y_o M ?_)
  intro a K
  refine X_b K (ac_storeA rfl ty45 K rfl (ds := [I r2.1, I r2.2.1, .slice A r2.2.2.1.length c]) rfl rfl 4 M rfl rfl rfl) ?_
  clear K M; rintro _ a w M K
  refine X_o K M ?_; clear K; intro a K
  refine wpList_nil (then_n (wp_seq ?_))
  refine wp_region_tl (fun w => Mem _ _ w _) [0,0,0,1,1,0] (by kernel_rfl) (by kernel_rfl) (M.pick [0,3,4,5] (by decide)).drew ?_
  replace M := M.drew
  refine T_r K (rd_ldA rfl ty45 K rfl (inM 2 rfl) rfl rfl) ?_; clear K
  refine U_r (fun _ K => rd_ldA rfl ty24 K rfl (inM 1 rfl) rfl rfl) ?_
  refine U_o ?_; intro a K
  refine T_a0 K (want_no rfl) rfl (ac_storeA rfl ty45 K rfl (ds := [I r2.1, I r2.2.1, .slice A r2.2.2.1.length c]) rfl rfl 2 M rfl rfl rfl) ?_
  clear K M; rintro _ a w M K
  refine ⟨M.pick [0,3,4,5] (by decide), ?_⟩
  refine T_a0 K (want_no rfl) rfl (ac_storeA rfl ty24 K rfl (ds := [I q_W, I q_H, .slice A_q_P q_P.length c_q_P]) rfl rfl 1 M rfl rfl rfl) ?_
  clear K M; rintro _ a w M K
  refine ⟨M.pick [0,3,4,5] (by decide), ?_⟩
  refine T_o K ?_; clear K; intro a K
  refine T_end ?_
  refine then_n (wp_ret ?_)
  cases h
  exact ret3 K rfl (res_cellA K rfl ty45 (M.blkAt (i := 2) rfl) rfl) (res_cellA K rfl ty24 (M.blkAt (i := 1) rfl) rfl) (res_tmp K rfl) ⟨_, rfl, _, _, rfl, rfl, ((M).pick [0] (by decide))⟩
set_option maxRecDepth 100000 in
set_option maxHeartbeats 4000000 in
theorem W_line_gain_work (N : Nat) (sna : Int) (snb0 : Int) (snb1 : Int) (snb2 : Int) (snb3 : Int) (snc : Int) (snd : List (Int × Int)) (Asnd : Option Addr) (csnd : Nat) (sne0 : Int) (sne1 : Int) (sne2 : Int) (snf0 : Int) (snf1 : Int) (snf2 : Int) (snf3 : Int) (snf4 : Int) (snf5 : Int) (snf6 : Int) (snf7 : Int) (snf8 : Int) (sng : List (Int × Int)) (Asng : Option Addr) (csng : Nat) (snh : Int) (p_W : Int) (p_H : Int) (p_P : List Int) (A_p_P : Option Addr) (c_p_P : Nat) (q_W : Int) (q_H : Int) (q_P : List (Int × Int × Int)) (A_q_P : Option Addr) (c_q_P : Nat) (w0 : World) (Rsnd : SL w0 cII Asnd snd) (Csnd : snd.length ≤ csnd) (Rsng : SL w0 cII Asng sng) (Csng : sng.length ≤ csng) (R_p_P : SL w0 (cI .i64) A_p_P p_P) (C_p_P : p_P.length ≤ c_p_P) (R_q_P : SL w0 cIII A_q_P q_P) (C_q_P : q_P.length ≤ c_q_P) (r : Int × Int × List Int × Int × Int × List (Int × Int × Int) × Int) (h : D_line_gain_work N sna snb0 snb1 snb2 snb3 snc snd sne0 sne1 sne2 snf0 snf1 snf2 snf3 snf4 snf5 snf6 snf7 snf8 sng snh p_W p_H p_P q_W q_H q_P = some r) :
    Calls Try.prog 100 #[.agg #[I sna, I snb0, I snb1, I snb2, I snb3, I snc, .slice Asnd snd.length csnd, I sne0, I sne1, I sne2, I snf0, I snf1, I snf2, I snf3, I snf4, I snf5, I snf6, I snf7, I snf8, .slice Asng sng.length csng, I snh], .agg #[I p_W, I p_H, .slice A_p_P p_P.length c_p_P], .agg #[I q_W, I q_H, .slice A_q_P q_P.length c_q_P]] w0 fun e w' => ∃ v, e = .returned v ∧ ∃ A2 c2, v = .tuple #[.agg #[I r.1, I r.2.1, .slice A2 r.2.2.1.length c2], .agg #[I r.2.2.2.1, I r.2.2.2.2.1, .slice A_q_P q_P.length c_q_P], I r.2.2.2.2.2.2] ∧ r.2.2.2.2.2.1 = q_P ∧ Mem w0.heap.size w0 w' [.row 3 1 A2 r.2.2.1.length c2 ((cI .i64).all r.2.2.1)] := by
  refine X_enter Try.func100 rfl Try.ntmps100 rfl ?_
  intro a K
  have M := Mem.start w0
  have K : Kn a 24 [(0, .agg #[I sna, I snb0, I snb1, I snb2, I snb3, I snc, .slice Asnd snd.length csnd, I sne0, I sne1, I sne2, I snf0, I snf1, I snf2, I snf3, I snf4, I snf5, I snf6, I snf7, I snf8, .slice Asng sng.length csng, I snh]), (1, .agg #[I p_W, I p_H, .slice A_p_P p_P.length c_p_P]), (2, .agg #[I q_W, I q_H, .slice A_q_P q_P.length c_q_P])] := K
  unfold D_line_gain_work at h
  refine wp_seq (X_reg ?_)
  refine X_a K (ac_box rfl K rfl (cs := [I sna, I snb0, I snb1, I snb2, I snb3, I snc, .slice Asnd snd.length csnd, I sne0, I sne1, I sne2, I snf0, I snf1, I snf2, I snf3, I snf4, I snf5, I snf6, I snf7, I snf8, .slice Asng sng.length csng, I snh]) rfl M) ?_
  clear K M; rintro _ a w ⟨g_s, rfl, M⟩ K
  refine X_a K (ac_box rfl K rfl (cs := [I p_W, I p_H, .slice A_p_P p_P.length c_p_P]) rfl M) ?_
  clear K M; rintro _ a w ⟨g_p, rfl, M⟩ K
  refine X_a K (ac_box rfl K rfl (cs := [I q_W, I q_H, .slice A_q_P q_P.length c_q_P]) rfl M) ?_
  clear K M; rintro _ a w ⟨g_q, rfl, M⟩ K
  refine X_a K (ac_alloc rfl z45 M) ?_
  clear K M; rintro _ a w ⟨g_x, rfl, M⟩ K
  refine X_a K (ac_alloc rfl z24 M) ?_
  clear K M; rintro _ a w ⟨g_x2, rfl, M⟩ K
  refine X_o K M ?_; clear K; intro a K
  refine wpList_nil (then_n (wp_seq (X_reg ?_)))
  refine X_r K (rd_ldA rfl ty45 K rfl (inM 3 rfl) rfl rfl) M ?_; clear K
  refine Y_r (fun _ K => rd_field rfl fld76_0 K rfl) M ?_
  refine Y_r (fun _ K => rd_field rfl fld42_0 K rfl) M ?_
  refine Y_r (fun _ K => rd_ldC rfl sc3 K rfl (inM 4 rfl) rfl) M ?_
  refine Y_r (fun _ K => rd_field rfl fld76_0 K rfl) M ?_
  refine Y_r (fun _ K => rd_field rfl fld42_4 K rfl) M ?_
  refine Y_r (fun _ K => rd_ldA rfl ty38 K rfl (inM 4 rfl) rfl rfl) M ?_; intro a K
  obtain ⟨r2, h_r2, h⟩ := obind h
  refine X_a K (ac_call (vs := [.agg #[I p_W, I p_H, .slice A_p_P p_P.length c_p_P], I sna, .agg #[I sne0, I sne1, I sne2]]) (cap := []) rfl fok101 K rfl rfl (W_sensor_Gain N p_W p_H p_P A_p_P c_p_P sna sne0 sne1 sne2 _ ((inA R_p_P) _ M) C_p_P r2 h_r2)) ?_
  have M0 := M; clear K M; rintro _ a w ⟨A, c, rfl, M⟩ K
  replace M := M0.call M; clear M0
  refine X_o K M ?_; clear K
  iterate 2 (refine Y_o M ?_)
  intro a K
  refine X_b K (ac_storeA rfl ty45 K rfl (ds := [I r2.1, I r2.2.1, .slice A r2.2.2.1.length c]) rfl rfl 4 M rfl rfl rfl) ?_
  clear K M; rintro _ a w M K
  refine X_o K M ?_; clear K; intro a K
  refine wpList_nil (then_n (wp_seq ?_))
  refine wp_region_tl (fun w => Mem _ _ w _) [0,0,0,1,1,0] (by kernel_rfl) (by kernel_rfl) (M.pick [0,3,4,5] (by decide)).drew ?_
  replace M := M.drew
  refine T_r K (rd_ldA rfl ty45 K rfl (inM 2 rfl) rfl rfl) ?_; clear K
  refine U_r (fun _ K => rd_ldA rfl ty24 K rfl (inM 1 rfl) rfl rfl) ?_
  refine U_o ?_; intro a K
  refine T_a0 K (want_no rfl) rfl (ac_storeA rfl ty45 K rfl (ds := [I r2.1, I r2.2.1, .slice A r2.2.2.1.length c]) rfl rfl 2 M rfl rfl rfl) ?_
  clear K M; rintro _ a w M K
  refine ⟨M.pick [0,3,4,5] (by decide), ?_⟩
  refine T_a0 K (want_no rfl) rfl (ac_storeA rfl ty24 K rfl (ds := [I q_W, I q_H, .slice A_q_P q_P.length c_q_P]) rfl rfl 1 M rfl rfl rfl) ?_
  clear K M; rintro _ a w M K
  refine ⟨M.pick [0,3,4,5] (by decide), ?_⟩
  refine T_o K ?_; clear K; intro a K
  refine T_end ?_
  refine then_n (wp_ret ?_)
  cases h
  exact ret3 K rfl (res_cellA K rfl ty45 (M.blkAt (i := 2) rfl) rfl) (res_cellA K rfl ty24 (M.blkAt (i := 1) rfl) rfl) (res_tmp K rfl) ⟨_, rfl, _, _, rfl, rfl, ((M).pick [0] (by decide))⟩
set_option maxRecDepth 100000 in
set_option maxHeartbeats 4000000 in
theorem W_line_fill_work (N : Nat) (sna : Int) (snb0 : Int) (snb1 : Int) (snb2 : Int) (snb3 : Int) (snc : Int) (snd : List (Int × Int)) (Asnd : Option Addr) (csnd : Nat) (sne0 : Int) (sne1 : Int) (sne2 : Int) (snf0 : Int) (snf1 : Int) (snf2 : Int) (snf3 : Int) (snf4 : Int) (snf5 : Int) (snf6 : Int) (snf7 : Int) (snf8 : Int) (sng : List (Int × Int)) (Asng : Option Addr) (csng : Nat) (snh : Int) (p_W : Int) (p_H : Int) (p_P : List Int) (A_p_P : Option Addr) (c_p_P : Nat) (q_W : Int) (q_H : Int) (q_P : List (Int × Int × Int)) (A_q_P : Option Addr) (c_q_P : Nat) (w0 : World) (Rsnd : SL w0 cII Asnd snd) (Csnd : snd.length ≤ csnd) (Rsng : SL w0 cII Asng sng) (Csng : sng.length ≤ csng) (R_p_P : SL w0 (cI .i64) A_p_P p_P) (C_p_P : p_P.length ≤ c_p_P) (R_q_P : SL w0 cIII A_q_P q_P) (C_q_P : q_P.length ≤ c_q_P) (r : Int × Int × List Int × Int × Int × List (Int × Int × Int) × Int) (h : D_line_fill_work N sna snb0 snb1 snb2 snb3 snc snd sne0 sne1 sne2 snf0 snf1 snf2 snf3 snf4 snf5 snf6 snf7 snf8 sng snh p_W p_H p_P q_W q_H q_P = some r) :
    Calls Try.prog 103 #[.agg #[I sna, I snb0, I snb1, I snb2, I snb3, I snc, .slice Asnd snd.length csnd, I sne0, I sne1, I sne2, I snf0, I snf1, I snf2, I snf3, I snf4, I snf5, I snf6, I snf7, I snf8, .slice Asng sng.length csng, I snh], .agg #[I p_W, I p_H, .slice A_p_P p_P.length c_p_P], .agg #[I q_W, I q_H, .slice A_q_P q_P.length c_q_P]] w0 fun e w' => ∃ v, e = .returned v ∧ ∃ A5 c5, v = .tuple #[.agg #[I r.1, I r.2.1, .slice A_p_P p_P.length c_p_P], .agg #[I r.2.2.2.1, I r.2.2.2.2.1, .slice A5 r.2.2.2.2.2.1.length c5], I r.2.2.2.2.2.2] ∧ r.2.2.1 = p_P ∧ Mem w0.heap.size w0 w' [.row 34 3 A5 r.2.2.2.2.2.1.length c5 (cIII.all r.2.2.2.2.2.1)] := by
  refine X_enter Try.func103 rfl Try.ntmps103 rfl ?_
  intro a K
  have M := Mem.start w0
  have K : Kn a 21 [(0, .agg #[I sna, I snb0, I snb1, I snb2, I snb3, I snc, .slice Asnd snd.length csnd, I sne0, I sne1, I sne2, I snf0, I snf1, I snf2, I snf3, I snf4, I snf5, I snf6, I snf7, I snf8, .slice Asng sng.length csng, I snh]), (1, .agg #[I p_W, I p_H, .slice A_p_P p_P.length c_p_P]), (2, .agg #[I q_W, I q_H, .slice A_q_P q_P.length c_q_P])] := K
  unfold D_line_fill_work at h
  refine wp_seq (X_reg ?_)
  refine X_a K (ac_box rfl K rfl (cs := [I sna, I snb0, I snb1, I snb2, I snb3, I snc, .slice Asnd snd.length csnd, I sne0, I sne1, I sne2, I snf0, I snf1, I snf2, I snf3, I snf4, I snf5, I snf6, I snf7, I snf8, .slice Asng sng.length csng, I snh]) rfl M) ?_
  clear K M; rintro _ a w ⟨g_s, rfl, M⟩ K
  refine X_a K (ac_box rfl K rfl (cs := [I p_W, I p_H, .slice A_p_P p_P.length c_p_P]) rfl M) ?_
  clear K M; rintro _ a w ⟨g_p, rfl, M⟩ K
  refine X_a K (ac_box rfl K rfl (cs := [I q_W, I q_H, .slice A_q_P q_P.length c_q_P]) rfl M) ?_
  clear K M; rintro _ a w ⟨g_q, rfl, M⟩ K
  refine X_a K (ac_alloc rfl z45 M) ?_
  clear K M; rintro _ a w ⟨g_x, rfl, M⟩ K
  refine X_a K (ac_alloc rfl z24 M) ?_
  clear K M; rintro _ a w ⟨g_x2, rfl, M⟩ K
  refine X_o K M ?_; clear K; intro a K
  refine wpList_nil (then_n (wp_seq (X_reg ?_)))
  refine X_r K (rd_ldA rfl ty45 K rfl (inM 3 rfl) rfl rfl) M ?_; clear K
  refine Y_r (fun _ K => rd_field rfl fld77_0 K rfl) M ?_
  refine Y_r (fun _ K => rd_field rfl fld42_0 K rfl) M ?_
  refine Y_r (fun _ K => rd_ldC rfl sc3 K rfl (inM 4 rfl) rfl) M ?_; intro a K
  obtain ⟨r2, h_r2, h⟩ := obind h
  refine X_a K (ac_call (vs := [.agg #[I p_W, I p_H, .slice A_p_P p_P.length c_p_P], I sna]) (cap := []) rfl fok104 K rfl rfl (W_mosaic_Fill N p_W p_H p_P A_p_P c_p_P sna _ ((inA R_p_P) _ M) C_p_P r2 h_r2)) ?_
  have M0 := M; clear K M; rintro _ a w ⟨A, c, rfl, M⟩ K
  replace M := M0.call M; clear M0
  refine X_o K M ?_; clear K
  iterate 2 (refine Y_o M ?_)
  intro a K
  refine X_b K (ac_storeA rfl ty24 K rfl (ds := [I r2.1, I r2.2.1, .slice A r2.2.2.1.length c]) rfl rfl 3 M rfl rfl rfl) ?_
  clear K M; rintro _ a w M K
  refine X_o K M ?_; clear K; intro a K
  refine wpList_nil (then_n (wp_seq ?_))
  refine wp_region_tl (fun w => Mem _ _ w _) [0,0,0,1,1,0] (by kernel_rfl) (by kernel_rfl) (M.pick [0,3,4,5] (by decide)).drew ?_
  replace M := M.drew
  refine T_r K (rd_ldA rfl ty45 K rfl (inM 2 rfl) rfl rfl) ?_; clear K
  refine U_r (fun _ K => rd_ldA rfl ty24 K rfl (inM 1 rfl) rfl rfl) ?_
  refine U_o ?_; intro a K
  refine T_a0 K (want_no rfl) rfl (ac_storeA rfl ty45 K rfl (ds := [I p_W, I p_H, .slice A_p_P p_P.length c_p_P]) rfl rfl 2 M rfl rfl rfl) ?_
  clear K M; rintro _ a w M K
  refine ⟨M.pick [0,3,4,5] (by decide), ?_⟩
  refine T_a0 K (want_no rfl) rfl (ac_storeA rfl ty24 K rfl (ds := [I r2.1, I r2.2.1, .slice A r2.2.2.1.length c]) rfl rfl 1 M rfl rfl rfl) ?_
  clear K M; rintro _ a w M K
  refine ⟨M.pick [0,3,4,5] (by decide), ?_⟩
  refine T_o K ?_; clear K; intro a K
  refine T_end ?_
  refine then_n (wp_ret ?_)
  cases h
  exact ret3 K rfl (res_cellA K rfl ty45 (M.blkAt (i := 2) rfl) rfl) (res_cellA K rfl ty24 (M.blkAt (i := 1) rfl) rfl) (res_tmp K rfl) ⟨_, rfl, _, _, rfl, rfl, ((M).pick [0] (by decide))⟩
set_option maxRecDepth 100000 in
set_option maxHeartbeats 4000000 in
theorem W_line_mix_work (N : Nat) (sna : Int) (snb0 : Int) (snb1 : Int) (snb2 : Int) (snb3 : Int) (snc : Int) (snd : List (Int × Int)) (Asnd : Option Addr) (csnd : Nat) (sne0 : Int) (sne1 : Int) (sne2 : Int) (snf0 : Int) (snf1 : Int) (snf2 : Int) (snf3 : Int) (snf4 : Int) (snf5 : Int) (snf6 : Int) (snf7 : Int) (snf8 : Int) (sng : List (Int × Int)) (Asng : Option Addr) (csng : Nat) (snh : Int) (p_W : Int) (p_H : Int) (p_P : List Int) (A_p_P : Option Addr) (c_p_P : Nat) (q_W : Int) (q_H : Int) (q_P : List (Int × Int × Int)) (A_q_P : Option Addr) (c_q_P : Nat) (w0 : World) (Rsnd : SL w0 cII Asnd snd) (Csnd : snd.length ≤ csnd) (Rsng : SL w0 cII Asng sng) (Csng : sng.length ≤ csng) (R_p_P : SL w0 (cI .i64) A_p_P p_P) (C_p_P : p_P.length ≤ c_p_P) (R_q_P : SL w0 cIII A_q_P q_P) (C_q_P : q_P.length ≤ c_q_P) (r : Int × Int × List Int × Int × Int × List (Int × Int × Int) × Int) (h : D_line_mix_work N sna snb0 snb1 snb2 snb3 snc snd sne0 sne1 sne2 snf0 snf1 snf2 snf3 snf4 snf5 snf6 snf7 snf8 sng snh p_W p_H p_P q_W q_H q_P = some r) :
    Calls Try.prog 108 #[.agg #[I sna, I snb0, I snb1, I snb2, I snb3, I snc, .slice Asnd snd.length csnd, I sne0, I sne1, I sne2, I snf0, I snf1, I snf2, I snf3, I snf4, I snf5, I snf6, I snf7, I snf8, .slice Asng sng.length csng, I snh], .agg #[I p_W, I p_H, .slice A_p_P p_P.length c_p_P], .agg #[I q_W, I q_H, .slice A_q_P q_P.length c_q_P]] w0 fun e w' => ∃ v, e = .returned v ∧ ∃ A5 c5, v = .tuple #[.agg #[I r.1, I r.2.1, .slice A_p_P p_P.length c_p_P], .agg #[I r.2.2.2.1, I r.2.2.2.2.1, .slice A5 r.2.2.2.2.2.1.length c5], I r.2.2.2.2.2.2] ∧ r.2.2.1 = p_P ∧ Mem w0.heap.size w0 w' [.row 34 3 A5 r.2.2.2.2.2.1.length c5 (cIII.all r.2.2.2.2.2.1)] := by
  refine X_enter Try.func108 rfl Try.ntmps108 rfl ?_
  intro a K
  have M := Mem.start w0
  have K : Kn a 21 [(0, .agg #[I sna, I snb0, I snb1, I snb2, I snb3, I snc, .slice Asnd snd.length csnd, I sne0, I sne1, I sne2, I snf0, I snf1, I snf2, I snf3, I snf4, I snf5, I snf6, I snf7, I snf8, .slice Asng sng.length csng, I snh]), (1, .agg #[I p_W, I p_H, .slice A_p_P p_P.length c_p_P]), (2, .agg #[I q_W, I q_H, .slice A_q_P q_P.length c_q_P])] := K
  unfold D_line_mix_work at h
  refine wp_seq (X_reg ?_)
  refine X_a K (ac_box rfl K rfl (cs := [I sna, I snb0, I snb1, I snb2, I snb3, I snc, .slice Asnd snd.length csnd, I sne0, I sne1, I sne2, I snf0, I snf1, I snf2, I snf3, I snf4, I snf5, I snf6, I snf7, I snf8, .slice Asng sng.length csng, I snh]) rfl M) ?_
  clear K M; rintro _ a w ⟨g_s, rfl, M⟩ K
  refine X_a K (ac_box rfl K rfl (cs := [I p_W, I p_H, .slice A_p_P p_P.length c_p_P]) rfl M) ?_
  clear K M; rintro _ a w ⟨g_p, rfl, M⟩ K
  refine X_a K (ac_box rfl K rfl (cs := [I q_W, I q_H, .slice A_q_P q_P.length c_q_P]) rfl M) ?_
  clear K M; rintro _ a w ⟨g_q, rfl, M⟩ K
  refine X_a K (ac_alloc rfl z45 M) ?_
  clear K M; rintro _ a w ⟨g_x, rfl, M⟩ K
  refine X_a K (ac_alloc rfl z24 M) ?_
  clear K M; rintro _ a w ⟨g_x2, rfl, M⟩ K
  refine X_o K M ?_; clear K; intro a K
  refine wpList_nil (then_n (wp_seq (X_reg ?_)))
  refine X_r K (rd_ldA rfl ty24 K rfl (inM 2 rfl) rfl rfl) M ?_; clear K
  refine Y_r (fun _ K => rd_field rfl fld78_0 K rfl) M ?_
  refine Y_r (fun _ K => rd_field rfl fld42_5 K rfl) M ?_
  refine Y_r (fun _ K => rd_ldA rfl ty39 K rfl (inM 4 rfl) rfl rfl) M ?_; intro a K
  obtain ⟨r2, h_r2, h⟩ := obind h
  refine X_a K (ac_call (vs := [.agg #[I q_W, I q_H, .slice A_q_P q_P.length c_q_P], .agg #[I snf0, I snf1, I snf2, I snf3, I snf4, I snf5, I snf6, I snf7, I snf8]]) (cap := []) rfl fok35 K rfl rfl (W_tone_Mix N q_W q_H q_P A_q_P c_q_P snf0 snf1 snf2 snf3 snf4 snf5 snf6 snf7 snf8 _ ((inA R_q_P) _ M) C_q_P r2 h_r2)) ?_
  have M0 := M; clear K M; rintro _ a w ⟨A, c, rfl, M⟩ K
  replace M := M0.call M; clear M0
  refine X_o K M ?_; clear K
  iterate 2 (refine Y_o M ?_)
  intro a K
  refine X_b K (ac_storeA rfl ty24 K rfl (ds := [I r2.1, I r2.2.1, .slice A r2.2.2.1.length c]) rfl rfl 3 M rfl rfl rfl) ?_
  clear K M; rintro _ a w M K
  refine X_o K M ?_; clear K; intro a K
  refine wpList_nil (then_n (wp_seq ?_))
  refine wp_region_tl (fun w => Mem _ _ w _) [0,0,0,1,1,0] (by kernel_rfl) (by kernel_rfl) (M.pick [0,3,4,5] (by decide)).drew ?_
  replace M := M.drew
  refine T_r K (rd_ldA rfl ty45 K rfl (inM 2 rfl) rfl rfl) ?_; clear K
  refine U_r (fun _ K => rd_ldA rfl ty24 K rfl (inM 1 rfl) rfl rfl) ?_
  refine U_o ?_; intro a K
  refine T_a0 K (want_no rfl) rfl (ac_storeA rfl ty45 K rfl (ds := [I p_W, I p_H, .slice A_p_P p_P.length c_p_P]) rfl rfl 2 M rfl rfl rfl) ?_
  clear K M; rintro _ a w M K
  refine ⟨M.pick [0,3,4,5] (by decide), ?_⟩
  refine T_a0 K (want_no rfl) rfl (ac_storeA rfl ty24 K rfl (ds := [I r2.1, I r2.2.1, .slice A r2.2.2.1.length c]) rfl rfl 1 M rfl rfl rfl) ?_
  clear K M; rintro _ a w M K
  refine ⟨M.pick [0,3,4,5] (by decide), ?_⟩
  refine T_o K ?_; clear K; intro a K
  refine T_end ?_
  refine then_n (wp_ret ?_)
  cases h
  exact ret3 K rfl (res_cellA K rfl ty45 (M.blkAt (i := 2) rfl) rfl) (res_cellA K rfl ty24 (M.blkAt (i := 1) rfl) rfl) (res_tmp K rfl) ⟨_, rfl, _, _, rfl, rfl, ((M).pick [0] (by decide))⟩
set_option maxRecDepth 100000 in
set_option maxHeartbeats 4000000 in
theorem W_line_bend_work (N : Nat) (sna : Int) (snb0 : Int) (snb1 : Int) (snb2 : Int) (snb3 : Int) (snc : Int) (snd : List (Int × Int)) (Asnd : Option Addr) (csnd : Nat) (sne0 : Int) (sne1 : Int) (sne2 : Int) (snf0 : Int) (snf1 : Int) (snf2 : Int) (snf3 : Int) (snf4 : Int) (snf5 : Int) (snf6 : Int) (snf7 : Int) (snf8 : Int) (sng : List (Int × Int)) (Asng : Option Addr) (csng : Nat) (snh : Int) (p_W : Int) (p_H : Int) (p_P : List Int) (A_p_P : Option Addr) (c_p_P : Nat) (q_W : Int) (q_H : Int) (q_P : List (Int × Int × Int)) (A_q_P : Option Addr) (c_q_P : Nat) (w0 : World) (Rsnd : SL w0 cII Asnd snd) (Csnd : snd.length ≤ csnd) (Rsng : SL w0 cII Asng sng) (Csng : sng.length ≤ csng) (R_p_P : SL w0 (cI .i64) A_p_P p_P) (C_p_P : p_P.length ≤ c_p_P) (R_q_P : SL w0 cIII A_q_P q_P) (C_q_P : q_P.length ≤ c_q_P) (r : Int × Int × List Int × Int × Int × List (Int × Int × Int) × Int) (h : D_line_bend_work N sna snb0 snb1 snb2 snb3 snc snd sne0 sne1 sne2 snf0 snf1 snf2 snf3 snf4 snf5 snf6 snf7 snf8 sng snh p_W p_H p_P q_W q_H q_P = some r) :
    Calls Try.prog 109 #[.agg #[I sna, I snb0, I snb1, I snb2, I snb3, I snc, .slice Asnd snd.length csnd, I sne0, I sne1, I sne2, I snf0, I snf1, I snf2, I snf3, I snf4, I snf5, I snf6, I snf7, I snf8, .slice Asng sng.length csng, I snh], .agg #[I p_W, I p_H, .slice A_p_P p_P.length c_p_P], .agg #[I q_W, I q_H, .slice A_q_P q_P.length c_q_P]] w0 fun e w' => ∃ v, e = .returned v ∧ ∃ A5 c5, v = .tuple #[.agg #[I r.1, I r.2.1, .slice A_p_P p_P.length c_p_P], .agg #[I r.2.2.2.1, I r.2.2.2.2.1, .slice A5 r.2.2.2.2.2.1.length c5], I r.2.2.2.2.2.2] ∧ r.2.2.1 = p_P ∧ Mem w0.heap.size w0 w' [.row 34 3 A5 r.2.2.2.2.2.1.length c5 (cIII.all r.2.2.2.2.2.1)] := by
  refine X_enter Try.func109 rfl Try.ntmps109 rfl ?_
  intro a K
  have M := Mem.start w0
  have K : Kn a 21 [(0, .agg #[I sna, I snb0, I snb1, I snb2, I snb3, I snc, .slice Asnd snd.length csnd, I sne0, I sne1, I sne2, I snf0, I snf1, I snf2, I snf3, I snf4, I snf5, I snf6, I snf7, I snf8, .slice Asng sng.length csng, I snh]), (1, .agg #[I p_W, I p_H, .slice A_p_P p_P.length c_p_P]), (2, .agg #[I q_W, I q_H, .slice A_q_P q_P.length c_q_P])] := K
  unfold D_line_bend_work at h
  refine wp_seq (X_reg ?_)
  refine X_a K (ac_box rfl K rfl (cs := [I sna, I snb0, I snb1, I snb2, I snb3, I snc, .slice Asnd snd.length csnd, I sne0, I sne1, I sne2, I snf0, I snf1, I snf2, I snf3, I snf4, I snf5, I snf6, I snf7, I snf8, .slice Asng sng.length csng, I snh]) rfl M) ?_
  clear K M; rintro _ a w ⟨g_s, rfl, M⟩ K
  refine X_a K (ac_box rfl K rfl (cs := [I p_W, I p_H, .slice A_p_P p_P.length c_p_P]) rfl M) ?_
  clear K M; rintro _ a w ⟨g_p, rfl, M⟩ K
  refine X_a K (ac_box rfl K rfl (cs := [I q_W, I q_H, .slice A_q_P q_P.length c_q_P]) rfl M) ?_
  clear K M; rintro _ a w ⟨g_q, rfl, M⟩ K
  refine X_a K (ac_alloc rfl z45 M) ?_
  clear K M; rintro _ a w ⟨g_x, rfl, M⟩ K
  refine X_a K (ac_alloc rfl z24 M) ?_
  clear K M; rintro _ a w ⟨g_x2, rfl, M⟩ K
  refine X_o K M ?_; clear K; intro a K
  refine wpList_nil (then_n (wp_seq (X_reg ?_)))
  refine X_r K (rd_ldA rfl ty24 K rfl (inM 2 rfl) rfl rfl) M ?_; clear K
  refine Y_r (fun _ K => rd_field rfl fld79_0 K rfl) M ?_
  refine Y_r (fun _ K => rd_field rfl fld42_6 K rfl) M ?_
  refine Y_r (fun _ K => rd_ldC rfl sc40 K rfl (inM 4 rfl) rfl) M ?_; intro a K
  obtain ⟨r2, h_r2, h⟩ := obind h
  refine X_a K (ac_call (vs := [.agg #[I q_W, I q_H, .slice A_q_P q_P.length c_q_P], .slice Asng sng.length csng]) (cap := []) rfl fok37 K rfl rfl (W_tone_Bend N q_W q_H q_P A_q_P c_q_P sng Asng csng _ ((inA R_q_P) _ M) C_q_P ((inA Rsng) _ M) Csng r2 h_r2)) ?_
  have M0 := M; clear K M; rintro _ a w ⟨A, c, rfl, M⟩ K
  replace M := M0.call M; clear M0
  refine X_o K M ?_; clear K
  iterate 2 (refine Y_o M ?_)
  intro a K
  refine X_b K (ac_storeA rfl ty24 K rfl (ds := [I r2.1, I r2.2.1, .slice A r2.2.2.1.length c]) rfl rfl 3 M rfl rfl rfl) ?_
  clear K M; rintro _ a w M K
  refine X_o K M ?_; clear K; intro a K
  refine wpList_nil (then_n (wp_seq ?_))
  refine wp_region_tl (fun w => Mem _ _ w _) [0,0,0,1,1,0] (by kernel_rfl) (by kernel_rfl) (M.pick [0,3,4,5] (by decide)).drew ?_
  replace M := M.drew
  refine T_r K (rd_ldA rfl ty45 K rfl (inM 2 rfl) rfl rfl) ?_; clear K
  refine U_r (fun _ K => rd_ldA rfl ty24 K rfl (inM 1 rfl) rfl rfl) ?_
  refine U_o ?_; intro a K
  refine T_a0 K (want_no rfl) rfl (ac_storeA rfl ty45 K rfl (ds := [I p_W, I p_H, .slice A_p_P p_P.length c_p_P]) rfl rfl 2 M rfl rfl rfl) ?_
  clear K M; rintro _ a w M K
  refine ⟨M.pick [0,3,4,5] (by decide), ?_⟩
  refine T_a0 K (want_no rfl) rfl (ac_storeA rfl ty24 K rfl (ds := [I r2.1, I r2.2.1, .slice A r2.2.2.1.length c]) rfl rfl 1 M rfl rfl rfl) ?_
  clear K M; rintro _ a w M K
  refine ⟨M.pick [0,3,4,5] (by decide), ?_⟩
  refine T_o K ?_; clear K; intro a K
  refine T_end ?_
  refine then_n (wp_ret ?_)
  cases h
  exact ret3 K rfl (res_cellA K rfl ty45 (M.blkAt (i := 2) rfl) rfl) (res_cellA K rfl ty24 (M.blkAt (i := 1) rfl) rfl) (res_tmp K rfl) ⟨_, rfl, _, _, rfl, rfl, ((M).pick [0] (by decide))⟩
set_option maxRecDepth 100000 in
set_option maxHeartbeats 4000000 in
theorem W_line_sharpen_work (N : Nat) (sna : Int) (snb0 : Int) (snb1 : Int) (snb2 : Int) (snb3 : Int) (snc : Int) (snd : List (Int × Int)) (Asnd : Option Addr) (csnd : Nat) (sne0 : Int) (sne1 : Int) (sne2 : Int) (snf0 : Int) (snf1 : Int) (snf2 : Int) (snf3 : Int) (snf4 : Int) (snf5 : Int) (snf6 : Int) (snf7 : Int) (snf8 : Int) (sng : List (Int × Int)) (Asng : Option Addr) (csng : Nat) (snh : Int) (p_W : Int) (p_H : Int) (p_P : List Int) (A_p_P : Option Addr) (c_p_P : Nat) (q_W : Int) (q_H : Int) (q_P : List (Int × Int × Int)) (A_q_P : Option Addr) (c_q_P : Nat) (w0 : World) (Rsnd : SL w0 cII Asnd snd) (Csnd : snd.length ≤ csnd) (Rsng : SL w0 cII Asng sng) (Csng : sng.length ≤ csng) (R_p_P : SL w0 (cI .i64) A_p_P p_P) (C_p_P : p_P.length ≤ c_p_P) (R_q_P : SL w0 cIII A_q_P q_P) (C_q_P : q_P.length ≤ c_q_P) (r : Int × Int × List Int × Int × Int × List (Int × Int × Int) × Int) (h : D_line_sharpen_work N sna snb0 snb1 snb2 snb3 snc snd sne0 sne1 sne2 snf0 snf1 snf2 snf3 snf4 snf5 snf6 snf7 snf8 sng snh p_W p_H p_P q_W q_H q_P = some r) :
    Calls Try.prog 110 #[.agg #[I sna, I snb0, I snb1, I snb2, I snb3, I snc, .slice Asnd snd.length csnd, I sne0, I sne1, I sne2, I snf0, I snf1, I snf2, I snf3, I snf4, I snf5, I snf6, I snf7, I snf8, .slice Asng sng.length csng, I snh], .agg #[I p_W, I p_H, .slice A_p_P p_P.length c_p_P], .agg #[I q_W, I q_H, .slice A_q_P q_P.length c_q_P]] w0 fun e w' => ∃ v, e = .returned v ∧ ∃ A5 c5, v = .tuple #[.agg #[I r.1, I r.2.1, .slice A_p_P p_P.length c_p_P], .agg #[I r.2.2.2.1, I r.2.2.2.2.1, .slice A5 r.2.2.2.2.2.1.length c5], I r.2.2.2.2.2.2] ∧ r.2.2.1 = p_P ∧ Mem w0.heap.size w0 w' [.row 34 3 A5 r.2.2.2.2.2.1.length c5 (cIII.all r.2.2.2.2.2.1)] := by
  refine X_enter Try.func110 rfl Try.ntmps110 rfl ?_
  intro a K
  have M := Mem.start w0
  have K : Kn a 21 [(0, .agg #[I sna, I snb0, I snb1, I snb2, I snb3, I snc, .slice Asnd snd.length csnd, I sne0, I sne1, I sne2, I snf0, I snf1, I snf2, I snf3, I snf4, I snf5, I snf6, I snf7, I snf8, .slice Asng sng.length csng, I snh]), (1, .agg #[I p_W, I p_H, .slice A_p_P p_P.length c_p_P]), (2, .agg #[I q_W, I q_H, .slice A_q_P q_P.length c_q_P])] := K
  unfold D_line_sharpen_work at h
  refine wp_seq (X_reg ?_)
  refine X_a K (ac_box rfl K rfl (cs := [I sna, I snb0, I snb1, I snb2, I snb3, I snc, .slice Asnd snd.length csnd, I sne0, I sne1, I sne2, I snf0, I snf1, I snf2, I snf3, I snf4, I snf5, I snf6, I snf7, I snf8, .slice Asng sng.length csng, I snh]) rfl M) ?_
  clear K M; rintro _ a w ⟨g_s, rfl, M⟩ K
  refine X_a K (ac_box rfl K rfl (cs := [I p_W, I p_H, .slice A_p_P p_P.length c_p_P]) rfl M) ?_
  clear K M; rintro _ a w ⟨g_p, rfl, M⟩ K
  refine X_a K (ac_box rfl K rfl (cs := [I q_W, I q_H, .slice A_q_P q_P.length c_q_P]) rfl M) ?_
  clear K M; rintro _ a w ⟨g_q, rfl, M⟩ K
  refine X_a K (ac_alloc rfl z45 M) ?_
  clear K M; rintro _ a w ⟨g_x, rfl, M⟩ K
  refine X_a K (ac_alloc rfl z24 M) ?_
  clear K M; rintro _ a w ⟨g_x2, rfl, M⟩ K
  refine X_o K M ?_; clear K; intro a K
  refine wpList_nil (then_n (wp_seq (X_reg ?_)))
  refine X_r K (rd_ldA rfl ty24 K rfl (inM 2 rfl) rfl rfl) M ?_; clear K
  refine Y_r (fun _ K => rd_field rfl fld80_0 K rfl) M ?_
  refine Y_r (fun _ K => rd_field rfl fld42_7 K rfl) M ?_
  refine Y_r (fun _ K => rd_ldC rfl sc3 K rfl (inM 4 rfl) rfl) M ?_; intro a K
  obtain ⟨r2, h_r2, h⟩ := obind h
  refine X_a K (ac_call (vs := [.agg #[I q_W, I q_H, .slice A_q_P q_P.length c_q_P], I snh]) (cap := []) rfl fok10 K rfl rfl (W_tone_Sharpen N q_W q_H q_P A_q_P c_q_P snh _ ((inA R_q_P) _ M) C_q_P r2 h_r2)) ?_
  have M0 := M; clear K M; rintro _ a w ⟨A, c, rfl, M⟩ K
  replace M := M0.call M; clear M0
  refine X_o K M ?_; clear K
  iterate 2 (refine Y_o M ?_)
  intro a K
  refine X_b K (ac_storeA rfl ty24 K rfl (ds := [I r2.1, I r2.2.1, .slice A r2.2.2.1.length c]) rfl rfl 3 M rfl rfl rfl) ?_
  clear K M; rintro _ a w M K
  refine X_o K M ?_; clear K; intro a K
  refine wpList_nil (then_n (wp_seq ?_))
  refine wp_region_tl (fun w => Mem _ _ w _) [0,0,0,1,1,0] (by kernel_rfl) (by kernel_rfl) (M.pick [0,3,4,5] (by decide)).drew ?_
  replace M := M.drew
  refine T_r K (rd_ldA rfl ty45 K rfl (inM 2 rfl) rfl rfl) ?_; clear K
  refine U_r (fun _ K => rd_ldA rfl ty24 K rfl (inM 1 rfl) rfl rfl) ?_
  refine U_o ?_; intro a K
  refine T_a0 K (want_no rfl) rfl (ac_storeA rfl ty45 K rfl (ds := [I p_W, I p_H, .slice A_p_P p_P.length c_p_P]) rfl rfl 2 M rfl rfl rfl) ?_
  clear K M; rintro _ a w M K
  refine ⟨M.pick [0,3,4,5] (by decide), ?_⟩
  refine T_a0 K (want_no rfl) rfl (ac_storeA rfl ty24 K rfl (ds := [I r2.1, I r2.2.1, .slice A r2.2.2.1.length c]) rfl rfl 1 M rfl rfl rfl) ?_
  clear K M; rintro _ a w M K
  refine ⟨M.pick [0,3,4,5] (by decide), ?_⟩
  refine T_o K ?_; clear K; intro a K
  refine T_end ?_
  refine then_n (wp_ret ?_)
  cases h
  exact ret3 K rfl (res_cellA K rfl ty45 (M.blkAt (i := 2) rfl) rfl) (res_cellA K rfl ty24 (M.blkAt (i := 1) rfl) rfl) (res_tmp K rfl) ⟨_, rfl, _, _, rfl, rfl, ((M).pick [0] (by decide))⟩
set_option maxRecDepth 100000 in
set_option maxHeartbeats 4000000 in
theorem W_line_Whole (N : Nat) (na : Int) (nb0 : Int) (nb1 : Int) (nb2 : Int) (nb3 : Int) (nc : Int) (nd : List (Int × Int)) (And : Option Addr) (cnd : Nat) (ne0 : Int) (ne1 : Int) (ne2 : Int) (nf0 : Int) (nf1 : Int) (nf2 : Int) (nf3 : Int) (nf4 : Int) (nf5 : Int) (nf6 : Int) (nf7 : Int) (nf8 : Int) (ng : List (Int × Int)) (Ang : Option Addr) (cng : Nat) (nh : Int) (p_W : Int) (p_H : Int) (p_P : List Int) (A_p_P : Option Addr) (c_p_P : Nat) (w0 : World) (Rnd : SL w0 cII And nd) (Cnd : nd.length ≤ cnd) (Rng : SL w0 cII Ang ng) (Cng : ng.length ≤ cng) (R_p_P : SL w0 (cI .i64) A_p_P p_P) (C_p_P : p_P.length ≤ c_p_P) (r : Int × Int × List (Int × Int × Int) × Int) (h : D_line_Whole N na nb0 nb1 nb2 nb3 nc nd ne0 ne1 ne2 nf0 nf1 nf2 nf3 nf4 nf5 nf6 nf7 nf8 ng nh p_W p_H p_P = some r) :
    Calls Try.prog 15 #[.agg #[I na, I nb0, I nb1, I nb2, I nb3, I nc, .slice And nd.length cnd, I ne0, I ne1, I ne2, I nf0, I nf1, I nf2, I nf3, I nf4, I nf5, I nf6, I nf7, I nf8, .slice Ang ng.length cng, I nh], .agg #[I p_W, I p_H, .slice A_p_P p_P.length c_p_P]] w0 fun e w' => ∃ v, e = .returned v ∧ ∃ A2 c2, v = .tuple #[.agg #[I r.1, I r.2.1, .slice A2 r.2.2.1.length c2], I r.2.2.2] ∧ Mem w0.heap.size w0 w' [.row 34 3 A2 r.2.2.1.length c2 (cIII.all r.2.2.1)] := by
  refine X_enter Try.func15 rfl Try.ntmps15 rfl ?_
  intro a K
  have M := Mem.start w0
  have K : Kn a 58 [(0, .agg #[I na, I nb0, I nb1, I nb2, I nb3, I nc, .slice And nd.length cnd, I ne0, I ne1, I ne2, I nf0, I nf1, I nf2, I nf3, I nf4, I nf5, I nf6, I nf7, I nf8, .slice Ang ng.length cng, I nh]), (1, .agg #[I p_W, I p_H, .slice A_p_P p_P.length c_p_P])] := K
  unfold D_line_Whole at h
  refine wp_seq (X_reg ?_)
  refine X_a K (ac_box rfl K rfl (cs := [I na, I nb0, I nb1, I nb2, I nb3, I nc, .slice And nd.length cnd, I ne0, I ne1, I ne2, I nf0, I nf1, I nf2, I nf3, I nf4, I nf5, I nf6, I nf7, I nf8, .slice Ang ng.length cng, I nh]) rfl M) ?_
  clear K M; rintro _ a w ⟨g_n, rfl, M⟩ K
  refine X_a K (ac_box rfl K rfl (cs := [I p_W, I p_H, .slice A_p_P p_P.length c_p_P]) rfl M) ?_
  clear K M; rintro _ a w ⟨g_p, rfl, M⟩ K
  refine X_a K (ac_alloc rfl z24 M) ?_
  clear K M; rintro _ a w ⟨g_x, rfl, M⟩ K
  refine X_o K M ?_; clear K; intro a K
  refine wpList_nil (then_n (wp_seq (wp_seq (X_reg ?_))))
  refine X_r K (rd_ldA rfl ty42 K rfl (inM 2 rfl) rfl rfl) M ?_; clear K; intro a K
  obtain ⟨r2, h_r2, h⟩ := obind h
  refine X_a K (ac_call (vs := [.agg #[I na, I nb0, I nb1, I nb2, I nb3, I nc, .slice And nd.length cnd, I ne0, I ne1, I ne2, I nf0, I nf1, I nf2, I nf3, I nf4, I nf5, I nf6, I nf7, I nf8, .slice Ang ng.length cng, I nh]]) (cap := []) rfl fok19 K rfl rfl (W_line_Check N na nb0 nb1 nb2 nb3 nc nd And cnd ne0 ne1 ne2 nf0 nf1 nf2 nf3 nf4 nf5 nf6 nf7 nf8 ng Ang cng nh _ ((inA Rnd) _ M) Cnd ((inA Rng) _ M) Cng r2 h_r2)) ?_
  have M0 := M; clear K M; rintro _ a w ⟨rfl, M⟩ K
  replace M := M0.call M; clear M0
  refine X_o K M ?_; clear K; intro a K
  refine wpList_nil (then_n (wp_seq (X_reg ?_)))
  refine X_o K M ?_; clear K
  refine Y_o M ?_; intro a K
  refine wpList_nil (then_n ?_)
  refine X_cond K rfl (fun hb => ?_) (fun hb => ?_)
  · have h := ctrue hb h
    refine wp_seq (X_reg ?_)
    refine X_r K (rd_build rfl K (vs := []) (cs := [I 0, I 0, .slice none (([] : List (Int × Int × Int))).length 0]) rfl (by kernel_rfl)) M ?_; clear K
    refine Y_o M ?_; intro a K
    refine X_b K (ac_storeA rfl ty24 K rfl (ds := [I 0, I 0, .slice none (([] : List (Int × Int × Int))).length 0]) rfl rfl 0 M rfl rfl rfl) ?_
    clear K M; rintro _ a w M K
    refine X_o K M ?_; clear K; intro a K
    refine wpList_nil (then_n (wp_ret (then_r ?_)))
    cases h
    exact ret2 K rfl (res_cellA K rfl ty24 (M.blkAt (i := 0) rfl) rfl) (res_tmp K rfl) ⟨_, rfl, _, _, rfl, (((Mem.nilrow 34 3 cIII M)).pick [0] (by decide))⟩
  have h := cfalse hb h
  refine wp_skip (then_n (wp_seq (X_reg ?_)))
  refine X_a K (ac_alloc rfl z24 M) ?_
  clear K M; rintro _ a w ⟨g_q, rfl, M⟩ K
  refine wpList_nil (then_n (wp_seq (X_reg ?_)))
  refine X_o K M ?_; clear K; intro a K
  refine wpList_nil (then_n (wp_seq (wp_seq (X_reg ?_))))
  refine X_r K (rd_ldA rfl ty42 K rfl (inM 3 rfl) rfl rfl) M ?_; clear K
  refine Y_r (fun _ K => rd_build rfl K (vs := [(0, .agg #[I na, I nb0, I nb1, I nb2, I nb3, I nc, .slice And nd.length cnd, I ne0, I ne1, I ne2, I nf0, I nf1, I nf2, I nf3, I nf4, I nf5, I nf6, I nf7, I nf8, .slice Ang ng.length cng, I nh])]) (cs := [I na, I nb0, I nb1, I nb2, I nb3, I nc, .slice And nd.length cnd, I ne0, I ne1, I ne2, I nf0, I nf1, I nf2, I nf3, I nf4, I nf5, I nf6, I nf7, I nf8, .slice Ang ng.length cng, I nh]) rfl (by kernel_rfl)) M ?_
  refine Y_r (fun _ K => rd_iface rfl cc74 K rfl) M ?_
  refine Y_r (fun _ K => rd_ldA rfl ty42 K rfl (inM 3 rfl) rfl rfl) M ?_
  refine Y_r (fun _ K => rd_build rfl K (vs := [(0, .agg #[I na, I nb0, I nb1, I nb2, I nb3, I nc, .slice And nd.length cnd, I ne0, I ne1, I ne2, I nf0, I nf1, I nf2, I nf3, I nf4, I nf5, I nf6, I nf7, I nf8, .slice Ang ng.length cng, I nh])]) (cs := [I na, I nb0, I nb1, I nb2, I nb3, I nc, .slice And nd.length cnd, I ne0, I ne1, I ne2, I nf0, I nf1, I nf2, I nf3, I nf4, I nf5, I nf6, I nf7, I nf8, .slice Ang ng.length cng, I nh]) rfl (by kernel_rfl)) M ?_
  refine Y_r (fun _ K => rd_iface rfl cc75 K rfl) M ?_
  refine Y_r (fun _ K => rd_ldA rfl ty42 K rfl (inM 3 rfl) rfl rfl) M ?_
  refine Y_r (fun _ K => rd_build rfl K (vs := [(0, .agg #[I na, I nb0, I nb1, I nb2, I nb3, I nc, .slice And nd.length cnd, I ne0, I ne1, I ne2, I nf0, I nf1, I nf2, I nf3, I nf4, I nf5, I nf6, I nf7, I nf8, .slice Ang ng.length cng, I nh])]) (cs := [I na, I nb0, I nb1, I nb2, I nb3, I nc, .slice And nd.length cnd, I ne0, I ne1, I ne2, I nf0, I nf1, I nf2, I nf3, I nf4, I nf5, I nf6, I nf7, I nf8, .slice Ang ng.length cng, I nh]) rfl (by kernel_rfl)) M ?_
  refine Y_r (fun _ K => rd_iface rfl cc76 K rfl) M ?_
  refine Y_r (fun _ K => rd_ldA rfl ty42 K rfl (inM 3 rfl) rfl rfl) M ?_
  refine Y_r (fun _ K => rd_build rfl K (vs := [(0, .agg #[I na, I nb0, I nb1, I nb2, I nb3, I nc, .slice And nd.length cnd, I ne0, I ne1, I ne2, I nf0, I nf1, I nf2, I nf3, I nf4, I nf5, I nf6, I nf7, I nf8, .slice Ang ng.length cng, I nh])]) (cs := [I na, I nb0, I nb1, I nb2, I nb3, I nc, .slice And nd.length cnd, I ne0, I ne1, I ne2, I nf0, I nf1, I nf2, I nf3, I nf4, I nf5, I nf6, I nf7, I nf8, .slice Ang ng.length cng, I nh]) rfl (by kernel_rfl)) M ?_
  refine Y_r (fun _ K => rd_iface rfl cc77 K rfl) M ?_
  refine Y_r (fun _ K => rd_ldA rfl ty42 K rfl (inM 3 rfl) rfl rfl) M ?_
  refine Y_r (fun _ K => rd_build rfl K (vs := [(0, .agg #[I na, I nb0, I nb1, I nb2, I nb3, I nc, .slice And nd.length cnd, I ne0, I ne1, I ne2, I nf0, I nf1, I nf2, I nf3, I nf4, I nf5, I nf6, I nf7, I nf8, .slice Ang ng.length cng, I nh])]) (cs := [I na, I nb0, I nb1, I nb2, I nb3, I nc, .slice And nd.length cnd, I ne0, I ne1, I ne2, I nf0, I nf1, I nf2, I nf3, I nf4, I nf5, I nf6, I nf7, I nf8, .slice Ang ng.length cng, I nh]) rfl (by kernel_rfl)) M ?_
  refine Y_r (fun _ K => rd_iface rfl cc78 K rfl) M ?_
  refine Y_r (fun _ K => rd_ldA rfl ty42 K rfl (inM 3 rfl) rfl rfl) M ?_
  refine Y_r (fun _ K => rd_build rfl K (vs := [(0, .agg #[I na, I nb0, I nb1, I nb2, I nb3, I nc, .slice And nd.length cnd, I ne0, I ne1, I ne2, I nf0, I nf1, I nf2, I nf3, I nf4, I nf5, I nf6, I nf7, I nf8, .slice Ang ng.length cng, I nh])]) (cs := [I na, I nb0, I nb1, I nb2, I nb3, I nc, .slice And nd.length cnd, I ne0, I ne1, I ne2, I nf0, I nf1, I nf2, I nf3, I nf4, I nf5, I nf6, I nf7, I nf8, .slice Ang ng.length cng, I nh]) rfl (by kernel_rfl)) M ?_
  refine Y_r (fun _ K => rd_iface rfl cc79 K rfl) M ?_
  refine Y_r (fun _ K => rd_ldA rfl ty42 K rfl (inM 3 rfl) rfl rfl) M ?_
  refine Y_r (fun _ K => rd_build rfl K (vs := [(0, .agg #[I na, I nb0, I nb1, I nb2, I nb3, I nc, .slice And nd.length cnd, I ne0, I ne1, I ne2, I nf0, I nf1, I nf2, I nf3, I nf4, I nf5, I nf6, I nf7, I nf8, .slice Ang ng.length cng, I nh])]) (cs := [I na, I nb0, I nb1, I nb2, I nb3, I nc, .slice And nd.length cnd, I ne0, I ne1, I ne2, I nf0, I nf1, I nf2, I nf3, I nf4, I nf5, I nf6, I nf7, I nf8, .slice Ang ng.length cng, I nh]) rfl (by kernel_rfl)) M ?_
  refine Y_r (fun _ K => rd_iface rfl cc80 K rfl) M ?_; intro a K
  refine X_a K (ac_bslice rfl sl81 z83 K (vs := [(0, .iface 74 (.agg #[I na, I nb0, I nb1, I nb2, I nb3, I nc, .slice And nd.length cnd, I ne0, I ne1, I ne2, I nf0, I nf1, I nf2, I nf3, I nf4, I nf5, I nf6, I nf7, I nf8, .slice Ang ng.length cng, I nh])), (1, .iface 75 (.agg #[I na, I nb0, I nb1, I nb2, I nb3, I nc, .slice And nd.length cnd, I ne0, I ne1, I ne2, I nf0, I nf1, I nf2, I nf3, I nf4, I nf5, I nf6, I nf7, I nf8, .slice Ang ng.length cng, I nh])), (2, .iface 76 (.agg #[I na, I nb0, I nb1, I nb2, I nb3, I nc, .slice And nd.length cnd, I ne0, I ne1, I ne2, I nf0, I nf1, I nf2, I nf3, I nf4, I nf5, I nf6, I nf7, I nf8, .slice Ang ng.length cng, I nh])), (3, .iface 77 (.agg #[I na, I nb0, I nb1, I nb2, I nb3, I nc, .slice And nd.length cnd, I ne0, I ne1, I ne2, I nf0, I nf1, I nf2, I nf3, I nf4, I nf5, I nf6, I nf7, I nf8, .slice Ang ng.length cng, I nh])), (4, .iface 78 (.agg #[I na, I nb0, I nb1, I nb2, I nb3, I nc, .slice And nd.length cnd, I ne0, I ne1, I ne2, I nf0, I nf1, I nf2, I nf3, I nf4, I nf5, I nf6, I nf7, I nf8, .slice Ang ng.length cng, I nh])), (5, .iface 79 (.agg #[I na, I nb0, I nb1, I nb2, I nb3, I nc, .slice And nd.length cnd, I ne0, I ne1, I ne2, I nf0, I nf1, I nf2, I nf3, I nf4, I nf5, I nf6, I nf7, I nf8, .slice Ang ng.length cng, I nh])), (6, .iface 80 (.agg #[I na, I nb0, I nb1, I nb2, I nb3, I nc, .slice And nd.length cnd, I ne0, I ne1, I ne2, I nf0, I nf1, I nf2, I nf3, I nf4, I nf5, I nf6, I nf7, I nf8, .slice Ang ng.length cng, I nh]))]) (cs := [.iface 74 (.agg #[I na, I nb0, I nb1, I nb2, I nb3, I nc, .slice And nd.length cnd, I ne0, I ne1, I ne2, I nf0, I nf1, I nf2, I nf3, I nf4, I nf5, I nf6, I nf7, I nf8, .slice Ang ng.length cng, I nh]), .iface 75 (.agg #[I na, I nb0, I nb1, I nb2, I nb3, I nc, .slice And nd.length cnd, I ne0, I ne1, I ne2, I nf0, I nf1, I nf2, I nf3, I nf4, I nf5, I nf6, I nf7, I nf8, .slice Ang ng.length cng, I nh]), .iface 76 (.agg #[I na, I nb0, I nb1, I nb2, I nb3, I nc, .slice And nd.length cnd, I ne0, I ne1, I ne2, I nf0, I nf1, I nf2, I nf3, I nf4, I nf5, I nf6, I nf7, I nf8, .slice Ang ng.length cng, I nh]), .iface 77 (.agg #[I na, I nb0, I nb1, I nb2, I nb3, I nc, .slice And nd.length cnd, I ne0, I ne1, I ne2, I nf0, I nf1, I nf2, I nf3, I nf4, I nf5, I nf6, I nf7, I nf8, .slice Ang ng.length cng, I nh]), .iface 78 (.agg #[I na, I nb0, I nb1, I nb2, I nb3, I nc, .slice And nd.length cnd, I ne0, I ne1, I ne2, I nf0, I nf1, I nf2, I nf3, I nf4, I nf5, I nf6, I nf7, I nf8, .slice Ang ng.length cng, I nh]), .iface 79 (.agg #[I na, I nb0, I nb1, I nb2, I nb3, I nc, .slice And nd.length cnd, I ne0, I ne1, I ne2, I nf0, I nf1, I nf2, I nf3, I nf4, I nf5, I nf6, I nf7, I nf8, .slice Ang ng.length cng, I nh]), .iface 80 (.agg #[I na, I nb0, I nb1, I nb2, I nb3, I nc, .slice And nd.length cnd, I ne0, I ne1, I ne2, I nf0, I nf1, I nf2, I nf3, I nf4, I nf5, I nf6, I nf7, I nf8, .slice Ang ng.length cng, I nh])]) rfl (by kernel_rfl) rfl rfl M) ?_
  clear K M; rintro _ a w ⟨gs, rfl, M⟩ K
  refine X_r K (rdv (v := I 7) (by rfl) (rd_len rfl un81 K rfl)) M ?_; clear K
  refine Y_o M ?_; intro a K
  refine wpList_nil (then_n (wp_block ?_))
  refine X_rounds 8 ?_
  refine X_round ?_
  refine wp_seq (X_reg ?_)
  refine X_r K (rdb (b' := true) (by decide) (rd_lss rfl K rfl rfl)) M ?_; clear K; intro a K
  refine wpList_nil (then_n (wp_seq ?_))
  refine X_condT K rfl ?_
  refine wp_skip (then_n (wp_seq (wp_block (wp_seq (X_reg ?_)))))
  refine X_r K (rd_ixG (j := 0) rfl sl81 K rfl rfl rfl) M ?_; clear K
  refine Y_r (fun _ K => rd_ldC rfl sc83 K rfl (inM 0 rfl) rfl) M ?_
  refine Y_o M ?_; intro a K
  refine wpList_nil (then_n (wp_seq (X_reg ?_)))
  refine X_o K M ?_; clear K
  refine Y_r (fun _ K => rd_ldA rfl ty45 K rfl (inM 3 rfl) rfl rfl) M ?_
  refine Y_r (fun _ K => rd_ldA rfl ty24 K rfl (inM 1 rfl) rfl rfl) M ?_; intro a K
  obtain ⟨r3, h_r3, h⟩ := obind h
  refine X_a K (ac_invoke (vs := [.agg #[I p_W, I p_H, .slice A_p_P p_P.length c_p_P], .agg #[I 0, I 0, .slice none (([] : List (Int × Int × Int))).length 0]]) rfl fok96 mt96 K rfl rfl (W_line_level_work N na nb0 nb1 nb2 nb3 nc nd And cnd ne0 ne1 ne2 nf0 nf1 nf2 nf3 nf4 nf5 nf6 nf7 nf8 ng Ang cng nh p_W p_H p_P A_p_P c_p_P 0 0 (([] : List (Int × Int × Int))) none 0 _ ((inA Rnd) _ M) Cnd ((inA Rng) _ M) Cng ((inA R_p_P) _ M) C_p_P ((fun _ _ => SL.nil) _ M) (Nat.le_refl _) r3 h_r3)) ?_
  have M0 := M; clear K M; rintro _ a w ⟨A, c, rfl, _, M⟩ K
  replace M := M0.call M; clear M0
  refine X_o K M ?_; clear K
  iterate 3 (refine Y_o M ?_)
  intro a K
  refine X_b K (ac_storeA rfl ty45 K rfl (ds := [I r3.1, I r3.2.1, .slice A r3.2.2.1.length c]) rfl rfl 4 M rfl rfl rfl) ?_
  clear K M; rintro _ a w M K
  refine X_b K (ac_storeA rfl ty24 K rfl (ds := [I r3.2.2.2.1, I r3.2.2.2.2.1, .slice none (([] : List (Int × Int × Int))).length 0]) rfl rfl 2 M rfl rfl rfl) ?_
  clear K M; rintro _ a w M K
  refine X_o K M ?_; clear K; intro a K
  refine wpList_nil (then_n (wp_seq (X_reg ?_)))
  refine X_o K M ?_; clear K
  refine Y_o M ?_; intro a K
  refine wpList_nil (then_n ?_)
  refine X_cond K rfl (fun hb => ?_) (fun hb => ?_)
  · have h := ctrue hb h
    refine wp_seq (X_reg ?_)
    refine X_r K (rd_build rfl K (vs := []) (cs := [I 0, I 0, .slice none (([] : List (Int × Int × Int))).length 0]) rfl (by kernel_rfl)) M ?_; clear K
    refine Y_o M ?_; intro a K
    refine X_b K (ac_storeA rfl ty24 K rfl (ds := [I 0, I 0, .slice none (([] : List (Int × Int × Int))).length 0]) rfl rfl 3 M rfl rfl rfl) ?_
    clear K M; rintro _ a w M K
    refine X_o K M ?_; clear K; intro a K
    refine wpList_nil (then_n (wp_ret (inb_r (then_r (then_r (inb_r (then_r ?_)))))))
    cases h
    exact ret2 K rfl (res_cellA K rfl ty24 (M.blkAt (i := 3) rfl) rfl) (res_tmp K rfl) ⟨_, rfl, _, _, rfl, (((Mem.nilrow 34 3 cIII M)).pick [0] (by decide))⟩
  have h := cfalse hb h
  refine wp_skip (inb_n (then_n (X_reg ?_)))
  refine X_r K (rdv (v := I 1) (by rfl) (rd_add rfl K rfl rfl)) M ?_; clear K
  refine Y_o M ?_; intro a K
  refine wpList_nil (then_n ?_)
  replace K : Kn a 58 [(3, .pointer (some ⟨g_p, 0, none⟩)), (4, .pointer (some ⟨g_x, 0, none⟩)), (7, .pointer (some ⟨g_q, 0, none⟩)), (38, .slice (some ⟨gs, 0, none⟩) 7 7), (39, I 7), (40, I 1)] := K.pick [3,4,7,38,39,40]
  replace M : Mem w0.heap.size w0 w [.row 3 1 A r3.2.2.1.length c ((cI .i64).all r3.2.2.1), .blk gs 83 [.iface 74 (.agg #[I na, I nb0, I nb1, I nb2, I nb3, I nc, .slice And nd.length cnd, I ne0, I ne1, I ne2, I nf0, I nf1, I nf2, I nf3, I nf4, I nf5, I nf6, I nf7, I nf8, .slice Ang ng.length cng, I nh]), .iface 75 (.agg #[I na, I nb0, I nb1, I nb2, I nb3, I nc, .slice And nd.length cnd, I ne0, I ne1, I ne2, I nf0, I nf1, I nf2, I nf3, I nf4, I nf5, I nf6, I nf7, I nf8, .slice Ang ng.length cng, I nh]), .iface 76 (.agg #[I na, I nb0, I nb1, I nb2, I nb3, I nc, .slice And nd.length cnd, I ne0, I ne1, I ne2, I nf0, I nf1, I nf2, I nf3, I nf4, I nf5, I nf6, I nf7, I nf8, .slice Ang ng.length cng, I nh]), .iface 77 (.agg #[I na, I nb0, I nb1, I nb2, I nb3, I nc, .slice And nd.length cnd, I ne0, I ne1, I ne2, I nf0, I nf1, I nf2, I nf3, I nf4, I nf5, I nf6, I nf7, I nf8, .slice Ang ng.length cng, I nh]), .iface 78 (.agg #[I na, I nb0, I nb1, I nb2, I nb3, I nc, .slice And nd.length cnd, I ne0, I ne1, I ne2, I nf0, I nf1, I nf2, I nf3, I nf4, I nf5, I nf6, I nf7, I nf8, .slice Ang ng.length cng, I nh]), .iface 79 (.agg #[I na, I nb0, I nb1, I nb2, I nb3, I nc, .slice And nd.length cnd, I ne0, I ne1, I ne2, I nf0, I nf1, I nf2, I nf3, I nf4, I nf5, I nf6, I nf7, I nf8, .slice Ang ng.length cng, I nh]), .iface 80 (.agg #[I na, I nb0, I nb1, I nb2, I nb3, I nc, .slice And nd.length cnd, I ne0, I ne1, I ne2, I nf0, I nf1, I nf2, I nf3, I nf4, I nf5, I nf6, I nf7, I nf8, .slice Ang ng.length cng, I nh])], .blk g_q 24 [I r3.2.2.2.1, I r3.2.2.2.2.1, .slice none (([] : List (Int × Int × Int))).length 0], .blk g_x 24 [I 0, I 0, .slice none (([] : List (Int × Int × Int))).length 0], .blk g_p 45 [I r3.1, I r3.2.1, .slice A r3.2.2.1.length c], .blk g_n 42 [I na, I nb0, I nb1, I nb2, I nb3, I nc, .slice And nd.length cnd, I ne0, I ne1, I ne2, I nf0, I nf1, I nf2, I nf3, I nf4, I nf5, I nf6, I nf7, I nf8, .slice Ang ng.length cng, I nh]] := M
  refine X_round ?_
  refine wp_seq (X_reg ?_)
  refine X_r K (rdb (b' := true) (by decide) (rd_lss rfl K rfl rfl)) M ?_; clear K; intro a K
  refine wpList_nil (then_n (wp_seq ?_))
  refine X_condT K rfl ?_
  refine wp_skip (then_n (wp_seq (wp_block (wp_seq (X_reg ?_)))))
  refine X_r K (rd_ixG (j := 1) rfl sl81 K rfl rfl rfl) M ?_; clear K
  refine Y_r (fun _ K => rd_ldC rfl sc83 K rfl (inM 1 rfl) rfl) M ?_
  refine Y_o M ?_; intro a K
  refine wpList_nil (then_n (wp_seq (X_reg ?_)))
  refine X_o K M ?_; clear K
  refine Y_r (fun _ K => rd_ldA rfl ty45 K rfl (inM 4 rfl) rfl rfl) M ?_
  refine Y_r (fun _ K => rd_ldA rfl ty24 K rfl (inM 2 rfl) rfl rfl) M ?_; intro a K
  obtain ⟨r4, h_r4, h⟩ := obind h
  refine X_a K (ac_invoke (vs := [.agg #[I r3.1, I r3.2.1, .slice A r3.2.2.1.length c], .agg #[I r3.2.2.2.1, I r3.2.2.2.2.1, .slice none (([] : List (Int × Int × Int))).length 0]]) rfl fok99 mt99 K rfl rfl (W_line_repair_work N na nb0 nb1 nb2 nb3 nc nd And cnd ne0 ne1 ne2 nf0 nf1 nf2 nf3 nf4 nf5 nf6 nf7 nf8 ng Ang cng nh r3.1 r3.2.1 r3.2.2.1 A c r3.2.2.2.1 r3.2.2.2.2.1 (([] : List (Int × Int × Int))) none 0 _ ((inA Rnd) _ M) Cnd ((inA Rng) _ M) Cng ((inR (C := (cI .i64)) 0 rfl rfl) _ M) (M.cap 0 rfl) ((fun _ _ => SL.nil) _ M) (Nat.le_refl _) r4 h_r4)) ?_
  have M0 := M; clear K M; rintro _ a w ⟨A2, c2, rfl, _, M⟩ K
  replace M := M0.call M; clear M0
  refine X_o K M ?_; clear K
  iterate 3 (refine Y_o M ?_)
  intro a K
  refine X_b K (ac_storeA rfl ty45 K rfl (ds := [I r4.1, I r4.2.1, .slice A2 r4.2.2.1.length c2]) rfl rfl 5 M rfl rfl rfl) ?_
  clear K M; rintro _ a w M K
  refine X_b K (ac_storeA rfl ty24 K rfl (ds := [I r4.2.2.2.1, I r4.2.2.2.2.1, .slice none (([] : List (Int × Int × Int))).length 0]) rfl rfl 3 M rfl rfl rfl) ?_
  clear K M; rintro _ a w M K
  refine X_o K M ?_; clear K; intro a K
  refine wpList_nil (then_n (wp_seq (X_reg ?_)))
  refine X_o K M ?_; clear K
  refine Y_o M ?_; intro a K
  refine wpList_nil (then_n ?_)
  refine X_cond K rfl (fun hb => ?_) (fun hb => ?_)
  · have h := ctrue hb h
    refine wp_seq (X_reg ?_)
    refine X_r K (rd_build rfl K (vs := []) (cs := [I 0, I 0, .slice none (([] : List (Int × Int × Int))).length 0]) rfl (by kernel_rfl)) M ?_; clear K
    refine Y_o M ?_; intro a K
    refine X_b K (ac_storeA rfl ty24 K rfl (ds := [I 0, I 0, .slice none (([] : List (Int × Int × Int))).length 0]) rfl rfl 4 M rfl rfl rfl) ?_
    clear K M; rintro _ a w M K
    refine X_o K M ?_; clear K; intro a K
    refine wpList_nil (then_n (wp_ret (inb_r (then_r (then_r (inb_r (then_r ?_)))))))
    cases h
    exact ret2 K rfl (res_cellA K rfl ty24 (M.blkAt (i := 4) rfl) rfl) (res_tmp K rfl) ⟨_, rfl, _, _, rfl, (((Mem.nilrow 34 3 cIII M)).pick [0] (by decide))⟩
  have h := cfalse hb h
  refine wp_skip (inb_n (then_n (X_reg ?_)))
  refine X_r K (rdv (v := I 2) (by rfl) (rd_add rfl K rfl rfl)) M ?_; clear K
  refine Y_o M ?_; intro a K
  refine wpList_nil (then_n ?_)
  replace K : Kn a 58 [(3, .pointer (some ⟨g_p, 0, none⟩)), (4, .pointer (some ⟨g_x, 0, none⟩)), (7, .pointer (some ⟨g_q, 0, none⟩)), (38, .slice (some ⟨gs, 0, none⟩) 7 7), (39, I 7), (40, I 2)] := K.pick [3,4,7,38,39,40]
  replace M : Mem w0.heap.size w0 w [.row 3 1 A2 r4.2.2.1.length c2 ((cI .i64).all r4.2.2.1), .row 3 1 A r3.2.2.1.length c ((cI .i64).all r3.2.2.1), .blk gs 83 [.iface 74 (.agg #[I na, I nb0, I nb1, I nb2, I nb3, I nc, .slice And nd.length cnd, I ne0, I ne1, I ne2, I nf0, I nf1, I nf2, I nf3, I nf4, I nf5, I nf6, I nf7, I nf8, .slice Ang ng.length cng, I nh]), .iface 75 (.agg #[I na, I nb0, I nb1, I nb2, I nb3, I nc, .slice And nd.length cnd, I ne0, I ne1, I ne2, I nf0, I nf1, I nf2, I nf3, I nf4, I nf5, I nf6, I nf7, I nf8, .slice Ang ng.length cng, I nh]), .iface 76 (.agg #[I na, I nb0, I nb1, I nb2, I nb3, I nc, .slice And nd.length cnd, I ne0, I ne1, I ne2, I nf0, I nf1, I nf2, I nf3, I nf4, I nf5, I nf6, I nf7, I nf8, .slice Ang ng.length cng, I nh]), .iface 77 (.agg #[I na, I nb0, I nb1, I nb2, I nb3, I nc, .slice And nd.length cnd, I ne0, I ne1, I ne2, I nf0, I nf1, I nf2, I nf3, I nf4, I nf5, I nf6, I nf7, I nf8, .slice Ang ng.length cng, I nh]), .iface 78 (.agg #[I na, I nb0, I nb1, I nb2, I nb3, I nc, .slice And nd.length cnd, I ne0, I ne1, I ne2, I nf0, I nf1, I nf2, I nf3, I nf4, I nf5, I nf6, I nf7, I nf8, .slice Ang ng.length cng, I nh]), .iface 79 (.agg #[I na, I nb0, I nb1, I nb2, I nb3, I nc, .slice And nd.length cnd, I ne0, I ne1, I ne2, I nf0, I nf1, I nf2, I nf3, I nf4, I nf5, I nf6, I nf7, I nf8, .slice Ang ng.length cng, I nh]), .iface 80 (.agg #[I na, I nb0, I nb1, I nb2, I nb3, I nc, .slice And nd.length cnd, I ne0, I ne1, I ne2, I nf0, I nf1, I nf2, I nf3, I nf4, I nf5, I nf6, I nf7, I nf8, .slice Ang ng.length cng, I nh])], .blk g_q 24 [I r4.2.2.2.1, I r4.2.2.2.2.1, .slice none (([] : List (Int × Int × Int))).length 0], .blk g_x 24 [I 0, I 0, .slice none (([] : List (Int × Int × Int))).length 0], .blk g_p 45 [I r4.1, I r4.2.1, .slice A2 r4.2.2.1.length c2], .blk g_n 42 [I na, I nb0, I nb1, I nb2, I nb3, I nc, .slice And nd.length cnd, I ne0, I ne1, I ne2, I nf0, I nf1, I nf2, I nf3, I nf4, I nf5, I nf6, I nf7, I nf8, .slice Ang ng.length cng, I nh]] := M
  refine X_round ?_
  refine wp_seq (X_reg ?_)
  refine X_r K (rdb (b' := true) (by decide) (rd_lss rfl K rfl rfl)) M ?_; clear K; intro a K
  refine wpList_nil (then_n (wp_seq ?_))
  refine X_condT K rfl ?_
  refine wp_skip (then_n (wp_seq (wp_block (wp_seq (X_reg ?_)))))
  refine X_r K (rd_ixG (j := 2) rfl sl81 K rfl rfl rfl) M ?_; clear K
  refine Y_r (fun _ K => rd_ldC rfl sc83 K rfl (inM 2 rfl) rfl) M ?_
  refine Y_o M ?_; intro a K
  refine wpList_nil (then_n (wp_seq (X_reg ?_)))
  refine X_o K M ?_; clear K
  refine Y_r (fun _ K => rd_ldA rfl ty45 K rfl (inM 5 rfl) rfl rfl) M ?_
  refine Y_r (fun _ K => rd_ldA rfl ty24 K rfl (inM 3 rfl) rfl rfl) M ?_; intro a K
  obtain ⟨r5, h_r5, h⟩ := obind h
  refine X_a K (ac_invoke (vs := [.agg #[I r4.1, I r4.2.1, .slice A2 r4.2.2.1.length c2], .agg #[I r4.2.2.2.1, I r4.2.2.2.2.1, .slice none (([] : List (Int × Int × Int))).length 0]]) rfl fok100 mt100 K rfl rfl (W_line_gain_work N na nb0 nb1 nb2 nb3 nc nd And cnd ne0 ne1 ne2 nf0 nf1 nf2 nf3 nf4 nf5 nf6 nf7 nf8 ng Ang cng nh r4.1 r4.2.1 r4.2.2.1 A2 c2 r4.2.2.2.1 r4.2.2.2.2.1 (([] : List (Int × Int × Int))) none 0 _ ((inA Rnd) _ M) Cnd ((inA Rng) _ M) Cng ((inR (C := (cI .i64)) 0 rfl rfl) _ M) (M.cap 0 rfl) ((fun _ _ => SL.nil) _ M) (Nat.le_refl _) r5 h_r5)) ?_
  have M0 := M; clear K M; rintro _ a w ⟨A3, c3, rfl, _, M⟩ K
  replace M := M0.call M; clear M0
  refine X_o K M ?_; clear K
  iterate 3 (refine Y_o M ?_)
  intro a K
  refine X_b K (ac_storeA rfl ty45 K rfl (ds := [I r5.1, I r5.2.1, .slice A3 r5.2.2.1.length c3]) rfl rfl 6 M rfl rfl rfl) ?_
  clear K M; rintro _ a w M K
  refine X_b K (ac_storeA rfl ty24 K rfl (ds := [I r5.2.2.2.1, I r5.2.2.2.2.1, .slice none (([] : List (Int × Int × Int))).length 0]) rfl rfl 4 M rfl rfl rfl) ?_
  clear K M; rintro _ a w M K
  refine X_o K M ?_; clear K; intro a K
  refine wpList_nil (then_n (wp_seq (X_reg ?_)))
  refine X_o K M ?_; clear K
  refine Y_o M ?_; intro a K
  refine wpList_nil (then_n ?_)
  refine X_cond K rfl (fun hb => ?_) (fun hb => ?_)
  · have h := ctrue hb h
    refine wp_seq (X_reg ?_)
    refine X_r K (rd_build rfl K (vs := []) (cs := [I 0, I 0, .slice none (([] : List (Int × Int × Int))).length 0]) rfl (by kernel_rfl)) M ?_; clear K
    refine Y_o M ?_; intro a K
    refine X_b K (ac_storeA rfl ty24 K rfl (ds := [I 0, I 0, .slice none (([] : List (Int × Int × Int))).length 0]) rfl rfl 5 M rfl rfl rfl) ?_
    clear K M; rintro _ a w M K
    refine X_o K M ?_; clear K; intro a K
    refine wpList_nil (then_n (wp_ret (inb_r (then_r (then_r (inb_r (then_r ?_)))))))
    cases h
    exact ret2 K rfl (res_cellA K rfl ty24 (M.blkAt (i := 5) rfl) rfl) (res_tmp K rfl) ⟨_, rfl, _, _, rfl, (((Mem.nilrow 34 3 cIII M)).pick [0] (by decide))⟩
  have h := cfalse hb h
  refine wp_skip (inb_n (then_n (X_reg ?_)))
  refine X_r K (rdv (v := I 3) (by rfl) (rd_add rfl K rfl rfl)) M ?_; clear K
  refine Y_o M ?_; intro a K
  refine wpList_nil (then_n ?_)
  replace K : Kn a 58 [(3, .pointer (some ⟨g_p, 0, none⟩)), (4, .pointer (some ⟨g_x, 0, none⟩)), (7, .pointer (some ⟨g_q, 0, none⟩)), (38, .slice (some ⟨gs, 0, none⟩) 7 7), (39, I 7), (40, I 3)] := K.pick [3,4,7,38,39,40]
  replace M : Mem w0.heap.size w0 w [.row 3 1 A3 r5.2.2.1.length c3 ((cI .i64).all r5.2.2.1), .row 3 1 A2 r4.2.2.1.length c2 ((cI .i64).all r4.2.2.1), .row 3 1 A r3.2.2.1.length c ((cI .i64).all r3.2.2.1), .blk gs 83 [.iface 74 (.agg #[I na, I nb0, I nb1, I nb2, I nb3, I nc, .slice And nd.length cnd, I ne0, I ne1, I ne2, I nf0, I nf1, I nf2, I nf3, I nf4, I nf5, I nf6, I nf7, I nf8, .slice Ang ng.length cng, I nh]), .iface 75 (.agg #[I na, I nb0, I nb1, I nb2, I nb3, I nc, .slice And nd.length cnd, I ne0, I ne1, I ne2, I nf0, I nf1, I nf2, I nf3, I nf4, I nf5, I nf6, I nf7, I nf8, .slice Ang ng.length cng, I nh]), .iface 76 (.agg #[I na, I nb0, I nb1, I nb2, I nb3, I nc, .slice And nd.length cnd, I ne0, I ne1, I ne2, I nf0, I nf1, I nf2, I nf3, I nf4, I nf5, I nf6, I nf7, I nf8, .slice Ang ng.length cng, I nh]), .iface 77 (.agg #[I na, I nb0, I nb1, I nb2, I nb3, I nc, .slice And nd.length cnd, I ne0, I ne1, I ne2, I nf0, I nf1, I nf2, I nf3, I nf4, I nf5, I nf6, I nf7, I nf8, .slice Ang ng.length cng, I nh]), .iface 78 (.agg #[I na, I nb0, I nb1, I nb2, I nb3, I nc, .slice And nd.length cnd, I ne0, I ne1, I ne2, I nf0, I nf1, I nf2, I nf3, I nf4, I nf5, I nf6, I nf7, I nf8, .slice Ang ng.length cng, I nh]), .iface 79 (.agg #[I na, I nb0, I nb1, I nb2, I nb3, I nc, .slice And nd.length cnd, I ne0, I ne1, I ne2, I nf0, I nf1, I nf2, I nf3, I nf4, I nf5, I nf6, I nf7, I nf8, .slice Ang ng.length cng, I nh]), .iface 80 (.agg #[I na, I nb0, I nb1, I nb2, I nb3, I nc, .slice And nd.length cnd, I ne0, I ne1, I ne2, I nf0, I nf1, I nf2, I nf3, I nf4, I nf5, I nf6, I nf7, I nf8, .slice Ang ng.length cng, I nh])], .blk g_q 24 [I r5.2.2.2.1, I r5.2.2.2.2.1, .slice none (([] : List (Int × Int × Int))).length 0], .blk g_x 24 [I 0, I 0, .slice none (([] : List (Int × Int × Int))).length 0], .blk g_p 45 [I r5.1, I r5.2.1, .slice A3 r5.2.2.1.length c3], .blk g_n 42 [I na, I nb0, I nb1, I nb2, I nb3, I nc, .slice And nd.length cnd, I ne0, I ne1, I ne2, I nf0, I nf1, I nf2, I nf3, I nf4, I nf5, I nf6, I nf7, I nf8, .slice Ang ng.length cng, I nh]] := M
  refine X_round ?_
  refine wp_seq (X_reg ?_)
  refine X_r K (rdb (b' := true) (by decide) (rd_lss rfl K rfl rfl)) M ?_; clear K; intro a K
  refine wpList_nil (then_n (wp_seq ?_))
  refine X_condT K rfl ?_
  refine wp_skip (then_n (wp_seq (wp_block (wp_seq (X_reg ?_)))))
  refine X_r K (rd_ixG (j := 3) rfl sl81 K rfl rfl rfl) M ?_; clear K
  refine Y_r (fun _ K => rd_ldC rfl sc83 K rfl (inM 3 rfl) rfl) M ?_
  refine Y_o M ?_; intro a K
  refine wpList_nil (then_n (wp_seq (X_reg ?_)))
  refine X_o K M ?_; clear K
  refine Y_r (fun _ K => rd_ldA rfl ty45 K rfl (inM 6 rfl) rfl rfl) M ?_
  refine Y_r (fun _ K => rd_ldA rfl ty24 K rfl (inM 4 rfl) rfl rfl) M ?_; intro a K
  obtain ⟨r6, h_r6, h⟩ := obind h
  refine X_a K (ac_invoke (vs := [.agg #[I r5.1, I r5.2.1, .slice A3 r5.2.2.1.length c3], .agg #[I r5.2.2.2.1, I r5.2.2.2.2.1, .slice none (([] : List (Int × Int × Int))).length 0]]) rfl fok103 mt103 K rfl rfl (W_line_fill_work N na nb0 nb1 nb2 nb3 nc nd And cnd ne0 ne1 ne2 nf0 nf1 nf2 nf3 nf4 nf5 nf6 nf7 nf8 ng Ang cng nh r5.1 r5.2.1 r5.2.2.1 A3 c3 r5.2.2.2.1 r5.2.2.2.2.1 (([] : List (Int × Int × Int))) none 0 _ ((inA Rnd) _ M) Cnd ((inA Rng) _ M) Cng ((inR (C := (cI .i64)) 0 rfl rfl) _ M) (M.cap 0 rfl) ((fun _ _ => SL.nil) _ M) (Nat.le_refl _) r6 h_r6)) ?_
  have M0 := M; clear K M; rintro _ a w ⟨A4, c4, rfl, _, M⟩ K
  replace M := M0.call M; clear M0
  refine X_o K M ?_; clear K
  iterate 3 (refine Y_o M ?_)
  intro a K
  refine X_b K (ac_storeA rfl ty45 K rfl (ds := [I r6.1, I r6.2.1, .slice A3 r5.2.2.1.length c3]) rfl rfl 7 M rfl rfl rfl) ?_
  clear K M; rintro _ a w M K
  refine X_b K (ac_storeA rfl ty24 K rfl (ds := [I r6.2.2.2.1, I r6.2.2.2.2.1, .slice A4 r6.2.2.2.2.2.1.length c4]) rfl rfl 5 M rfl rfl rfl) ?_
  clear K M; rintro _ a w M K
  refine X_o K M ?_; clear K; intro a K
  refine wpList_nil (then_n (wp_seq (X_reg ?_)))
  refine X_o K M ?_; clear K
  refine Y_o M ?_; intro a K
  refine wpList_nil (then_n ?_)
  refine X_cond K rfl (fun hb => ?_) (fun hb => ?_)
  · have h := ctrue hb h
    refine wp_seq (X_reg ?_)
    refine X_r K (rd_build rfl K (vs := []) (cs := [I 0, I 0, .slice none (([] : List (Int × Int × Int))).length 0]) rfl (by kernel_rfl)) M ?_; clear K
    refine Y_o M ?_; intro a K
    refine X_b K (ac_storeA rfl ty24 K rfl (ds := [I 0, I 0, .slice none (([] : List (Int × Int × Int))).length 0]) rfl rfl 6 M rfl rfl rfl) ?_
    clear K M; rintro _ a w M K
    refine X_o K M ?_; clear K; intro a K
    refine wpList_nil (then_n (wp_ret (inb_r (then_r (then_r (inb_r (then_r ?_)))))))
    cases h
    exact ret2 K rfl (res_cellA K rfl ty24 (M.blkAt (i := 6) rfl) rfl) (res_tmp K rfl) ⟨_, rfl, _, _, rfl, (((Mem.nilrow 34 3 cIII M)).pick [0] (by decide))⟩
  have h := cfalse hb h
  refine wp_skip (inb_n (then_n (X_reg ?_)))
  refine X_r K (rdv (v := I 4) (by rfl) (rd_add rfl K rfl rfl)) M ?_; clear K
  refine Y_o M ?_; intro a K
  refine wpList_nil (then_n ?_)
  replace K : Kn a 58 [(3, .pointer (some ⟨g_p, 0, none⟩)), (4, .pointer (some ⟨g_x, 0, none⟩)), (7, .pointer (some ⟨g_q, 0, none⟩)), (38, .slice (some ⟨gs, 0, none⟩) 7 7), (39, I 7), (40, I 4)] := K.pick [3,4,7,38,39,40]
  replace M : Mem w0.heap.size w0 w [.row 34 3 A4 r6.2.2.2.2.2.1.length c4 (cIII.all r6.2.2.2.2.2.1), .row 3 1 A3 r5.2.2.1.length c3 ((cI .i64).all r5.2.2.1), .row 3 1 A2 r4.2.2.1.length c2 ((cI .i64).all r4.2.2.1), .row 3 1 A r3.2.2.1.length c ((cI .i64).all r3.2.2.1), .blk gs 83 [.iface 74 (.agg #[I na, I nb0, I nb1, I nb2, I nb3, I nc, .slice And nd.length cnd, I ne0, I ne1, I ne2, I nf0, I nf1, I nf2, I nf3, I nf4, I nf5, I nf6, I nf7, I nf8, .slice Ang ng.length cng, I nh]), .iface 75 (.agg #[I na, I nb0, I nb1, I nb2, I nb3, I nc, .slice And nd.length cnd, I ne0, I ne1, I ne2, I nf0, I nf1, I nf2, I nf3, I nf4, I nf5, I nf6, I nf7, I nf8, .slice Ang ng.length cng, I nh]), .iface 76 (.agg #[I na, I nb0, I nb1, I nb2, I nb3, I nc, .slice And nd.length cnd, I ne0, I ne1, I ne2, I nf0, I nf1, I nf2, I nf3, I nf4, I nf5, I nf6, I nf7, I nf8, .slice Ang ng.length cng, I nh]), .iface 77 (.agg #[I na, I nb0, I nb1, I nb2, I nb3, I nc, .slice And nd.length cnd, I ne0, I ne1, I ne2, I nf0, I nf1, I nf2, I nf3, I nf4, I nf5, I nf6, I nf7, I nf8, .slice Ang ng.length cng, I nh]), .iface 78 (.agg #[I na, I nb0, I nb1, I nb2, I nb3, I nc, .slice And nd.length cnd, I ne0, I ne1, I ne2, I nf0, I nf1, I nf2, I nf3, I nf4, I nf5, I nf6, I nf7, I nf8, .slice Ang ng.length cng, I nh]), .iface 79 (.agg #[I na, I nb0, I nb1, I nb2, I nb3, I nc, .slice And nd.length cnd, I ne0, I ne1, I ne2, I nf0, I nf1, I nf2, I nf3, I nf4, I nf5, I nf6, I nf7, I nf8, .slice Ang ng.length cng, I nh]), .iface 80 (.agg #[I na, I nb0, I nb1, I nb2, I nb3, I nc, .slice And nd.length cnd, I ne0, I ne1, I ne2, I nf0, I nf1, I nf2, I nf3, I nf4, I nf5, I nf6, I nf7, I nf8, .slice Ang ng.length cng, I nh])], .blk g_q 24 [I r6.2.2.2.1, I r6.2.2.2.2.1, .slice A4 r6.2.2.2.2.2.1.length c4], .blk g_x 24 [I 0, I 0, .slice none (([] : List (Int × Int × Int))).length 0], .blk g_p 45 [I r6.1, I r6.2.1, .slice A3 r5.2.2.1.length c3], .blk g_n 42 [I na, I nb0, I nb1, I nb2, I nb3, I nc, .slice And nd.length cnd, I ne0, I ne1, I ne2, I nf0, I nf1, I nf2, I nf3, I nf4, I nf5, I nf6, I nf7, I nf8, .slice Ang ng.length cng, I nh]] := M
  refine X_round ?_
  refine wp_seq (X_reg ?_)
  refine X_r K (rdb (b' := true) (by decide) (rd_lss rfl K rfl rfl)) M ?_; clear K; intro a K
  refine wpList_nil (then_n (wp_seq ?_))
  refine X_condT K rfl ?_
  refine wp_skip (then_n (wp_seq (wp_block (wp_seq (X_reg ?_)))))
  refine X_r K (rd_ixG (j := 4) rfl sl81 K rfl rfl rfl) M ?_; clear K
  refine Y_r (fun _ K => rd_ldC rfl sc83 K rfl (inM 4 rfl) rfl) M ?_
  refine Y_o M ?_; intro a K
  refine wpList_nil (then_n (wp_seq (X_reg ?_)))
  refine X_o K M ?_; clear K
  refine Y_r (fun _ K => rd_ldA rfl ty45 K rfl (inM 7 rfl) rfl rfl) M ?_
  refine Y_r (fun _ K => rd_ldA rfl ty24 K rfl (inM 5 rfl) rfl rfl) M ?_; intro a K
  obtain ⟨r7, h_r7, h⟩ := obind h
  refine X_a K (ac_invoke (vs := [.agg #[I r6.1, I r6.2.1, .slice A3 r5.2.2.1.length c3], .agg #[I r6.2.2.2.1, I r6.2.2.2.2.1, .slice A4 r6.2.2.2.2.2.1.length c4]]) rfl fok108 mt108 K rfl rfl (W_line_mix_work N na nb0 nb1 nb2 nb3 nc nd And cnd ne0 ne1 ne2 nf0 nf1 nf2 nf3 nf4 nf5 nf6 nf7 nf8 ng Ang cng nh r6.1 r6.2.1 r5.2.2.1 A3 c3 r6.2.2.2.1 r6.2.2.2.2.1 r6.2.2.2.2.2.1 A4 c4 _ ((inA Rnd) _ M) Cnd ((inA Rng) _ M) Cng ((inR (C := (cI .i64)) 1 rfl rfl) _ M) (M.cap 1 rfl) ((inR (C := cIII) 0 rfl rfl) _ M) (M.cap 0 rfl) r7 h_r7)) ?_
  have M0 := M; clear K M; rintro _ a w ⟨A5, c5, rfl, _, M⟩ K
  replace M := M0.call M; clear M0
  refine X_o K M ?_; clear K
  iterate 3 (refine Y_o M ?_)
  intro a K
  refine X_b K (ac_storeA rfl ty45 K rfl (ds := [I r7.1, I r7.2.1, .slice A3 r5.2.2.1.length c3]) rfl rfl 8 M rfl rfl rfl) ?_
  clear K M; rintro _ a w M K
  refine X_b K (ac_storeA rfl ty24 K rfl (ds := [I r7.2.2.2.1, I r7.2.2.2.2.1, .slice A5 r7.2.2.2.2.2.1.length c5]) rfl rfl 6 M rfl rfl rfl) ?_
  clear K M; rintro _ a w M K
  refine X_o K M ?_; clear K; intro a K
  refine wpList_nil (then_n (wp_seq (X_reg ?_)))
  refine X_o K M ?_; clear K
  refine Y_o M ?_; intro a K
  refine wpList_nil (then_n ?_)
  refine X_cond K rfl (fun hb => ?_) (fun hb => ?_)
  · have h := ctrue hb h
    refine wp_seq (X_reg ?_)
    refine X_r K (rd_build rfl K (vs := []) (cs := [I 0, I 0, .slice none (([] : List (Int × Int × Int))).length 0]) rfl (by kernel_rfl)) M ?_; clear K
    refine Y_o M ?_; intro a K
    refine X_b K (ac_storeA rfl ty24 K rfl (ds := [I 0, I 0, .slice none (([] : List (Int × Int × Int))).length 0]) rfl rfl 7 M rfl rfl rfl) ?_
    clear K M; rintro _ a w M K
    refine X_o K M ?_; clear K; intro a K
    refine wpList_nil (then_n (wp_ret (inb_r (then_r (then_r (inb_r (then_r ?_)))))))
    cases h
    exact ret2 K rfl (res_cellA K rfl ty24 (M.blkAt (i := 7) rfl) rfl) (res_tmp K rfl) ⟨_, rfl, _, _, rfl, (((Mem.nilrow 34 3 cIII M)).pick [0] (by decide))⟩
  have h := cfalse hb h
  refine wp_skip (inb_n (then_n (X_reg ?_)))
  refine X_r K (rdv (v := I 5) (by rfl) (rd_add rfl K rfl rfl)) M ?_; clear K
  refine Y_o M ?_; intro a K
  refine wpList_nil (then_n ?_)
  replace K : Kn a 58 [(3, .pointer (some ⟨g_p, 0, none⟩)), (4, .pointer (some ⟨g_x, 0, none⟩)), (7, .pointer (some ⟨g_q, 0, none⟩)), (38, .slice (some ⟨gs, 0, none⟩) 7 7), (39, I 7), (40, I 5)] := K.pick [3,4,7,38,39,40]
  replace M : Mem w0.heap.size w0 w [.row 34 3 A5 r7.2.2.2.2.2.1.length c5 (cIII.all r7.2.2.2.2.2.1), .row 34 3 A4 r6.2.2.2.2.2.1.length c4 (cIII.all r6.2.2.2.2.2.1), .row 3 1 A3 r5.2.2.1.length c3 ((cI .i64).all r5.2.2.1), .row 3 1 A2 r4.2.2.1.length c2 ((cI .i64).all r4.2.2.1), .row 3 1 A r3.2.2.1.length c ((cI .i64).all r3.2.2.1), .blk gs 83 [.iface 74 (.agg #[I na, I nb0, I nb1, I nb2, I nb3, I nc, .slice And nd.length cnd, I ne0, I ne1, I ne2, I nf0, I nf1, I nf2, I nf3, I nf4, I nf5, I nf6, I nf7, I nf8, .slice Ang ng.length cng, I nh]), .iface 75 (.agg #[I na, I nb0, I nb1, I nb2, I nb3, I nc, .slice And nd.length cnd, I ne0, I ne1, I ne2, I nf0, I nf1, I nf2, I nf3, I nf4, I nf5, I nf6, I nf7, I nf8, .slice Ang ng.length cng, I nh]), .iface 76 (.agg #[I na, I nb0, I nb1, I nb2, I nb3, I nc, .slice And nd.length cnd, I ne0, I ne1, I ne2, I nf0, I nf1, I nf2, I nf3, I nf4, I nf5, I nf6, I nf7, I nf8, .slice Ang ng.length cng, I nh]), .iface 77 (.agg #[I na, I nb0, I nb1, I nb2, I nb3, I nc, .slice And nd.length cnd, I ne0, I ne1, I ne2, I nf0, I nf1, I nf2, I nf3, I nf4, I nf5, I nf6, I nf7, I nf8, .slice Ang ng.length cng, I nh]), .iface 78 (.agg #[I na, I nb0, I nb1, I nb2, I nb3, I nc, .slice And nd.length cnd, I ne0, I ne1, I ne2, I nf0, I nf1, I nf2, I nf3, I nf4, I nf5, I nf6, I nf7, I nf8, .slice Ang ng.length cng, I nh]), .iface 79 (.agg #[I na, I nb0, I nb1, I nb2, I nb3, I nc, .slice And nd.length cnd, I ne0, I ne1, I ne2, I nf0, I nf1, I nf2, I nf3, I nf4, I nf5, I nf6, I nf7, I nf8, .slice Ang ng.length cng, I nh]), .iface 80 (.agg #[I na, I nb0, I nb1, I nb2, I nb3, I nc, .slice And nd.length cnd, I ne0, I ne1, I ne2, I nf0, I nf1, I nf2, I nf3, I nf4, I nf5, I nf6, I nf7, I nf8, .slice Ang ng.length cng, I nh])], .blk g_q 24 [I r7.2.2.2.1, I r7.2.2.2.2.1, .slice A5 r7.2.2.2.2.2.1.length c5], .blk g_x 24 [I 0, I 0, .slice none (([] : List (Int × Int × Int))).length 0], .blk g_p 45 [I r7.1, I r7.2.1, .slice A3 r5.2.2.1.length c3], .blk g_n 42 [I na, I nb0, I nb1, I nb2, I nb3, I nc, .slice And nd.length cnd, I ne0, I ne1, I ne2, I nf0, I nf1, I nf2, I nf3, I nf4, I nf5, I nf6, I nf7, I nf8, .slice Ang ng.length cng, I nh]] := M
  refine X_round ?_
  refine wp_seq (X_reg ?_)
  refine X_r K (rdb (b' := true) (by decide) (rd_lss rfl K rfl rfl)) M ?_; clear K; intro a K
  refine wpList_nil (then_n (wp_seq ?_))
  refine X_condT K rfl ?_
  refine wp_skip (then_n (wp_seq (wp_block (wp_seq (X_reg ?_)))))
  refine X_r K (rd_ixG (j := 5) rfl sl81 K rfl rfl rfl) M ?_; clear K
  refine Y_r (fun _ K => rd_ldC rfl sc83 K rfl (inM 5 rfl) rfl) M ?_
  refine Y_o M ?_; intro a K
  refine wpList_nil (then_n (wp_seq (X_reg ?_)))
  refine X_o K M ?_; clear K
  refine Y_r (fun _ K => rd_ldA rfl ty45 K rfl (inM 8 rfl) rfl rfl) M ?_
  refine Y_r (fun _ K => rd_ldA rfl ty24 K rfl (inM 6 rfl) rfl rfl) M ?_; intro a K
  obtain ⟨r8, h_r8, h⟩ := obind h
  refine X_a K (ac_invoke (vs := [.agg #[I r7.1, I r7.2.1, .slice A3 r5.2.2.1.length c3], .agg #[I r7.2.2.2.1, I r7.2.2.2.2.1, .slice A5 r7.2.2.2.2.2.1.length c5]]) rfl fok109 mt109 K rfl rfl (W_line_bend_work N na nb0 nb1 nb2 nb3 nc nd And cnd ne0 ne1 ne2 nf0 nf1 nf2 nf3 nf4 nf5 nf6 nf7 nf8 ng Ang cng nh r7.1 r7.2.1 r5.2.2.1 A3 c3 r7.2.2.2.1 r7.2.2.2.2.1 r7.2.2.2.2.2.1 A5 c5 _ ((inA Rnd) _ M) Cnd ((inA Rng) _ M) Cng ((inR (C := (cI .i64)) 2 rfl rfl) _ M) (M.cap 2 rfl) ((inR (C := cIII) 0 rfl rfl) _ M) (M.cap 0 rfl) r8 h_r8)) ?_
  have M0 := M; clear K M; rintro _ a w ⟨A6, c6, rfl, _, M⟩ K
  replace M := M0.call M; clear M0
  refine X_o K M ?_; clear K
  iterate 3 (refine Y_o M ?_)
  intro a K
  refine X_b K (ac_storeA rfl ty45 K rfl (ds := [I r8.1, I r8.2.1, .slice A3 r5.2.2.1.length c3]) rfl rfl 9 M rfl rfl rfl) ?_
  clear K M; rintro _ a w M K
  refine X_b K (ac_storeA rfl ty24 K rfl (ds := [I r8.2.2.2.1, I r8.2.2.2.2.1, .slice A6 r8.2.2.2.2.2.1.length c6]) rfl rfl 7 M rfl rfl rfl) ?_
  clear K M; rintro _ a w M K
  refine X_o K M ?_; clear K; intro a K
  refine wpList_nil (then_n (wp_seq (X_reg ?_)))
  refine X_o K M ?_; clear K
  refine Y_o M ?_; intro a K
  refine wpList_nil (then_n ?_)
  refine X_cond K rfl (fun hb => ?_) (fun hb => ?_)
  · have h := ctrue hb h
    refine wp_seq (X_reg ?_)
    refine X_r K (rd_build rfl K (vs := []) (cs := [I 0, I 0, .slice none (([] : List (Int × Int × Int))).length 0]) rfl (by kernel_rfl)) M ?_; clear K
    refine Y_o M ?_; intro a K
    refine X_b K (ac_storeA rfl ty24 K rfl (ds := [I 0, I 0, .slice none (([] : List (Int × Int × Int))).length 0]) rfl rfl 8 M rfl rfl rfl) ?_
    clear K M; rintro _ a w M K
    refine X_o K M ?_; clear K; intro a K
    refine wpList_nil (then_n (wp_ret (inb_r (then_r (then_r (inb_r (then_r ?_)))))))
    cases h
    exact ret2 K rfl (res_cellA K rfl ty24 (M.blkAt (i := 8) rfl) rfl) (res_tmp K rfl) ⟨_, rfl, _, _, rfl, (((Mem.nilrow 34 3 cIII M)).pick [0] (by decide))⟩
  have h := cfalse hb h
  refine wp_skip (inb_n (then_n (X_reg ?_)))
  refine X_r K (rdv (v := I 6) (by rfl) (rd_add rfl K rfl rfl)) M ?_; clear K
  refine Y_o M ?_; intro a K
  refine wpList_nil (then_n ?_)
  replace K : Kn a 58 [(3, .pointer (some ⟨g_p, 0, none⟩)), (4, .pointer (some ⟨g_x, 0, none⟩)), (7, .pointer (some ⟨g_q, 0, none⟩)), (38, .slice (some ⟨gs, 0, none⟩) 7 7), (39, I 7), (40, I 6)] := K.pick [3,4,7,38,39,40]
  replace M : Mem w0.heap.size w0 w [.row 34 3 A6 r8.2.2.2.2.2.1.length c6 (cIII.all r8.2.2.2.2.2.1), .row 34 3 A5 r7.2.2.2.2.2.1.length c5 (cIII.all r7.2.2.2.2.2.1), .row 34 3 A4 r6.2.2.2.2.2.1.length c4 (cIII.all r6.2.2.2.2.2.1), .row 3 1 A3 r5.2.2.1.length c3 ((cI .i64).all r5.2.2.1), .row 3 1 A2 r4.2.2.1.length c2 ((cI .i64).all r4.2.2.1), .row 3 1 A r3.2.2.1.length c ((cI .i64).all r3.2.2.1), .blk gs 83 [.iface 74 (.agg #[I na, I nb0, I nb1, I nb2, I nb3, I nc, .slice And nd.length cnd, I ne0, I ne1, I ne2, I nf0, I nf1, I nf2, I nf3, I nf4, I nf5, I nf6, I nf7, I nf8, .slice Ang ng.length cng, I nh]), .iface 75 (.agg #[I na, I nb0, I nb1, I nb2, I nb3, I nc, .slice And nd.length cnd, I ne0, I ne1, I ne2, I nf0, I nf1, I nf2, I nf3, I nf4, I nf5, I nf6, I nf7, I nf8, .slice Ang ng.length cng, I nh]), .iface 76 (.agg #[I na, I nb0, I nb1, I nb2, I nb3, I nc, .slice And nd.length cnd, I ne0, I ne1, I ne2, I nf0, I nf1, I nf2, I nf3, I nf4, I nf5, I nf6, I nf7, I nf8, .slice Ang ng.length cng, I nh]), .iface 77 (.agg #[I na, I nb0, I nb1, I nb2, I nb3, I nc, .slice And nd.length cnd, I ne0, I ne1, I ne2, I nf0, I nf1, I nf2, I nf3, I nf4, I nf5, I nf6, I nf7, I nf8, .slice Ang ng.length cng, I nh]), .iface 78 (.agg #[I na, I nb0, I nb1, I nb2, I nb3, I nc, .slice And nd.length cnd, I ne0, I ne1, I ne2, I nf0, I nf1, I nf2, I nf3, I nf4, I nf5, I nf6, I nf7, I nf8, .slice Ang ng.length cng, I nh]), .iface 79 (.agg #[I na, I nb0, I nb1, I nb2, I nb3, I nc, .slice And nd.length cnd, I ne0, I ne1, I ne2, I nf0, I nf1, I nf2, I nf3, I nf4, I nf5, I nf6, I nf7, I nf8, .slice Ang ng.length cng, I nh]), .iface 80 (.agg #[I na, I nb0, I nb1, I nb2, I nb3, I nc, .slice And nd.length cnd, I ne0, I ne1, I ne2, I nf0, I nf1, I nf2, I nf3, I nf4, I nf5, I nf6, I nf7, I nf8, .slice Ang ng.length cng, I nh])], .blk g_q 24 [I r8.2.2.2.1, I r8.2.2.2.2.1, .slice A6 r8.2.2.2.2.2.1.length c6], .blk g_x 24 [I 0, I 0, .slice none (([] : List (Int × Int × Int))).length 0], .blk g_p 45 [I r8.1, I r8.2.1, .slice A3 r5.2.2.1.length c3], .blk g_n 42 [I na, I nb0, I nb1, I nb2, I nb3, I nc, .slice And nd.length cnd, I ne0, I ne1, I ne2, I nf0, I nf1, I nf2, I nf3, I nf4, I nf5, I nf6, I nf7, I nf8, .slice Ang ng.length cng, I nh]] := M
  refine X_round ?_
  refine wp_seq (X_reg ?_)
  refine X_r K (rdb (b' := true) (by decide) (rd_lss rfl K rfl rfl)) M ?_; clear K; intro a K
  refine wpList_nil (then_n (wp_seq ?_))
  refine X_condT K rfl ?_
  refine wp_skip (then_n (wp_seq (wp_block (wp_seq (X_reg ?_)))))
  refine X_r K (rd_ixG (j := 6) rfl sl81 K rfl rfl rfl) M ?_; clear K
  refine Y_r (fun _ K => rd_ldC rfl sc83 K rfl (inM 6 rfl) rfl) M ?_
  refine Y_o M ?_; intro a K
  refine wpList_nil (then_n (wp_seq (X_reg ?_)))
  refine X_o K M ?_; clear K
  refine Y_r (fun _ K => rd_ldA rfl ty45 K rfl (inM 9 rfl) rfl rfl) M ?_
  refine Y_r (fun _ K => rd_ldA rfl ty24 K rfl (inM 7 rfl) rfl rfl) M ?_; intro a K
  obtain ⟨r9, h_r9, h⟩ := obind h
  refine X_a K (ac_invoke (vs := [.agg #[I r8.1, I r8.2.1, .slice A3 r5.2.2.1.length c3], .agg #[I r8.2.2.2.1, I r8.2.2.2.2.1, .slice A6 r8.2.2.2.2.2.1.length c6]]) rfl fok110 mt110 K rfl rfl (W_line_sharpen_work N na nb0 nb1 nb2 nb3 nc nd And cnd ne0 ne1 ne2 nf0 nf1 nf2 nf3 nf4 nf5 nf6 nf7 nf8 ng Ang cng nh r8.1 r8.2.1 r5.2.2.1 A3 c3 r8.2.2.2.1 r8.2.2.2.2.1 r8.2.2.2.2.2.1 A6 c6 _ ((inA Rnd) _ M) Cnd ((inA Rng) _ M) Cng ((inR (C := (cI .i64)) 3 rfl rfl) _ M) (M.cap 3 rfl) ((inR (C := cIII) 0 rfl rfl) _ M) (M.cap 0 rfl) r9 h_r9)) ?_
  have M0 := M; clear K M; rintro _ a w ⟨A7, c7, rfl, _, M⟩ K
  replace M := M0.call M; clear M0
  refine X_o K M ?_; clear K
  iterate 3 (refine Y_o M ?_)
  intro a K
  refine X_b K (ac_storeA rfl ty45 K rfl (ds := [I r9.1, I r9.2.1, .slice A3 r5.2.2.1.length c3]) rfl rfl 10 M rfl rfl rfl) ?_
  clear K M; rintro _ a w M K
  refine X_b K (ac_storeA rfl ty24 K rfl (ds := [I r9.2.2.2.1, I r9.2.2.2.2.1, .slice A7 r9.2.2.2.2.2.1.length c7]) rfl rfl 8 M rfl rfl rfl) ?_
  clear K M; rintro _ a w M K
  refine X_o K M ?_; clear K; intro a K
  refine wpList_nil (then_n (wp_seq (X_reg ?_)))
  refine X_o K M ?_; clear K
  refine Y_o M ?_; intro a K
  refine wpList_nil (then_n ?_)
  refine X_cond K rfl (fun hb => ?_) (fun hb => ?_)
  · have h := ctrue hb h
    refine wp_seq (X_reg ?_)
    refine X_r K (rd_build rfl K (vs := []) (cs := [I 0, I 0, .slice none (([] : List (Int × Int × Int))).length 0]) rfl (by kernel_rfl)) M ?_; clear K
    refine Y_o M ?_; intro a K
    refine X_b K (ac_storeA rfl ty24 K rfl (ds := [I 0, I 0, .slice none (([] : List (Int × Int × Int))).length 0]) rfl rfl 9 M rfl rfl rfl) ?_
    clear K M; rintro _ a w M K
    refine X_o K M ?_; clear K; intro a K
    refine wpList_nil (then_n (wp_ret (inb_r (then_r (then_r (inb_r (then_r ?_)))))))
    cases h
    exact ret2 K rfl (res_cellA K rfl ty24 (M.blkAt (i := 9) rfl) rfl) (res_tmp K rfl) ⟨_, rfl, _, _, rfl, (((Mem.nilrow 34 3 cIII M)).pick [0] (by decide))⟩
  have h := cfalse hb h
  refine wp_skip (inb_n (then_n (X_reg ?_)))
  refine X_r K (rdv (v := I 7) (by rfl) (rd_add rfl K rfl rfl)) M ?_; clear K
  refine Y_o M ?_; intro a K
  refine wpList_nil (then_n ?_)
  replace K : Kn a 58 [(3, .pointer (some ⟨g_p, 0, none⟩)), (4, .pointer (some ⟨g_x, 0, none⟩)), (7, .pointer (some ⟨g_q, 0, none⟩)), (38, .slice (some ⟨gs, 0, none⟩) 7 7), (39, I 7), (40, I 7)] := K.pick [3,4,7,38,39,40]
  replace M : Mem w0.heap.size w0 w [.row 34 3 A7 r9.2.2.2.2.2.1.length c7 (cIII.all r9.2.2.2.2.2.1), .row 34 3 A6 r8.2.2.2.2.2.1.length c6 (cIII.all r8.2.2.2.2.2.1), .row 34 3 A5 r7.2.2.2.2.2.1.length c5 (cIII.all r7.2.2.2.2.2.1), .row 34 3 A4 r6.2.2.2.2.2.1.length c4 (cIII.all r6.2.2.2.2.2.1), .row 3 1 A3 r5.2.2.1.length c3 ((cI .i64).all r5.2.2.1), .row 3 1 A2 r4.2.2.1.length c2 ((cI .i64).all r4.2.2.1), .row 3 1 A r3.2.2.1.length c ((cI .i64).all r3.2.2.1), .blk gs 83 [.iface 74 (.agg #[I na, I nb0, I nb1, I nb2, I nb3, I nc, .slice And nd.length cnd, I ne0, I ne1, I ne2, I nf0, I nf1, I nf2, I nf3, I nf4, I nf5, I nf6, I nf7, I nf8, .slice Ang ng.length cng, I nh]), .iface 75 (.agg #[I na, I nb0, I nb1, I nb2, I nb3, I nc, .slice And nd.length cnd, I ne0, I ne1, I ne2, I nf0, I nf1, I nf2, I nf3, I nf4, I nf5, I nf6, I nf7, I nf8, .slice Ang ng.length cng, I nh]), .iface 76 (.agg #[I na, I nb0, I nb1, I nb2, I nb3, I nc, .slice And nd.length cnd, I ne0, I ne1, I ne2, I nf0, I nf1, I nf2, I nf3, I nf4, I nf5, I nf6, I nf7, I nf8, .slice Ang ng.length cng, I nh]), .iface 77 (.agg #[I na, I nb0, I nb1, I nb2, I nb3, I nc, .slice And nd.length cnd, I ne0, I ne1, I ne2, I nf0, I nf1, I nf2, I nf3, I nf4, I nf5, I nf6, I nf7, I nf8, .slice Ang ng.length cng, I nh]), .iface 78 (.agg #[I na, I nb0, I nb1, I nb2, I nb3, I nc, .slice And nd.length cnd, I ne0, I ne1, I ne2, I nf0, I nf1, I nf2, I nf3, I nf4, I nf5, I nf6, I nf7, I nf8, .slice Ang ng.length cng, I nh]), .iface 79 (.agg #[I na, I nb0, I nb1, I nb2, I nb3, I nc, .slice And nd.length cnd, I ne0, I ne1, I ne2, I nf0, I nf1, I nf2, I nf3, I nf4, I nf5, I nf6, I nf7, I nf8, .slice Ang ng.length cng, I nh]), .iface 80 (.agg #[I na, I nb0, I nb1, I nb2, I nb3, I nc, .slice And nd.length cnd, I ne0, I ne1, I ne2, I nf0, I nf1, I nf2, I nf3, I nf4, I nf5, I nf6, I nf7, I nf8, .slice Ang ng.length cng, I nh])], .blk g_q 24 [I r9.2.2.2.1, I r9.2.2.2.2.1, .slice A7 r9.2.2.2.2.2.1.length c7], .blk g_x 24 [I 0, I 0, .slice none (([] : List (Int × Int × Int))).length 0], .blk g_p 45 [I r9.1, I r9.2.1, .slice A3 r5.2.2.1.length c3], .blk g_n 42 [I na, I nb0, I nb1, I nb2, I nb3, I nc, .slice And nd.length cnd, I ne0, I ne1, I ne2, I nf0, I nf1, I nf2, I nf3, I nf4, I nf5, I nf6, I nf7, I nf8, .slice Ang ng.length cng, I nh]] := M
  refine X_round ?_
  refine wp_seq (X_reg ?_)
  refine X_r K (rdb (b' := false) (by decide) (rd_lss rfl K rfl rfl)) M ?_; clear K; intro a K
  refine wpList_nil (then_n (wp_seq ?_))
  refine X_condF K rfl ?_
  refine wp_exit ?_
  refine then_e (then_e ?_)
  refine inb_e ?_
  refine then_n (wp_seq (X_reg ?_))
  refine X_r K (rd_ldA rfl ty24 K rfl (inM 8 rfl) rfl rfl) M ?_; clear K; intro a K
  refine X_b K (ac_storeA rfl ty24 K rfl (ds := [I r9.2.2.2.1, I r9.2.2.2.2.1, .slice A7 r9.2.2.2.2.2.1.length c7]) rfl rfl 9 M rfl rfl rfl) ?_
  clear K M; rintro _ a w M K
  refine X_o K M ?_; clear K; intro a K
  refine wpList_nil (then_n (wp_ret ?_))
  cases h
  exact ret2 K rfl (res_cellA K rfl ty24 (M.blkAt (i := 9) rfl) rfl) (res_tmp K rfl) ⟨_, rfl, _, _, rfl, ((M).pick [0] (by decide))⟩
set_option maxRecDepth 100000 in
set_option maxHeartbeats 4000000 in
theorem W_line_down (N : Nat) (na : Int) (nb0 : Int) (nb1 : Int) (nb2 : Int) (nb3 : Int) (nc : Int) (nd : List (Int × Int)) (And : Option Addr) (cnd : Nat) (ne0 : Int) (ne1 : Int) (ne2 : Int) (nf0 : Int) (nf1 : Int) (nf2 : Int) (nf3 : Int) (nf4 : Int) (nf5 : Int) (nf6 : Int) (nf7 : Int) (nf8 : Int) (ng : List (Int × Int)) (Ang : Option Addr) (cng : Nat) (nh : Int) (top : Int) (rows : Int) (w0 : World) (Rnd : SL w0 cII And nd) (Cnd : nd.length ≤ cnd) (Rng : SL w0 cII Ang ng) (Cng : ng.length ≤ cng) (r : Int × Int × Int × Int × Int × Int × List (Int × Int) × Int × Int × Int × Int × Int × Int × Int × Int × Int × Int × Int × Int × List (Int × Int) × Int) (h : D_line_down N na nb0 nb1 nb2 nb3 nc nd ne0 ne1 ne2 nf0 nf1 nf2 nf3 nf4 nf5 nf6 nf7 nf8 ng nh top rows = some r) :
    Calls Try.prog 54 #[.agg #[I na, I nb0, I nb1, I nb2, I nb3, I nc, .slice And nd.length cnd, I ne0, I ne1, I ne2, I nf0, I nf1, I nf2, I nf3, I nf4, I nf5, I nf6, I nf7, I nf8, .slice Ang ng.length cng, I nh], I top, I rows] w0 fun e w' => ∃ v, e = .returned v ∧ ∃ A6 c6, v = .agg #[I r.1, I r.2.1, I r.2.2.1, I r.2.2.2.1, I r.2.2.2.2.1, I r.2.2.2.2.2.1, .slice A6 r.2.2.2.2.2.2.1.length c6, I r.2.2.2.2.2.2.2.1, I r.2.2.2.2.2.2.2.2.1, I r.2.2.2.2.2.2.2.2.2.1, I r.2.2.2.2.2.2.2.2.2.2.1, I r.2.2.2.2.2.2.2.2.2.2.2.1, I r.2.2.2.2.2.2.2.2.2.2.2.2.1, I r.2.2.2.2.2.2.2.2.2.2.2.2.2.1, I r.2.2.2.2.2.2.2.2.2.2.2.2.2.2.1, I r.2.2.2.2.2.2.2.2.2.2.2.2.2.2.2.1, I r.2.2.2.2.2.2.2.2.2.2.2.2.2.2.2.2.1, I r.2.2.2.2.2.2.2.2.2.2.2.2.2.2.2.2.2.1, I r.2.2.2.2.2.2.2.2.2.2.2.2.2.2.2.2.2.2.1, .slice Ang ng.length cng, I r.2.2.2.2.2.2.2.2.2.2.2.2.2.2.2.2.2.2.2.2] ∧ r.2.2.2.2.2.2.2.2.2.2.2.2.2.2.2.2.2.2.2.1 = ng ∧ Mem w0.heap.size w0 w' [.row 106 2 A6 r.2.2.2.2.2.2.1.length c6 (cII.all r.2.2.2.2.2.2.1)] := by
  refine X_enter Try.func54 rfl Try.ntmps54 rfl ?_
  intro a K
  have M := Mem.start w0
  have K : Kn a 64 [(0, .agg #[I na, I nb0, I nb1, I nb2, I nb3, I nc, .slice And nd.length cnd, I ne0, I ne1, I ne2, I nf0, I nf1, I nf2, I nf3, I nf4, I nf5, I nf6, I nf7, I nf8, .slice Ang ng.length cng, I nh]), (1, I top), (2, I rows)] := K
  unfold D_line_down at h
  refine wp_seq (X_reg ?_)
  refine X_a K (ac_box rfl K rfl (cs := [I na, I nb0, I nb1, I nb2, I nb3, I nc, .slice And nd.length cnd, I ne0, I ne1, I ne2, I nf0, I nf1, I nf2, I nf3, I nf4, I nf5, I nf6, I nf7, I nf8, .slice Ang ng.length cng, I nh]) rfl M) ?_
  clear K M; rintro _ a w ⟨g_n, rfl, M⟩ K
  refine X_a K (ac_alloc rfl z42 M) ?_
  clear K M; rintro _ a w ⟨g_x, rfl, M⟩ K
  refine wpList_nil (then_n (wp_seq (wp_seq (X_reg ?_))))
  refine X_o K M ?_; clear K
  refine Y_r (fun _ K => rd_rem rfl K rfl rfl (by decide)) M ?_
  refine Y_o M ?_; intro a K
  refine wpList_nil (then_n ?_)
  refine X_cond K rfl (fun hb => ?_) (fun hb => ?_)
  · have h := ctrue hb h
    refine wp_seq (X_reg ?_)
    refine X_r K (rd_field rfl fld42_0 K rfl) M ?_; clear K
    refine Y_r (fun _ K => rd_ldC rfl sc3 K rfl (inM 1 rfl) rfl) M ?_
    refine Y_r (fun _ K => rd_xor rfl K rfl rfl) M ?_
    refine Y_r (fun _ K => rd_field rfl fld42_0 K rfl) M ?_; intro a K
    refine X_b K (ac_storeC rfl sc3 K rfl rfl rfl 1 M rfl rfl) ?_
    clear K M; rintro _ a w M K
    refine wpList_nil (then_n (X_reg ?_))
    refine X_r K (rd_field rfl fld42_1 K rfl) M ?_; clear K
    refine Y_r (fun _ K => rd_ixA rfl ar36 sz3 K rfl rfl (by decide) (by decide)) M ?_
    refine Y_r (fun _ K => rd_ldC rfl sc3 K rfl (inM 1 rfl) rfl) M ?_
    refine Y_r (fun _ K => rd_field rfl fld42_1 K rfl) M ?_
    refine Y_r (fun _ K => rd_ixA rfl ar36 sz3 K rfl rfl (by decide) (by decide)) M ?_
    refine Y_r (fun _ K => rd_ldC rfl sc3 K rfl (inM 1 rfl) rfl) M ?_
    refine Y_r (fun _ K => rd_field rfl fld42_1 K rfl) M ?_
    refine Y_r (fun _ K => rd_ixA rfl ar36 sz3 K rfl rfl (by decide) (by decide)) M ?_
    refine Y_r (fun _ K => rd_ldC rfl sc3 K rfl (inM 1 rfl) rfl) M ?_
    refine Y_r (fun _ K => rd_field rfl fld42_1 K rfl) M ?_
    refine Y_r (fun _ K => rd_ixA rfl ar36 sz3 K rfl rfl (by decide) (by decide)) M ?_
    refine Y_r (fun _ K => rd_ldC rfl sc3 K rfl (inM 1 rfl) rfl) M ?_
    refine Y_r (fun _ K => rd_build rfl K (vs := [(0, I nb2), (1, I nb3), (2, I nb0), (3, I nb1)]) (cs := [I nb2, I nb3, I nb0, I nb1]) rfl (by kernel_rfl)) M ?_
    refine Y_r (fun _ K => rd_field rfl fld42_1 K rfl) M ?_; intro a K
    refine X_b K (ac_storeP rfl ty36 K rfl (ds := [I nb2, I nb3, I nb0, I nb1]) (cs' := [I (xorI .i64 na 2), I nb2, I nb3, I nb0, I nb1, I nc, .slice And nd.length cnd, I ne0, I ne1, I ne2, I nf0, I nf1, I nf2, I nf3, I nf4, I nf5, I nf6, I nf7, I nf8, .slice Ang ng.length cng, I nh]) rfl rfl 1 M rfl rfl rfl rfl) ?_
    clear K M; rintro _ a w M K
    refine wpList_nil (then_n (wp_seq (X_reg ?_)))
    refine X_o K M ?_; clear K; intro a K
    refine wpList_nil (then_n (wp_seq (wp_seq (X_reg ?_))))
    refine X_r K (rd_field rfl fld42_3 K rfl) M ?_; clear K
    refine Y_r (fun _ K => rd_ldC rfl sc37 K rfl (inM 1 rfl) rfl) M ?_
    refine Y_r (fun _ K => rd_len rfl un37 K rfl) M ?_
    refine Y_o M ?_; intro a K
    refine wpList_nil (then_n (wp_block ?_))
    replace M := Mem.nilrow 106 2 cII M
    refine X_lp (id := 0) (Rel := fun (⟨l3, i⟩ : List (Int × Int) × Int) a w => ∃ (A2 : Option Addr) (c2 : Nat), Kn a 64 [(1, I top), (2, I rows), (3, .pointer (some ⟨g_n, 0, none⟩)), (6, .pointer (some ⟨g_x, 0, none⟩)), (7, .slice A2 l3.length c2), (32, .slice And nd.length cnd), (33, I (nd.length : Int)), (34, I i)] ∧ Mem w0.heap.size w0 w [.row 106 2 A2 l3.length c2 (cII.all l3), .blk g_x 42 [I 0, I 0, I 0, I 0, I 0, I 0, .slice none (([] : List (Int × Int))).length 0, I 0, I 0, I 0, I 0, I 0, I 0, I 0, I 0, I 0, I 0, I 0, I 0, .slice none (([] : List (Int × Int))).length 0, I 0], .blk g_n 42 [I (xorI .i64 na 2), I nb2, I nb3, I nb0, I nb1, I nc, .slice And nd.length cnd, I ne0, I ne1, I ne2, I nf0, I nf1, I nf2, I nf3, I nf4, I nf5, I nf6, I nf7, I nf8, .slice Ang ng.length cng, I nh]]) h (fun _ _ => rfl) ⟨none, 0, K.pick [1,2,3,6,7,32,33,34], M.pick [0,1,2] (by decide)⟩ ?_ ?_
    · clear K M h
      rintro ⟨l6, i2⟩ a w ⟨A5, c5, K, M⟩ h
      try dsimp only at h
      refine inb_e ?_
      refine then_n (wp_seq (X_reg ?_))
      refine X_o K M ?_; clear K
      refine Y_r (fun _ K => rd_field rfl fld42_3 K rfl) M ?_; intro a K
      refine X_b K (ac_storeC rfl sc37 K rfl rfl rfl 2 M rfl rfl) ?_
      clear K M; rintro _ a w M K
      refine wpList_nil (then_n (wp_seq (X_reg ?_)))
      refine X_r K (rd_ldA rfl ty42 K rfl (inM 2 rfl) rfl rfl) M ?_; clear K; intro a K
      refine X_b K (ac_storeA rfl ty42 K rfl (ds := [I (xorI .i64 na 2), I nb2, I nb3, I nb0, I nb1, I nc, .slice A5 l6.length c5, I ne0, I ne1, I ne2, I nf0, I nf1, I nf2, I nf3, I nf4, I nf5, I nf6, I nf7, I nf8, .slice Ang ng.length cng, I nh]) rfl rfl 1 M rfl rfl rfl) ?_
      clear K M; rintro _ a w M K
      refine wpList_nil (then_n (wp_ret ?_))
      cases h
      exact ret1 K rfl (res_cellA K rfl ty42 (M.blkAt (i := 1) rfl) rfl) ⟨_, rfl, _, _, rfl, rfl, ((M).pick [0] (by decide))⟩
    clear K M h
    rintro kk fuel ⟨l3, i⟩ a w hk1 ⟨A2, c2, K, M⟩ h
    unfold D_line_down_l1 at h
    refine wp_seq (X_reg ?_)
    refine X_o K M ?_; clear K; intro a K
    refine wpList_nil (then_n (wp_seq ?_))
    refine X_cond K rfl (fun hb => ?_) (fun hb => ?_)
    · have h := ctrue hb h
      refine wp_skip (then_n (wp_seq (wp_block (wp_seq (X_reg ?_)))))
      obtain ⟨e3, h_e3, h⟩ := obind h
      refine X_r K (rd_ix rfl sl37 K rfl rfl (inA Rnd) h_e3) M ?_; clear K
      refine Y_r (fun _ K => rd_elA rfl ty106 K rfl rfl rfl (inA Rnd) h_e3) M ?_; intro a K
      refine X_a K (ac_alloc rfl z106 M) ?_
      clear K M; rintro _ a w ⟨g_s3, rfl, M⟩ K
      refine X_b K (ac_storeA rfl ty106 K rfl (ds := [I e3.1, I e3.2]) rfl rfl 0 M rfl rfl rfl) ?_
      clear K M; rintro _ a w M K
      refine wpList_nil (then_n (wp_seq (X_reg ?_)))
      refine X_r K (rd_field rfl fld106_1 K rfl) M ?_; clear K
      refine Y_r (fun _ K => rd_ldC rfl sc3 K rfl (inM 0 rfl) rfl) M ?_
      iterate 3 (refine Y_o M ?_)
      intro a K
      rcases Bool.eq_false_or_eq_true (decide (top ≤ e3.2)) with hb | hb
      · have h := ctrue hb h
        have K := K.reb (s := 42) rfl hb
        refine X_r K (rd_field rfl fld106_1 K rfl) M ?_; clear K
        refine Y_r (fun _ K => rd_ldC rfl sc3 K rfl (inM 0 rfl) rfl) M ?_
        iterate 5 (refine Y_o M ?_)
        intro a K
        refine wpList_nil (then_n ?_)
        refine X_cond K rfl (fun hb => ?_) (fun hb => ?_)
        · have h := ctrue hb h
          refine X_reg ?_
          refine X_o K M ?_; clear K
          refine Y_r (fun _ K => rd_field rfl fld106_0 K rfl) M ?_
          refine Y_r (fun _ K => rd_ldC rfl sc3 K rfl (inM 0 rfl) rfl) M ?_
          refine Y_r (fun _ K => rd_field rfl fld106_1 K rfl) M ?_
          refine Y_r (fun _ K => rd_ldC rfl sc3 K rfl (inM 0 rfl) rfl) M ?_
          iterate 2 (refine Y_o M ?_)
          refine Y_r (fun _ K => rd_build rfl K (vs := [(0, I e3.1), (1, I (IntKind.i64.wrap (e3.2 - top)))]) (cs := [I e3.1, I (IntKind.i64.wrap (e3.2 - top))]) rfl (by kernel_rfl)) M ?_; intro a K
          refine X_a K (ac_bslice rfl sl37 z106 K (vs := [(0, .agg #[I e3.1, I (IntKind.i64.wrap (e3.2 - top))])]) (cs := [I e3.1, I (IntKind.i64.wrap (e3.2 - top))]) rfl (by kernel_rfl) rfl rfl M) ?_
          have M0 := M; clear K M; rintro _ a w ⟨gs3, rfl, M⟩ K
          replace M := M.asRow 0 rfl cII ([(e3.1, IntKind.i64.wrap (e3.2 - top))] : List (Int × Int)) (n := 1) rfl rfl rfl
          clear M0
          obtain ⟨l5, h_l5, h⟩ := obind h
          refine X_a K (ac_app (C := cII) (xs := l3) (ys := ([(e3.1, IntKind.i64.wrap (e3.2 - top))] : List (Int × Int))) rfl sl37 rfl z106 rfl rfl K rfl rfl 2 M rfl ((inR (C := cII) 0 rfl rfl) _ M) h_l5) ?_
          clear K M; rintro _ a w ⟨A4, c4, rfl, M⟩ K
          refine X_o K M ?_; clear K; intro a K
          refine wpList_nil (inb_n (then_n (X_reg ?_)))
          refine X_o K M ?_; clear K
          refine Y_o M ?_; intro a K
          refine wpList_nil ?_
          exact then_n ⟨(l5, IntKind.i64.wrap (i + 1)), ⟨A4, c4, K.pick [1,2,3,6,7,32,33,34], M.pick [2,3,4] (by decide)⟩, h⟩
        have h := cfalse hb h
        refine wp_skip (inb_n (then_n (X_reg ?_)))
        refine X_o K M ?_; clear K
        refine Y_o M ?_; intro a K
        refine wpList_nil ?_
        exact then_n ⟨(l3, IntKind.i64.wrap (i + 1)), ⟨A2, c2, K.pick [1,2,3,6,7,32,33,34], M.pick [1,2,3] (by decide)⟩, h⟩
      have h := cfalse hb h
      have K := K.reb (s := 42) rfl hb
      refine X_o K M ?_; clear K
      iterate 6 (refine Y_o M ?_)
      intro a K
      refine wpList_nil (then_n ?_)
      refine X_condF K rfl ?_
      refine wp_skip (inb_n (then_n (X_reg ?_)))
      refine X_o K M ?_; clear K
      refine Y_o M ?_; intro a K
      refine wpList_nil ?_
      exact then_n ⟨(l3, IntKind.i64.wrap (i + 1)), ⟨A2, c2, K.pick [1,2,3,6,7,32,33,34], M.pick [1,2,3] (by decide)⟩, h⟩
    have h := cfalse hb h
    refine wp_exit ?_
    refine then_e ?_
    exact then_e (hk1 (l3, i) _ _ ⟨A2, c2, K.pick [1,2,3,6,7,32,33,34], M.pick [0,1,2] (by decide)⟩ h)
  have h := cfalse hb h
  refine wp_skip (then_n (wp_seq (X_reg ?_)))
  refine X_o K M ?_; clear K; intro a K
  refine wpList_nil (then_n (wp_seq (wp_seq (X_reg ?_))))
  refine X_r K (rd_field rfl fld42_3 K rfl) M ?_; clear K
  refine Y_r (fun _ K => rd_ldC rfl sc37 K rfl (inM 1 rfl) rfl) M ?_
  refine Y_r (fun _ K => rd_len rfl un37 K rfl) M ?_
  refine Y_o M ?_; intro a K
  refine wpList_nil (then_n (wp_block ?_))
  replace M := Mem.nilrow 106 2 cII M
  refine X_lp (id := 0) (Rel := fun (⟨l8, i3⟩ : List (Int × Int) × Int) a w => ∃ (A7 : Option Addr) (c7 : Nat), Kn a 64 [(1, I top), (2, I rows), (3, .pointer (some ⟨g_n, 0, none⟩)), (6, .pointer (some ⟨g_x, 0, none⟩)), (7, .slice A7 l8.length c7), (32, .slice And nd.length cnd), (33, I (nd.length : Int)), (34, I i3)] ∧ Mem w0.heap.size w0 w [.row 106 2 A7 l8.length c7 (cII.all l8), .blk g_x 42 [I 0, I 0, I 0, I 0, I 0, I 0, .slice none (([] : List (Int × Int))).length 0, I 0, I 0, I 0, I 0, I 0, I 0, I 0, I 0, I 0, I 0, I 0, I 0, .slice none (([] : List (Int × Int))).length 0, I 0], .blk g_n 42 [I na, I nb0, I nb1, I nb2, I nb3, I nc, .slice And nd.length cnd, I ne0, I ne1, I ne2, I nf0, I nf1, I nf2, I nf3, I nf4, I nf5, I nf6, I nf7, I nf8, .slice Ang ng.length cng, I nh]]) h (fun _ _ => rfl) ⟨none, 0, K.pick [1,2,3,6,7,32,33,34], M.pick [0,1,2] (by decide)⟩ ?_ ?_
  · clear K M h
    rintro ⟨l11, i4⟩ a w ⟨A10, c10, K, M⟩ h
    try dsimp only at h
    refine inb_e ?_
    refine then_n (wp_seq (X_reg ?_))
    refine X_o K M ?_; clear K
    refine Y_r (fun _ K => rd_field rfl fld42_3 K rfl) M ?_; intro a K
    refine X_b K (ac_storeC rfl sc37 K rfl rfl rfl 2 M rfl rfl) ?_
    clear K M; rintro _ a w M K
    refine wpList_nil (then_n (wp_seq (X_reg ?_)))
    refine X_r K (rd_ldA rfl ty42 K rfl (inM 2 rfl) rfl rfl) M ?_; clear K; intro a K
    refine X_b K (ac_storeA rfl ty42 K rfl (ds := [I na, I nb0, I nb1, I nb2, I nb3, I nc, .slice A10 l11.length c10, I ne0, I ne1, I ne2, I nf0, I nf1, I nf2, I nf3, I nf4, I nf5, I nf6, I nf7, I nf8, .slice Ang ng.length cng, I nh]) rfl rfl 1 M rfl rfl rfl) ?_
    clear K M; rintro _ a w M K
    refine wpList_nil (then_n (wp_ret ?_))
    cases h
    exact ret1 K rfl (res_cellA K rfl ty42 (M.blkAt (i := 1) rfl) rfl) ⟨_, rfl, _, _, rfl, rfl, ((M).pick [0] (by decide))⟩
  clear K M h
  rintro kk fuel ⟨l8, i3⟩ a w hk2 ⟨A7, c7, K, M⟩ h
  unfold D_line_down_l2 at h
  refine wp_seq (X_reg ?_)
  refine X_o K M ?_; clear K; intro a K
  refine wpList_nil (then_n (wp_seq ?_))
  refine X_cond K rfl (fun hb => ?_) (fun hb => ?_)
  · have h := ctrue hb h
    refine wp_skip (then_n (wp_seq (wp_block (wp_seq (X_reg ?_)))))
    obtain ⟨e6, h_e6, h⟩ := obind h
    refine X_r K (rd_ix rfl sl37 K rfl rfl (inA Rnd) h_e6) M ?_; clear K
    refine Y_r (fun _ K => rd_elA rfl ty106 K rfl rfl rfl (inA Rnd) h_e6) M ?_; intro a K
    refine X_a K (ac_alloc rfl z106 M) ?_
    clear K M; rintro _ a w ⟨g_s6, rfl, M⟩ K
    refine X_b K (ac_storeA rfl ty106 K rfl (ds := [I e6.1, I e6.2]) rfl rfl 0 M rfl rfl rfl) ?_
    clear K M; rintro _ a w M K
    refine wpList_nil (then_n (wp_seq (X_reg ?_)))
    refine X_r K (rd_field rfl fld106_1 K rfl) M ?_; clear K
    refine Y_r (fun _ K => rd_ldC rfl sc3 K rfl (inM 0 rfl) rfl) M ?_
    iterate 3 (refine Y_o M ?_)
    intro a K
    rcases Bool.eq_false_or_eq_true (decide (top ≤ e6.2)) with hb | hb
    · have h := ctrue hb h
      have K := K.reb (s := 42) rfl hb
      refine X_r K (rd_field rfl fld106_1 K rfl) M ?_; clear K
      refine Y_r (fun _ K => rd_ldC rfl sc3 K rfl (inM 0 rfl) rfl) M ?_
      iterate 5 (refine Y_o M ?_)
      intro a K
      refine wpList_nil (then_n ?_)
      refine X_cond K rfl (fun hb => ?_) (fun hb => ?_)
      · have h := ctrue hb h
        refine X_reg ?_
        refine X_o K M ?_; clear K
        refine Y_r (fun _ K => rd_field rfl fld106_0 K rfl) M ?_
        refine Y_r (fun _ K => rd_ldC rfl sc3 K rfl (inM 0 rfl) rfl) M ?_
        refine Y_r (fun _ K => rd_field rfl fld106_1 K rfl) M ?_
        refine Y_r (fun _ K => rd_ldC rfl sc3 K rfl (inM 0 rfl) rfl) M ?_
        iterate 2 (refine Y_o M ?_)
        refine Y_r (fun _ K => rd_build rfl K (vs := [(0, I e6.1), (1, I (IntKind.i64.wrap (e6.2 - top)))]) (cs := [I e6.1, I (IntKind.i64.wrap (e6.2 - top))]) rfl (by kernel_rfl)) M ?_; intro a K
        refine X_a K (ac_bslice rfl sl37 z106 K (vs := [(0, .agg #[I e6.1, I (IntKind.i64.wrap (e6.2 - top))])]) (cs := [I e6.1, I (IntKind.i64.wrap (e6.2 - top))]) rfl (by kernel_rfl) rfl rfl M) ?_
        have M0 := M; clear K M; rintro _ a w ⟨gs6, rfl, M⟩ K
        replace M := M.asRow 0 rfl cII ([(e6.1, IntKind.i64.wrap (e6.2 - top))] : List (Int × Int)) (n := 1) rfl rfl rfl
        clear M0
        obtain ⟨l10, h_l10, h⟩ := obind h
        refine X_a K (ac_app (C := cII) (xs := l8) (ys := ([(e6.1, IntKind.i64.wrap (e6.2 - top))] : List (Int × Int))) rfl sl37 rfl z106 rfl rfl K rfl rfl 2 M rfl ((inR (C := cII) 0 rfl rfl) _ M) h_l10) ?_
        clear K M; rintro _ a w ⟨A9, c9, rfl, M⟩ K
        refine X_o K M ?_; clear K; intro a K
        refine wpList_nil (inb_n (then_n (X_reg ?_)))
        refine X_o K M ?_; clear K
        refine Y_o M ?_; intro a K
        refine wpList_nil ?_
        exact then_n ⟨(l10, IntKind.i64.wrap (i3 + 1)), ⟨A9, c9, K.pick [1,2,3,6,7,32,33,34], M.pick [2,3,4] (by decide)⟩, h⟩
      have h := cfalse hb h
      refine wp_skip (inb_n (then_n (X_reg ?_)))
      refine X_o K M ?_; clear K
      refine Y_o M ?_; intro a K
      refine wpList_nil ?_
      exact then_n ⟨(l8, IntKind.i64.wrap (i3 + 1)), ⟨A7, c7, K.pick [1,2,3,6,7,32,33,34], M.pick [1,2,3] (by decide)⟩, h⟩
    have h := cfalse hb h
    have K := K.reb (s := 42) rfl hb
    refine X_o K M ?_; clear K
    iterate 6 (refine Y_o M ?_)
    intro a K
    refine wpList_nil (then_n ?_)
    refine X_condF K rfl ?_
    refine wp_skip (inb_n (then_n (X_reg ?_)))
    refine X_o K M ?_; clear K
    refine Y_o M ?_; intro a K
    refine wpList_nil ?_
    exact then_n ⟨(l8, IntKind.i64.wrap (i3 + 1)), ⟨A7, c7, K.pick [1,2,3,6,7,32,33,34], M.pick [1,2,3] (by decide)⟩, h⟩
  have h := cfalse hb h
  refine wp_exit ?_
  refine then_e ?_
  exact then_e (hk2 (l8, i3) _ _ ⟨A7, c7, K.pick [1,2,3,6,7,32,33,34], M.pick [0,1,2] (by decide)⟩ h)
set_option maxRecDepth 100000 in
set_option maxHeartbeats 4000000 in
theorem W_line_Part (N : Nat) (da : Int) (db0 : Int) (db1 : Int) (db2 : Int) (db3 : Int) (dc : Int) (dd : List (Int × Int)) (Add : Option Addr) (cdd : Nat) (de0 : Int) (de1 : Int) (de2 : Int) (df0 : Int) (df1 : Int) (df2 : Int) (df3 : Int) (df4 : Int) (df5 : Int) (df6 : Int) (df7 : Int) (df8 : Int) (dg : List (Int × Int)) (Adg : Option Addr) (cdg : Nat) (dh : Int) (o_W : Int) (o_H : Int) (o_P : List Int) (A_o_P : Option Addr) (c_o_P : Nat) (p2 : Int) (p3 : Int) (p4 : Int) (p5 : Int) (w0 : World) (Rdd : SL w0 cII Add dd) (Cdd : dd.length ≤ cdd) (Rdg : SL w0 cII Adg dg) (Cdg : dg.length ≤ cdg) (R_o_P : SL w0 (cI .i64) A_o_P o_P) (C_o_P : o_P.length ≤ c_o_P) (r : Int × Int × List (Int × Int × Int) × Int) (h : D_line_Part N da db0 db1 db2 db3 dc dd de0 de1 de2 df0 df1 df2 df3 df4 df5 df6 df7 df8 dg dh o_W o_H o_P p2 p3 p4 p5 = some r) :
    Calls Try.prog 21 #[.agg #[I da, I db0, I db1, I db2, I db3, I dc, .slice Add dd.length cdd, I de0, I de1, I de2, I df0, I df1, I df2, I df3, I df4, I df5, I df6, I df7, I df8, .slice Adg dg.length cdg, I dh], .agg #[I o_W, I o_H, .slice A_o_P o_P.length c_o_P], I p2, I p3, I p4, I p5] w0 fun e w' => ∃ v, e = .returned v ∧ ∃ A2 c2, v = .tuple #[.agg #[I r.1, I r.2.1, .slice A2 r.2.2.1.length c2], I r.2.2.2] ∧ Mem w0.heap.size w0 w' [.row 34 3 A2 r.2.2.1.length c2 (cIII.all r.2.2.1)] := by
  refine X_enter Try.func21 rfl Try.ntmps21 rfl ?_
  intro a K
  have M := Mem.start w0
  have K : Kn a 129 [(0, .agg #[I da, I db0, I db1, I db2, I db3, I dc, .slice Add dd.length cdd, I de0, I de1, I de2, I df0, I df1, I df2, I df3, I df4, I df5, I df6, I df7, I df8, .slice Adg dg.length cdg, I dh]), (1, .agg #[I o_W, I o_H, .slice A_o_P o_P.length c_o_P]), (2, I p2), (3, I p3), (4, I p4), (5, I p5)] := K
  unfold D_line_Part at h
  refine wp_seq (X_reg ?_)
  refine X_a K (ac_box rfl K rfl (cs := [I da, I db0, I db1, I db2, I db3, I dc, .slice Add dd.length cdd, I de0, I de1, I de2, I df0, I df1, I df2, I df3, I df4, I df5, I df6, I df7, I df8, .slice Adg dg.length cdg, I dh]) rfl M) ?_
  clear K M; rintro _ a w ⟨g_x, rfl, M⟩ K
  refine X_a K (ac_box rfl K rfl (cs := [I o_W, I o_H, .slice A_o_P o_P.length c_o_P]) rfl M) ?_
  clear K M; rintro _ a w ⟨g_x2, rfl, M⟩ K
  refine X_a K (ac_alloc rfl z24 M) ?_
  clear K M; rintro _ a w ⟨g_x3, rfl, M⟩ K
  refine X_o K M ?_; clear K; intro a K
  refine wpList_nil (then_n (wp_seq (wp_seq (X_reg ?_))))
  refine X_r K (rd_ldA rfl ty42 K rfl (inM 2 rfl) rfl rfl) M ?_; clear K; intro a K
  obtain ⟨r2, h_r2, h⟩ := obind h
  refine X_a K (ac_call (vs := [.agg #[I da, I db0, I db1, I db2, I db3, I dc, .slice Add dd.length cdd, I de0, I de1, I de2, I df0, I df1, I df2, I df3, I df4, I df5, I df6, I df7, I df8, .slice Adg dg.length cdg, I dh]]) (cap := []) rfl fok19 K rfl rfl (W_line_Check N da db0 db1 db2 db3 dc dd Add cdd de0 de1 de2 df0 df1 df2 df3 df4 df5 df6 df7 df8 dg Adg cdg dh _ ((inA Rdd) _ M) Cdd ((inA Rdg) _ M) Cdg r2 h_r2)) ?_
  have M0 := M; clear K M; rintro _ a w ⟨rfl, M⟩ K
  replace M := M0.call M; clear M0
  refine X_o K M ?_; clear K; intro a K
  refine wpList_nil (then_n (wp_seq (X_reg ?_)))
  refine X_o K M ?_; clear K
  refine Y_o M ?_; intro a K
  refine wpList_nil (then_n ?_)
  refine X_cond K rfl (fun hb => ?_) (fun hb => ?_)
  · have h := ctrue hb h
    refine wp_seq (X_reg ?_)
    refine X_r K (rd_build rfl K (vs := []) (cs := [I 0, I 0, .slice none (([] : List (Int × Int × Int))).length 0]) rfl (by kernel_rfl)) M ?_; clear K
    refine Y_o M ?_; intro a K
    refine X_b K (ac_storeA rfl ty24 K rfl (ds := [I 0, I 0, .slice none (([] : List (Int × Int × Int))).length 0]) rfl rfl 0 M rfl rfl rfl) ?_
    clear K M; rintro _ a w M K
    refine X_o K M ?_; clear K; intro a K
    refine wpList_nil (then_n (wp_ret (then_r ?_)))
    cases h
    exact ret2 K rfl (res_cellA K rfl ty24 (M.blkAt (i := 0) rfl) rfl) (res_tmp K rfl) ⟨_, rfl, _, _, rfl, (((Mem.nilrow 34 3 cIII M)).pick [0] (by decide))⟩
  have h := cfalse hb h
  refine wp_skip (then_n (wp_seq (wp_seq (X_reg ?_))))
  refine X_r K (rd_ldA rfl ty45 K rfl (inM 1 rfl) rfl rfl) M ?_; clear K; intro a K
  obtain ⟨r3, h_r3, h⟩ := obind h
  refine X_a K (ac_call (vs := [.agg #[I o_W, I o_H, .slice A_o_P o_P.length c_o_P], .slice none (([] : List (Int × Int))).length 0]) (cap := []) rfl fok53 K rfl rfl (W_sensor_Repair N o_W o_H o_P A_o_P c_o_P (([] : List (Int × Int))) none 0 _ ((inA R_o_P) _ M) C_o_P ((fun _ _ => SL.nil) _ M) (Nat.le_refl _) r3 h_r3)) ?_
  have M0 := M; clear K M; rintro _ a w ⟨A, c, rfl, M⟩ K
  replace M := M0.call M; clear M0
  refine X_o K M ?_; clear K
  iterate 2 (refine Y_o M ?_)
  intro a K
  refine X_a K (ac_alloc rfl z45 M) ?_
  clear K M; rintro _ a w ⟨g_x4, rfl, M⟩ K
  refine X_b K (ac_storeA rfl ty45 K rfl (ds := [I r3.1, I r3.2.1, .slice A r3.2.2.1.length c]) rfl rfl 0 M rfl rfl rfl) ?_
  clear K M; rintro _ a w M K
  refine X_o K M ?_; clear K; intro a K
  refine wpList_nil (then_n (wp_seq (X_reg ?_)))
  refine X_o K M ?_; clear K
  refine Y_o M ?_; intro a K
  refine wpList_nil (then_n ?_)
  refine X_cond K rfl (fun hb => ?_) (fun hb => ?_)
  · have h := ctrue hb h
    refine wp_seq (X_reg ?_)
    refine X_r K (rd_build rfl K (vs := []) (cs := [I 0, I 0, .slice none (([] : List (Int × Int × Int))).length 0]) rfl (by kernel_rfl)) M ?_; clear K
    refine Y_o M ?_; intro a K
    refine X_b K (ac_storeA rfl ty24 K rfl (ds := [I 0, I 0, .slice none (([] : List (Int × Int × Int))).length 0]) rfl rfl 2 M rfl rfl rfl) ?_
    clear K M; rintro _ a w M K
    refine X_o K M ?_; clear K; intro a K
    refine wpList_nil (then_n (wp_ret (then_r ?_)))
    cases h
    exact ret2 K rfl (res_cellA K rfl ty24 (M.blkAt (i := 2) rfl) rfl) (res_tmp K rfl) ⟨_, rfl, _, _, rfl, (((Mem.nilrow 34 3 cIII M)).pick [0] (by decide))⟩
  have h := cfalse hb h
  refine wp_skip (then_n (wp_seq (wp_seq (X_reg ?_))))
  refine X_o K M ?_; clear K; intro a K
  refine X_a K (ac_bslice rfl sl43 z3 K (vs := [(0, I p3)]) (cs := [I p3]) rfl (by kernel_rfl) rfl rfl M) ?_
  have M0 := M; clear K M; rintro _ a w ⟨gs, rfl, M⟩ K
  replace M := M.asRow 0 rfl (cI .i64) ([p3] : List Int) (n := 1) rfl rfl rfl
  clear M0
  obtain ⟨r4, h_r4, h⟩ := obind h
  refine X_a K (ac_call (vs := [I 1, I 64, .slice (some ⟨gs, 0, none⟩) ([p3] : List Int).length 1]) (cap := []) rfl fok49 K rfl rfl (W_line_in N 1 64 ([p3] : List Int) (some ⟨gs, 0, none⟩) 1 _ ((inR (C := (cI .i64)) 0 rfl rfl) _ M) (M.cap 0 rfl) r4 h_r4)) ?_
  have M0 := M; clear K M; rintro _ a w ⟨rfl, M⟩ K
  replace M := M0.call M; clear M0
  refine X_o K M ?_; clear K
  refine Y_o M ?_; intro a K
  rcases Bool.eq_false_or_eq_true (!(r4)) with hb | hb
  · have h := ctrue hb h
    have K := K.reb (s := 38) rfl hb
    refine X_o K M ?_; clear K
    iterate 52 (refine Y_o M ?_)
    intro a K
    refine wpList_nil (then_n ?_)
    refine X_condT K rfl ?_
    refine wp_seq (X_reg ?_)
    refine X_r K (rd_build rfl K (vs := []) (cs := [I 0, I 0, .slice none (([] : List (Int × Int × Int))).length 0]) rfl (by kernel_rfl)) M ?_; clear K; intro a K
    refine X_b K (ac_storeA rfl ty24 K rfl (ds := [I 0, I 0, .slice none (([] : List (Int × Int × Int))).length 0]) rfl rfl 3 M rfl rfl rfl) ?_
    clear K M; rintro _ a w M K
    refine X_o K M ?_; clear K; intro a K
    refine wpList_nil (then_n (wp_ret (then_r ?_)))
    cases h
    exact ret2 K rfl (res_cellA K rfl ty24 (M.blkAt (i := 3) rfl) rfl) (res_tmp K rfl) ⟨_, rfl, _, _, rfl, (((Mem.nilrow 34 3 cIII M)).pick [0] (by decide))⟩
  have h := cfalse hb h
  have K := K.reb (s := 38) rfl hb
  refine X_o K M ?_; clear K
  refine Y_r (fun _ K => rd_field rfl fld45_1 K rfl) M ?_
  refine Y_r (fun _ K => rd_ldC rfl sc3 K rfl (inM 4 rfl) rfl) M ?_
  iterate 2 (refine Y_o M ?_)
  intro a K
  refine X_a K (ac_bslice rfl sl43 z3 K (vs := [(0, I p2)]) (cs := [I p2]) rfl (by kernel_rfl) rfl rfl M) ?_
  have M0 := M; clear K M; rintro _ a w ⟨gs2, rfl, M⟩ K
  replace M := M.asRow 0 rfl (cI .i64) ([p2] : List Int) (n := 1) rfl rfl rfl
  clear M0
  obtain ⟨r5, h_r5, h⟩ := obind h
  refine X_a K (ac_call (vs := [I 0, I (IntKind.i64.wrap (p3 - o_H)), .slice (some ⟨gs2, 0, none⟩) ([p2] : List Int).length 1]) (cap := []) rfl fok49 K rfl rfl (W_line_in N 0 (IntKind.i64.wrap (p3 - o_H)) ([p2] : List Int) (some ⟨gs2, 0, none⟩) 1 _ ((inR (C := (cI .i64)) 0 rfl rfl) _ M) (M.cap 0 rfl) r5 h_r5)) ?_
  have M0 := M; clear K M; rintro _ a w ⟨rfl, M⟩ K
  replace M := M0.call M; clear M0
  refine X_o K M ?_; clear K
  iterate 2 (refine Y_o M ?_)
  intro a K
  rcases Bool.eq_false_or_eq_true (!(r5)) with hb | hb
  · have h := ctrue hb h
    have K := K.reb (s := 48) rfl hb
    refine X_o K M ?_; clear K
    iterate 42 (refine Y_o M ?_)
    intro a K
    refine wpList_nil (then_n ?_)
    refine X_condT K rfl ?_
    refine wp_seq (X_reg ?_)
    refine X_r K (rd_build rfl K (vs := []) (cs := [I 0, I 0, .slice none (([] : List (Int × Int × Int))).length 0]) rfl (by kernel_rfl)) M ?_; clear K; intro a K
    refine X_b K (ac_storeA rfl ty24 K rfl (ds := [I 0, I 0, .slice none (([] : List (Int × Int × Int))).length 0]) rfl rfl 4 M rfl rfl rfl) ?_
    clear K M; rintro _ a w M K
    refine X_o K M ?_; clear K; intro a K
    refine wpList_nil (then_n (wp_ret (then_r ?_)))
    cases h
    exact ret2 K rfl (res_cellA K rfl ty24 (M.blkAt (i := 4) rfl) rfl) (res_tmp K rfl) ⟨_, rfl, _, _, rfl, (((Mem.nilrow 34 3 cIII M)).pick [0] (by decide))⟩
  have h := cfalse hb h
  have K := K.reb (s := 48) rfl hb
  refine X_o K M ?_; clear K
  iterate 2 (refine Y_o M ?_)
  intro a K
  refine X_a K (ac_bslice rfl sl43 z3 K (vs := [(0, I p4)]) (cs := [I p4]) rfl (by kernel_rfl) rfl rfl M) ?_
  have M0 := M; clear K M; rintro _ a w ⟨gs3, rfl, M⟩ K
  replace M := M.asRow 0 rfl (cI .i64) ([p4] : List Int) (n := 1) rfl rfl rfl
  clear M0
  obtain ⟨r6, h_r6, h⟩ := obind h
  refine X_a K (ac_call (vs := [I 0, I (IntKind.i64.wrap (p3 - 1)), .slice (some ⟨gs3, 0, none⟩) ([p4] : List Int).length 1]) (cap := []) rfl fok49 K rfl rfl (W_line_in N 0 (IntKind.i64.wrap (p3 - 1)) ([p4] : List Int) (some ⟨gs3, 0, none⟩) 1 _ ((inR (C := (cI .i64)) 0 rfl rfl) _ M) (M.cap 0 rfl) r6 h_r6)) ?_
  have M0 := M; clear K M; rintro _ a w ⟨rfl, M⟩ K
  replace M := M0.call M; clear M0
  refine X_o K M ?_; clear K
  iterate 2 (refine Y_o M ?_)
  intro a K
  rcases Bool.eq_false_or_eq_true (!(r6)) with hb | hb
  · have h := ctrue hb h
    have K := K.reb (s := 56) rfl hb
    refine X_o K M ?_; clear K
    iterate 34 (refine Y_o M ?_)
    intro a K
    refine wpList_nil (then_n ?_)
    refine X_condT K rfl ?_
    refine wp_seq (X_reg ?_)
    refine X_r K (rd_build rfl K (vs := []) (cs := [I 0, I 0, .slice none (([] : List (Int × Int × Int))).length 0]) rfl (by kernel_rfl)) M ?_; clear K; intro a K
    refine X_b K (ac_storeA rfl ty24 K rfl (ds := [I 0, I 0, .slice none (([] : List (Int × Int × Int))).length 0]) rfl rfl 5 M rfl rfl rfl) ?_
    clear K M; rintro _ a w M K
    refine X_o K M ?_; clear K; intro a K
    refine wpList_nil (then_n (wp_ret (then_r ?_)))
    cases h
    exact ret2 K rfl (res_cellA K rfl ty24 (M.blkAt (i := 5) rfl) rfl) (res_tmp K rfl) ⟨_, rfl, _, _, rfl, (((Mem.nilrow 34 3 cIII M)).pick [0] (by decide))⟩
  have h := cfalse hb h
  have K := K.reb (s := 56) rfl hb
  refine X_o K M ?_; clear K
  iterate 3 (refine Y_o M ?_)
  intro a K
  refine X_a K (ac_bslice rfl sl43 z3 K (vs := [(0, I p5)]) (cs := [I p5]) rfl (by kernel_rfl) rfl rfl M) ?_
  have M0 := M; clear K M; rintro _ a w ⟨gs4, rfl, M⟩ K
  replace M := M.asRow 0 rfl (cI .i64) ([p5] : List Int) (n := 1) rfl rfl rfl
  clear M0
  obtain ⟨r7, h_r7, h⟩ := obind h
  refine X_a K (ac_call (vs := [I (IntKind.i64.wrap (p4 + 1)), I p3, .slice (some ⟨gs4, 0, none⟩) ([p5] : List Int).length 1]) (cap := []) rfl fok49 K rfl rfl (W_line_in N (IntKind.i64.wrap (p4 + 1)) p3 ([p5] : List Int) (some ⟨gs4, 0, none⟩) 1 _ ((inR (C := (cI .i64)) 0 rfl rfl) _ M) (M.cap 0 rfl) r7 h_r7)) ?_
  have M0 := M; clear K M; rintro _ a w ⟨rfl, M⟩ K
  replace M := M0.call M; clear M0
  refine X_o K M ?_; clear K
  iterate 2 (refine Y_o M ?_)
  intro a K
  rcases Bool.eq_false_or_eq_true (!(r7)) with hb | hb
  · have h := ctrue hb h
    have K := K.reb (s := 65) rfl hb
    refine X_o K M ?_; clear K
    iterate 25 (refine Y_o M ?_)
    intro a K
    refine wpList_nil (then_n ?_)
    refine X_condT K rfl ?_
    refine wp_seq (X_reg ?_)
    refine X_r K (rd_build rfl K (vs := []) (cs := [I 0, I 0, .slice none (([] : List (Int × Int × Int))).length 0]) rfl (by kernel_rfl)) M ?_; clear K; intro a K
    refine X_b K (ac_storeA rfl ty24 K rfl (ds := [I 0, I 0, .slice none (([] : List (Int × Int × Int))).length 0]) rfl rfl 6 M rfl rfl rfl) ?_
    clear K M; rintro _ a w M K
    refine X_o K M ?_; clear K; intro a K
    refine wpList_nil (then_n (wp_ret (then_r ?_)))
    cases h
    exact ret2 K rfl (res_cellA K rfl ty24 (M.blkAt (i := 6) rfl) rfl) (res_tmp K rfl) ⟨_, rfl, _, _, rfl, (((Mem.nilrow 34 3 cIII M)).pick [0] (by decide))⟩
  have h := cfalse hb h
  have K := K.reb (s := 65) rfl hb
  refine X_o K M ?_; clear K
  iterate 6 (refine Y_o M ?_)
  intro a K
  rcases Bool.eq_false_or_eq_true (decide ((max (IntKind.i64.wrap (p4 - 4)) 0) < p2)) with hb | hb
  · have h := ctrue hb h
    have K := K.reb (s := 72) rfl hb
    refine X_o K M ?_; clear K
    iterate 18 (refine Y_o M ?_)
    intro a K
    refine wpList_nil (then_n ?_)
    refine X_condT K rfl ?_
    refine wp_seq (X_reg ?_)
    refine X_r K (rd_build rfl K (vs := []) (cs := [I 0, I 0, .slice none (([] : List (Int × Int × Int))).length 0]) rfl (by kernel_rfl)) M ?_; clear K; intro a K
    refine X_b K (ac_storeA rfl ty24 K rfl (ds := [I 0, I 0, .slice none (([] : List (Int × Int × Int))).length 0]) rfl rfl 6 M rfl rfl rfl) ?_
    clear K M; rintro _ a w M K
    refine X_o K M ?_; clear K; intro a K
    refine wpList_nil (then_n (wp_ret (then_r ?_)))
    cases h
    exact ret2 K rfl (res_cellA K rfl ty24 (M.blkAt (i := 6) rfl) rfl) (res_tmp K rfl) ⟨_, rfl, _, _, rfl, (((Mem.nilrow 34 3 cIII M)).pick [0] (by decide))⟩
  have h := cfalse hb h
  have K := K.reb (s := 72) rfl hb
  refine X_o K M ?_; clear K
  refine Y_r (fun _ K => rd_field rfl fld45_1 K rfl) M ?_
  refine Y_r (fun _ K => rd_ldC rfl sc3 K rfl (inM 7 rfl) rfl) M ?_
  iterate 8 (refine Y_o M ?_)
  intro a K
  rcases Bool.eq_false_or_eq_true (decide ((IntKind.i64.wrap (p2 + o_H)) < (min (IntKind.i64.wrap (p5 + 4)) p3))) with hb | hb
  · have h := ctrue hb h
    have K := K.reb (s := 83) rfl hb
    refine X_o K M ?_; clear K
    iterate 7 (refine Y_o M ?_)
    intro a K
    refine wpList_nil (then_n ?_)
    refine X_condT K rfl ?_
    refine wp_seq (X_reg ?_)
    refine X_r K (rd_build rfl K (vs := []) (cs := [I 0, I 0, .slice none (([] : List (Int × Int × Int))).length 0]) rfl (by kernel_rfl)) M ?_; clear K; intro a K
    refine X_b K (ac_storeA rfl ty24 K rfl (ds := [I 0, I 0, .slice none (([] : List (Int × Int × Int))).length 0]) rfl rfl 6 M rfl rfl rfl) ?_
    clear K M; rintro _ a w M K
    refine X_o K M ?_; clear K; intro a K
    refine wpList_nil (then_n (wp_ret (then_r ?_)))
    cases h
    exact ret2 K rfl (res_cellA K rfl ty24 (M.blkAt (i := 6) rfl) rfl) (res_tmp K rfl) ⟨_, rfl, _, _, rfl, (((Mem.nilrow 34 3 cIII M)).pick [0] (by decide))⟩
  have h := cfalse hb h
  have K := K.reb (s := 83) rfl hb
  refine X_r K (rd_field rfl fld42_3 K rfl) M ?_; clear K
  refine Y_r (fun _ K => rd_ldC rfl sc37 K rfl (inM 8 rfl) rfl) M ?_
  refine Y_r (fun _ K => rd_field rfl fld45_0 K rfl) M ?_
  refine Y_r (fun _ K => rd_ldC rfl sc3 K rfl (inM 7 rfl) rfl) M ?_
  refine Y_o M ?_; intro a K
  obtain ⟨r8, h_r8, h⟩ := obind h
  refine X_a K (ac_call (vs := [.slice Add dd.length cdd, I o_W, I p3]) (cap := []) rfl fok50 K rfl rfl (W_line_spots N dd Add cdd o_W p3 _ ((inA Rdd) _ M) Cdd r8 h_r8)) ?_
  have M0 := M; clear K M; rintro _ a w ⟨rfl, M⟩ K
  replace M := M0.call M; clear M0
  refine X_o K M ?_; clear K
  refine Y_o M ?_; intro a K
  refine wpList_nil (then_n ?_)
  refine X_cond K rfl (fun hb => ?_) (fun hb => ?_)
  · have h := ctrue hb h
    refine wp_seq (X_reg ?_)
    refine X_r K (rd_build rfl K (vs := []) (cs := [I 0, I 0, .slice none (([] : List (Int × Int × Int))).length 0]) rfl (by kernel_rfl)) M ?_; clear K; intro a K
    refine X_b K (ac_storeA rfl ty24 K rfl (ds := [I 0, I 0, .slice none (([] : List (Int × Int × Int))).length 0]) rfl rfl 6 M rfl rfl rfl) ?_
    clear K M; rintro _ a w M K
    refine X_o K M ?_; clear K; intro a K
    refine wpList_nil (then_n (wp_ret (then_r ?_)))
    cases h
    exact ret2 K rfl (res_cellA K rfl ty24 (M.blkAt (i := 6) rfl) rfl) (res_tmp K rfl) ⟨_, rfl, _, _, rfl, (((Mem.nilrow 34 3 cIII M)).pick [0] (by decide))⟩
  have h := cfalse hb h
  refine wp_skip (then_n (wp_seq ?_))
  refine wp_region_tr (fun w => Mem _ _ w _) [0,0,0,0,1,0,1,0,0,0,1,1,0] 13 [0,1,2,3,4,5,6,7,8,9,10,11,12] (by kernel_rfl) (by kernel_rfl) (by kernel_rfl) rfl M.drew ?_
  replace M := M.drew
  refine R_rd 0 [1,2,3,4,5,6,7,8,9,10,11,12] (by kernel_rfl) rfl K (want_no rfl) rfl rfl (rd_ldA rfl ty42 K rfl (inM 8 rfl) rfl rfl) ?_; clear K; intro a K
  refine R_rd 1 [2,3,4,5,6,7,8,9,10,11,12] (by kernel_rfl) rfl K (want_no rfl) rfl rfl (rd_move rfl K rfl) ?_; clear K; intro a K
  refine R_rd 2 [3,4,5,6,7,8,9,10,11,12] (by kernel_rfl) rfl K (want_no rfl) rfl rfl (rd_field rfl fld45_1 K rfl) ?_; clear K; intro a K
  refine R_rd 3 [4,5,6,7,8,9,10,11,12] (by kernel_rfl) rfl K (want_no rfl) rfl rfl (rd_ldC rfl sc3 K rfl (inM 7 rfl) rfl) ?_; clear K; intro a K
  refine R_rd 5 [4,6,7,8,9,10,11,12] (by kernel_rfl) rfl K (want_no rfl) rfl rfl (rd_ldA rfl ty45 K rfl (inM 7 rfl) rfl rfl) ?_; clear K; intro a K
  refine R_br [4,10] (by kernel_rfl) ⟨?_, ?_, trivial⟩
  ·
    obtain ⟨r9, h_r9, h⟩ := obind h
    refine R_ac [6,7,8,9,10,11,12] (by kernel_rfl) rfl K (want_no rfl) rfl rfl (ac_call (vs := [.agg #[I da, I db0, I db1, I db2, I db3, I dc, .slice Add dd.length cdd, I de0, I de1, I de2, I df0, I df1, I df2, I df3, I df4, I df5, I df6, I df7, I df8, .slice Adg dg.length cdg, I dh], I p2, I o_H]) (cap := []) rfl fok54 K rfl rfl (W_line_down N da db0 db1 db2 db3 dc dd Add cdd de0 de1 de2 df0 df1 df2 df3 df4 df5 df6 df7 df8 dg Adg cdg dh p2 o_H _ ((inA Rdd) _ M) Cdd ((inA Rdg) _ M) Cdg r9 h_r9)) ?_
    have M0 := M; clear K M; rintro _ a w ⟨A2, c2, rfl, _, M⟩ K
    replace M := M0.call M; clear M0
    refine ⟨fun _ => M.pick [1,2,3,4,5,6,7,8,9] (by decide), ?_⟩
    refine R_br [6,10] (by kernel_rfl) ⟨?_, ?_, trivial⟩
    ·
      obtain ⟨r10, h_r10, h⟩ := obind h
      refine R_ac [7,8,9,10,11,12] (by kernel_rfl) rfl K (want_no rfl) rfl rfl (ac_call (vs := [.agg #[I r9.1, I r9.2.1, I r9.2.2.1, I r9.2.2.2.1, I r9.2.2.2.2.1, I r9.2.2.2.2.2.1, .slice A2 r9.2.2.2.2.2.2.1.length c2, I r9.2.2.2.2.2.2.2.1, I r9.2.2.2.2.2.2.2.2.1, I r9.2.2.2.2.2.2.2.2.2.1, I r9.2.2.2.2.2.2.2.2.2.2.1, I r9.2.2.2.2.2.2.2.2.2.2.2.1, I r9.2.2.2.2.2.2.2.2.2.2.2.2.1, I r9.2.2.2.2.2.2.2.2.2.2.2.2.2.1, I r9.2.2.2.2.2.2.2.2.2.2.2.2.2.2.1, I r9.2.2.2.2.2.2.2.2.2.2.2.2.2.2.2.1, I r9.2.2.2.2.2.2.2.2.2.2.2.2.2.2.2.2.1, I r9.2.2.2.2.2.2.2.2.2.2.2.2.2.2.2.2.2.1, I r9.2.2.2.2.2.2.2.2.2.2.2.2.2.2.2.2.2.2.1, .slice Adg dg.length cdg, I r9.2.2.2.2.2.2.2.2.2.2.2.2.2.2.2.2.2.2.2.2], .agg #[I o_W, I o_H, .slice A_o_P o_P.length c_o_P]]) (cap := []) rfl fok15 K rfl rfl (W_line_Whole N r9.1 r9.2.1 r9.2.2.1 r9.2.2.2.1 r9.2.2.2.2.1 r9.2.2.2.2.2.1 r9.2.2.2.2.2.2.1 A2 c2 r9.2.2.2.2.2.2.2.1 r9.2.2.2.2.2.2.2.2.1 r9.2.2.2.2.2.2.2.2.2.1 r9.2.2.2.2.2.2.2.2.2.2.1 r9.2.2.2.2.2.2.2.2.2.2.2.1 r9.2.2.2.2.2.2.2.2.2.2.2.2.1 r9.2.2.2.2.2.2.2.2.2.2.2.2.2.1 r9.2.2.2.2.2.2.2.2.2.2.2.2.2.2.1 r9.2.2.2.2.2.2.2.2.2.2.2.2.2.2.2.1 r9.2.2.2.2.2.2.2.2.2.2.2.2.2.2.2.2.1 r9.2.2.2.2.2.2.2.2.2.2.2.2.2.2.2.2.2.1 r9.2.2.2.2.2.2.2.2.2.2.2.2.2.2.2.2.2.2.1 dg Adg cdg r9.2.2.2.2.2.2.2.2.2.2.2.2.2.2.2.2.2.2.2.2 o_W o_H o_P A_o_P c_o_P _ ((inR (C := cII) 0 rfl rfl) _ M) (M.cap 0 rfl) ((inA Rdg) _ M) Cdg ((inA R_o_P) _ M) C_o_P r10 h_r10)) ?_
      have M0 := M; clear K M; rintro _ a w ⟨A3, c3, rfl, M⟩ K
      replace M := M0.call M; clear M0
      refine ⟨fun _ => M.pick [2,3,4,5,6,7,8,9,10] (by decide), ?_⟩
      refine R_rd 7 [8,9,10,11,12] (by kernel_rfl) rfl K (want_no rfl) rfl rfl (rd_move rfl K rfl) ?_; clear K; intro a K
      refine R_rd 8 [9,10,11,12] (by kernel_rfl) rfl K (want_no rfl) rfl rfl (rd_extract rfl K rfl rfl) ?_; clear K; intro a K
      refine R_rd 9 [10,11,12] (by kernel_rfl) rfl K (want_no rfl) rfl rfl (rd_extract rfl K rfl rfl) ?_; clear K; intro a K
      refine R_br [10] (by kernel_rfl) ⟨?_, trivial⟩
      refine R_ac [11,12] (by kernel_rfl) rfl K (want_no rfl) rfl rfl (ac_alloc rfl z24 M) ?_
      clear K M; rintro _ a w ⟨g_x5, rfl, M⟩ K
      refine ⟨fun _ => M.pick [3,4,5,6,7,8,9,10,11] (by decide), ?_⟩
      refine R_br [11] (by kernel_rfl) ⟨?_, trivial⟩
      refine R_a0 [12] (by kernel_rfl) rfl K (want_no rfl) rfl (ac_storeA rfl ty24 K rfl (ds := [I r10.1, I r10.2.1, .slice A3 r10.2.2.1.length c3]) rfl rfl 0 M rfl rfl rfl) ?_
      clear K M; rintro _ a w M K
      refine ⟨fun _ => M.pick [3,4,5,6,7,8,9,10,11] (by decide), ?_⟩
      refine R_rd 12 [] (by kernel_rfl) rfl K (want_no rfl) rfl rfl (rd_assign rfl K rfl) ?_; clear K; intro a K
      refine R_end ?_
      refine then_n (wp_seq (wp_seq (X_reg ?_)))
      refine X_o K M ?_; clear K
      refine Y_o M ?_; intro a K
      refine wpList_nil (then_n ?_)
      refine X_cond K rfl (fun hb => ?_) (fun hb => ?_)
      · have h := ctrue hb h
        refine wp_seq (X_reg ?_)
        refine X_r K (rd_build rfl K (vs := []) (cs := [I 0, I 0, .slice none (([] : List (Int × Int × Int))).length 0]) rfl (by kernel_rfl)) M ?_; clear K
        refine Y_o M ?_; intro a K
        refine X_b K (ac_storeA rfl ty24 K rfl (ds := [I 0, I 0, .slice none (([] : List (Int × Int × Int))).length 0]) rfl rfl 9 M rfl rfl rfl) ?_
        clear K M; rintro _ a w M K
        refine X_o K M ?_; clear K; intro a K
        refine wpList_nil (then_n (wp_ret (then_r ?_)))
        cases h
        exact ret2 K rfl (res_cellA K rfl ty24 (M.blkAt (i := 9) rfl) rfl) (res_tmp K rfl) ⟨_, rfl, _, _, rfl, (((Mem.nilrow 34 3 cIII M)).pick [0] (by decide))⟩
      have h := cfalse hb h
      refine wp_skip (then_n (wp_seq ?_))
      refine wp_region_tl (fun w => Mem _ _ w _) [0,0,0,0,0,0,0,0,0,0,0,0,0,0,0,0,0,0,0,0,1,0,1,0] (by kernel_rfl) (by kernel_rfl) (M.pick [0,1,2,3,4,5,6,7,8,10,11] (by decide)).drew ?_
      replace M := M.drew
      refine T_r K (rd_field rfl fld24_0 K rfl) ?_; clear K
      refine U_r (fun _ K => rd_ldC rfl sc3 K rfl (inM 0 rfl) rfl) ?_
      iterate 3 (refine U_o ?_)
      refine U_r (fun _ K => rd_field rfl fld24_2 K rfl) ?_
      refine U_r (fun _ K => rd_ldC rfl sc22 K rfl (inM 0 rfl) rfl) ?_
      iterate 3 (refine U_o ?_)
      refine U_r (fun _ K => rd_field rfl fld24_0 K rfl) ?_
      refine U_r (fun _ K => rd_ldC rfl sc3 K rfl (inM 0 rfl) rfl) ?_
      iterate 4 (refine U_o ?_)
      refine U_r (fun _ K => rd_field rfl fld24_0 K rfl) ?_
      refine U_r (fun _ K => rd_ldC rfl sc3 K rfl (inM 0 rfl) rfl) ?_
      refine U_o ?_
      obtain ⟨l2, h_l2, h⟩ := obind h
      refine U_r (fun _ K => rd_slice (C := cIII) (k := .i64) (k' := .i64) rfl sl22 rfl K rfl (M.cap 1 rfl) rfl rfl h_l2) ?_; intro a K
      obtain ⟨r11, h_r11, h⟩ := obind h
      refine T_a K (ac_call (vs := [.slice ((slA A3 c3 (IntKind.i64.wrap ((IntKind.i64.wrap (p4 - p2)) * r10.1)) 3)) l2.length ((c3 - Int.toNat (IntKind.i64.wrap ((IntKind.i64.wrap (p4 - p2)) * r10.1))))]) (cap := []) rfl fok55 K rfl rfl (W_slices_Clone__api_Pixel_api_Pixel N l2 ((slA A3 c3 (IntKind.i64.wrap ((IntKind.i64.wrap (p4 - p2)) * r10.1)) 3)) ((c3 - Int.toNat (IntKind.i64.wrap ((IntKind.i64.wrap (p4 - p2)) * r10.1)))) _ ((fun w M => (slA_SL h_l2 (M.cap 1 rfl)) w ((inR (C := cIII) 1 rfl rfl) w M)) _ M) (sli_cap h_l2 (M.cap 1 rfl)) r11 h_r11)) ?_
      have M0 := M; clear K M; rintro _ a w ⟨A4, c4, rfl, M⟩ K
      replace M := M0.call M; clear M0
      refine ⟨M.pick [1,2,3,4,5,6,7,8,9,11,12] (by decide), ?_⟩
      refine T_r K (rd_build rfl K (vs := [(0, I r10.1), (1, I (IntKind.i64.wrap (p5 - p4))), (2, .slice A4 r11.length c4)]) (cs := [I r10.1, I (IntKind.i64.wrap (p5 - p4)), .slice A4 r11.length c4]) rfl (by kernel_rfl)) ?_; clear K; intro a K
      refine T_a0 K (want_no rfl) rfl (ac_storeA rfl ty24 K rfl (ds := [I r10.1, I (IntKind.i64.wrap (p5 - p4)), .slice A4 r11.length c4]) rfl rfl 10 M rfl rfl rfl) ?_
      clear K M; rintro _ a w M K
      refine ⟨M.pick [1,2,3,4,5,6,7,8,9,11,12] (by decide), ?_⟩
      refine T_o K ?_; clear K; intro a K
      refine T_end ?_
      refine then_n (wp_ret ?_)
      cases h
      exact ret2 K rfl (res_cellA K rfl ty24 (M.blkAt (i := 10) rfl) rfl) (res_tmp K rfl) ⟨_, rfl, _, _, rfl, ((M).pick [0] (by decide))⟩
    ·
      refine R_ac [6,7,8,9,11,12] (by kernel_rfl) rfl K (want_no rfl) rfl rfl (ac_alloc rfl z24 M) ?_
      clear K M; rintro _ a w ⟨g_x6, rfl, M⟩ K
      refine ⟨fun _ => M.pick [2,3,4,5,6,7,8,9,10] (by decide), ?_⟩
      refine R_br [6] (by kernel_rfl) ⟨?_, trivial⟩
      obtain ⟨r12, h_r12, h⟩ := obind h
      refine R_ac [7,8,9,11,12] (by kernel_rfl) rfl K (want_no rfl) rfl rfl (ac_call (vs := [.agg #[I r9.1, I r9.2.1, I r9.2.2.1, I r9.2.2.2.1, I r9.2.2.2.2.1, I r9.2.2.2.2.2.1, .slice A2 r9.2.2.2.2.2.2.1.length c2, I r9.2.2.2.2.2.2.2.1, I r9.2.2.2.2.2.2.2.2.1, I r9.2.2.2.2.2.2.2.2.2.1, I r9.2.2.2.2.2.2.2.2.2.2.1, I r9.2.2.2.2.2.2.2.2.2.2.2.1, I r9.2.2.2.2.2.2.2.2.2.2.2.2.1, I r9.2.2.2.2.2.2.2.2.2.2.2.2.2.1, I r9.2.2.2.2.2.2.2.2.2.2.2.2.2.2.1, I r9.2.2.2.2.2.2.2.2.2.2.2.2.2.2.2.1, I r9.2.2.2.2.2.2.2.2.2.2.2.2.2.2.2.2.1, I r9.2.2.2.2.2.2.2.2.2.2.2.2.2.2.2.2.2.1, I r9.2.2.2.2.2.2.2.2.2.2.2.2.2.2.2.2.2.2.1, .slice Adg dg.length cdg, I r9.2.2.2.2.2.2.2.2.2.2.2.2.2.2.2.2.2.2.2.2], .agg #[I o_W, I o_H, .slice A_o_P o_P.length c_o_P]]) (cap := []) rfl fok15 K rfl rfl (W_line_Whole N r9.1 r9.2.1 r9.2.2.1 r9.2.2.2.1 r9.2.2.2.2.1 r9.2.2.2.2.2.1 r9.2.2.2.2.2.2.1 A2 c2 r9.2.2.2.2.2.2.2.1 r9.2.2.2.2.2.2.2.2.1 r9.2.2.2.2.2.2.2.2.2.1 r9.2.2.2.2.2.2.2.2.2.2.1 r9.2.2.2.2.2.2.2.2.2.2.2.1 r9.2.2.2.2.2.2.2.2.2.2.2.2.1 r9.2.2.2.2.2.2.2.2.2.2.2.2.2.1 r9.2.2.2.2.2.2.2.2.2.2.2.2.2.2.1 r9.2.2.2.2.2.2.2.2.2.2.2.2.2.2.2.1 r9.2.2.2.2.2.2.2.2.2.2.2.2.2.2.2.2.1 r9.2.2.2.2.2.2.2.2.2.2.2.2.2.2.2.2.2.1 r9.2.2.2.2.2.2.2.2.2.2.2.2.2.2.2.2.2.2.1 dg Adg cdg r9.2.2.2.2.2.2.2.2.2.2.2.2.2.2.2.2.2.2.2.2 o_W o_H o_P A_o_P c_o_P _ ((inR (C := cII) 1 rfl rfl) _ M) (M.cap 1 rfl) ((inA Rdg) _ M) Cdg ((inA R_o_P) _ M) C_o_P r12 h_r12)) ?_
      have M0 := M; clear K M; rintro _ a w ⟨A5, c5, rfl, M⟩ K
      replace M := M0.call M; clear M0
      refine ⟨fun _ => M.pick [3,4,5,6,7,8,9,10,11] (by decide), ?_⟩
      refine R_rd 7 [8,9,11,12] (by kernel_rfl) rfl K (want_no rfl) rfl rfl (rd_move rfl K rfl) ?_; clear K; intro a K
      refine R_rd 8 [9,11,12] (by kernel_rfl) rfl K (want_no rfl) rfl rfl (rd_extract rfl K rfl rfl) ?_; clear K; intro a K
      refine R_rd 9 [11,12] (by kernel_rfl) rfl K (want_no rfl) rfl rfl (rd_extract rfl K rfl rfl) ?_; clear K; intro a K
      refine R_br [11] (by kernel_rfl) ⟨?_, trivial⟩
      refine R_a0 [12] (by kernel_rfl) rfl K (want_no rfl) rfl (ac_storeA rfl ty24 K rfl (ds := [I r12.1, I r12.2.1, .slice A5 r12.2.2.1.length c5]) rfl rfl 1 M rfl rfl rfl) ?_
      clear K M; rintro _ a w M K
      refine ⟨fun _ => M.pick [3,4,5,6,7,8,9,10,11] (by decide), ?_⟩
      refine R_rd 12 [] (by kernel_rfl) rfl K (want_no rfl) rfl rfl (rd_assign rfl K rfl) ?_; clear K; intro a K
      refine R_end ?_
      refine then_n (wp_seq (wp_seq (X_reg ?_)))
      refine X_o K M ?_; clear K
      refine Y_o M ?_; intro a K
      refine wpList_nil (then_n ?_)
      refine X_cond K rfl (fun hb => ?_) (fun hb => ?_)
      · have h := ctrue hb h
        refine wp_seq (X_reg ?_)
        refine X_r K (rd_build rfl K (vs := []) (cs := [I 0, I 0, .slice none (([] : List (Int × Int × Int))).length 0]) rfl (by kernel_rfl)) M ?_; clear K
        refine Y_o M ?_; intro a K
        refine X_b K (ac_storeA rfl ty24 K rfl (ds := [I 0, I 0, .slice none (([] : List (Int × Int × Int))).length 0]) rfl rfl 9 M rfl rfl rfl) ?_
        clear K M; rintro _ a w M K
        refine X_o K M ?_; clear K; intro a K
        refine wpList_nil (then_n (wp_ret (then_r ?_)))
        cases h
        exact ret2 K rfl (res_cellA K rfl ty24 (M.blkAt (i := 9) rfl) rfl) (res_tmp K rfl) ⟨_, rfl, _, _, rfl, (((Mem.nilrow 34 3 cIII M)).pick [0] (by decide))⟩
      have h := cfalse hb h
      refine wp_skip (then_n (wp_seq ?_))
      refine wp_region_tl (fun w => Mem _ _ w _) [0,0,0,0,0,0,0,0,0,0,0,0,0,0,0,0,0,0,0,0,1,0,1,0] (by kernel_rfl) (by kernel_rfl) (M.pick [0,1,2,3,4,5,6,7,8,10,11] (by decide)).drew ?_
      replace M := M.drew
      refine T_r K (rd_field rfl fld24_0 K rfl) ?_; clear K
      refine U_r (fun _ K => rd_ldC rfl sc3 K rfl (inM 1 rfl) rfl) ?_
      iterate 3 (refine U_o ?_)
      refine U_r (fun _ K => rd_field rfl fld24_2 K rfl) ?_
      refine U_r (fun _ K => rd_ldC rfl sc22 K rfl (inM 1 rfl) rfl) ?_
      iterate 3 (refine U_o ?_)
      refine U_r (fun _ K => rd_field rfl fld24_0 K rfl) ?_
      refine U_r (fun _ K => rd_ldC rfl sc3 K rfl (inM 1 rfl) rfl) ?_
      iterate 4 (refine U_o ?_)
      refine U_r (fun _ K => rd_field rfl fld24_0 K rfl) ?_
      refine U_r (fun _ K => rd_ldC rfl sc3 K rfl (inM 1 rfl) rfl) ?_
      refine U_o ?_
      obtain ⟨l3, h_l3, h⟩ := obind h
      refine U_r (fun _ K => rd_slice (C := cIII) (k := .i64) (k' := .i64) rfl sl22 rfl K rfl (M.cap 0 rfl) rfl rfl h_l3) ?_; intro a K
      obtain ⟨r13, h_r13, h⟩ := obind h
      refine T_a K (ac_call (vs := [.slice ((slA A5 c5 (IntKind.i64.wrap ((IntKind.i64.wrap (p4 - p2)) * r12.1)) 3)) l3.length ((c5 - Int.toNat (IntKind.i64.wrap ((IntKind.i64.wrap (p4 - p2)) * r12.1))))]) (cap := []) rfl fok55 K rfl rfl (W_slices_Clone__api_Pixel_api_Pixel N l3 ((slA A5 c5 (IntKind.i64.wrap ((IntKind.i64.wrap (p4 - p2)) * r12.1)) 3)) ((c5 - Int.toNat (IntKind.i64.wrap ((IntKind.i64.wrap (p4 - p2)) * r12.1)))) _ ((fun w M => (slA_SL h_l3 (M.cap 0 rfl)) w ((inR (C := cIII) 0 rfl rfl) w M)) _ M) (sli_cap h_l3 (M.cap 0 rfl)) r13 h_r13)) ?_
      have M0 := M; clear K M; rintro _ a w ⟨A6, c6, rfl, M⟩ K
      replace M := M0.call M; clear M0
      refine ⟨M.pick [1,2,3,4,5,6,7,8,9,11,12] (by decide), ?_⟩
      refine T_r K (rd_build rfl K (vs := [(0, I r12.1), (1, I (IntKind.i64.wrap (p5 - p4))), (2, .slice A6 r13.length c6)]) (cs := [I r12.1, I (IntKind.i64.wrap (p5 - p4)), .slice A6 r13.length c6]) rfl (by kernel_rfl)) ?_; clear K; intro a K
      refine T_a0 K (want_no rfl) rfl (ac_storeA rfl ty24 K rfl (ds := [I r12.1, I (IntKind.i64.wrap (p5 - p4)), .slice A6 r13.length c6]) rfl rfl 10 M rfl rfl rfl) ?_
      clear K M; rintro _ a w M K
      refine ⟨M.pick [1,2,3,4,5,6,7,8,9,11,12] (by decide), ?_⟩
      refine T_o K ?_; clear K; intro a K
      refine T_end ?_
      refine then_n (wp_ret ?_)
      cases h
      exact ret2 K rfl (res_cellA K rfl ty24 (M.blkAt (i := 10) rfl) rfl) (res_tmp K rfl) ⟨_, rfl, _, _, rfl, ((M).pick [0] (by decide))⟩
  ·
    refine R_ac [4,6,7,8,9,11,12] (by kernel_rfl) rfl K (want_no rfl) rfl rfl (ac_alloc rfl z24 M) ?_
    clear K M; rintro _ a w ⟨g_x7, rfl, M⟩ K
    refine ⟨fun _ => M.pick [1,2,3,4,5,6,7,8,9] (by decide), ?_⟩
    refine R_br [4] (by kernel_rfl) ⟨?_, trivial⟩
    obtain ⟨r14, h_r14, h⟩ := obind h
    refine R_ac [6,7,8,9,11,12] (by kernel_rfl) rfl K (want_no rfl) rfl rfl (ac_call (vs := [.agg #[I da, I db0, I db1, I db2, I db3, I dc, .slice Add dd.length cdd, I de0, I de1, I de2, I df0, I df1, I df2, I df3, I df4, I df5, I df6, I df7, I df8, .slice Adg dg.length cdg, I dh], I p2, I o_H]) (cap := []) rfl fok54 K rfl rfl (W_line_down N da db0 db1 db2 db3 dc dd Add cdd de0 de1 de2 df0 df1 df2 df3 df4 df5 df6 df7 df8 dg Adg cdg dh p2 o_H _ ((inA Rdd) _ M) Cdd ((inA Rdg) _ M) Cdg r14 h_r14)) ?_
    have M0 := M; clear K M; rintro _ a w ⟨A7, c7, rfl, _, M⟩ K
    replace M := M0.call M; clear M0
    refine ⟨fun _ => M.pick [2,3,4,5,6,7,8,9,10] (by decide), ?_⟩
    refine R_br [6] (by kernel_rfl) ⟨?_, trivial⟩
    obtain ⟨r15, h_r15, h⟩ := obind h
    refine R_ac [7,8,9,11,12] (by kernel_rfl) rfl K (want_no rfl) rfl rfl (ac_call (vs := [.agg #[I r14.1, I r14.2.1, I r14.2.2.1, I r14.2.2.2.1, I r14.2.2.2.2.1, I r14.2.2.2.2.2.1, .slice A7 r14.2.2.2.2.2.2.1.length c7, I r14.2.2.2.2.2.2.2.1, I r14.2.2.2.2.2.2.2.2.1, I r14.2.2.2.2.2.2.2.2.2.1, I r14.2.2.2.2.2.2.2.2.2.2.1, I r14.2.2.2.2.2.2.2.2.2.2.2.1, I r14.2.2.2.2.2.2.2.2.2.2.2.2.1, I r14.2.2.2.2.2.2.2.2.2.2.2.2.2.1, I r14.2.2.2.2.2.2.2.2.2.2.2.2.2.2.1, I r14.2.2.2.2.2.2.2.2.2.2.2.2.2.2.2.1, I r14.2.2.2.2.2.2.2.2.2.2.2.2.2.2.2.2.1, I r14.2.2.2.2.2.2.2.2.2.2.2.2.2.2.2.2.2.1, I r14.2.2.2.2.2.2.2.2.2.2.2.2.2.2.2.2.2.2.1, .slice Adg dg.length cdg, I r14.2.2.2.2.2.2.2.2.2.2.2.2.2.2.2.2.2.2.2.2], .agg #[I o_W, I o_H, .slice A_o_P o_P.length c_o_P]]) (cap := []) rfl fok15 K rfl rfl (W_line_Whole N r14.1 r14.2.1 r14.2.2.1 r14.2.2.2.1 r14.2.2.2.2.1 r14.2.2.2.2.2.1 r14.2.2.2.2.2.2.1 A7 c7 r14.2.2.2.2.2.2.2.1 r14.2.2.2.2.2.2.2.2.1 r14.2.2.2.2.2.2.2.2.2.1 r14.2.2.2.2.2.2.2.2.2.2.1 r14.2.2.2.2.2.2.2.2.2.2.2.1 r14.2.2.2.2.2.2.2.2.2.2.2.2.1 r14.2.2.2.2.2.2.2.2.2.2.2.2.2.1 r14.2.2.2.2.2.2.2.2.2.2.2.2.2.2.1 r14.2.2.2.2.2.2.2.2.2.2.2.2.2.2.2.1 r14.2.2.2.2.2.2.2.2.2.2.2.2.2.2.2.2.1 r14.2.2.2.2.2.2.2.2.2.2.2.2.2.2.2.2.2.1 r14.2.2.2.2.2.2.2.2.2.2.2.2.2.2.2.2.2.2.1 dg Adg cdg r14.2.2.2.2.2.2.2.2.2.2.2.2.2.2.2.2.2.2.2.2 o_W o_H o_P A_o_P c_o_P _ ((inR (C := cII) 0 rfl rfl) _ M) (M.cap 0 rfl) ((inA Rdg) _ M) Cdg ((inA R_o_P) _ M) C_o_P r15 h_r15)) ?_
    have M0 := M; clear K M; rintro _ a w ⟨A8, c8, rfl, M⟩ K
    replace M := M0.call M; clear M0
    refine ⟨fun _ => M.pick [3,4,5,6,7,8,9,10,11] (by decide), ?_⟩
    refine R_rd 7 [8,9,11,12] (by kernel_rfl) rfl K (want_no rfl) rfl rfl (rd_move rfl K rfl) ?_; clear K; intro a K
    refine R_rd 8 [9,11,12] (by kernel_rfl) rfl K (want_no rfl) rfl rfl (rd_extract rfl K rfl rfl) ?_; clear K; intro a K
    refine R_rd 9 [11,12] (by kernel_rfl) rfl K (want_no rfl) rfl rfl (rd_extract rfl K rfl rfl) ?_; clear K; intro a K
    refine R_br [11] (by kernel_rfl) ⟨?_, trivial⟩
    refine R_a0 [12] (by kernel_rfl) rfl K (want_no rfl) rfl (ac_storeA rfl ty24 K rfl (ds := [I r15.1, I r15.2.1, .slice A8 r15.2.2.1.length c8]) rfl rfl 2 M rfl rfl rfl) ?_
    clear K M; rintro _ a w M K
    refine ⟨fun _ => M.pick [3,4,5,6,7,8,9,10,11] (by decide), ?_⟩
    refine R_rd 12 [] (by kernel_rfl) rfl K (want_no rfl) rfl rfl (rd_assign rfl K rfl) ?_; clear K; intro a K
    refine R_end ?_
    refine then_n (wp_seq (wp_seq (X_reg ?_)))
    refine X_o K M ?_; clear K
    refine Y_o M ?_; intro a K
    refine wpList_nil (then_n ?_)
    refine X_cond K rfl (fun hb => ?_) (fun hb => ?_)
    · have h := ctrue hb h
      refine wp_seq (X_reg ?_)
      refine X_r K (rd_build rfl K (vs := []) (cs := [I 0, I 0, .slice none (([] : List (Int × Int × Int))).length 0]) rfl (by kernel_rfl)) M ?_; clear K
      refine Y_o M ?_; intro a K
      refine X_b K (ac_storeA rfl ty24 K rfl (ds := [I 0, I 0, .slice none (([] : List (Int × Int × Int))).length 0]) rfl rfl 9 M rfl rfl rfl) ?_
      clear K M; rintro _ a w M K
      refine X_o K M ?_; clear K; intro a K
      refine wpList_nil (then_n (wp_ret (then_r ?_)))
      cases h
      exact ret2 K rfl (res_cellA K rfl ty24 (M.blkAt (i := 9) rfl) rfl) (res_tmp K rfl) ⟨_, rfl, _, _, rfl, (((Mem.nilrow 34 3 cIII M)).pick [0] (by decide))⟩
    have h := cfalse hb h
    refine wp_skip (then_n (wp_seq ?_))
    refine wp_region_tl (fun w => Mem _ _ w _) [0,0,0,0,0,0,0,0,0,0,0,0,0,0,0,0,0,0,0,0,1,0,1,0] (by kernel_rfl) (by kernel_rfl) (M.pick [0,1,2,3,4,5,6,7,8,10,11] (by decide)).drew ?_
    replace M := M.drew
    refine T_r K (rd_field rfl fld24_0 K rfl) ?_; clear K
    refine U_r (fun _ K => rd_ldC rfl sc3 K rfl (inM 2 rfl) rfl) ?_
    iterate 3 (refine U_o ?_)
    refine U_r (fun _ K => rd_field rfl fld24_2 K rfl) ?_
    refine U_r (fun _ K => rd_ldC rfl sc22 K rfl (inM 2 rfl) rfl) ?_
    iterate 3 (refine U_o ?_)
    refine U_r (fun _ K => rd_field rfl fld24_0 K rfl) ?_
    refine U_r (fun _ K => rd_ldC rfl sc3 K rfl (inM 2 rfl) rfl) ?_
    iterate 4 (refine U_o ?_)
    refine U_r (fun _ K => rd_field rfl fld24_0 K rfl) ?_
    refine U_r (fun _ K => rd_ldC rfl sc3 K rfl (inM 2 rfl) rfl) ?_
    refine U_o ?_
    obtain ⟨l4, h_l4, h⟩ := obind h
    refine U_r (fun _ K => rd_slice (C := cIII) (k := .i64) (k' := .i64) rfl sl22 rfl K rfl (M.cap 0 rfl) rfl rfl h_l4) ?_; intro a K
    obtain ⟨r16, h_r16, h⟩ := obind h
    refine T_a K (ac_call (vs := [.slice ((slA A8 c8 (IntKind.i64.wrap ((IntKind.i64.wrap (p4 - p2)) * r15.1)) 3)) l4.length ((c8 - Int.toNat (IntKind.i64.wrap ((IntKind.i64.wrap (p4 - p2)) * r15.1))))]) (cap := []) rfl fok55 K rfl rfl (W_slices_Clone__api_Pixel_api_Pixel N l4 ((slA A8 c8 (IntKind.i64.wrap ((IntKind.i64.wrap (p4 - p2)) * r15.1)) 3)) ((c8 - Int.toNat (IntKind.i64.wrap ((IntKind.i64.wrap (p4 - p2)) * r15.1)))) _ ((fun w M => (slA_SL h_l4 (M.cap 0 rfl)) w ((inR (C := cIII) 0 rfl rfl) w M)) _ M) (sli_cap h_l4 (M.cap 0 rfl)) r16 h_r16)) ?_
    have M0 := M; clear K M; rintro _ a w ⟨A9, c9, rfl, M⟩ K
    replace M := M0.call M; clear M0
    refine ⟨M.pick [1,2,3,4,5,6,7,8,9,11,12] (by decide), ?_⟩
    refine T_r K (rd_build rfl K (vs := [(0, I r15.1), (1, I (IntKind.i64.wrap (p5 - p4))), (2, .slice A9 r16.length c9)]) (cs := [I r15.1, I (IntKind.i64.wrap (p5 - p4)), .slice A9 r16.length c9]) rfl (by kernel_rfl)) ?_; clear K; intro a K
    refine T_a0 K (want_no rfl) rfl (ac_storeA rfl ty24 K rfl (ds := [I r15.1, I (IntKind.i64.wrap (p5 - p4)), .slice A9 r16.length c9]) rfl rfl 10 M rfl rfl rfl) ?_
    clear K M; rintro _ a w M K
    refine ⟨M.pick [1,2,3,4,5,6,7,8,9,11,12] (by decide), ?_⟩
    refine T_o K ?_; clear K; intro a K
    refine T_end ?_
    refine then_n (wp_ret ?_)
    cases h
    exact ret2 K rfl (res_cellA K rfl ty24 (M.blkAt (i := 10) rfl) rfl) (res_tmp K rfl) ⟨_, rfl, _, _, rfl, ((M).pick [0] (by decide))⟩
set_option maxRecDepth 100000 in
set_option maxHeartbeats 4000000 in
theorem W_line_Strips (N : Nat) (da : Int) (db0 : Int) (db1 : Int) (db2 : Int) (db3 : Int) (dc : Int) (dd : List (Int × Int)) (Add : Option Addr) (cdd : Nat) (de0 : Int) (de1 : Int) (de2 : Int) (df0 : Int) (df1 : Int) (df2 : Int) (df3 : Int) (df4 : Int) (df5 : Int) (df6 : Int) (df7 : Int) (df8 : Int) (dg : List (Int × Int)) (Adg : Option Addr) (cdg : Nat) (dh : Int) (o_W : Int) (o_H : Int) (o_P : List Int) (A_o_P : Option Addr) (c_o_P : Nat) (p2 : Int) (w0 : World) (Rdd : SL w0 cII Add dd) (Cdd : dd.length ≤ cdd) (Rdg : SL w0 cII Adg dg) (Cdg : dg.length ≤ cdg) (R_o_P : SL w0 (cI .i64) A_o_P o_P) (C_o_P : o_P.length ≤ c_o_P) (r : Int × Int × List (Int × Int × Int) × Int) (h : D_line_Strips N da db0 db1 db2 db3 dc dd de0 de1 de2 df0 df1 df2 df3 df4 df5 df6 df7 df8 dg dh o_W o_H o_P p2 = some r) :
    Calls Try.prog 24 #[.agg #[I da, I db0, I db1, I db2, I db3, I dc, .slice Add dd.length cdd, I de0, I de1, I de2, I df0, I df1, I df2, I df3, I df4, I df5, I df6, I df7, I df8, .slice Adg dg.length cdg, I dh], .agg #[I o_W, I o_H, .slice A_o_P o_P.length c_o_P], I p2] w0 fun e w' => ∃ v, e = .returned v ∧ ∃ A2 c2, v = .tuple #[.agg #[I r.1, I r.2.1, .slice A2 r.2.2.1.length c2], I r.2.2.2] ∧ Mem w0.heap.size w0 w' [.row 34 3 A2 r.2.2.1.length c2 (cIII.all r.2.2.1)] := by
  refine X_enter Try.func24 rfl Try.ntmps24 rfl ?_
  intro a K
  have M := Mem.start w0
  have K : Kn a 102 [(0, .agg #[I da, I db0, I db1, I db2, I db3, I dc, .slice Add dd.length cdd, I de0, I de1, I de2, I df0, I df1, I df2, I df3, I df4, I df5, I df6, I df7, I df8, .slice Adg dg.length cdg, I dh]), (1, .agg #[I o_W, I o_H, .slice A_o_P o_P.length c_o_P]), (2, I p2)] := K
  unfold D_line_Strips at h
  refine wp_seq (X_reg ?_)
  refine X_a K (ac_box rfl K rfl (cs := [I da, I db0, I db1, I db2, I db3, I dc, .slice Add dd.length cdd, I de0, I de1, I de2, I df0, I df1, I df2, I df3, I df4, I df5, I df6, I df7, I df8, .slice Adg dg.length cdg, I dh]) rfl M) ?_
  clear K M; rintro _ a w ⟨g_x, rfl, M⟩ K
  refine X_a K (ac_box rfl K rfl (cs := [I o_W, I o_H, .slice A_o_P o_P.length c_o_P]) rfl M) ?_
  clear K M; rintro _ a w ⟨g_x2, rfl, M⟩ K
  refine X_a K (ac_alloc rfl z24 M) ?_
  clear K M; rintro _ a w ⟨g_x3, rfl, M⟩ K
  refine X_o K M ?_; clear K; intro a K
  refine wpList_nil (then_n (wp_seq (wp_seq (X_reg ?_))))
  refine X_r K (rd_ldA rfl ty42 K rfl (inM 2 rfl) rfl rfl) M ?_; clear K; intro a K
  obtain ⟨r2, h_r2, h⟩ := obind h
  refine X_a K (ac_call (vs := [.agg #[I da, I db0, I db1, I db2, I db3, I dc, .slice Add dd.length cdd, I de0, I de1, I de2, I df0, I df1, I df2, I df3, I df4, I df5, I df6, I df7, I df8, .slice Adg dg.length cdg, I dh]]) (cap := []) rfl fok19 K rfl rfl (W_line_Check N da db0 db1 db2 db3 dc dd Add cdd de0 de1 de2 df0 df1 df2 df3 df4 df5 df6 df7 df8 dg Adg cdg dh _ ((inA Rdd) _ M) Cdd ((inA Rdg) _ M) Cdg r2 h_r2)) ?_
  have M0 := M; clear K M; rintro _ a w ⟨rfl, M⟩ K
  replace M := M0.call M; clear M0
  refine X_o K M ?_; clear K; intro a K
  refine wpList_nil (then_n (wp_seq (X_reg ?_)))
  refine X_o K M ?_; clear K
  refine Y_o M ?_; intro a K
  refine wpList_nil (then_n ?_)
  refine X_cond K rfl (fun hb => ?_) (fun hb => ?_)
  · have h := ctrue hb h
    refine wp_seq (X_reg ?_)
    refine X_r K (rd_build rfl K (vs := []) (cs := [I 0, I 0, .slice none (([] : List (Int × Int × Int))).length 0]) rfl (by kernel_rfl)) M ?_; clear K
    refine Y_o M ?_; intro a K
    refine X_b K (ac_storeA rfl ty24 K rfl (ds := [I 0, I 0, .slice none (([] : List (Int × Int × Int))).length 0]) rfl rfl 0 M rfl rfl rfl) ?_
    clear K M; rintro _ a w M K
    refine X_o K M ?_; clear K; intro a K
    refine wpList_nil (then_n (wp_ret (then_r ?_)))
    cases h
    exact ret2 K rfl (res_cellA K rfl ty24 (M.blkAt (i := 0) rfl) rfl) (res_tmp K rfl) ⟨_, rfl, _, _, rfl, (((Mem.nilrow 34 3 cIII M)).pick [0] (by decide))⟩
  have h := cfalse hb h
  refine wp_skip (then_n (wp_seq (wp_seq (X_reg ?_))))
  refine X_r K (rd_ldA rfl ty45 K rfl (inM 1 rfl) rfl rfl) M ?_; clear K
  refine Y_r (fun _ K => rd_field rfl fld42_3 K rfl) M ?_
  refine Y_r (fun _ K => rd_ldC rfl sc37 K rfl (inM 2 rfl) rfl) M ?_; intro a K
  obtain ⟨r3, h_r3, h⟩ := obind h
  refine X_a K (ac_call (vs := [.agg #[I o_W, I o_H, .slice A_o_P o_P.length c_o_P], .slice Add dd.length cdd]) (cap := []) rfl fok53 K rfl rfl (W_sensor_Repair N o_W o_H o_P A_o_P c_o_P dd Add cdd _ ((inA R_o_P) _ M) C_o_P ((inA Rdd) _ M) Cdd r3 h_r3)) ?_
  have M0 := M; clear K M; rintro _ a w ⟨A, c, rfl, M⟩ K
  replace M := M0.call M; clear M0
  refine X_o K M ?_; clear K
  iterate 2 (refine Y_o M ?_)
  intro a K
  refine X_a K (ac_alloc rfl z45 M) ?_
  clear K M; rintro _ a w ⟨g_x4, rfl, M⟩ K
  refine X_b K (ac_storeA rfl ty45 K rfl (ds := [I r3.1, I r3.2.1, .slice A r3.2.2.1.length c]) rfl rfl 0 M rfl rfl rfl) ?_
  clear K M; rintro _ a w M K
  refine X_o K M ?_; clear K; intro a K
  refine wpList_nil (then_n (wp_seq (X_reg ?_)))
  refine X_o K M ?_; clear K
  refine Y_o M ?_; intro a K
  refine wpList_nil (then_n ?_)
  refine X_cond K rfl (fun hb => ?_) (fun hb => ?_)
  · have h := ctrue hb h
    refine wp_seq (X_reg ?_)
    refine X_r K (rd_build rfl K (vs := []) (cs := [I 0, I 0, .slice none (([] : List (Int × Int × Int))).length 0]) rfl (by kernel_rfl)) M ?_; clear K
    refine Y_o M ?_; intro a K
    refine X_b K (ac_storeA rfl ty24 K rfl (ds := [I 0, I 0, .slice none (([] : List (Int × Int × Int))).length 0]) rfl rfl 2 M rfl rfl rfl) ?_
    clear K M; rintro _ a w M K
    refine X_o K M ?_; clear K; intro a K
    refine wpList_nil (then_n (wp_ret (then_r ?_)))
    cases h
    exact ret2 K rfl (res_cellA K rfl ty24 (M.blkAt (i := 2) rfl) rfl) (res_tmp K rfl) ⟨_, rfl, _, _, rfl, (((Mem.nilrow 34 3 cIII M)).pick [0] (by decide))⟩
  have h := cfalse hb h
  refine wp_skip (then_n (wp_seq (wp_seq (X_reg ?_))))
  refine X_o K M ?_; clear K
  refine Y_o M ?_; intro a K
  refine wpList_nil (then_n ?_)
  refine X_cond K rfl (fun hb => ?_) (fun hb => ?_)
  · have h := ctrue hb h
    refine wp_seq (X_reg ?_)
    refine X_r K (rd_build rfl K (vs := []) (cs := [I 0, I 0, .slice none (([] : List (Int × Int × Int))).length 0]) rfl (by kernel_rfl)) M ?_; clear K; intro a K
    refine X_b K (ac_storeA rfl ty24 K rfl (ds := [I 0, I 0, .slice none (([] : List (Int × Int × Int))).length 0]) rfl rfl 2 M rfl rfl rfl) ?_
    clear K M; rintro _ a w M K
    refine X_o K M ?_; clear K; intro a K
    refine wpList_nil (then_n (wp_ret (then_r ?_)))
    cases h
    exact ret2 K rfl (res_cellA K rfl ty24 (M.blkAt (i := 2) rfl) rfl) (res_tmp K rfl) ⟨_, rfl, _, _, rfl, (((Mem.nilrow 34 3 cIII M)).pick [0] (by decide))⟩
  have h := cfalse hb h
  refine wp_skip (then_n (wp_seq (X_reg ?_)))
  refine X_r K (rd_field rfl fld45_0 K rfl) M ?_; clear K
  refine Y_r (fun _ K => rd_ldC rfl sc3 K rfl (inM 3 rfl) rfl) M ?_
  refine Y_r (fun _ K => rd_field rfl fld45_1 K rfl) M ?_
  refine Y_r (fun _ K => rd_ldC rfl sc3 K rfl (inM 3 rfl) rfl) M ?_
  refine Y_r (fun _ K => rd_build rfl K (vs := [(0, I o_W), (1, I o_H)]) (cs := [I o_W, I o_H, .slice none (([] : List (Int × Int × Int))).length 0]) rfl (by kernel_rfl)) M ?_; intro a K
  refine X_a K (ac_alloc rfl z24 M) ?_
  clear K M; rintro _ a w ⟨g_x5, rfl, M⟩ K
  refine X_b K (ac_storeA rfl ty24 K rfl (ds := [I o_W, I o_H, .slice none (([] : List (Int × Int × Int))).length 0]) rfl rfl 0 M rfl rfl rfl) ?_
  clear K M; rintro _ a w M K
  refine wpList_nil (then_n (wp_seq (wp_seq (X_reg ?_))))
  refine X_o K M ?_; clear K
  refine Y_o M ?_; intro a K
  refine wpList_nil (then_n (wp_block ?_))
  replace M := Mem.nilrow 34 3 cIII M
  refine X_lp (id := 0) (Rel := fun (⟨x_P, i⟩ : List (Int × Int × Int) × Int) a w => ∃ (A2 : Option Addr) (c2 : Nat), Kn a 102 [(2, I p2), (3, .pointer (some ⟨g_x, 0, none⟩)), (4, .pointer (some ⟨g_x2, 0, none⟩)), (6, .pointer (some ⟨g_x3, 0, none⟩)), (11, .pointer (some ⟨g_x5, 0, none⟩)), (12, I i)] ∧ Mem w0.heap.size w0 w [.row 34 3 A2 x_P.length c2 (cIII.all x_P), .blk g_x5 24 [I o_W, I o_H, .slice A2 x_P.length c2], .blk g_x3 24 [I 0, I 0, .slice none (([] : List (Int × Int × Int))).length 0], .blk g_x2 45 [I o_W, I o_H, .slice A_o_P o_P.length c_o_P], .blk g_x 42 [I da, I db0, I db1, I db2, I db3, I dc, .slice Add dd.length cdd, I de0, I de1, I de2, I df0, I df1, I df2, I df3, I df4, I df5, I df6, I df7, I df8, .slice Adg dg.length cdg, I dh]]) h (fun _ _ => rfl) ⟨none, 0, K.pick [2,3,4,6,11,12], M.pick [0,1,4,5,6] (by decide)⟩ ?_ ?_
  · clear K M h
    rintro ⟨x_P6, i2⟩ a w ⟨A11, c11, K, M⟩ h
    try dsimp only at h
    refine inb_e ?_
    refine then_n (wp_seq (X_reg ?_))
    refine X_r K (rd_ldA rfl ty24 K rfl (inM 1 rfl) rfl rfl) M ?_; clear K; intro a K
    refine X_b K (ac_storeA rfl ty24 K rfl (ds := [I o_W, I o_H, .slice A11 x_P6.length c11]) rfl rfl 2 M rfl rfl rfl) ?_
    clear K M; rintro _ a w M K
    refine X_o K M ?_; clear K; intro a K
    refine wpList_nil (then_n (wp_ret ?_))
    cases h
    exact ret2 K rfl (res_cellA K rfl ty24 (M.blkAt (i := 2) rfl) rfl) (res_tmp K rfl) ⟨_, rfl, _, _, rfl, ((M).pick [0] (by decide))⟩
  clear K M h
  rintro kk fuel ⟨x_P, i⟩ a w hk1 ⟨A2, c2, K, M⟩ h
  unfold D_line_Strips_l1 at h
  refine wp_seq (wp_seq (X_reg ?_))
  refine X_o K M ?_; clear K
  refine Y_r (fun _ K => rd_field rfl fld45_1 K rfl) M ?_
  refine Y_r (fun _ K => rd_ldC rfl sc3 K rfl (inM 3 rfl) rfl) M ?_
  refine Y_o M ?_; intro a K
  refine wpList_nil (then_n ?_)
  refine X_cond K rfl (fun hb => ?_) (fun hb => ?_)
  · have h := ctrue hb h
    refine wp_skip (then_n (wp_seq (wp_block (wp_seq (X_reg ?_)))))
    refine X_o K M ?_; clear K
    refine Y_o M ?_
    refine Y_r (fun _ K => rd_field rfl fld45_1 K rfl) M ?_
    refine Y_r (fun _ K => rd_ldC rfl sc3 K rfl (inM 3 rfl) rfl) M ?_
    iterate 4 (refine Y_o M ?_)
    obtain ⟨x5, hx, h⟩ := olet h
    refine Y_r (fun _ K => rdi hx (rd_assign rfl K rfl)) M ?_; intro a K
    refine wpList_nil (then_n (wp_seq ?_))
    refine wp_region_tl (fun w => Mem _ _ w _) [0,0,0,0,0,0,0,0,0,0] (by kernel_rfl) (by kernel_rfl) M.drew ?_
    replace M := M.drew
    refine T_o K ?_; clear K
    iterate 4 (refine U_o ?_)
    refine U_r (fun _ K => rd_field rfl fld45_1 K rfl) ?_
    refine U_r (fun _ K => rd_ldC rfl sc3 K rfl (inM 3 rfl) rfl) ?_
    refine U_o ?_
    obtain ⟨x6, hx, h⟩ := olet h
    refine U_r (fun _ K => rdi hx (rd_assign rfl K rfl)) ?_
    obtain ⟨x7, hx, h⟩ := olet h
    refine U_r (fun _ K => rdi hx (rd_assign rfl K rfl)) ?_; intro a K
    refine T_end ?_
    refine then_n (wp_seq ?_)
    refine wp_region_tr (fun w => Mem _ _ w _) [0,0,0,0,0,0,0,0,0,0,0,0,0,0,0,0,0,0,0,0,0,0,0,1,0,0,0,1,1,0] 30 [0,1,2,3,4,5,6,7,8,9,10,11,12,13,14,15,16,17,18,19,20,21,22,23,24,25,26,27,28,29] (by kernel_rfl) (by kernel_rfl) (by kernel_rfl) rfl M.drew ?_
    replace M := M.drew
    refine R_rd 0 [1,2,3,4,5,6,7,8,9,10,11,12,13,14,15,16,17,18,19,20,21,22,23,24,25,26,27,28,29] (by kernel_rfl) rfl K (want_no rfl) rfl rfl (rd_ldA rfl ty42 K rfl (inM 4 rfl) rfl rfl) ?_; clear K; intro a K
    refine R_rd 1 [2,3,4,5,6,7,8,9,10,11,12,13,14,15,16,17,18,19,20,21,22,23,24,25,26,27,28,29] (by kernel_rfl) rfl K (want_no rfl) rfl rfl (rd_field rfl fld45_0 K rfl) ?_; clear K; intro a K
    refine R_rd 2 [3,4,5,6,7,8,9,10,11,12,13,14,15,16,17,18,19,20,21,22,23,24,25,26,27,28,29] (by kernel_rfl) rfl K (want_no rfl) rfl rfl (rd_ldC rfl sc3 K rfl (inM 3 rfl) rfl) ?_; clear K; intro a K
    refine R_rd 3 [4,5,6,7,8,9,10,11,12,13,14,15,16,17,18,19,20,21,22,23,24,25,26,27,28,29] (by kernel_rfl) rfl K (want_no rfl) rfl rfl (rd_move rfl K rfl) ?_; clear K; intro a K
    refine R_rd 4 [5,6,7,8,9,10,11,12,13,14,15,16,17,18,19,20,21,22,23,24,25,26,27,28,29] (by kernel_rfl) rfl K (want_no rfl) rfl rfl (rd_move rfl K rfl) ?_; clear K; intro a K
    refine R_rd 5 [6,7,8,9,10,11,12,13,14,15,16,17,18,19,20,21,22,23,24,25,26,27,28,29] (by kernel_rfl) rfl K (want_no rfl) rfl rfl (rd_sub rfl K rfl rfl) ?_; clear K; intro a K
    refine R_rd 6 [7,8,9,10,11,12,13,14,15,16,17,18,19,20,21,22,23,24,25,26,27,28,29] (by kernel_rfl) rfl K (want_no rfl) rfl rfl (rd_field rfl fld45_2 K rfl) ?_; clear K; intro a K
    refine R_rd 7 [8,9,10,11,12,13,14,15,16,17,18,19,20,21,22,23,24,25,26,27,28,29] (by kernel_rfl) rfl K (want_no rfl) rfl rfl (rd_ldC rfl sc43 K rfl (inM 3 rfl) rfl) ?_; clear K; intro a K
    refine R_rd 8 [9,10,11,12,13,14,15,16,17,18,19,20,21,22,23,24,25,26,27,28,29] (by kernel_rfl) rfl K (want_no rfl) rfl rfl (rd_move rfl K rfl) ?_; clear K; intro a K
    refine R_rd 9 [10,11,12,13,14,15,16,17,18,19,20,21,22,23,24,25,26,27,28,29] (by kernel_rfl) rfl K (want_no rfl) rfl rfl (rd_field rfl fld45_0 K rfl) ?_; clear K; intro a K
    refine R_rd 10 [11,12,13,14,15,16,17,18,19,20,21,22,23,24,25,26,27,28,29] (by kernel_rfl) rfl K (want_no rfl) rfl rfl (rd_ldC rfl sc3 K rfl (inM 3 rfl) rfl) ?_; clear K; intro a K
    refine R_rd 11 [12,13,14,15,16,17,18,19,20,21,22,23,24,25,26,27,28,29] (by kernel_rfl) rfl K (want_no rfl) rfl rfl (rd_mul rfl K rfl rfl) ?_; clear K; intro a K
    refine R_rd 12 [13,14,15,16,17,18,19,20,21,22,23,24,25,26,27,28,29] (by kernel_rfl) rfl K (want_no rfl) rfl rfl (rd_move rfl K rfl) ?_; clear K; intro a K
    refine R_rd 13 [14,15,16,17,18,19,20,21,22,23,24,25,26,27,28,29] (by kernel_rfl) rfl K (want_no rfl) rfl rfl (rd_field rfl fld45_0 K rfl) ?_; clear K; intro a K
    refine R_rd 14 [15,16,17,18,19,20,21,22,23,24,25,26,27,28,29] (by kernel_rfl) rfl K (want_no rfl) rfl rfl (rd_ldC rfl sc3 K rfl (inM 3 rfl) rfl) ?_; clear K; intro a K
    refine R_rd 15 [16,17,18,19,20,21,22,23,24,25,26,27,28,29] (by kernel_rfl) rfl K (want_no rfl) rfl rfl (rd_mul rfl K rfl rfl) ?_; clear K; intro a K
    obtain ⟨l3, h_l3, h⟩ := obind h
    refine R_rd 16 [17,18,19,20,21,22,23,24,25,26,27,28,29] (by kernel_rfl) rfl K (want_no rfl) rfl rfl (rd_slice (C := (cI .i64)) (k := .i64) (k' := .i64) rfl sl43 rfl K rfl C_o_P rfl rfl h_l3) ?_; clear K; intro a K
    refine R_rd 17 [18,19,20,21,22,23,24,25,26,27,28,29] (by kernel_rfl) rfl K (want_no rfl) rfl rfl (rd_build rfl K (vs := [(0, I o_W), (1, I (IntKind.i64.wrap (x7 - x6))), (2, .slice ((slA A_o_P c_o_P (IntKind.i64.wrap (x6 * o_W)) 1)) l3.length ((c_o_P - Int.toNat (IntKind.i64.wrap (x6 * o_W)))))]) (cs := [I o_W, I (IntKind.i64.wrap (x7 - x6)), .slice ((slA A_o_P c_o_P (IntKind.i64.wrap (x6 * o_W)) 1)) l3.length ((c_o_P - Int.toNat (IntKind.i64.wrap (x6 * o_W))))]) rfl (by kernel_rfl)) ?_; clear K; intro a K
    refine R_rd 18 [19,20,21,22,23,24,25,26,27,28,29] (by kernel_rfl) rfl K (want_no rfl) rfl rfl (rd_move rfl K rfl) ?_; clear K; intro a K
    refine R_rd 19 [20,21,22,23,24,25,26,27,28,29] (by kernel_rfl) rfl K (want_no rfl) rfl rfl (rd_field rfl fld45_1 K rfl) ?_; clear K; intro a K
    refine R_rd 20 [21,22,23,24,25,26,27,28,29] (by kernel_rfl) rfl K (want_no rfl) rfl rfl (rd_ldC rfl sc3 K rfl (inM 3 rfl) rfl) ?_; clear K; intro a K
    refine R_rd 21 [22,23,24,25,26,27,28,29] (by kernel_rfl) rfl K (want_no rfl) rfl rfl (rd_move rfl K rfl) ?_; clear K; intro a K
    refine R_rd 22 [23,24,25,26,27,28,29] (by kernel_rfl) rfl K (want_no rfl) rfl rfl (rd_move rfl K rfl) ?_; clear K; intro a K
    refine R_br [23,27] (by kernel_rfl) ⟨?_, ?_, trivial⟩
    ·
      obtain ⟨r6, h_r6, h⟩ := obind h
      refine R_ac [24,25,26,27,28,29] (by kernel_rfl) rfl K (want_no rfl) rfl rfl (ac_call (vs := [.agg #[I da, I db0, I db1, I db2, I db3, I dc, .slice Add dd.length cdd, I de0, I de1, I de2, I df0, I df1, I df2, I df3, I df4, I df5, I df6, I df7, I df8, .slice Adg dg.length cdg, I dh], .agg #[I o_W, I (IntKind.i64.wrap (x7 - x6)), .slice ((slA A_o_P c_o_P (IntKind.i64.wrap (x6 * o_W)) 1)) l3.length ((c_o_P - Int.toNat (IntKind.i64.wrap (x6 * o_W))))], I x6, I o_H, I i, I x5]) (cap := []) rfl fok21 K rfl rfl (W_line_Part N da db0 db1 db2 db3 dc dd Add cdd de0 de1 de2 df0 df1 df2 df3 df4 df5 df6 df7 df8 dg Adg cdg dh o_W (IntKind.i64.wrap (x7 - x6)) l3 ((slA A_o_P c_o_P (IntKind.i64.wrap (x6 * o_W)) 1)) ((c_o_P - Int.toNat (IntKind.i64.wrap (x6 * o_W)))) x6 o_H i x5 _ ((inA Rdd) _ M) Cdd ((inA Rdg) _ M) Cdg ((fun w M => (slA_SL h_l3 C_o_P) w ((inA R_o_P) w M)) _ M) (sli_cap h_l3 C_o_P) r6 h_r6)) ?_
      have M0 := M; clear K M; rintro _ a w ⟨A7, c7, rfl, M⟩ K
      replace M := M0.call M; clear M0
      refine ⟨fun _ => M.pick [1,2,3,4,5] (by decide), ?_⟩
      refine R_rd 24 [25,26,27,28,29] (by kernel_rfl) rfl K (want_no rfl) rfl rfl (rd_move rfl K rfl) ?_; clear K; intro a K
      refine R_rd 25 [26,27,28,29] (by kernel_rfl) rfl K (want_no rfl) rfl rfl (rd_extract rfl K rfl rfl) ?_; clear K; intro a K
      refine R_rd 26 [27,28,29] (by kernel_rfl) rfl K (want_no rfl) rfl rfl (rd_extract rfl K rfl rfl) ?_; clear K; intro a K
      refine R_br [27] (by kernel_rfl) ⟨?_, trivial⟩
      refine R_ac [28,29] (by kernel_rfl) rfl K (want_no rfl) rfl rfl (ac_alloc rfl z24 M) ?_
      clear K M; rintro _ a w ⟨g_x8, rfl, M⟩ K
      refine ⟨fun _ => M.pick [2,3,4,5,6] (by decide), ?_⟩
      refine R_br [28] (by kernel_rfl) ⟨?_, trivial⟩
      refine R_a0 [29] (by kernel_rfl) rfl K (want_no rfl) rfl (ac_storeA rfl ty24 K rfl (ds := [I r6.1, I r6.2.1, .slice A7 r6.2.2.1.length c7]) rfl rfl 0 M rfl rfl rfl) ?_
      clear K M; rintro _ a w M K
      refine ⟨fun _ => M.pick [2,3,4,5,6] (by decide), ?_⟩
      refine R_rd 29 [] (by kernel_rfl) rfl K (want_no rfl) rfl rfl (rd_assign rfl K rfl) ?_; clear K; intro a K
      refine R_end ?_
      refine then_n (wp_seq (wp_seq (X_reg ?_)))
      refine X_o K M ?_; clear K
      refine Y_o M ?_; intro a K
      refine wpList_nil (then_n ?_)
      refine X_cond K rfl (fun hb => ?_) (fun hb => ?_)
      · have h := ctrue hb h
        refine wp_seq (X_reg ?_)
        refine X_r K (rd_build rfl K (vs := []) (cs := [I 0, I 0, .slice none (([] : List (Int × Int × Int))).length 0]) rfl (by kernel_rfl)) M ?_; clear K
        refine Y_o M ?_; intro a K
        refine X_b K (ac_storeA rfl ty24 K rfl (ds := [I 0, I 0, .slice none (([] : List (Int × Int × Int))).length 0]) rfl rfl 4 M rfl rfl rfl) ?_
        clear K M; rintro _ a w M K
        refine X_o K M ?_; clear K; intro a K
        refine wpList_nil (then_n (wp_ret (then_r (inb_r (then_r (then_r (inb_r (then_r ?_))))))))
        cases h
        exact ret2 K rfl (res_cellA K rfl ty24 (M.blkAt (i := 4) rfl) rfl) (res_tmp K rfl) ⟨_, rfl, _, _, rfl, (((Mem.nilrow 34 3 cIII M)).pick [0] (by decide))⟩
      have h := cfalse hb h
      refine wp_skip (then_n (X_reg ?_))
      refine X_r K (rd_field rfl fld24_2 K rfl) M ?_; clear K
      refine Y_r (fun _ K => rd_ldC rfl sc22 K rfl (inM 3 rfl) rfl) M ?_
      refine Y_r (fun _ K => rd_field rfl fld24_2 K rfl) M ?_
      refine Y_r (fun _ K => rd_ldC rfl sc22 K rfl (inM 0 rfl) rfl) M ?_; intro a K
      obtain ⟨x_P4, h_x_P4, h⟩ := obind h
      refine X_a K (ac_app (C := cIII) (xs := x_P) (ys := r6.2.2.1) rfl sl22 rfl z34 rfl rfl K rfl rfl 2 M rfl ((inR (C := cIII) 1 rfl rfl) _ M) h_x_P4) ?_
      clear K M; rintro _ a w ⟨A8, c8, rfl, M⟩ K
      refine X_r K (rd_field rfl fld24_2 K rfl) M ?_; clear K; intro a K
      refine X_b K (ac_storeC rfl sc22 K rfl rfl rfl 3 M rfl rfl) ?_
      clear K M; rintro _ a w M K
      refine wpList_nil (inb_n (then_n (X_reg ?_)))
      refine X_o K M ?_; clear K
      refine Y_o M ?_; intro a K
      refine wpList_nil ?_
      exact then_n ⟨(x_P4, x5), ⟨A8, c8, K.pick [2,3,4,6,11,12], M.pick [2,3,4,5,6] (by decide)⟩, h⟩
    ·
      refine R_ac [23,24,25,26,28,29] (by kernel_rfl) rfl K (want_no rfl) rfl rfl (ac_alloc rfl z24 M) ?_
      clear K M; rintro _ a w ⟨g_x9, rfl, M⟩ K
      refine ⟨fun _ => M.pick [1,2,3,4,5] (by decide), ?_⟩
      refine R_br [23] (by kernel_rfl) ⟨?_, trivial⟩
      obtain ⟨r7, h_r7, h⟩ := obind h
      refine R_ac [24,25,26,28,29] (by kernel_rfl) rfl K (want_no rfl) rfl rfl (ac_call (vs := [.agg #[I da, I db0, I db1, I db2, I db3, I dc, .slice Add dd.length cdd, I de0, I de1, I de2, I df0, I df1, I df2, I df3, I df4, I df5, I df6, I df7, I df8, .slice Adg dg.length cdg, I dh], .agg #[I o_W, I (IntKind.i64.wrap (x7 - x6)), .slice ((slA A_o_P c_o_P (IntKind.i64.wrap (x6 * o_W)) 1)) l3.length ((c_o_P - Int.toNat (IntKind.i64.wrap (x6 * o_W))))], I x6, I o_H, I i, I x5]) (cap := []) rfl fok21 K rfl rfl (W_line_Part N da db0 db1 db2 db3 dc dd Add cdd de0 de1 de2 df0 df1 df2 df3 df4 df5 df6 df7 df8 dg Adg cdg dh o_W (IntKind.i64.wrap (x7 - x6)) l3 ((slA A_o_P c_o_P (IntKind.i64.wrap (x6 * o_W)) 1)) ((c_o_P - Int.toNat (IntKind.i64.wrap (x6 * o_W)))) x6 o_H i x5 _ ((inA Rdd) _ M) Cdd ((inA Rdg) _ M) Cdg ((fun w M => (slA_SL h_l3 C_o_P) w ((inA R_o_P) w M)) _ M) (sli_cap h_l3 C_o_P) r7 h_r7)) ?_
      have M0 := M; clear K M; rintro _ a w ⟨A9, c9, rfl, M⟩ K
      replace M := M0.call M; clear M0
      refine ⟨fun _ => M.pick [2,3,4,5,6] (by decide), ?_⟩
      refine R_rd 24 [25,26,28,29] (by kernel_rfl) rfl K (want_no rfl) rfl rfl (rd_move rfl K rfl) ?_; clear K; intro a K
      refine R_rd 25 [26,28,29] (by kernel_rfl) rfl K (want_no rfl) rfl rfl (rd_extract rfl K rfl rfl) ?_; clear K; intro a K
      refine R_rd 26 [28,29] (by kernel_rfl) rfl K (want_no rfl) rfl rfl (rd_extract rfl K rfl rfl) ?_; clear K; intro a K
      refine R_br [28] (by kernel_rfl) ⟨?_, trivial⟩
      refine R_a0 [29] (by kernel_rfl) rfl K (want_no rfl) rfl (ac_storeA rfl ty24 K rfl (ds := [I r7.1, I r7.2.1, .slice A9 r7.2.2.1.length c9]) rfl rfl 1 M rfl rfl rfl) ?_
      clear K M; rintro _ a w M K
      refine ⟨fun _ => M.pick [2,3,4,5,6] (by decide), ?_⟩
      refine R_rd 29 [] (by kernel_rfl) rfl K (want_no rfl) rfl rfl (rd_assign rfl K rfl) ?_; clear K; intro a K
      refine R_end ?_
      refine then_n (wp_seq (wp_seq (X_reg ?_)))
      refine X_o K M ?_; clear K
      refine Y_o M ?_; intro a K
      refine wpList_nil (then_n ?_)
      refine X_cond K rfl (fun hb => ?_) (fun hb => ?_)
      · have h := ctrue hb h
        refine wp_seq (X_reg ?_)
        refine X_r K (rd_build rfl K (vs := []) (cs := [I 0, I 0, .slice none (([] : List (Int × Int × Int))).length 0]) rfl (by kernel_rfl)) M ?_; clear K
        refine Y_o M ?_; intro a K
        refine X_b K (ac_storeA rfl ty24 K rfl (ds := [I 0, I 0, .slice none (([] : List (Int × Int × Int))).length 0]) rfl rfl 4 M rfl rfl rfl) ?_
        clear K M; rintro _ a w M K
        refine X_o K M ?_; clear K; intro a K
        refine wpList_nil (then_n (wp_ret (then_r (inb_r (then_r (then_r (inb_r (then_r ?_))))))))
        cases h
        exact ret2 K rfl (res_cellA K rfl ty24 (M.blkAt (i := 4) rfl) rfl) (res_tmp K rfl) ⟨_, rfl, _, _, rfl, (((Mem.nilrow 34 3 cIII M)).pick [0] (by decide))⟩
      have h := cfalse hb h
      refine wp_skip (then_n (X_reg ?_))
      refine X_r K (rd_field rfl fld24_2 K rfl) M ?_; clear K
      refine Y_r (fun _ K => rd_ldC rfl sc22 K rfl (inM 3 rfl) rfl) M ?_
      refine Y_r (fun _ K => rd_field rfl fld24_2 K rfl) M ?_
      refine Y_r (fun _ K => rd_ldC rfl sc22 K rfl (inM 1 rfl) rfl) M ?_; intro a K
      obtain ⟨x_P5, h_x_P5, h⟩ := obind h
      refine X_a K (ac_app (C := cIII) (xs := x_P) (ys := r7.2.2.1) rfl sl22 rfl z34 rfl rfl K rfl rfl 2 M rfl ((inR (C := cIII) 0 rfl rfl) _ M) h_x_P5) ?_
      clear K M; rintro _ a w ⟨A10, c10, rfl, M⟩ K
      refine X_r K (rd_field rfl fld24_2 K rfl) M ?_; clear K; intro a K
      refine X_b K (ac_storeC rfl sc22 K rfl rfl rfl 3 M rfl rfl) ?_
      clear K M; rintro _ a w M K
      refine wpList_nil (inb_n (then_n (X_reg ?_)))
      refine X_o K M ?_; clear K
      refine Y_o M ?_; intro a K
      refine wpList_nil ?_
      exact then_n ⟨(x_P5, x5), ⟨A10, c10, K.pick [2,3,4,6,11,12], M.pick [2,3,4,5,6] (by decide)⟩, h⟩
  have h := cfalse hb h
  refine wp_exit ?_
  refine then_e ?_
  exact then_e (hk1 (x_P, i) _ _ ⟨A2, c2, K.pick [2,3,4,6,11,12], M.pick [0,1,2,3,4] (by decide)⟩ h)
end Go.Proofs.Ytpmnfhifmmfglab
