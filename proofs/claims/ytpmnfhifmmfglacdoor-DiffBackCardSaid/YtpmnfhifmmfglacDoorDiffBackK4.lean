/- Texts of the claim DiffBack, joined: WBits, WCmp, WCode, WMath, HCont. -/
import Derived.Test.YtpmnfhifmmfglacDoorDiffBackK1
import Derived.Test.YtpmnfhifmmfglacDoorDiffBackK2
import Derived.Test.YtpmnfhifmmfglacDoorDiffBackK3
set_option linter.unusedVariables false
set_option linter.unusedSimpArgs false
set_option linter.unusedSectionVars false
namespace Go.Proofs.YtpmnfhifmmfglacDoor
open Go.RowKit
set_option maxRecDepth 100000 in
set_option maxHeartbeats 4000000 in
theorem W_bits_digits (N : Nat) (n : Int) (size : Int) (w0 : World)  (r : List UInt8) (h : D_bits_digits N n size = some r) :
    Calls Tryd.prog 66 #[I n, I size] w0 fun e w' => ∃ v, e = .returned v ∧ v = .string (bs r) ∧ Mem w0.heap.size w0 w' [] := by
  refine X_enter Tryd.func66 rfl Tryd.ntmps66 rfl ?_
  intro a K
  have M := Mem.start w0
  have K : Kn a 28 [(0, I n), (1, I size)] := K
  unfold D_bits_digits at h
  refine wp_seq (X_reg ?_)
  refine X_o K M ?_; clear K; intro a K
  refine wpList_nil (then_n (wp_seq (X_reg ?_)))
  refine X_o K M ?_; clear K; intro a K
  obtain ⟨l2, h_l2, h⟩ := obind h
  refine X_a K (ac_make (C := (cI .u8)) (z := 0) rfl sl52 rfl z5 rfl K rfl rfl M h_l2) ?_
  clear K M; rintro _ a w ⟨A, c, rfl, M⟩ K
  refine X_o K M ?_; clear K; intro a K
  refine wpList_nil (then_n (wp_seq (wp_seq (X_reg ?_))))
  refine X_o K M ?_; clear K
  refine Y_r (fun _ K => rd_len rfl un52 K rfl) M ?_
  refine Y_o M ?_; intro a K
  refine wpList_nil (then_n (wp_block ?_))
  refine X_lp (id := 0) (Rel := fun (⟨l3, i, i2⟩ : List Int × Int × Int) a w => Kn a 28 [(0, I n), (1, I size), (5, .slice A l3.length c), (10, I i), (11, I i2)] ∧ Mem w0.heap.size w0 w [.row 5 1 A l3.length c ((cI .u8).all l3)]) h (fun _ _ => rfl) ⟨K.pick [0,1,5,10,11], M.pick [0] (by decide)⟩ ?_ ?_
  · clear K M h
    rintro ⟨l6, i3, i4⟩ a w ⟨K, M⟩ h
    try dsimp only at h
    refine inb_e ?_
    refine then_n (wp_seq (X_reg ?_))
    refine X_o K M ?_; clear K
    refine Y_r (fun _ K => rd_convBS rfl sl52 ik5 st9 K rfl (inR (C := (cI .u8)) 0 rfl rfl)) M ?_
    refine Y_o M ?_; intro a K
    refine wpList_nil (then_n (wp_ret ?_))
    cases h
    exact ret1 K rfl (res_tmp K rfl) ⟨_, rfl, rfl, ((M).pick [] (by decide))⟩
  clear K M h
  rintro kk fuel ⟨l3, i, i2⟩ a w hk1 ⟨K, M⟩ h
  unfold D_bits_digits_l1 at h
  refine wp_seq (X_reg ?_)
  refine X_o K M ?_; clear K; intro a K
  refine wpList_nil (then_n (wp_seq ?_))
  refine X_cond K rfl (fun hb => ?_) (fun hb => ?_)
  · have h := ctrue hb h
    refine wp_skip (then_n (wp_seq (wp_block (wp_seq (X_reg ?_)))))
    refine X_o K M ?_; clear K
    refine Y_o M ?_; intro a K
    refine wpList_nil (then_n (X_reg ?_))
    refine X_o K M ?_; clear K
    iterate 6 (refine Y_o M ?_)
    intro a K
    obtain ⟨_, h0, h⟩ := obind h
    have h0 := nn_spec h0
    refine X_r K (rd_shr rfl K rfl rfl h0) M ?_; clear K
    refine Y_o M ?_
    obtain ⟨b2, h_b2, h⟩ := obind h
    refine Y_r (fun _ K => rd_ixT rfl st9 K rfl rfl h_b2) M ?_
    obtain ⟨e2, h_e2, h⟩ := obind h
    refine Y_r (fun _ K => rd_ix rfl sl52 K rfl rfl (inR (C := (cI .u8)) 0 rfl rfl) h_e2) M ?_; intro a K
    obtain ⟨l5, h_l5, h⟩ := obind h
    refine X_b K (ac_rowset (el := (b2.toNat : Int)) rfl sz5 rfl rfl K rfl rfl rfl 0 M rfl h_l5) ?_
    have M0 := M; clear K M; rintro _ a w M K
    have hl := setL_len h_l5
    try rw [hl] at M
    try rw [hl] at K
    clear hl
    clear M0
    refine wpList_nil (inb_n (then_n (X_reg ?_)))
    refine X_o K M ?_; clear K
    refine Y_o M ?_; intro a K
    refine wpList_nil ?_
    exact then_n ⟨(l5, i, IntKind.i64.wrap (i2 + 1)), ⟨K.pick [0,1,5,10,11], M.pick [0] (by decide)⟩, h⟩
  have h := cfalse hb h
  refine wp_exit ?_
  refine then_e ?_
  exact then_e (hk1 (l3, i, i2) _ _ ⟨K.pick [0,1,5,10,11], M.pick [0] (by decide)⟩ h)
set_option maxRecDepth 100000 in
set_option maxHeartbeats 4000000 in
theorem W_bits_Number (N : Nat) (n : Int) (size : Int) (w0 : World)  (r : List UInt8 × Int) (h : D_bits_Number N n size = some r) :
    Calls Tryd.prog 41 #[I n, I size] w0 fun e w' => ∃ v, e = .returned v ∧ v = .tuple #[.string (bs r.1), I r.2] ∧ Mem w0.heap.size w0 w' [] := by
  refine X_enter Tryd.func41 rfl Tryd.ntmps41 rfl ?_
  intro a K
  have M := Mem.start w0
  have K : Kn a 25 [(0, I n), (1, I size)] := K
  unfold D_bits_Number at h
  refine wp_seq (X_reg ?_)
  refine X_o K M ?_; clear K
  refine Y_o M ?_; intro a K
  refine wpList_nil (then_n (wp_seq (wp_seq (X_reg ?_))))
  refine X_o K M ?_; clear K
  iterate 2 (refine Y_o M ?_)
  intro a K
  rcases Bool.eq_false_or_eq_true (decide (size < 0)) with hb | hb
  · have h := ctrue hb h
    have K := K.reb (s := 8) rfl hb
    refine X_o K M ?_; clear K
    iterate 12 (refine Y_o M ?_)
    intro a K
    refine wpList_nil (then_n ?_)
    refine X_condT K rfl ?_
    refine wp_seq (X_reg ?_)
    refine X_o K M ?_; clear K
    refine Y_o M ?_; intro a K
    refine wpList_nil (then_n (wp_ret (then_r ?_)))
    cases h
    exact ret2 K rfl (res_tmp K rfl) (res_tmp K rfl) ⟨_, rfl, rfl, ((M).pick [] (by decide))⟩
  have h := cfalse hb h
  have K := K.reb (s := 8) rfl hb
  refine X_o K M ?_; clear K
  iterate 3 (refine Y_o M ?_)
  intro a K
  rcases Bool.eq_false_or_eq_true (decide (16 < size)) with hb | hb
  · have h := ctrue hb h
    have K := K.reb (s := 12) rfl hb
    refine X_o K M ?_; clear K
    iterate 8 (refine Y_o M ?_)
    intro a K
    refine wpList_nil (then_n ?_)
    refine X_condT K rfl ?_
    refine wp_seq (X_reg ?_)
    refine X_o K M ?_; clear K
    refine Y_o M ?_; intro a K
    refine wpList_nil (then_n (wp_ret (then_r ?_)))
    cases h
    exact ret2 K rfl (res_tmp K rfl) (res_tmp K rfl) ⟨_, rfl, rfl, ((M).pick [] (by decide))⟩
  have h := cfalse hb h
  have K := K.reb (s := 12) rfl hb
  refine X_o K M ?_; clear K
  iterate 3 (refine Y_o M ?_)
  intro a K
  rcases Bool.eq_false_or_eq_true (decide (n < 0)) with hb | hb
  · have h := ctrue hb h
    have K := K.reb (s := 16) rfl hb
    refine X_o K M ?_; clear K
    iterate 4 (refine Y_o M ?_)
    intro a K
    refine wpList_nil (then_n ?_)
    refine X_condT K rfl ?_
    refine wp_seq (X_reg ?_)
    refine X_o K M ?_; clear K
    refine Y_o M ?_; intro a K
    refine wpList_nil (then_n (wp_ret (then_r ?_)))
    cases h
    exact ret2 K rfl (res_tmp K rfl) (res_tmp K rfl) ⟨_, rfl, rfl, ((M).pick [] (by decide))⟩
  have h := cfalse hb h
  have K := K.reb (s := 16) rfl hb
  refine X_o K M ?_; clear K
  refine Y_o M ?_; intro a K
  obtain ⟨_, h0, h⟩ := obind h
  have h0 := nn_spec h0
  refine X_r K (rd_shl rfl K rfl rfl h0) M ?_; clear K
  iterate 2 (refine Y_o M ?_)
  intro a K
  refine wpList_nil (then_n ?_)
  refine X_cond K rfl (fun hb => ?_) (fun hb => ?_)
  · have h := ctrue hb h
    refine wp_seq (X_reg ?_)
    refine X_o K M ?_; clear K
    refine Y_o M ?_; intro a K
    refine wpList_nil (then_n (wp_ret (then_r ?_)))
    cases h
    exact ret2 K rfl (res_tmp K rfl) (res_tmp K rfl) ⟨_, rfl, rfl, ((M).pick [] (by decide))⟩
  have h := cfalse hb h
  refine wp_skip (then_n (wp_seq (X_reg ?_)))
  refine X_o K M ?_; clear K
  refine Y_o M ?_; intro a K
  obtain ⟨r2, h_r2, h⟩ := obind h
  refine X_a K (ac_call (vs := [I n, I size]) (cap := []) rfl fok66 K rfl rfl (W_bits_digits N n size _  r2 h_r2)) ?_
  have M0 := M; clear K M; rintro _ a w ⟨rfl, M⟩ K
  replace M := M0.call M; clear M0
  refine X_o K M ?_; clear K
  refine Y_o M ?_; intro a K
  refine wpList_nil (then_n (wp_ret ?_))
  cases h
  exact ret2 K rfl (res_tmp K rfl) (res_tmp K rfl) ⟨_, rfl, rfl, ((M).pick [] (by decide))⟩
set_option maxRecDepth 100000 in
set_option maxHeartbeats 4000000 in
theorem W_bits_all (N : Nat) (b : List UInt8) (w0 : World)  (r : Bool) (h : D_bits_all N b = some r) :
    Calls Tryd.prog 62 #[.string (bs b)] w0 fun e w' => ∃ v, e = .returned v ∧ v = .bool r ∧ Mem w0.heap.size w0 w' [] := by
  refine X_enter Tryd.func62 rfl Tryd.ntmps62 rfl ?_
  intro a K
  have M := Mem.start w0
  have K : Kn a 16 [(0, .string (bs b))] := K
  unfold D_bits_all at h
  refine wp_seq (X_reg ?_)
  refine X_o K M ?_; clear K; intro a K
  refine wpList_nil (then_n (wp_seq (X_reg ?_)))
  refine X_o K M ?_; clear K; intro a K
  obtain ⟨r2, h_r2, h⟩ := obind h
  refine X_a K (ac_call (vs := [.string (bs b), .string (bs ([48, 49] : List UInt8))]) (cap := []) rfl fok72 K rfl rfl (W_strings_Trim N b ([48, 49] : List UInt8) _  r2 h_r2)) ?_
  have M0 := M; clear K M; rintro _ a w ⟨rfl, M⟩ K
  replace M := M0.call M; clear M0
  refine X_r K (rd_eqlS rfl K rfl rfl) M ?_; clear K
  refine Y_o M ?_; intro a K
  rcases Bool.eq_false_or_eq_true (decide (r2 = ([] : List UInt8))) with hb | hb
  · have h := ctrue hb h
    have K := K.reb (s := 6) rfl hb
    refine X_o K M ?_; clear K; intro a K
    obtain ⟨r3, h_r3, h⟩ := obind h
    refine X_a K (ac_call (vs := [.string (bs b), .string (bs ([48] : List UInt8))]) (cap := []) rfl fok73 K rfl rfl (W_strings_Count N b ([48] : List UInt8) _  r3 h_r3)) ?_
    have M0 := M; clear K M; rintro _ a w ⟨rfl, M⟩ K
    replace M := M0.call M; clear M0
    refine X_o K M ?_; clear K; intro a K
    obtain ⟨r4, h_r4, h⟩ := obind h
    refine X_a K (ac_call (vs := [.string (bs b), .string (bs ([49] : List UInt8))]) (cap := []) rfl fok73 K rfl rfl (W_strings_Count N b ([49] : List UInt8) _  r4 h_r4)) ?_
    have M0 := M; clear K M; rintro _ a w ⟨rfl, M⟩ K
    replace M := M0.call M; clear M0
    refine X_o K M ?_; clear K
    refine Y_o M ?_
    refine Y_r (fun _ K => rd_lenT rfl st9 K rfl) M ?_
    iterate 3 (refine Y_o M ?_)
    intro a K
    refine wpList_nil (then_n (wp_ret ?_))
    cases h
    exact ret1 K rfl (res_tmp K rfl) ⟨_, rfl, rfl, ((M).pick [] (by decide))⟩
  have h := cfalse hb h
  have K := K.reb (s := 6) rfl hb
  refine X_o K M ?_; clear K
  iterate 9 (refine Y_o M ?_)
  intro a K
  refine wpList_nil (then_n (wp_ret ?_))
  cases h
  exact ret1 K rfl (res_tmp K rfl) ⟨_, rfl, rfl, ((M).pick [] (by decide))⟩
set_option maxRecDepth 100000 in
set_option maxHeartbeats 4000000 in
theorem W_bits_Bytes (N : Nat) (b : List UInt8) (w0 : World)  (r : List UInt8 × Int) (h : D_bits_Bytes N b = some r) :
    Calls Tryd.prog 32 #[.string (bs b)] w0 fun e w' => ∃ v, e = .returned v ∧ v = .tuple #[.string (bs r.1), I r.2] ∧ Mem w0.heap.size w0 w' [] := by
  refine X_enter Tryd.func32 rfl Tryd.ntmps32 rfl ?_
  intro a K
  have M := Mem.start w0
  have K : Kn a 37 [(0, .string (bs b))] := K
  unfold D_bits_Bytes at h
  refine wp_seq (X_reg ?_)
  refine X_o K M ?_; clear K
  refine Y_o M ?_; intro a K
  refine wpList_nil (then_n (wp_seq (wp_seq (X_reg ?_))))
  refine X_o K M ?_; clear K; intro a K
  obtain ⟨r2, h_r2, h⟩ := obind h
  refine X_a K (ac_call (vs := [.string (bs b)]) (cap := []) rfl fok62 K rfl rfl (W_bits_all N b _  r2 h_r2)) ?_
  have M0 := M; clear K M; rintro _ a w ⟨rfl, M⟩ K
  replace M := M0.call M; clear M0
  refine X_o K M ?_; clear K; intro a K
  refine wpList_nil (then_n ?_)
  refine X_cond K rfl (fun hb => ?_) (fun hb => ?_)
  · have h := ctrue hb h
    refine wp_seq (X_reg ?_)
    refine X_o K M ?_; clear K
    refine Y_o M ?_; intro a K
    refine wpList_nil (then_n (wp_ret (then_r ?_)))
    cases h
    exact ret2 K rfl (res_tmp K rfl) (res_tmp K rfl) ⟨_, rfl, rfl, ((M).pick [] (by decide))⟩
  have h := cfalse hb h
  refine wp_skip (then_n (wp_seq (X_reg ?_)))
  refine X_o K M ?_; clear K
  refine Y_r (fun _ K => rd_lenT rfl st9 K rfl) M ?_
  refine Y_o M ?_
  obtain ⟨x2, hx, h⟩ := olet h
  refine Y_r (fun _ K => rdi hx (rd_quo rfl K rfl rfl (by decide))) M ?_; intro a K
  obtain ⟨l2, h_l2, h⟩ := obind h
  refine X_a K (ac_make (C := (cI .u8)) (z := 0) rfl sl52 rfl z5 rfl K rfl rfl M h_l2) ?_
  clear K M; rintro _ a w ⟨A, c, rfl, M⟩ K
  refine X_o K M ?_; clear K; intro a K
  refine wpList_nil (then_n (wp_seq (wp_seq (X_reg ?_))))
  refine X_o K M ?_; clear K
  refine Y_r (fun _ K => rd_lenT rfl st9 K rfl) M ?_
  refine Y_o M ?_; intro a K
  refine wpList_nil (then_n (wp_block ?_))
  refine X_lp (id := 0) (Rel := fun (⟨l3, i⟩ : List Int × Int) a w => Kn a 37 [(0, .string (bs b)), (4, .slice A l3.length c), (15, I (b.length : Int)), (16, I i)] ∧ Mem w0.heap.size w0 w [.row 5 1 A l3.length c ((cI .u8).all l3)]) h (fun _ _ => rfl) ⟨K.pick [0,4,15,16], M.pick [0] (by decide)⟩ ?_ ?_
  · clear K M h
    rintro ⟨l6, i2⟩ a w ⟨K, M⟩ h
    try dsimp only at h
    refine inb_e ?_
    refine then_n (wp_seq (X_reg ?_))
    refine X_o K M ?_; clear K
    refine Y_r (fun _ K => rd_convBS rfl sl52 ik5 st9 K rfl (inR (C := (cI .u8)) 0 rfl rfl)) M ?_
    iterate 2 (refine Y_o M ?_)
    intro a K
    refine wpList_nil (then_n (wp_ret ?_))
    cases h
    exact ret2 K rfl (res_tmp K rfl) (res_tmp K rfl) ⟨_, rfl, rfl, ((M).pick [] (by decide))⟩
  clear K M h
  rintro kk fuel ⟨l3, i⟩ a w hk1 ⟨K, M⟩ h
  unfold D_bits_Bytes_l1 at h
  refine wp_seq (X_reg ?_)
  refine X_o K M ?_; clear K; intro a K
  refine wpList_nil (then_n (wp_seq ?_))
  refine X_cond K rfl (fun hb => ?_) (fun hb => ?_)
  · have h := ctrue hb h
    refine wp_skip (then_n (wp_seq (wp_block (wp_seq (X_reg ?_)))))
    refine X_o K M ?_; clear K
    refine Y_o M ?_; intro a K
    refine wpList_nil (then_n ?_)
    refine wp_region_tl (fun w => Mem _ _ w _) [0,0,0,0,0,0,0,0,0,0,0,0,0,0,0,2] (by kernel_rfl) (by kernel_rfl) M.drew ?_
    replace M := M.drew
    refine T_o K ?_; clear K
    refine U_o ?_
    obtain ⟨x4, hx, h⟩ := olet h
    refine U_r (fun _ K => rdi hx (rd_quo rfl K rfl rfl (by decide))) ?_
    obtain ⟨e3, h_e3, h⟩ := obind h
    refine U_r (fun _ K => rd_ixP rfl sl52 K rfl rfl ((inR (C := (cI .u8)) 0 rfl rfl) _ M) h_e3) ?_
    refine U_r (fun _ K => rd_elC rfl sc5 K rfl rfl (inR (C := (cI .u8)) 0 rfl rfl) h_e3 rfl) ?_
    iterate 2 (refine U_o ?_)
    obtain ⟨b3, h_b3, h⟩ := obind h
    refine U_r (fun _ K => rd_ixT rfl st9 K rfl rfl h_b3) ?_
    iterate 2 (refine U_o ?_)
    refine U_r (fun _ K => rd_rem rfl K rfl rfl (by decide)) ?_
    refine U_o ?_; intro a K
    obtain ⟨_, h0, h⟩ := obind h
    have h0 := nn_spec h0
    refine T_r K (rd_shl rfl K rfl rfl h0) ?_; clear K
    refine U_r (fun _ K => rd_or rfl K rfl rfl) ?_
    obtain ⟨e4, h_e4, h⟩ := obind h
    refine U_r (fun _ K => rd_ixP rfl sl52 K rfl rfl ((inR (C := (cI .u8)) 0 rfl rfl) _ M) h_e4) ?_; intro a K
    obtain ⟨l5, h_l5, h⟩ := obind h
    refine T_b K (ac_rowset (el := orI .u8 e3 (shlI .u8 (IntKind.u8.wrap ((b3.toNat : Int) - 48)) (IntKind.i64.wrap (7 - (Int.tmod i 8))))) rfl sz5 rfl rfl K rfl rfl rfl 0 M rfl h_l5) ?_
    have M0 := M; clear K M; rintro _ a w M K
    have hl := setL_len h_l5
    try rw [hl] at M
    try rw [hl] at K
    clear hl
    clear M0
    refine T_end ?_
    refine inb_n (then_n (X_reg ?_))
    refine X_o K M ?_; clear K
    refine Y_o M ?_; intro a K
    refine wpList_nil ?_
    exact then_n ⟨(l5, IntKind.i64.wrap (i + 1)), ⟨K.pick [0,4,15,16], M.pick [0] (by decide)⟩, h⟩
  have h := cfalse hb h
  refine wp_exit ?_
  refine then_e ?_
  exact then_e (hk1 (l3, i) _ _ ⟨K.pick [0,4,15,16], M.pick [0] (by decide)⟩ h)
set_option maxRecDepth 100000 in
set_option maxHeartbeats 4000000 in
theorem W_bits_Bits (N : Nat) (s : List UInt8) (w0 : World)  (r : List UInt8) (h : D_bits_Bits N s = some r) :
    Calls Tryd.prog 54 #[.string (bs s)] w0 fun e w' => ∃ v, e = .returned v ∧ v = .string (bs r) ∧ Mem w0.heap.size w0 w' [] := by
  refine X_enter Tryd.func54 rfl Tryd.ntmps54 rfl ?_
  intro a K
  have M := Mem.start w0
  have K : Kn a 18 [(0, .string (bs s))] := K
  unfold D_bits_Bits at h
  refine wp_seq (X_reg ?_)
  refine X_o K M ?_; clear K; intro a K
  refine wpList_nil (then_n (wp_seq (X_reg ?_)))
  refine X_a K (ac_alloc rfl (show zeroT Tryd.prog 54 = some [.pointer none, .slice none 0 0] by kernel_rfl) M) ?_
  have M0 := M; clear K M; rintro _ a w ⟨g_b, rfl, M⟩ K
  replace M := Mem.asBld 5 M
  clear M0
  refine wpList_nil (then_n (wp_seq (wp_seq (X_reg ?_))))
  refine X_o K M ?_; clear K; intro a K
  refine wpList_nil (then_n (wp_block ?_))
  refine X_lp (id := 0) (Rel := fun (⟨l2, i⟩ : List UInt8 × Int) a w => ∃ (A : Option Addr) (c : Nat), Kn a 18 [(0, .string (bs s)), (3, .pointer (some ⟨g_b, 0, none⟩)), (4, I i)] ∧ Mem w0.heap.size w0 w [.row 5 1 A l2.length c ((cI .u8).all (ofB l2)), .bld g_b 54 A l2.length c]) h (fun _ _ => rfl) ⟨none, 0, K.pick [0,3,4], M.pick [0,1] (by decide)⟩ ?_ ?_
  · clear K M h
    rintro ⟨l3, i4⟩ a w ⟨A4, c4, K, M⟩ h
    try dsimp only at h
    refine inb_e ?_
    refine then_n (wp_seq (X_reg ?_))
    refine X_a K (ac_call (vs := [.pointer (some ⟨g_b, 0, none⟩)]) (cap := []) rfl fok28 K rfl rfl (W_bld_string (show Mem _ _ _ [.bld g_b 54 A4 l3.length c4, .row 5 1 A4 l3.length c4 ((cI .u8).all (ofB l3))] from M.pick [1,0] (by decide)))) ?_
    clear K M; rintro _ a w ⟨rfl, M⟩ K
    refine X_o K M ?_; clear K; intro a K
    refine wpList_nil (then_n (wp_ret ?_))
    cases h
    exact ret1 K rfl (res_tmp K rfl) ⟨_, rfl, rfl, ((M).pick [] (by decide))⟩
  clear K M h
  rintro kk fuel ⟨l2, i⟩ a w hk1 ⟨A, c, K, M⟩ h
  unfold D_bits_Bits_l1 at h
  refine wp_seq (wp_seq (X_reg ?_))
  refine X_o K M ?_; clear K
  refine Y_o M ?_
  refine Y_r (fun _ K => rd_lenT rfl st9 K rfl) M ?_
  refine Y_o M ?_; intro a K
  refine wpList_nil (then_n ?_)
  refine X_cond K rfl (fun hb => ?_) (fun hb => ?_)
  · have h := ctrue hb h
    refine wp_skip (then_n (wp_seq (wp_block (X_reg ?_))))
    refine X_o K M ?_; clear K
    refine Y_o M ?_
    obtain ⟨b3, h_b3, h⟩ := obind h
    refine Y_r (fun _ K => rd_ixT rfl st9 K rfl rfl h_b3) M ?_
    refine Y_r (fun _ K => rd_conv rfl rfl ik3 K rfl) M ?_; intro a K
    obtain ⟨r3, h_r3, h⟩ := obind h
    refine X_a K (ac_call (vs := [I (IntKind.i64.wrap (b3.toNat : Int)), I 8]) (cap := []) rfl fok66 K rfl rfl (W_bits_digits N (IntKind.i64.wrap (b3.toNat : Int)) 8 _  r3 h_r3)) ?_
    have M0 := M; clear K M; rintro _ a w ⟨rfl, M⟩ K
    replace M := M0.call M; clear M0
    obtain ⟨b4, h_b4, h⟩ := obind h
    refine X_a K (ac_call (vs := [.pointer (some ⟨g_b, 0, none⟩), .string (bs r3)]) (cap := []) rfl fok27 K rfl rfl (W_bld_write (show Mem _ _ _ [.bld g_b 54 A l2.length c, .row 5 1 A l2.length c ((cI .u8).all (ofB l2))] from M.pick [1,0] (by decide)) h_b4)) ?_
    clear K M; rintro _ a w ⟨A3, c3, M⟩ K
    refine wpList_nil (inb_n (then_n (X_reg ?_)))
    refine X_o K M ?_; clear K
    refine Y_o M ?_
    obtain ⟨i3, hx, h⟩ := olet h
    refine Y_r (fun _ K => rdi hx (rd_assign rfl K rfl)) M ?_; intro a K
    refine wpList_nil ?_
    exact then_n ⟨(b4, i3), ⟨A3, c3, K.pick [0,3,4], M.pick [1,0] (by decide)⟩, h⟩
  have h := cfalse hb h
  refine wp_exit ?_
  refine then_e ?_
  exact then_e (hk1 (l2, i) _ _ ⟨A, c, K.pick [0,3,4], M.pick [0,1] (by decide)⟩ h)
set_option maxRecDepth 100000 in
set_option maxHeartbeats 4000000 in
theorem W_bits_Value (N : Nat) (b : List UInt8) (w0 : World)  (r : Int × Int) (h : D_bits_Value N b = some r) :
    Calls Tryd.prog 56 #[.string (bs b)] w0 fun e w' => ∃ v, e = .returned v ∧ v = .tuple #[I r.1, I r.2] ∧ Mem w0.heap.size w0 w' [] := by
  refine X_enter Tryd.func56 rfl Tryd.ntmps56 rfl ?_
  intro a K
  have M := Mem.start w0
  have K : Kn a 27 [(0, .string (bs b))] := K
  unfold D_bits_Value at h
  refine wp_seq (X_reg ?_)
  refine X_o K M ?_; clear K
  refine Y_o M ?_; intro a K
  refine wpList_nil (then_n (wp_seq (wp_seq (X_reg ?_))))
  refine X_o K M ?_; clear K; intro a K
  obtain ⟨r2, h_r2, h⟩ := obind h
  refine X_a K (ac_call (vs := [.string (bs b)]) (cap := []) rfl fok62 K rfl rfl (W_bits_all N b _  r2 h_r2)) ?_
  have M0 := M; clear K M; rintro _ a w ⟨rfl, M⟩ K
  replace M := M0.call M; clear M0
  refine X_o K M ?_; clear K; intro a K
  refine wpList_nil (then_n ?_)
  refine X_cond K rfl (fun hb => ?_) (fun hb => ?_)
  · have h := ctrue hb h
    refine wp_seq (X_reg ?_)
    refine X_o K M ?_; clear K
    refine Y_o M ?_; intro a K
    refine wpList_nil (then_n (wp_ret (then_r ?_)))
    cases h
    exact ret2 K rfl (res_tmp K rfl) (res_tmp K rfl) ⟨_, rfl, rfl, ((M).pick [] (by decide))⟩
  have h := cfalse hb h
  refine wp_skip (then_n (wp_seq (wp_seq (X_reg ?_))))
  refine X_o K M ?_; clear K
  refine Y_r (fun _ K => rd_lenT rfl st9 K rfl) M ?_
  refine Y_o M ?_; intro a K
  refine wpList_nil (then_n ?_)
  refine X_cond K rfl (fun hb => ?_) (fun hb => ?_)
  · have h := ctrue hb h
    refine wp_seq (X_reg ?_)
    refine X_o K M ?_; clear K
    refine Y_o M ?_; intro a K
    refine wpList_nil (then_n (wp_ret (then_r ?_)))
    cases h
    exact ret2 K rfl (res_tmp K rfl) (res_tmp K rfl) ⟨_, rfl, rfl, ((M).pick [] (by decide))⟩
  have h := cfalse hb h
  refine wp_skip (then_n (wp_seq (X_reg ?_)))
  refine X_o K M ?_; clear K; intro a K
  refine wpList_nil (then_n (wp_seq (wp_seq (X_reg ?_))))
  refine X_o K M ?_; clear K
  refine Y_r (fun _ K => rd_lenT rfl st9 K rfl) M ?_
  refine Y_o M ?_; intro a K
  refine wpList_nil (then_n (wp_block ?_))
  refine X_lp (id := 0) (Rel := fun (⟨n, i⟩ : Int × Int) a w => Kn a 27 [(0, .string (bs b)), (4, I n), (13, I (b.length : Int)), (14, I i)] ∧ Mem w0.heap.size w0 w []) h (fun _ _ => rfl) ⟨K.pick [0,4,13,14], M.pick [] (by decide)⟩ ?_ ?_
  · clear K M h
    rintro ⟨n4, i2⟩ a w ⟨K, M⟩ h
    try dsimp only at h
    refine inb_e ?_
    refine then_n (wp_seq (X_reg ?_))
    refine X_o K M ?_; clear K
    iterate 2 (refine Y_o M ?_)
    intro a K
    refine wpList_nil (then_n (wp_ret ?_))
    cases h
    exact ret2 K rfl (res_tmp K rfl) (res_tmp K rfl) ⟨_, rfl, rfl, ((M).pick [] (by decide))⟩
  clear K M h
  rintro kk fuel ⟨n, i⟩ a w hk1 ⟨K, M⟩ h
  unfold D_bits_Value_l1 at h
  refine wp_seq (X_reg ?_)
  refine X_o K M ?_; clear K; intro a K
  refine wpList_nil (then_n (wp_seq ?_))
  refine X_cond K rfl (fun hb => ?_) (fun hb => ?_)
  · have h := ctrue hb h
    refine wp_skip (then_n (wp_seq (wp_block (wp_seq (X_reg ?_)))))
    refine X_o K M ?_; clear K
    refine Y_o M ?_; intro a K
    refine wpList_nil (then_n (X_reg ?_))
    refine X_o K M ?_; clear K
    refine Y_r (fun _ K => rd_shl rfl K rfl rfl (by decide)) M ?_
    iterate 2 (refine Y_o M ?_)
    obtain ⟨b3, h_b3, h⟩ := obind h
    refine Y_r (fun _ K => rd_ixT rfl st9 K rfl rfl h_b3) M ?_
    refine Y_o M ?_
    refine Y_r (fun _ K => rd_conv rfl rfl ik3 K rfl) M ?_
    refine Y_o M ?_
    obtain ⟨n3, hx, h⟩ := olet h
    refine Y_r (fun _ K => rdi hx (rd_assign rfl K rfl)) M ?_; intro a K
    refine wpList_nil (inb_n (then_n (X_reg ?_)))
    refine X_o K M ?_; clear K
    refine Y_o M ?_; intro a K
    refine wpList_nil ?_
    exact then_n ⟨(n3, IntKind.i64.wrap (i + 1)), ⟨K.pick [0,4,13,14], M.pick [] (by decide)⟩, h⟩
  have h := cfalse hb h
  refine wp_exit ?_
  refine then_e ?_
  exact then_e (hk1 (n, i) _ _ ⟨K.pick [0,4,13,14], M.pick [] (by decide)⟩ h)
end Go.Proofs.YtpmnfhifmmfglacDoor

namespace Go.Proofs.YtpmnfhifmmfglacDoor
open Go.RowKit
set_option maxRecDepth 100000 in
set_option maxHeartbeats 4000000 in
theorem W_cmp_isNaN_int (N : Nat) (x2 : Int) (w0 : World)  (r : Bool) (h : D_cmp_isNaN_int N x2 = some r) :
    Calls Tryd.prog 65 #[I x2] w0 fun e w' => ∃ v, e = .returned v ∧ v = .bool r ∧ Mem w0.heap.size w0 w' [] := by
  refine X_enter Tryd.func65 rfl Tryd.ntmps65 rfl ?_
  intro a K
  have M := Mem.start w0
  have K : Kn a 6 [(0, I x2)] := K
  unfold D_cmp_isNaN_int at h
  refine wp_seq (X_reg ?_)
  refine X_o K M ?_; clear K; intro a K
  refine wpList_nil (then_n (wp_seq (X_reg ?_)))
  refine X_o K M ?_; clear K
  iterate 3 (refine Y_o M ?_)
  intro a K
  refine wpList_nil (then_n (wp_ret ?_))
  cases h
  exact ret1 K rfl (res_tmp K rfl) ⟨_, rfl, rfl, ((M).pick [] (by decide))⟩
set_option maxRecDepth 100000 in
set_option maxHeartbeats 4000000 in
theorem W_cmp_Compare_int (N : Nat) (x2 : Int) (y : Int) (w0 : World)  (r : Int) (h : D_cmp_Compare_int N x2 y = some r) :
    Calls Tryd.prog 40 #[I x2, I y] w0 fun e w' => ∃ v, e = .returned v ∧ v = I r ∧ Mem w0.heap.size w0 w' [] := by
  refine X_enter Tryd.func40 rfl Tryd.ntmps40 rfl ?_
  intro a K
  have M := Mem.start w0
  have K : Kn a 20 [(0, I x2), (1, I y)] := K
  unfold D_cmp_Compare_int at h
  refine wp_seq (X_reg ?_)
  refine X_o K M ?_; clear K; intro a K
  refine wpList_nil (then_n (wp_seq (X_reg ?_)))
  refine X_o K M ?_; clear K; intro a K
  obtain ⟨r2, h_r2, h⟩ := obind h
  refine X_a K (ac_call (vs := [I x2]) (cap := []) rfl fok65 K rfl rfl (W_cmp_isNaN_int N x2 _  r2 h_r2)) ?_
  have M0 := M; clear K M; rintro _ a w ⟨rfl, M⟩ K
  replace M := M0.call M; clear M0
  refine X_o K M ?_; clear K; intro a K
  refine wpList_nil (then_n (wp_seq (X_reg ?_)))
  refine X_o K M ?_; clear K; intro a K
  obtain ⟨r3, h_r3, h⟩ := obind h
  refine X_a K (ac_call (vs := [I y]) (cap := []) rfl fok65 K rfl rfl (W_cmp_isNaN_int N y _  r3 h_r3)) ?_
  have M0 := M; clear K M; rintro _ a w ⟨rfl, M⟩ K
  replace M := M0.call M; clear M0
  refine X_o K M ?_; clear K; intro a K
  refine wpList_nil (then_n (wp_seq (wp_seq (X_reg ?_))))
  refine X_o K M ?_; clear K; intro a K
  refine wpList_nil (then_n ?_)
  refine X_cond K rfl (fun hb => ?_) (fun hb => ?_)
  · have h := ctrue hb h
    refine wp_seq (wp_seq (X_reg ?_))
    refine X_o K M ?_; clear K; intro a K
    refine wpList_nil (then_n ?_)
    refine X_cond K rfl (fun hb => ?_) (fun hb => ?_)
    · have h := ctrue hb h
      refine wp_seq (X_reg ?_)
      refine X_o K M ?_; clear K; intro a K
      refine wpList_nil (then_n (wp_ret (then_r (then_r ?_))))
      cases h
      exact ret1 K rfl (res_tmp K rfl) ⟨_, rfl, rfl, ((M).pick [] (by decide))⟩
    have h := cfalse hb h
    refine wp_skip (then_n (wp_seq (X_reg ?_)))
    refine X_o K M ?_; clear K; intro a K
    refine wpList_nil (then_n (wp_ret (then_r ?_)))
    cases h
    exact ret1 K rfl (res_tmp K rfl) ⟨_, rfl, rfl, ((M).pick [] (by decide))⟩
  have h := cfalse hb h
  refine wp_skip (then_n (wp_seq (wp_seq (X_reg ?_))))
  refine X_o K M ?_; clear K; intro a K
  refine wpList_nil (then_n ?_)
  refine X_cond K rfl (fun hb => ?_) (fun hb => ?_)
  · have h := ctrue hb h
    refine wp_seq (X_reg ?_)
    refine X_o K M ?_; clear K; intro a K
    refine wpList_nil (then_n (wp_ret (then_r ?_)))
    cases h
    exact ret1 K rfl (res_tmp K rfl) ⟨_, rfl, rfl, ((M).pick [] (by decide))⟩
  have h := cfalse hb h
  refine wp_skip (then_n (wp_seq (wp_seq (X_reg ?_))))
  refine X_o K M ?_; clear K
  iterate 2 (refine Y_o M ?_)
  intro a K
  refine wpList_nil (then_n ?_)
  refine X_cond K rfl (fun hb => ?_) (fun hb => ?_)
  · have h := ctrue hb h
    refine wp_seq (X_reg ?_)
    refine X_o K M ?_; clear K; intro a K
    refine wpList_nil (then_n (wp_ret (then_r ?_)))
    cases h
    exact ret1 K rfl (res_tmp K rfl) ⟨_, rfl, rfl, ((M).pick [] (by decide))⟩
  have h := cfalse hb h
  refine wp_skip (then_n (wp_seq (wp_seq (X_reg ?_))))
  refine X_o K M ?_; clear K
  iterate 2 (refine Y_o M ?_)
  intro a K
  refine wpList_nil (then_n ?_)
  refine X_cond K rfl (fun hb => ?_) (fun hb => ?_)
  · have h := ctrue hb h
    refine wp_seq (X_reg ?_)
    refine X_o K M ?_; clear K; intro a K
    refine wpList_nil (then_n (wp_ret (then_r ?_)))
    cases h
    exact ret1 K rfl (res_tmp K rfl) ⟨_, rfl, rfl, ((M).pick [] (by decide))⟩
  have h := cfalse hb h
  refine wp_skip (then_n (wp_seq (X_reg ?_)))
  refine X_o K M ?_; clear K; intro a K
  refine wpList_nil (then_n (wp_ret ?_))
  cases h
  exact ret1 K rfl (res_tmp K rfl) ⟨_, rfl, rfl, ((M).pick [] (by decide))⟩
end Go.Proofs.YtpmnfhifmmfglacDoor

namespace Go.Proofs.YtpmnfhifmmfglacDoor
open Go.RowKit
set_option maxRecDepth 100000 in
set_option maxHeartbeats 4000000 in
theorem W_code_Check (N : Nat) (lens : List Int) (A_lens : Option Addr) (c_lens : Nat) (w0 : World) (R_lens : SL w0 (cI .i64) A_lens lens) (C_lens : lens.length ≤ c_lens) (r : Int) (h : D_code_Check N lens = some r) :
    Calls Tryd.prog 37 #[.slice A_lens lens.length c_lens] w0 fun e w' => ∃ v, e = .returned v ∧ v = I r ∧ Mem w0.heap.size w0 w' [] := by
  refine X_enter Tryd.func37 rfl Tryd.ntmps37 rfl ?_
  intro a K
  have M := Mem.start w0
  have K : Kn a 40 [(0, .slice A_lens lens.length c_lens)] := K
  unfold D_code_Check at h
  refine wp_seq (X_reg ?_)
  refine X_o K M ?_; clear K; intro a K
  refine wpList_nil (then_n (wp_seq (wp_seq (X_reg ?_))))
  refine X_o K M ?_; clear K
  refine Y_r (fun _ K => rd_len rfl un22 K rfl) M ?_
  iterate 2 (refine Y_o M ?_)
  intro a K
  rcases Bool.eq_false_or_eq_true (decide ((lens.length : Int) < 1)) with hb | hb
  · have h := ctrue hb h
    have K := K.reb (s := 9) rfl hb
    refine X_o K M ?_; clear K
    iterate 3 (refine Y_o M ?_)
    intro a K
    refine wpList_nil (then_n ?_)
    refine X_condT K rfl ?_
    refine wp_seq (X_reg ?_)
    refine X_o K M ?_; clear K; intro a K
    refine wpList_nil (then_n (wp_ret (then_r ?_)))
    cases h
    exact ret1 K rfl (res_tmp K rfl) ⟨_, rfl, rfl, ((M).pick [] (by decide))⟩
  have h := cfalse hb h
  have K := K.reb (s := 9) rfl hb
  refine X_o K M ?_; clear K
  refine Y_r (fun _ K => rd_len rfl un22 K rfl) M ?_
  iterate 2 (refine Y_o M ?_)
  intro a K
  refine wpList_nil (then_n ?_)
  refine X_cond K rfl (fun hb => ?_) (fun hb => ?_)
  · have h := ctrue hb h
    refine wp_seq (X_reg ?_)
    refine X_o K M ?_; clear K; intro a K
    refine wpList_nil (then_n (wp_ret (then_r ?_)))
    cases h
    exact ret1 K rfl (res_tmp K rfl) ⟨_, rfl, rfl, ((M).pick [] (by decide))⟩
  have h := cfalse hb h
  refine wp_skip (then_n (wp_seq (X_reg ?_)))
  refine X_o K M ?_; clear K; intro a K
  refine wpList_nil (then_n (wp_seq (wp_seq (X_reg ?_))))
  refine X_o K M ?_; clear K
  refine Y_r (fun _ K => rd_len rfl un22 K rfl) M ?_
  refine Y_o M ?_; intro a K
  refine wpList_nil (then_n (wp_block ?_))
  refine X_lp (id := 0) (Rel := fun (⟨room, i⟩ : Int × Int) a w => Kn a 40 [(3, I room), (14, .slice A_lens lens.length c_lens), (15, I (lens.length : Int)), (16, I i)] ∧ Mem w0.heap.size w0 w []) h (fun _ _ => rfl) ⟨K.pick [3,14,15,16], M.pick [] (by decide)⟩ ?_ ?_
  · clear K M h
    rintro ⟨room4, i2⟩ a w ⟨K, M⟩ h
    try dsimp only at h
    refine inb_e ?_
    refine then_n (wp_seq (wp_seq (X_reg ?_)))
    refine X_o K M ?_; clear K
    iterate 2 (refine Y_o M ?_)
    intro a K
    rcases Bool.eq_false_or_eq_true (decide (room4 < 0)) with hb | hb
    · have h := ctrue hb h
      have K := K.reb (s := 36) rfl hb
      refine X_o K M ?_; clear K
      iterate 2 (refine Y_o M ?_)
      intro a K
      refine wpList_nil (then_n ?_)
      refine X_condT K rfl ?_
      refine wp_seq (X_reg ?_)
      refine X_o K M ?_; clear K; intro a K
      refine wpList_nil (then_n (wp_ret (then_r ?_)))
      cases h
      exact ret1 K rfl (res_tmp K rfl) ⟨_, rfl, rfl, ((M).pick [] (by decide))⟩
    have h := cfalse hb h
    have K := K.reb (s := 36) rfl hb
    refine X_o K M ?_; clear K
    iterate 2 (refine Y_o M ?_)
    intro a K
    refine wpList_nil (then_n ?_)
    refine X_cond K rfl (fun hb => ?_) (fun hb => ?_)
    · have h := ctrue hb h
      refine wp_seq (X_reg ?_)
      refine X_o K M ?_; clear K; intro a K
      refine wpList_nil (then_n (wp_ret (then_r ?_)))
      cases h
      exact ret1 K rfl (res_tmp K rfl) ⟨_, rfl, rfl, ((M).pick [] (by decide))⟩
    have h := cfalse hb h
    refine wp_skip (then_n (wp_seq (X_reg ?_)))
    refine X_o K M ?_; clear K; intro a K
    refine wpList_nil (then_n (wp_ret ?_))
    cases h
    exact ret1 K rfl (res_tmp K rfl) ⟨_, rfl, rfl, ((M).pick [] (by decide))⟩
  clear K M h
  rintro kk fuel ⟨room, i⟩ a w hk1 ⟨K, M⟩ h
  unfold D_code_Check_l1 at h
  refine wp_seq (X_reg ?_)
  refine X_o K M ?_; clear K; intro a K
  refine wpList_nil (then_n (wp_seq ?_))
  refine X_cond K rfl (fun hb => ?_) (fun hb => ?_)
  · have h := ctrue hb h
    refine wp_skip (then_n (wp_seq (wp_block (wp_seq (X_reg ?_)))))
    obtain ⟨e2, h_e2, h⟩ := obind h
    refine X_r K (rd_ix rfl sl22 K rfl rfl (inA R_lens) h_e2) M ?_; clear K
    refine Y_r (fun _ K => rd_elC rfl sc3 K rfl rfl (inA R_lens) h_e2 rfl) M ?_
    refine Y_o M ?_; intro a K
    refine wpList_nil (then_n (wp_seq (wp_seq (X_reg ?_))))
    refine X_o K M ?_; clear K
    iterate 2 (refine Y_o M ?_)
    intro a K
    rcases Bool.eq_false_or_eq_true (decide (e2 < 0)) with hb | hb
    · have h := ctrue hb h
      have K := K.reb (s := 22) rfl hb
      refine X_o K M ?_; clear K
      iterate 2 (refine Y_o M ?_)
      intro a K
      refine wpList_nil (then_n ?_)
      refine X_condT K rfl ?_
      refine wp_seq (X_reg ?_)
      refine X_o K M ?_; clear K; intro a K
      refine wpList_nil (then_n (wp_ret (then_r (inb_r (then_r (then_r (inb_r (then_r ?_))))))))
      cases h
      exact ret1 K rfl (res_tmp K rfl) ⟨_, rfl, rfl, ((M).pick [] (by decide))⟩
    have h := cfalse hb h
    have K := K.reb (s := 22) rfl hb
    refine X_o K M ?_; clear K
    iterate 2 (refine Y_o M ?_)
    intro a K
    refine wpList_nil (then_n ?_)
    refine X_cond K rfl (fun hb => ?_) (fun hb => ?_)
    · have h := ctrue hb h
      refine wp_seq (X_reg ?_)
      refine X_o K M ?_; clear K; intro a K
      refine wpList_nil (then_n (wp_ret (then_r (inb_r (then_r (then_r (inb_r (then_r ?_))))))))
      cases h
      exact ret1 K rfl (res_tmp K rfl) ⟨_, rfl, rfl, ((M).pick [] (by decide))⟩
    have h := cfalse hb h
    refine wp_skip (then_n (wp_seq (X_reg ?_)))
    refine X_o K M ?_; clear K
    refine Y_o M ?_; intro a K
    refine wpList_nil (then_n ?_)
    refine X_cond K rfl (fun hb => ?_) (fun hb => ?_)
    · have h := ctrue hb h
      refine X_reg ?_
      refine X_o K M ?_; clear K
      iterate 2 (refine Y_o M ?_)
      intro a K
      obtain ⟨_, h0, h⟩ := obind h
      have h0 := nn_spec h0
      refine X_r K (rd_shl rfl K rfl rfl h0) M ?_; clear K
      refine Y_o M ?_
      obtain ⟨room3, hx, h⟩ := olet h
      refine Y_r (fun _ K => rdi hx (rd_assign rfl K rfl)) M ?_; intro a K
      refine wpList_nil (inb_n (then_n (X_reg ?_)))
      refine X_o K M ?_; clear K
      refine Y_o M ?_; intro a K
      refine wpList_nil ?_
      exact then_n ⟨(room3, IntKind.i64.wrap (i + 1)), ⟨K.pick [3,14,15,16], M.pick [] (by decide)⟩, h⟩
    have h := cfalse hb h
    refine wp_skip (inb_n (then_n (X_reg ?_)))
    refine X_o K M ?_; clear K
    refine Y_o M ?_; intro a K
    refine wpList_nil ?_
    exact then_n ⟨(room, IntKind.i64.wrap (i + 1)), ⟨K.pick [3,14,15,16], M.pick [] (by decide)⟩, h⟩
  have h := cfalse hb h
  refine wp_exit ?_
  refine then_e ?_
  exact then_e (hk1 (room, i) _ _ ⟨K.pick [3,14,15,16], M.pick [] (by decide)⟩ h)
set_option maxRecDepth 100000 in
set_option maxHeartbeats 4000000 in
theorem W_code_Words_1 (N : Nat) (a2 : Int) (b : Int) (v0 : List Int) (A_v0 : Option Addr) (c_v0 : Nat) (g_v0 : Nat) (w0 : World) (R_v0 : SL w0 (cI .i64) A_v0 v0) (C_v0 : v0.length ≤ c_v0) (B_g_v0 : Blk w0 g_v0 22 #[.slice A_v0 v0.length c_v0]) (r : Int) (h : D_code_Words_1 N a2 b v0 = some r) :
    Calls Tryd.prog 39 #[I a2, I b, .pointer (some ⟨g_v0, 0, none⟩)] w0 fun e w' => ∃ v, e = .returned v ∧ v = I r ∧ Mem w0.heap.size w0 w' [] := by
  refine X_enter Tryd.func39 rfl Tryd.ntmps39 rfl ?_
  intro a K
  have M := Mem.start w0
  have K : Kn a 15 [(0, I a2), (1, I b), (2, .pointer (some ⟨g_v0, 0, none⟩))] := K
  unfold D_code_Words_1 at h
  refine wp_seq (X_reg ?_)
  refine X_o K M ?_; clear K; intro a K
  refine wpList_nil (then_n (wp_seq ?_))
  refine wp_region_tl (fun w => Mem _ _ w _) [0,0,0,0,0,0,0,0,1,0] (by kernel_rfl) (by kernel_rfl) M.drew ?_
  replace M := M.drew
  refine T_r K (rd_ldC rfl sc22 K rfl (inO B_g_v0) rfl) ?_; clear K
  refine U_o ?_
  obtain ⟨e, h_e, h⟩ := obind h
  refine U_r (fun _ K => rd_ixP rfl sl22 K rfl rfl ((inA R_v0) _ M) h_e) ?_
  refine U_r (fun _ K => rd_elC rfl sc3 K rfl rfl (inA R_v0) h_e rfl) ?_
  refine U_r (fun _ K => rd_ldC rfl sc22 K rfl (inO B_g_v0) rfl) ?_
  refine U_o ?_
  obtain ⟨e2, h_e2, h⟩ := obind h
  refine U_r (fun _ K => rd_ixP rfl sl22 K rfl rfl ((inA R_v0) _ M) h_e2) ?_
  refine U_r (fun _ K => rd_elC rfl sc3 K rfl rfl (inA R_v0) h_e2 rfl) ?_; intro a K
  obtain ⟨r2, h_r2, h⟩ := obind h
  refine T_a K (ac_call (vs := [I e, I e2]) (cap := []) rfl fok40 K rfl rfl (W_cmp_Compare_int N e e2 _  r2 h_r2)) ?_
  have M0 := M; clear K M; rintro _ a w ⟨rfl, M⟩ K
  replace M := M0.call M; clear M0
  refine ⟨M.pick [] (by decide), ?_⟩
  refine T_o K ?_; clear K; intro a K
  refine T_end ?_
  refine then_n (wp_ret ?_)
  cases h
  exact ret1 K rfl (res_tmp K rfl) ⟨_, rfl, rfl, ((M).pick [] (by decide))⟩
set_option maxRecDepth 100000 in
set_option maxHeartbeats 4000000 in
theorem W_code_Words (N : Nat) (d : List Int) (A_d : Option Addr) (c_d : Nat) (w0 : World) (R_d : SL w0 (cI .i64) A_d d) (C_d : d.length ≤ c_d) (r : List (List UInt8) × Int) (h : D_code_Words N d = some r) :
    Calls Tryd.prog 15 #[.slice A_d d.length c_d] w0 fun e w' => ∃ v, e = .returned v ∧ ∃ A0 c0, v = .tuple #[.slice A0 r.1.length c0, I r.2] ∧ Mem w0.heap.size w0 w' [.row 9 1 A0 r.1.length c0 (cS.all r.1)] := by
  refine X_enter Tryd.func15 rfl Tryd.ntmps15 rfl ?_
  intro a K
  have M := Mem.start w0
  have K : Kn a 74 [(0, .slice A_d d.length c_d)] := K
  unfold D_code_Words at h
  refine wp_seq (X_reg ?_)
  refine X_a K (ac_box rfl K rfl (cs := [.slice A_d d.length c_d]) rfl M) ?_
  clear K M; rintro _ a w ⟨g_o, rfl, M⟩ K
  refine X_o K M ?_; clear K
  refine Y_o M ?_; intro a K
  refine wpList_nil (then_n (wp_seq (wp_seq (X_reg ?_))))
  refine X_r K (rd_ldC rfl sc22 K rfl (inM 0 rfl) rfl) M ?_; clear K; intro a K
  obtain ⟨r2, h_r2, h⟩ := obind h
  refine X_a K (ac_call (vs := [.slice A_d d.length c_d]) (cap := []) rfl fok37 K rfl rfl (W_code_Check N d A_d c_d _ ((inA R_d) _ M) C_d r2 h_r2)) ?_
  have M0 := M; clear K M; rintro _ a w ⟨rfl, M⟩ K
  replace M := M0.call M; clear M0
  refine X_o K M ?_; clear K; intro a K
  refine wpList_nil (then_n (wp_seq (X_reg ?_)))
  refine X_o K M ?_; clear K
  refine Y_o M ?_; intro a K
  refine wpList_nil (then_n ?_)
  refine X_cond K rfl (fun hb => ?_) (fun hb => ?_)
  · have h := ctrue hb h
    refine wp_seq (X_reg ?_)
    refine X_o K M ?_; clear K
    iterate 2 (refine Y_o M ?_)
    intro a K
    refine wpList_nil (then_n (wp_ret (then_r ?_)))
    cases h
    exact ret2 K rfl (res_tmp K rfl) (res_tmp K rfl) ⟨_, rfl, _, _, rfl, (((Mem.nilrow 9 1 cS M)).pick [0] (by decide))⟩
  have h := cfalse hb h
  refine wp_skip (then_n (wp_seq (X_reg ?_)))
  refine X_o K M ?_; clear K; intro a K
  refine wpList_nil (then_n (wp_seq (wp_seq (X_reg ?_))))
  refine X_r K (rd_ldC rfl sc22 K rfl (inM 0 rfl) rfl) M ?_; clear K
  refine Y_r (fun _ K => rd_len rfl un22 K rfl) M ?_
  refine Y_o M ?_; intro a K
  refine wpList_nil (then_n (wp_block ?_))
  replace M := Mem.nilrow 3 1 (cI .i64) M
  refine X_lp (id := 0) (Rel := fun (⟨l3, i⟩ : List Int × Int) a w => ∃ (A2 : Option Addr) (c2 : Nat), Kn a 74 [(1, .pointer (some ⟨g_o, 0, none⟩)), (5, .slice A2 l3.length c2), (19, .slice A_d d.length c_d), (20, I (d.length : Int)), (21, I i)] ∧ Mem w0.heap.size w0 w [.row 3 1 A2 l3.length c2 ((cI .i64).all l3), .blk g_o 22 [.slice A_d d.length c_d]]) h (fun _ _ => rfl) ⟨none, 0, K.pick [1,5,19,20,21], M.pick [0,1] (by decide)⟩ ?_ ?_
  · clear K M h
    rintro ⟨l6, i2⟩ a w ⟨A5, c5, K, M⟩ h
    try dsimp only at h
    refine inb_e ?_
    refine then_n (wp_seq (X_reg ?_))
    refine X_o K M ?_; clear K
    refine Y_r (fun _ K => rd_func rfl K (vs := [.pointer (some ⟨g_o, 0, none⟩)]) rfl) M ?_; intro a K
    refine X_inl (vs := [.slice A5 l6.length c5, .func (.func 39) #[] #[.pointer (some ⟨g_o, 0, none⟩)]]) (cap := []) K (want_no rfl) rfl rfl rfl fok38 rfl rfl ?_; clear K
    refine X_enter Tryd.func38 rfl Tryd.ntmps38 rfl ?_
    intro a K
    have K : Kn a 9 [(0, .slice A5 l6.length c5), (1, .func (.func 39) #[] #[.pointer (some ⟨g_o, 0, none⟩)])] := K
    refine X_reg ?_
    refine X_o K M ?_; clear K
    refine Y_o M ?_
    refine Y_r (fun _ K => rd_len rfl un22 K rfl) M ?_
    refine Y_o M ?_; intro a K
    refine X_inl (vs := [.slice A5 l6.length c5, I (l6.length : Int), .func (.func 39) #[] #[.pointer (some ⟨g_o, 0, none⟩)]]) (cap := []) K (want_no rfl) rfl rfl rfl fok64 rfl rfl ?_; clear K
    refine X_enter Tryd.func64 rfl Tryd.ntmps64 rfl ?_
    intro a K
    have K : Kn a 63 [(0, .slice A5 l6.length c5), (1, I (l6.length : Int)), (2, .func (.func 39) #[] #[.pointer (some ⟨g_o, 0, none⟩)])] := K
    refine wp_seq (X_reg ?_)
    refine X_o K M ?_; clear K; intro a K
    refine wpList_nil (then_n (wp_seq (X_reg ?_)))
    refine X_o K M ?_; clear K
    iterate 2 (refine Y_o M ?_)
    intro a K
    refine wpList_nil (then_n (wp_seq (wp_block ?_)))
    refine X_rounds 1 ?_
    refine X_round ?_
    refine wp_seq (wp_seq (X_reg ?_))
    refine X_o K M ?_; clear K
    iterate 2 (refine Y_o M ?_)
    intro a K
    refine wpList_nil (then_n ?_)
    refine X_cond K rfl (fun hb => ?_) (fun hb => ?_)
    · have h := ctrue hb h
      cases h
    have h := cfalse hb h
    refine wp_exit ?_
    refine then_e (then_e ?_)
    refine inb_e ?_
    refine then_n (wp_seq (X_reg ?_))
    refine X_o K M ?_; clear K
    iterate 3 (refine Y_o M ?_)
    intro a K
    refine X_inl (vs := [.slice A5 l6.length c5, I 0, I (l6.length : Int), .func (.func 39) #[] #[.pointer (some ⟨g_o, 0, none⟩)]]) (cap := []) K (want_no rfl) rfl rfl rfl fok74 rfl rfl ?_; clear K
    refine X_enter Tryd.func74 rfl Tryd.ntmps74 rfl ?_
    intro a K
    have K : Kn a 53 [(0, .slice A5 l6.length c5), (1, I 0), (2, I (l6.length : Int)), (3, .func (.func 39) #[] #[.pointer (some ⟨g_o, 0, none⟩)])] := K
    refine wp_seq (X_reg ?_)
    refine X_o K M ?_; clear K
    refine Y_o M ?_
    obtain ⟨i3, hx, h⟩ := olet h
    refine Y_r (fun _ K => rdi hx (rd_assign rfl K rfl)) M ?_; intro a K
    refine wpList_nil (then_n (wp_block ?_))
    refine X_lp (id := 0) (Rel := fun (⟨l7, b, i4⟩ : List Int × Int × Int) a w => Kn a 53 [(0, .slice A5 l7.length c5), (1, I 0), (2, I b), (3, .func (.func 39) #[] #[.pointer (some ⟨g_o, 0, none⟩)]), (8, I i4)] ∧ Mem w0.heap.size w0 w [.row 3 1 A5 l7.length c5 ((cI .i64).all l7), .blk g_o 22 [.slice A_d d.length c_d]]) h (fun _ _ => rfl) ⟨K.pick [0,1,2,3,8], M.pick [0,1] (by decide)⟩ ?_ ?_
    · clear K M h
      rintro ⟨l23, b2, i7⟩ a w ⟨K, M⟩ h
      try dsimp only at h
      refine inb_e ?_
      refine ret_n ?_
      refine ret0 K rfl ⟨_, rfl, ?_⟩; clear K; intro a K
      obtain ⟨_, h0, h⟩ := obind h
      have h0 := sameL_spec h0
      try rw [h0] at K
      try rw [h0] at M
      refine wpList_nil (then_n (wp_block ?_))
      refine X_rounds 1 ?_
      refine X_round ?_
      refine wp_seq (wp_seq (X_reg ?_))
      refine X_o K M ?_; clear K
      iterate 2 (refine Y_o M ?_)
      intro a K
      refine wpList_nil (then_n ?_)
      refine X_cond K rfl (fun hb => ?_) (fun hb => ?_)
      · have h := ctrue hb h
        cases h
      have h := cfalse hb h
      refine wp_exit ?_
      refine then_e (then_e ?_)
      refine inb_e ?_
      refine ret_n ?_
      refine ret0 K rfl ⟨_, rfl, ?_⟩; clear K; intro a K
      obtain ⟨_, h0, h⟩ := obind h
      have h0 := sameL_spec h0
      try rw [h0] at K
      try rw [h0] at M
      refine wpList_nil ?_
      refine ret_n ?_
      refine ret0 K rfl ⟨_, rfl, ?_⟩; clear K; intro a K
      obtain ⟨_, h0, h⟩ := obind h
      have h0 := sameL_spec h0
      try rw [h0] at K
      try rw [h0] at M
      refine wpList_nil (then_n (wp_seq (X_reg ?_)))
      refine X_r K (rd_ldC rfl sc22 K rfl (inM 1 rfl) rfl) M ?_; clear K
      obtain ⟨x2, hx, h⟩ := olet h
      refine Y_r (fun _ K => rdi hx (rd_len rfl un22 K rfl)) M ?_; intro a K
      obtain ⟨l24, h_l24, h⟩ := obind h
      refine X_a K (ac_make (C := cS) (z := ([] : List UInt8)) rfl sl31 rfl z9 rfl K rfl rfl M h_l24) ?_
      clear K M; rintro _ a w ⟨A6, c6, rfl, M⟩ K
      refine X_o K M ?_; clear K; intro a K
      refine wpList_nil (then_n (wp_seq (X_reg ?_)))
      refine X_o K M ?_; clear K; intro a K
      refine wpList_nil (then_n (wp_seq (wp_seq (X_reg ?_))))
      refine X_o K M ?_; clear K
      refine Y_r (fun _ K => rd_len rfl un22 K rfl) M ?_
      refine Y_o M ?_; intro a K
      refine wpList_nil (then_n (wp_block ?_))
      refine X_lp (id := 2) (Rel := fun (⟨l25, i8, i9⟩ : List (List UInt8) × Int × Int) a w => Kn a 74 [(1, .pointer (some ⟨g_o, 0, none⟩)), (8, .slice A6 l25.length c6), (9, I i8), (39, .slice A5 l23.length c5), (40, I (l23.length : Int)), (41, I i9)] ∧ Mem w0.heap.size w0 w [.row 9 1 A6 l25.length c6 (cS.all l25), .row 3 1 A5 l23.length c5 ((cI .i64).all l23), .blk g_o 22 [.slice A_d d.length c_d]]) h (fun _ _ => rfl) ⟨K.pick [1,8,9,39,40,41], M.pick [0,1,2] (by decide)⟩ ?_ ?_
      · clear K M h
        rintro ⟨l28, i10, i11⟩ a w ⟨K, M⟩ h
        try dsimp only at h
        refine inb_e ?_
        refine then_n (wp_seq (X_reg ?_))
        refine X_o K M ?_; clear K
        iterate 2 (refine Y_o M ?_)
        intro a K
        refine wpList_nil (then_n (wp_ret ?_))
        cases h
        exact ret2 K rfl (res_tmp K rfl) (res_tmp K rfl) ⟨_, rfl, _, _, rfl, ((M).pick [0] (by decide))⟩
      clear K M h
      rintro kk fuel ⟨l25, i8, i9⟩ a w hk4 ⟨K, M⟩ h
      unfold D_code_Words_l4 at h
      refine wp_seq (X_reg ?_)
      refine X_o K M ?_; clear K; intro a K
      refine wpList_nil (then_n (wp_seq ?_))
      refine X_cond K rfl (fun hb => ?_) (fun hb => ?_)
      · have h := ctrue hb h
        refine wp_skip (then_n (wp_seq (wp_block (wp_seq (X_reg ?_)))))
        obtain ⟨e33, h_e33, h⟩ := obind h
        refine X_r K (rd_ix rfl sl22 K rfl rfl (inR (C := (cI .i64)) 1 rfl rfl) h_e33) M ?_; clear K
        refine Y_r (fun _ K => rd_elC rfl sc3 K rfl rfl (inR (C := (cI .i64)) 1 rfl rfl) h_e33 rfl) M ?_
        refine Y_o M ?_; intro a K
        refine wpList_nil (then_n (wp_seq ?_))
        refine wp_region_tl (fun w => Mem _ _ w _) [0,0,0,0,0,0,0,0,0,0,0,1,0,0,0,0,0] (by kernel_rfl) (by kernel_rfl) M.drew ?_
        replace M := M.drew
        refine T_o K ?_; clear K
        refine U_r (fun _ K => rd_ldC rfl sc22 K rfl (inM 2 rfl) rfl) ?_
        refine U_o ?_
        obtain ⟨e34, h_e34, h⟩ := obind h
        refine U_r (fun _ K => rd_ixP rfl sl22 K rfl rfl ((inA R_d) _ M) h_e34) ?_
        refine U_r (fun _ K => rd_elC rfl sc3 K rfl rfl (inA R_d) h_e34 rfl) ?_
        refine U_o ?_; intro a K
        obtain ⟨_, h0, h⟩ := obind h
        have h0 := nn_spec h0
        refine T_r K (rd_shr rfl K rfl rfl h0) ?_; clear K
        refine U_r (fun _ K => rd_ldC rfl sc22 K rfl (inM 2 rfl) rfl) ?_
        refine U_o ?_
        obtain ⟨e35, h_e35, h⟩ := obind h
        refine U_r (fun _ K => rd_ixP rfl sl22 K rfl rfl ((inA R_d) _ M) h_e35) ?_
        refine U_r (fun _ K => rd_elC rfl sc3 K rfl rfl (inA R_d) h_e35 rfl) ?_; intro a K
        obtain ⟨r7, h_r7, h⟩ := obind h
        refine T_a K (ac_call (vs := [I (shrI .i64 i8 (IntKind.i64.wrap (15 - e34))), I e35]) (cap := []) rfl fok41 K rfl rfl (W_bits_Number N (shrI .i64 i8 (IntKind.i64.wrap (15 - e34))) e35 _  r7 h_r7)) ?_
        have M0 := M; clear K M; rintro _ a w ⟨rfl, M⟩ K
        replace M := M0.call M; clear M0
        refine ⟨M.pick [0,1,2] (by decide), ?_⟩
        refine T_o K ?_; clear K
        iterate 4 (refine U_o ?_)
        intro a K
        refine T_end ?_
        refine then_n (wp_seq (X_reg ?_))
        refine X_o K M ?_; clear K
        iterate 2 (refine Y_o M ?_)
        obtain ⟨e36, h_e36, h⟩ := obind h
        refine Y_r (fun _ K => rd_ix rfl sl31 K rfl rfl (inR (C := cS) 0 rfl rfl) h_e36) M ?_; intro a K
        obtain ⟨l27, h_l27, h⟩ := obind h
        refine X_b K (ac_rowset (el := r7.1) rfl sz9 rfl rfl K rfl rfl rfl 0 M rfl h_l27) ?_
        have M0 := M; clear K M; rintro _ a w M K
        have hl := setL_len h_l27
        try rw [hl] at M
        try rw [hl] at K
        clear hl
        clear M0
        refine wpList_nil (then_n (X_reg ?_))
        refine X_o K M ?_; clear K
        refine Y_r (fun _ K => rd_ldC rfl sc22 K rfl (inM 2 rfl) rfl) M ?_
        refine Y_o M ?_
        obtain ⟨e37, h_e37, h⟩ := obind h
        refine Y_r (fun _ K => rd_ix rfl sl22 K rfl rfl (inA R_d) h_e37) M ?_
        refine Y_r (fun _ K => rd_elC rfl sc3 K rfl rfl (inA R_d) h_e37 rfl) M ?_
        refine Y_o M ?_; intro a K
        obtain ⟨_, h0, h⟩ := obind h
        have h0 := nn_spec h0
        refine X_r K (rd_shl rfl K rfl rfl h0) M ?_; clear K
        refine Y_o M ?_
        obtain ⟨x4, hx, h⟩ := olet h
        refine Y_r (fun _ K => rdi hx (rd_assign rfl K rfl)) M ?_; intro a K
        refine wpList_nil (inb_n (then_n (X_reg ?_)))
        refine X_o K M ?_; clear K
        refine Y_o M ?_; intro a K
        refine wpList_nil ?_
        exact then_n ⟨(l27, x4, IntKind.i64.wrap (i9 + 1)), ⟨K.pick [1,8,9,39,40,41], M.pick [0,1,2] (by decide)⟩, h⟩
      have h := cfalse hb h
      refine wp_exit ?_
      refine then_e ?_
      exact then_e (hk4 (l25, i8, i9) _ _ ⟨K.pick [1,8,9,39,40,41], M.pick [0,1,2] (by decide)⟩ h)
    clear K M h
    rintro kk fuel ⟨l7, b, i4⟩ a w hk2 ⟨K, M⟩ h
    unfold D_code_Words_l2 at h
    refine wp_seq (wp_seq (X_reg ?_))
    refine X_o K M ?_; clear K
    iterate 2 (refine Y_o M ?_)
    intro a K
    refine wpList_nil (then_n ?_)
    refine X_cond K rfl (fun hb => ?_) (fun hb => ?_)
    · have h := ctrue hb h
      refine wp_skip (then_n (wp_seq (wp_block (wp_seq (X_reg ?_)))))
      refine X_o K M ?_; clear K
      refine Y_o M ?_; intro a K
      refine wpList_nil (then_n (wp_block ?_))
      refine X_lp (id := 2) (Rel := fun (⟨l13, j4⟩ : List Int × Int) a w => Kn a 53 [(0, .slice A5 l13.length c5), (1, I 0), (2, I b), (3, .func (.func 39) #[] #[.pointer (some ⟨g_o, 0, none⟩)]), (8, I i4), (9, I j4)] ∧ Mem w0.heap.size w0 w [.row 3 1 A5 l13.length c5 ((cI .i64).all l13), .blk g_o 22 [.slice A_d d.length c_d]]) h (fun _ _ => rfl) ⟨K.pick [0,1,2,3,8,9], M.pick [0,1] (by decide)⟩ ?_ ?_
      · clear K M h
        rintro ⟨l22, j9⟩ a w ⟨K, M⟩ h
        try dsimp only at h
        refine inb_e ?_
        refine inb_n (then_n (X_reg ?_))
        refine X_o K M ?_; clear K
        refine Y_o M ?_
        obtain ⟨i6, hx, h⟩ := olet h
        refine Y_r (fun _ K => rdi hx (rd_assign rfl K rfl)) M ?_; intro a K
        refine wpList_nil ?_
        exact then_n ⟨(l22, b, i6), ⟨K.pick [0,1,2,3,8], M.pick [0,1] (by decide)⟩, h⟩
      clear K M h
      rintro kk fuel ⟨l13, j4⟩ a w hk3 ⟨K, M⟩ h
      unfold D_code_Words_l3 at h
      refine wp_seq (wp_seq ?_)
      refine wp_region_tl (fun w => Mem _ _ w _) [0,0,0,0,0,0,0,0,0,0,0,0,0,0,1,0,0] (by kernel_rfl) (by kernel_rfl) M.drew ?_
      replace M := M.drew
      refine T_o K ?_; clear K
      iterate 3 (refine U_o ?_)
      intro a K
      rcases Bool.eq_false_or_eq_true (decide (0 < j4)) with hb | hb
      · have h := ctrue hb h
        have K := K.reb (s := 21) rfl hb
        refine T_o K ?_; clear K
        iterate 2 (refine U_o ?_)
        obtain ⟨e20, h_e20, h⟩ := obind h
        refine U_r (fun _ K => rd_ixP rfl sl22 K rfl rfl ((inR (C := (cI .i64)) 0 rfl rfl) _ M) h_e20) ?_
        refine U_r (fun _ K => rd_elC rfl sc3 K rfl rfl (inR (C := (cI .i64)) 0 rfl rfl) h_e20 rfl) ?_
        iterate 3 (refine U_o ?_)
        obtain ⟨e21, h_e21, h⟩ := obind h
        refine U_r (fun _ K => rd_ixP rfl sl22 K rfl rfl ((inR (C := (cI .i64)) 0 rfl rfl) _ M) h_e21) ?_
        refine U_r (fun _ K => rd_elC rfl sc3 K rfl rfl (inR (C := (cI .i64)) 0 rfl rfl) h_e21 rfl) ?_; intro a K
        obtain ⟨r5, h_r5, h⟩ := obind h
        refine T_a K (ac_call (vs := [I e20, I e21]) (cap := [.pointer (some ⟨g_o, 0, none⟩)]) rfl fok39 K rfl rfl (W_code_Words_1 N e20 e21 d A_d c_d g_o _ ((inA R_d) _ M) C_d (M.blkAt (i := 1) rfl) r5 h_r5)) ?_
        have M0 := M; clear K M; rintro _ a w ⟨rfl, M⟩ K
        replace M := M0.call M; clear M0
        refine ⟨M.pick [0,1] (by decide), ?_⟩
        refine T_o K ?_; clear K
        refine U_o ?_; intro a K
        refine T_end ?_
        refine then_n ?_
        refine X_cond K rfl (fun hb => ?_) (fun hb => ?_)
        · have h := ctrue hb h
          refine wp_skip (then_n (wp_seq (wp_block ?_)))
          refine wp_region_tr (fun w => Mem _ _ w _) [0,0,0,0,0,0,0,0,0,1,0,0,0,1,0,1,0,2] 18 [0,1,2,3,4,5,6,7,8,9,10,11,12,13,14,15,16,17] (by kernel_rfl) (by kernel_rfl) (by kernel_rfl) rfl (M.pick [1] (by decide)).drew ?_
          replace M := M.drew
          refine R_rd 0 [1,2,3,4,5,6,7,8,9,10,11,12,13,14,15,16,17] (by kernel_rfl) rfl K (want_no rfl) rfl rfl (rd_move rfl K rfl) ?_; clear K; intro a K
          refine R_rd 1 [2,3,4,5,6,7,8,9,10,11,12,13,14,15,16,17] (by kernel_rfl) rfl K (want_no rfl) rfl rfl (rd_move rfl K rfl) ?_; clear K; intro a K
          refine R_rd 2 [3,4,5,6,7,8,9,10,11,12,13,14,15,16,17] (by kernel_rfl) rfl K (want_no rfl) rfl rfl (rd_move rfl K rfl) ?_; clear K; intro a K
          refine R_rd 3 [4,5,6,7,8,9,10,11,12,13,14,15,16,17] (by kernel_rfl) rfl K (want_no rfl) rfl rfl (rd_move rfl K rfl) ?_; clear K; intro a K
          refine R_rd 4 [5,6,7,8,9,10,11,12,13,14,15,16,17] (by kernel_rfl) rfl K (want_no rfl) rfl rfl (rd_sub rfl K rfl rfl) ?_; clear K; intro a K
          refine R_rd 5 [6,7,8,9,10,11,12,13,14,15,16,17] (by kernel_rfl) rfl K (want_no rfl) rfl rfl (rd_move rfl K rfl) ?_; clear K; intro a K
          refine R_rd 6 [7,8,9,10,11,12,13,14,15,16,17] (by kernel_rfl) rfl K (want_no rfl) rfl rfl (rd_move rfl K rfl) ?_; clear K; intro a K
          refine R_rd 7 [8,9,10,11,12,13,14,15,16,17] (by kernel_rfl) rfl K (want_no rfl) rfl rfl (rd_sub rfl K rfl rfl) ?_; clear K; intro a K
          obtain ⟨e22, h_e22, h⟩ := obind h
          refine R_rd 8 [9,10,11,12,13,14,15,16,17] (by kernel_rfl) rfl K (want_no rfl) rfl rfl (rd_ixP rfl sl22 K rfl rfl ((inR (C := (cI .i64)) 0 rfl rfl) _ M) h_e22) ?_; clear K; intro a K
          refine R_rd 10 [9,11,12,13,14,15,16,17] (by kernel_rfl) rfl K (want_no rfl) rfl rfl (rd_move rfl K rfl) ?_; clear K; intro a K
          refine R_rd 11 [9,12,13,14,15,16,17] (by kernel_rfl) rfl K (want_no rfl) rfl rfl (rd_move rfl K rfl) ?_; clear K; intro a K
          obtain ⟨e23, h_e23, h⟩ := obind h
          refine R_rd 12 [9,13,14,15,16,17] (by kernel_rfl) rfl K (want_no rfl) rfl rfl (rd_ixP rfl sl22 K rfl rfl ((inR (C := (cI .i64)) 0 rfl rfl) _ M) h_e23) ?_; clear K; intro a K
          refine R_br [9,13] (by kernel_rfl) ⟨?_, ?_, trivial⟩
          ·
            refine R_rdA [13,14,15,16,17] (by kernel_rfl) rfl K (want_no rfl) rfl rfl (rd_elC rfl sc3 K rfl rfl (inR (C := (cI .i64)) 0 rfl rfl) h_e22 rfl) M ?_; clear K; intro a K
            refine ⟨fun _ => M.pick [1] (by decide), ?_⟩
            refine R_br [13] (by kernel_rfl) ⟨?_, trivial⟩
            refine R_rdA [14,15,16,17] (by kernel_rfl) rfl K (want_no rfl) rfl rfl (rd_elC rfl sc3 K rfl rfl (inR (C := (cI .i64)) 0 rfl rfl) h_e23 rfl) M ?_; clear K; intro a K
            refine ⟨fun _ => M.pick [1] (by decide), ?_⟩
            obtain ⟨e24, h_e24, h⟩ := obind h
            refine R_rd 14 [15,16,17] (by kernel_rfl) rfl K (want_no rfl) rfl rfl (rd_ixP rfl sl22 K rfl rfl ((inR (C := (cI .i64)) 0 rfl rfl) _ M) h_e24) ?_; clear K; intro a K
            refine R_br [15] (by kernel_rfl) ⟨?_, trivial⟩
            obtain ⟨l18, h_l18, h⟩ := obind h
            refine R_a0 [16,17] (by kernel_rfl) rfl K (want_no rfl) rfl (ac_rowset (el := e22) rfl sz3 rfl rfl K rfl rfl rfl 0 M rfl h_l18) ?_
            have M0 := M; clear K M; rintro _ a w M K
            have hl := setL_len h_l18
            try rw [hl] at M
            try rw [hl] at K
            clear hl
            clear M0
            refine ⟨fun _ => M.pick [1] (by decide), ?_⟩
            obtain ⟨e25, h_e25, h⟩ := obind h
            refine R_rd 16 [17] (by kernel_rfl) rfl K (want_no rfl) rfl rfl (rd_ixP rfl sl22 K rfl rfl ((inR (C := (cI .i64)) 0 rfl rfl) _ M) h_e25) ?_; clear K; intro a K
            refine R_br [17] (by kernel_rfl) ⟨?_, trivial⟩
            obtain ⟨l19, h_l19, h⟩ := obind h
            refine R_a0 [] (by kernel_rfl) rfl K (want_no rfl) rfl (ac_rowset (el := e23) rfl sz3 rfl rfl K rfl rfl rfl 0 M rfl h_l19) ?_
            have M0 := M; clear K M; rintro _ a w M K
            have hl := setL_len h_l19
            try rw [hl] at M
            try rw [hl] at K
            clear hl
            clear M0
            refine ⟨fun h => absurd h (by decide), ?_⟩
            refine R_end ?_
            refine inb_n (then_n (X_reg ?_))
            refine X_o K M ?_; clear K
            refine Y_o M ?_
            obtain ⟨j7, hx, h⟩ := olet h
            refine Y_r (fun _ K => rdi hx (rd_assign rfl K rfl)) M ?_; intro a K
            refine wpList_nil ?_
            exact then_n ⟨(l19, j7), ⟨K.pick [0,1,2,3,8,9], M.pick [0,1] (by decide)⟩, h⟩
          ·
            refine R_rdA [9,14,15,16,17] (by kernel_rfl) rfl K (want_no rfl) rfl rfl (rd_elC rfl sc3 K rfl rfl (inR (C := (cI .i64)) 0 rfl rfl) h_e23 rfl) M ?_; clear K; intro a K
            refine ⟨fun _ => M.pick [1] (by decide), ?_⟩
            refine R_br [9] (by kernel_rfl) ⟨?_, trivial⟩
            refine R_rdA [14,15,16,17] (by kernel_rfl) rfl K (want_no rfl) rfl rfl (rd_elC rfl sc3 K rfl rfl (inR (C := (cI .i64)) 0 rfl rfl) h_e22 rfl) M ?_; clear K; intro a K
            refine ⟨fun _ => M.pick [1] (by decide), ?_⟩
            obtain ⟨e26, h_e26, h⟩ := obind h
            refine R_rd 14 [15,16,17] (by kernel_rfl) rfl K (want_no rfl) rfl rfl (rd_ixP rfl sl22 K rfl rfl ((inR (C := (cI .i64)) 0 rfl rfl) _ M) h_e26) ?_; clear K; intro a K
            refine R_br [15] (by kernel_rfl) ⟨?_, trivial⟩
            obtain ⟨l20, h_l20, h⟩ := obind h
            refine R_a0 [16,17] (by kernel_rfl) rfl K (want_no rfl) rfl (ac_rowset (el := e22) rfl sz3 rfl rfl K rfl rfl rfl 0 M rfl h_l20) ?_
            have M0 := M; clear K M; rintro _ a w M K
            have hl := setL_len h_l20
            try rw [hl] at M
            try rw [hl] at K
            clear hl
            clear M0
            refine ⟨fun _ => M.pick [1] (by decide), ?_⟩
            obtain ⟨e27, h_e27, h⟩ := obind h
            refine R_rd 16 [17] (by kernel_rfl) rfl K (want_no rfl) rfl rfl (rd_ixP rfl sl22 K rfl rfl ((inR (C := (cI .i64)) 0 rfl rfl) _ M) h_e27) ?_; clear K; intro a K
            refine R_br [17] (by kernel_rfl) ⟨?_, trivial⟩
            obtain ⟨l21, h_l21, h⟩ := obind h
            refine R_a0 [] (by kernel_rfl) rfl K (want_no rfl) rfl (ac_rowset (el := e23) rfl sz3 rfl rfl K rfl rfl rfl 0 M rfl h_l21) ?_
            have M0 := M; clear K M; rintro _ a w M K
            have hl := setL_len h_l21
            try rw [hl] at M
            try rw [hl] at K
            clear hl
            clear M0
            refine ⟨fun h => absurd h (by decide), ?_⟩
            refine R_end ?_
            refine inb_n (then_n (X_reg ?_))
            refine X_o K M ?_; clear K
            refine Y_o M ?_
            obtain ⟨j8, hx, h⟩ := olet h
            refine Y_r (fun _ K => rdi hx (rd_assign rfl K rfl)) M ?_; intro a K
            refine wpList_nil ?_
            exact then_n ⟨(l21, j8), ⟨K.pick [0,1,2,3,8,9], M.pick [0,1] (by decide)⟩, h⟩
        have h := cfalse hb h
        refine wp_exit ?_
        refine then_e ?_
        exact then_e (hk3 (l13, j4) _ _ ⟨K.pick [0,1,2,3,8,9], M.pick [0,1] (by decide)⟩ h)
      have h := cfalse hb h
      have K := K.reb (s := 21) rfl hb
      refine T_o K ?_; clear K
      iterate 9 (refine U_o ?_)
      intro a K
      refine T_no1 K (K.no rfl rfl rfl rfl) rfl rfl (M.pick [0,1] (by decide)) ?_; clear K; intro a K
      refine T_o K ?_; clear K
      refine U_o ?_; intro a K
      refine T_end ?_
      refine then_n ?_
      refine X_condF K rfl ?_
      refine wp_exit ?_
      refine then_e ?_
      exact then_e (hk3 (l13, j4) _ _ ⟨K.pick [0,1,2,3,8,9], M.pick [0,1] (by decide)⟩ h)
    have h := cfalse hb h
    refine wp_exit ?_
    refine then_e ?_
    exact then_e (hk2 (l7, b, i4) _ _ ⟨K.pick [0,1,2,3,8], M.pick [0,1] (by decide)⟩ h)
  clear K M h
  rintro kk fuel ⟨l3, i⟩ a w hk1 ⟨A2, c2, K, M⟩ h
  unfold D_code_Words_l1 at h
  refine wp_seq (X_reg ?_)
  refine X_o K M ?_; clear K; intro a K
  refine wpList_nil (then_n (wp_seq ?_))
  refine X_cond K rfl (fun hb => ?_) (fun hb => ?_)
  · have h := ctrue hb h
    refine wp_skip (then_n (wp_seq (wp_block (wp_seq (X_reg ?_)))))
    refine X_o K M ?_; clear K
    obtain ⟨e3, h_e3, h⟩ := obind h
    refine Y_r (fun _ K => rd_ix rfl sl22 K rfl rfl (inA R_d) h_e3) M ?_
    refine Y_r (fun _ K => rd_elC rfl sc3 K rfl rfl (inA R_d) h_e3 rfl) M ?_
    iterate 2 (refine Y_o M ?_)
    intro a K
    refine wpList_nil (then_n (wp_seq (X_reg ?_)))
    refine X_o K M ?_; clear K
    refine Y_o M ?_; intro a K
    refine wpList_nil (then_n ?_)
    refine X_cond K rfl (fun hb => ?_) (fun hb => ?_)
    · have h := ctrue hb h
      refine X_reg ?_
      refine X_o K M ?_; clear K
      refine Y_o M ?_; intro a K
      refine X_a K (ac_bslice rfl sl22 z3 K (vs := [(0, I i)]) (cs := [I i]) rfl (by kernel_rfl) rfl rfl M) ?_
      have M0 := M; clear K M; rintro _ a w ⟨gs3, rfl, M⟩ K
      replace M := M.asRow 0 rfl (cI .i64) ([i] : List Int) (n := 1) rfl rfl rfl
      clear M0
      obtain ⟨l5, h_l5, h⟩ := obind h
      refine X_a K (ac_app (C := (cI .i64)) (xs := l3) (ys := ([i] : List Int)) rfl sl22 rfl z3 rfl rfl K rfl rfl 1 M rfl ((inR (C := (cI .i64)) 0 rfl rfl) _ M) h_l5) ?_
      clear K M; rintro _ a w ⟨A4, c4, rfl, M⟩ K
      refine X_o K M ?_; clear K; intro a K
      refine wpList_nil (inb_n (then_n (X_reg ?_)))
      refine X_o K M ?_; clear K
      refine Y_o M ?_; intro a K
      refine wpList_nil ?_
      exact then_n ⟨(l5, IntKind.i64.wrap (i + 1)), ⟨A4, c4, K.pick [1,5,19,20,21], M.pick [1,2] (by decide)⟩, h⟩
    have h := cfalse hb h
    refine wp_skip (inb_n (then_n (X_reg ?_)))
    refine X_o K M ?_; clear K
    refine Y_o M ?_; intro a K
    refine wpList_nil ?_
    exact then_n ⟨(l3, IntKind.i64.wrap (i + 1)), ⟨A2, c2, K.pick [1,5,19,20,21], M.pick [0,1] (by decide)⟩, h⟩
  have h := cfalse hb h
  refine wp_exit ?_
  refine then_e ?_
  exact then_e (hk1 (l3, i) _ _ ⟨A2, c2, K.pick [1,5,19,20,21], M.pick [0,1] (by decide)⟩ h)
set_option maxRecDepth 100000 in
set_option maxHeartbeats 4000000 in
theorem W_code_Read (N : Nat) (d : List Int) (A_d : Option Addr) (c_d : Nat) (o : List UInt8) (p2 : Int) (w0 : World) (R_d : SL w0 (cI .i64) A_d d) (C_d : d.length ≤ c_d) (r : List Int × List UInt8 × Int) (h : D_code_Read N d o p2 = some r) :
    Calls Tryd.prog 11 #[.slice A_d d.length c_d, .string (bs o), I p2] w0 fun e w' => ∃ v, e = .returned v ∧ ∃ A0 c0, v = .tuple #[.slice A0 r.1.length c0, .string (bs r.2.1), I r.2.2] ∧ Mem w0.heap.size w0 w' [.row 3 1 A0 r.1.length c0 ((cI .i64).all r.1)] := by
  refine X_enter Tryd.func11 rfl Tryd.ntmps11 rfl ?_
  intro a K
  have M := Mem.start w0
  have K : Kn a 79 [(0, .slice A_d d.length c_d), (1, .string (bs o)), (2, I p2)] := K
  unfold D_code_Read at h
  refine wp_seq (X_reg ?_)
  refine X_o K M ?_; clear K
  iterate 2 (refine Y_o M ?_)
  intro a K
  refine wpList_nil (then_n (wp_seq (X_reg ?_)))
  refine X_o K M ?_; clear K; intro a K
  obtain ⟨r2, h_r2, h⟩ := obind h
  refine X_a K (ac_call (vs := [.slice A_d d.length c_d]) (cap := []) rfl fok15 K rfl rfl (W_code_Words N d A_d c_d _ ((inA R_d) _ M) C_d r2 h_r2)) ?_
  have M0 := M; clear K M; rintro _ a w ⟨A, c, rfl, M⟩ K
  replace M := M0.call M; clear M0
  refine X_o K M ?_; clear K
  iterate 4 (refine Y_o M ?_)
  intro a K
  refine wpList_nil (then_n (wp_seq (wp_seq (X_reg ?_))))
  refine X_o K M ?_; clear K
  refine Y_o M ?_; intro a K
  refine wpList_nil (then_n ?_)
  refine X_cond K rfl (fun hb => ?_) (fun hb => ?_)
  · have h := ctrue hb h
    refine wp_seq (X_reg ?_)
    refine X_o K M ?_; clear K
    iterate 3 (refine Y_o M ?_)
    intro a K
    refine wpList_nil (then_n (wp_ret (then_r ?_)))
    cases h
    exact ret3 K rfl (res_tmp K rfl) (res_tmp K rfl) (res_tmp K rfl) ⟨_, rfl, _, _, rfl, (((Mem.nilrow 3 1 (cI .i64) M)).pick [0] (by decide))⟩
  have h := cfalse hb h
  refine wp_skip (then_n (wp_seq (wp_seq (X_reg ?_))))
  refine X_o K M ?_; clear K
  iterate 2 (refine Y_o M ?_)
  intro a K
  rcases Bool.eq_false_or_eq_true (decide (p2 < 0)) with hb | hb
  · have h := ctrue hb h
    have K := K.reb (s := 29) rfl hb
    refine X_o K M ?_; clear K
    iterate 2 (refine Y_o M ?_)
    intro a K
    refine wpList_nil (then_n ?_)
    refine X_condT K rfl ?_
    refine wp_seq (X_reg ?_)
    refine X_o K M ?_; clear K
    iterate 2 (refine Y_o M ?_)
    intro a K
    refine wpList_nil (then_n (wp_ret (then_r ?_)))
    cases h
    exact ret3 K rfl (res_tmp K rfl) (res_tmp K rfl) (res_tmp K rfl) ⟨_, rfl, _, _, rfl, (((Mem.nilrow 3 1 (cI .i64) M)).pick [0] (by decide))⟩
  have h := cfalse hb h
  have K := K.reb (s := 29) rfl hb
  refine X_o K M ?_; clear K
  iterate 2 (refine Y_o M ?_)
  intro a K
  refine wpList_nil (then_n ?_)
  refine X_cond K rfl (fun hb => ?_) (fun hb => ?_)
  · have h := ctrue hb h
    refine wp_seq (X_reg ?_)
    refine X_o K M ?_; clear K
    iterate 2 (refine Y_o M ?_)
    intro a K
    refine wpList_nil (then_n (wp_ret (then_r ?_)))
    cases h
    exact ret3 K rfl (res_tmp K rfl) (res_tmp K rfl) (res_tmp K rfl) ⟨_, rfl, _, _, rfl, (((Mem.nilrow 3 1 (cI .i64) M)).pick [0] (by decide))⟩
  have h := cfalse hb h
  refine wp_skip (then_n (wp_seq (wp_seq (X_reg ?_))))
  refine X_o K M ?_; clear K; intro a K
  obtain ⟨r3, h_r3, h⟩ := obind h
  refine X_a K (ac_call (vs := [.string (bs o)]) (cap := []) rfl fok32 K rfl rfl (W_bits_Bytes N o _  r3 h_r3)) ?_
  have M0 := M; clear K M; rintro _ a w ⟨rfl, M⟩ K
  replace M := M0.call M; clear M0
  refine X_o K M ?_; clear K
  iterate 4 (refine Y_o M ?_)
  intro a K
  refine wpList_nil (then_n (wp_seq (X_reg ?_)))
  refine X_o K M ?_; clear K
  refine Y_o M ?_; intro a K
  refine wpList_nil (then_n ?_)
  refine X_cond K rfl (fun hb => ?_) (fun hb => ?_)
  · have h := ctrue hb h
    refine wp_seq (X_reg ?_)
    refine X_o K M ?_; clear K
    iterate 2 (refine Y_o M ?_)
    intro a K
    refine wpList_nil (then_n (wp_ret (then_r ?_)))
    cases h
    exact ret3 K rfl (res_tmp K rfl) (res_tmp K rfl) (res_tmp K rfl) ⟨_, rfl, _, _, rfl, (((Mem.nilrow 3 1 (cI .i64) M)).pick [0] (by decide))⟩
  have h := cfalse hb h
  refine wp_skip (then_n (wp_seq (X_reg ?_)))
  refine X_o K M ?_; clear K; intro a K
  refine X_inl (vs := [.slice A r2.1.length c]) (cap := []) K (want_no rfl) rfl rfl rfl fok33 rfl rfl ?_; clear K
  refine X_enter Tryd.func33 rfl Tryd.ntmps33 rfl ?_
  intro a K
  have K : Kn a 44 [(0, .slice A r2.1.length c)] := K
  refine wp_seq (X_reg ?_)
  refine X_o K M ?_; clear K; intro a K
  refine wpList_nil (then_n (wp_seq (X_reg ?_)))
  refine X_a K (ac_makeMap rfl 9 3 M) ?_
  clear K M; rintro _ a w ⟨gm, rfl, M⟩ K
  refine X_o K M ?_; clear K; intro a K
  refine wpList_nil (then_n (wp_seq (wp_seq (X_reg ?_))))
  refine X_o K M ?_; clear K
  refine Y_r (fun _ K => rd_len rfl un31 K rfl) M ?_
  refine Y_o M ?_; intro a K
  refine wpList_nil (then_n (wp_block ?_))
  refine X_lp (id := 0) (Rel := fun (⟨m, i⟩ : List (List UInt8 × Int) × Int) a w => Kn a 44 [(3, .map (some gm)), (10, .slice A r2.1.length c), (11, I (r2.1.length : Int)), (12, I i)] ∧ Mem w0.heap.size w0 w [.smp Tryd.prog 9 3 gm m, .row 9 1 A r2.1.length c (cS.all r2.1)]) h (fun _ _ => rfl) ⟨K.pick [3,10,11,12], M.pick [0,1] (by decide)⟩ ?_ ?_
  · clear K M h
    rintro ⟨m10, i5⟩ a w ⟨K, M⟩ h
    try dsimp only at h
    refine inb_e ?_
    refine then_n (wp_seq (X_reg ?_))
    refine X_o K M ?_; clear K
    refine Y_o M ?_; intro a K
    refine wpList_nil (then_n (wp_ret ?_))
    refine ret1 K rfl (res_tmp K rfl) ⟨_, rfl, ?_⟩; clear K; intro a K
    refine X_o K M ?_; clear K; intro a K
    refine wpList_nil (then_n (wp_seq (X_reg ?_)))
    refine X_o K M ?_; clear K; intro a K
    refine wpList_nil (then_n (wp_seq (wp_block ?_)))
    replace M := Mem.nilrow 3 1 (cI .i64) M
    refine X_lp (id := 0) (Rel := fun (⟨l3, o2⟩ : List Int × List UInt8) a w => ∃ (A3 : Option Addr) (c3 : Nat), Kn a 79 [(1, .string (bs o2)), (2, I p2), (13, .map (some gm)), (14, .slice A3 l3.length c3)] ∧ Mem w0.heap.size w0 w [.row 3 1 A3 l3.length c3 ((cI .i64).all l3), .smp Tryd.prog 9 3 gm m10]) h (fun _ _ => rfl) ⟨none, 0, K.pick [1,2,13,14], M.pick [0,1] (by decide)⟩ ?_ ?_
    · clear K M h
      rintro ⟨l6, o3⟩ a w ⟨A6, c6, K, M⟩ h
      try dsimp only at h
      refine inb_e ?_
      refine then_n (wp_seq (X_reg ?_))
      refine X_o K M ?_; clear K
      iterate 4 (refine Y_o M ?_)
      intro a K
      refine wpList_nil (then_n (wp_ret ?_))
      cases h
      exact ret3 K rfl (res_tmp K rfl) (res_tmp K rfl) (res_tmp K rfl) ⟨_, rfl, _, _, rfl, ((M).pick [0] (by decide))⟩
    clear K M h
    rintro kk fuel ⟨l3, o2⟩ a w hk3 ⟨A3, c3, K, M⟩ h
    unfold D_code_Read_l3 at h
    refine wp_seq (wp_seq (X_reg ?_))
    refine X_o K M ?_; clear K
    refine Y_r (fun _ K => rd_len rfl un22 K rfl) M ?_
    iterate 2 (refine Y_o M ?_)
    intro a K
    refine wpList_nil (then_n ?_)
    refine X_cond K rfl (fun hb => ?_) (fun hb => ?_)
    · have h := ctrue hb h
      refine wp_skip (then_n (wp_block (wp_seq (X_reg ?_))))
      refine X_o K M ?_; clear K
      refine Y_o M ?_; intro a K
      refine wpList_nil (then_n (wp_seq (wp_block ?_)))
      refine X_lp (id := 2) (Rel := fun (⟨i10, i11⟩ : Int × Int) a w => Kn a 79 [(1, .string (bs o2)), (2, I p2), (13, .map (some gm)), (14, .slice A3 l3.length c3), (15, I i10), (16, I i11)] ∧ Mem w0.heap.size w0 w [.row 3 1 A3 l3.length c3 ((cI .i64).all l3), .smp Tryd.prog 9 3 gm m10]) h (fun _ _ => rfl) ⟨K.pick [1,2,13,14,15,16], M.pick [0,1] (by decide)⟩ ?_ ?_
      · clear K M h
        rintro ⟨i12, i13⟩ a w ⟨K, M⟩ h
        try dsimp only at h
        refine inb_e ?_
        refine then_n (wp_seq (X_reg ?_))
        refine X_o K M ?_; clear K
        refine Y_o M ?_; intro a K
        refine X_a K (ac_bslice rfl sl22 z3 K (vs := [(0, I i13)]) (cs := [I i13]) rfl (by kernel_rfl) rfl rfl M) ?_
        have M0 := M; clear K M; rintro _ a w ⟨gs3, rfl, M⟩ K
        replace M := M.asRow 0 rfl (cI .i64) ([i13] : List Int) (n := 1) rfl rfl rfl
        clear M0
        obtain ⟨l5, h_l5, h⟩ := obind h
        refine X_a K (ac_app (C := (cI .i64)) (xs := l3) (ys := ([i13] : List Int)) rfl sl22 rfl z3 rfl rfl K rfl rfl 1 M rfl ((inR (C := (cI .i64)) 0 rfl rfl) _ M) h_l5) ?_
        clear K M; rintro _ a w ⟨A5, c5, rfl, M⟩ K
        refine X_o K M ?_; clear K; intro a K
        refine wpList_nil (then_n (X_reg ?_))
        refine X_o K M ?_; clear K
        refine Y_o M ?_
        obtain ⟨s13, h_s13, h⟩ := obind h
        refine Y_r (fun _ K => rd_sliceS (k := .i64) (k' := .i64) rfl st9 K rfl rfl rfl h_s13) M ?_
        refine Y_o M ?_; intro a K
        refine wpList_nil (inb_n ?_)
        exact then_n ⟨(l5, s13), ⟨A5, c5, K.pick [1,2,13,14], M.pick [1,2] (by decide)⟩, h⟩
      clear K M h
      rintro kk fuel ⟨i10, i11⟩ a w hk4 ⟨K, M⟩ h
      unfold D_code_Read_l4 at h
      refine wp_seq (wp_seq (X_reg ?_))
      refine X_o K M ?_; clear K
      refine Y_o M ?_; intro a K
      refine wpList_nil (then_n ?_)
      refine X_cond K rfl (fun hb => ?_) (fun hb => ?_)
      · have h := ctrue hb h
        refine wp_skip (then_n (wp_block (wp_seq (X_reg ?_))))
        refine X_o K M ?_; clear K
        iterate 2 (refine Y_o M ?_)
        obtain ⟨s12, h_s12, h⟩ := obind h
        refine Y_r (fun _ K => rd_sliceS (k := .i64) (k' := .i64) rfl st9 K rfl rfl rfl h_s12) M ?_
        obtain ⟨q7, h_q7, h⟩ := obind h
        refine Y_r (fun _ K => rd_look rfl mp64 st9 ik3 zi3 K rfl rfl (inS 1 rfl) h_q7) M ?_
        iterate 5 (refine Y_o M ?_)
        intro a K
        refine wpList_nil (then_n (wp_block (wp_seq (X_reg ?_))))
        refine X_o K M ?_; clear K
        iterate 2 (refine Y_o M ?_)
        intro a K
        refine wpList_nil (then_n ?_)
        refine X_cond K rfl (fun hb => ?_) (fun hb => ?_)
        · have h := ctrue hb h
          refine wp_seq (X_reg ?_)
          refine X_o K M ?_; clear K
          iterate 2 (refine Y_o M ?_)
          intro a K
          refine wpList_nil (then_n (wp_ret (inb_r (inb_r (then_r (inb_r (then_r (inb_r (then_r (inb_r (then_r ?_)))))))))))
          cases h
          exact ret3 K rfl (res_tmp K rfl) (res_tmp K rfl) (res_tmp K rfl) ⟨_, rfl, _, _, rfl, (((Mem.nilrow 3 1 (cI .i64) M)).pick [0] (by decide))⟩
        have h := cfalse hb h
        refine wp_seq (X_reg ?_)
        refine X_o K M ?_; clear K
        iterate 2 (refine Y_o M ?_)
        intro a K
        refine wpList_nil (then_n ?_)
        refine X_cond K rfl (fun hb => ?_) (fun hb => ?_)
        · have h := ctrue hb h
          refine X_reg ?_
          refine X_o K M ?_; clear K
          refine Y_o M ?_; intro a K
          refine wpList_nil (inb_n (inb_n ?_))
          exact then_n ⟨(i10, q7.1), ⟨K.pick [1,2,13,14,15,16], M.pick [0,1] (by decide)⟩, h⟩
        have h := cfalse hb h
        refine wp_seq (X_reg ?_)
        refine X_o K M ?_; clear K
        refine Y_o M ?_
        refine Y_r (fun _ K => rd_lenT rfl st9 K rfl) M ?_
        iterate 2 (refine Y_o M ?_)
        intro a K
        refine wpList_nil (then_n ?_)
        refine X_cond K rfl (fun hb => ?_) (fun hb => ?_)
        · have h := ctrue hb h
          refine wp_seq (X_reg ?_)
          refine X_o K M ?_; clear K
          iterate 2 (refine Y_o M ?_)
          intro a K
          refine wpList_nil (then_n (wp_ret (inb_r (inb_r (then_r (inb_r (then_r (inb_r (then_r (inb_r (then_r ?_)))))))))))
          cases h
          exact ret3 K rfl (res_tmp K rfl) (res_tmp K rfl) (res_tmp K rfl) ⟨_, rfl, _, _, rfl, (((Mem.nilrow 3 1 (cI .i64) M)).pick [0] (by decide))⟩
        have h := cfalse hb h
        refine X_reg ?_
        refine X_o K M ?_; clear K
        refine Y_o M ?_
        obtain ⟨x5, hx, h⟩ := olet h
        refine Y_r (fun _ K => rdi hx (rd_assign rfl K rfl)) M ?_; intro a K
        refine wpList_nil (inb_n (inb_n ?_))
        exact then_n ⟨(x5, i11), ⟨K.pick [1,2,13,14,15,16], M.pick [0,1] (by decide)⟩, h⟩
      have h := cfalse hb h
      refine wp_exit ?_
      refine then_e ?_
      exact then_e (hk4 (i10, i11) _ _ ⟨K.pick [1,2,13,14,15,16], M.pick [0,1] (by decide)⟩ h)
    have h := cfalse hb h
    refine wp_exit ?_
    refine then_e ?_
    exact then_e (hk3 (l3, o2) _ _ ⟨A3, c3, K.pick [1,2,13,14], M.pick [0,1] (by decide)⟩ h)
  clear K M h
  rintro kk fuel ⟨m, i⟩ a w hk1 ⟨K, M⟩ h
  unfold D_code_Read_l1 at h
  refine wp_seq (X_reg ?_)
  refine X_o K M ?_; clear K; intro a K
  refine wpList_nil (then_n (wp_seq ?_))
  refine X_cond K rfl (fun hb => ?_) (fun hb => ?_)
  · have h := ctrue hb h
    refine wp_skip (then_n (wp_seq (wp_block (wp_seq (X_reg ?_)))))
    refine X_o K M ?_; clear K
    obtain ⟨e2, h_e2, h⟩ := obind h
    refine Y_r (fun _ K => rd_ix rfl sl31 K rfl rfl (inR (C := cS) 1 rfl rfl) h_e2) M ?_
    refine Y_r (fun _ K => rd_elC rfl sc9 K rfl rfl (inR (C := cS) 1 rfl rfl) h_e2 rfl) M ?_
    iterate 2 (refine Y_o M ?_)
    intro a K
    refine wpList_nil (then_n (wp_seq (wp_seq (X_reg ?_))))
    refine X_o K M ?_; clear K
    refine Y_r (fun _ K => rd_lenT rfl st9 K rfl) M ?_
    refine Y_o M ?_; intro a K
    refine wpList_nil (then_n (wp_block ?_))
    refine X_lp (id := 2) (Rel := fun (⟨m5, i3⟩ : List (List UInt8 × Int) × Int) a w => Kn a 44 [(3, .map (some gm)), (10, .slice A r2.1.length c), (11, I (r2.1.length : Int)), (12, I i), (4, I i), (5, .string (bs e2)), (18, I (e2.length : Int)), (19, I i3)] ∧ Mem w0.heap.size w0 w [.smp Tryd.prog 9 3 gm m5, .row 9 1 A r2.1.length c (cS.all r2.1)]) h (fun _ _ => rfl) ⟨K.pick [3,10,11,12,4,5,18,19], M.pick [0,1] (by decide)⟩ ?_ ?_
    · clear K M h
      rintro ⟨m8, i4⟩ a w ⟨K, M⟩ h
      try dsimp only at h
      refine inb_e ?_
      refine then_n (wp_seq (X_reg ?_))
      refine X_o K M ?_; clear K
      refine Y_r (fun _ K => rd_neqS rfl K rfl rfl) M ?_; intro a K
      refine wpList_nil (then_n ?_)
      refine X_cond K rfl (fun hb => ?_) (fun hb => ?_)
      · have h := ctrue hb h
        refine X_reg ?_
        refine X_o K M ?_; clear K
        iterate 2 (refine Y_o M ?_)
        intro a K
        obtain ⟨m9, h_m9, h⟩ := obind h
        refine X_b K (ac_mapSet rfl mp64 st9 ik3 K rfl rfl rfl 0 M rfl h_m9) ?_
        clear K M; rintro _ a w M K
        refine wpList_nil (inb_n (then_n (X_reg ?_)))
        refine X_o K M ?_; clear K
        refine Y_o M ?_; intro a K
        refine wpList_nil ?_
        exact then_n ⟨(m9, IntKind.i64.wrap (i + 1)), ⟨K.pick [3,10,11,12], M.pick [0,1] (by decide)⟩, h⟩
      have h := cfalse hb h
      refine wp_skip (inb_n (then_n (X_reg ?_)))
      refine X_o K M ?_; clear K
      refine Y_o M ?_; intro a K
      refine wpList_nil ?_
      exact then_n ⟨(m8, IntKind.i64.wrap (i + 1)), ⟨K.pick [3,10,11,12], M.pick [0,1] (by decide)⟩, h⟩
    clear K M h
    rintro kk fuel ⟨m5, i3⟩ a w hk2 ⟨K, M⟩ h
    unfold D_code_Read_l2 at h
    refine wp_seq (X_reg ?_)
    refine X_o K M ?_; clear K; intro a K
    refine wpList_nil (then_n (wp_seq ?_))
    refine X_cond K rfl (fun hb => ?_) (fun hb => ?_)
    · have h := ctrue hb h
      refine wp_skip (then_n (wp_seq (wp_block (wp_seq (X_reg ?_)))))
      refine X_o K M ?_; clear K
      refine Y_o M ?_; intro a K
      refine wpList_nil (then_n (wp_seq (X_reg ?_)))
      refine X_o K M ?_; clear K
      iterate 2 (refine Y_o M ?_)
      obtain ⟨s5, h_s5, h⟩ := obind h
      refine Y_r (fun _ K => rd_sliceS (k := .i64) (k' := .i64) rfl st9 K rfl rfl rfl h_s5) M ?_
      obtain ⟨q3, h_q3, h⟩ := obind h
      refine Y_r (fun _ K => rd_look rfl mp64 st9 ik3 zi3 K rfl rfl (inS 0 rfl) h_q3) M ?_
      iterate 5 (refine Y_o M ?_)
      intro a K
      refine wpList_nil (then_n (wp_seq (X_reg ?_)))
      refine X_o K M ?_; clear K
      refine Y_o M ?_; intro a K
      refine wpList_nil (then_n ?_)
      refine X_cond K rfl (fun hb => ?_) (fun hb => ?_)
      · have h := ctrue hb h
        refine X_reg ?_
        refine X_o K M ?_; clear K
        iterate 2 (refine Y_o M ?_)
        obtain ⟨s6, h_s6, h⟩ := obind h
        refine Y_r (fun _ K => rd_sliceS (k := .i64) (k' := .i64) rfl st9 K rfl rfl rfl h_s6) M ?_; intro a K
        obtain ⟨m7, h_m7, h⟩ := obind h
        refine X_b K (ac_mapSet rfl mp64 st9 ik3 K rfl rfl rfl 0 M rfl h_m7) ?_
        clear K M; rintro _ a w M K
        refine wpList_nil (inb_n (then_n (X_reg ?_)))
        refine X_o K M ?_; clear K
        refine Y_o M ?_; intro a K
        refine wpList_nil ?_
        exact then_n ⟨(m7, IntKind.i64.wrap (i3 + 1)), ⟨K.pick [3,10,11,12,4,5,18,19], M.pick [0,1] (by decide)⟩, h⟩
      have h := cfalse hb h
      refine wp_skip (inb_n (then_n (X_reg ?_)))
      refine X_o K M ?_; clear K
      refine Y_o M ?_; intro a K
      refine wpList_nil ?_
      exact then_n ⟨(m5, IntKind.i64.wrap (i3 + 1)), ⟨K.pick [3,10,11,12,4,5,18,19], M.pick [0,1] (by decide)⟩, h⟩
    have h := cfalse hb h
    refine wp_exit ?_
    refine then_e ?_
    exact then_e (hk2 (m5, i3) _ _ ⟨K.pick [3,10,11,12,4,5,18,19], M.pick [0,1] (by decide)⟩ h)
  have h := cfalse hb h
  refine wp_exit ?_
  refine then_e ?_
  exact then_e (hk1 (m, i) _ _ ⟨K.pick [3,10,11,12], M.pick [0,1] (by decide)⟩ h)
end Go.Proofs.YtpmnfhifmmfglacDoor

namespace Go.Proofs.YtpmnfhifmmfglacDoor
open Go.RowKit
set_option maxRecDepth 100000 in
set_option maxHeartbeats 4000000 in
theorem W_math_bits_Len64 (N : Nat) (x2 : Int) (w0 : World)  (r : Int) (h : D_math_bits_Len64 N x2 = some r) :
    Calls Tryd.prog 68 #[.int .u64 x2] w0 fun e w' => ∃ v, e = .returned v ∧ v = I r ∧ Mem w0.heap.size w0 w' [] := by
  refine X_enter Tryd.func68 rfl Tryd.ntmps68 rfl ?_
  intro a K
  have M := Mem.start w0
  have K : Kn a 25 [(0, .int .u64 x2)] := K
  unfold D_math_bits_Len64 at h
  refine wp_seq (X_reg ?_)
  refine X_o K M ?_; clear K; intro a K
  refine wpList_nil (then_n (wp_seq (wp_seq (X_reg ?_))))
  refine X_o K M ?_; clear K
  refine Y_o M ?_; intro a K
  refine wpList_nil (then_n ?_)
  refine X_cond K rfl (fun hb => ?_) (fun hb => ?_)
  · have h := ctrue hb h
    refine wp_seq (X_reg ?_)
    refine X_o K M ?_; clear K
    refine Y_r (fun _ K => rd_shr rfl K rfl rfl (by decide)) M ?_
    obtain ⟨x3, hx, h⟩ := olet h
    refine Y_r (fun _ K => rdi hx (rd_assign rfl K rfl)) M ?_; intro a K
    refine wpList_nil (then_n (X_reg ?_))
    refine X_o K M ?_; clear K; intro a K
    refine wpList_nil (then_n (wp_seq (wp_seq (X_reg ?_))))
    refine X_o K M ?_; clear K
    refine Y_o M ?_; intro a K
    refine wpList_nil (then_n ?_)
    refine X_cond K rfl (fun hb => ?_) (fun hb => ?_)
    · have h := ctrue hb h
      refine wp_seq (X_reg ?_)
      refine X_o K M ?_; clear K
      refine Y_r (fun _ K => rd_shr rfl K rfl rfl (by decide)) M ?_
      obtain ⟨x4, hx, h⟩ := olet h
      refine Y_r (fun _ K => rdi hx (rd_assign rfl K rfl)) M ?_; intro a K
      refine wpList_nil (then_n (X_reg ?_))
      refine X_o K M ?_; clear K
      refine Y_o M ?_
      obtain ⟨n, hx, h⟩ := olet h
      refine Y_r (fun _ K => rdi hx (rd_assign rfl K rfl)) M ?_; intro a K
      refine wpList_nil (then_n (wp_seq (wp_seq (X_reg ?_))))
      refine X_o K M ?_; clear K
      refine Y_o M ?_; intro a K
      refine wpList_nil (then_n ?_)
      refine X_cond K rfl (fun hb => ?_) (fun hb => ?_)
      · have h := ctrue hb h
        refine wp_seq (X_reg ?_)
        refine X_o K M ?_; clear K
        refine Y_r (fun _ K => rd_shr rfl K rfl rfl (by decide)) M ?_
        obtain ⟨x5, hx, h⟩ := olet h
        refine Y_r (fun _ K => rdi hx (rd_assign rfl K rfl)) M ?_; intro a K
        refine wpList_nil (then_n (X_reg ?_))
        refine X_o K M ?_; clear K
        refine Y_o M ?_
        obtain ⟨n2, hx, h⟩ := olet h
        refine Y_r (fun _ K => rdi hx (rd_assign rfl K rfl)) M ?_; intro a K
        refine wpList_nil (then_n (wp_seq (X_reg ?_)))
        refine X_o K M ?_; clear K
        refine Y_o M ?_
        refine Y_r (fun _ K => rd_conv rfl rfl ik5 K rfl) M ?_
        obtain ⟨b, h_b, h⟩ := obind h
        refine Y_r (fun _ K => rd_ixT rfl st9 K rfl rfl h_b) M ?_
        refine Y_r (fun _ K => rd_conv rfl rfl ik3 K rfl) M ?_
        refine Y_o M ?_
        obtain ⟨n3, hx, h⟩ := olet h
        refine Y_r (fun _ K => rdi hx (rd_assign rfl K rfl)) M ?_; intro a K
        refine wpList_nil (then_n (wp_ret ?_))
        cases h
        exact ret1 K rfl (res_tmp K rfl) ⟨_, rfl, rfl, ((M).pick [] (by decide))⟩
      have h := cfalse hb h
      refine wp_skip (then_n (wp_seq (X_reg ?_)))
      refine X_o K M ?_; clear K
      refine Y_o M ?_
      refine Y_r (fun _ K => rd_conv rfl rfl ik5 K rfl) M ?_
      obtain ⟨b2, h_b2, h⟩ := obind h
      refine Y_r (fun _ K => rd_ixT rfl st9 K rfl rfl h_b2) M ?_
      refine Y_r (fun _ K => rd_conv rfl rfl ik3 K rfl) M ?_
      refine Y_o M ?_
      obtain ⟨n4, hx, h⟩ := olet h
      refine Y_r (fun _ K => rdi hx (rd_assign rfl K rfl)) M ?_; intro a K
      refine wpList_nil (then_n (wp_ret ?_))
      cases h
      exact ret1 K rfl (res_tmp K rfl) ⟨_, rfl, rfl, ((M).pick [] (by decide))⟩
    have h := cfalse hb h
    refine wp_skip (then_n (wp_seq (wp_seq (X_reg ?_))))
    refine X_o K M ?_; clear K
    refine Y_o M ?_; intro a K
    refine wpList_nil (then_n ?_)
    refine X_cond K rfl (fun hb => ?_) (fun hb => ?_)
    · have h := ctrue hb h
      refine wp_seq (X_reg ?_)
      refine X_o K M ?_; clear K
      refine Y_r (fun _ K => rd_shr rfl K rfl rfl (by decide)) M ?_
      obtain ⟨x6, hx, h⟩ := olet h
      refine Y_r (fun _ K => rdi hx (rd_assign rfl K rfl)) M ?_; intro a K
      refine wpList_nil (then_n (X_reg ?_))
      refine X_o K M ?_; clear K
      refine Y_o M ?_
      obtain ⟨n5, hx, h⟩ := olet h
      refine Y_r (fun _ K => rdi hx (rd_assign rfl K rfl)) M ?_; intro a K
      refine wpList_nil (then_n (wp_seq (X_reg ?_)))
      refine X_o K M ?_; clear K
      refine Y_o M ?_
      refine Y_r (fun _ K => rd_conv rfl rfl ik5 K rfl) M ?_
      obtain ⟨b3, h_b3, h⟩ := obind h
      refine Y_r (fun _ K => rd_ixT rfl st9 K rfl rfl h_b3) M ?_
      refine Y_r (fun _ K => rd_conv rfl rfl ik3 K rfl) M ?_
      refine Y_o M ?_
      obtain ⟨n6, hx, h⟩ := olet h
      refine Y_r (fun _ K => rdi hx (rd_assign rfl K rfl)) M ?_; intro a K
      refine wpList_nil (then_n (wp_ret ?_))
      cases h
      exact ret1 K rfl (res_tmp K rfl) ⟨_, rfl, rfl, ((M).pick [] (by decide))⟩
    have h := cfalse hb h
    refine wp_skip (then_n (wp_seq (X_reg ?_)))
    refine X_o K M ?_; clear K
    refine Y_o M ?_
    refine Y_r (fun _ K => rd_conv rfl rfl ik5 K rfl) M ?_
    obtain ⟨b4, h_b4, h⟩ := obind h
    refine Y_r (fun _ K => rd_ixT rfl st9 K rfl rfl h_b4) M ?_
    refine Y_r (fun _ K => rd_conv rfl rfl ik3 K rfl) M ?_
    refine Y_o M ?_
    obtain ⟨n7, hx, h⟩ := olet h
    refine Y_r (fun _ K => rdi hx (rd_assign rfl K rfl)) M ?_; intro a K
    refine wpList_nil (then_n (wp_ret ?_))
    cases h
    exact ret1 K rfl (res_tmp K rfl) ⟨_, rfl, rfl, ((M).pick [] (by decide))⟩
  have h := cfalse hb h
  refine wp_skip (then_n (wp_seq (wp_seq (X_reg ?_))))
  refine X_o K M ?_; clear K
  refine Y_o M ?_; intro a K
  refine wpList_nil (then_n ?_)
  refine X_cond K rfl (fun hb => ?_) (fun hb => ?_)
  · have h := ctrue hb h
    refine wp_seq (X_reg ?_)
    refine X_o K M ?_; clear K
    refine Y_r (fun _ K => rd_shr rfl K rfl rfl (by decide)) M ?_
    obtain ⟨x7, hx, h⟩ := olet h
    refine Y_r (fun _ K => rdi hx (rd_assign rfl K rfl)) M ?_; intro a K
    refine wpList_nil (then_n (X_reg ?_))
    refine X_o K M ?_; clear K
    refine Y_o M ?_
    obtain ⟨n8, hx, h⟩ := olet h
    refine Y_r (fun _ K => rdi hx (rd_assign rfl K rfl)) M ?_; intro a K
    refine wpList_nil (then_n (wp_seq (wp_seq (X_reg ?_))))
    refine X_o K M ?_; clear K
    refine Y_o M ?_; intro a K
    refine wpList_nil (then_n ?_)
    refine X_cond K rfl (fun hb => ?_) (fun hb => ?_)
    · have h := ctrue hb h
      refine wp_seq (X_reg ?_)
      refine X_o K M ?_; clear K
      refine Y_r (fun _ K => rd_shr rfl K rfl rfl (by decide)) M ?_
      obtain ⟨x8, hx, h⟩ := olet h
      refine Y_r (fun _ K => rdi hx (rd_assign rfl K rfl)) M ?_; intro a K
      refine wpList_nil (then_n (X_reg ?_))
      refine X_o K M ?_; clear K
      refine Y_o M ?_
      obtain ⟨n9, hx, h⟩ := olet h
      refine Y_r (fun _ K => rdi hx (rd_assign rfl K rfl)) M ?_; intro a K
      refine wpList_nil (then_n (wp_seq (X_reg ?_)))
      refine X_o K M ?_; clear K
      refine Y_o M ?_
      refine Y_r (fun _ K => rd_conv rfl rfl ik5 K rfl) M ?_
      obtain ⟨b5, h_b5, h⟩ := obind h
      refine Y_r (fun _ K => rd_ixT rfl st9 K rfl rfl h_b5) M ?_
      refine Y_r (fun _ K => rd_conv rfl rfl ik3 K rfl) M ?_
      refine Y_o M ?_
      obtain ⟨n10, hx, h⟩ := olet h
      refine Y_r (fun _ K => rdi hx (rd_assign rfl K rfl)) M ?_; intro a K
      refine wpList_nil (then_n (wp_ret ?_))
      cases h
      exact ret1 K rfl (res_tmp K rfl) ⟨_, rfl, rfl, ((M).pick [] (by decide))⟩
    have h := cfalse hb h
    refine wp_skip (then_n (wp_seq (X_reg ?_)))
    refine X_o K M ?_; clear K
    refine Y_o M ?_
    refine Y_r (fun _ K => rd_conv rfl rfl ik5 K rfl) M ?_
    obtain ⟨b6, h_b6, h⟩ := obind h
    refine Y_r (fun _ K => rd_ixT rfl st9 K rfl rfl h_b6) M ?_
    refine Y_r (fun _ K => rd_conv rfl rfl ik3 K rfl) M ?_
    refine Y_o M ?_
    obtain ⟨n11, hx, h⟩ := olet h
    refine Y_r (fun _ K => rdi hx (rd_assign rfl K rfl)) M ?_; intro a K
    refine wpList_nil (then_n (wp_ret ?_))
    cases h
    exact ret1 K rfl (res_tmp K rfl) ⟨_, rfl, rfl, ((M).pick [] (by decide))⟩
  have h := cfalse hb h
  refine wp_skip (then_n (wp_seq (wp_seq (X_reg ?_))))
  refine X_o K M ?_; clear K
  refine Y_o M ?_; intro a K
  refine wpList_nil (then_n ?_)
  refine X_cond K rfl (fun hb => ?_) (fun hb => ?_)
  · have h := ctrue hb h
    refine wp_seq (X_reg ?_)
    refine X_o K M ?_; clear K
    refine Y_r (fun _ K => rd_shr rfl K rfl rfl (by decide)) M ?_
    obtain ⟨x9, hx, h⟩ := olet h
    refine Y_r (fun _ K => rdi hx (rd_assign rfl K rfl)) M ?_; intro a K
    refine wpList_nil (then_n (X_reg ?_))
    refine X_o K M ?_; clear K
    refine Y_o M ?_
    obtain ⟨n12, hx, h⟩ := olet h
    refine Y_r (fun _ K => rdi hx (rd_assign rfl K rfl)) M ?_; intro a K
    refine wpList_nil (then_n (wp_seq (X_reg ?_)))
    refine X_o K M ?_; clear K
    refine Y_o M ?_
    refine Y_r (fun _ K => rd_conv rfl rfl ik5 K rfl) M ?_
    obtain ⟨b7, h_b7, h⟩ := obind h
    refine Y_r (fun _ K => rd_ixT rfl st9 K rfl rfl h_b7) M ?_
    refine Y_r (fun _ K => rd_conv rfl rfl ik3 K rfl) M ?_
    refine Y_o M ?_
    obtain ⟨n13, hx, h⟩ := olet h
    refine Y_r (fun _ K => rdi hx (rd_assign rfl K rfl)) M ?_; intro a K
    refine wpList_nil (then_n (wp_ret ?_))
    cases h
    exact ret1 K rfl (res_tmp K rfl) ⟨_, rfl, rfl, ((M).pick [] (by decide))⟩
  have h := cfalse hb h
  refine wp_skip (then_n (wp_seq (X_reg ?_)))
  refine X_o K M ?_; clear K
  refine Y_o M ?_
  refine Y_r (fun _ K => rd_conv rfl rfl ik5 K rfl) M ?_
  obtain ⟨b8, h_b8, h⟩ := obind h
  refine Y_r (fun _ K => rd_ixT rfl st9 K rfl rfl h_b8) M ?_
  refine Y_r (fun _ K => rd_conv rfl rfl ik3 K rfl) M ?_
  refine Y_o M ?_
  obtain ⟨n14, hx, h⟩ := olet h
  refine Y_r (fun _ K => rdi hx (rd_assign rfl K rfl)) M ?_; intro a K
  refine wpList_nil (then_n (wp_ret ?_))
  cases h
  exact ret1 K rfl (res_tmp K rfl) ⟨_, rfl, rfl, ((M).pick [] (by decide))⟩
set_option maxRecDepth 100000 in
set_option maxHeartbeats 4000000 in
theorem W_math_bits_Len (N : Nat) (x2 : Int) (w0 : World)  (r : Int) (h : D_math_bits_Len N x2 = some r) :
    Calls Tryd.prog 48 #[.int .u64 x2] w0 fun e w' => ∃ v, e = .returned v ∧ v = I r ∧ Mem w0.heap.size w0 w' [] := by
  refine X_enter Tryd.func48 rfl Tryd.ntmps48 rfl ?_
  intro a K
  have M := Mem.start w0
  have K : Kn a 8 [(0, .int .u64 x2)] := K
  unfold D_math_bits_Len at h
  refine wp_seq (X_reg ?_)
  refine X_o K M ?_; clear K; intro a K
  refine wpList_nil (then_n (wp_seq ?_))
  refine X_condF K rfl ?_
  refine wp_skip (then_n (wp_seq (X_reg ?_)))
  refine X_o K M ?_; clear K; intro a K
  obtain ⟨r2, h_r2, h⟩ := obind h
  refine X_a K (ac_call (vs := [.int .u64 x2]) (cap := []) rfl fok68 K rfl rfl (W_math_bits_Len64 N x2 _  r2 h_r2)) ?_
  have M0 := M; clear K M; rintro _ a w ⟨rfl, M⟩ K
  replace M := M0.call M; clear M0
  refine X_o K M ?_; clear K; intro a K
  refine wpList_nil (then_n (wp_ret ?_))
  cases h
  exact ret1 K rfl (res_tmp K rfl) ⟨_, rfl, rfl, ((M).pick [] (by decide))⟩
end Go.Proofs.YtpmnfhifmmfglacDoor

namespace Go.Proofs.YtpmnfhifmmfglacDoor
open Go.RowKit Go.Shelf
theorem W_strings_Contains (N : Nat) (s substr : List UInt8) (w0 : World) (r : Bool) (h : D_strings_Contains N s substr = some r) :
    Calls Tryd.prog 57 #[.string (bs s), .string (bs substr)] w0 fun e w' => ∃ v, e = .returned v ∧ v = .bool r ∧ Mem w0.heap.size w0 w' [] := by
  unfold D_strings_Contains at h
  split at h
  · rename_i c
    cases h
    refine (Any.strings_Contains_one lays144 (bs s) c w0).mono ?_
    rintro e w' ⟨rfl, rfl⟩
    exact ⟨_, rfl, rfl, Mem.start w'⟩
  · cases h
end Go.Proofs.YtpmnfhifmmfglacDoor
