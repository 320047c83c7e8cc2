/- Texts of the claim CodeBack, joined: WLawCodeback. -/
import Derived.Test.YtpmnfhifmmfglacDoorCodeBackK1
import Derived.Test.YtpmnfhifmmfglacDoorCodeBackK3
set_option linter.unusedVariables false
set_option linter.unusedSimpArgs false
set_option linter.unusedSectionVars false
namespace Go.Proofs.YtpmnfhifmmfglacDoor
open Go.RowKit
set_option maxRecDepth 100000 in
set_option maxHeartbeats 4000000 in
theorem W_darkslidelaw_CodeBack (N : Nat) (d : List Int) (A_d : Option Addr) (c_d : Nat) (o : List Int) (A_o : Option Addr) (c_o : Nat) (p2 : List UInt8) (p3 : Int) (p4 : Int) (w0 : World) (R_d : SL w0 (cI .i64) A_d d) (C_d : d.length ≤ c_d) (R_o : SL w0 (cI .i64) A_o o) (C_o : o.length ≤ c_o) (r : Bool) (h : D_darkslidelaw_CodeBack N d o p2 p3 p4 = some r) :
    Calls Tryd.prog 4 #[.slice A_d d.length c_d, .slice A_o o.length c_o, .string (bs p2), I p3, I p4] w0 fun e w' => ∃ v, e = .returned v ∧ v = .bool r ∧ Mem w0.heap.size w0 w' [] := by
  refine X_enter Tryd.func4 rfl Tryd.ntmps4 rfl ?_
  intro a K
  have M := Mem.start w0
  have K : Kn a 125 [(0, .slice A_d d.length c_d), (1, .slice A_o o.length c_o), (2, .string (bs p2)), (3, I p3), (4, I p4)] := K
  unfold D_darkslidelaw_CodeBack at h
  refine wp_seq (X_reg ?_)
  refine X_o K M ?_; clear K; intro a K
  refine wpList_nil (then_n (wp_seq (X_reg ?_)))
  refine X_o K M ?_; clear K
  refine Y_o M ?_; intro a K
  obtain ⟨r2, h_r2, h⟩ := obind h
  refine X_a K (ac_call (vs := [.slice A_d d.length c_d, .slice A_o o.length c_o]) (cap := []) rfl fok9 K rfl rfl (W_code_Write N d A_d c_d o A_o c_o _ ((inA R_d) _ M) C_d ((inA R_o) _ M) C_o r2 h_r2)) ?_
  have M0 := M; clear K M; rintro _ a w ⟨rfl, M⟩ K
  replace M := M0.call M; clear M0
  refine X_o K M ?_; clear K
  iterate 4 (refine Y_o M ?_)
  intro a K
  refine wpList_nil (then_n (wp_seq (X_reg ?_)))
  refine X_o K M ?_; clear K; intro a K
  obtain ⟨r3, h_r3, h⟩ := obind h
  refine X_a K (ac_call (vs := [.slice A_d d.length c_d]) (cap := []) rfl fok15 K rfl rfl (W_code_Words N d A_d c_d _ ((inA R_d) _ M) C_d r3 h_r3)) ?_
  have M0 := M; clear K M; rintro _ a w ⟨A, c, rfl, M⟩ K
  replace M := M0.call M; clear M0
  refine X_o K M ?_; clear K
  iterate 4 (refine Y_o M ?_)
  intro a K
  refine wpList_nil (then_n (wp_seq (wp_seq (X_reg ?_))))
  refine X_o K M ?_; clear K
  refine Y_o M ?_; intro a K
  refine wpList_nil (then_n ?_)
  refine X_join (Rel := fun (_ : Unit) a w => Kn a 125 [(0, .slice A_d d.length c_d), (1, .slice A_o o.length c_o), (2, .string (bs p2)), (11, .string (bs r2.1)), (12, I r2.2)] ∧ Mem w0.heap.size w0 w [.row 9 1 A r3.1.length c (cS.all r3.1)]) h ?_ ?_
  · clear K M h
    rintro _ a w ⟨K, M⟩ h
    try dsimp only at h
    refine then_n (wp_seq (wp_seq ?_))
    refine X_join (Rel := fun (i5 : Bool) a w => Kn a 125 [(0, .slice A_d d.length c_d), (1, .slice A_o o.length c_o), (2, .string (bs p2)), (11, .string (bs r2.1)), (97, .bool i5)] ∧ Mem w0.heap.size w0 w [.row 9 1 A r3.1.length c (cS.all r3.1)]) h ?_ ?_
    · clear K M h
      rintro i6 a w ⟨K, M⟩ h
      try dsimp only at h
      refine then_n ?_
      refine X_cond K rfl (fun hb => ?_) (fun hb => ?_)
      · have h := ctrue hb h
        refine wp_seq (X_reg ?_)
        obtain ⟨r7, h_r7, h⟩ := obind h
        refine X_a K (ac_call (vs := []) (cap := []) rfl fok13 K rfl rfl (W_darkslidelaw_codeBegun N  _  r7 h_r7)) ?_
        have M0 := M; clear K M; rintro _ a w ⟨rfl, M⟩ K
        replace M := M0.call M; clear M0
        refine X_o K M ?_; clear K; intro a K
        refine wpList_nil (then_n (wp_ret (then_r ?_)))
        cases h
        exact ret1 K rfl (res_tmp K rfl) ⟨_, rfl, rfl, ((M).pick [] (by decide))⟩
      have h := cfalse hb h
      refine wp_skip (then_n (wp_seq (X_reg ?_)))
      refine X_o K M ?_; clear K
      iterate 2 (refine Y_o M ?_)
      obtain ⟨s2, h_s2, h⟩ := obind h
      refine Y_r (fun _ K => rd_addS rfl K rfl rfl h_s2) M ?_
      refine Y_o M ?_
      refine Y_r (fun _ K => rd_len rfl un22 K rfl) M ?_; intro a K
      obtain ⟨r8, h_r8, h⟩ := obind h
      refine X_a K (ac_call (vs := [.slice A_d d.length c_d, .string (bs s2), I (o.length : Int)]) (cap := []) rfl fok11 K rfl rfl (W_code_Read N d A_d c_d s2 (o.length : Int) _ ((inA R_d) _ M) C_d r8 h_r8)) ?_
      have M0 := M; clear K M; rintro _ a w ⟨A2, c2, rfl, M⟩ K
      replace M := M0.call M; clear M0
      refine X_o K M ?_; clear K
      iterate 6 (refine Y_o M ?_)
      intro a K
      refine wpList_nil (then_n (wp_seq ?_))
      refine X_join (Rel := fun (i7 : Bool) a w => Kn a 125 [(10, .bool i7)] ∧ Mem w0.heap.size w0 w [.row 3 1 A2 r8.1.length c2 ((cI .i64).all r8.1), .row 9 1 A r3.1.length c (cS.all r3.1)]) h ?_ ?_
      · clear K M h
        rintro i8 a w ⟨K, M⟩ h
        try dsimp only at h
        refine then_n (wp_ret ?_)
        cases h
        exact ret1 K rfl (res_tmp K rfl) ⟨_, rfl, rfl, ((M).pick [] (by decide))⟩
      clear h; rintro kk_darkslidelaw_CodeBack_j5 hj5 h
      unfold D_darkslidelaw_CodeBack_j5 at h
      refine X_reg ?_
      obtain ⟨r9, h_r9, h⟩ := obind h
      refine X_a K (ac_call (vs := []) (cap := []) rfl fok13 K rfl rfl (W_darkslidelaw_codeBegun N  _  r9 h_r9)) ?_
      have M0 := M; clear K M; rintro _ a w ⟨rfl, M⟩ K
      replace M := M0.call M; clear M0
      refine X_o K M ?_; clear K; intro a K
      rcases Bool.eq_false_or_eq_true (r9) with hb | hb
      · have h := ctrue hb h
        have K := K.reb (s := 111) rfl hb
        refine X_o K M ?_; clear K
        iterate 3 (refine Y_o M ?_)
        intro a K
        rcases Bool.eq_false_or_eq_true (decide (r8.2.2 = 0)) with hb | hb
        · have h := ctrue hb h
          have K := K.reb (s := 115) rfl hb
          refine X_o K M ?_; clear K
          refine Y_o M ?_
          refine Y_r (fun _ K => rd_eqlS rfl K rfl rfl) M ?_
          iterate 2 (refine Y_o M ?_)
          intro a K
          rcases Bool.eq_false_or_eq_true (decide (r8.2.1 = p2)) with hb | hb
          · have h := ctrue hb h
            have K := K.reb (s := 120) rfl hb
            refine X_o K M ?_; clear K
            refine Y_o M ?_; intro a K
            obtain ⟨r10, h_r10, h⟩ := obind h
            refine X_a K (ac_call (vs := [.slice A2 r8.1.length c2, .slice A_o o.length c_o]) (cap := []) rfl fok14 K rfl rfl (W_darkslideref_SameInts N r8.1 A2 c2 o A_o c_o _ ((inR (C := (cI .i64)) 0 rfl rfl) _ M) (M.cap 0 rfl) ((inA R_o) _ M) C_o r10 h_r10)) ?_
            have M0 := M; clear K M; rintro _ a w ⟨rfl, M⟩ K
            replace M := M0.call M; clear M0
            refine X_o K M ?_; clear K
            refine Y_o M ?_; intro a K
            refine wpList_nil ?_
            exact hj5 r10 _ _ ⟨K.pick [10], M.pick [0,1] (by decide)⟩ h
          have h := cfalse hb h
          have K := K.reb (s := 120) rfl hb
          refine X_o K M ?_; clear K
          iterate 4 (refine Y_o M ?_)
          intro a K
          refine wpList_nil ?_
          exact hj5 false _ _ ⟨K.pick [10], M.pick [0,1] (by decide)⟩ h
        have h := cfalse hb h
        have K := K.reb (s := 115) rfl hb
        refine X_o K M ?_; clear K
        iterate 9 (refine Y_o M ?_)
        intro a K
        refine wpList_nil ?_
        exact hj5 false _ _ ⟨K.pick [10], M.pick [0,1] (by decide)⟩ h
      have h := cfalse hb h
      have K := K.reb (s := 111) rfl hb
      refine X_o K M ?_; clear K
      iterate 13 (refine Y_o M ?_)
      intro a K
      refine wpList_nil ?_
      exact hj5 false _ _ ⟨K.pick [10], M.pick [0,1] (by decide)⟩ h
    clear h; rintro kk_darkslidelaw_CodeBack_j4 hj4 h
    unfold D_darkslidelaw_CodeBack_j4 at h
    refine X_reg ?_
    refine X_o K M ?_; clear K
    iterate 2 (refine Y_o M ?_)
    intro a K
    rcases Bool.eq_false_or_eq_true (!decide (r2.2 = 0)) with hb | hb
    · have h := ctrue hb h
      have K := K.reb (s := 93) rfl hb
      refine X_o K M ?_; clear K
      iterate 3 (refine Y_o M ?_)
      intro a K
      refine wpList_nil ?_
      exact hj4 true _ _ ⟨K.pick [0,1,2,11,97], M.pick [0] (by decide)⟩ h
    have h := cfalse hb h
    have K := K.reb (s := 93) rfl hb
    refine X_o K M ?_; clear K; intro a K
    obtain ⟨r6, h_r6, h⟩ := obind h
    refine X_a K (ac_call (vs := [.string (bs p2)]) (cap := []) rfl fok17 K rfl rfl (W_darkslideref_IsRow N p2 _  r6 h_r6)) ?_
    have M0 := M; clear K M; rintro _ a w ⟨rfl, M⟩ K
    replace M := M0.call M; clear M0
    refine X_o K M ?_; clear K
    refine Y_o M ?_; intro a K
    refine wpList_nil ?_
    exact hj4 (!(r6)) _ _ ⟨K.pick [0,1,2,11,97], M.pick [0] (by decide)⟩ h
  clear h; rintro kk_darkslidelaw_CodeBack_j1 hj1 h
  unfold D_darkslidelaw_CodeBack_j1 at h
  refine X_cond K rfl (fun hb => ?_) (fun hb => ?_)
  · have h := ctrue hb h
    refine wp_seq (wp_seq ?_)
    refine X_join (Rel := fun (i : Bool) a w => Kn a 125 [(0, .slice A_d d.length c_d), (1, .slice A_o o.length c_o), (2, .string (bs p2)), (3, I p3), (4, I p4), (11, .string (bs r2.1)), (12, I r2.2), (13, .slice A r3.1.length c), (42, .bool i)] ∧ Mem w0.heap.size w0 w [.row 9 1 A r3.1.length c (cS.all r3.1)]) h ?_ ?_
    · clear K M h
      rintro i2 a w ⟨K, M⟩ h
      try dsimp only at h
      refine then_n ?_
      refine X_cond K rfl (fun hb => ?_) (fun hb => ?_)
      · have h := ctrue hb h
        refine wp_seq (X_reg ?_)
        refine X_o K M ?_; clear K; intro a K
        refine wpList_nil (then_n (wp_ret (then_r (then_r ?_))))
        cases h
        exact ret1 K rfl (res_tmp K rfl) ⟨_, rfl, rfl, ((M).pick [] (by decide))⟩
      have h := cfalse hb h
      refine wp_skip (then_n (wp_seq (X_reg ?_)))
      refine X_o K M ?_; clear K
      refine Y_o M ?_
      refine Y_r (fun _ K => rd_len rfl un31 K rfl) M ?_; intro a K
      obtain ⟨r4, h_r4, h⟩ := obind h
      refine X_a K (ac_call (vs := [I p3, I (r3.1.length : Int)]) (cap := []) rfl fok16 K rfl rfl (W_darkslidelaw_choose N p3 (r3.1.length : Int) _  r4 h_r4)) ?_
      have M0 := M; clear K M; rintro _ a w ⟨rfl, M⟩ K
      replace M := M0.call M; clear M0
      refine X_o K M ?_; clear K
      refine Y_o M ?_
      refine Y_r (fun _ K => rd_len rfl un31 K rfl) M ?_; intro a K
      obtain ⟨r5, h_r5, h⟩ := obind h
      refine X_a K (ac_call (vs := [I p4, I (r3.1.length : Int)]) (cap := []) rfl fok16 K rfl rfl (W_darkslidelaw_choose N p4 (r3.1.length : Int) _  r5 h_r5)) ?_
      have M0 := M; clear K M; rintro _ a w ⟨rfl, M⟩ K
      replace M := M0.call M; clear M0
      refine X_o K M ?_; clear K
      refine Y_o M ?_; intro a K
      refine wpList_nil (then_n (wp_seq ?_))
      refine X_join (Rel := fun (i3 : Bool) a w => Kn a 125 [(0, .slice A_d d.length c_d), (1, .slice A_o o.length c_o), (2, .string (bs p2)), (11, .string (bs r2.1)), (12, I r2.2), (90, .bool i3)] ∧ Mem w0.heap.size w0 w [.row 9 1 A r3.1.length c (cS.all r3.1)]) h ?_ ?_
      · clear K M h
        rintro i4 a w ⟨K, M⟩ h
        try dsimp only at h
        refine then_n ?_
        refine X_cond K rfl (fun hb => ?_) (fun hb => ?_)
        · have h := ctrue hb h
          refine wp_seq (X_reg ?_)
          refine X_o K M ?_; clear K; intro a K
          refine wpList_nil (then_n (wp_ret (then_r ?_)))
          cases h
          exact ret1 K rfl (res_tmp K rfl) ⟨_, rfl, rfl, ((M).pick [] (by decide))⟩
        have h := cfalse hb h
        refine wp_skip ?_
        exact hj1 () _ _ ⟨K.pick [0,1,2,11,12], M.pick [0] (by decide)⟩ h
      clear h; rintro kk_darkslidelaw_CodeBack_j3 hj3 h
      unfold D_darkslidelaw_CodeBack_j3 at h
      refine wp_region_tl (fun w => Mem _ _ w _) [0,0,0,0,0,0,0,0,0,0,0,0,0,0,0,0,0,0,0,0,0,0,0,0,0,0,0,0,0,0,0,0,0,0,0,0,0,0,0,0] (by kernel_rfl) (by kernel_rfl) M.drew ?_
      replace M := M.drew
      refine T_o K ?_; clear K
      iterate 3 (refine U_o ?_)
      intro a K
      rcases Bool.eq_false_or_eq_true (!decide (r4 = r5)) with hb | hb
      · have h := ctrue hb h
        have K := K.reb (s := 54) rfl hb
        refine T_o K ?_; clear K
        refine U_o ?_
        obtain ⟨e, h_e, h⟩ := obind h
        refine U_r (fun _ K => rd_ixP rfl sl31 K rfl rfl ((inR (C := cS) 0 rfl rfl) _ M) h_e) ?_
        refine U_r (fun _ K => rd_elC rfl sc9 K rfl rfl (inR (C := cS) 0 rfl rfl) h_e rfl) ?_
        refine U_r (fun _ K => rd_neqS rfl K rfl rfl) ?_
        iterate 2 (refine U_o ?_)
        intro a K
        rcases Bool.eq_false_or_eq_true (!decide (e = ([] : List UInt8))) with hb | hb
        · have h := ctrue hb h
          have K := K.reb (s := 61) rfl hb
          refine T_o K ?_; clear K
          refine U_o ?_
          obtain ⟨e2, h_e2, h⟩ := obind h
          refine U_r (fun _ K => rd_ixP rfl sl31 K rfl rfl ((inR (C := cS) 0 rfl rfl) _ M) h_e2) ?_
          refine U_r (fun _ K => rd_elC rfl sc9 K rfl rfl (inR (C := cS) 0 rfl rfl) h_e2 rfl) ?_
          refine U_r (fun _ K => rd_lenT rfl st9 K rfl) ?_
          iterate 2 (refine U_o ?_)
          obtain ⟨e3, h_e3, h⟩ := obind h
          refine U_r (fun _ K => rd_ixP rfl sl31 K rfl rfl ((inR (C := cS) 0 rfl rfl) _ M) h_e3) ?_
          refine U_r (fun _ K => rd_elC rfl sc9 K rfl rfl (inR (C := cS) 0 rfl rfl) h_e3 rfl) ?_
          refine U_r (fun _ K => rd_lenT rfl st9 K rfl) ?_
          iterate 3 (refine U_o ?_)
          intro a K
          rcases Bool.eq_false_or_eq_true (decide ((e2.length : Int) ≤ (e3.length : Int))) with hb | hb
          · have h := ctrue hb h
            have K := K.reb (s := 74) rfl hb
            refine T_o K ?_; clear K
            refine U_o ?_
            obtain ⟨e4, h_e4, h⟩ := obind h
            refine U_r (fun _ K => rd_ixP rfl sl31 K rfl rfl ((inR (C := cS) 0 rfl rfl) _ M) h_e4) ?_
            refine U_r (fun _ K => rd_elC rfl sc9 K rfl rfl (inR (C := cS) 0 rfl rfl) h_e4 rfl) ?_
            iterate 2 (refine U_o ?_)
            obtain ⟨e5, h_e5, h⟩ := obind h
            refine U_r (fun _ K => rd_ixP rfl sl31 K rfl rfl ((inR (C := cS) 0 rfl rfl) _ M) h_e5) ?_
            refine U_r (fun _ K => rd_elC rfl sc9 K rfl rfl (inR (C := cS) 0 rfl rfl) h_e5 rfl) ?_
            refine U_r (fun _ K => rd_lenT rfl st9 K rfl) ?_
            obtain ⟨s, h_s, h⟩ := obind h
            refine U_r (fun _ K => rd_sliceS (k := .i64) (k' := .i64) rfl st9 K rfl rfl rfl h_s) ?_
            iterate 2 (refine U_o ?_)
            obtain ⟨e6, h_e6, h⟩ := obind h
            refine U_r (fun _ K => rd_ixP rfl sl31 K rfl rfl ((inR (C := cS) 0 rfl rfl) _ M) h_e6) ?_
            refine U_r (fun _ K => rd_elC rfl sc9 K rfl rfl (inR (C := cS) 0 rfl rfl) h_e6 rfl) ?_
            refine U_r (fun _ K => rd_eqlS rfl K rfl rfl) ?_
            refine U_o ?_; intro a K
            refine T_end ?_
            exact hj3 (decide (s = e6)) _ _ ⟨K.pick [0,1,2,11,12,90], M.pick [0] (by decide)⟩ h
          have h := cfalse hb h
          have K := K.reb (s := 74) rfl hb
          refine T_o K ?_; clear K
          iterate 15 (refine U_o ?_)
          intro a K
          refine T_end ?_
          exact hj3 false _ _ ⟨K.pick [0,1,2,11,12,90], M.pick [0] (by decide)⟩ h
        have h := cfalse hb h
        have K := K.reb (s := 61) rfl hb
        refine T_o K ?_; clear K
        iterate 28 (refine U_o ?_)
        intro a K
        refine T_end ?_
        exact hj3 false _ _ ⟨K.pick [0,1,2,11,12,90], M.pick [0] (by decide)⟩ h
      have h := cfalse hb h
      have K := K.reb (s := 54) rfl hb
      refine T_o K ?_; clear K
      iterate 35 (refine U_o ?_)
      intro a K
      refine T_end ?_
      exact hj3 false _ _ ⟨K.pick [0,1,2,11,12,90], M.pick [0] (by decide)⟩ h
    clear h; rintro kk_darkslidelaw_CodeBack_j2 hj2 h
    unfold D_darkslidelaw_CodeBack_j2 at h
    refine X_reg ?_
    refine X_o K M ?_; clear K
    refine Y_r (fun _ K => rd_len rfl un31 K rfl) M ?_
    refine Y_o M ?_
    refine Y_r (fun _ K => rd_len rfl un22 K rfl) M ?_
    iterate 2 (refine Y_o M ?_)
    intro a K
    rcases Bool.eq_false_or_eq_true (!decide ((r3.1.length : Int) = (d.length : Int))) with hb | hb
    · have h := ctrue hb h
      have K := K.reb (s := 38) rfl hb
      refine X_o K M ?_; clear K
      iterate 3 (refine Y_o M ?_)
      intro a K
      refine wpList_nil ?_
      exact hj2 true _ _ ⟨K.pick [0,1,2,3,4,11,12,13,42], M.pick [0] (by decide)⟩ h
    have h := cfalse hb h
    have K := K.reb (s := 38) rfl hb
    refine X_o K M ?_; clear K
    refine Y_r (fun _ K => rd_len rfl un22 K rfl) M ?_
    iterate 2 (refine Y_o M ?_)
    intro a K
    refine wpList_nil ?_
    exact hj2 (decide ((d.length : Int) = 0)) _ _ ⟨K.pick [0,1,2,3,4,11,12,13,42], M.pick [0] (by decide)⟩ h
  have h := cfalse hb h
  refine wp_skip ?_
  exact hj1 () _ _ ⟨K.pick [0,1,2,11,12], M.pick [0] (by decide)⟩ h
end Go.Proofs.YtpmnfhifmmfglacDoor
