/- Texts of the claim CodeWrites, joined: WRefSameints, WLawCodebegun, WRefWithin, WRefCheckcode, WRefBegins, WRefFront, WRefIsrow, WRefNumber, WRefWordsof, WRefReadcode, WRefWordless, WRefWritecode, WLawCodewrites. -/
import Derived.Test.YtpmnfhifmmfglacDoorCodeWritesK2
import Derived.Test.YtpmnfhifmmfglacDoorCodeWritesK3
set_option linter.unusedVariables false
set_option linter.unusedSimpArgs false
set_option linter.unusedSectionVars false
namespace Go.Proofs.YtpmnfhifmmfglacDoor
open Go.RowKit
set_option maxRecDepth 100000 in
set_option maxHeartbeats 4000000 in
theorem W_darkslideref_SameInts (N : Nat) (a2 : List Int) (A_a2 : Option Addr) (c_a2 : Nat) (b : List Int) (A_b : Option Addr) (c_b : Nat) (w0 : World) (R_a2 : SL w0 (cI .i64) A_a2 a2) (C_a2 : a2.length ≤ c_a2) (R_b : SL w0 (cI .i64) A_b b) (C_b : b.length ≤ c_b) (r : Bool) (h : D_darkslideref_SameInts N a2 b = some r) :
    Calls Tryd.prog 14 #[.slice A_a2 a2.length c_a2, .slice A_b b.length c_b] w0 fun e w' => ∃ v, e = .returned v ∧ v = .bool r ∧ Mem w0.heap.size w0 w' [] := by
  refine X_enter Tryd.func14 rfl Tryd.ntmps14 rfl ?_
  intro a K
  have M := Mem.start w0
  have K : Kn a 26 [(0, .slice A_a2 a2.length c_a2), (1, .slice A_b b.length c_b)] := K
  unfold D_darkslideref_SameInts at h
  refine wp_seq (X_reg ?_)
  refine X_o K M ?_; clear K; intro a K
  refine wpList_nil (then_n (wp_seq (wp_seq (X_reg ?_))))
  refine X_o K M ?_; clear K
  refine Y_r (fun _ K => rd_len rfl un22 K rfl) M ?_
  refine Y_o M ?_
  refine Y_r (fun _ K => rd_len rfl un22 K rfl) M ?_
  refine Y_o M ?_; intro a K
  refine wpList_nil (then_n ?_)
  refine X_cond K rfl (fun hb => ?_) (fun hb => ?_)
  · have h := ctrue hb h
    refine wp_seq (X_reg ?_)
    refine X_o K M ?_; clear K; intro a K
    refine wpList_nil (then_n (wp_ret (then_r ?_)))
    cases h
    exact ret1 K rfl (res_tmp K rfl) ⟨_, rfl, rfl, ((M).pick [] (by decide))⟩
  have h := cfalse hb h
  refine wp_skip (then_n (wp_seq (wp_seq (X_reg ?_))))
  refine X_o K M ?_; clear K; intro a K
  refine wpList_nil (then_n (wp_block ?_))
  refine X_lp (id := 0) (Rel := fun (i : Int) a w => Kn a 26 [(0, .slice A_a2 a2.length c_a2), (1, .slice A_b b.length c_b), (5, I i)] ∧ Mem w0.heap.size w0 w []) h (fun _ _ => rfl) ⟨K.pick [0,1,5], M.pick [] (by decide)⟩ ?_ ?_
  · clear K M h
    rintro i4 a w ⟨K, M⟩ h
    try dsimp only at h
    refine inb_e ?_
    refine then_n (wp_seq (X_reg ?_))
    refine X_o K M ?_; clear K; intro a K
    refine wpList_nil (then_n (wp_ret ?_))
    cases h
    exact ret1 K rfl (res_tmp K rfl) ⟨_, rfl, rfl, ((M).pick [] (by decide))⟩
  clear K M h
  rintro kk fuel i a w hk1 ⟨K, M⟩ h
  unfold D_darkslideref_SameInts_l1 at h
  refine wp_seq (wp_seq (X_reg ?_))
  refine X_o K M ?_; clear K
  refine Y_o M ?_
  refine Y_r (fun _ K => rd_len rfl un22 K rfl) M ?_
  refine Y_o M ?_; intro a K
  refine wpList_nil (then_n ?_)
  refine X_cond K rfl (fun hb => ?_) (fun hb => ?_)
  · have h := ctrue hb h
    refine wp_skip (then_n (wp_seq (wp_block (wp_seq ?_))))
    refine wp_region_tl (fun w => Mem _ _ w _) [0,0,0,0,0,0,0,0,0] (by kernel_rfl) (by kernel_rfl) M.drew ?_
    replace M := M.drew
    refine T_o K ?_; clear K
    refine U_o ?_
    obtain ⟨e3, h_e3, h⟩ := obind h
    refine U_r (fun _ K => rd_ixP rfl sl22 K rfl rfl ((inA R_a2) _ M) h_e3) ?_
    refine U_r (fun _ K => rd_elC rfl sc3 K rfl rfl (inA R_a2) h_e3 rfl) ?_
    iterate 2 (refine U_o ?_)
    obtain ⟨e4, h_e4, h⟩ := obind h
    refine U_r (fun _ K => rd_ixP rfl sl22 K rfl rfl ((inA R_b) _ M) h_e4) ?_
    refine U_r (fun _ K => rd_elC rfl sc3 K rfl rfl (inA R_b) h_e4 rfl) ?_
    refine U_o ?_; intro a K
    refine T_end ?_
    refine then_n ?_
    refine X_cond K rfl (fun hb => ?_) (fun hb => ?_)
    · have h := ctrue hb h
      refine wp_seq (X_reg ?_)
      refine X_o K M ?_; clear K; intro a K
      refine wpList_nil (then_n (wp_ret (inb_r (then_r (then_r (inb_r (then_r ?_)))))))
      cases h
      exact ret1 K rfl (res_tmp K rfl) ⟨_, rfl, rfl, ((M).pick [] (by decide))⟩
    have h := cfalse hb h
    refine wp_skip (inb_n (then_n (X_reg ?_)))
    refine X_o K M ?_; clear K
    refine Y_o M ?_
    obtain ⟨i3, hx, h⟩ := olet h
    refine Y_r (fun _ K => rdi hx (rd_assign rfl K rfl)) M ?_; intro a K
    refine wpList_nil ?_
    exact then_n ⟨i3, ⟨K.pick [0,1,5], M.pick [] (by decide)⟩, h⟩
  have h := cfalse hb h
  refine wp_exit ?_
  refine then_e ?_
  exact then_e (hk1 i _ _ ⟨K.pick [0,1,5], M.pick [] (by decide)⟩ h)
end Go.Proofs.YtpmnfhifmmfglacDoor

namespace Go.Proofs.YtpmnfhifmmfglacDoor
open Go.RowKit
set_option maxRecDepth 100000 in
set_option maxHeartbeats 4000000 in
theorem W_darkslidelaw_codeBegun (N : Nat)  (w0 : World)  (r : Bool) (h : D_darkslidelaw_codeBegun N  = some r) :
    Calls Tryd.prog 13 #[] w0 fun e w' => ∃ v, e = .returned v ∧ v = .bool r ∧ Mem w0.heap.size w0 w' [] := by
  refine X_enter Tryd.func13 rfl Tryd.ntmps13 rfl ?_
  intro a K
  have M := Mem.start w0
  have K : Kn a 76 [] := K
  unfold D_darkslidelaw_codeBegun at h
  refine wp_seq (X_reg ?_)
  refine X_o K M ?_; clear K; intro a K
  refine wpList_nil (then_n (wp_seq (X_reg ?_)))
  obtain ⟨r2, h_r2, h⟩ := obind h
  refine X_a K (ac_call (vs := []) (cap := []) rfl fok36 K rfl rfl (W_darkslidelaw_lens N  _  r2 h_r2)) ?_
  have M0 := M; clear K M; rintro _ a w ⟨A, c, rfl, M⟩ K
  replace M := M0.call M; clear M0
  obtain ⟨r3, h_r3, h⟩ := obind h
  refine X_a K (ac_call (vs := [.slice A r2.length c]) (cap := []) rfl fok15 K rfl rfl (W_code_Words N r2 A c _ ((inR (C := (cI .i64)) 0 rfl rfl) _ M) (M.cap 0 rfl) r3 h_r3)) ?_
  have M0 := M; clear K M; rintro _ a w ⟨A2, c2, rfl, M⟩ K
  replace M := M0.call M; clear M0
  refine X_o K M ?_; clear K
  iterate 4 (refine Y_o M ?_)
  intro a K
  refine wpList_nil (then_n (wp_seq (X_reg ?_)))
  obtain ⟨r4, h_r4, h⟩ := obind h
  refine X_a K (ac_call (vs := []) (cap := []) rfl fok36 K rfl rfl (W_darkslidelaw_lens N  _  r4 h_r4)) ?_
  have M0 := M; clear K M; rintro _ a w ⟨A3, c3, rfl, M⟩ K
  replace M := M0.call M; clear M0
  refine X_a K (ac_bslice rfl sl22 z3 K (vs := [(0, I 2), (1, I 0), (2, I 1)]) (cs := [I 2, I 0, I 1]) rfl (by kernel_rfl) rfl rfl M) ?_
  have M0 := M; clear K M; rintro _ a w ⟨gs, rfl, M⟩ K
  replace M := M.asRow 0 rfl (cI .i64) ([2, 0, 1] : List Int) (n := 3) rfl rfl rfl
  clear M0
  obtain ⟨r5, h_r5, h⟩ := obind h
  refine X_a K (ac_call (vs := [.slice A3 r4.length c3, .slice (some ⟨gs, 0, none⟩) ([2, 0, 1] : List Int).length 3]) (cap := []) rfl fok9 K rfl rfl (W_code_Write N r4 A3 c3 ([2, 0, 1] : List Int) (some ⟨gs, 0, none⟩) 3 _ ((inR (C := (cI .i64)) 1 rfl rfl) _ M) (M.cap 1 rfl) ((inR (C := (cI .i64)) 0 rfl rfl) _ M) (M.cap 0 rfl) r5 h_r5)) ?_
  have M0 := M; clear K M; rintro _ a w ⟨rfl, M⟩ K
  replace M := M0.call M; clear M0
  refine X_o K M ?_; clear K
  iterate 4 (refine Y_o M ?_)
  intro a K
  refine wpList_nil (then_n (wp_seq (X_reg ?_)))
  obtain ⟨r6, h_r6, h⟩ := obind h
  refine X_a K (ac_call (vs := []) (cap := []) rfl fok36 K rfl rfl (W_darkslidelaw_lens N  _  r6 h_r6)) ?_
  have M0 := M; clear K M; rintro _ a w ⟨A4, c4, rfl, M⟩ K
  replace M := M0.call M; clear M0
  obtain ⟨r7, h_r7, h⟩ := obind h
  refine X_a K (ac_call (vs := [.slice A4 r6.length c4, .string (bs ([49, 49, 48, 49, 48] : List UInt8)), I 2]) (cap := []) rfl fok11 K rfl rfl (W_code_Read N r6 A4 c4 ([49, 49, 48, 49, 48] : List UInt8) 2 _ ((inR (C := (cI .i64)) 0 rfl rfl) _ M) (M.cap 0 rfl) r7 h_r7)) ?_
  have M0 := M; clear K M; rintro _ a w ⟨A5, c5, rfl, M⟩ K
  replace M := M0.call M; clear M0
  refine X_o K M ?_; clear K
  iterate 6 (refine Y_o M ?_)
  intro a K
  refine wpList_nil (then_n (wp_seq (X_reg ?_)))
  refine X_o K M ?_; clear K
  iterate 2 (refine Y_o M ?_)
  intro a K
  rcases Bool.eq_false_or_eq_true (decide (r3.2 = 0)) with hb | hb
  · have h := ctrue hb h
    have K := K.reb (s := 27) rfl hb
    refine X_o K M ?_; clear K
    iterate 3 (refine Y_o M ?_)
    intro a K
    rcases Bool.eq_false_or_eq_true (decide (r5.2 = 0)) with hb | hb
    · have h := ctrue hb h
      have K := K.reb (s := 31) rfl hb
      refine X_o K M ?_; clear K
      iterate 3 (refine Y_o M ?_)
      intro a K
      rcases Bool.eq_false_or_eq_true (decide (r7.2.2 = 0)) with hb | hb
      · have h := ctrue hb h
        have K := K.reb (s := 35) rfl hb
        refine X_o K M ?_; clear K
        refine Y_r (fun _ K => rd_len rfl un31 K rfl) M ?_
        iterate 3 (refine Y_o M ?_)
        intro a K
        rcases Bool.eq_false_or_eq_true (decide ((r3.1.length : Int) = 3)) with hb | hb
        · have h := ctrue hb h
          have K := K.reb (s := 40) rfl hb
          refine X_o K M ?_; clear K
          obtain ⟨e, h_e, h⟩ := obind h
          refine Y_r (fun _ K => rd_ix rfl sl31 K rfl rfl (inR (C := cS) 4 rfl rfl) h_e) M ?_
          refine Y_r (fun _ K => rd_elC rfl sc9 K rfl rfl (inR (C := cS) 4 rfl rfl) h_e rfl) M ?_
          refine Y_r (fun _ K => rd_eqlS rfl K rfl rfl) M ?_
          iterate 2 (refine Y_o M ?_)
          intro a K
          rcases Bool.eq_false_or_eq_true (decide (e = ([48] : List UInt8))) with hb | hb
          · have h := ctrue hb h
            have K := K.reb (s := 46) rfl hb
            refine X_o K M ?_; clear K
            obtain ⟨e2, h_e2, h⟩ := obind h
            refine Y_r (fun _ K => rd_ix rfl sl31 K rfl rfl (inR (C := cS) 4 rfl rfl) h_e2) M ?_
            refine Y_r (fun _ K => rd_elC rfl sc9 K rfl rfl (inR (C := cS) 4 rfl rfl) h_e2 rfl) M ?_
            refine Y_r (fun _ K => rd_eqlS rfl K rfl rfl) M ?_
            iterate 2 (refine Y_o M ?_)
            intro a K
            rcases Bool.eq_false_or_eq_true (decide (e2 = ([49, 48] : List UInt8))) with hb | hb
            · have h := ctrue hb h
              have K := K.reb (s := 52) rfl hb
              refine X_o K M ?_; clear K
              obtain ⟨e3, h_e3, h⟩ := obind h
              refine Y_r (fun _ K => rd_ix rfl sl31 K rfl rfl (inR (C := cS) 4 rfl rfl) h_e3) M ?_
              refine Y_r (fun _ K => rd_elC rfl sc9 K rfl rfl (inR (C := cS) 4 rfl rfl) h_e3 rfl) M ?_
              refine Y_r (fun _ K => rd_eqlS rfl K rfl rfl) M ?_
              iterate 2 (refine Y_o M ?_)
              intro a K
              rcases Bool.eq_false_or_eq_true (decide (e3 = ([49, 49] : List UInt8))) with hb | hb
              · have h := ctrue hb h
                have K := K.reb (s := 58) rfl hb
                refine X_o K M ?_; clear K
                refine Y_r (fun _ K => rd_eqlS rfl K rfl rfl) M ?_
                iterate 2 (refine Y_o M ?_)
                intro a K
                rcases Bool.eq_false_or_eq_true (decide (r5.1 = ([49, 49, 48, 49, 48] : List UInt8))) with hb | hb
                · have h := ctrue hb h
                  have K := K.reb (s := 62) rfl hb
                  refine X_o K M ?_; clear K; intro a K
                  refine X_a K (ac_bslice rfl sl22 z3 K (vs := [(0, I 2), (1, I 0)]) (cs := [I 2, I 0]) rfl (by kernel_rfl) rfl rfl M) ?_
                  have M0 := M; clear K M; rintro _ a w ⟨gs2, rfl, M⟩ K
                  replace M := M.asRow 0 rfl (cI .i64) ([2, 0] : List Int) (n := 2) rfl rfl rfl
                  clear M0
                  obtain ⟨r8, h_r8, h⟩ := obind h
                  refine X_a K (ac_call (vs := [.slice A5 r7.1.length c5, .slice (some ⟨gs2, 0, none⟩) ([2, 0] : List Int).length 2]) (cap := []) rfl fok14 K rfl rfl (W_darkslideref_SameInts N r7.1 A5 c5 ([2, 0] : List Int) (some ⟨gs2, 0, none⟩) 2 _ ((inR (C := (cI .i64)) 1 rfl rfl) _ M) (M.cap 1 rfl) ((inR (C := (cI .i64)) 0 rfl rfl) _ M) (M.cap 0 rfl) r8 h_r8)) ?_
                  have M0 := M; clear K M; rintro _ a w ⟨rfl, M⟩ K
                  replace M := M0.call M; clear M0
                  refine X_o K M ?_; clear K
                  refine Y_o M ?_; intro a K
                  rcases Bool.eq_false_or_eq_true (r8) with hb | hb
                  · have h := ctrue hb h
                    have K := K.reb (s := 67) rfl hb
                    refine X_o K M ?_; clear K
                    refine Y_r (fun _ K => rd_eqlS rfl K rfl rfl) M ?_
                    iterate 2 (refine Y_o M ?_)
                    intro a K
                    rcases Bool.eq_false_or_eq_true (decide (r7.2.1 = ([49, 48] : List UInt8))) with hb | hb
                    · have h := ctrue hb h
                      have K := K.reb (s := 71) rfl hb
                      refine X_a K (ac_bslice rfl sl22 z3 K (vs := [(0, I 1), (1, I 1), (2, I 1)]) (cs := [I 1, I 1, I 1]) rfl (by kernel_rfl) rfl rfl M) ?_
                      have M0 := M; clear K M; rintro _ a w ⟨gs3, rfl, M⟩ K
                      replace M := M.asRow 0 rfl (cI .i64) ([1, 1, 1] : List Int) (n := 3) rfl rfl rfl
                      clear M0
                      obtain ⟨r9, h_r9, h⟩ := obind h
                      refine X_a K (ac_call (vs := [.slice (some ⟨gs3, 0, none⟩) ([1, 1, 1] : List Int).length 3]) (cap := []) rfl fok37 K rfl rfl (W_code_Check N ([1, 1, 1] : List Int) (some ⟨gs3, 0, none⟩) 3 _ ((inR (C := (cI .i64)) 0 rfl rfl) _ M) (M.cap 0 rfl) r9 h_r9)) ?_
                      have M0 := M; clear K M; rintro _ a w ⟨rfl, M⟩ K
                      replace M := M0.call M; clear M0
                      refine X_o K M ?_; clear K
                      iterate 2 (refine Y_o M ?_)
                      intro a K
                      refine wpList_nil (then_n (wp_ret ?_))
                      cases h
                      exact ret1 K rfl (res_tmp K rfl) ⟨_, rfl, rfl, ((M).pick [] (by decide))⟩
                    have h := cfalse hb h
                    have K := K.reb (s := 71) rfl hb
                    refine X_o K M ?_; clear K
                    iterate 4 (refine Y_o M ?_)
                    intro a K
                    refine wpList_nil (then_n (wp_ret ?_))
                    cases h
                    exact ret1 K rfl (res_tmp K rfl) ⟨_, rfl, rfl, ((M).pick [] (by decide))⟩
                  have h := cfalse hb h
                  have K := K.reb (s := 67) rfl hb
                  refine X_o K M ?_; clear K
                  iterate 8 (refine Y_o M ?_)
                  intro a K
                  refine wpList_nil (then_n (wp_ret ?_))
                  cases h
                  exact ret1 K rfl (res_tmp K rfl) ⟨_, rfl, rfl, ((M).pick [] (by decide))⟩
                have h := cfalse hb h
                have K := K.reb (s := 62) rfl hb
                refine X_o K M ?_; clear K
                iterate 13 (refine Y_o M ?_)
                intro a K
                refine wpList_nil (then_n (wp_ret ?_))
                cases h
                exact ret1 K rfl (res_tmp K rfl) ⟨_, rfl, rfl, ((M).pick [] (by decide))⟩
              have h := cfalse hb h
              have K := K.reb (s := 58) rfl hb
              refine X_o K M ?_; clear K
              iterate 17 (refine Y_o M ?_)
              intro a K
              refine wpList_nil (then_n (wp_ret ?_))
              cases h
              exact ret1 K rfl (res_tmp K rfl) ⟨_, rfl, rfl, ((M).pick [] (by decide))⟩
            have h := cfalse hb h
            have K := K.reb (s := 52) rfl hb
            refine X_o K M ?_; clear K
            iterate 23 (refine Y_o M ?_)
            intro a K
            refine wpList_nil (then_n (wp_ret ?_))
            cases h
            exact ret1 K rfl (res_tmp K rfl) ⟨_, rfl, rfl, ((M).pick [] (by decide))⟩
          have h := cfalse hb h
          have K := K.reb (s := 46) rfl hb
          refine X_o K M ?_; clear K
          iterate 29 (refine Y_o M ?_)
          intro a K
          refine wpList_nil (then_n (wp_ret ?_))
          cases h
          exact ret1 K rfl (res_tmp K rfl) ⟨_, rfl, rfl, ((M).pick [] (by decide))⟩
        have h := cfalse hb h
        have K := K.reb (s := 40) rfl hb
        refine X_o K M ?_; clear K
        iterate 35 (refine Y_o M ?_)
        intro a K
        refine wpList_nil (then_n (wp_ret ?_))
        cases h
        exact ret1 K rfl (res_tmp K rfl) ⟨_, rfl, rfl, ((M).pick [] (by decide))⟩
      have h := cfalse hb h
      have K := K.reb (s := 35) rfl hb
      refine X_o K M ?_; clear K
      iterate 40 (refine Y_o M ?_)
      intro a K
      refine wpList_nil (then_n (wp_ret ?_))
      cases h
      exact ret1 K rfl (res_tmp K rfl) ⟨_, rfl, rfl, ((M).pick [] (by decide))⟩
    have h := cfalse hb h
    have K := K.reb (s := 31) rfl hb
    refine X_o K M ?_; clear K
    iterate 44 (refine Y_o M ?_)
    intro a K
    refine wpList_nil (then_n (wp_ret ?_))
    cases h
    exact ret1 K rfl (res_tmp K rfl) ⟨_, rfl, rfl, ((M).pick [] (by decide))⟩
  have h := cfalse hb h
  have K := K.reb (s := 27) rfl hb
  refine X_o K M ?_; clear K
  iterate 48 (refine Y_o M ?_)
  intro a K
  refine wpList_nil (then_n (wp_ret ?_))
  cases h
  exact ret1 K rfl (res_tmp K rfl) ⟨_, rfl, rfl, ((M).pick [] (by decide))⟩
end Go.Proofs.YtpmnfhifmmfglacDoor

namespace Go.Proofs.YtpmnfhifmmfglacDoor
open Go.RowKit
set_option maxRecDepth 100000 in
set_option maxHeartbeats 4000000 in
theorem W_darkslideref_within (N : Nat) (n : Int) (low : Int) (high : Int) (w0 : World)  (r : Bool) (h : D_darkslideref_within N n low high = some r) :
    Calls Tryd.prog 34 #[I n, I low, I high] w0 fun e w' => ∃ v, e = .returned v ∧ v = .bool r ∧ Mem w0.heap.size w0 w' [] := by
  refine X_enter Tryd.func34 rfl Tryd.ntmps34 rfl ?_
  intro a K
  have M := Mem.start w0
  have K : Kn a 15 [(0, I n), (1, I low), (2, I high)] := K
  unfold D_darkslideref_within at h
  refine wp_seq (X_reg ?_)
  refine X_o K M ?_; clear K; intro a K
  refine wpList_nil (then_n (wp_seq (X_reg ?_)))
  refine X_o K M ?_; clear K
  iterate 3 (refine Y_o M ?_)
  intro a K
  rcases Bool.eq_false_or_eq_true (decide (low ≤ n)) with hb | hb
  · have h := ctrue hb h
    have K := K.reb (s := 10) rfl hb
    refine X_o K M ?_; clear K
    iterate 4 (refine Y_o M ?_)
    intro a K
    refine wpList_nil (then_n (wp_ret ?_))
    cases h
    exact ret1 K rfl (res_tmp K rfl) ⟨_, rfl, rfl, ((M).pick [] (by decide))⟩
  have h := cfalse hb h
  have K := K.reb (s := 10) rfl hb
  refine X_o K M ?_; clear K
  iterate 4 (refine Y_o M ?_)
  intro a K
  refine wpList_nil (then_n (wp_ret ?_))
  cases h
  exact ret1 K rfl (res_tmp K rfl) ⟨_, rfl, rfl, ((M).pick [] (by decide))⟩
end Go.Proofs.YtpmnfhifmmfglacDoor

namespace Go.Proofs.YtpmnfhifmmfglacDoor
open Go.RowKit
set_option maxRecDepth 100000 in
set_option maxHeartbeats 4000000 in
theorem W_darkslideref_CheckCode (N : Nat) (lens : List Int) (A_lens : Option Addr) (c_lens : Nat) (w0 : World) (R_lens : SL w0 (cI .i64) A_lens lens) (C_lens : lens.length ≤ c_lens) (r : Int) (h : D_darkslideref_CheckCode N lens = some r) :
    Calls Tryd.prog 29 #[.slice A_lens lens.length c_lens] w0 fun e w' => ∃ v, e = .returned v ∧ v = I r ∧ Mem w0.heap.size w0 w' [] := by
  refine X_enter Tryd.func29 rfl Tryd.ntmps29 rfl ?_
  intro a K
  have M := Mem.start w0
  have K : Kn a 41 [(0, .slice A_lens lens.length c_lens)] := K
  unfold D_darkslideref_CheckCode at h
  refine wp_seq (X_reg ?_)
  refine X_o K M ?_; clear K; intro a K
  refine wpList_nil (then_n (wp_seq (wp_seq (X_reg ?_))))
  refine X_o K M ?_; clear K
  refine Y_r (fun _ K => rd_len rfl un22 K rfl) M ?_; intro a K
  obtain ⟨r2, h_r2, h⟩ := obind h
  refine X_a K (ac_call (vs := [I (lens.length : Int), I 1, I 17]) (cap := []) rfl fok34 K rfl rfl (W_darkslideref_within N (lens.length : Int) 1 17 _  r2 h_r2)) ?_
  have M0 := M; clear K M; rintro _ a w ⟨rfl, M⟩ K
  replace M := M0.call M; clear M0
  refine X_o K M ?_; clear K; intro a K
  refine wpList_nil (then_n ?_)
  refine X_cond K rfl (fun hb => ?_) (fun hb => ?_)
  · have h := ctrue hb h
    refine wp_seq (X_reg ?_)
    refine X_o K M ?_; clear K; intro a K
    refine wpList_nil (then_n (wp_ret (then_r ?_)))
    cases h
    exact ret1 K rfl (res_tmp K rfl) ⟨_, rfl, rfl, ((M).pick [] (by decide))⟩
  have h := cfalse hb h
  refine wp_skip (then_n (wp_seq (X_reg ?_)))
  refine X_o K M ?_; clear K
  refine Y_o M ?_; intro a K
  refine wpList_nil (then_n (wp_seq (wp_seq (X_reg ?_))))
  refine X_o K M ?_; clear K; intro a K
  refine wpList_nil (then_n (wp_block ?_))
  refine X_lp (id := 0) (Rel := fun (⟨sum, used, i⟩ : Int × Bool × Int) a w => Kn a 41 [(0, .slice A_lens lens.length c_lens), (3, I sum), (4, .bool used), (5, I i)] ∧ Mem w0.heap.size w0 w []) h (fun _ _ => rfl) ⟨K.pick [0,3,4,5], M.pick [] (by decide)⟩ ?_ ?_
  · clear K M h
    rintro ⟨sum4, used2, i6⟩ a w ⟨K, M⟩ h
    try dsimp only at h
    refine inb_e ?_
    refine then_n (wp_seq (wp_seq (X_reg ?_)))
    refine X_o K M ?_; clear K
    iterate 2 (refine Y_o M ?_)
    intro a K
    rcases Bool.eq_false_or_eq_true (!(used2)) with hb | hb
    · have h := ctrue hb h
      have K := K.reb (s := 37) rfl hb
      refine X_o K M ?_; clear K
      iterate 2 (refine Y_o M ?_)
      intro a K
      refine wpList_nil (then_n ?_)
      refine X_condT K rfl ?_
      refine wp_seq (X_reg ?_)
      refine X_o K M ?_; clear K; intro a K
      refine wpList_nil (then_n (wp_ret (then_r ?_)))
      cases h
      exact ret1 K rfl (res_tmp K rfl) ⟨_, rfl, rfl, ((M).pick [] (by decide))⟩
    have h := cfalse hb h
    have K := K.reb (s := 37) rfl hb
    refine X_o K M ?_; clear K
    iterate 2 (refine Y_o M ?_)
    intro a K
    refine wpList_nil (then_n ?_)
    refine X_cond K rfl (fun hb => ?_) (fun hb => ?_)
    · have h := ctrue hb h
      refine wp_seq (X_reg ?_)
      refine X_o K M ?_; clear K; intro a K
      refine wpList_nil (then_n (wp_ret (then_r ?_)))
      cases h
      exact ret1 K rfl (res_tmp K rfl) ⟨_, rfl, rfl, ((M).pick [] (by decide))⟩
    have h := cfalse hb h
    refine wp_skip (then_n (wp_seq (X_reg ?_)))
    refine X_o K M ?_; clear K; intro a K
    refine wpList_nil (then_n (wp_ret ?_))
    cases h
    exact ret1 K rfl (res_tmp K rfl) ⟨_, rfl, rfl, ((M).pick [] (by decide))⟩
  clear K M h
  rintro kk fuel ⟨sum, used, i⟩ a w hk1 ⟨K, M⟩ h
  unfold D_darkslideref_CheckCode_l1 at h
  refine wp_seq (wp_seq (X_reg ?_))
  refine X_o K M ?_; clear K
  refine Y_o M ?_
  refine Y_r (fun _ K => rd_len rfl un22 K rfl) M ?_
  refine Y_o M ?_; intro a K
  refine wpList_nil (then_n ?_)
  refine X_cond K rfl (fun hb => ?_) (fun hb => ?_)
  · have h := ctrue hb h
    refine wp_skip (then_n (wp_seq (wp_block (wp_seq (wp_seq (X_reg ?_))))))
    refine X_o K M ?_; clear K
    refine Y_o M ?_
    obtain ⟨e4, h_e4, h⟩ := obind h
    refine Y_r (fun _ K => rd_ix rfl sl22 K rfl rfl (inA R_lens) h_e4) M ?_
    refine Y_r (fun _ K => rd_elC rfl sc3 K rfl rfl (inA R_lens) h_e4 rfl) M ?_; intro a K
    obtain ⟨r4, h_r4, h⟩ := obind h
    refine X_a K (ac_call (vs := [I e4, I 0, I 15]) (cap := []) rfl fok34 K rfl rfl (W_darkslideref_within N e4 0 15 _  r4 h_r4)) ?_
    have M0 := M; clear K M; rintro _ a w ⟨rfl, M⟩ K
    replace M := M0.call M; clear M0
    refine X_o K M ?_; clear K; intro a K
    refine wpList_nil (then_n ?_)
    refine X_cond K rfl (fun hb => ?_) (fun hb => ?_)
    · have h := ctrue hb h
      refine wp_seq (X_reg ?_)
      refine X_o K M ?_; clear K; intro a K
      refine wpList_nil (then_n (wp_ret (then_r (inb_r (then_r (then_r (inb_r (then_r ?_))))))))
      cases h
      exact ret1 K rfl (res_tmp K rfl) ⟨_, rfl, rfl, ((M).pick [] (by decide))⟩
    have h := cfalse hb h
    refine wp_skip (then_n (wp_seq (X_reg ?_)))
    refine X_o K M ?_; clear K
    refine Y_o M ?_
    obtain ⟨e5, h_e5, h⟩ := obind h
    refine Y_r (fun _ K => rd_ix rfl sl22 K rfl rfl (inA R_lens) h_e5) M ?_
    refine Y_r (fun _ K => rd_elC rfl sc3 K rfl rfl (inA R_lens) h_e5 rfl) M ?_
    refine Y_o M ?_; intro a K
    refine wpList_nil (then_n ?_)
    refine X_cond K rfl (fun hb => ?_) (fun hb => ?_)
    · have h := ctrue hb h
      refine wp_seq (X_reg ?_)
      refine X_o K M ?_; clear K; intro a K
      refine wpList_nil (then_n (X_reg ?_))
      refine X_o K M ?_; clear K
      iterate 2 (refine Y_o M ?_)
      obtain ⟨e6, h_e6, h⟩ := obind h
      refine Y_r (fun _ K => rd_ix rfl sl22 K rfl rfl (inA R_lens) h_e6) M ?_
      refine Y_r (fun _ K => rd_elC rfl sc3 K rfl rfl (inA R_lens) h_e6 rfl) M ?_
      refine Y_o M ?_; intro a K
      obtain ⟨_, h0, h⟩ := obind h
      have h0 := nn_spec h0
      refine X_r K (rd_shl rfl K rfl rfl h0) M ?_; clear K
      refine Y_o M ?_
      obtain ⟨sum3, hx, h⟩ := olet h
      refine Y_r (fun _ K => rdi hx (rd_assign rfl K rfl)) M ?_; intro a K
      refine wpList_nil (inb_n (then_n (X_reg ?_)))
      refine X_o K M ?_; clear K
      refine Y_o M ?_
      obtain ⟨i4, hx, h⟩ := olet h
      refine Y_r (fun _ K => rdi hx (rd_assign rfl K rfl)) M ?_; intro a K
      refine wpList_nil ?_
      exact then_n ⟨(sum3, true, i4), ⟨K.pick [0,3,4,5], M.pick [] (by decide)⟩, h⟩
    have h := cfalse hb h
    refine wp_skip (inb_n (then_n (X_reg ?_)))
    refine X_o K M ?_; clear K
    refine Y_o M ?_
    obtain ⟨i5, hx, h⟩ := olet h
    refine Y_r (fun _ K => rdi hx (rd_assign rfl K rfl)) M ?_; intro a K
    refine wpList_nil ?_
    exact then_n ⟨(sum, used, i5), ⟨K.pick [0,3,4,5], M.pick [] (by decide)⟩, h⟩
  have h := cfalse hb h
  refine wp_exit ?_
  refine then_e ?_
  exact then_e (hk1 (sum, used, i) _ _ ⟨K.pick [0,3,4,5], M.pick [] (by decide)⟩ h)
end Go.Proofs.YtpmnfhifmmfglacDoor

namespace Go.Proofs.YtpmnfhifmmfglacDoor
open Go.RowKit
set_option maxRecDepth 100000 in
set_option maxHeartbeats 4000000 in
theorem W_darkslideref_begins (N : Nat) (s : List UInt8) (with2 : List UInt8) (w0 : World)  (r : Bool) (h : D_darkslideref_begins N s with2 = some r) :
    Calls Tryd.prog 63 #[.string (bs s), .string (bs with2)] w0 fun e w' => ∃ v, e = .returned v ∧ v = .bool r ∧ Mem w0.heap.size w0 w' [] := by
  refine X_enter Tryd.func63 rfl Tryd.ntmps63 rfl ?_
  intro a K
  have M := Mem.start w0
  have K : Kn a 18 [(0, .string (bs s)), (1, .string (bs with2))] := K
  unfold D_darkslideref_begins at h
  refine wp_seq (X_reg ?_)
  refine X_o K M ?_; clear K; intro a K
  refine wpList_nil (then_n (wp_seq (X_reg ?_)))
  refine X_o K M ?_; clear K
  refine Y_r (fun _ K => rd_lenT rfl st9 K rfl) M ?_
  refine Y_o M ?_
  refine Y_r (fun _ K => rd_lenT rfl st9 K rfl) M ?_
  iterate 2 (refine Y_o M ?_)
  intro a K
  rcases Bool.eq_false_or_eq_true (decide ((with2.length : Int) ≤ (s.length : Int))) with hb | hb
  · have h := ctrue hb h
    have K := K.reb (s := 10) rfl hb
    refine X_o K M ?_; clear K
    refine Y_o M ?_
    refine Y_r (fun _ K => rd_lenT rfl st9 K rfl) M ?_
    obtain ⟨s2, h_s2, h⟩ := obind h
    refine Y_r (fun _ K => rd_sliceS (k := .i64) (k' := .i64) rfl st9 K rfl rfl rfl h_s2) M ?_
    refine Y_o M ?_
    refine Y_r (fun _ K => rd_eqlS rfl K rfl rfl) M ?_
    iterate 2 (refine Y_o M ?_)
    intro a K
    refine wpList_nil (then_n (wp_ret ?_))
    cases h
    exact ret1 K rfl (res_tmp K rfl) ⟨_, rfl, rfl, ((M).pick [] (by decide))⟩
  have h := cfalse hb h
  have K := K.reb (s := 10) rfl hb
  refine X_o K M ?_; clear K
  iterate 7 (refine Y_o M ?_)
  intro a K
  refine wpList_nil (then_n (wp_ret ?_))
  cases h
  exact ret1 K rfl (res_tmp K rfl) ⟨_, rfl, rfl, ((M).pick [] (by decide))⟩
end Go.Proofs.YtpmnfhifmmfglacDoor

namespace Go.Proofs.YtpmnfhifmmfglacDoor
open Go.RowKit
set_option maxRecDepth 100000 in
set_option maxHeartbeats 4000000 in
theorem W_darkslideref_front (N : Nat) (w2 : List (List UInt8)) (A_w2 : Option Addr) (c_w2 : Nat) (b : List UInt8) (w0 : World) (R_w2 : SL w0 cS A_w2 w2) (C_w2 : w2.length ≤ c_w2) (r : Int × Int) (h : D_darkslideref_front N w2 b = some r) :
    Calls Tryd.prog 35 #[.slice A_w2 w2.length c_w2, .string (bs b)] w0 fun e w' => ∃ v, e = .returned v ∧ v = .tuple #[I r.1, I r.2] ∧ Mem w0.heap.size w0 w' [] := by
  refine X_enter Tryd.func35 rfl Tryd.ntmps35 rfl ?_
  intro a K
  have M := Mem.start w0
  have K : Kn a 36 [(0, .slice A_w2 w2.length c_w2), (1, .string (bs b))] := K
  unfold D_darkslideref_front at h
  refine wp_seq (X_reg ?_)
  refine X_o K M ?_; clear K
  refine Y_o M ?_; intro a K
  refine wpList_nil (then_n (wp_seq (X_reg ?_)))
  refine X_o K M ?_; clear K; intro a K
  refine wpList_nil (then_n (wp_seq (wp_seq (X_reg ?_))))
  refine X_o K M ?_; clear K; intro a K
  refine wpList_nil (then_n (wp_block ?_))
  refine X_lp (id := 0) (Rel := fun (⟨short, i⟩ : Bool × Int) a w => Kn a 36 [(0, .slice A_w2 w2.length c_w2), (1, .string (bs b)), (6, .bool short), (7, I i)] ∧ Mem w0.heap.size w0 w []) h (fun _ _ => rfl) ⟨K.pick [0,1,6,7], M.pick [] (by decide)⟩ ?_ ?_
  · clear K M h
    rintro ⟨short2, i8⟩ a w ⟨K, M⟩ h
    try dsimp only at h
    refine inb_e ?_
    refine then_n (wp_seq (wp_seq (X_reg ?_)))
    refine X_o K M ?_; clear K; intro a K
    refine wpList_nil (then_n ?_)
    refine X_cond K rfl (fun hb => ?_) (fun hb => ?_)
    · have h := ctrue hb h
      refine wp_seq (X_reg ?_)
      refine X_o K M ?_; clear K
      refine Y_o M ?_; intro a K
      refine wpList_nil (then_n (wp_ret (then_r ?_)))
      cases h
      exact ret2 K rfl (res_tmp K rfl) (res_tmp K rfl) ⟨_, rfl, rfl, ((M).pick [] (by decide))⟩
    have h := cfalse hb h
    refine wp_skip (then_n (wp_seq (X_reg ?_)))
    refine X_o K M ?_; clear K
    refine Y_o M ?_; intro a K
    refine wpList_nil (then_n (wp_ret ?_))
    cases h
    exact ret2 K rfl (res_tmp K rfl) (res_tmp K rfl) ⟨_, rfl, rfl, ((M).pick [] (by decide))⟩
  clear K M h
  rintro kk fuel ⟨short, i⟩ a w hk1 ⟨K, M⟩ h
  unfold D_darkslideref_front_l1 at h
  refine wp_seq (wp_seq (X_reg ?_))
  refine X_o K M ?_; clear K
  refine Y_o M ?_
  refine Y_r (fun _ K => rd_len rfl un31 K rfl) M ?_
  refine Y_o M ?_; intro a K
  refine wpList_nil (then_n ?_)
  refine X_cond K rfl (fun hb => ?_) (fun hb => ?_)
  · have h := ctrue hb h
    refine wp_skip (then_n (wp_seq (wp_block (wp_seq (wp_seq (X_reg ?_))))))
    refine X_o K M ?_; clear K
    refine Y_o M ?_
    obtain ⟨e4, h_e4, h⟩ := obind h
    refine Y_r (fun _ K => rd_ix rfl sl31 K rfl rfl (inA R_w2) h_e4) M ?_
    refine Y_r (fun _ K => rd_elC rfl sc9 K rfl rfl (inA R_w2) h_e4 rfl) M ?_
    refine Y_r (fun _ K => rd_eqlS rfl K rfl rfl) M ?_; intro a K
    refine wpList_nil (then_n ?_)
    refine X_cond K rfl (fun hb => ?_) (fun hb => ?_)
    · have h := ctrue hb h
      refine wp_exit ?_
      refine then_e ?_
      refine inb_e ?_
      refine then_n (X_reg ?_)
      refine X_o K M ?_; clear K
      refine Y_o M ?_
      obtain ⟨i5, hx, h⟩ := olet h
      refine Y_r (fun _ K => rdi hx (rd_assign rfl K rfl)) M ?_; intro a K
      refine wpList_nil ?_
      exact then_n ⟨(short, i5), ⟨K.pick [0,1,6,7], M.pick [] (by decide)⟩, h⟩
    have h := cfalse hb h
    refine wp_skip (then_n (wp_seq (wp_seq (X_reg ?_))))
    refine X_o K M ?_; clear K
    iterate 2 (refine Y_o M ?_)
    obtain ⟨e5, h_e5, h⟩ := obind h
    refine Y_r (fun _ K => rd_ix rfl sl31 K rfl rfl (inA R_w2) h_e5) M ?_
    refine Y_r (fun _ K => rd_elC rfl sc9 K rfl rfl (inA R_w2) h_e5 rfl) M ?_; intro a K
    obtain ⟨r4, h_r4, h⟩ := obind h
    refine X_a K (ac_call (vs := [.string (bs b), .string (bs e5)]) (cap := []) rfl fok63 K rfl rfl (W_darkslideref_begins N b e5 _  r4 h_r4)) ?_
    have M0 := M; clear K M; rintro _ a w ⟨rfl, M⟩ K
    replace M := M0.call M; clear M0
    refine wpList_nil (then_n ?_)
    refine X_cond K rfl (fun hb => ?_) (fun hb => ?_)
    · have h := ctrue hb h
      refine wp_seq (X_reg ?_)
      refine X_o K M ?_; clear K
      iterate 2 (refine Y_o M ?_)
      intro a K
      refine wpList_nil (then_n (wp_ret (then_r (inb_r (then_r (then_r (inb_r (then_r ?_))))))))
      cases h
      exact ret2 K rfl (res_tmp K rfl) (res_tmp K rfl) ⟨_, rfl, rfl, ((M).pick [] (by decide))⟩
    have h := cfalse hb h
    refine wp_skip (then_n (X_reg ?_))
    refine X_o K M ?_; clear K
    refine Y_o M ?_; intro a K
    rcases Bool.eq_false_or_eq_true (short) with hb | hb
    · have h := ctrue hb h
      have K := K.reb (s := 27) rfl hb
      refine X_o K M ?_; clear K
      iterate 7 (refine Y_o M ?_)
      intro a K
      refine wpList_nil (inb_n (then_n (X_reg ?_)))
      refine X_o K M ?_; clear K
      refine Y_o M ?_
      obtain ⟨i6, hx, h⟩ := olet h
      refine Y_r (fun _ K => rdi hx (rd_assign rfl K rfl)) M ?_; intro a K
      refine wpList_nil ?_
      exact then_n ⟨(true, i6), ⟨K.pick [0,1,6,7], M.pick [] (by decide)⟩, h⟩
    have h := cfalse hb h
    have K := K.reb (s := 27) rfl hb
    refine X_o K M ?_; clear K
    refine Y_o M ?_
    obtain ⟨e6, h_e6, h⟩ := obind h
    refine Y_r (fun _ K => rd_ix rfl sl31 K rfl rfl (inA R_w2) h_e6) M ?_
    refine Y_r (fun _ K => rd_elC rfl sc9 K rfl rfl (inA R_w2) h_e6 rfl) M ?_
    refine Y_o M ?_; intro a K
    obtain ⟨r5, h_r5, h⟩ := obind h
    refine X_a K (ac_call (vs := [.string (bs e6), .string (bs b)]) (cap := []) rfl fok63 K rfl rfl (W_darkslideref_begins N e6 b _  r5 h_r5)) ?_
    have M0 := M; clear K M; rintro _ a w ⟨rfl, M⟩ K
    replace M := M0.call M; clear M0
    refine X_o K M ?_; clear K
    refine Y_o M ?_; intro a K
    refine wpList_nil (inb_n (then_n (X_reg ?_)))
    refine X_o K M ?_; clear K
    refine Y_o M ?_
    obtain ⟨i7, hx, h⟩ := olet h
    refine Y_r (fun _ K => rdi hx (rd_assign rfl K rfl)) M ?_; intro a K
    refine wpList_nil ?_
    exact then_n ⟨(r5, i7), ⟨K.pick [0,1,6,7], M.pick [] (by decide)⟩, h⟩
  have h := cfalse hb h
  refine wp_exit ?_
  refine then_e ?_
  exact then_e (hk1 (short, i) _ _ ⟨K.pick [0,1,6,7], M.pick [] (by decide)⟩ h)
end Go.Proofs.YtpmnfhifmmfglacDoor

namespace Go.Proofs.YtpmnfhifmmfglacDoor
open Go.RowKit
set_option maxRecDepth 100000 in
set_option maxHeartbeats 4000000 in
theorem W_darkslideref_IsRow (N : Nat) (b : List UInt8) (w0 : World)  (r : Bool) (h : D_darkslideref_IsRow N b = some r) :
    Calls Tryd.prog 17 #[.string (bs b)] w0 fun e w' => ∃ v, e = .returned v ∧ v = .bool r ∧ Mem w0.heap.size w0 w' [] := by
  refine X_enter Tryd.func17 rfl Tryd.ntmps17 rfl ?_
  intro a K
  have M := Mem.start w0
  have K : Kn a 20 [(0, .string (bs b))] := K
  unfold D_darkslideref_IsRow at h
  refine wp_seq (X_reg ?_)
  refine X_o K M ?_; clear K; intro a K
  refine wpList_nil (then_n (wp_seq (wp_seq (X_reg ?_))))
  refine X_o K M ?_; clear K; intro a K
  refine wpList_nil (then_n (wp_block ?_))
  refine X_lp (id := 0) (Rel := fun (i : Int) a w => Kn a 20 [(0, .string (bs b)), (3, I i)] ∧ Mem w0.heap.size w0 w []) h (fun _ _ => rfl) ⟨K.pick [0,3], M.pick [] (by decide)⟩ ?_ ?_
  · clear K M h
    rintro i6 a w ⟨K, M⟩ h
    try dsimp only at h
    refine inb_e ?_
    refine then_n (wp_seq (X_reg ?_))
    refine X_o K M ?_; clear K; intro a K
    refine wpList_nil (then_n (wp_ret ?_))
    cases h
    exact ret1 K rfl (res_tmp K rfl) ⟨_, rfl, rfl, ((M).pick [] (by decide))⟩
  clear K M h
  rintro kk fuel i a w hk1 ⟨K, M⟩ h
  unfold D_darkslideref_IsRow_l1 at h
  refine wp_seq (wp_seq (X_reg ?_))
  refine X_o K M ?_; clear K
  refine Y_o M ?_
  refine Y_r (fun _ K => rd_lenT rfl st9 K rfl) M ?_
  refine Y_o M ?_; intro a K
  refine wpList_nil (then_n ?_)
  refine X_cond K rfl (fun hb => ?_) (fun hb => ?_)
  · have h := ctrue hb h
    refine wp_skip (then_n (wp_seq (wp_block (wp_seq (X_reg ?_)))))
    refine X_o K M ?_; clear K
    refine Y_o M ?_
    obtain ⟨b4, h_b4, h⟩ := obind h
    refine Y_r (fun _ K => rd_ixT rfl st9 K rfl rfl h_b4) M ?_
    iterate 2 (refine Y_o M ?_)
    intro a K
    rcases Bool.eq_false_or_eq_true (!decide ((b4.toNat : Int) = 48)) with hb | hb
    · have h := ctrue hb h
      have K := K.reb (s := 14) rfl hb
      refine X_o K M ?_; clear K
      refine Y_o M ?_
      obtain ⟨b5, h_b5, h⟩ := obind h
      refine Y_r (fun _ K => rd_ixT rfl st9 K rfl rfl h_b5) M ?_
      iterate 2 (refine Y_o M ?_)
      intro a K
      refine wpList_nil (then_n ?_)
      refine X_cond K rfl (fun hb => ?_) (fun hb => ?_)
      · have h := ctrue hb h
        refine wp_seq (X_reg ?_)
        refine X_o K M ?_; clear K; intro a K
        refine wpList_nil (then_n (wp_ret (inb_r (then_r (then_r (inb_r (then_r ?_)))))))
        cases h
        exact ret1 K rfl (res_tmp K rfl) ⟨_, rfl, rfl, ((M).pick [] (by decide))⟩
      have h := cfalse hb h
      refine wp_skip (inb_n (then_n (X_reg ?_)))
      refine X_o K M ?_; clear K
      refine Y_o M ?_
      obtain ⟨i4, hx, h⟩ := olet h
      refine Y_r (fun _ K => rdi hx (rd_assign rfl K rfl)) M ?_; intro a K
      refine wpList_nil ?_
      exact then_n ⟨i4, ⟨K.pick [0,3], M.pick [] (by decide)⟩, h⟩
    have h := cfalse hb h
    have K := K.reb (s := 14) rfl hb
    refine X_o K M ?_; clear K
    iterate 4 (refine Y_o M ?_)
    intro a K
    refine wpList_nil (then_n ?_)
    refine X_condF K rfl ?_
    refine wp_skip (inb_n (then_n (X_reg ?_)))
    refine X_o K M ?_; clear K
    refine Y_o M ?_
    obtain ⟨i5, hx, h⟩ := olet h
    refine Y_r (fun _ K => rdi hx (rd_assign rfl K rfl)) M ?_; intro a K
    refine wpList_nil ?_
    exact then_n ⟨i5, ⟨K.pick [0,3], M.pick [] (by decide)⟩, h⟩
  have h := cfalse hb h
  refine wp_exit ?_
  refine then_e ?_
  exact then_e (hk1 i _ _ ⟨K.pick [0,3], M.pick [] (by decide)⟩ h)
end Go.Proofs.YtpmnfhifmmfglacDoor

namespace Go.Proofs.YtpmnfhifmmfglacDoor
open Go.RowKit
set_option maxRecDepth 100000 in
set_option maxHeartbeats 4000000 in
theorem W_darkslideref_Number_r (N : Nat) : ∀ (fu : Nat) (n : Int) (size : Int) (w0 : World)  (r : List UInt8) (h : D_darkslideref_Number_r N fu n size = some r),
    Calls Tryd.prog 61 #[I n, I size] w0 fun e w' => ∃ v, e = .returned v ∧ v = .string (bs r) ∧ Mem w0.heap.size w0 w' [] := by
  intro fu
  induction fu with
  | zero => intros; rename_i h; unfold D_darkslideref_Number_r at h; cases h
  | succ fu ih =>
    intro n size w0 r h
    refine X_enter Tryd.func61 rfl Tryd.ntmps61 rfl ?_
    intro a K
    have M := Mem.start w0
    have K : Kn a 19 [(0, I n), (1, I size)] := K
    unfold D_darkslideref_Number_r at h
    refine wp_seq (X_reg ?_)
    refine X_o K M ?_; clear K; intro a K
    refine wpList_nil (then_n (wp_seq (wp_seq (X_reg ?_))))
    refine X_o K M ?_; clear K
    refine Y_o M ?_; intro a K
    refine wpList_nil (then_n ?_)
    refine X_cond K rfl (fun hb => ?_) (fun hb => ?_)
    · have h := ctrue hb h
      refine wp_seq (X_reg ?_)
      refine X_o K M ?_; clear K; intro a K
      refine wpList_nil (then_n (wp_ret (then_r ?_)))
      cases h
      exact ret1 K rfl (res_tmp K rfl) ⟨_, rfl, rfl, ((M).pick [] (by decide))⟩
    have h := cfalse hb h
    refine wp_skip (then_n (wp_seq ?_))
    refine wp_region_tr (fun w => Mem _ _ w _) [0,0,0,0,1,0,0,0,0,1,1,0,0] 13 [0,1,2,3,4,5,6,7,8,9,10,11,12] (by kernel_rfl) (by kernel_rfl) (by kernel_rfl) rfl M.drew ?_
    replace M := M.drew
    refine R_rd 0 [1,2,3,4,5,6,7,8,9,10,11,12] (by kernel_rfl) rfl K (want_no rfl) rfl rfl (rd_move rfl K rfl) ?_; clear K; intro a K
    refine R_rd 1 [2,3,4,5,6,7,8,9,10,11,12] (by kernel_rfl) rfl K (want_no rfl) rfl rfl (rd_quo rfl K rfl rfl (by decide)) ?_; clear K; intro a K
    refine R_rd 2 [3,4,5,6,7,8,9,10,11,12] (by kernel_rfl) rfl K (want_no rfl) rfl rfl (rd_move rfl K rfl) ?_; clear K; intro a K
    refine R_rd 3 [4,5,6,7,8,9,10,11,12] (by kernel_rfl) rfl K (want_no rfl) rfl rfl (rd_sub rfl K rfl rfl) ?_; clear K; intro a K
    refine R_rd 5 [4,6,7,8,9,10,11,12] (by kernel_rfl) rfl K (want_no rfl) rfl rfl (rd_move rfl K rfl) ?_; clear K; intro a K
    refine R_rd 6 [4,7,8,9,10,11,12] (by kernel_rfl) rfl K (want_no rfl) rfl rfl (rd_rem rfl K rfl rfl (by decide)) ?_; clear K; intro a K
    refine R_rd 7 [4,8,9,10,11,12] (by kernel_rfl) rfl K (want_no rfl) rfl rfl (rd_conv rfl rfl ik5 K rfl) ?_; clear K; intro a K
    refine R_rd 8 [4,9,10,11,12] (by kernel_rfl) rfl K (want_no rfl) rfl rfl (rd_add rfl K rfl rfl) ?_; clear K; intro a K
    refine R_br [4,9] (by kernel_rfl) ⟨?_, ?_, trivial⟩
    ·
      obtain ⟨r2, h_r2, h⟩ := obind h
      refine R_ac [9,10,11,12] (by kernel_rfl) rfl K (want_no rfl) rfl rfl (ac_call (vs := [I (IntKind.i64.wrap (Int.tdiv n 2)), I (IntKind.i64.wrap (size - 1))]) (cap := []) rfl fok61 K rfl rfl (ih (IntKind.i64.wrap (Int.tdiv n 2)) (IntKind.i64.wrap (size - 1)) _  r2 h_r2)) ?_
      have M0 := M; clear K M; rintro _ a w ⟨rfl, M⟩ K
      replace M := M0.call M; clear M0
      refine ⟨fun _ => M.pick [] (by decide), ?_⟩
      refine R_br [9] (by kernel_rfl) ⟨?_, trivial⟩
      refine R_ac [10,11,12] (by kernel_rfl) rfl K (want_no rfl) rfl rfl (ac_bslice rfl sl52 z5 K (vs := [(0, .int .u8 (IntKind.u8.wrap (48 + (IntKind.u8.wrap (Int.tmod n 2)))))]) (cs := [.int .u8 (IntKind.u8.wrap (48 + (IntKind.u8.wrap (Int.tmod n 2))))]) rfl (by kernel_rfl) rfl rfl M) ?_
      have M0 := M; clear K M; rintro _ a w ⟨gs, rfl, M⟩ K
      replace M := M.asRow 0 rfl (cI .u8) ([IntKind.u8.wrap (48 + (IntKind.u8.wrap (Int.tmod n 2)))] : List Int) (n := 1) rfl rfl rfl
      clear M0
      refine ⟨fun _ => M.pick [] (by decide), ?_⟩
      refine R_br [10] (by kernel_rfl) ⟨?_, trivial⟩
      refine R_ac [11,12] (by kernel_rfl) rfl K (want_no rfl) rfl rfl (ac_convBS rfl sl52 ik5 st9 K rfl M ((inR (C := (cI .u8)) 0 rfl rfl) _ M)) ?_
      clear K M; rintro _ a w ⟨rfl, M⟩ K
      refine ⟨fun _ => M.pick [] (by decide), ?_⟩
      obtain ⟨s, h_s, h⟩ := obind h
      refine R_rd 11 [12] (by kernel_rfl) rfl K (want_no rfl) rfl rfl (rd_addS rfl K rfl rfl h_s) ?_; clear K; intro a K
      refine R_rd 12 [] (by kernel_rfl) rfl K (want_no rfl) rfl rfl (rd_assign rfl K rfl) ?_; clear K; intro a K
      refine R_end ?_
      refine then_n (wp_ret ?_)
      cases h
      exact ret1 K rfl (res_tmp K rfl) ⟨_, rfl, rfl, ((M).pick [] (by decide))⟩
    ·
      refine R_ac [4,10,11,12] (by kernel_rfl) rfl K (want_no rfl) rfl rfl (ac_bslice rfl sl52 z5 K (vs := [(0, .int .u8 (IntKind.u8.wrap (48 + (IntKind.u8.wrap (Int.tmod n 2)))))]) (cs := [.int .u8 (IntKind.u8.wrap (48 + (IntKind.u8.wrap (Int.tmod n 2))))]) rfl (by kernel_rfl) rfl rfl M) ?_
      have M0 := M; clear K M; rintro _ a w ⟨gs2, rfl, M⟩ K
      replace M := M.asRow 0 rfl (cI .u8) ([IntKind.u8.wrap (48 + (IntKind.u8.wrap (Int.tmod n 2)))] : List Int) (n := 1) rfl rfl rfl
      clear M0
      refine ⟨fun _ => M.pick [] (by decide), ?_⟩
      refine R_br [4,10] (by kernel_rfl) ⟨?_, ?_, trivial⟩
      ·
        obtain ⟨r3, h_r3, h⟩ := obind h
        refine R_ac [10,11,12] (by kernel_rfl) rfl K (want_no rfl) rfl rfl (ac_call (vs := [I (IntKind.i64.wrap (Int.tdiv n 2)), I (IntKind.i64.wrap (size - 1))]) (cap := []) rfl fok61 K rfl rfl (ih (IntKind.i64.wrap (Int.tdiv n 2)) (IntKind.i64.wrap (size - 1)) _  r3 h_r3)) ?_
        have M0 := M; clear K M; rintro _ a w ⟨rfl, M⟩ K
        replace M := M0.call M; clear M0
        refine ⟨fun _ => M.pick [] (by decide), ?_⟩
        refine R_br [10] (by kernel_rfl) ⟨?_, trivial⟩
        refine R_ac [11,12] (by kernel_rfl) rfl K (want_no rfl) rfl rfl (ac_convBS rfl sl52 ik5 st9 K rfl M ((inR (C := (cI .u8)) 0 rfl rfl) _ M)) ?_
        clear K M; rintro _ a w ⟨rfl, M⟩ K
        refine ⟨fun _ => M.pick [] (by decide), ?_⟩
        obtain ⟨s2, h_s2, h⟩ := obind h
        refine R_rd 11 [12] (by kernel_rfl) rfl K (want_no rfl) rfl rfl (rd_addS rfl K rfl rfl h_s2) ?_; clear K; intro a K
        refine R_rd 12 [] (by kernel_rfl) rfl K (want_no rfl) rfl rfl (rd_assign rfl K rfl) ?_; clear K; intro a K
        refine R_end ?_
        refine then_n (wp_ret ?_)
        cases h
        exact ret1 K rfl (res_tmp K rfl) ⟨_, rfl, rfl, ((M).pick [] (by decide))⟩
      ·
        refine R_ac [4,11,12] (by kernel_rfl) rfl K (want_no rfl) rfl rfl (ac_convBS rfl sl52 ik5 st9 K rfl M ((inR (C := (cI .u8)) 0 rfl rfl) _ M)) ?_
        clear K M; rintro _ a w ⟨rfl, M⟩ K
        refine ⟨fun _ => M.pick [] (by decide), ?_⟩
        refine R_br [4] (by kernel_rfl) ⟨?_, trivial⟩
        obtain ⟨r4, h_r4, h⟩ := obind h
        refine R_ac [11,12] (by kernel_rfl) rfl K (want_no rfl) rfl rfl (ac_call (vs := [I (IntKind.i64.wrap (Int.tdiv n 2)), I (IntKind.i64.wrap (size - 1))]) (cap := []) rfl fok61 K rfl rfl (ih (IntKind.i64.wrap (Int.tdiv n 2)) (IntKind.i64.wrap (size - 1)) _  r4 h_r4)) ?_
        have M0 := M; clear K M; rintro _ a w ⟨rfl, M⟩ K
        replace M := M0.call M; clear M0
        refine ⟨fun _ => M.pick [] (by decide), ?_⟩
        obtain ⟨s3, h_s3, h⟩ := obind h
        refine R_rd 11 [12] (by kernel_rfl) rfl K (want_no rfl) rfl rfl (rd_addS rfl K rfl rfl h_s3) ?_; clear K; intro a K
        refine R_rd 12 [] (by kernel_rfl) rfl K (want_no rfl) rfl rfl (rd_assign rfl K rfl) ?_; clear K; intro a K
        refine R_end ?_
        refine then_n (wp_ret ?_)
        cases h
        exact ret1 K rfl (res_tmp K rfl) ⟨_, rfl, rfl, ((M).pick [] (by decide))⟩
theorem W_darkslideref_Number (N : Nat) (n : Int) (size : Int) (w0 : World)  (r : List UInt8) (h : D_darkslideref_Number N n size = some r) :
    Calls Tryd.prog 61 #[I n, I size] w0 fun e w' => ∃ v, e = .returned v ∧ v = .string (bs r) ∧ Mem w0.heap.size w0 w' [] := W_darkslideref_Number_r N N n size w0 r h
end Go.Proofs.YtpmnfhifmmfglacDoor

namespace Go.Proofs.YtpmnfhifmmfglacDoor
open Go.RowKit
set_option maxRecDepth 100000 in
set_option maxHeartbeats 4000000 in
theorem W_darkslideref_WordsOf (N : Nat) (lens : List Int) (A_lens : Option Addr) (c_lens : Nat) (w0 : World) (R_lens : SL w0 (cI .i64) A_lens lens) (C_lens : lens.length ≤ c_lens) (r : List (List UInt8)) (h : D_darkslideref_WordsOf N lens = some r) :
    Calls Tryd.prog 30 #[.slice A_lens lens.length c_lens] w0 fun e w' => ∃ v, e = .returned v ∧ ∃ A0 c0, v = .slice A0 r.length c0 ∧ Mem w0.heap.size w0 w' [.row 9 1 A0 r.length c0 (cS.all r)] := by
  refine X_enter Tryd.func30 rfl Tryd.ntmps30 rfl ?_
  intro a K
  have M := Mem.start w0
  have K : Kn a 42 [(0, .slice A_lens lens.length c_lens)] := K
  unfold D_darkslideref_WordsOf at h
  refine wp_seq (X_reg ?_)
  refine X_o K M ?_; clear K; intro a K
  refine wpList_nil (then_n (wp_seq (X_reg ?_)))
  refine X_o K M ?_; clear K
  obtain ⟨x2, hx, h⟩ := olet h
  refine Y_r (fun _ K => rdi hx (rd_len rfl un22 K rfl)) M ?_; intro a K
  obtain ⟨l2, h_l2, h⟩ := obind h
  refine X_a K (ac_make (C := cS) (z := ([] : List UInt8)) rfl sl31 rfl z9 rfl K rfl rfl M h_l2) ?_
  clear K M; rintro _ a w ⟨A, c, rfl, M⟩ K
  refine X_o K M ?_; clear K; intro a K
  refine wpList_nil (then_n (wp_seq (X_reg ?_)))
  refine X_o K M ?_; clear K
  refine Y_o M ?_; intro a K
  refine wpList_nil (then_n (wp_seq (wp_seq (X_reg ?_))))
  refine X_o K M ?_; clear K; intro a K
  refine wpList_nil (then_n (wp_block ?_))
  refine X_lp (id := 0) (Rel := fun (⟨l3, next, last, size⟩ : List (List UInt8) × Int × Int × Int) a w => Kn a 42 [(0, .slice A_lens lens.length c_lens), (3, .slice A l3.length c), (4, I next), (5, I last), (6, I size)] ∧ Mem w0.heap.size w0 w [.row 9 1 A l3.length c (cS.all l3)]) h (fun _ _ => rfl) ⟨K.pick [0,3,4,5,6], M.pick [0] (by decide)⟩ ?_ ?_
  · clear K M h
    rintro ⟨l10, next11, last5, size4⟩ a w ⟨K, M⟩ h
    try dsimp only at h
    refine inb_e ?_
    refine then_n (wp_seq (X_reg ?_))
    refine X_o K M ?_; clear K
    refine Y_o M ?_; intro a K
    refine wpList_nil (then_n (wp_ret ?_))
    cases h
    exact ret1 K rfl (res_tmp K rfl) ⟨_, rfl, _, _, rfl, ((M).pick [0] (by decide))⟩
  clear K M h
  rintro kk fuel ⟨l3, next, last, size⟩ a w hk1 ⟨K, M⟩ h
  unfold D_darkslideref_WordsOf_l1 at h
  refine wp_seq (wp_seq (X_reg ?_))
  refine X_o K M ?_; clear K
  refine Y_o M ?_; intro a K
  refine wpList_nil (then_n ?_)
  refine X_cond K rfl (fun hb => ?_) (fun hb => ?_)
  · have h := ctrue hb h
    refine wp_skip (then_n (wp_seq (wp_block (wp_seq (X_reg ?_)))))
    refine X_o K M ?_; clear K; intro a K
    refine wpList_nil (then_n (wp_block ?_))
    refine X_lp (id := 2) (Rel := fun (⟨l6, next5, last3, i4⟩ : List (List UInt8) × Int × Int × Int) a w => Kn a 42 [(0, .slice A_lens lens.length c_lens), (3, .slice A l6.length c), (4, I next5), (5, I last3), (6, I size), (7, I i4)] ∧ Mem w0.heap.size w0 w [.row 9 1 A l6.length c (cS.all l6)]) h (fun _ _ => rfl) ⟨K.pick [0,3,4,5,6,7], M.pick [0] (by decide)⟩ ?_ ?_
    · clear K M h
      rintro ⟨l9, next10, last4, i9⟩ a w ⟨K, M⟩ h
      try dsimp only at h
      refine inb_e ?_
      refine inb_n (then_n (X_reg ?_))
      refine X_o K M ?_; clear K
      refine Y_o M ?_
      obtain ⟨size3, hx, h⟩ := olet h
      refine Y_r (fun _ K => rdi hx (rd_assign rfl K rfl)) M ?_; intro a K
      refine wpList_nil ?_
      exact then_n ⟨(l9, next10, last4, size3), ⟨K.pick [0,3,4,5,6], M.pick [0] (by decide)⟩, h⟩
    clear K M h
    rintro kk fuel ⟨l6, next5, last3, i4⟩ a w hk2 ⟨K, M⟩ h
    unfold D_darkslideref_WordsOf_l2 at h
    refine wp_seq (wp_seq (X_reg ?_))
    refine X_o K M ?_; clear K
    refine Y_o M ?_
    refine Y_r (fun _ K => rd_len rfl un22 K rfl) M ?_
    refine Y_o M ?_; intro a K
    refine wpList_nil (then_n ?_)
    refine X_cond K rfl (fun hb => ?_) (fun hb => ?_)
    · have h := ctrue hb h
      refine wp_skip (then_n (wp_seq (wp_block (wp_seq (wp_seq (X_reg ?_))))))
      refine X_o K M ?_; clear K
      refine Y_o M ?_
      obtain ⟨e5, h_e5, h⟩ := obind h
      refine Y_r (fun _ K => rd_ix rfl sl22 K rfl rfl (inA R_lens) h_e5) M ?_
      refine Y_r (fun _ K => rd_elC rfl sc3 K rfl rfl (inA R_lens) h_e5 rfl) M ?_
      iterate 2 (refine Y_o M ?_)
      intro a K
      refine wpList_nil (then_n ?_)
      refine X_cond K rfl (fun hb => ?_) (fun hb => ?_)
      · have h := ctrue hb h
        refine wp_exit ?_
        refine then_e ?_
        refine inb_e ?_
        refine then_n (X_reg ?_)
        refine X_o K M ?_; clear K
        refine Y_o M ?_
        obtain ⟨i7, hx, h⟩ := olet h
        refine Y_r (fun _ K => rdi hx (rd_assign rfl K rfl)) M ?_; intro a K
        refine wpList_nil ?_
        exact then_n ⟨(l6, next5, last3, i7), ⟨K.pick [0,3,4,5,6,7], M.pick [0] (by decide)⟩, h⟩
      have h := cfalse hb h
      refine wp_skip (then_n (wp_seq (X_reg ?_)))
      refine X_o K M ?_; clear K
      iterate 3 (refine Y_o M ?_)
      intro a K
      obtain ⟨_, h0, h⟩ := obind h
      have h0 := nn_spec h0
      refine X_r K (rd_shl rfl K rfl rfl h0) M ?_; clear K
      obtain ⟨next8, hx, h⟩ := olet h
      refine Y_r (fun _ K => rdi hx (rd_assign rfl K rfl)) M ?_; intro a K
      refine wpList_nil (then_n (wp_seq (X_reg ?_)))
      refine X_o K M ?_; clear K
      refine Y_o M ?_; intro a K
      refine wpList_nil (then_n (wp_seq (X_reg ?_)))
      refine X_o K M ?_; clear K
      iterate 3 (refine Y_o M ?_)
      intro a K
      obtain ⟨r4, h_r4, h⟩ := obind h
      refine X_a K (ac_call (vs := [I next8, I size]) (cap := []) rfl fok61 K rfl rfl (W_darkslideref_Number N next8 size _  r4 h_r4)) ?_
      have M0 := M; clear K M; rintro _ a w ⟨rfl, M⟩ K
      replace M := M0.call M; clear M0
      obtain ⟨e6, h_e6, h⟩ := obind h
      refine X_r K (rd_ix rfl sl31 K rfl rfl (inR (C := cS) 0 rfl rfl) h_e6) M ?_; clear K; intro a K
      obtain ⟨l8, h_l8, h⟩ := obind h
      refine X_b K (ac_rowset (el := r4) rfl sz9 rfl rfl K rfl rfl rfl 0 M rfl h_l8) ?_
      have M0 := M; clear K M; rintro _ a w M K
      have hl := setL_len h_l8
      try rw [hl] at M
      try rw [hl] at K
      clear hl
      clear M0
      refine wpList_nil (then_n (X_reg ?_))
      refine X_o K M ?_; clear K
      refine Y_o M ?_
      obtain ⟨next9, hx, h⟩ := olet h
      refine Y_r (fun _ K => rdi hx (rd_assign rfl K rfl)) M ?_; intro a K
      refine wpList_nil (inb_n (then_n (X_reg ?_)))
      refine X_o K M ?_; clear K
      refine Y_o M ?_
      obtain ⟨i8, hx, h⟩ := olet h
      refine Y_r (fun _ K => rdi hx (rd_assign rfl K rfl)) M ?_; intro a K
      refine wpList_nil ?_
      exact then_n ⟨(l8, next9, size, i8), ⟨K.pick [0,3,4,5,6,7], M.pick [0] (by decide)⟩, h⟩
    have h := cfalse hb h
    refine wp_exit ?_
    refine then_e ?_
    exact then_e (hk2 (l6, next5, last3, i4) _ _ ⟨K.pick [0,3,4,5,6,7], M.pick [0] (by decide)⟩ h)
  have h := cfalse hb h
  refine wp_exit ?_
  refine then_e ?_
  exact then_e (hk1 (l3, next, last, size) _ _ ⟨K.pick [0,3,4,5,6], M.pick [0] (by decide)⟩ h)
end Go.Proofs.YtpmnfhifmmfglacDoor

namespace Go.Proofs.YtpmnfhifmmfglacDoor
open Go.RowKit
set_option maxRecDepth 100000 in
set_option maxHeartbeats 4000000 in
theorem W_darkslideref_ReadCode (N : Nat) (lens : List Int) (A_lens : Option Addr) (c_lens : Nat) (b : List UInt8) (n : Int) (w0 : World) (R_lens : SL w0 (cI .i64) A_lens lens) (C_lens : lens.length ≤ c_lens) (r : List Int × List UInt8 × Int) (h : D_darkslideref_ReadCode N lens b n = some r) :
    Calls Tryd.prog 12 #[.slice A_lens lens.length c_lens, .string (bs b), I n] w0 fun e w' => ∃ v, e = .returned v ∧ ∃ A0 c0, v = .tuple #[.slice A0 r.1.length c0, .string (bs r.2.1), I r.2.2] ∧ Mem w0.heap.size w0 w' [.row 3 1 A0 r.1.length c0 ((cI .i64).all r.1)] := by
  refine X_enter Tryd.func12 rfl Tryd.ntmps12 rfl ?_
  intro a K
  have M := Mem.start w0
  have K : Kn a 53 [(0, .slice A_lens lens.length c_lens), (1, .string (bs b)), (2, I n)] := K
  unfold D_darkslideref_ReadCode at h
  refine wp_seq (X_reg ?_)
  refine X_o K M ?_; clear K
  iterate 2 (refine Y_o M ?_)
  intro a K
  refine wpList_nil (then_n (wp_seq (wp_seq (X_reg ?_))))
  refine X_o K M ?_; clear K; intro a K
  obtain ⟨r2, h_r2, h⟩ := obind h
  refine X_a K (ac_call (vs := [.slice A_lens lens.length c_lens]) (cap := []) rfl fok29 K rfl rfl (W_darkslideref_CheckCode N lens A_lens c_lens _ ((inA R_lens) _ M) C_lens r2 h_r2)) ?_
  have M0 := M; clear K M; rintro _ a w ⟨rfl, M⟩ K
  replace M := M0.call M; clear M0
  refine X_o K M ?_; clear K; intro a K
  refine wpList_nil (then_n (wp_seq (X_reg ?_)))
  refine X_o K M ?_; clear K
  refine Y_o M ?_; intro a K
  refine wpList_nil (then_n ?_)
  refine X_cond K rfl (fun hb => ?_) (fun hb => ?_)
  · have h := ctrue hb h
    refine wp_seq (X_reg ?_)
    refine X_o K M ?_; clear K
    iterate 3 (refine Y_o M ?_)
    intro a K
    refine wpList_nil (then_n (wp_ret (then_r ?_)))
    cases h
    exact ret3 K rfl (res_tmp K rfl) (res_tmp K rfl) (res_tmp K rfl) ⟨_, rfl, _, _, rfl, (((Mem.nilrow 3 1 (cI .i64) M)).pick [0] (by decide))⟩
  have h := cfalse hb h
  refine wp_skip (then_n (wp_seq (wp_seq (X_reg ?_))))
  refine X_o K M ?_; clear K; intro a K
  obtain ⟨r3, h_r3, h⟩ := obind h
  refine X_a K (ac_call (vs := [I n, I 0, I 4096]) (cap := []) rfl fok34 K rfl rfl (W_darkslideref_within N n 0 4096 _  r3 h_r3)) ?_
  have M0 := M; clear K M; rintro _ a w ⟨rfl, M⟩ K
  replace M := M0.call M; clear M0
  refine X_o K M ?_; clear K; intro a K
  refine wpList_nil (then_n ?_)
  refine X_cond K rfl (fun hb => ?_) (fun hb => ?_)
  · have h := ctrue hb h
    refine wp_seq (X_reg ?_)
    refine X_o K M ?_; clear K
    iterate 2 (refine Y_o M ?_)
    intro a K
    refine wpList_nil (then_n (wp_ret (then_r ?_)))
    cases h
    exact ret3 K rfl (res_tmp K rfl) (res_tmp K rfl) (res_tmp K rfl) ⟨_, rfl, _, _, rfl, (((Mem.nilrow 3 1 (cI .i64) M)).pick [0] (by decide))⟩
  have h := cfalse hb h
  refine wp_skip (then_n (wp_seq (wp_seq (X_reg ?_))))
  refine X_o K M ?_; clear K; intro a K
  obtain ⟨r4, h_r4, h⟩ := obind h
  refine X_a K (ac_call (vs := [.string (bs b)]) (cap := []) rfl fok17 K rfl rfl (W_darkslideref_IsRow N b _  r4 h_r4)) ?_
  have M0 := M; clear K M; rintro _ a w ⟨rfl, M⟩ K
  replace M := M0.call M; clear M0
  refine X_o K M ?_; clear K; intro a K
  refine wpList_nil (then_n ?_)
  refine X_cond K rfl (fun hb => ?_) (fun hb => ?_)
  · have h := ctrue hb h
    refine wp_seq (X_reg ?_)
    refine X_o K M ?_; clear K
    iterate 2 (refine Y_o M ?_)
    intro a K
    refine wpList_nil (then_n (wp_ret (then_r ?_)))
    cases h
    exact ret3 K rfl (res_tmp K rfl) (res_tmp K rfl) (res_tmp K rfl) ⟨_, rfl, _, _, rfl, (((Mem.nilrow 3 1 (cI .i64) M)).pick [0] (by decide))⟩
  have h := cfalse hb h
  refine wp_skip (then_n (wp_seq (X_reg ?_)))
  refine X_o K M ?_; clear K; intro a K
  obtain ⟨r5, h_r5, h⟩ := obind h
  refine X_a K (ac_call (vs := [.slice A_lens lens.length c_lens]) (cap := []) rfl fok30 K rfl rfl (W_darkslideref_WordsOf N lens A_lens c_lens _ ((inA R_lens) _ M) C_lens r5 h_r5)) ?_
  have M0 := M; clear K M; rintro _ a w ⟨A, c, rfl, M⟩ K
  replace M := M0.call M; clear M0
  refine X_o K M ?_; clear K; intro a K
  refine wpList_nil (then_n (wp_seq (X_reg ?_)))
  refine X_o K M ?_; clear K; intro a K
  refine wpList_nil (then_n (wp_seq (wp_block ?_)))
  replace M := Mem.nilrow 3 1 (cI .i64) M
  refine X_lp (id := 0) (Rel := fun (⟨l3, b2⟩ : List Int × List UInt8) a w => ∃ (A3 : Option Addr) (c3 : Nat), Kn a 53 [(1, .string (bs b2)), (2, I n), (10, .slice A r5.length c), (11, .slice A3 l3.length c3)] ∧ Mem w0.heap.size w0 w [.row 3 1 A3 l3.length c3 ((cI .i64).all l3), .row 9 1 A r5.length c (cS.all r5)]) h (fun _ _ => rfl) ⟨none, 0, K.pick [1,2,10,11], M.pick [0,1] (by decide)⟩ ?_ ?_
  · clear K M h
    rintro ⟨l6, b3⟩ a w ⟨A6, c6, K, M⟩ h
    try dsimp only at h
    refine inb_e ?_
    refine then_n (wp_seq (X_reg ?_))
    refine X_o K M ?_; clear K
    iterate 4 (refine Y_o M ?_)
    intro a K
    refine wpList_nil (then_n (wp_ret ?_))
    cases h
    exact ret3 K rfl (res_tmp K rfl) (res_tmp K rfl) (res_tmp K rfl) ⟨_, rfl, _, _, rfl, ((M).pick [0] (by decide))⟩
  clear K M h
  rintro kk fuel ⟨l3, b2⟩ a w hk1 ⟨A3, c3, K, M⟩ h
  unfold D_darkslideref_ReadCode_l1 at h
  refine wp_seq (wp_seq (X_reg ?_))
  refine X_o K M ?_; clear K
  refine Y_r (fun _ K => rd_len rfl un22 K rfl) M ?_
  iterate 2 (refine Y_o M ?_)
  intro a K
  refine wpList_nil (then_n ?_)
  refine X_cond K rfl (fun hb => ?_) (fun hb => ?_)
  · have h := ctrue hb h
    refine wp_skip (then_n (wp_block (wp_seq (X_reg ?_))))
    refine X_o K M ?_; clear K
    refine Y_o M ?_; intro a K
    obtain ⟨r8, h_r8, h⟩ := obind h
    refine X_a K (ac_call (vs := [.slice A r5.length c, .string (bs b2)]) (cap := []) rfl fok35 K rfl rfl (W_darkslideref_front N r5 A c b2 _ ((inR (C := cS) 1 rfl rfl) _ M) (M.cap 1 rfl) r8 h_r8)) ?_
    have M0 := M; clear K M; rintro _ a w ⟨rfl, M⟩ K
    replace M := M0.call M; clear M0
    refine X_o K M ?_; clear K
    iterate 4 (refine Y_o M ?_)
    intro a K
    refine wpList_nil (then_n (wp_seq (wp_seq (X_reg ?_))))
    refine X_o K M ?_; clear K
    refine Y_o M ?_; intro a K
    refine wpList_nil (then_n ?_)
    refine X_cond K rfl (fun hb => ?_) (fun hb => ?_)
    · have h := ctrue hb h
      refine wp_seq (X_reg ?_)
      refine X_o K M ?_; clear K
      iterate 3 (refine Y_o M ?_)
      intro a K
      refine wpList_nil (then_n (wp_ret (then_r (inb_r (then_r (inb_r (then_r ?_)))))))
      cases h
      exact ret3 K rfl (res_tmp K rfl) (res_tmp K rfl) (res_tmp K rfl) ⟨_, rfl, _, _, rfl, (((Mem.nilrow 3 1 (cI .i64) M)).pick [0] (by decide))⟩
    have h := cfalse hb h
    refine wp_skip (then_n (wp_seq (X_reg ?_)))
    refine X_o K M ?_; clear K
    refine Y_o M ?_; intro a K
    refine X_a K (ac_bslice rfl sl22 z3 K (vs := [(0, I r8.1)]) (cs := [I r8.1]) rfl (by kernel_rfl) rfl rfl M) ?_
    have M0 := M; clear K M; rintro _ a w ⟨gs3, rfl, M⟩ K
    replace M := M.asRow 0 rfl (cI .i64) ([r8.1] : List Int) (n := 1) rfl rfl rfl
    clear M0
    obtain ⟨l5, h_l5, h⟩ := obind h
    refine X_a K (ac_app (C := (cI .i64)) (xs := l3) (ys := ([r8.1] : List Int)) rfl sl22 rfl z3 rfl rfl K rfl rfl 1 M rfl ((inR (C := (cI .i64)) 0 rfl rfl) _ M) h_l5) ?_
    clear K M; rintro _ a w ⟨A5, c5, rfl, M⟩ K
    refine X_o K M ?_; clear K; intro a K
    refine wpList_nil (then_n (X_reg ?_))
    refine X_o K M ?_; clear K
    iterate 2 (refine Y_o M ?_)
    obtain ⟨e3, h_e3, h⟩ := obind h
    refine Y_r (fun _ K => rd_ix rfl sl31 K rfl rfl (inR (C := cS) 2 rfl rfl) h_e3) M ?_
    refine Y_r (fun _ K => rd_elC rfl sc9 K rfl rfl (inR (C := cS) 2 rfl rfl) h_e3 rfl) M ?_
    refine Y_r (fun _ K => rd_lenT rfl st9 K rfl) M ?_
    obtain ⟨s3, h_s3, h⟩ := obind h
    refine Y_r (fun _ K => rd_sliceS (k := .i64) (k' := .i64) rfl st9 K rfl rfl rfl h_s3) M ?_
    refine Y_o M ?_; intro a K
    refine wpList_nil (inb_n ?_)
    exact then_n ⟨(l5, s3), ⟨A5, c5, K.pick [1,2,10,11], M.pick [1,2] (by decide)⟩, h⟩
  have h := cfalse hb h
  refine wp_exit ?_
  refine then_e ?_
  exact then_e (hk1 (l3, b2) _ _ ⟨A3, c3, K.pick [1,2,10,11], M.pick [0,1] (by decide)⟩ h)
end Go.Proofs.YtpmnfhifmmfglacDoor

namespace Go.Proofs.YtpmnfhifmmfglacDoor
open Go.RowKit
set_option maxRecDepth 100000 in
set_option maxHeartbeats 4000000 in
theorem W_darkslideref_wordless (N : Nat) (w2 : List (List UInt8)) (A_w2 : Option Addr) (c_w2 : Nat) (l2 : List Int) (A_l2 : Option Addr) (c_l2 : Nat) (w0 : World) (R_w2 : SL w0 cS A_w2 w2) (C_w2 : w2.length ≤ c_w2) (R_l2 : SL w0 (cI .i64) A_l2 l2) (C_l2 : l2.length ≤ c_l2) (r : Bool) (h : D_darkslideref_wordless N w2 l2 = some r) :
    Calls Tryd.prog 31 #[.slice A_w2 w2.length c_w2, .slice A_l2 l2.length c_l2] w0 fun e w' => ∃ v, e = .returned v ∧ v = .bool r ∧ Mem w0.heap.size w0 w' [] := by
  refine X_enter Tryd.func31 rfl Tryd.ntmps31 rfl ?_
  intro a K
  have M := Mem.start w0
  have K : Kn a 31 [(0, .slice A_w2 w2.length c_w2), (1, .slice A_l2 l2.length c_l2)] := K
  unfold D_darkslideref_wordless at h
  refine wp_seq (X_reg ?_)
  refine X_o K M ?_; clear K; intro a K
  refine wpList_nil (then_n (wp_seq (wp_seq (X_reg ?_))))
  refine X_o K M ?_; clear K; intro a K
  refine wpList_nil (then_n (wp_block ?_))
  refine X_lp (id := 0) (Rel := fun (i : Int) a w => Kn a 31 [(0, .slice A_w2 w2.length c_w2), (1, .slice A_l2 l2.length c_l2), (5, I i)] ∧ Mem w0.heap.size w0 w []) h (fun _ _ => rfl) ⟨K.pick [0,1,5], M.pick [] (by decide)⟩ ?_ ?_
  · clear K M h
    rintro i4 a w ⟨K, M⟩ h
    try dsimp only at h
    refine inb_e ?_
    refine then_n (wp_seq (X_reg ?_))
    refine X_o K M ?_; clear K; intro a K
    refine wpList_nil (then_n (wp_ret ?_))
    cases h
    exact ret1 K rfl (res_tmp K rfl) ⟨_, rfl, rfl, ((M).pick [] (by decide))⟩
  clear K M h
  rintro kk fuel i a w hk1 ⟨K, M⟩ h
  unfold D_darkslideref_wordless_l1 at h
  refine wp_seq (wp_seq (X_reg ?_))
  refine X_o K M ?_; clear K
  refine Y_o M ?_
  refine Y_r (fun _ K => rd_len rfl un22 K rfl) M ?_
  refine Y_o M ?_; intro a K
  refine wpList_nil (then_n ?_)
  refine X_cond K rfl (fun hb => ?_) (fun hb => ?_)
  · have h := ctrue hb h
    refine wp_skip (then_n (wp_seq (wp_block (wp_seq (X_reg ?_)))))
    refine X_o K M ?_; clear K
    refine Y_o M ?_
    obtain ⟨e4, h_e4, h⟩ := obind h
    refine Y_r (fun _ K => rd_ix rfl sl22 K rfl rfl (inA R_l2) h_e4) M ?_
    refine Y_r (fun _ K => rd_elC rfl sc3 K rfl rfl (inA R_l2) h_e4 rfl) M ?_
    refine Y_o M ?_
    refine Y_r (fun _ K => rd_len rfl un31 K rfl) M ?_
    refine Y_o M ?_; intro a K
    obtain ⟨r3, h_r3, h⟩ := obind h
    refine X_a K (ac_call (vs := [I e4, I 0, I (IntKind.i64.wrap ((w2.length : Int) - 1))]) (cap := []) rfl fok34 K rfl rfl (W_darkslideref_within N e4 0 (IntKind.i64.wrap ((w2.length : Int) - 1)) _  r3 h_r3)) ?_
    have M0 := M; clear K M; rintro _ a w ⟨rfl, M⟩ K
    replace M := M0.call M; clear M0
    refine X_o K M ?_; clear K
    refine Y_o M ?_; intro a K
    rcases Bool.eq_false_or_eq_true (!(r3)) with hb | hb
    · have h := ctrue hb h
      have K := K.reb (s := 21) rfl hb
      refine X_o K M ?_; clear K
      iterate 8 (refine Y_o M ?_)
      intro a K
      refine wpList_nil (then_n ?_)
      refine X_condT K rfl ?_
      refine wp_seq (X_reg ?_)
      refine X_o K M ?_; clear K; intro a K
      refine wpList_nil (then_n (wp_ret (inb_r (then_r (then_r (inb_r (then_r ?_)))))))
      cases h
      exact ret1 K rfl (res_tmp K rfl) ⟨_, rfl, rfl, ((M).pick [] (by decide))⟩
    have h := cfalse hb h
    have K := K.reb (s := 21) rfl hb
    refine X_o K M ?_; clear K
    iterate 2 (refine Y_o M ?_)
    obtain ⟨e5, h_e5, h⟩ := obind h
    refine Y_r (fun _ K => rd_ix rfl sl22 K rfl rfl (inA R_l2) h_e5) M ?_
    refine Y_r (fun _ K => rd_elC rfl sc3 K rfl rfl (inA R_l2) h_e5 rfl) M ?_
    obtain ⟨e6, h_e6, h⟩ := obind h
    refine Y_r (fun _ K => rd_ix rfl sl31 K rfl rfl (inA R_w2) h_e6) M ?_
    refine Y_r (fun _ K => rd_elC rfl sc9 K rfl rfl (inA R_w2) h_e6 rfl) M ?_
    refine Y_r (fun _ K => rd_eqlS rfl K rfl rfl) M ?_
    refine Y_o M ?_; intro a K
    refine wpList_nil (then_n ?_)
    refine X_cond K rfl (fun hb => ?_) (fun hb => ?_)
    · have h := ctrue hb h
      refine wp_seq (X_reg ?_)
      refine X_o K M ?_; clear K; intro a K
      refine wpList_nil (then_n (wp_ret (inb_r (then_r (then_r (inb_r (then_r ?_)))))))
      cases h
      exact ret1 K rfl (res_tmp K rfl) ⟨_, rfl, rfl, ((M).pick [] (by decide))⟩
    have h := cfalse hb h
    refine wp_skip (inb_n (then_n (X_reg ?_)))
    refine X_o K M ?_; clear K
    refine Y_o M ?_
    obtain ⟨i3, hx, h⟩ := olet h
    refine Y_r (fun _ K => rdi hx (rd_assign rfl K rfl)) M ?_; intro a K
    refine wpList_nil ?_
    exact then_n ⟨i3, ⟨K.pick [0,1,5], M.pick [] (by decide)⟩, h⟩
  have h := cfalse hb h
  refine wp_exit ?_
  refine then_e ?_
  exact then_e (hk1 i _ _ ⟨K.pick [0,1,5], M.pick [] (by decide)⟩ h)
end Go.Proofs.YtpmnfhifmmfglacDoor

namespace Go.Proofs.YtpmnfhifmmfglacDoor
open Go.RowKit
set_option maxRecDepth 100000 in
set_option maxHeartbeats 4000000 in
theorem W_darkslideref_WriteCode (N : Nat) (lens : List Int) (A_lens : Option Addr) (c_lens : Nat) (l2 : List Int) (A_l2 : Option Addr) (c_l2 : Nat) (w0 : World) (R_lens : SL w0 (cI .i64) A_lens lens) (C_lens : lens.length ≤ c_lens) (R_l2 : SL w0 (cI .i64) A_l2 l2) (C_l2 : l2.length ≤ c_l2) (r : List UInt8 × Int) (h : D_darkslideref_WriteCode N lens l2 = some r) :
    Calls Tryd.prog 10 #[.slice A_lens lens.length c_lens, .slice A_l2 l2.length c_l2] w0 fun e w' => ∃ v, e = .returned v ∧ v = .tuple #[.string (bs r.1), I r.2] ∧ Mem w0.heap.size w0 w' [] := by
  refine X_enter Tryd.func10 rfl Tryd.ntmps10 rfl ?_
  intro a K
  have M := Mem.start w0
  have K : Kn a 40 [(0, .slice A_lens lens.length c_lens), (1, .slice A_l2 l2.length c_l2)] := K
  unfold D_darkslideref_WriteCode at h
  refine wp_seq (X_reg ?_)
  refine X_o K M ?_; clear K
  refine Y_o M ?_; intro a K
  refine wpList_nil (then_n (wp_seq (wp_seq (X_reg ?_))))
  refine X_o K M ?_; clear K; intro a K
  obtain ⟨r2, h_r2, h⟩ := obind h
  refine X_a K (ac_call (vs := [.slice A_lens lens.length c_lens]) (cap := []) rfl fok29 K rfl rfl (W_darkslideref_CheckCode N lens A_lens c_lens _ ((inA R_lens) _ M) C_lens r2 h_r2)) ?_
  have M0 := M; clear K M; rintro _ a w ⟨rfl, M⟩ K
  replace M := M0.call M; clear M0
  refine X_o K M ?_; clear K; intro a K
  refine wpList_nil (then_n (wp_seq (X_reg ?_)))
  refine X_o K M ?_; clear K
  refine Y_o M ?_; intro a K
  refine wpList_nil (then_n ?_)
  refine X_cond K rfl (fun hb => ?_) (fun hb => ?_)
  · have h := ctrue hb h
    refine wp_seq (X_reg ?_)
    refine X_o K M ?_; clear K
    iterate 2 (refine Y_o M ?_)
    intro a K
    refine wpList_nil (then_n (wp_ret (then_r ?_)))
    cases h
    exact ret2 K rfl (res_tmp K rfl) (res_tmp K rfl) ⟨_, rfl, rfl, ((M).pick [] (by decide))⟩
  have h := cfalse hb h
  refine wp_skip (then_n (wp_seq (wp_seq (X_reg ?_))))
  refine X_o K M ?_; clear K
  refine Y_r (fun _ K => rd_len rfl un22 K rfl) M ?_
  refine Y_o M ?_; intro a K
  refine wpList_nil (then_n ?_)
  refine X_cond K rfl (fun hb => ?_) (fun hb => ?_)
  · have h := ctrue hb h
    refine wp_seq (X_reg ?_)
    refine X_o K M ?_; clear K
    refine Y_o M ?_; intro a K
    refine wpList_nil (then_n (wp_ret (then_r ?_)))
    cases h
    exact ret2 K rfl (res_tmp K rfl) (res_tmp K rfl) ⟨_, rfl, rfl, ((M).pick [] (by decide))⟩
  have h := cfalse hb h
  refine wp_skip (then_n (wp_seq (X_reg ?_)))
  refine X_o K M ?_; clear K; intro a K
  obtain ⟨r3, h_r3, h⟩ := obind h
  refine X_a K (ac_call (vs := [.slice A_lens lens.length c_lens]) (cap := []) rfl fok30 K rfl rfl (W_darkslideref_WordsOf N lens A_lens c_lens _ ((inA R_lens) _ M) C_lens r3 h_r3)) ?_
  have M0 := M; clear K M; rintro _ a w ⟨A, c, rfl, M⟩ K
  replace M := M0.call M; clear M0
  refine X_o K M ?_; clear K; intro a K
  refine wpList_nil (then_n (wp_seq (wp_seq (X_reg ?_))))
  refine X_o K M ?_; clear K
  refine Y_o M ?_; intro a K
  obtain ⟨r4, h_r4, h⟩ := obind h
  refine X_a K (ac_call (vs := [.slice A r3.length c, .slice A_l2 l2.length c_l2]) (cap := []) rfl fok31 K rfl rfl (W_darkslideref_wordless N r3 A c l2 A_l2 c_l2 _ ((inR (C := cS) 0 rfl rfl) _ M) (M.cap 0 rfl) ((inA R_l2) _ M) C_l2 r4 h_r4)) ?_
  have M0 := M; clear K M; rintro _ a w ⟨rfl, M⟩ K
  replace M := M0.call M; clear M0
  refine wpList_nil (then_n ?_)
  refine X_cond K rfl (fun hb => ?_) (fun hb => ?_)
  · have h := ctrue hb h
    refine wp_seq (X_reg ?_)
    refine X_o K M ?_; clear K
    refine Y_o M ?_; intro a K
    refine wpList_nil (then_n (wp_ret (then_r ?_)))
    cases h
    exact ret2 K rfl (res_tmp K rfl) (res_tmp K rfl) ⟨_, rfl, rfl, ((M).pick [] (by decide))⟩
  have h := cfalse hb h
  refine wp_skip (then_n (wp_seq (X_reg ?_)))
  refine X_o K M ?_; clear K; intro a K
  refine wpList_nil (then_n (wp_seq (wp_seq (X_reg ?_))))
  refine X_o K M ?_; clear K; intro a K
  refine wpList_nil (then_n (wp_block ?_))
  replace M := Mem.nilrow 5 1 (cI .u8) M
  refine X_lp (id := 0) (Rel := fun (⟨l4, i2⟩ : List Int × Int) a w => ∃ (A3 : Option Addr) (c3 : Nat), Kn a 40 [(1, .slice A_l2 l2.length c_l2), (7, .slice A r3.length c), (8, .slice A3 l4.length c3), (9, I i2)] ∧ Mem w0.heap.size w0 w [.row 5 1 A3 l4.length c3 ((cI .u8).all l4), .row 9 1 A r3.length c (cS.all r3)]) h (fun _ _ => rfl) ⟨none, 0, K.pick [1,7,8,9], M.pick [0,1] (by decide)⟩ ?_ ?_
  · clear K M h
    rintro ⟨l7, i5⟩ a w ⟨A6, c6, K, M⟩ h
    try dsimp only at h
    refine inb_e ?_
    refine then_n (wp_seq (X_reg ?_))
    refine X_o K M ?_; clear K
    refine Y_r (fun _ K => rd_convBS rfl sl52 ik5 st9 K rfl (inR (C := (cI .u8)) 0 rfl rfl)) M ?_
    iterate 2 (refine Y_o M ?_)
    intro a K
    refine wpList_nil (then_n (wp_ret ?_))
    cases h
    exact ret2 K rfl (res_tmp K rfl) (res_tmp K rfl) ⟨_, rfl, rfl, ((M).pick [] (by decide))⟩
  clear K M h
  rintro kk fuel ⟨l4, i2⟩ a w hk1 ⟨A3, c3, K, M⟩ h
  unfold D_darkslideref_WriteCode_l1 at h
  refine wp_seq (wp_seq (X_reg ?_))
  refine X_o K M ?_; clear K
  refine Y_o M ?_
  refine Y_r (fun _ K => rd_len rfl un22 K rfl) M ?_
  refine Y_o M ?_; intro a K
  refine wpList_nil (then_n ?_)
  refine X_cond K rfl (fun hb => ?_) (fun hb => ?_)
  · have h := ctrue hb h
    refine wp_skip (then_n (wp_seq (wp_block (X_reg ?_))))
    refine X_o K M ?_; clear K
    iterate 3 (refine Y_o M ?_)
    obtain ⟨e5, h_e5, h⟩ := obind h
    refine Y_r (fun _ K => rd_ix rfl sl22 K rfl rfl (inA R_l2) h_e5) M ?_
    refine Y_r (fun _ K => rd_elC rfl sc3 K rfl rfl (inA R_l2) h_e5 rfl) M ?_
    obtain ⟨e6, h_e6, h⟩ := obind h
    refine Y_r (fun _ K => rd_ix rfl sl31 K rfl rfl (inR (C := cS) 1 rfl rfl) h_e6) M ?_
    refine Y_r (fun _ K => rd_elC rfl sc9 K rfl rfl (inR (C := cS) 1 rfl rfl) h_e6 rfl) M ?_; intro a K
    obtain ⟨l6, h_l6, h⟩ := obind h
    refine X_a K (ac_appS rfl sl52 st9 zu5 K rfl rfl 0 M rfl h_l6) ?_
    clear K M; rintro _ a w ⟨A5, c5, rfl, M⟩ K
    refine X_o K M ?_; clear K; intro a K
    refine wpList_nil (inb_n (then_n (X_reg ?_)))
    refine X_o K M ?_; clear K
    refine Y_o M ?_
    obtain ⟨i4, hx, h⟩ := olet h
    refine Y_r (fun _ K => rdi hx (rd_assign rfl K rfl)) M ?_; intro a K
    refine wpList_nil ?_
    exact then_n ⟨(l6, i4), ⟨A5, c5, K.pick [1,7,8,9], M.pick [0,1] (by decide)⟩, h⟩
  have h := cfalse hb h
  refine wp_exit ?_
  refine then_e ?_
  exact then_e (hk1 (l4, i2) _ _ ⟨A3, c3, K.pick [1,7,8,9], M.pick [0,1] (by decide)⟩ h)
end Go.Proofs.YtpmnfhifmmfglacDoor

namespace Go.Proofs.YtpmnfhifmmfglacDoor
open Go.RowKit
set_option maxRecDepth 100000 in
set_option maxHeartbeats 4000000 in
theorem W_darkslidelaw_CodeWrites (N : Nat) (d : List Int) (A_d : Option Addr) (c_d : Nat) (o : List Int) (A_o : Option Addr) (c_o : Nat) (p2 : List UInt8) (p3 : Int) (w0 : World) (R_d : SL w0 (cI .i64) A_d d) (C_d : d.length ≤ c_d) (R_o : SL w0 (cI .i64) A_o o) (C_o : o.length ≤ c_o) (r : Bool) (h : D_darkslidelaw_CodeWrites N d o p2 p3 = some r) :
    Calls Tryd.prog 3 #[.slice A_d d.length c_d, .slice A_o o.length c_o, .string (bs p2), I p3] w0 fun e w' => ∃ v, e = .returned v ∧ v = .bool r ∧ Mem w0.heap.size w0 w' [] := by
  refine X_enter Tryd.func3 rfl Tryd.ntmps3 rfl ?_
  intro a K
  have M := Mem.start w0
  have K : Kn a 73 [(0, .slice A_d d.length c_d), (1, .slice A_o o.length c_o), (2, .string (bs p2)), (3, I p3)] := K
  unfold D_darkslidelaw_CodeWrites at h
  refine wp_seq (X_reg ?_)
  refine X_o K M ?_; clear K; intro a K
  refine wpList_nil (then_n (wp_seq (X_reg ?_)))
  refine X_o K M ?_; clear K
  refine Y_o M ?_; intro a K
  obtain ⟨r2, h_r2, h⟩ := obind h
  refine X_a K (ac_call (vs := [.slice A_d d.length c_d, .slice A_o o.length c_o]) (cap := []) rfl fok9 K rfl rfl (W_code_Write N d A_d c_d o A_o c_o _ ((inA R_d) _ M) C_d ((inA R_o) _ M) C_o r2 h_r2)) ?_
  have M0 := M; clear K M; rintro _ a w ⟨rfl, M⟩ K
  replace M := M0.call M; clear M0
  refine X_o K M ?_; clear K
  iterate 4 (refine Y_o M ?_)
  intro a K
  refine wpList_nil (then_n (wp_seq (X_reg ?_)))
  refine X_o K M ?_; clear K
  refine Y_o M ?_; intro a K
  obtain ⟨r3, h_r3, h⟩ := obind h
  refine X_a K (ac_call (vs := [.slice A_d d.length c_d, .slice A_o o.length c_o]) (cap := []) rfl fok10 K rfl rfl (W_darkslideref_WriteCode N d A_d c_d o A_o c_o _ ((inA R_d) _ M) C_d ((inA R_o) _ M) C_o r3 h_r3)) ?_
  have M0 := M; clear K M; rintro _ a w ⟨rfl, M⟩ K
  replace M := M0.call M; clear M0
  refine X_o K M ?_; clear K
  iterate 4 (refine Y_o M ?_)
  intro a K
  refine wpList_nil (then_n (wp_seq (X_reg ?_)))
  refine X_o K M ?_; clear K
  iterate 2 (refine Y_o M ?_)
  intro a K
  obtain ⟨r4, h_r4, h⟩ := obind h
  refine X_a K (ac_call (vs := [.slice A_d d.length c_d, .string (bs p2), I p3]) (cap := []) rfl fok11 K rfl rfl (W_code_Read N d A_d c_d p2 p3 _ ((inA R_d) _ M) C_d r4 h_r4)) ?_
  have M0 := M; clear K M; rintro _ a w ⟨A, c, rfl, M⟩ K
  replace M := M0.call M; clear M0
  refine X_o K M ?_; clear K
  iterate 6 (refine Y_o M ?_)
  intro a K
  refine wpList_nil (then_n (wp_seq (X_reg ?_)))
  refine X_o K M ?_; clear K
  iterate 2 (refine Y_o M ?_)
  intro a K
  obtain ⟨r5, h_r5, h⟩ := obind h
  refine X_a K (ac_call (vs := [.slice A_d d.length c_d, .string (bs p2), I p3]) (cap := []) rfl fok12 K rfl rfl (W_darkslideref_ReadCode N d A_d c_d p2 p3 _ ((inA R_d) _ M) C_d r5 h_r5)) ?_
  have M0 := M; clear K M; rintro _ a w ⟨A2, c2, rfl, M⟩ K
  replace M := M0.call M; clear M0
  refine X_o K M ?_; clear K
  iterate 6 (refine Y_o M ?_)
  intro a K
  refine wpList_nil (then_n (wp_seq (X_reg ?_)))
  obtain ⟨r6, h_r6, h⟩ := obind h
  refine X_a K (ac_call (vs := []) (cap := []) rfl fok13 K rfl rfl (W_darkslidelaw_codeBegun N  _  r6 h_r6)) ?_
  have M0 := M; clear K M; rintro _ a w ⟨rfl, M⟩ K
  replace M := M0.call M; clear M0
  refine X_o K M ?_; clear K; intro a K
  rcases Bool.eq_false_or_eq_true (r6) with hb | hb
  · have h := ctrue hb h
    have K := K.reb (s := 48) rfl hb
    refine X_o K M ?_; clear K
    refine Y_o M ?_
    refine Y_r (fun _ K => rd_eqlS rfl K rfl rfl) M ?_
    iterate 2 (refine Y_o M ?_)
    intro a K
    rcases Bool.eq_false_or_eq_true (decide (r2.1 = r3.1)) with hb | hb
    · have h := ctrue hb h
      have K := K.reb (s := 53) rfl hb
      refine X_o K M ?_; clear K
      iterate 4 (refine Y_o M ?_)
      intro a K
      rcases Bool.eq_false_or_eq_true (decide (r2.2 = r3.2)) with hb | hb
      · have h := ctrue hb h
        have K := K.reb (s := 58) rfl hb
        refine X_o K M ?_; clear K
        refine Y_o M ?_; intro a K
        obtain ⟨r7, h_r7, h⟩ := obind h
        refine X_a K (ac_call (vs := [.slice A r4.1.length c, .slice A2 r5.1.length c2]) (cap := []) rfl fok14 K rfl rfl (W_darkslideref_SameInts N r4.1 A c r5.1 A2 c2 _ ((inR (C := (cI .i64)) 1 rfl rfl) _ M) (M.cap 1 rfl) ((inR (C := (cI .i64)) 0 rfl rfl) _ M) (M.cap 0 rfl) r7 h_r7)) ?_
        have M0 := M; clear K M; rintro _ a w ⟨rfl, M⟩ K
        replace M := M0.call M; clear M0
        refine X_o K M ?_; clear K
        refine Y_o M ?_; intro a K
        rcases Bool.eq_false_or_eq_true (r7) with hb | hb
        · have h := ctrue hb h
          have K := K.reb (s := 63) rfl hb
          refine X_o K M ?_; clear K
          refine Y_o M ?_
          refine Y_r (fun _ K => rd_eqlS rfl K rfl rfl) M ?_
          iterate 2 (refine Y_o M ?_)
          intro a K
          rcases Bool.eq_false_or_eq_true (decide (r4.2.1 = r5.2.1)) with hb | hb
          · have h := ctrue hb h
            have K := K.reb (s := 68) rfl hb
            refine X_o K M ?_; clear K
            iterate 4 (refine Y_o M ?_)
            intro a K
            refine wpList_nil (then_n (wp_ret ?_))
            cases h
            exact ret1 K rfl (res_tmp K rfl) ⟨_, rfl, rfl, ((M).pick [] (by decide))⟩
          have h := cfalse hb h
          have K := K.reb (s := 68) rfl hb
          refine X_o K M ?_; clear K
          iterate 4 (refine Y_o M ?_)
          intro a K
          refine wpList_nil (then_n (wp_ret ?_))
          cases h
          exact ret1 K rfl (res_tmp K rfl) ⟨_, rfl, rfl, ((M).pick [] (by decide))⟩
        have h := cfalse hb h
        have K := K.reb (s := 63) rfl hb
        refine X_o K M ?_; clear K
        iterate 9 (refine Y_o M ?_)
        intro a K
        refine wpList_nil (then_n (wp_ret ?_))
        cases h
        exact ret1 K rfl (res_tmp K rfl) ⟨_, rfl, rfl, ((M).pick [] (by decide))⟩
      have h := cfalse hb h
      have K := K.reb (s := 58) rfl hb
      refine X_o K M ?_; clear K
      iterate 14 (refine Y_o M ?_)
      intro a K
      refine wpList_nil (then_n (wp_ret ?_))
      cases h
      exact ret1 K rfl (res_tmp K rfl) ⟨_, rfl, rfl, ((M).pick [] (by decide))⟩
    have h := cfalse hb h
    have K := K.reb (s := 53) rfl hb
    refine X_o K M ?_; clear K
    iterate 19 (refine Y_o M ?_)
    intro a K
    refine wpList_nil (then_n (wp_ret ?_))
    cases h
    exact ret1 K rfl (res_tmp K rfl) ⟨_, rfl, rfl, ((M).pick [] (by decide))⟩
  have h := cfalse hb h
  have K := K.reb (s := 48) rfl hb
  refine X_o K M ?_; clear K
  iterate 24 (refine Y_o M ?_)
  intro a K
  refine wpList_nil (then_n (wp_ret ?_))
  cases h
  exact ret1 K rfl (res_tmp K rfl) ⟨_, rfl, rfl, ((M).pick [] (by decide))⟩
end Go.Proofs.YtpmnfhifmmfglacDoor
